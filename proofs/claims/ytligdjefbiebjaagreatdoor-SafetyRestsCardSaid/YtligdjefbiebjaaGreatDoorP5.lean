/- Parts of the proof: an evaluator of the model, what it is sound for, and contracts of functions. No condition. -/
import Derived.Test.YtligdjefbiebjaaGreatDoorP2
import Derived.Test.YtligdjefbiebjaaGreatDoorP4
import Derived.Scope
import Derived.Lib.ItoaNum
import Derived.Lib.Join
import Derived.Sort.OwnSorted
import Derived.Test.YtligdjefbiebjaaGreatDoorChecked
set_option linter.all false
namespace Go
variable {P : Program}
theorem stepR_scopeFs {b : Frame} {a : Act} {k : List Item} {cs : List Frame} {w : World} {c : Code} : step P (lone (b.atR a (.code (.scope c) :: k)) cs w) = .next (lone (b.atR a (.code c :: .inScope c :: k)) cs w) :=
  step_lone_go (by simp [stepG, stepG.exec, Frame.atR])
theorem stepR_inScopeFs {b : Frame} {a : Act} {k : List Item} {cs : List Frame} {w : World} {c : Code} : step P (lone (b.atR a (.inScope c :: k)) cs w) = .next (lone (b.atR a k) cs w) :=
  step_lone_go (by simp [stepG, stepG.exec, Frame.atR])
theorem wpIn_scopeFs {F : Fence} {n : Nat} {Q : Exit → Act → World → Prop} {a : Act} {w : World} {c : Code} (h : c.wpIn F n P (Exit.noGoto Q) a w) : (Code.scope c).wpIn F n P Q a w := by
  intro b k cs hro hb hr
  have h0 : (lone (b.atR a (.code (.scope c) :: k)) cs w).fenced P F := fenced_calm hb hr rfl
  obtain ⟨e, a₁, w₁, hq, harr⟩ := h b (.inScope c :: k) cs hro hb hr
  cases e with
  | normal => exact ⟨.normal, a₁, w₁, hq, .head h0 stepR_scopeFs (StepsIn.trans harr (.one (fenced_calm hb hr rfl) stepR_inScopeFs))⟩
  | exit id =>
    have hx : exitTo id (.inScope c :: k) = exitTo id k := by simp [exitTo]
    exact ⟨.exit id, a₁, w₁, hq, fun k' hk => .head h0 stepR_scopeFs (harr.1 k' (by rw [hx]; exact hk)),
      fun hr' hk => let ⟨k₁, h1, h2⟩ := harr.2 hr' (by rw [hx]; exact hk); ⟨k₁, h1, .head h0 stepR_scopeFs h2⟩⟩
  | goto l => exact hq.elim
  | ret => exact ⟨_, a₁, w₁, hq, .of_steps (.one h0 stepR_scopeFs) harr⟩
  | panic ch => exact ⟨_, a₁, w₁, hq, .of_steps (.one h0 stepR_scopeFs) harr⟩
  | outgrown => exact ⟨_, a₁, w₁, hq, .of_steps (.one h0 stepR_scopeFs) harr⟩

end Go
namespace Go.Fs
open Go.RowKit (Below)
variable {P : Program} {ρ ρ' : Ren} {S S' : Nat → Prop} {B : Nat} {w0 w w' w1 w2 : World} {h h' h1 h2 : Heap}

theorem call_sound (hP : ProgOk P) {orc : FuncId → List Value → Heap → Option (Value × Heap)} (horc : CallSound P B w0 orc) {m : Nat} {rec : Rec} (hrec : SoundR P B w0 m rec) : CallSnd P B w0 (callOf P orc rec) := by
  intro f args h v h' hf
  unfold callOf at hf
  split at hf
  · rename_i r hr
    simp only [Option.some.injEq] at hf
    subst hf
    exact .inl (horc _ _ _ _ _ hr)
  split at hf
  · rename_i r hr
    simp only [Option.some.injEq] at hf
    subst hf
    refine .inr fun ρ S w args' hr2 ha => ?_
    unfold fsExt at hr
    split at hr
    · rename_i fn hfn
      obtain ⟨hb, hr3⟩ := bif_some hr
      obtain ⟨hb1, hb2⟩ := band hb
      split at hr3
      · rename_i e h1 h2
        obtain ⟨haf, hr4⟩ := bif_some hr3
        obtain ⟨hp, rfl⟩ := map_pair hr4
        obtain ⟨h3, h4⟩ := purely_ok hp w
        have he : args' = args := ha.eq_of_af haf
        subst he
        refine ⟨w, v, ?_, ρ, Moved.same hr2, .of_af h4⟩
        unfold callFunc
        have hb2' : (fn.name == "runtime.NumGoroutine") = false := by simpa using hb2
        simp only [Sem.run_bind, run_program, Result.andThen_ok, hfn, hb1, hb2', Bool.false_eq_true, if_false, if_true, h1, h2]
        have hm : (mark (Mark.extern f)).run P w = .ok () w := rfl
        rw [hm]
        simp only [Result.andThen_ok, h3, Sem.run_pure]
      cases hr3
    cases hr
  exact .inl (enter_sound hP hrec _ _ _ _ _ hf)

theorem Post.same {fr : Fr} {a : Act} (hr : HR P ρ S B w0 h w) (ht : TrR ρ S fr.t fr.n a.tmps) (hm : MarksR ρ S fr.marks a.defers) : Post P B w0 ρ ρ S h w fr h w a :=
  ⟨Moved.same hr, ht.mono fun _ hb => ⟨.inl hb, rfl⟩, hm.mono fun _ hb => ⟨.inl hb, rfl⟩⟩

theorem step_sound (hP : ProgOk P) {orc : FuncId → List Value → Heap → Option (Value × Heap)} (horc : CallSound P B w0 orc) {m : Nat} {rec : Rec} (hrec : SoundR P B w0 m rec) : SoundR P B w0 (m + 1) (fsStep P orc rec) := by
  intro rnd c fr h e fr' h' hok hf ρ S w a nn Q hr ht hm hs k
  have hcs : CallSnd P B w0 (callOf P orc rec) := call_sound hP horc hrec
  have hys : YieldSound P B w0 (fsYield rec) := yield_sound hrec
  cases c with
  | skip =>
    simp only [fsStep, Option.some.injEq, Prod.mk.injEq] at hf
    obtain ⟨rfl, rfl, rfl⟩ := hf
    exact wpIn_skip (k _ _ _ (Post.same hr ht hm))
  | label l =>
    simp only [fsStep, Option.some.injEq, Prod.mk.injEq] at hf
    obtain ⟨rfl, rfl, rfl⟩ := hf
    exact wpIn_label (k _ _ _ (Post.same hr ht hm))
  | exit id =>
    simp only [fsStep, Option.some.injEq, Prod.mk.injEq] at hf
    obtain ⟨rfl, rfl, rfl⟩ := hf
    exact wpIn_exit (k _ _ _ (Post.same hr ht hm))
  | ret =>
    simp only [fsStep, Option.some.injEq, Prod.mk.injEq] at hf
    obtain ⟨rfl, rfl, rfl⟩ := hf
    exact wpIn_ret (k _ _ _ (Post.same hr ht hm))
  | goto l => simp only [fsStep] at hf; cases hf
  | refuse l => simp only [fsStep] at hf; cases hf
  | scope b =>
    simp only [fsStep] at hf
    refine wpIn_scopeFs ?_
    refine (hrec rnd b fr h e fr' h' hok hf ρ S w a nn _ hr ht hm hs fun ρ1 w1 a1 p1 => ?_).wpIn
    have hq := k _ _ _ p1
    cases e with
    | normal => exact hq
    | exit id => exact hq
    | ret => exact hq
  | seq x y =>
    simp only [fsStep] at hf
    obtain ⟨ok1, ok2⟩ := band (show (codeOk x && codeOk y) = true from hok)
    refine wpIn_seq ?_
    split at hf
    · rename_i fr1 h1 hrun
      refine (hrec rnd x fr h _ fr1 h1 ok1 hrun ρ S w a nn _ hr ht hm hs fun ρ1 w1 a1 p1 => ?_).wpIn
      show y.wpIn (rndF ρ rnd) nn P Q a1 w1
      rw [← rndF_eq hs p1.moved.agree]
      exact (hrec rnd y fr1 h1 e fr' h' ok2 hf ρ1 _ w1 a1 nn Q p1.moved.hr p1.tmps p1.marks (fun l hl => .inl (hs l hl)) fun ρ2 w2 a2 p2 => k _ _ _ (Post.trans (fr1 := fr1) (a1 := a1) p1.moved p2)).wpIn
    rename_i hne
    refine (hrec rnd x fr h e fr' h' ok1 hf ρ S w a nn _ hr ht hm hs fun ρ1 w1 a1 p1 => ?_).wpIn
    have hq := k _ _ _ p1
    cases e with
    | normal => exact (hne _ _ hf).elim
    | exit id => exact hq
    | ret => exact hq
  | cond x y z =>
    simp only [fsStep] at hf
    obtain ⟨ok1, ok2⟩ := band (show (codeOk y && codeOk z) = true from hok)
    have hev := ht.eval a.defers x
    split at hf
    · rename_i hx
      rw [hx] at hev
      exact wpIn_cond_true hev.bool_inv (hrec rnd y fr h e fr' h' ok1 hf ρ S w a nn Q hr ht hm hs k).wpIn
    · rename_i hx
      rw [hx] at hev
      exact wpIn_cond_false hev.bool_inv (hrec rnd z fr h e fr' h' ok2 hf ρ S w a nn Q hr ht hm hs k).wpIn
    cases hf
  | block id b =>
    simp only [fsStep] at hf
    refine wpIn_block ?_
    split at hf
    · rename_i id' fr1 h1 hrun
      refine (hrec rnd b fr h _ fr1 h1 hok hrun ρ S w a nn _ hr ht hm hs fun ρ1 w1 a1 p1 => ?_).wpIn
      cases hb : Nat.beq id' id with
      | true =>
        rw [hb] at hf
        simp only [cond_true, Option.some.injEq, Prod.mk.injEq] at hf
        obtain ⟨rfl, rfl, rfl⟩ := hf
        have := k _ _ _ p1
        simp only [exOf, Exit.inBlock, nbeq hb, if_true]
        exact this
      | false =>
        rw [hb] at hf
        simp only [cond_false, Option.some.injEq, Prod.mk.injEq] at hf
        obtain ⟨rfl, rfl, rfl⟩ := hf
        have := k _ _ _ p1
        simp only [exOf, Exit.inBlock, if_neg (ne_of_no hb)]
        exact this
    rename_i hne
    refine (hrec rnd b fr h e fr' h' hok hf ρ S w a nn _ hr ht hm hs fun ρ1 w1 a1 p1 => ?_).wpIn
    have hq := k _ _ _ p1
    cases e with
    | normal => exact hq
    | exit id' => exact (hne _ _ _ hf).elim
    | ret => exact hq
  | loop b =>
    simp only [fsStep] at hf
    show Code.roundsIn (rndF ρ rnd) nn P b Q (m + 1) a w
    rw [roundsIn_succ]
    split at hf
    · rename_i fr1 h1 hrun
      refine (hrec rnd b fr h _ fr1 h1 hok hrun ρ S w a nn _ hr ht hm hs fun ρ1 w1 a1 p1 => ?_).wpIn
      show Code.roundsIn (rndF ρ rnd) nn P b Q m a1 w1
      rw [← rndF_eq hs p1.moved.agree]
      exact hrec rnd (.loop b) fr1 h1 e fr' h' hok hf ρ1 _ w1 a1 nn Q p1.moved.hr p1.tmps p1.marks (fun l hl => .inl (hs l hl)) fun ρ2 w2 a2 p2 => k _ _ _ (Post.trans (fr1 := fr1) (a1 := a1) p1.moved p2)
    rename_i hne
    refine (hrec rnd b fr h e fr' h' hok hf ρ S w a nn _ hr ht hm hs fun ρ1 w1 a1 p1 => ?_).wpIn
    have hq := k _ _ _ p1
    cases e with
    | normal => exact (hne _ _ hf).elim
    | exit id => exact hq
    | ret => exact hq
  | region id ops draw =>
    cases draw with
    | false =>
      simp only [fsStep] at hf
      split at hf
      · rename_i t h1 hrun
        simp only [Option.some.injEq, Prod.mk.injEq] at hf
        obtain ⟨rfl, rfl, rfl⟩ := hf
        refine wpIn_region ?_
        exact ops_wp (step := fsOp P (callOf P orc rec) (fsYield rec)) rfl hcs hys _ _ ρ S w a fr.t h range_map hr ht hrun fun ρ1 w1 a1 m1 ht1 hd1 => k _ _ _ ⟨m1, ht1, by rw [hd1]; exact hm.mono fun b hb => ⟨.inl hb, m1.agree b hb⟩⟩
      cases hf
    | true =>
      simp only [fsStep] at hf
      cases hl : lateB ops with
      | false =>
        rw [hl] at hf
        simp only [cond_false] at hf
        split at hf
        · rename_i s hrun
          simp only [Option.some.injEq, Prod.mk.injEq] at hf
          obtain ⟨rfl, rfl, rfl⟩ := hf
          refine wpIn_region_draw fun t => ?_
          rw [hP.mixed]
          exact drawn_wp (call := callOf P orc rec) (yield := fsYield rec) hcs hys hok hrun (hr.drew _) ht (fun ρ1 w1 a1 m1 ht1 hd1 => k _ _ _ ⟨Moved.ofDrew m1, ht1, by rw [hd1]; exact hm.mono fun b hb => ⟨.inl hb, m1.agree b hb⟩⟩) t
        cases hf
      | true =>
        rw [hl] at hf
        simp only [cond_true] at hf
        split at hf
        · rename_i s hrun
          simp only [Option.some.injEq, Prod.mk.injEq] at hf
          obtain ⟨rfl, rfl, rfl⟩ := hf
          refine wpIn_region_draw fun t => ?_
          rw [hP.mixed]
          exact drawn_wpL (call := callOf P orc rec) (yield := fsYield rec) hcs hys hok hrun (hr.drew _) ht (fun ρ1 w1 a1 m1 ht1 hd1 => k _ _ _ ⟨Moved.ofDrew m1, ht1, by rw [hd1]; exact hm.mono fun b hb => ⟨.inl hb, m1.agree b hb⟩⟩) t
        cases hf
  | rangeFunc g ps assign body =>
    simp only [fsStep] at hf
    obtain ⟨ok1, ok2⟩ := band (show (codeOk assign && codeOk body) = true from hok)
    exact rangeFunc_sound hP hrec ok1 ok2 hf hr ht hm hs k

theorem code_sound (hP : ProgOk P) {orc : FuncId → List Value → Heap → Option (Value × Heap)} (horc : CallSound P B w0 orc) : ∀ m, SoundR P B w0 m (fsCode P orc m)
  | 0 => fun rnd c fr h e fr' h' _ hf => by cases hf
  | m + 1 => step_sound hP horc (code_sound hP horc m)

end Go.Fs
namespace Go.Fs
open Go.RowKit (Below)
variable {P : Program}

theorem fs_open (hP : ProgOk P) {B : Nat} {w0 w : World} {orc : FuncId → List Value → Heap → Option (Value × Heap)} (horc : CallSound P B w0 orc) {ρ : Ren} {S : Nat → Prop} {h : Heap} {f : FuncId} {args args' : List Value} {v : Value}
    (hE : Enters P f) (hr : HR P ρ S B w0 h w) (ha : LR ρ S args args') (he : EvF P orc f args h fun u _ => u = v) (hv : af v = true) : Calls P f args'.toArray w fun | .returned v', w' => v' = v ∧ Below B w0 w' | _, _ => False := by
  obtain ⟨m, u, h', h1, rfl⟩ := he
  have hc : CallsIn Fence.wide 0 P f args'.toArray w (RetR P B w0 ρ S h w u h') := by
    rcases call_sound hP horc (code_sound hP horc m) f args h u h' h1 with h2 | h2
    · exact h2.2 ρ S w args' hr ha 0
    obtain ⟨w', v', h3, _⟩ := h2 ρ S w args' hr ha
    rw [callFunc_run hE] at h3
    simp at h3
  refine Calls.mono (callsIn_wide.1 hc) fun e w' he => ?_
  cases e with
  | returned v' =>
    obtain ⟨ρ', m1, hv1⟩ := he
    exact ⟨hv1.eq_of_af hv, m1.hr.below⟩
  | panicked c => exact he.elim
  | outgrown => exact he.elim

end Go.Fs
namespace Go.Fs
open Go.RowKit (Below)
variable {P : Program}

def digs : Nat → Nat → List UInt8
  | 0, _ => []
  | f + 1, n => bif Nat.blt n 10 then [UInt8.ofNat (48 + n)] else digs f (n / 10) ++ [UInt8.ofNat (48 + n % 10)]
def itoaF (n : Int) : List UInt8 := match n with
  | .ofNat k => digs 20 k
  | .negSucc k => 45 :: digs 20 (k + 1)
def joinF (sep : List UInt8) : List (List UInt8) → List UInt8
  | [] => []
  | [w] => w
  | w :: r => w ++ sep ++ joinF sep r
def strs : List Value → Option (List ByteArray)
  | [] => some []
  | .string s :: r => (strs r).map (s :: ·)
  | _ => none

theorem digs_eq : ∀ (f n : Nat), n < 10 ^ (f + 1) → digs (f + 1) n = Lib.decDigits n
  | f, n, h => by
    unfold digs Lib.decDigits
    cases hb : Nat.blt n 10 with
    | true => rw [dif_pos (nblt hb)]; rfl
    | false =>
      have h1 : ¬ n < 10 := by have := nble_no hb; omega
      rw [dif_neg h1]
      simp only [cond_false]
      cases f with
      | zero => simp at h; omega
      | succ f => rw [digs_eq f (n / 10) (by rw [Nat.pow_succ] at h; omega)]
theorem itoaF_eq {n : Int} (h0 : -1000000000000000000 < n) (h1 : n < 1000000000000000000) : itoaF n = Lib.itoa n := by
  unfold Lib.itoa
  cases n with
  | ofNat k =>
    rw [if_neg (by simp)]
    show digs 20 k = _
    rw [digs_eq 19 k (by have : (k : Int) < 1000000000000000000 := h1; have : (10 : Nat) ^ (19 + 1) = 100000000000000000000 := by decide
                         omega)]
    rfl
  | negSucc k =>
    rw [if_pos (by omega)]
    show 45 :: digs 20 (k + 1) = _
    rw [digs_eq 19 (k + 1) (by have h2 : -1000000000000000000 < Int.negSucc k := h0; have : (10 : Nat) ^ (19 + 1) = 100000000000000000000 := by decide
                               omega)]
    rfl
theorem joinF_eq (sep : List UInt8) : ∀ xs : List (List UInt8), joinF sep xs = Lib.join xs sep
  | [] => rfl
  | [w] => by rw [Lib.join_one]; rfl
  | w :: v :: r => by
    rw [Lib.join_cons]
    simp only [joinF]
    rw [joinF_eq sep (v :: r), Lib.join_cons]
    simp [Lib.joinTail]

def orcS (fi fj : FuncId) : FuncId → List Value → Heap → Option (Value × Heap) := fun f xs h =>
  bif Nat.beq f fi then
    match xs with
    | [.int .i64 n] => bif decide (-1000000000000000000 < n) && decide (n < 1000000000000000000) then some (.string ⟨(itoaF n).toArray⟩, h) else none
    | _ => none
  else bif Nat.beq f fj then
    match xs with
    | [.slice (some ⟨b, o, none⟩) n _, .string sep] =>
      match h.get b with
      | some (.row _ cs _ _) =>
        bif Nat.ble (o + n) cs.length && Nat.ble n 1000000 then
          match strs ((cs.drop o).take n) with
          | some ss => let r := joinF sep.data.toList (ss.map (·.data.toList))
            bif Nat.ble r.length 1000000000 then some (.string ⟨r.toArray⟩, h) else none
          | none => none
        else none
      | _ => none
    | _ => none
  else none
variable {B : Nat} {w0 w w' : World} {ρ : Ren} {S : Nat → Prop} {h : Heap}
theorem strs_ok : ∀ (cs cs' : List Value) (ss : List ByteArray), LR ρ S cs cs' → strs cs = some ss → cs' = ss.map .string
  | [], cs', ss, hl, hs => by
    simp only [strs, Option.some.injEq] at hs
    subst hs
    exact List.eq_nil_of_length_eq_zero hl.1.symm
  | v :: r, [], ss, hl, _ => by have := hl.1; simp at this
  | v :: r, v' :: r', ss, hl, hs => by
    unfold strs at hs
    split at hs
    · rename_i he; cases he
    · rename_i s r0 he
      simp only [List.cons.injEq] at he
      obtain ⟨rfl, rfl⟩ := he
      obtain ⟨ss0, h1, rfl⟩ := Option.map_eq_some_iff.1 hs
      have hv : VR ρ S (.string s) v' := hl.2 0 (by simp)
      have hr : LR ρ S r r' := ⟨by have := hl.1; simpa using this, fun i hi => by have := hl.2 (i + 1) (by simp; omega); simpa using this⟩
      rw [hv.string_inv, strs_ok r r' ss0 hr h1]
      rfl
    cases hs

theorem orcS_sound {fi fj : FuncId} (hi : Enters P fi) (hj : Enters P fj)
    (hI : ∀ (n : Int) (w : World), Below B w0 w → -9223372036854775808 ≤ n → n ≤ 9223372036854775807 → Calls P fi #[.int .i64 n] w fun e w' => e = .returned (.string ⟨(Lib.itoa n).toArray⟩) ∧ Below w.heap.size w w')
    (hJ : ∀ (bk o c : Nat) (xs : List ByteArray) (sep : ByteArray) (w : World), (∀ (j : Nat) x, xs[j]? = some x → w.cell? ⟨bk, o + j, none⟩ = some (.string x)) → bk < w.heap.size → xs.length ≤ 140737488355328 → xs.length ≤ c →
      (Lib.join (xs.map (·.data.toList)) sep.data.toList).length ≤ 140737488355328 →
      Calls P fj #[.slice (some ⟨bk, o, none⟩) xs.length c, .string sep] w fun e w' => e = .returned (.string ⟨(Lib.join (xs.map (·.data.toList)) sep.data.toList).toArray⟩) ∧ Below w.heap.size w w') :
    CallSound P B w0 (orcS fi fj) := by
  intro f xs h v h' hf
  unfold orcS at hf
  cases hfi : Nat.beq f fi with
  | true =>
    have := nbeq hfi
    subst this
    rw [hfi] at hf
    simp only [cond_true] at hf
    split at hf
    · rename_i n
      obtain ⟨hc, hf2⟩ := bif_some hf
      obtain ⟨h0, h1⟩ := band hc
      have h0 := of_decide_eq_true h0
      have h1 := of_decide_eq_true h1
      simp only [Option.some.injEq, Prod.mk.injEq] at hf2
      obtain ⟨rfl, rfl⟩ := hf2
      refine ⟨hi, fun ρ S w args' hr ha nn => ?_⟩
      have he : args' = [.int .i64 n] := ha.eq_of_af (by rfl)
      subst he
      have hC : CallsIn Fence.wide nn P f #[.int .i64 n] w _ := callsIn_wide.2 (hI n w hr.below (by omega) (by omega))
      refine hC.mono fun e w' hret => ?_
      obtain ⟨rfl, hb⟩ := hret
      exact ⟨ρ, Moved.grewWorld hr hb, by rw [itoaF_eq h0 h1]; exact .lit rfl⟩
    cases hf
  | false =>
    rw [hfi] at hf
    simp only [cond_false] at hf
    obtain ⟨hfj, hf2⟩ := bif_some hf
    have := nbeq hfj
    subst this
    clear hf
    split at hf2
    · rename_i b o n mk sep
      split at hf2
      · rename_i e cs own more hg
        obtain ⟨hc, hf3⟩ := bif_some hf2
        obtain ⟨hle, hn⟩ := band hc
        have hle := nble hle
        have hn := nble hn
        split at hf3
        · rename_i ss hss
          obtain ⟨hlen, hf4⟩ := bif_some hf3
          have hlen := nble hlen
          simp only [Option.some.injEq, Prod.mk.injEq] at hf4
          obtain ⟨rfl, rfl⟩ := hf4
          refine ⟨hj, fun ρ S w args' hr ha nn => ?_⟩
          match args', ha with
          | [x', s'], ha =>
            have hx : VR ρ S (.slice (some ⟨b, o, none⟩) n mk) x' := ha.2 0 (by simp)
            have hs : VR ρ S (.string sep) s' := ha.2 1 (by simp)
            obtain ⟨A, c, rfl, hnc, _, _, hb⟩ := hx.slice_inv
            obtain rfl := hs.string_inv
            have hb0 : b ≠ 0 := (hr.ids b (hr.objs b _ hg).1).2
            obtain ⟨_, rfl, _⟩ := hb hb0
            have hobj := (hr.objs b _ hg).2
            have hlt : (ρ b).block < w.heap.size := by
              by_cases hown : ownO (.row e cs own more) = true
              · exact hobj.lt hown
              have := hr.ro b _ hg (by simpa using hown)
              have := hr.size
              omega
            have hlr : LR ρ S ((cs.drop o).take n) ((List.range n).map fun j => (w.cell? ((ρ b).at (o + j))).getD undef) := by
              refine LR.of_get? (by simp; omega) fun i v v' hv hv' => ?_
              rw [List.getElem?_take] at hv
              split at hv
              · rename_i hin
                rw [List.getElem?_drop] at hv
                obtain ⟨u, h1, h2⟩ := hobj.cell (i := o + i) (by omega)
                simp [hin, h1] at hv'
                subst hv'
                have : cs.getD (o + i) undef = v := by simp [List.getD, hv]
                rwa [this] at h2
              cases hv
            have heq := strs_ok _ _ ss hlr hss
            have hsl : ss.length = n := by
              have := congrArg List.length heq
              simp at this
              omega
            have hcells : ∀ (j : Nat) x, ss[j]? = some x → w.cell? ⟨(ρ b).block, (ρ b).off + o + j, none⟩ = some (.string x) := fun j x hjx => by
              have hjn : j < n := by have := (List.getElem?_eq_some_iff.1 hjx).1; omega
              obtain ⟨u, h1, h2⟩ := hobj.cell (i := o + j) (by omega)
              have h3 := congrArg (·[j]?) heq
              simp [hjn, hjx, h1] at h3
              subst h3
              simpa [Loc.at, Nat.add_assoc] using h1
            rw [joinF_eq] at hlen
            have hC : CallsIn Fence.wide nn P f #[.slice (some ⟨(ρ b).block, (ρ b).off + o, none⟩) ss.length c, .string sep] w _ := callsIn_wide.2 (hJ (ρ b).block ((ρ b).off + o) c ss sep w hcells hlt (by omega) (by omega) (by omega))
            rw [hsl] at hC
            refine hC.mono fun e w' hret => ?_
            obtain ⟨rfl, hb⟩ := hret
            exact ⟨ρ, Moved.grewWorld hr hb, by rw [joinF_eq]; exact .lit rfl⟩
        cases hf3
      cases hf2
    cases hf2

end Go.Fs
namespace Go.Fs
open Go.RowKit (Below)
variable {P : Program}

def orcA (fi fj fa : FuncId) : FuncId → List Value → Heap → Option (Value × Heap) := fun f xs h =>
  bif Nat.beq f fa then
    match xs with
    | [] => some (.bool true, h)
    | _ => none
  else orcS fi fj f xs h

theorem orcA_sound {B : Nat} {w0 : World} {fi fj fa : FuncId} (hS : CallSound P B w0 (orcS fi fj)) (ha : Enters P fa)
    (hA : ∀ w, Below B w0 w → Calls P fa #[] w fun | .returned v', w' => v' = .bool true ∧ Below w.heap.size w w' | _, _ => False) : CallSound P B w0 (orcA fi fj fa) := by
  intro f xs h v h' hf
  unfold orcA at hf
  cases hb : Nat.beq f fa with
  | true =>
    have := nbeq hb
    subst this
    rw [hb] at hf
    simp only [cond_true] at hf
    split at hf
    · simp only [Option.some.injEq, Prod.mk.injEq] at hf
      obtain ⟨rfl, rfl⟩ := hf
      refine ⟨ha, fun ρ S w args' hr har nn => ?_⟩
      have he : args' = [] := List.eq_nil_of_length_eq_zero har.1.symm
      subst he
      have hC : CallsIn Fence.wide nn P f #[] w _ := callsIn_wide.2 (hA w hr.below)
      refine hC.mono fun e w' hret => ?_
      cases e with
      | returned v' =>
        obtain ⟨rfl, hb⟩ := hret
        exact ⟨ρ, Moved.grewWorld hr hb, .lit rfl⟩
      | panicked c => exact hret.elim
      | outgrown => exact hret.elim
    cases hf
  | false =>
    rw [hb] at hf
    exact hS f xs h v h' hf

end Go.Fs
namespace Go.Fs
open Go.RowKit (Below)
open Go.Sort Go.Proofs
variable {P : Program}
def sortB (ss : List ByteArray) : List ByteArray := ((ss.map fun s => s.data.toList).mergeSort fun x y => decide (x ≤ y)).map fun d => ⟨d.toArray⟩
theorem sortB_length (ss : List ByteArray) : (sortB ss).length = ss.length := by simp [sortB]
def orcT (fs : FuncId) (O : FuncId → List Value → Heap → Option (Value × Heap)) : FuncId → List Value → Heap → Option (Value × Heap) := fun f xs h =>
  bif Nat.beq f fs then
    match xs with
    | [.slice (some ⟨b, 0, none⟩) n _] =>
      match h.get b with
      | some (.row e cs true more) =>
        bif Nat.ble n cs.length && Nat.ble n 1000000 then
          match strs (cs.take n) with
          | some ss => some (.tuple #[], h.set b (.row e (splice cs 0 ((sortB ss).map .string)) true more))
          | none => none
        else none
      | _ => none
    | [.slice none 0 0] => some (.tuple #[], h)
    | _ => none
  else O f xs h
variable {B : Nat} {w0 w w' : World} {ρ : Ren} {S : Nat → Prop} {h : Heap}
theorem orcT_sound {fs : FuncId} {O : FuncId → List Value → Heap → Option (Value × Heap)} (hO : CallSound P B w0 O) (hs : Enters P fs)
    (hN : ∀ w, Below B w0 w → Calls P fs #[.slice none 0 0] w fun | .returned v', w' => v' = .tuple #[] ∧ Below w.heap.size w w' | _, _ => False)
    (hT : ∀ (blk off cap : Nat) (ss : List (List UInt8)) (w : World), Holds encStr w blk off ss.toArray → blk < w.heap.size → ss.length < 4611686018427387904 → Calls P fs #[.slice (some ⟨blk, off, none⟩) ss.length cap] w fun e w' =>
      e = .returned (.tuple #[]) ∧ ∃ n os, w' = grow (putRow encStr (Sort.ahead w n) blk off (ss.mergeSort fun x y => decide (x ≤ y)).toArray) os) : CallSound P B w0 (orcT fs O) := by
  intro f xs h v h' hf
  unfold orcT at hf
  cases hb : Nat.beq f fs with
  | false =>
    rw [hb] at hf
    exact hO f xs h v h' hf
  | true =>
    have := nbeq hb
    subst this
    rw [hb] at hf
    simp only [cond_true] at hf
    split at hf
    · rename_i b n mk
      split at hf
      · rename_i e cs more hg
        obtain ⟨hc, hf⟩ := bif_some hf
        obtain ⟨hle, hn⟩ := band hc
        have hle := nble hle
        have hn := nble hn
        split at hf
        · rename_i ss hss
          simp only [Option.some.injEq, Prod.mk.injEq] at hf
          obtain ⟨rfl, rfl⟩ := hf
          refine ⟨hs, fun ρ S w args' hr ha nn => ?_⟩
          match args', ha with
          | [x'], ha =>
            have hx : VR ρ S (.slice (some ⟨b, 0, none⟩) n mk) x' := ha.2 0 (by simp)
            obtain ⟨A, c, rfl, hnc, _, _, hbb⟩ := hx.slice_inv
            have hb0 : b ≠ 0 := (hr.ids b (hr.objs b _ hg).1).2
            obtain ⟨_, rfl, _⟩ := hbb hb0
            obtain ⟨_, cur, h1, h2, h3, h4, h5, h6, h7⟩ := hr.objs b _ hg
            have hlt : (ρ b).block < w.heap.size := (Array.getElem?_eq_some_iff.1 h1).1
            have hlr : LR ρ S (cs.take n) (cur.take n) := by
              refine LR.of_get? (by simp; omega) fun i v v' hv hv' => ?_
              rw [List.getElem?_take] at hv hv'
              split at hv
              · rename_i hin
                rw [if_pos hin] at hv'
                have := h7 i (by omega)
                simpa [List.getD, hv, hv'] using this
              cases hv
            have heq := strs_ok _ _ ss hlr hss
            have hsl : ss.length = n := by
              have := congrArg List.length heq
              simp at this
              omega
            have hold : Holds encStr w (ρ b).block 0 (ss.map fun s => s.data.toList).toArray := by
              intro j hj
              have hj' : j < ss.length := by simpa using hj
              have h8 := congrArg (·[j]?) heq
              simp [show j < n by omega, hj'] at h8
              have h9 : cur[j]? = some (.string ss[j]) := h8
              have h10 : cur.toArray[0 + j]? = some (.string ss[j]) := by simpa using h9
              refine ⟨?_, ?_⟩
              · simp only [World.cell?, h1, Option.isSome_none, Bool.false_eq_true, if_false, h10]
                simp [hj', encStr]
              simp [World.frozen?, h1]
            have hC : CallsIn Fence.wide nn P f #[.slice (some ⟨(ρ b).block, 0, none⟩) (ss.map fun s => s.data.toList).length c] w _ := callsIn_wide.2 (hT (ρ b).block 0 c _ w hold hlt (by simp; omega))
            rw [List.length_map, hsl] at hC
            have hat : (ρ b).at 0 = ⟨(ρ b).block, 0, none⟩ := by simp [Loc.at, h2]
            rw [hat]
            refine hC.mono fun e' w' hret => ?_
            obtain ⟨rfl, k, os, rfl⟩ := hret
            have hput : (putCells encStr 0 ((ss.map fun s => s.data.toList).mergeSort fun x y => decide (x ≤ y)).toArray cur.toArray).toList = cur.take 0 ++ (sortB ss).map .string ++ cur.drop (0 + ((sortB ss).map Value.string).length) := by
              apply List.ext_getElem?
              intro j
              simp only [List.take_zero, List.nil_append, Nat.zero_add, List.length_map, sortB_length]
              by_cases hj : j < ss.length
              · rw [List.getElem?_append_left (by simpa [sortB_length] using hj)]
                simp [putCells, sortB, hj, show j < cur.length by omega, encStr]
              rw [List.getElem?_append_right (by simpa [sortB_length] using Nat.le_of_not_lt hj)]
              simp [putCells, sortB_length, hj]
              congr 1
              omega
            have m1 : Moved P B w0 ρ ρ S h (h.set b (.row e (splice cs 0 ((sortB ss).map .string)) true more)) w (putRow encStr w (ρ b).block 0 ((ss.map fun s => s.data.toList).mergeSort fun x y => decide (x ≤ y)).toArray) := by
              refine Moved.set hr hg rfl rfl rfl rfl rfl (by simp [putRow, mapBlock]) (fun k hk => by simp [putRow, mapBlock, Array.getElem?_modify, Ne.symm hk]) ?_
              refine ⟨_, ?_, h2, ?_, h4, ?_, ?_, LR.spliceCur h7 h5 (LR.map _ _ _ fun x _ => .lit rfl) (by simp [sortB_length]; omega)⟩
              · rw [← hput]
                simp [putRow, mapBlock, Array.getElem?_modify, h1, onCells]
              · simp [sortB_length, h3]; omega
              · simp [splice, sortB_length]; omega
              intro hm
              have := h6 hm
              simp [splice, sortB_length]; omega
            have m2 := Moved.grewWorld m1.hr (w' := grow (putRow encStr (Sort.ahead w k) (ρ b).block 0 ((ss.map fun s => s.data.toList).mergeSort fun x y => decide (x ≤ y)).toArray) os)
              ⟨rfl, rfl, rfl, by simp [grow, putRow, mapBlock, Sort.ahead], fun j hj => by
                rw [heap_grow_old _ _ (by simpa [putRow, mapBlock, Sort.ahead] using hj)]; rfl⟩
            exact ⟨ρ, m1.trans m2, VR.undef⟩
        cases hf
      cases hf
    · simp only [Option.some.injEq, Prod.mk.injEq] at hf
      obtain ⟨rfl, rfl⟩ := hf
      refine ⟨hs, fun ρ S w args' hr har nn => ?_⟩
      have he : args' = [.slice none 0 0] := har.eq_of_af (by rfl)
      subst he
      have hC : CallsIn Fence.wide nn P f #[.slice none 0 0] w _ := callsIn_wide.2 (hN w hr.below)
      refine hC.mono fun e w' hret => ?_
      cases e with
      | returned v' =>
        obtain ⟨rfl, hb⟩ := hret
        exact ⟨ρ, Moved.grewWorld hr hb, VR.undef⟩
      | panicked c => exact hret.elim
      | outgrown => exact hret.elim
    cases hf
end Go.Fs
namespace Go.Fs
variable {P : Program} {O : FuncId → List Value → Heap → Option (Value × Heap)} {h h' : Heap} {S : List Nat}
end Go.Fs
namespace Go.Proofs
open Go.Fs
set_option linter.unusedVariables false
def OA := orcT 178 (orcA 182 147 16)
abbrev y39 : Ty := (.sl (.int .i64))
abbrev y204 : Ty := (.sl (.int .i64))
theorem vt3 : ValT Tryz.prog 3 (.int .i64) := valT_of (by kernel_rfl)
theorem vt32 : ValT Tryz.prog 32 (.int .i64) := valT_of (by kernel_rfl)
theorem el39 : ElT Tryz.prog 39 3 (.int .i64) := elT_of (by kernel_rfl)
theorem el204 : ElT Tryz.prog 204 32 (.int .i64) := elT_of (by kernel_rfl)
def whenE (c : Bool) (e : Int) : Int := bif c then e else 0
theorem sWhen_ok {c : Bool} {e : Int} : VF Tryz.prog OA 94 [B c, I e] (I (whenE c e)) := by
  refine VF.enter Tryz.func94 rfl (fun _ _ => rfl) rfl ?_
  show VC _ _ _ _ _ [(0, B c), (1, I e)] [] _
  refine VC.seq (VC.text ?_)
  refine VO.c (.assign rfl) ?_
  refine VO.go (VC.seq (VC.seq (VC.text ?_)))
  refine VO.c (.move rfl) ?_
  refine VO.go ?_
  refine VC.condB rfl (fun c1 => ?_) (fun c1 => ?_)
  · subst c1
    refine VC.seq (VC.text ?_)
    refine VO.c (.move rfl) ?_
    refine VO.c (.assign rfl) ?_
    refine VO.go ?_
    refine VC.ret ?_
    exact VEnd.one rfl evT (pvI (by rfl))
  subst c1
  refine VC.skip (VC.seq (VC.text ?_))
  refine VO.c (.assign rfl) ?_
  refine VO.go ?_
  refine VC.ret ?_
  exact VEnd.one rfl evT (pvI (by rfl))
def rangeE (n lo hi : Int) : Int := if n < lo ∨ hi < n then 3 else 0
theorem rCheckRange_ok {n : Int} {lo : Int} {hi : Int} : VF Tryz.prog OA 100 [I n, I lo, I hi] (I (rangeE n lo hi)) := by
  refine VF.enter Tryz.func100 rfl (fun _ _ => rfl) rfl ?_
  show VC _ _ _ _ _ [(0, I n), (1, I lo), (2, I hi)] [] _
  refine VC.seq (VC.text ?_)
  refine VO.c (.assign rfl) ?_
  refine VO.go (VC.seq (VC.seq (VC.text ?_)))
  refine VO.c (.move rfl) ?_
  refine VO.c (.move rfl) ?_
  refine VO.c (.lss) ?_
  refine VO.c (.move rfl) ?_
  refine VO.cg (r := decide (n < lo)) (w := false) [] trivial (fun hgd => have g1_3 : ¬ (n < lo) := (by simpa using hgd); (.move rfl)) ?_
  refine VO.cg (r := decide (n < lo)) (w := false) [] trivial (fun hgd => have g1_3 : ¬ (n < lo) := (by simpa using hgd); (.move rfl)) ?_
  refine VO.cg (r := decide (n < lo)) (w := false) [(11, I n), (12, I hi)] ⟨rfl, rfl, trivial⟩ (fun hgd => have g1_3 : ¬ (n < lo) := (by simpa using hgd); (.gtr)) ?_
  refine VO.c (.or) ?_
  refine VO.go ?_
  refine VC.condB rfl (fun c1 => ?_) (fun c1 => ?_)
  · try simp only [Bool.and_eq_true, Bool.or_eq_true, Bool.and_eq_false_iff, Bool.or_eq_false_iff, Bool.not_eq_true', Bool.not_eq_false', decide_eq_true_eq, decide_eq_false_iff_not] at c1
    refine VC.seq (VC.text ?_)
    refine VO.c (.assign rfl) ?_
    refine VO.go ?_
    refine VC.ret ?_
    exact VEnd.one rfl evT (pvI (by simp only [rangeE, ← Bool.decide_or, decide_eq_true_eq, decide_eq_false_iff_not, Bool.or_eq_true, Bool.or_eq_false_iff] at *; first | rw [if_pos (by omega)] | rw [if_neg (by omega)]))
  try simp only [Bool.and_eq_true, Bool.or_eq_true, Bool.and_eq_false_iff, Bool.or_eq_false_iff, Bool.not_eq_true', Bool.not_eq_false', decide_eq_true_eq, decide_eq_false_iff_not] at c1
  refine VC.skip (VC.seq (VC.text ?_))
  refine VO.c (.assign rfl) ?_
  refine VO.go ?_
  refine VC.ret ?_
  exact VEnd.one rfl evT (pvI (by simp only [rangeE, ← Bool.decide_or, decide_eq_true_eq, decide_eq_false_iff_not, Bool.or_eq_true, Bool.or_eq_false_iff] at *; first | rw [if_pos (by omega)] | rw [if_neg (by omega)]))
theorem whenE_range {n lo hi : Int} : whenE (decide (n < lo) || decide (hi < n)) 3 = rangeE n lo hi := by
  unfold whenE rangeE
  by_cases h1 : n < lo <;> by_cases h2 : hi < n <;> simp [h1, h2]
theorem sWithin_ok {n : Int} {lo : Int} {hi : Int} : VF Tryz.prog OA 99 [I n, I lo, I hi] (I (rangeE n lo hi)) := by
  refine VF.enter Tryz.func99 rfl (fun _ _ => rfl) rfl ?_
  show VC _ _ _ _ _ [(0, I n), (1, I lo), (2, I hi)] [] _
  refine VC.seq (VC.text ?_)
  refine VO.c (.assign rfl) ?_
  refine VO.go (VC.seq (VC.text ?_))
  refine VO.c (.move rfl) ?_
  refine VO.c (.move rfl) ?_
  refine VO.c (.lss) ?_
  refine VO.c (.move rfl) ?_
  refine VO.cg (r := decide (n < lo)) (w := false) [] trivial (fun hgd => have g1_3 : ¬ (n < lo) := (by simpa using hgd); (.move rfl)) ?_
  refine VO.cg (r := decide (n < lo)) (w := false) [] trivial (fun hgd => have g1_3 : ¬ (n < lo) := (by simpa using hgd); (.move rfl)) ?_
  refine VO.cg (r := decide (n < lo)) (w := false) [(11, I n), (12, I hi)] ⟨rfl, rfl, trivial⟩ (fun hgd => have g1_3 : ¬ (n < lo) := (by simpa using hgd); (.gtr)) ?_
  refine VO.c (.or) ?_
  refine VO.call rfl rfl (VF.call (sWhen_ok )) ?_
  refine VO.c (.assign rfl) ?_
  refine VO.go ?_
  refine VC.ret ?_
  exact VEnd.one rfl evT (pvI (by exact whenE_range))
def firstE : List Int → Int
  | [] => 0
  | x :: r => if x = 0 then firstE r else x
theorem firstE_drop {xs : List Int} {j : Nat} (hj : j < xs.length) : firstE (xs.drop j) = if xs[j] = 0 then firstE (xs.drop (j + 1)) else xs[j] := by
  rw [List.drop_eq_getElem_cons hj] <;> rfl
theorem firstE_end {xs : List Int} {j : Nat} (hj : xs.length ≤ j) : firstE (xs.drop j) = 0 := by rw [List.drop_eq_nil_of_le hj] <;> rfl
theorem sFirst_ok {l : List Int} (hl : l.length < 1000000) : VF Tryz.prog OA 89 [.v y204 l] (I (firstE l)) := by
  refine VF.enter Tryz.func89 rfl (fun _ _ => rfl) rfl ?_
  show VC _ _ _ _ _ [(0, .v y204 l)] [] _
  refine VC.seq (VC.text ?_)
  refine VO.c (.assign rfl) ?_
  refine VO.go (VC.seq (VC.seq (VC.text ?_)))
  refine VO.c (.move rfl) ?_
  refine VO.r (.len el204) ?_
  refine VO.c (.move rfl) ?_
  refine VO.go (VC.block ?_)
  refine VC.keep [(5, .v y204 l), (6, I ((l.length : Nat) : Int)), (7, I ((0 : Nat) : Int))] ⟨rfl, rfl, rfl, trivial⟩ ?_
  refine VC.loop (I := fun kk ff ss => ∃ (j : Nat), kk = l.length - j ∧ ff = [(5, .v y204 l), (6, I ((l.length : Nat) : Int)), (7, I ((j : Nat) : Int))] ∧ ss = [] ∧ (j ≤ l.length) ∧ (firstE l = firstE (l.drop j))) ?_ _ _ _ ⟨0, rfl, rfl, rfl, Nat.zero_le _, (by rfl)⟩
  rintro kk ff ss ⟨j, hk0, rfl, rfl, hj, hf⟩
  refine VC.seq (VC.text ?_)
  refine VO.c (.lss) ?_
  refine VO.go (VC.seq ?_)
  refine VC.condD rfl (fun c2 => ?_) (fun c2 => ?_)
  · refine VC.skip (VC.seq (VC.block (VC.seq (VC.text ?_))))
    refine VO.c (.ix (j := j) rfl rfl el204 (by omega)) ?_
    refine VO.r (.ld vt32) ?_
    refine VO.c (.assign rfl) ?_
    refine VO.go (VC.seq (VC.text ?_))
    refine VO.c (.move rfl) ?_
    refine VO.c (.neq) ?_
    refine VO.go ?_
    refine VC.condD rfl (fun c4 => ?_) (fun c4 => ?_)
    · refine VC.seq (VC.text ?_)
      refine VO.c (.move rfl) ?_
      refine VO.c (.assign rfl) ?_
      refine VO.go ?_
      refine VC.ret ?_
      exact VEnd.one rfl evT (pvI (by rw [hf, firstE_drop (by omega), if_neg c4]))
    refine VC.skip (VC.text ?_)
    refine VO.c (.add rfl rfl (by omega)) ?_
    refine VO.c (.move rfl) ?_
    refine VO.nil ?_
    refine ⟨_, [(5, .v y204 l), (6, I ((l.length : Nat) : Int)), (7, I (((j + 1) : Nat) : Int))], ?_, ⟨rfl, rfl, rfl, trivial⟩, (j + 1), rfl, rfl, rfl, (by omega), (by rw [hf, firstE_drop (by omega), if_pos (by simpa using c4)])⟩
    omega
  refine VC.exit (VC.seq (VC.text ?_))
  refine VO.c (.assign rfl) ?_
  refine VO.go ?_
  refine VC.ret ?_
  exact VEnd.one rfl evT (pvI (by rw [hf, firstE_end (by omega)]))
theorem rFirst_ok {l : List Int} (hl : l.length < 1000000) : VF Tryz.prog OA 19 [.v y39 l] (I (firstE l)) := by
  refine VF.enter Tryz.func19 rfl (fun _ _ => rfl) rfl ?_
  show VC _ _ _ _ _ [(0, .v y39 l)] [] _
  refine VC.seq (VC.text ?_)
  refine VO.c (.assign rfl) ?_
  refine VO.go (VC.seq (VC.seq (VC.text ?_)))
  refine VO.c (.assign rfl) ?_
  refine VO.go (VC.block ?_)
  refine VC.keep [(0, .v y39 l), (3, I ((0 : Nat) : Int))] ⟨rfl, rfl, trivial⟩ ?_
  refine VC.loop (I := fun kk ff ss => ∃ (j : Nat), kk = l.length - j ∧ ff = [(0, .v y39 l), (3, I ((j : Nat) : Int))] ∧ ss = [] ∧ (j ≤ l.length) ∧ (firstE l = firstE (l.drop j))) ?_ _ _ _ ⟨0, rfl, rfl, rfl, Nat.zero_le _, (by rfl)⟩
  rintro kk ff ss ⟨j, hk0, rfl, rfl, hj, hf⟩
  refine VC.seq (VC.seq (VC.text ?_))
  refine VO.c (.move rfl) ?_
  refine VO.c (.move rfl) ?_
  refine VO.r (.len el39) ?_
  refine VO.c (.lss) ?_
  refine VO.go ?_
  refine VC.condD rfl (fun c2 => ?_) (fun c2 => ?_)
  · refine VC.skip (VC.seq (VC.block (VC.seq (VC.text ?_))))
    refine VO.c (.move rfl) ?_
    refine VO.c (.move rfl) ?_
    refine VO.c (.ix (j := j) rfl rfl el39 (by omega)) ?_
    refine VO.r (.ld vt3) ?_
    refine VO.c (.neq) ?_
    refine VO.go ?_
    refine VC.condD rfl (fun c4 => ?_) (fun c4 => ?_)
    · refine VC.seq (VC.text ?_)
      refine VO.c (.move rfl) ?_
      refine VO.c (.move rfl) ?_
      refine VO.c (.ix (j := j) rfl rfl el39 (by omega)) ?_
      refine VO.r (.ld vt3) ?_
      refine VO.c (.assign rfl) ?_
      refine VO.go ?_
      refine VC.ret ?_
      exact VEnd.one rfl evT (pvI (by rw [hf, firstE_drop (by omega), if_neg c4]))
    refine VC.skip (VC.text ?_)
    refine VO.c (.move rfl) ?_
    refine VO.c (.add rfl rfl (by omega)) ?_
    refine VO.c (.assign rfl) ?_
    refine VO.nil ?_
    refine ⟨_, [(0, .v y39 l), (3, I (((j + 1) : Nat) : Int))], ?_, ⟨rfl, rfl, trivial⟩, (j + 1), rfl, rfl, rfl, (by omega), (by rw [hf, firstE_drop (by omega), if_pos (by simpa using c4)])⟩
    omega
  refine VC.exit (VC.seq (VC.text ?_))
  refine VO.c (.assign rfl) ?_
  refine VO.go ?_
  refine VC.ret ?_
  exact VEnd.one rfl evT (pvI (by rw [hf, firstE_end (by omega)]))
end Go.Proofs
namespace Go.Proofs
open Go.Fs Ieee
set_option linter.unusedVariables false

def letterB (c : Int) : Bool := decide (65 ≤ c ∧ c ≤ 90 ∨ 97 ≤ c ∧ c ≤ 122)
def otherB (c : Int) : Bool := decide (48 ≤ c ∧ c ≤ 57 ∨ c = 95)
def byteB (c : Int) (i : Nat) : Bool := letterB c || (decide (i ≠ 0) && otherB c)
def nameB (s : ByteArray) : Bool := decide (s.size ≠ 0 ∧ s.size ≤ 24 ∧ ∀ i, i < s.size → byteB (byteE s i) i = true)
theorem nameB_f {s : ByteArray} {i : Nat} (hi : i < s.size) (h : byteB (byteE s i) i = false) : false = nameB s := by
  refine (decide_eq_false fun hh => ?_).symm
  rw [hh.2.2 i hi] at h; cases h
theorem nameB_t {s : ByteArray} (h1 : s.size ≠ 0) (h2 : s.size ≤ 24) (h : ∀ i, i < s.size → byteB (byteE s i) i = true) : true = nameB s := (decide_eq_true ⟨h1, h2, h⟩).symm
theorem size_empty {s : ByteArray} : s ≠ ByteArray.empty ↔ s.size ≠ 0 := by
  constructor
  · intro h e
    exact h (ByteArray.ext (Array.eq_empty_of_size_eq_zero e))
  rintro h rfl; exact h rfl
theorem byteB_high {c : Int} {i : Nat} (h : 128 ≤ c) : byteB c i = false := by
  have h1 : letterB c = false := decide_eq_false (by omega)
  have h2 : otherB c = false := decide_eq_false (by omega)
  rw [byteB, h1, h2]; simp
theorem rune_f {s : ByteArray} {p : Nat} (h : byteB ((Utf8.decode s p).1 : Nat) p = false) : byteB (byteE s p) p = false := by
  by_cases hl : (s.get! p).toNat < 128
  · rw [decode_low hl] at h; exact h
  exact byteB_high (by rw [byteE_nat]; omega)
theorem rune_t {s : ByteArray} {p : Nat} (h : byteB ((Utf8.decode s p).1 : Nat) p = true) : byteB (byteE s p) p = true ∧ (Utf8.decode s p).2 = 1 := by
  by_cases hl : (s.get! p).toNat < 128
  · rw [decode_low hl] at h ⊢; exact ⟨h, rfl⟩
  have := decode_high hl
  rw [byteB_high (by omega)] at h; cases h
theorem name_end {s : ByteArray} (h : ∀ i, i < s.size → byteB (byteE s i) i = true) : (decide (s ≠ ByteArray.empty) && decide (((s.size : Nat) : Int) ≤ 24)) = nameB s := by
  rw [← Bool.decide_and]
  exact decide_eq_decide.2 ⟨fun hh => ⟨size_empty.1 hh.1, by omega, h⟩, fun hh => ⟨size_empty.2 hh.1, by omega⟩⟩
theorem gName_ok {s : ByteArray} : VF Tryz.prog OA 153 [St s] (B (nameB s)) := by
  refine VF.enter Tryz.func153 rfl (fun _ _ => rfl) rfl ?_
  show VC _ _ _ _ _ [(0, St s)] [] _
  refine VC.seq (VC.text ?_)
  refine VO.c (.assign rfl) ?_
  refine VO.go (VC.seq (VC.seq (VC.text ?_)))
  refine VO.c (.move rfl) ?_
  refine VO.cell (.rng) ?_
  intro ww1
  refine VO.go (VC.block ?_)
  refine VC.keep [(0, St s), (8, .raw ww1)] ⟨rfl, rfl, trivial⟩ ?_
  refine VC.loop (I := fun kk ff ss => ∃ (p : Nat), kk = s.size - p ∧ ff = [(0, St s), (8, .raw ww1)] ∧ ss = [(ww1, .it s p)] ∧ (p ≤ s.size) ∧ (∀ i, i < p → byteB (byteE s i) i = true)) ?_ _ _ _ ⟨0, rfl, rfl, rfl, Nat.zero_le _, (by intro i hi; omega)⟩
  rintro kk ff ss ⟨p, hk0, rfl, rfl, hp, hq⟩
  refine VC.seq (VC.text ?_)
  refine VO.next rfl (fun h2_0 => ?_) (fun h2_0 => ?_)
  · refine VO.c (.extract) ?_
    refine VO.go (VC.seq ?_)
    refine VC.condT rfl ?_
    refine VC.skip (VC.block (VC.seq (VC.text ?_)))
    refine VO.c (.extract) ?_
    refine VO.c (.extract) ?_
    refine VO.c (.assign rfl) ?_
    refine VO.c (.assign rfl) ?_
    refine VO.go (VC.seq ?_)
    refine VC.join [(0, St s), (3, I ((p : Nat) : Int)), (4, .v (.int .i32) (((Utf8.decode s p).1 : Nat) : Int)), (5, B (letterB ((Utf8.decode s p).1 : Nat))), (8, .raw ww1)] [(ww1, .it s (p + (Utf8.decode s p).2))] ?_ ?_
    · skip
      refine VC.text ?_
      refine VO.c (.move rfl) ?_
      refine VO.c (.geq) ?_
      refine VO.c (.move rfl) ?_
      refine VO.splitD (x := 15) rfl (fun g4_2 => ?_) (fun g4_2 => ?_)
      · refine VO.c (.move rfl) ?_
        refine VO.c (.leq) ?_
        refine VO.c (.pickT rfl rfl) ?_
        refine VO.c (.move rfl) ?_
        refine VO.splitD (x := 19) rfl (fun g4_6 => ?_) (fun g4_6 => ?_)
        · refine VO.skip ?_
          refine VO.skip ?_
          refine VO.skip ?_
          refine VO.skip ?_
          refine VO.skip ?_
          refine VO.skip ?_
          refine VO.c (.pickT rfl rfl) ?_
          refine VO.c (.assign rfl) ?_
          refine VO.nil ?_
          exact ⟨⟨rfl, rfl, rfl, slE rfl (by rw [Bool.eq_iff_iff]; simp [letterB] <;> omega), rfl, trivial⟩, rfl⟩
        refine VO.c (.move rfl) ?_
        refine VO.c (.geq) ?_
        refine VO.c (.move rfl) ?_
        refine VO.cg (r := decide ((97 : Int) ≤ (((Utf8.decode s p).1 : Nat) : Int))) (w := true) [] trivial (fun hgd => have g4_9 : (97 : Int) ≤ (((Utf8.decode s p).1 : Nat) : Int) := (by simpa using hgd); (.move rfl)) ?_
        refine VO.cg (r := decide ((97 : Int) ≤ (((Utf8.decode s p).1 : Nat) : Int))) (w := true) [(23, .v (.int .i32) (((Utf8.decode s p).1 : Nat) : Int))] ⟨rfl, trivial⟩ (fun hgd => have g4_9 : (97 : Int) ≤ (((Utf8.decode s p).1 : Nat) : Int) := (by simpa using hgd); (.leq)) ?_
        refine VO.c (.and) ?_
        refine VO.c (.pickF rfl rfl) ?_
        refine VO.c (.assign rfl) ?_
        refine VO.nil ?_
        exact ⟨⟨rfl, rfl, rfl, slE rfl (by rw [Bool.eq_iff_iff]; simp [letterB] <;> omega), rfl, trivial⟩, rfl⟩
      refine VO.skip ?_
      refine VO.skip ?_
      refine VO.c (.pickF rfl rfl) ?_
      refine VO.c (.move rfl) ?_
      refine VO.c (.move rfl) ?_
      refine VO.c (.geq) ?_
      refine VO.c (.move rfl) ?_
      refine VO.cg (r := decide ((97 : Int) ≤ (((Utf8.decode s p).1 : Nat) : Int))) (w := true) [] trivial (fun hgd => have g4_9 : (97 : Int) ≤ (((Utf8.decode s p).1 : Nat) : Int) := (by simpa using hgd); (.move rfl)) ?_
      refine VO.cg (r := decide ((97 : Int) ≤ (((Utf8.decode s p).1 : Nat) : Int))) (w := true) [(23, .v (.int .i32) (((Utf8.decode s p).1 : Nat) : Int))] ⟨rfl, trivial⟩ (fun hgd => have g4_9 : (97 : Int) ≤ (((Utf8.decode s p).1 : Nat) : Int) := (by simpa using hgd); (.leq)) ?_
      refine VO.c (.and) ?_
      refine VO.c (.pickF rfl rfl) ?_
      refine VO.c (.assign rfl) ?_
      refine VO.nil ?_
      exact ⟨⟨rfl, rfl, rfl, slE rfl (by rw [Bool.eq_iff_iff]; simp [letterB] <;> omega), rfl, trivial⟩, rfl⟩
    refine VC.seq ?_
    refine VC.join [(0, St s), (3, I ((p : Nat) : Int)), (5, B (letterB ((Utf8.decode s p).1 : Nat))), (6, B (otherB ((Utf8.decode s p).1 : Nat))), (8, .raw ww1)] [(ww1, .it s (p + (Utf8.decode s p).2))] ?_ ?_
    · skip
      refine VC.text ?_
      refine VO.c (.move rfl) ?_
      refine VO.c (.geq) ?_
      refine VO.c (.move rfl) ?_
      refine VO.splitD (x := 29) rfl (fun g5_2 => ?_) (fun g5_2 => ?_)
      · refine VO.c (.move rfl) ?_
        refine VO.c (.leq) ?_
        refine VO.c (.pickT rfl rfl) ?_
        refine VO.c (.move rfl) ?_
        refine VO.cg (r := decide ((((Utf8.decode s p).1 : Nat) : Int) ≤ (57 : Int))) (w := false) [] trivial (fun hgd => have g5_6 : ¬ ((((Utf8.decode s p).1 : Nat) : Int) ≤ (57 : Int)) := (by simpa using hgd); (.move rfl)) ?_
        refine VO.cg (r := decide ((((Utf8.decode s p).1 : Nat) : Int) ≤ (57 : Int))) (w := false) [(34, .v (.int .i32) (((Utf8.decode s p).1 : Nat) : Int))] ⟨rfl, trivial⟩ (fun hgd => have g5_6 : ¬ ((((Utf8.decode s p).1 : Nat) : Int) ≤ (57 : Int)) := (by simpa using hgd); (.eql)) ?_
        refine VO.c (.or) ?_
        refine VO.c (.assign rfl) ?_
        refine VO.nil ?_
        exact ⟨⟨rfl, rfl, rfl, slE rfl (by rw [Bool.eq_iff_iff]; simp [otherB] <;> omega), rfl, trivial⟩, rfl⟩
      refine VO.skip ?_
      refine VO.skip ?_
      refine VO.c (.pickF rfl rfl) ?_
      refine VO.c (.move rfl) ?_
      refine VO.c (.move rfl) ?_
      refine VO.c (.eql) ?_
      refine VO.c (.pickF rfl rfl) ?_
      refine VO.c (.assign rfl) ?_
      refine VO.nil ?_
      exact ⟨⟨rfl, rfl, rfl, slE rfl (by rw [Bool.eq_iff_iff]; simp [otherB] <;> omega), rfl, trivial⟩, rfl⟩
    refine VC.seq ?_
    refine VC.join [(0, St s), (8, .raw ww1), (46, B (!byteB ((Utf8.decode s p).1 : Nat) p))] [(ww1, .it s (p + (Utf8.decode s p).2))] ?_ ?_
    · skip
      refine VC.text ?_
      refine VO.c (.move rfl) ?_
      refine VO.c (.not) ?_
      refine VO.c (.move rfl) ?_
      refine VO.splitB (x := 39) rfl (fun g6_2 => ?_) (fun g6_2 => ?_)
      · try simp only [Bool.and_eq_true, Bool.or_eq_true, Bool.and_eq_false_iff, Bool.or_eq_false_iff, Bool.not_eq_true', Bool.not_eq_false', decide_eq_true_eq, decide_eq_false_iff_not] at g6_2
        refine VO.c (.move rfl) ?_
        refine VO.c (.eql) ?_
        refine VO.c (.move rfl) ?_
        refine VO.cg (r := decide (((p : Nat) : Int) = (0 : Int))) (w := false) [] trivial (fun hgd => have g6_5 : ¬ (((p : Nat) : Int) = (0 : Int)) := (by simpa using hgd); (.move rfl)) ?_
        refine VO.cg (r := decide (((p : Nat) : Int) = (0 : Int))) (w := false) [(43, B (otherB ((Utf8.decode s p).1 : Nat)))] ⟨rfl, trivial⟩ (fun hgd => have g6_5 : ¬ (((p : Nat) : Int) = (0 : Int)) := (by simpa using hgd); (.not)) ?_
        refine VO.c (.or) ?_
        refine VO.c (.pickT rfl rfl) ?_
        refine VO.nil ?_
        exact ⟨⟨rfl, rfl, slE rfl (by simp [byteB, *]), trivial⟩, rfl⟩
      try simp only [Bool.and_eq_true, Bool.or_eq_true, Bool.and_eq_false_iff, Bool.or_eq_false_iff, Bool.not_eq_true', Bool.not_eq_false', decide_eq_true_eq, decide_eq_false_iff_not] at g6_2
      refine VO.skip ?_
      refine VO.skip ?_
      refine VO.skip ?_
      refine VO.skip ?_
      refine VO.skip ?_
      refine VO.skip ?_
      refine VO.c (.pickF rfl rfl) ?_
      refine VO.nil ?_
      exact ⟨⟨rfl, rfl, slE rfl (by simp [byteB, *]), trivial⟩, rfl⟩
    refine VC.condB rfl (fun c6 => ?_) (fun c6 => ?_)
    · try simp only [Bool.and_eq_true, Bool.or_eq_true, Bool.and_eq_false_iff, Bool.or_eq_false_iff, Bool.not_eq_true', Bool.not_eq_false', decide_eq_true_eq, decide_eq_false_iff_not] at c6
      refine VC.seq (VC.text ?_)
      refine VO.c (.assign rfl) ?_
      refine VO.go ?_
      refine VC.ret ?_
      exact VEnd.one rfl evT (pvE (by exact nameB_f h2_0 (rune_f c6)))
    try simp only [Bool.and_eq_true, Bool.or_eq_true, Bool.and_eq_false_iff, Bool.or_eq_false_iff, Bool.not_eq_true', Bool.not_eq_false', decide_eq_true_eq, decide_eq_false_iff_not] at c6
    refine VC.skip ?_
    refine ⟨_, [(0, St s), (8, .raw ww1)], ?_, ⟨rfl, rfl, trivial⟩, (p + 1), rfl, rfl, (by rw [(rune_t c6).2]), (by omega), (by intro i hi; rcases Nat.lt_succ_iff_lt_or_eq.1 hi with h | h; exact hq i h; subst h; exact (rune_t c6).1)⟩
    omega
  refine VO.c (.ext0) ?_
  refine VO.go (VC.seq ?_)
  refine VC.condF rfl ?_
  refine VC.exit (VC.seq (VC.text ?_))
  refine VO.c (.move rfl) ?_
  refine VO.c (.sneq) ?_
  refine VO.c (.move rfl) ?_
  refine VO.cg (r := decide (s ≠ ByteArray.empty)) (w := true) [] trivial (fun hgd => have g8_2 : s ≠ ByteArray.empty := (by simpa using hgd); (.move rfl)) ?_
  refine VO.rg (r := decide (s ≠ ByteArray.empty)) (w := true) [(50, St s)] ⟨rfl, trivial⟩ (fun hgd => have g8_2 : s ≠ ByteArray.empty := (by simpa using hgd); (.lenS)) ?_
  refine VO.cg (r := decide (s ≠ ByteArray.empty)) (w := true) [(51, I ((s.size : Nat) : Int))] ⟨rfl, trivial⟩ (fun hgd => have g8_2 : s ≠ ByteArray.empty := (by simpa using hgd); (.leq)) ?_
  refine VO.c (.and) ?_
  refine VO.c (.assign rfl) ?_
  refine VO.go ?_
  refine VC.ret ?_
  exact VEnd.one rfl evT (pvE (by exact name_end (fun i hi => hq i (by omega))))
theorem rName_ok {s : ByteArray} : VF Tryz.prog OA 152 [St s] (B (nameB s)) := by
  refine VF.enter Tryz.func152 rfl (fun _ _ => rfl) rfl ?_
  show VC _ _ _ _ _ [(0, St s)] [] _
  refine VC.seq (VC.text ?_)
  refine VO.c (.assign rfl) ?_
  refine VO.go (VC.seq (VC.seq (VC.text ?_)))
  refine VO.c (.move rfl) ?_
  refine VO.r (.lenS) ?_
  refine VO.c (.eql) ?_
  refine VO.c (.move rfl) ?_
  refine VO.cg (r := decide (((s.size : Nat) : Int) = (0 : Int))) (w := false) [] trivial (fun hgd => have g1_3 : ¬ (((s.size : Nat) : Int) = (0 : Int)) := (by simpa using hgd); (.move rfl)) ?_
  refine VO.rg (r := decide (((s.size : Nat) : Int) = (0 : Int))) (w := false) [(9, St s)] ⟨rfl, trivial⟩ (fun hgd => have g1_3 : ¬ (((s.size : Nat) : Int) = (0 : Int)) := (by simpa using hgd); (.lenS)) ?_
  refine VO.cg (r := decide (((s.size : Nat) : Int) = (0 : Int))) (w := false) [(10, I ((s.size : Nat) : Int))] ⟨rfl, trivial⟩ (fun hgd => have g1_3 : ¬ (((s.size : Nat) : Int) = (0 : Int)) := (by simpa using hgd); (.gtr)) ?_
  refine VO.c (.or) ?_
  refine VO.go ?_
  refine VC.condB rfl (fun c1 => ?_) (fun c1 => ?_)
  · try simp only [Bool.and_eq_true, Bool.or_eq_true, Bool.and_eq_false_iff, Bool.or_eq_false_iff, Bool.not_eq_true', Bool.not_eq_false', decide_eq_true_eq, decide_eq_false_iff_not] at c1
    refine VC.seq (VC.text ?_)
    refine VO.c (.assign rfl) ?_
    refine VO.go ?_
    refine VC.ret ?_
    exact VEnd.one rfl evT (pvE (by exact (decide_eq_false fun hh => by have := hh.1; have := hh.2.1; omega).symm))
  try simp only [Bool.and_eq_true, Bool.or_eq_true, Bool.and_eq_false_iff, Bool.or_eq_false_iff, Bool.not_eq_true', Bool.not_eq_false', decide_eq_true_eq, decide_eq_false_iff_not] at c1
  refine VC.skip (VC.seq (VC.seq (VC.text ?_)))
  refine VO.c (.assign rfl) ?_
  refine VO.go (VC.block ?_)
  refine VC.keep [(0, St s), (3, I ((0 : Nat) : Int))] ⟨rfl, rfl, trivial⟩ ?_
  refine VC.loop (I := fun kk ff ss => ∃ (i : Nat), kk = s.size - i ∧ ff = [(0, St s), (3, I ((i : Nat) : Int))] ∧ ss = [] ∧ (i ≤ s.size) ∧ (∀ k, k < i → byteB (byteE s k) k = true)) ?_ _ _ _ ⟨0, rfl, rfl, rfl, Nat.zero_le _, (by intro k hk; omega)⟩
  rintro kk ff ss ⟨i, hk0, rfl, rfl, hi, hq⟩
  refine VC.seq (VC.seq (VC.text ?_))
  refine VO.c (.move rfl) ?_
  refine VO.c (.move rfl) ?_
  refine VO.r (.lenS) ?_
  refine VO.c (.lss) ?_
  refine VO.go ?_
  refine VC.condD rfl (fun c4 => ?_) (fun c4 => ?_)
  · refine VC.skip (VC.seq (VC.block (VC.seq (VC.text ?_))))
    refine VO.c (.move rfl) ?_
    refine VO.c (.move rfl) ?_
    refine VO.c (.ixS rfl rfl (by omega) (by omega)) ?_
    refine VO.c (.assign rfl) ?_
    refine VO.go (VC.seq (VC.seq ?_))
    refine VC.join [(0, St s), (3, I ((i : Nat) : Int)), (4, .v (.int .u8) (byteE s ((i : Nat) : Int))), (35, B (letterB (byteE s i)))] [] ?_ ?_
    · skip
      refine VC.text ?_
      refine VO.c (.move rfl) ?_
      refine VO.c (.geq) ?_
      refine VO.c (.move rfl) ?_
      refine VO.splitD (x := 24) rfl (fun g7_2 => ?_) (fun g7_2 => ?_)
      · refine VO.c (.move rfl) ?_
        refine VO.c (.leq) ?_
        refine VO.c (.pickT rfl rfl) ?_
        refine VO.c (.move rfl) ?_
        refine VO.splitD (x := 28) rfl (fun g7_6 => ?_) (fun g7_6 => ?_)
        · refine VO.skip ?_
          refine VO.skip ?_
          refine VO.skip ?_
          refine VO.skip ?_
          refine VO.skip ?_
          refine VO.skip ?_
          refine VO.c (.pickT rfl rfl) ?_
          refine VO.nil ?_
          exact ⟨⟨rfl, rfl, rfl, slE rfl (by rw [Bool.eq_iff_iff]; simp [letterB] <;> omega), trivial⟩, rfl⟩
        refine VO.c (.move rfl) ?_
        refine VO.c (.geq) ?_
        refine VO.c (.move rfl) ?_
        refine VO.cg (r := decide ((65 : Int) ≤ (byteE s ((i : Nat) : Int)))) (w := true) [] trivial (fun hgd => have g7_9 : (65 : Int) ≤ (byteE s ((i : Nat) : Int)) := (by simpa using hgd); (.move rfl)) ?_
        refine VO.cg (r := decide ((65 : Int) ≤ (byteE s ((i : Nat) : Int)))) (w := true) [(32, .v (.int .u8) (byteE s ((i : Nat) : Int)))] ⟨rfl, trivial⟩ (fun hgd => have g7_9 : (65 : Int) ≤ (byteE s ((i : Nat) : Int)) := (by simpa using hgd); (.leq)) ?_
        refine VO.c (.and) ?_
        refine VO.c (.pickF rfl rfl) ?_
        refine VO.nil ?_
        exact ⟨⟨rfl, rfl, rfl, slE rfl (by rw [Bool.eq_iff_iff]; simp [letterB] <;> omega), trivial⟩, rfl⟩
      refine VO.skip ?_
      refine VO.skip ?_
      refine VO.c (.pickF rfl rfl) ?_
      refine VO.c (.move rfl) ?_
      refine VO.c (.move rfl) ?_
      refine VO.c (.geq) ?_
      refine VO.c (.move rfl) ?_
      refine VO.cg (r := decide ((65 : Int) ≤ (byteE s ((i : Nat) : Int)))) (w := true) [] trivial (fun hgd => have g7_9 : (65 : Int) ≤ (byteE s ((i : Nat) : Int)) := (by simpa using hgd); (.move rfl)) ?_
      refine VO.cg (r := decide ((65 : Int) ≤ (byteE s ((i : Nat) : Int)))) (w := true) [(32, .v (.int .u8) (byteE s ((i : Nat) : Int)))] ⟨rfl, trivial⟩ (fun hgd => have g7_9 : (65 : Int) ≤ (byteE s ((i : Nat) : Int)) := (by simpa using hgd); (.leq)) ?_
      refine VO.c (.and) ?_
      refine VO.c (.pickF rfl rfl) ?_
      refine VO.nil ?_
      exact ⟨⟨rfl, rfl, rfl, slE rfl (by rw [Bool.eq_iff_iff]; simp [letterB] <;> omega), trivial⟩, rfl⟩
    refine VC.condB rfl (fun c7 => ?_) (fun c7 => ?_)
    · have hok : byteB (byteE s i) i = true := by rw [byteB, c7] <;> rfl
      refine VC.exit (VC.text ?_)
      refine VO.c (.move rfl) ?_
      refine VO.c (.add rfl rfl (by omega)) ?_
      refine VO.c (.assign rfl) ?_
      refine VO.nil ?_
      refine ⟨_, [(0, St s), (3, I (((i + 1) : Nat) : Int))], ?_, ⟨rfl, rfl, trivial⟩, (i + 1), rfl, rfl, rfl, (by omega), (by intro k hk; rcases Nat.lt_succ_iff_lt_or_eq.1 hk with h | h; exact hq k h; subst h; exact hok)⟩
      omega
    refine VC.skip (VC.seq ?_)
    refine VC.join [(0, St s), (3, I ((i : Nat) : Int)), (49, B (!(decide (i ≠ 0) && otherB (byteE s i))))] [] ?_ ?_
    · skip
      refine VC.text ?_
      refine VO.c (.move rfl) ?_
      refine VO.c (.eql) ?_
      refine VO.c (.move rfl) ?_
      refine VO.splitD (x := 38) rfl (fun g8_2 => ?_) (fun g8_2 => ?_)
      · refine VO.skip ?_
        refine VO.skip ?_
        refine VO.skip ?_
        refine VO.skip ?_
        refine VO.skip ?_
        refine VO.skip ?_
        refine VO.skip ?_
        refine VO.skip ?_
        refine VO.skip ?_
        refine VO.skip ?_
        refine VO.c (.pickT rfl rfl) ?_
        refine VO.nil ?_
        exact ⟨⟨rfl, rfl, slE rfl (by rw [Bool.eq_iff_iff]; simp [otherB] <;> omega), trivial⟩, rfl⟩
      refine VO.c (.move rfl) ?_
      refine VO.c (.neq) ?_
      refine VO.c (.move rfl) ?_
      refine VO.splitD (x := 41) rfl (fun g8_5 => ?_) (fun g8_5 => ?_)
      · refine VO.c (.move rfl) ?_
        refine VO.c (.lss) ?_
        refine VO.c (.move rfl) ?_
        refine VO.cg (r := decide ((byteE s ((i : Nat) : Int)) < (48 : Int))) (w := false) [] trivial (fun hgd => have g8_8 : ¬ ((byteE s ((i : Nat) : Int)) < (48 : Int)) := (by simpa using hgd); (.move rfl)) ?_
        refine VO.cg (r := decide ((byteE s ((i : Nat) : Int)) < (48 : Int))) (w := false) [(45, .v (.int .u8) (byteE s ((i : Nat) : Int)))] ⟨rfl, trivial⟩ (fun hgd => have g8_8 : ¬ ((byteE s ((i : Nat) : Int)) < (48 : Int)) := (by simpa using hgd); (.gtr)) ?_
        refine VO.c (.or) ?_
        refine VO.c (.pickT rfl rfl) ?_
        refine VO.c (.pickF rfl rfl) ?_
        refine VO.nil ?_
        exact ⟨⟨rfl, rfl, slE rfl (by rw [Bool.eq_iff_iff]; simp [otherB] <;> omega), trivial⟩, rfl⟩
      refine VO.skip ?_
      refine VO.skip ?_
      refine VO.skip ?_
      refine VO.skip ?_
      refine VO.skip ?_
      refine VO.skip ?_
      refine VO.c (.pickF rfl rfl) ?_
      refine VO.c (.pickF rfl rfl) ?_
      refine VO.nil ?_
      exact ⟨⟨rfl, rfl, slE rfl (by rw [Bool.eq_iff_iff]; simp [otherB] <;> omega), trivial⟩, rfl⟩
    refine VC.condB rfl (fun c8 => ?_) (fun c8 => ?_)
    · try simp only [Bool.and_eq_true, Bool.or_eq_true, Bool.and_eq_false_iff, Bool.or_eq_false_iff, Bool.not_eq_true', Bool.not_eq_false', decide_eq_true_eq, decide_eq_false_iff_not] at c8
      refine VC.seq (VC.text ?_)
      refine VO.c (.assign rfl) ?_
      refine VO.go ?_
      refine VC.ret ?_
      exact VEnd.one rfl evT (pvE (by exact nameB_f (i := i) (by omega) (by simp only [byteB, c7, Bool.false_or, Bool.and_eq_false_iff, decide_eq_false_iff_not]; exact c8)))
    try simp only [Bool.and_eq_true, Bool.or_eq_true, Bool.and_eq_false_iff, Bool.or_eq_false_iff, Bool.not_eq_true', Bool.not_eq_false', decide_eq_true_eq, decide_eq_false_iff_not] at c8
    have hok : byteB (byteE s i) i = true := by simp [byteB, *]
    refine VC.skip (VC.text ?_)
    refine VO.c (.move rfl) ?_
    refine VO.c (.add rfl rfl (by omega)) ?_
    refine VO.c (.assign rfl) ?_
    refine VO.nil ?_
    refine ⟨_, [(0, St s), (3, I (((i + 1) : Nat) : Int))], ?_, ⟨rfl, rfl, trivial⟩, (i + 1), rfl, rfl, rfl, (by omega), (by intro k hk; rcases Nat.lt_succ_iff_lt_or_eq.1 hk with h | h; exact hq k h; subst h; exact hok)⟩
    omega
  refine VC.exit (VC.seq (VC.text ?_))
  refine VO.c (.assign rfl) ?_
  refine VO.go ?_
  refine VC.ret ?_
  exact VEnd.one rfl evT (pvE (by exact nameB_t (by omega) (by omega) (fun k hk => hq k (by omega))))
theorem rNameE_ok {s : ByteArray} : VF Tryz.prog OA 91 [St s] (I (whenE (!nameB s) 8)) := by
  refine VF.enter Tryz.func91 rfl (fun _ _ => rfl) rfl ?_
  show VC _ _ _ _ _ [(0, St s)] [] _
  refine VC.seq (VC.text ?_)
  refine VO.c (.assign rfl) ?_
  refine VO.go (VC.seq (VC.seq (VC.text ?_)))
  refine VO.c (.move rfl) ?_
  refine VO.call rfl rfl (VF.call (rName_ok )) ?_
  refine VO.c (.not) ?_
  refine VO.go ?_
  refine VC.condB rfl (fun c1 => ?_) (fun c1 => ?_)
  · try simp only [Bool.and_eq_true, Bool.or_eq_true, Bool.and_eq_false_iff, Bool.or_eq_false_iff, Bool.not_eq_true', Bool.not_eq_false', decide_eq_true_eq, decide_eq_false_iff_not] at c1
    refine VC.seq (VC.text ?_)
    refine VO.c (.assign rfl) ?_
    refine VO.go ?_
    refine VC.ret ?_
    exact VEnd.one rfl evT (pvI (by simp [whenE, *]))
  try simp only [Bool.and_eq_true, Bool.or_eq_true, Bool.and_eq_false_iff, Bool.or_eq_false_iff, Bool.not_eq_true', Bool.not_eq_false', decide_eq_true_eq, decide_eq_false_iff_not] at c1
  refine VC.skip (VC.seq (VC.text ?_))
  refine VO.c (.assign rfl) ?_
  refine VO.go ?_
  refine VC.ret ?_
  exact VEnd.one rfl evT (pvI (by simp [whenE, *]))
end Go.Proofs
namespace Go.Proofs
open Go.Fs
set_option linter.unusedVariables false
theorem vt9 : ValT Tryz.prog 9 .str := valT_of (by kernel_rfl)
theorem el27 : ElT Tryz.prog 27 9 .str := elT_of (by kernel_rfl)
theorem sNm_ok {s : ByteArray} : VF Tryz.prog OA 93 [St s] (I (whenE (!nameB s) 8)) := by
  refine VF.enter Tryz.func93 rfl (fun _ _ => rfl) rfl ?_
  show VC _ _ _ _ _ [(0, St s)] [] _
  refine VC.seq (VC.text ?_)
  refine VO.c (.assign rfl) ?_
  refine VO.go (VC.seq (VC.text ?_))
  refine VO.c (.move rfl) ?_
  refine VO.call rfl rfl (VF.call (gName_ok )) ?_
  refine VO.c (.not) ?_
  refine VO.call rfl rfl (VF.call (sWhen_ok )) ?_
  refine VO.c (.assign rfl) ?_
  refine VO.go ?_
  refine VC.ret ?_
  exact VEnd.one rfl evT (pvI (by rfl))
end Go.Proofs
namespace Go.Proofs
open Go.Fs
set_option linter.unusedVariables false
theorem vt27 : ValT Tryz.prog 27 (.sl .str) := valT_of (by kernel_rfl)
theorem zt9 : ZerT Tryz.prog 9 .str := zerT_of (z := .string ByteArray.empty) (by kernel_rfl) rfl rfl
theorem firstE_app : ∀ xs ys : List Int, firstE (xs ++ ys) = if firstE xs = 0 then firstE ys else firstE xs
  | [], ys => by simp [firstE]
  | x :: xs, ys => by
    have e1 : firstE (x :: xs ++ ys) = if x = 0 then firstE (xs ++ ys) else x := rfl
    have e2 : firstE (x :: xs) = if x = 0 then firstE xs else x := rfl
    by_cases h : x = 0
    · rw [if_pos h] at e1 e2
      rw [e1, e2]
      exact firstE_app xs ys
    rw [if_neg h] at e1 e2
    rw [e1, e2, if_neg h]
variable {p : ByteArray × ByteArray × ByteArray × List ByteArray × Int × Int}
theorem firstE_one {x : Int} : firstE [x] = x := by
  simp only [firstE]
  by_cases h : x = 0 <;> simp [h]
theorem firstE_two {x y : Int} : firstE [x, y] = if x = 0 then y else x := by
  show (if x = 0 then firstE [y] else x) = _
  rw [firstE_one]
end Go.Proofs
namespace Go.Proofs
open Go.Fs
set_option linter.unusedVariables false
end Go.Proofs
namespace Go.Proofs
open Go.Fs
set_option linter.unusedVariables false
def idxG {α : Type} (F : α → Bool) : List α → Int → Int
  | [], _ => -1
  | x :: l, k => if F x = true then k else idxG F l (k + 1)
theorem idxG_drop {α : Type} {F : α → Bool} {l : List α} {j : Nat} (hj : j < l.length) : idxG F (l.drop j) (j : Nat) = if F l[j] = true then ((j : Nat) : Int) else idxG F (l.drop (j + 1)) ((j + 1 : Nat) : Int) := by
  rw [List.drop_eq_getElem_cons hj] <;> rfl
theorem idxG_end {α : Type} {F : α → Bool} {l : List α} {j : Nat} {k : Int} (hj : l.length ≤ j) : idxG F (l.drop j) k = -1 := by rw [List.drop_eq_nil_of_le hj] <;> rfl
theorem idxG_any {α : Type} {F : α → Bool} : ∀ {l : List α} {k : Int}, 0 ≤ k → ((0 ≤ idxG F l k) ↔ l.any F = true)
  | [], k, _ => by simp [idxG]
  | x :: l, k, h => by
    unfold idxG
    rw [List.any_cons]
    by_cases hx : F x = true
    · rw [if_pos hx, hx]; simp [h]
    rw [if_neg hx, idxG_any (l := l) (by omega)]; simp [hx]
theorem any_drop {α : Type} {F : α → Bool} {l : List α} {j : Nat} (hj : j < l.length) : (l.drop j).any F = (F l[j] || (l.drop (j + 1)).any F) := by
  rw [List.drop_eq_getElem_cons hj, List.any_cons]
theorem any_end {α : Type} {F : α → Bool} {l : List α} {j : Nat} (hj : l.length ≤ j) : (l.drop j).any F = false := by rw [List.drop_eq_nil_of_le hj] <;> rfl
theorem zIndexF_ok {F : ByteArray → Bool} {l : List ByteArray} {f : PV} (hl : l.length < 1000000) (hf : ∀ x ∈ l, VCall Tryz.prog OA f [.v .str x] (B (F x))) : VF Tryz.prog OA 171 [.v (.sl .str) l, f] (I (idxG F l 0)) := by
  refine VF.enter Tryz.func171 rfl (fun _ _ => rfl) rfl ?_
  show VC _ _ _ _ _ [(0, .v (.sl .str) l), (1, f)] [] _
  refine VC.seq (VC.text ?_)
  refine VO.c (.assign rfl) ?_
  refine VO.go (VC.seq (VC.seq (VC.text ?_)))
  refine VO.c (.move rfl) ?_
  refine VO.r (.len el27) ?_
  refine VO.c (.move rfl) ?_
  refine VO.go (VC.block ?_)
  refine VC.keep [(0, .v (.sl .str) l), (1, f), (7, I ((l.length : Nat) : Int)), (8, I ((0 : Nat) : Int))] ⟨rfl, rfl, rfl, rfl, trivial⟩ ?_
  refine VC.loop (I := fun kk ff ss => ∃ (j : Nat), kk = l.length - j ∧ ff = [(0, .v (.sl .str) l), (1, f), (7, I ((l.length : Nat) : Int)), (8, I ((j : Nat) : Int))] ∧ ss = [] ∧ (j ≤ l.length) ∧ (idxG F l 0 = idxG F (l.drop j) (j : Nat))) ?_ _ _ _ ⟨0, rfl, rfl, rfl, Nat.zero_le _, (by rfl)⟩
  rintro kk ff ss ⟨j, hk0, rfl, rfl, hj, hi⟩
  refine VC.seq (VC.text ?_)
  refine VO.c (.lss) ?_
  refine VO.go (VC.seq ?_)
  refine VC.condD rfl (fun c2 => ?_) (fun c2 => ?_)
  · refine VC.skip (VC.seq (VC.block (VC.seq (VC.text ?_))))
    refine VO.c (.move rfl) ?_
    refine VO.c (.assign rfl) ?_
    refine VO.go (VC.seq (VC.text ?_))
    refine VO.c (.move rfl) ?_
    refine VO.c (.move rfl) ?_
    refine VO.c (.move rfl) ?_
    refine VO.c (.ix (j := j) rfl rfl el27 (by omega)) ?_
    refine VO.r (.ld vt9) ?_
    refine VO.call rfl rfl ((hf _ (List.getElem_mem _)) ) ?_
    refine VO.go ?_
    refine VC.condB rfl (fun c4 => ?_) (fun c4 => ?_)
    · refine VC.seq (VC.text ?_)
      refine VO.c (.move rfl) ?_
      refine VO.c (.assign rfl) ?_
      refine VO.go ?_
      refine VC.ret ?_
      exact VEnd.one rfl evT (pvI (by rw [hi, idxG_drop (by omega), if_pos c4]))
    refine VC.skip (VC.text ?_)
    refine VO.c (.add rfl rfl (by omega)) ?_
    refine VO.c (.move rfl) ?_
    refine VO.nil ?_
    refine ⟨_, [(0, .v (.sl .str) l), (1, f), (7, I ((l.length : Nat) : Int)), (8, I (((j + 1) : Nat) : Int))], ?_, ⟨rfl, rfl, rfl, rfl, trivial⟩, (j + 1), rfl, rfl, rfl, (by omega), (by rw [hi, idxG_drop (by omega), if_neg (by rw [c4]; decide)])⟩
    omega
  refine VC.exit (VC.seq (VC.text ?_))
  refine VO.c (.assign rfl) ?_
  refine VO.go ?_
  refine VC.ret ?_
  exact VEnd.one rfl evT (pvI (by rw [hi, idxG_end (by omega)]))
theorem zContainsF_ok {F : ByteArray → Bool} {l : List ByteArray} {f : PV} (hl : l.length < 1000000) (hf : ∀ x ∈ l, VCall Tryz.prog OA f [.v .str x] (B (F x))) : VF Tryz.prog OA 136 [.v (.sl .str) l, f] (B (l.any F)) := by
  refine VF.enter Tryz.func136 rfl (fun _ _ => rfl) rfl ?_
  show VC _ _ _ _ _ [(0, .v (.sl .str) l), (1, f)] [] _
  refine VC.seq (VC.text ?_)
  refine VO.c (.assign rfl) ?_
  refine VO.go (VC.seq (VC.text ?_))
  refine VO.c (.move rfl) ?_
  refine VO.c (.move rfl) ?_
  refine VO.call rfl rfl (VF.call (zIndexF_ok (F := F) hl hf)) ?_
  refine VO.c (.geq) ?_
  refine VO.c (.assign rfl) ?_
  refine VO.go ?_
  refine VC.ret ?_
  exact VEnd.one rfl evT (pvE (by have h9 := idxG_any (F := F) (l := l) (k := 0) (by omega); cases h8 : l.any F <;> simp_all))
theorem zIndex_ok {l : List ByteArray} {v : ByteArray} (hl : l.length < 1000000) : VF Tryz.prog OA 163 [.v (.sl .str) l, St v] (I (idxG (fun x => decide (v = x)) l 0)) := by
  refine VF.enter Tryz.func163 rfl (fun _ _ => rfl) rfl ?_
  show VC _ _ _ _ _ [(0, .v (.sl .str) l), (1, St v)] [] _
  refine VC.seq (VC.text ?_)
  refine VO.c (.assign rfl) ?_
  refine VO.go (VC.seq (VC.seq (VC.text ?_)))
  refine VO.c (.move rfl) ?_
  refine VO.r (.len el27) ?_
  refine VO.c (.move rfl) ?_
  refine VO.go (VC.block ?_)
  refine VC.keep [(0, .v (.sl .str) l), (1, St v), (7, I ((l.length : Nat) : Int)), (8, I ((0 : Nat) : Int))] ⟨rfl, rfl, rfl, rfl, trivial⟩ ?_
  refine VC.loop (I := fun kk ff ss => ∃ (j : Nat), kk = l.length - j ∧ ff = [(0, .v (.sl .str) l), (1, St v), (7, I ((l.length : Nat) : Int)), (8, I ((j : Nat) : Int))] ∧ ss = [] ∧ (j ≤ l.length) ∧ (idxG (fun x => decide (v = x)) l 0 = idxG (fun x => decide (v = x)) (l.drop j) (j : Nat))) ?_ _ _ _ ⟨0, rfl, rfl, rfl, Nat.zero_le _, (by rfl)⟩
  rintro kk ff ss ⟨j, hk0, rfl, rfl, hj, hi⟩
  refine VC.seq (VC.text ?_)
  refine VO.c (.lss) ?_
  refine VO.go (VC.seq ?_)
  refine VC.condD rfl (fun c2 => ?_) (fun c2 => ?_)
  · refine VC.skip (VC.seq (VC.block (VC.seq (VC.text ?_))))
    refine VO.c (.move rfl) ?_
    refine VO.c (.assign rfl) ?_
    refine VO.go (VC.seq (VC.text ?_))
    refine VO.c (.move rfl) ?_
    refine VO.c (.move rfl) ?_
    refine VO.c (.move rfl) ?_
    refine VO.c (.ix (j := j) rfl rfl el27 (by omega)) ?_
    refine VO.r (.ld vt9) ?_
    refine VO.c (.seql) ?_
    refine VO.go ?_
    refine VC.condD rfl (fun c4 => ?_) (fun c4 => ?_)
    · refine VC.seq (VC.text ?_)
      refine VO.c (.move rfl) ?_
      refine VO.c (.assign rfl) ?_
      refine VO.go ?_
      refine VC.ret ?_
      exact VEnd.one rfl evT (pvI (by rw [hi, idxG_drop (by omega), if_pos (by simpa using c4)]))
    refine VC.skip (VC.text ?_)
    refine VO.c (.add rfl rfl (by omega)) ?_
    refine VO.c (.move rfl) ?_
    refine VO.nil ?_
    refine ⟨_, [(0, .v (.sl .str) l), (1, St v), (7, I ((l.length : Nat) : Int)), (8, I (((j + 1) : Nat) : Int))], ?_, ⟨rfl, rfl, rfl, rfl, trivial⟩, (j + 1), rfl, rfl, rfl, (by omega), (by rw [hi, idxG_drop (by omega), if_neg (by simpa using c4)])⟩
    omega
  refine VC.exit (VC.seq (VC.text ?_))
  refine VO.c (.assign rfl) ?_
  refine VO.go ?_
  refine VC.ret ?_
  exact VEnd.one rfl evT (pvI (by rw [hi, idxG_end (by omega)]))
def hasB (l : List ByteArray) (v : ByteArray) : Bool := l.any fun x => decide (x = v)
theorem hasB_comm {l : List ByteArray} {v : ByteArray} : (l.any fun x => decide (v = x)) = hasB l v := by
  unfold hasB
  congr 1
  funext x
  exact decide_eq_decide.2 ⟨Eq.symm, Eq.symm⟩
theorem zContains_ok {l : List ByteArray} {v : ByteArray} (hl : l.length < 1000000) : VF Tryz.prog OA 122 [.v (.sl .str) l, St v] (B (hasB l v)) := by
  refine VF.enter Tryz.func122 rfl (fun _ _ => rfl) rfl ?_
  show VC _ _ _ _ _ [(0, .v (.sl .str) l), (1, St v)] [] _
  refine VC.seq (VC.text ?_)
  refine VO.c (.assign rfl) ?_
  refine VO.go (VC.seq (VC.text ?_))
  refine VO.c (.move rfl) ?_
  refine VO.c (.move rfl) ?_
  refine VO.call rfl rfl (VF.call (zIndex_ok hl)) ?_
  refine VO.c (.geq) ?_
  refine VO.c (.assign rfl) ?_
  refine VO.go ?_
  refine VC.ret ?_
  exact VEnd.one rfl evT (pvE (by have h9 := idxG_any (F := fun x => decide (v = x)) (l := l) (k := 0) (by omega); rw [hasB_comm] at h9; cases h8 : hasB l v <;> simp_all))
theorem rHas_ok {l : List ByteArray} {s : ByteArray} (hl : l.length < 1000000) : VF Tryz.prog OA 58 [.v (.sl .str) l, St s] (B (hasB l s)) := by
  refine VF.enter Tryz.func58 rfl (fun _ _ => rfl) rfl ?_
  show VC _ _ _ _ _ [(0, .v (.sl .str) l), (1, St s)] [] _
  refine VC.seq (VC.text ?_)
  refine VO.c (.assign rfl) ?_
  refine VO.go (VC.seq (VC.seq (VC.text ?_)))
  refine VO.c (.assign rfl) ?_
  refine VO.go (VC.block ?_)
  refine VC.keep [(0, .v (.sl .str) l), (1, St s), (5, I ((0 : Nat) : Int))] ⟨rfl, rfl, rfl, trivial⟩ ?_
  refine VC.loop (I := fun kk ff ss => ∃ (j : Nat), kk = l.length - j ∧ ff = [(0, .v (.sl .str) l), (1, St s), (5, I ((j : Nat) : Int))] ∧ ss = [] ∧ (j ≤ l.length) ∧ (hasB l s = hasB (l.drop j) s)) ?_ _ _ _ ⟨0, rfl, rfl, rfl, Nat.zero_le _, (by rfl)⟩
  rintro kk ff ss ⟨j, hk0, rfl, rfl, hj, hi⟩
  refine VC.seq (VC.seq (VC.text ?_))
  refine VO.c (.move rfl) ?_
  refine VO.c (.move rfl) ?_
  refine VO.r (.len el27) ?_
  refine VO.c (.lss) ?_
  refine VO.go ?_
  refine VC.condD rfl (fun c2 => ?_) (fun c2 => ?_)
  · refine VC.skip (VC.seq (VC.block (VC.seq (VC.text ?_))))
    refine VO.c (.move rfl) ?_
    refine VO.c (.move rfl) ?_
    refine VO.c (.ix (j := j) rfl rfl el27 (by omega)) ?_
    refine VO.r (.ld vt9) ?_
    refine VO.c (.move rfl) ?_
    refine VO.c (.seql) ?_
    refine VO.go ?_
    refine VC.condD rfl (fun c4 => ?_) (fun c4 => ?_)
    · refine VC.seq (VC.text ?_)
      refine VO.c (.assign rfl) ?_
      refine VO.go ?_
      refine VC.ret ?_
      exact VEnd.one rfl evT (pvE (by rw [hi, hasB, any_drop (by omega), decide_eq_true c4] <;> rfl))
    refine VC.skip (VC.text ?_)
    refine VO.c (.move rfl) ?_
    refine VO.c (.add rfl rfl (by omega)) ?_
    refine VO.c (.assign rfl) ?_
    refine VO.nil ?_
    refine ⟨_, [(0, .v (.sl .str) l), (1, St s), (5, I (((j + 1) : Nat) : Int))], ?_, ⟨rfl, rfl, rfl, trivial⟩, (j + 1), rfl, rfl, rfl, (by omega), (by rw [hi, hasB, any_drop (by omega), decide_eq_false c4] <;> rfl)⟩
    omega
  refine VC.exit (VC.seq (VC.text ?_))
  refine VO.c (.assign rfl) ?_
  refine VO.go ?_
  refine VC.ret ?_
  exact VEnd.one rfl evT (pvE (by rw [hi, hasB, any_end (by omega)]))
end Go.Proofs
namespace Go.Proofs
open Go.Fs
set_option linter.unusedVariables false
end Go.Proofs
namespace Go.Proofs
open Go.Fs
set_option linter.unusedVariables false
theorem any_all {α : Type} {F : α → Bool} {l : List α} {j : Nat} (hj : j < l.length) : (l.drop j).all F = (F l[j] && (l.drop (j + 1)).all F) := by
  rw [List.drop_eq_getElem_cons hj, List.all_cons]
def shortW (l : List ByteArray) : Bool := l.all fun w => decide (w.size ≤ 60)
theorem rShort_ok {l : List ByteArray} (hl : l.length < 1000000) : VF Tryz.prog OA 81 [.v (.sl .str) l] (B (shortW l)) := by
  refine VF.enter Tryz.func81 rfl (fun _ _ => rfl) rfl ?_
  show VC _ _ _ _ _ [(0, .v (.sl .str) l)] [] _
  refine VC.seq (VC.text ?_)
  refine VO.c (.assign rfl) ?_
  refine VO.go (VC.seq (VC.seq (VC.text ?_)))
  refine VO.c (.assign rfl) ?_
  refine VO.go (VC.block ?_)
  refine VC.keep [(0, .v (.sl .str) l), (3, I ((0 : Nat) : Int))] ⟨rfl, rfl, trivial⟩ ?_
  refine VC.loop (I := fun kk ff ss => ∃ (j : Nat), kk = l.length - j ∧ ff = [(0, .v (.sl .str) l), (3, I ((j : Nat) : Int))] ∧ ss = [] ∧ (j ≤ l.length) ∧ (shortW l = shortW (l.drop j))) ?_ _ _ _ ⟨0, rfl, rfl, rfl, Nat.zero_le _, (by rfl)⟩
  rintro kk ff ss ⟨j, hk0, rfl, rfl, hj, hi⟩
  refine VC.seq (VC.seq (VC.text ?_))
  refine VO.c (.move rfl) ?_
  refine VO.c (.move rfl) ?_
  refine VO.r (.len el27) ?_
  refine VO.c (.lss) ?_
  refine VO.go ?_
  refine VC.condD rfl (fun c2 => ?_) (fun c2 => ?_)
  · refine VC.skip (VC.seq (VC.block (VC.seq (VC.text ?_))))
    refine VO.c (.move rfl) ?_
    refine VO.c (.move rfl) ?_
    refine VO.c (.ix (j := j) rfl rfl el27 (by omega)) ?_
    refine VO.r (.ld vt9) ?_
    refine VO.r (.lenS) ?_
    refine VO.c (.gtr) ?_
    refine VO.go ?_
    refine VC.condD rfl (fun c4 => ?_) (fun c4 => ?_)
    · refine VC.seq (VC.text ?_)
      refine VO.c (.assign rfl) ?_
      refine VO.go ?_
      refine VC.ret ?_
      exact VEnd.one rfl evT (pvE (by rw [hi, shortW, any_all (by omega), decide_eq_false (by omega)] <;> rfl))
    refine VC.skip (VC.text ?_)
    refine VO.c (.move rfl) ?_
    refine VO.c (.add rfl rfl (by omega)) ?_
    refine VO.c (.assign rfl) ?_
    refine VO.nil ?_
    refine ⟨_, [(0, .v (.sl .str) l), (3, I (((j + 1) : Nat) : Int))], ?_, ⟨rfl, rfl, trivial⟩, (j + 1), rfl, rfl, rfl, (by omega), (by rw [hi, shortW, any_all (by omega), decide_eq_true (by omega)] <;> rfl)⟩
    omega
  refine VC.exit (VC.seq (VC.text ?_))
  refine VO.c (.assign rfl) ?_
  refine VO.go ?_
  refine VC.ret ?_
  exact VEnd.one rfl evT (pvE (by rw [hi, shortW, List.drop_eq_nil_of_le (by omega)] <;> rfl))
theorem lWords_ok {l : List ByteArray} (hl : l.length < 1000000) : VF Tryz.prog OA 66 [.v (.sl .str) l] (.v (.sl .str) l) := by
  refine VF.enter Tryz.func66 rfl (fun _ _ => rfl) rfl ?_
  show VC _ _ _ _ _ [(0, .v (.sl .str) l)] [] _
  refine VC.seq (VC.text ?_)
  refine VO.c (.assign rfl) ?_
  refine VO.go (VC.seq (VC.text ?_))
  refine VO.cell (.lit0 el27) ?_
  intro ww2
  refine VO.c (.move rfl) ?_
  refine VO.app rfl rfl el27 el27 (by simp; omega) ?_
  intro ww3
  refine VO.c (.assign rfl) ?_
  refine VO.go ?_
  refine VC.ret ?_
  exact VEnd.one rfl (evC (.row m0)) (pvE (by rfl))
end Go.Proofs
namespace Go.Proofs
open Go.Fs
end Go.Proofs
namespace Go.Proofs
open Go.Fs
set_option linter.unusedVariables false

end Go.Proofs
namespace Go.Proofs
open Go.Fs
set_option linter.unusedVariables false
abbrev y60 : Ty := (.sl (.pair .str (.int .i64)))
abbrev y62 : Ty := (.sl (.pair .str (.pair .bool (.sl .str))))
abbrev y64 : Ty := (.pair (.sl (.pair .str (.int .i64))) (.pair (.sl (.pair .str (.sl (.pair .str (.int .i64))))) (.sl (.pair .str (.pair .bool (.sl .str))))))
abbrev y68 : Ty := (.sl (.pair .str (.int .i64)))
abbrev y70 : Ty := (.sl (.pair .str (.pair .bool (.sl .str))))
abbrev y72 : Ty := (.pair (.sl (.pair .str (.int .i64))) (.pair (.sl (.pair .str (.sl (.pair .str (.int .i64))))) (.sl (.pair .str (.pair .bool (.sl .str))))))
abbrev y153 : Ty := (.pair .str (.int .i64))
abbrev y156 : Ty := (.pair .str (.pair .bool (.sl .str)))
theorem vt61 : ValT Tryz.prog 61 (.sl (.pair .str (.sl (.pair .str (.int .i64))))) := valT_of (by kernel_rfl)
theorem vt68 : ValT Tryz.prog 68 y68 := valT_of (by kernel_rfl)
theorem vt70 : ValT Tryz.prog 70 y70 := valT_of (by kernel_rfl)
theorem vt153 : ValT Tryz.prog 153 y153 := valT_of (by kernel_rfl)
theorem vt156 : ValT Tryz.prog 156 y156 := valT_of (by kernel_rfl)
theorem el60 : ElT Tryz.prog 60 99 (.pair .str (.int .i64)) := elT_of (by kernel_rfl)
theorem el61 : ElT Tryz.prog 61 96 (.pair .str (.sl (.pair .str (.int .i64)))) := elT_of (by kernel_rfl)
theorem el62 : ElT Tryz.prog 62 109 (.pair .str (.pair .bool (.sl .str))) := elT_of (by kernel_rfl)
theorem el68 : ElT Tryz.prog 68 153 y153 := elT_of (by kernel_rfl)
theorem el70 : ElT Tryz.prog 70 156 y156 := elT_of (by kernel_rfl)
theorem sKeptS_ok {F : ByteArray → Bool} {l : List ByteArray} {f : PV} (hl : l.length < 100000) (hf : ∀ x ∈ l, VCall Tryz.prog OA f [.v .str x] (B (F x))) : VF Tryz.prog OA 120 [.v (.sl .str) l, f] (.v (.sl .str) (l.filter F)) := by
  refine VF.enter Tryz.func120 rfl (fun _ _ => rfl) rfl ?_
  show VC _ _ _ _ _ [(0, .v (.sl .str) l), (1, f)] [] _
  refine VC.seq (VC.text ?_)
  refine VO.c (.assign rfl) ?_
  refine VO.go (VC.seq (VC.text ?_))
  refine VO.c (.assign rfl) ?_
  refine VO.go (VC.seq (VC.seq (VC.text ?_)))
  refine VO.c (.move rfl) ?_
  refine VO.r (.len el27) ?_
  refine VO.c (.move rfl) ?_
  refine VO.go (VC.block ?_)
  refine VC.cell0 9 .str ?_
  refine VC.keep [(1, f), (5, .raw (.slice none 0 0)), (8, .v (.sl .str) l), (9, I ((l.length : Nat) : Int)), (10, I ((0 : Nat) : Int))] ⟨rfl, rfl, rfl, rfl, rfl, trivial⟩ ?_
  refine VC.loop (I := fun kk ff ss => ∃ (j : Nat) (out : Value), kk = l.length - j ∧ ff = [(1, f), (5, .raw out), (8, .v (.sl .str) l), (9, I ((l.length : Nat) : Int)), (10, I ((j : Nat) : Int))] ∧ ss = [(out, .row 9 .str ((l.take j).filter F))] ∧ (j ≤ l.length)) ?_ _ _ _ ⟨0, (.slice none 0 0), rfl, rfl, rfl, Nat.zero_le _⟩
  rintro kk ff ss ⟨j, out, hk0, rfl, rfl, hj⟩
  have hlen := List.length_filter_le F (l.take j)
  refine VC.seq (VC.text ?_)
  refine VO.c (.lss) ?_
  refine VO.go (VC.seq ?_)
  refine VC.condD rfl (fun c3 => ?_) (fun c3 => ?_)
  · refine VC.skip (VC.seq (VC.block (VC.seq (VC.text ?_))))
    refine VO.c (.ix (j := j) rfl rfl el27 (by omega)) ?_
    refine VO.r (.ld vt9) ?_
    refine VO.c (.assign rfl) ?_
    refine VO.go (VC.seq (VC.text ?_))
    refine VO.c (.move rfl) ?_
    refine VO.c (.move rfl) ?_
    refine VO.call rfl rfl ((hf _ (List.getElem_mem _)) ) ?_
    refine VO.go ?_
    refine VC.condB rfl (fun c5 => ?_) (fun c5 => ?_)
    · have hg : (l.take (j + 1)).filter F = (l.take j).filter F ++ [l[j]] := by rw [List.take_succ_eq_append_getElem (by omega), List.filter_append]; simp [c5]
      refine VC.text ?_
      refine VO.c (.move rfl) ?_
      refine VO.c (.move rfl) ?_
      refine VO.new (.lit [l[j]] el27) ?_
      refine VO.app rfl rfl el27 el27 (by simp only [List.length_append, List.length_singleton, List.length_take] at *; omega) ?_
      intro ww2
      refine VO.c (.assign rfl) ?_
      refine VO.nil (VC.text ?_)
      refine VO.c (.add rfl rfl (by omega)) ?_
      refine VO.c (.move rfl) ?_
      refine VO.nil ?_
      refine ⟨_, [(1, f), (5, .raw ww2), (8, .v (.sl .str) l), (9, I ((l.length : Nat) : Int)), (10, I (((j + 1) : Nat) : Int))], ?_, ⟨rfl, rfl, rfl, rfl, rfl, trivial⟩, (j + 1), ww2, rfl, rfl, (by rw [hg]), (by omega)⟩
      omega
    have hg : (l.take (j + 1)).filter F = (l.take j).filter F := by rw [List.take_succ_eq_append_getElem (by omega), List.filter_append]; simp [c5]
    refine VC.skip (VC.text ?_)
    refine VO.c (.add rfl rfl (by omega)) ?_
    refine VO.c (.move rfl) ?_
    refine VO.nil ?_
    refine ⟨_, [(1, f), (5, .raw out), (8, .v (.sl .str) l), (9, I ((l.length : Nat) : Int)), (10, I (((j + 1) : Nat) : Int))], ?_, ⟨rfl, rfl, rfl, rfl, rfl, trivial⟩, (j + 1), out, rfl, rfl, (by rw [hg]), (by omega)⟩
    omega
  refine VC.exit (VC.seq (VC.text ?_))
  refine VO.c (.move rfl) ?_
  refine VO.c (.assign rfl) ?_
  refine VO.go ?_
  refine VC.ret ?_
  exact VEnd.one rfl (evC (.row m0)) (pvE (by rw [List.take_of_length_le (by omega)]))
abbrev Vers := ByteArray × Int
abbrev Evid := ByteArray × List Vers
abbrev Clm := ByteArray × Bool × List ByteArray
abbrev Cse := List Vers × List Evid × List Clm
theorem rFew_ok {n : Int} : VF Tryz.prog OA 103 [I n] (B (decide (n ≤ 8) || decide (n = 65))) := by
  refine VF.enter Tryz.func103 rfl (fun _ _ => rfl) rfl ?_
  show VC _ _ _ _ _ [(0, I n)] [] _
  refine VC.seq (VC.text ?_)
  refine VO.c (.assign rfl) ?_
  refine VO.go (VC.seq (VC.text ?_))
  refine VO.c (.move rfl) ?_
  refine VO.c (.leq) ?_
  refine VO.c (.move rfl) ?_
  refine VO.cg (r := decide (n ≤ (8 : Int))) (w := false) [] trivial (fun hgd => have g1_2 : ¬ (n ≤ (8 : Int)) := (by simpa using hgd); (.move rfl)) ?_
  refine VO.cg (r := decide (n ≤ (8 : Int))) (w := false) [(6, I n)] ⟨rfl, trivial⟩ (fun hgd => have g1_2 : ¬ (n ≤ (8 : Int)) := (by simpa using hgd); (.eql)) ?_
  refine VO.c (.or) ?_
  refine VO.c (.assign rfl) ?_
  refine VO.go ?_
  refine VC.ret ?_
  exact VEnd.one rfl evT (pvE (by rfl))
def thingE (l : List Vers) (s : ByteArray) : Int := idxG (fun v => decide (v.1 = s)) l 0
def evidE (l : List Evid) (s : ByteArray) : Int := idxG (fun v => decide (v.1 = s)) l 0
def claimE (l : List Clm) (s : ByteArray) : Int := idxG (fun v => decide (v.1 = s)) l 0
theorem rThing_ok {l : List (ByteArray × Int)} {s : ByteArray} (hl : l.length < 1000000) : VF Tryz.prog OA 123 [.v y60 l, St s] (I (thingE l s)) := by
  refine VF.enter Tryz.func123 rfl (fun _ _ => rfl) rfl ?_
  show VC _ _ _ _ _ [(0, .v y60 l), (1, St s)] [] _
  refine VC.seq (VC.text ?_)
  refine VO.c (.assign rfl) ?_
  refine VO.go (VC.seq (VC.seq (VC.text ?_)))
  refine VO.c (.assign rfl) ?_
  refine VO.go (VC.block ?_)
  refine VC.keep [(0, .v y60 l), (1, St s), (5, I ((0 : Nat) : Int))] ⟨rfl, rfl, rfl, trivial⟩ ?_
  refine VC.loop (I := fun kk ff ss => ∃ (j : Nat), kk = l.length - j ∧ ff = [(0, .v y60 l), (1, St s), (5, I ((j : Nat) : Int))] ∧ ss = [] ∧ (j ≤ l.length) ∧ (thingE l s = idxG (fun v => decide (v.1 = s)) (l.drop j) (j : Nat))) ?_ _ _ _ ⟨0, rfl, rfl, rfl, Nat.zero_le _, (by rfl)⟩
  rintro kk ff ss ⟨j, hk0, rfl, rfl, hj, hi⟩
  refine VC.seq (VC.seq (VC.text ?_))
  refine VO.c (.move rfl) ?_
  refine VO.c (.move rfl) ?_
  refine VO.r (.len el60) ?_
  refine VO.c (.lss) ?_
  refine VO.go ?_
  refine VC.condD rfl (fun c2 => ?_) (fun c2 => ?_)
  · refine VC.skip (VC.seq (VC.block (VC.seq (VC.text ?_))))
    refine VO.c (.move rfl) ?_
    refine VO.c (.move rfl) ?_
    refine VO.c (.ix (j := j) rfl rfl el60 (by omega)) ?_
    refine VO.c (.fa (.l .o)) ?_
    refine VO.r (.ld vt9) ?_
    refine VO.c (.move rfl) ?_
    refine VO.c (.seql) ?_
    refine VO.go ?_
    refine VC.condD rfl (fun c4 => ?_) (fun c4 => ?_)
    · refine VC.seq (VC.text ?_)
      refine VO.c (.move rfl) ?_
      refine VO.c (.assign rfl) ?_
      refine VO.go ?_
      refine VC.ret ?_
      exact VEnd.one rfl evT (pvI (by rw [hi, idxG_drop (by omega), if_pos (by simpa using c4)]))
    refine VC.skip (VC.text ?_)
    refine VO.c (.move rfl) ?_
    refine VO.c (.add rfl rfl (by omega)) ?_
    refine VO.c (.assign rfl) ?_
    refine VO.nil ?_
    refine ⟨_, [(0, .v y60 l), (1, St s), (5, I (((j + 1) : Nat) : Int))], ?_, ⟨rfl, rfl, rfl, trivial⟩, (j + 1), rfl, rfl, rfl, (by omega), (by rw [hi, idxG_drop (by omega), if_neg (by simpa using c4)])⟩
    omega
  refine VC.exit (VC.seq (VC.text ?_))
  refine VO.c (.assign rfl) ?_
  refine VO.go ?_
  refine VC.ret ?_
  exact VEnd.one rfl evT (pvI (by rw [hi, idxG_end (by omega)]))
theorem rEvid_ok {c : (List (ByteArray × Int)) × (List (ByteArray × (List (ByteArray × Int)))) × (List (ByteArray × Bool × (List ByteArray)))} {s : ByteArray} (hl : c.2.1.length < 1000000) : VF Tryz.prog OA 124 [.v y64 c, St s] (I (evidE c.2.1 s)) := by
  refine VF.enter Tryz.func124 rfl (fun _ _ => rfl) rfl ?_
  show VC _ _ _ _ _ [(0, .v y64 c), (1, St s)] [] _
  refine VC.seq (VC.text ?_)
  refine VO.new (.box) ?_
  refine VO.c (.assign rfl) ?_
  refine VO.go (VC.seq (VC.seq (VC.text ?_)))
  refine VO.c (.assign rfl) ?_
  refine VO.go (VC.block ?_)
  refine VC.keep [(1, St s), (2, .p y64 c), (5, I ((0 : Nat) : Int))] ⟨rfl, rfl, rfl, trivial⟩ ?_
  refine VC.loop (I := fun kk ff ss => ∃ (j : Nat), kk = c.2.1.length - j ∧ ff = [(1, St s), (2, .p y64 c), (5, I ((j : Nat) : Int))] ∧ ss = [] ∧ (j ≤ c.2.1.length) ∧ (evidE c.2.1 s = idxG (fun v => decide (v.1 = s)) (c.2.1.drop j) (j : Nat))) ?_ _ _ _ ⟨0, rfl, rfl, rfl, Nat.zero_le _, (by rfl)⟩
  rintro kk ff ss ⟨j, hk0, rfl, rfl, hj, hi⟩
  refine VC.seq (VC.seq (VC.text ?_))
  refine VO.c (.move rfl) ?_
  refine VO.c (.fa (.r (.l .o))) ?_
  refine VO.r (.ld vt61) ?_
  refine VO.r (.len el61) ?_
  refine VO.c (.lss) ?_
  refine VO.go ?_
  refine VC.condD rfl (fun c2 => ?_) (fun c2 => ?_)
  · refine VC.skip (VC.seq (VC.block (VC.seq (VC.text ?_))))
    refine VO.c (.fa (.r (.l .o))) ?_
    refine VO.r (.ld vt61) ?_
    refine VO.c (.move rfl) ?_
    refine VO.c (.ix (j := j) rfl rfl el61 (by omega)) ?_
    refine VO.c (.fa (.l .o)) ?_
    refine VO.r (.ld vt9) ?_
    refine VO.c (.move rfl) ?_
    refine VO.c (.seql) ?_
    refine VO.go ?_
    refine VC.condD rfl (fun c4 => ?_) (fun c4 => ?_)
    · refine VC.seq (VC.text ?_)
      refine VO.c (.move rfl) ?_
      refine VO.c (.assign rfl) ?_
      refine VO.go ?_
      refine VC.ret ?_
      exact VEnd.one rfl evT (pvI (by rw [hi, idxG_drop (by omega), if_pos (by simpa using c4)]))
    refine VC.skip (VC.text ?_)
    refine VO.c (.move rfl) ?_
    refine VO.c (.add rfl rfl (by omega)) ?_
    refine VO.c (.assign rfl) ?_
    refine VO.nil ?_
    refine ⟨_, [(1, St s), (2, .p y64 c), (5, I (((j + 1) : Nat) : Int))], ?_, ⟨rfl, rfl, rfl, trivial⟩, (j + 1), rfl, rfl, rfl, (by omega), (by rw [hi, idxG_drop (by omega), if_neg (by simpa using c4)])⟩
    omega
  refine VC.exit (VC.seq (VC.text ?_))
  refine VO.c (.assign rfl) ?_
  refine VO.go ?_
  refine VC.ret ?_
  exact VEnd.one rfl evT (pvI (by rw [hi, idxG_end (by omega)]))
theorem rClaim_ok {l : List (ByteArray × Bool × (List ByteArray))} {s : ByteArray} (hl : l.length < 1000000) : VF Tryz.prog OA 111 [.v y62 l, St s] (I (claimE l s)) := by
  refine VF.enter Tryz.func111 rfl (fun _ _ => rfl) rfl ?_
  show VC _ _ _ _ _ [(0, .v y62 l), (1, St s)] [] _
  refine VC.seq (VC.text ?_)
  refine VO.c (.assign rfl) ?_
  refine VO.go (VC.seq (VC.seq (VC.text ?_)))
  refine VO.c (.assign rfl) ?_
  refine VO.go (VC.block ?_)
  refine VC.keep [(0, .v y62 l), (1, St s), (5, I ((0 : Nat) : Int))] ⟨rfl, rfl, rfl, trivial⟩ ?_
  refine VC.loop (I := fun kk ff ss => ∃ (j : Nat), kk = l.length - j ∧ ff = [(0, .v y62 l), (1, St s), (5, I ((j : Nat) : Int))] ∧ ss = [] ∧ (j ≤ l.length) ∧ (claimE l s = idxG (fun v => decide (v.1 = s)) (l.drop j) (j : Nat))) ?_ _ _ _ ⟨0, rfl, rfl, rfl, Nat.zero_le _, (by rfl)⟩
  rintro kk ff ss ⟨j, hk0, rfl, rfl, hj, hi⟩
  refine VC.seq (VC.seq (VC.text ?_))
  refine VO.c (.move rfl) ?_
  refine VO.c (.move rfl) ?_
  refine VO.r (.len el62) ?_
  refine VO.c (.lss) ?_
  refine VO.go ?_
  refine VC.condD rfl (fun c2 => ?_) (fun c2 => ?_)
  · refine VC.skip (VC.seq (VC.block (VC.seq (VC.text ?_))))
    refine VO.c (.move rfl) ?_
    refine VO.c (.move rfl) ?_
    refine VO.c (.ix (j := j) rfl rfl el62 (by omega)) ?_
    refine VO.c (.fa (.l .o)) ?_
    refine VO.r (.ld vt9) ?_
    refine VO.c (.move rfl) ?_
    refine VO.c (.seql) ?_
    refine VO.go ?_
    refine VC.condD rfl (fun c4 => ?_) (fun c4 => ?_)
    · refine VC.seq (VC.text ?_)
      refine VO.c (.move rfl) ?_
      refine VO.c (.assign rfl) ?_
      refine VO.go ?_
      refine VC.ret ?_
      exact VEnd.one rfl evT (pvI (by rw [hi, idxG_drop (by omega), if_pos (by simpa using c4)]))
    refine VC.skip (VC.text ?_)
    refine VO.c (.move rfl) ?_
    refine VO.c (.add rfl rfl (by omega)) ?_
    refine VO.c (.assign rfl) ?_
    refine VO.nil ?_
    refine ⟨_, [(0, .v y62 l), (1, St s), (5, I (((j + 1) : Nat) : Int))], ?_, ⟨rfl, rfl, rfl, trivial⟩, (j + 1), rfl, rfl, rfl, (by omega), (by rw [hi, idxG_drop (by omega), if_neg (by simpa using c4)])⟩
    omega
  refine VC.exit (VC.seq (VC.text ?_))
  refine VO.c (.assign rfl) ?_
  refine VO.go ?_
  refine VC.ret ?_
  exact VEnd.one rfl evT (pvI (by rw [hi, idxG_end (by omega)]))
theorem zIndexFV_ok {F : Vers → Bool} {l : List (ByteArray × Int)} {f : PV} (hl : l.length < 1000000) (hf : ∀ x ∈ l, VCall Tryz.prog OA f [.v y153 x] (B (F x))) : VF Tryz.prog OA 159 [.v y68 l, f] (I (idxG F l 0)) := by
  refine VF.enter Tryz.func159 rfl (fun _ _ => rfl) rfl ?_
  show VC _ _ _ _ _ [(0, .v y68 l), (1, f)] [] _
  refine VC.seq (VC.text ?_)
  refine VO.c (.assign rfl) ?_
  refine VO.go (VC.seq (VC.seq (VC.text ?_)))
  refine VO.c (.move rfl) ?_
  refine VO.r (.len el68) ?_
  refine VO.c (.move rfl) ?_
  refine VO.go (VC.block ?_)
  refine VC.keep [(0, .v y68 l), (1, f), (7, I ((l.length : Nat) : Int)), (8, I ((0 : Nat) : Int))] ⟨rfl, rfl, rfl, rfl, trivial⟩ ?_
  refine VC.loop (I := fun kk ff ss => ∃ (j : Nat), kk = l.length - j ∧ ff = [(0, .v y68 l), (1, f), (7, I ((l.length : Nat) : Int)), (8, I ((j : Nat) : Int))] ∧ ss = [] ∧ (j ≤ l.length) ∧ (idxG F l 0 = idxG F (l.drop j) (j : Nat))) ?_ _ _ _ ⟨0, rfl, rfl, rfl, Nat.zero_le _, (by rfl)⟩
  rintro kk ff ss ⟨j, hk0, rfl, rfl, hj, hi⟩
  refine VC.seq (VC.text ?_)
  refine VO.c (.lss) ?_
  refine VO.go (VC.seq ?_)
  refine VC.condD rfl (fun c2 => ?_) (fun c2 => ?_)
  · refine VC.skip (VC.seq (VC.block (VC.seq (VC.text ?_))))
    refine VO.c (.move rfl) ?_
    refine VO.c (.assign rfl) ?_
    refine VO.go (VC.seq (VC.text ?_))
    refine VO.c (.move rfl) ?_
    refine VO.c (.move rfl) ?_
    refine VO.c (.move rfl) ?_
    refine VO.c (.ix (j := j) rfl rfl el68 (by omega)) ?_
    refine VO.r (.ld vt153) ?_
    refine VO.call rfl rfl ((hf _ (List.getElem_mem _)) ) ?_
    refine VO.go ?_
    refine VC.condB rfl (fun c4 => ?_) (fun c4 => ?_)
    · refine VC.seq (VC.text ?_)
      refine VO.c (.move rfl) ?_
      refine VO.c (.assign rfl) ?_
      refine VO.go ?_
      refine VC.ret ?_
      exact VEnd.one rfl evT (pvI (by rw [hi, idxG_drop (by omega), if_pos c4]))
    refine VC.skip (VC.text ?_)
    refine VO.c (.add rfl rfl (by omega)) ?_
    refine VO.c (.move rfl) ?_
    refine VO.nil ?_
    refine ⟨_, [(0, .v y68 l), (1, f), (7, I ((l.length : Nat) : Int)), (8, I (((j + 1) : Nat) : Int))], ?_, ⟨rfl, rfl, rfl, rfl, trivial⟩, (j + 1), rfl, rfl, rfl, (by omega), (by rw [hi, idxG_drop (by omega), if_neg (by rw [c4]; decide)])⟩
    omega
  refine VC.exit (VC.seq (VC.text ?_))
  refine VO.c (.assign rfl) ?_
  refine VO.go ?_
  refine VC.ret ?_
  exact VEnd.one rfl evT (pvI (by rw [hi, idxG_end (by omega)]))
theorem sThing1_ok {v : ByteArray × Int} {s : ByteArray} : VF Tryz.prog OA 160 [.v y153 v, .p .str s] (B (decide (v.1 = s))) := by
  refine VF.enter Tryz.func160 rfl (fun _ _ => rfl) rfl ?_
  show VC _ _ _ _ _ [(0, .v y153 v), (1, .p .str s)] [] _
  refine VC.seq (VC.text ?_)
  refine VO.new (.box) ?_
  refine VO.c (.assign rfl) ?_
  refine VO.go (VC.seq (VC.text ?_))
  refine VO.c (.fa (.l .o)) ?_
  refine VO.r (.ld vt9) ?_
  refine VO.r (.ld vt9) ?_
  refine VO.c (.seql) ?_
  refine VO.c (.assign rfl) ?_
  refine VO.go ?_
  refine VC.ret ?_
  exact VEnd.one rfl evT (pvE (by first | rfl | simp))
theorem sThing_ok {c : (List (ByteArray × Int)) × (List (ByteArray × (List (ByteArray × Int)))) × (List (ByteArray × Bool × (List ByteArray)))} {s : ByteArray} (hl : c.1.length < 1000000) : VF Tryz.prog OA 117 [.v y72 c, St s] (I (thingE c.1 s)) := by
  refine VF.enter Tryz.func117 rfl (fun _ _ => rfl) rfl ?_
  show VC _ _ _ _ _ [(0, .v y72 c), (1, St s)] [] _
  refine VC.seq (VC.text ?_)
  refine VO.new (.box) ?_
  refine VO.new (.box) ?_
  refine VO.c (.assign rfl) ?_
  refine VO.go (VC.seq (VC.text ?_))
  refine VO.c (.fa (.l .o)) ?_
  refine VO.r (.ld vt68) ?_
  refine VO.c (.func) ?_
  refine VO.call rfl rfl (VF.call (zIndexFV_ok (F := fun v => decide (v.1 = s)) hl (fun _ _ => VF.clo sThing1_ok))) ?_
  refine VO.c (.assign rfl) ?_
  refine VO.go ?_
  refine VC.ret ?_
  exact VEnd.one rfl evT (pvI (by rfl))
theorem zIndexFC_ok {F : Clm → Bool} {l : List (ByteArray × Bool × (List ByteArray))} {f : PV} (hl : l.length < 1000000) (hf : ∀ x ∈ l, VCall Tryz.prog OA f [.v y156 x] (B (F x))) : VF Tryz.prog OA 216 [.v y70 l, f] (I (idxG F l 0)) := by
  refine VF.enter Tryz.func216 rfl (fun _ _ => rfl) rfl ?_
  show VC _ _ _ _ _ [(0, .v y70 l), (1, f)] [] _
  refine VC.seq (VC.text ?_)
  refine VO.c (.assign rfl) ?_
  refine VO.go (VC.seq (VC.seq (VC.text ?_)))
  refine VO.c (.move rfl) ?_
  refine VO.r (.len el70) ?_
  refine VO.c (.move rfl) ?_
  refine VO.go (VC.block ?_)
  refine VC.keep [(0, .v y70 l), (1, f), (7, I ((l.length : Nat) : Int)), (8, I ((0 : Nat) : Int))] ⟨rfl, rfl, rfl, rfl, trivial⟩ ?_
  refine VC.loop (I := fun kk ff ss => ∃ (j : Nat), kk = l.length - j ∧ ff = [(0, .v y70 l), (1, f), (7, I ((l.length : Nat) : Int)), (8, I ((j : Nat) : Int))] ∧ ss = [] ∧ (j ≤ l.length) ∧ (idxG F l 0 = idxG F (l.drop j) (j : Nat))) ?_ _ _ _ ⟨0, rfl, rfl, rfl, Nat.zero_le _, (by rfl)⟩
  rintro kk ff ss ⟨j, hk0, rfl, rfl, hj, hi⟩
  refine VC.seq (VC.text ?_)
  refine VO.c (.lss) ?_
  refine VO.go (VC.seq ?_)
  refine VC.condD rfl (fun c2 => ?_) (fun c2 => ?_)
  · refine VC.skip (VC.seq (VC.block (VC.seq (VC.text ?_))))
    refine VO.c (.move rfl) ?_
    refine VO.c (.assign rfl) ?_
    refine VO.go (VC.seq (VC.text ?_))
    refine VO.c (.move rfl) ?_
    refine VO.c (.move rfl) ?_
    refine VO.c (.move rfl) ?_
    refine VO.c (.ix (j := j) rfl rfl el70 (by omega)) ?_
    refine VO.r (.ld vt156) ?_
    refine VO.call rfl rfl ((hf _ (List.getElem_mem _)) ) ?_
    refine VO.go ?_
    refine VC.condB rfl (fun c4 => ?_) (fun c4 => ?_)
    · refine VC.seq (VC.text ?_)
      refine VO.c (.move rfl) ?_
      refine VO.c (.assign rfl) ?_
      refine VO.go ?_
      refine VC.ret ?_
      exact VEnd.one rfl evT (pvI (by rw [hi, idxG_drop (by omega), if_pos c4]))
    refine VC.skip (VC.text ?_)
    refine VO.c (.add rfl rfl (by omega)) ?_
    refine VO.c (.move rfl) ?_
    refine VO.nil ?_
    refine ⟨_, [(0, .v y70 l), (1, f), (7, I ((l.length : Nat) : Int)), (8, I (((j + 1) : Nat) : Int))], ?_, ⟨rfl, rfl, rfl, rfl, trivial⟩, (j + 1), rfl, rfl, rfl, (by omega), (by rw [hi, idxG_drop (by omega), if_neg (by rw [c4]; decide)])⟩
    omega
  refine VC.exit (VC.seq (VC.text ?_))
  refine VO.c (.assign rfl) ?_
  refine VO.go ?_
  refine VC.ret ?_
  exact VEnd.one rfl evT (pvI (by rw [hi, idxG_end (by omega)]))
theorem zContainsFC_ok {F : Clm → Bool} {l : List (ByteArray × Bool × (List ByteArray))} {f : PV} (hl : l.length < 1000000) (hf : ∀ x ∈ l, VCall Tryz.prog OA f [.v y156 x] (B (F x))) : VF Tryz.prog OA 194 [.v y70 l, f] (B (l.any F)) := by
  refine VF.enter Tryz.func194 rfl (fun _ _ => rfl) rfl ?_
  show VC _ _ _ _ _ [(0, .v y70 l), (1, f)] [] _
  refine VC.seq (VC.text ?_)
  refine VO.c (.assign rfl) ?_
  refine VO.go (VC.seq (VC.text ?_))
  refine VO.c (.move rfl) ?_
  refine VO.c (.move rfl) ?_
  refine VO.call rfl rfl (VF.call (zIndexFC_ok (F := F) hl hf)) ?_
  refine VO.c (.geq) ?_
  refine VO.c (.assign rfl) ?_
  refine VO.go ?_
  refine VC.ret ?_
  exact VEnd.one rfl evT (pvE (by have h9 := idxG_any (F := F) (l := l) (k := 0) (by omega); cases h8 : l.any F <;> simp_all))
theorem sKnows1_ok {x : ByteArray × Bool × (List ByteArray)} {claim : ByteArray} : VF Tryz.prog OA 195 [.v y156 x, .p .str claim] (B (decide (x.1 = claim))) := by
  refine VF.enter Tryz.func195 rfl (fun _ _ => rfl) rfl ?_
  show VC _ _ _ _ _ [(0, .v y156 x), (1, .p .str claim)] [] _
  refine VC.seq (VC.text ?_)
  refine VO.new (.box) ?_
  refine VO.c (.assign rfl) ?_
  refine VO.go (VC.seq (VC.text ?_))
  refine VO.c (.fa (.l .o)) ?_
  refine VO.r (.ld vt9) ?_
  refine VO.r (.ld vt9) ?_
  refine VO.c (.seql) ?_
  refine VO.c (.assign rfl) ?_
  refine VO.go ?_
  refine VC.ret ?_
  exact VEnd.one rfl evT (pvE (by first | rfl | simp))
theorem sKnows_ok {c : (List (ByteArray × Int)) × (List (ByteArray × (List (ByteArray × Int)))) × (List (ByteArray × Bool × (List ByteArray)))} {claim : ByteArray} (hl : c.2.2.length < 1000000) : VF Tryz.prog OA 157 [.v y72 c, St claim] (B (c.2.2.any fun x => decide (x.1 = claim))) := by
  refine VF.enter Tryz.func157 rfl (fun _ _ => rfl) rfl ?_
  show VC _ _ _ _ _ [(0, .v y72 c), (1, St claim)] [] _
  refine VC.seq (VC.text ?_)
  refine VO.new (.box) ?_
  refine VO.new (.box) ?_
  refine VO.c (.assign rfl) ?_
  refine VO.go (VC.seq (VC.text ?_))
  refine VO.c (.fa (.r (.r .o))) ?_
  refine VO.r (.ld vt70) ?_
  refine VO.c (.func) ?_
  refine VO.call rfl rfl (VF.call (zContainsFC_ok (F := fun x => decide (x.1 = claim)) hl (fun _ _ => VF.clo sKnows1_ok))) ?_
  refine VO.c (.assign rfl) ?_
  refine VO.go ?_
  refine VC.ret ?_
  exact VEnd.one rfl evT (pvE (by rfl))
theorem sNumber_ok {n : Int} : VF Tryz.prog OA 118 [I n] (I (rangeE n 0 999)) := by
  refine VF.enter Tryz.func118 rfl (fun _ _ => rfl) rfl ?_
  show VC _ _ _ _ _ [(0, I n)] [] _
  refine VC.seq (VC.text ?_)
  refine VO.c (.assign rfl) ?_
  refine VO.go (VC.seq (VC.text ?_))
  refine VO.c (.move rfl) ?_
  refine VO.call rfl rfl (VF.call (sWithin_ok )) ?_
  refine VO.c (.assign rfl) ?_
  refine VO.go ?_
  refine VC.ret ?_
  exact VEnd.one rfl evT (pvI (by first | rfl | simp))
end Go.Proofs
namespace Go.Proofs
open Go.Fs
set_option linter.unusedVariables false
abbrev y129 : Ty := (.mp .str (.int .i64))
theorem zt3 : ZerT Tryz.prog 3 (.int .i64) := zerT_of (z := .int .i64 0) (by kernel_rfl) rfl rfl
theorem zt153 : ZerT Tryz.prog 153 y153 := zerT_of (z := .agg #[.string ByteArray.empty, .int .i64 0]) (by kernel_rfl) rfl rfl
theorem mt129 : MapT Tryz.prog 129 .str (.int .i64) := ⟨9, 3, by kernel_rfl, keyStr (by kernel_rfl), zt3⟩
def firstR (f : Nat → Int) (i n : Nat) : Int := firstE ((List.range' i (n - i)).map f)
theorem firstR_step {f : Nat → Int} {i n : Nat} (h : i < n) : firstR f i n = if f i = 0 then firstR f (i + 1) n else f i := by
  unfold firstR
  rw [show n - i = (n - (i + 1)) + 1 by omega, List.range'_succ]
  rfl
theorem firstR_end {f : Nat → Int} {i n : Nat} (h : n ≤ i) : firstR f i n = 0 := by
  unfold firstR
  rw [show n - i = 0 by omega] <;> rfl
theorem mget_mset {α β : Type} [DecidableEq α] : ∀ (m : List (α × β)) (x z : α) (y : β), mget (mset m x y) z = if z = x then some y else mget m z
  | [], x, z, y => by simp [mset, mget]
  | (a, b) :: r, x, z, y => by
    by_cases h : x = a
    · subst h
      simp only [mset, if_pos, mget]
      by_cases h2 : z = x <;> simp [h2]
    simp only [mset, if_neg h, mget, mget_mset r x z y]
    by_cases h2 : z = a
    · subst h2
      have : ¬ z = x := fun e => h e.symm
      simp [this]
    simp [h2]
def vAt (l : List Vers) (i : Nat) : Vers := l.getD i (ByteArray.empty, 0)
theorem vAt_eq {l : List Vers} {i : Nat} (h : i < l.length) : vAt l i = l[i] := by simp [vAt, h]
def verAt (l : List Vers) (i : Nat) : Int := firstE [whenE (!nameB (vAt l i).1) 8, rangeE (vAt l i).2 0 999, whenE (decide (0 ≤ thingE (l.take i) (vAt l i).1)) 9]
def versE (l : List Vers) : Int := if 64 < (l.length : Int) then 5 else firstR (verAt l) 0 l.length
theorem verAt_two {l : List Vers} {i : Nat} (h : i < l.length) : verAt l i = if firstE [whenE (!nameB l[i].1) 8, rangeE l[i].2 0 999] = 0 then whenE (decide (0 ≤ thingE (l.take i) l[i].1)) 9 else firstE [whenE (!nameB l[i].1) 8, rangeE l[i].2 0 999] := by
  unfold verAt
  rw [vAt_eq h]
  show firstE ([_, _] ++ [_]) = _
  rw [firstE_app, firstE_one]
theorem rVersions_ok {l : List (ByteArray × Int)} (hl : l.length < 1000000) : VF Tryz.prog OA 108 [.v y60 l] (I (versE l)) := by
  refine VF.enter Tryz.func108 rfl (fun _ _ => rfl) rfl ?_
  show VC _ _ _ _ _ [(0, .v y60 l)] [] _
  refine VC.seq (VC.text ?_)
  refine VO.c (.assign rfl) ?_
  refine VO.go (VC.seq (VC.seq (VC.text ?_)))
  refine VO.c (.move rfl) ?_
  refine VO.r (.len el60) ?_
  refine VO.c (.gtr) ?_
  refine VO.go ?_
  refine VC.condD rfl (fun c1 => ?_) (fun c1 => ?_)
  · refine VC.seq (VC.text ?_)
    refine VO.c (.assign rfl) ?_
    refine VO.go ?_
    refine VC.ret ?_
    exact VEnd.one rfl evT (pvI (by rw [versE, if_pos c1]))
  refine VC.skip (VC.seq (VC.seq (VC.text ?_)))
  refine VO.c (.assign rfl) ?_
  refine VO.go (VC.block ?_)
  refine VC.keep [(0, .v y60 l), (3, I ((0 : Nat) : Int))] ⟨rfl, rfl, trivial⟩ ?_
  refine VC.loop (I := fun kk ff ss => ∃ (i : Nat), kk = l.length - i ∧ ff = [(0, .v y60 l), (3, I ((i : Nat) : Int))] ∧ ss = [] ∧ (i ≤ l.length) ∧ (versE l = firstR (verAt l) i l.length)) ?_ _ _ _ ⟨0, rfl, rfl, rfl, Nat.zero_le _, (by exact if_neg c1)⟩
  rintro kk ff ss ⟨i, hk0, rfl, rfl, hi, hw⟩
  refine VC.seq (VC.seq (VC.text ?_))
  refine VO.c (.move rfl) ?_
  refine VO.c (.move rfl) ?_
  refine VO.r (.len el60) ?_
  refine VO.c (.lss) ?_
  refine VO.go ?_
  refine VC.condD rfl (fun c4 => ?_) (fun c4 => ?_)
  · refine VC.skip (VC.seq (VC.block (VC.seq (VC.seq (VC.drawn ?_)))))
    refine VD.c (.move rfl) ?_
    refine VD.c (.move rfl) ?_
    refine VD.c (.ix (j := i) rfl rfl el60 (by omega)) ?_
    refine VD.c (.fa (.l .o)) ?_
    refine VD.r [] (.ld vt9) (.inl rfl) ?_
    refine VD.call rfl rfl (VF.call (rNameE_ok )) ?_
    refine VD.nw [] ?_
    refine VD.c (.move rfl) ?_
    refine VD.c (.move rfl) ?_
    refine VD.c (.ix (j := i) rfl rfl el60 (by omega)) ?_
    refine VD.c (.fa (.r .o)) ?_
    refine VD.r [] (.ld vt3) (.inl rfl) ?_
    refine VD.call rfl rfl (VF.call (rCheckRange_ok )) ?_
    refine VD.new (.lit [whenE (!nameB ((l[i]).1)) 8, rangeE ((l[i]).2) (0 : Int) (999 : Int)] el39) ?_
    refine VD.nw [26] ?_
    refine VD.callO rfl rfl (VF.call (rFirst_ok (by simp))) ?_
    refine VD.c (.assign rfl) ?_
    refine VD.go (VC.seq (VC.text ?_))
    refine VO.c (.move rfl) ?_
    refine VO.c (.neq) ?_
    refine VO.go ?_
    refine VC.condD rfl (fun c7 => ?_) (fun c7 => ?_)
    · have hlt : i < l.length := by omega
      have hv : verAt l i = firstE [whenE (!nameB l[i].1) 8, rangeE l[i].2 0 999] := by rw [verAt_two hlt, if_neg c7]
      refine VC.seq (VC.text ?_)
      refine VO.c (.move rfl) ?_
      refine VO.c (.assign rfl) ?_
      refine VO.go ?_
      refine VC.ret ?_
      exact VEnd.one rfl evT (pvI (by rw [hw, firstR_step hlt, hv, if_neg c7]))
    have hlt : i < l.length := by omega
    have hv : verAt l i = whenE (decide (0 ≤ thingE (l.take i) l[i].1)) 9 := by rw [verAt_two hlt, if_pos (Decidable.not_not.1 c7)]
    refine VC.skip (VC.seq (VC.drawn ?_))
    refine VD.c (.move rfl) ?_
    refine VD.c (.move rfl) ?_
    refine VD.r [] (.cutH rfl rfl el60 (by omega)) (.inl rfl) ?_
    refine VD.c (.move rfl) ?_
    refine VD.c (.move rfl) ?_
    refine VD.c (.ix (j := i) rfl rfl el60 (by omega)) ?_
    refine VD.nw [] ?_
    refine VD.c (.fa (.l .o)) ?_
    refine VD.r [] (.ld vt9) (.inl rfl) ?_
    refine VD.call rfl rfl (VF.call (rThing_ok (by simp; omega))) ?_
    refine VD.c (.geq) ?_
    refine VD.go ?_
    refine VC.condD rfl (fun c9 => ?_) (fun c9 => ?_)
    · have hv2 : verAt l i = 9 := by rw [hv, decide_eq_true (by simpa using c9)] <;> rfl
      refine VC.seq ?_
      refine VC.keep [(0, .v y60 l), (3, I ((i : Nat) : Int))] ⟨rfl, rfl, trivial⟩ ?_
      refine VC.text ?_
      refine VO.c (.assign rfl) ?_
      refine VO.go ?_
      refine VC.ret ?_
      exact VEnd.one rfl evT (pvI (by rw [hw, firstR_step hlt, hv2] <;> rfl))
    have hz : verAt l i = 0 := by rw [hv, decide_eq_false (by simpa using c9)] <;> rfl
    refine VC.skip ?_
    refine VC.keep [(0, .v y60 l), (3, I ((i : Nat) : Int))] ⟨rfl, rfl, trivial⟩ ?_
    refine VC.text ?_
    refine VO.c (.move rfl) ?_
    refine VO.c (.add rfl rfl (by omega)) ?_
    refine VO.c (.assign rfl) ?_
    refine VO.nil ?_
    refine ⟨_, [(0, .v y60 l), (3, I (((i + 1) : Nat) : Int))], ?_, ⟨rfl, rfl, trivial⟩, (i + 1), rfl, rfl, rfl, (by omega), (by rw [hw, firstR_step hlt, if_pos hz])⟩
    omega
  refine VC.exit (VC.seq (VC.text ?_))
  refine VO.c (.assign rfl) ?_
  refine VO.go ?_
  refine VC.ret ?_
  exact VEnd.one rfl evT (pvI (by rw [hw, firstR_end (by omega)]))
def verM (l : List Vers) : Nat → List (ByteArray × Int)
  | 0 => []
  | i + 1 => mset (verM l i) (vAt l i).1 (vAt l i).2
theorem idxG_none {α : Type} {F : α → Bool} {l : List α} : (0 ≤ idxG F l 0) ↔ ∃ x ∈ l, F x = true := by
  rw [idxG_any (by omega), List.any_eq_true]
theorem verM_has {l : List Vers} {s : ByteArray} : ∀ i, i ≤ l.length → ((mget (verM l i) s).isSome = true ↔ 0 ≤ thingE (l.take i) s)
  | 0, _ => by simp [verM, mget, thingE, idxG]
  | i + 1, h => by
    have hlt : i < l.length := by omega
    rw [verM, mget_mset, thingE, idxG_none, List.take_succ_eq_append_getElem hlt, vAt_eq hlt]
    have ih := verM_has (l := l) (s := s) i (by omega)
    rw [thingE, idxG_none] at ih
    by_cases hs : s = l[i].1
    · rw [if_pos hs]
      simp only [Option.isSome_some, true_iff]
      exact ⟨l[i], List.mem_append_right _ List.mem_cons_self, decide_eq_true hs.symm⟩
    rw [if_neg hs, ih]
    constructor
    · rintro ⟨x, hx, he⟩; exact ⟨x, List.mem_append_left _ hx, he⟩
    rintro ⟨x, hx, he⟩
    rcases List.mem_append.1 hx with hx | hx
    · exact ⟨x, hx, he⟩
    obtain rfl := List.mem_singleton.1 hx
    exact absurd (of_decide_eq_true he).symm hs
theorem verM_dec {l : List Vers} {s : ByteArray} {i : Nat} (h : i ≤ l.length) : (mget (verM l i) s).isSome = decide (0 ≤ thingE (l.take i) s) := by
  have := verM_has (l := l) (s := s) i h
  cases hb : (mget (verM l i) s).isSome with
  | true => exact (decide_eq_true (this.1 hb)).symm
  | false => exact (decide_eq_false fun h2 => by rw [this.2 h2] at hb; cases hb).symm
theorem verAt_m {l : List Vers} {i : Nat} (h : i < l.length) : firstE [whenE (!nameB l[i].1) 8, rangeE l[i].2 0 999, whenE ((mget (verM l i) l[i].1).isSome) 9] = verAt l i := by
  unfold verAt
  rw [vAt_eq h, verM_dec (l := l) (i := i) (by omega)]
theorem sVersions_ok {c : (List (ByteArray × Int)) × (List (ByteArray × (List (ByteArray × Int)))) × (List (ByteArray × Bool × (List ByteArray)))} (hl : c.1.length < 1000000) : VF Tryz.prog OA 113 [.v y72 c] (.tup [.v y129 (if versE c.1 = 0 then verM c.1 c.1.length else []), I (versE c.1)]) := by
  refine VF.enter Tryz.func113 rfl (fun _ _ => rfl) rfl ?_
  show VC _ _ _ _ _ [(0, .v y72 c)] [] _
  refine VC.seq (VC.text ?_)
  refine VO.new (.box) ?_
  refine VO.c (.assign rfl) ?_
  refine VO.c (.assign rfl) ?_
  refine VO.go (VC.seq (VC.seq (VC.text ?_)))
  refine VO.c (.fa (.l .o)) ?_
  refine VO.r (.ld vt68) ?_
  refine VO.r (.len el68) ?_
  refine VO.c (.gtr) ?_
  refine VO.go ?_
  refine VC.condD rfl (fun c1 => ?_) (fun c1 => ?_)
  · refine VC.seq (VC.text ?_)
    refine VO.c (.assign rfl) ?_
    refine VO.c (.assign rfl) ?_
    refine VO.go ?_
    refine VC.ret ?_
    exact VEnd.two rfl (evC .nilm) evT (pvE (by rw [versE, if_pos c1, if_neg (by decide)])) (pvI (by rw [versE, if_pos c1]))
  refine VC.skip (VC.seq (VC.text ?_))
  refine VO.cell (.mkMap .str (.int .i64)) ?_
  intro ww1
  refine VO.c (.assign rfl) ?_
  refine VO.go (VC.seq (VC.seq (VC.text ?_)))
  refine VO.c (.fa (.l .o)) ?_
  refine VO.r (.ld vt68) ?_
  refine VO.r (.len el68) ?_
  refine VO.c (.move rfl) ?_
  refine VO.go (VC.block ?_)
  refine VC.keep [(4, .raw ww1), (16, .v y68 c.1), (17, I ((c.1.length : Nat) : Int)), (18, I ((0 : Nat) : Int))] ⟨rfl, rfl, rfl, rfl, trivial⟩ ?_
  refine VC.loop (I := fun kk ff ss => ∃ (i : Nat), kk = c.1.length - i ∧ ff = [(4, .raw ww1), (16, .v y68 c.1), (17, I ((c.1.length : Nat) : Int)), (18, I ((i : Nat) : Int))] ∧ ss = [(ww1, .mp .str (.int .i64) (verM c.1 i))] ∧ (i ≤ c.1.length) ∧ (versE c.1 = firstR (verAt c.1) i c.1.length)) ?_ _ _ _ ⟨0, rfl, rfl, rfl, Nat.zero_le _, (by exact if_neg c1)⟩
  rintro kk ff ss ⟨i, hk0, rfl, rfl, hi, hw⟩
  refine VC.seq (VC.text ?_)
  refine VO.c (.lss) ?_
  refine VO.go (VC.seq ?_)
  refine VC.condD rfl (fun c5 => ?_) (fun c5 => ?_)
  · refine VC.skip (VC.seq (VC.block (VC.seq (VC.text ?_))))
    refine VO.c (.ix (j := i) rfl rfl el68 (by omega)) ?_
    refine VO.r (.ld vt153) ?_
    refine VO.cell (.alloc zt153) ?_
    intro ww2
    refine VO.setV (cs' := [St ((c.1[i]).1), I ((c.1[i]).2)]) vt153 .v ?_
    refine VO.shut [(6, .p y153 (c.1[i]))] (.cons rfl (.var m0 .refl) .nil) ?_
    refine VO.go (VC.seq (VC.text ?_))
    refine VO.c (.move rfl) ?_
    refine VO.c (.fa (.l .o)) ?_
    refine VO.r (.ld vt9) ?_
    refine VO.r (.lookOkO mt129 m0) ?_
    refine VO.c (.move rfl) ?_
    refine VO.c (.extract) ?_
    refine VO.c (.extract) ?_
    refine VO.c (.assign rfl) ?_
    refine VO.c (.assign rfl) ?_
    refine VO.go (VC.seq (VC.seq (VC.drawn ?_)))
    refine VD.c (.fa (.l .o)) ?_
    refine VD.r [] (.ld vt9) (.inl rfl) ?_
    refine VD.call rfl rfl (VF.call (sNm_ok )) ?_
    refine VD.c (.fa (.r .o)) ?_
    refine VD.r [] (.ld vt3) (.inl rfl) ?_
    refine VD.call rfl rfl (VF.call (sNumber_ok )) ?_
    refine VD.nw [] ?_
    refine VD.c (.move rfl) ?_
    refine VD.call rfl rfl (VF.call (sWhen_ok )) ?_
    refine VD.new (.lit [whenE (!nameB ((c.1[i]).1)) 8, rangeE ((c.1[i]).2) 0 999, whenE ((mget (verM c.1 i) ((c.1[i]).1)).isSome) (9 : Int)] el204) ?_
    refine VD.callO rfl rfl (VF.call (sFirst_ok (by simp))) ?_
    refine VD.c (.assign rfl) ?_
    refine VD.go (VC.seq (VC.text ?_))
    refine VO.c (.move rfl) ?_
    refine VO.c (.neq) ?_
    refine VO.go ?_
    refine VC.condD rfl (fun c9 => ?_) (fun c9 => ?_)
    · have hlt : i < c.1.length := by omega
      have hv := verAt_m hlt
      have hb : versE c.1 = verAt c.1 i := by rw [hw, firstR_step hlt, if_neg (by rw [← hv]; exact c9)]
      have hb0 : ¬ versE c.1 = 0 := by rw [hb, ← hv]; exact c9
      refine VC.seq (VC.text ?_)
      refine VO.c (.move rfl) ?_
      refine VO.c (.assign rfl) ?_
      refine VO.c (.assign rfl) ?_
      refine VO.go ?_
      refine VC.ret ?_
      exact VEnd.two rfl (evC .nilm) evT (pvE (by rw [if_neg hb0])) (pvI (by rw [hb]; exact hv))
    have hlt : i < c.1.length := by omega
    have hz : verAt c.1 i = 0 := by rw [← verAt_m hlt]; exact Decidable.not_not.1 c9
    refine VC.skip (VC.text ?_)
    refine VO.c (.move rfl) ?_
    refine VO.c (.fa (.l .o)) ?_
    refine VO.r (.ld vt9) ?_
    refine VO.c (.fa (.r .o)) ?_
    refine VO.r (.ld vt3) ?_
    refine VO.mput mt129 ?_
    refine VO.nil ?_
    refine VC.keep [(4, .raw ww1), (16, .v y68 c.1), (17, I ((c.1.length : Nat) : Int)), (18, I ((i : Nat) : Int))] ⟨rfl, rfl, rfl, rfl, trivial⟩ ?_
    refine VC.text ?_
    refine VO.c (.add rfl rfl (by omega)) ?_
    refine VO.c (.move rfl) ?_
    refine VO.nil ?_
    refine ⟨_, [(4, .raw ww1), (16, .v y68 c.1), (17, I ((c.1.length : Nat) : Int)), (18, I (((i + 1) : Nat) : Int))], ?_, ⟨rfl, rfl, rfl, rfl, trivial⟩, (i + 1), rfl, rfl, (by rw [verM, vAt_eq hlt]), (by omega), (by rw [hw, firstR_step hlt, if_pos hz])⟩
    omega
  refine VC.exit (VC.seq (VC.text ?_))
  refine VO.c (.move rfl) ?_
  refine VO.c (.assign rfl) ?_
  refine VO.c (.assign rfl) ?_
  refine VO.go ?_
  refine VC.ret ?_
  exact VEnd.two rfl (evC (.mp m0)) evT (pvE (by rw [show versE c.1 = 0 by rw [hw, firstR_end (by omega)], if_pos rfl, show i = c.1.length by omega])) (pvI (by rw [hw, firstR_end (by omega)]))
end Go.Proofs
namespace Go.Proofs
open Go.Fs
set_option linter.unusedVariables false
abbrev y158 : Ty := (.mp .str .bool)
theorem zt4 : ZerT Tryz.prog 4 .bool := zerT_of (z := .bool false) (by kernel_rfl) rfl rfl
theorem mt158 : MapT Tryz.prog 158 .str .bool := ⟨9, 4, by kernel_rfl, keyStr (by kernel_rfl), zt4⟩
def withAt (K : ByteArray → Bool) (l : List Vers) (i : Nat) : Int := firstE [whenE (!K (vAt l i).1) 10, rangeE (vAt l i).2 0 999, whenE (decide (0 ≤ thingE (l.take i) (vAt l i).1)) 9]
def withE (K : ByteArray → Bool) (l : List Vers) : Int := if 16 < (l.length : Int) then 5 else firstR (withAt K l) 0 l.length
def seenM (l : List Vers) : Nat → List (ByteArray × Bool)
  | 0 => []
  | i + 1 => mset (seenM l i) (vAt l i).1 true
theorem seenM_has {l : List Vers} {s : ByteArray} : ∀ i, i ≤ l.length → ((mget (seenM l i) s).getD false = true ↔ 0 ≤ thingE (l.take i) s)
  | 0, _ => by simp [seenM, mget, thingE, idxG]
  | i + 1, h => by
    have hlt : i < l.length := by omega
    rw [seenM, mget_mset, thingE, idxG_none, List.take_succ_eq_append_getElem hlt, vAt_eq hlt]
    have ih := seenM_has (l := l) (s := s) i (by omega)
    rw [thingE, idxG_none] at ih
    by_cases hs : s = l[i].1
    · rw [if_pos hs]
      simp only [Option.getD_some, true_iff]
      exact ⟨l[i], List.mem_append_right _ List.mem_cons_self, decide_eq_true hs.symm⟩
    rw [if_neg hs, ih]
    constructor
    · rintro ⟨x, hx, he⟩; exact ⟨x, List.mem_append_left _ hx, he⟩
    rintro ⟨x, hx, he⟩
    rcases List.mem_append.1 hx with hx | hx
    · exact ⟨x, hx, he⟩
    obtain rfl := List.mem_singleton.1 hx
    exact absurd (of_decide_eq_true he).symm hs
theorem seenM_dec {l : List Vers} {s : ByteArray} {i : Nat} (h : i ≤ l.length) : (mget (seenM l i) s).getD false = decide (0 ≤ thingE (l.take i) s) := by
  have := seenM_has (l := l) (s := s) i h
  cases hb : (mget (seenM l i) s).getD false with
  | true => exact (decide_eq_true (this.1 hb)).symm
  | false => exact (decide_eq_false fun h2 => by rw [this.2 h2] at hb; cases hb).symm
theorem withAt_m {m : List (ByteArray × Int)} {l : List Vers} {i : Nat} (h : i < l.length) :
    firstE [whenE (!(mget m l[i].1).isSome) 10, rangeE l[i].2 0 999, whenE ((mget (seenM l i) l[i].1).getD false) 9] = withAt (fun s => (mget m s).isSome) l i := by
  unfold withAt
  rw [vAt_eq h, seenM_dec (l := l) (i := i) (by omega)]
theorem sWith_ok {l : List (ByteArray × Int)} {m : List (ByteArray × Int)} (hl : l.length < 1000000) : VF Tryz.prog OA 114 [.v y68 l, .v y129 m] (I (withE (fun s => (mget m s).isSome) l)) := by
  refine VF.enter Tryz.func114 rfl (fun _ _ => rfl) rfl ?_
  show VC _ _ _ _ _ [(0, .v y68 l), (1, .v y129 m)] [] _
  refine VC.seq (VC.text ?_)
  refine VO.c (.assign rfl) ?_
  refine VO.go (VC.seq (VC.seq (VC.text ?_)))
  refine VO.c (.move rfl) ?_
  refine VO.r (.len el68) ?_
  refine VO.c (.gtr) ?_
  refine VO.go ?_
  refine VC.condD rfl (fun c1 => ?_) (fun c1 => ?_)
  · refine VC.seq (VC.text ?_)
    refine VO.c (.assign rfl) ?_
    refine VO.go ?_
    refine VC.ret ?_
    exact VEnd.one rfl evT (pvI (by rw [withE, if_pos c1]))
  refine VC.skip (VC.seq (VC.text ?_))
  refine VO.cell (.mkMap .str .bool) ?_
  intro ww1
  refine VO.c (.assign rfl) ?_
  refine VO.go (VC.seq (VC.seq (VC.text ?_)))
  refine VO.c (.move rfl) ?_
  refine VO.r (.len el68) ?_
  refine VO.c (.move rfl) ?_
  refine VO.go (VC.block ?_)
  refine VC.keep [(1, .v y129 m), (5, .raw ww1), (15, .v y68 l), (16, I ((l.length : Nat) : Int)), (17, I ((0 : Nat) : Int))] ⟨rfl, rfl, rfl, rfl, rfl, trivial⟩ ?_
  refine VC.loop (I := fun kk ff ss => ∃ (i : Nat), kk = l.length - i ∧ ff = [(1, .v y129 m), (5, .raw ww1), (15, .v y68 l), (16, I ((l.length : Nat) : Int)), (17, I ((i : Nat) : Int))] ∧ ss = [(ww1, .mp .str .bool (seenM l i))] ∧ (i ≤ l.length) ∧ (withE (fun s => (mget m s).isSome) l = firstR (withAt (fun s => (mget m s).isSome) l) i l.length)) ?_ _ _ _ ⟨0, rfl, rfl, rfl, Nat.zero_le _, (by exact if_neg c1)⟩
  rintro kk ff ss ⟨i, hk0, rfl, rfl, hi, hw⟩
  refine VC.seq (VC.text ?_)
  refine VO.c (.lss) ?_
  refine VO.go (VC.seq ?_)
  refine VC.condD rfl (fun c5 => ?_) (fun c5 => ?_)
  · refine VC.skip (VC.seq (VC.block (VC.seq (VC.text ?_))))
    refine VO.c (.ix (j := i) rfl rfl el68 (by omega)) ?_
    refine VO.r (.ld vt153) ?_
    refine VO.cell (.alloc zt153) ?_
    intro ww2
    refine VO.setV (cs' := [St ((l[i]).1), I ((l[i]).2)]) vt153 .v ?_
    refine VO.shut [(7, .p y153 (l[i]))] (.cons rfl (.var m0 .refl) .nil) ?_
    refine VO.go (VC.seq (VC.text ?_))
    refine VO.c (.move rfl) ?_
    refine VO.c (.fa (.l .o)) ?_
    refine VO.r (.ld vt9) ?_
    refine VO.r (.lookOk mt129) ?_
    refine VO.c (.move rfl) ?_
    refine VO.c (.extract) ?_
    refine VO.c (.extract) ?_
    refine VO.c (.assign rfl) ?_
    refine VO.c (.assign rfl) ?_
    refine VO.go (VC.seq (VC.seq (VC.drawn ?_)))
    refine VD.c (.move rfl) ?_
    refine VD.c (.not) ?_
    refine VD.call rfl rfl (VF.call (sWhen_ok )) ?_
    refine VD.c (.fa (.r .o)) ?_
    refine VD.r [] (.ld vt3) (.inl rfl) ?_
    refine VD.call rfl rfl (VF.call (sNumber_ok )) ?_
    refine VD.nw [] ?_
    refine VD.c (.move rfl) ?_
    refine VD.c (.fa (.l .o)) ?_
    refine VD.r [] (.ld vt9) (.inl rfl) ?_
    refine VD.r [(ww1, .mp .str .bool (seenM l i))] (.lookO mt158 m0) (.inr ⟨rfl, rfl⟩) ?_
    refine VD.call rfl rfl (VF.call (sWhen_ok )) ?_
    refine VD.new (.lit [whenE (!((mget m ((l[i]).1)).isSome)) (10 : Int), rangeE ((l[i]).2) 0 999, whenE ((mget (seenM l i) ((l[i]).1)).getD false) (9 : Int)] el204) ?_
    refine VD.callO rfl rfl (VF.call (sFirst_ok (by simp))) ?_
    refine VD.nw [39] ?_
    refine VD.c (.assign rfl) ?_
    refine VD.go (VC.seq (VC.text ?_))
    refine VO.c (.move rfl) ?_
    refine VO.c (.neq) ?_
    refine VO.go ?_
    refine VC.condD rfl (fun c9 => ?_) (fun c9 => ?_)
    · have hlt : i < l.length := by omega
      have hv := withAt_m (m := m) hlt
      refine VC.seq (VC.text ?_)
      refine VO.c (.move rfl) ?_
      refine VO.c (.assign rfl) ?_
      refine VO.go ?_
      refine VC.ret ?_
      exact VEnd.one rfl evT (pvI (by rw [hw, firstR_step hlt, ← hv, if_neg c9]))
    have hlt : i < l.length := by omega
    have hz : withAt (fun s => (mget m s).isSome) l i = 0 := by rw [← withAt_m hlt]; exact Decidable.not_not.1 c9
    refine VC.skip (VC.text ?_)
    refine VO.c (.move rfl) ?_
    refine VO.c (.fa (.l .o)) ?_
    refine VO.r (.ld vt9) ?_
    refine VO.mput mt158 ?_
    refine VO.nil ?_
    refine VC.keep [(1, .v y129 m), (5, .raw ww1), (15, .v y68 l), (16, I ((l.length : Nat) : Int)), (17, I ((i : Nat) : Int))] ⟨rfl, rfl, rfl, rfl, rfl, trivial⟩ ?_
    refine VC.text ?_
    refine VO.c (.add rfl rfl (by omega)) ?_
    refine VO.c (.move rfl) ?_
    refine VO.nil ?_
    refine ⟨_, [(1, .v y129 m), (5, .raw ww1), (15, .v y68 l), (16, I ((l.length : Nat) : Int)), (17, I (((i + 1) : Nat) : Int))], ?_, ⟨rfl, rfl, rfl, rfl, rfl, trivial⟩, (i + 1), rfl, rfl, (by rw [seenM, vAt_eq hlt]), (by omega), (by rw [hw, firstR_step hlt, if_pos hz])⟩
    omega
  refine VC.exit (VC.seq (VC.text ?_))
  refine VO.c (.assign rfl) ?_
  refine VO.go ?_
  refine VC.ret ?_
  exact VEnd.one rfl evT (pvI (by rw [hw, firstR_end (by omega)]))
def usesAt (K : ByteArray → Bool) (l : List ByteArray) (i : Nat) : Int := firstE [whenE (!K (l.getD i ByteArray.empty)) 10, whenE (hasB (l.take i) (l.getD i ByteArray.empty)) 9]
def usesE (K : ByteArray → Bool) (l : List ByteArray) : Int := if firstE [whenE (decide ((l.length : Int) = 0)) 12, whenE (decide (16 < (l.length : Int))) 5] = 0 then firstR (usesAt K l) 0 l.length else firstE [whenE (decide ((l.length : Int) = 0)) 12, whenE (decide (16 < (l.length : Int))) 5]
theorem usesAt_m {m : List (ByteArray × Bool)} {l : List ByteArray} {i : Nat} (h : i < l.length) : firstE [whenE (!(mget m l[i]).getD false) 10, whenE (hasB (l.take i) l[i]) 9] = usesAt (fun s => (mget m s).getD false) l i := by
  unfold usesAt
  rw [show l.getD i ByteArray.empty = l[i] by simp [h]]
theorem sUses_ok {l : List ByteArray} {m : List (ByteArray × Bool)} (hl : l.length < 1000000) : VF Tryz.prog OA 115 [.v (.sl .str) l, .v y158 m] (I (usesE (fun s => (mget m s).getD false) l)) := by
  refine VF.enter Tryz.func115 rfl (fun _ _ => rfl) rfl ?_
  show VC _ _ _ _ _ [(0, .v (.sl .str) l), (1, .v y158 m)] [] _
  refine VC.seq (VC.text ?_)
  refine VO.c (.assign rfl) ?_
  refine VO.go (VC.seq (VC.seq (VC.text ?_)))
  refine VO.c (.move rfl) ?_
  refine VO.r (.len el27) ?_
  refine VO.c (.eql) ?_
  refine VO.call rfl rfl (VF.call (sWhen_ok )) ?_
  refine VO.c (.move rfl) ?_
  refine VO.r (.len el27) ?_
  refine VO.c (.gtr) ?_
  refine VO.call rfl rfl (VF.call (sWhen_ok )) ?_
  refine VO.new (.lit [whenE (decide (((l.length : Nat) : Int) = (0 : Int))) (12 : Int), whenE (decide ((16 : Int) < ((l.length : Nat) : Int))) (5 : Int)] el204) ?_
  refine VO.call rfl rfl (VF.call (sFirst_ok (by simp))) ?_
  refine VO.c (.assign rfl) ?_
  refine VO.go (VC.seq (VC.text ?_))
  refine VO.c (.move rfl) ?_
  refine VO.c (.neq) ?_
  refine VO.go ?_
  refine VC.condD rfl (fun c2 => ?_) (fun c2 => ?_)
  · refine VC.seq (VC.text ?_)
    refine VO.c (.move rfl) ?_
    refine VO.c (.assign rfl) ?_
    refine VO.go ?_
    refine VC.ret ?_
    exact VEnd.one rfl evT (pvI (by rw [usesE, if_neg c2]))
  refine VC.skip (VC.seq (VC.seq (VC.text ?_)))
  refine VO.c (.move rfl) ?_
  refine VO.r (.len el27) ?_
  refine VO.c (.move rfl) ?_
  refine VO.go (VC.block ?_)
  refine VC.keep [(0, .v (.sl .str) l), (1, .v y158 m), (22, .v (.sl .str) l), (23, I ((l.length : Nat) : Int)), (24, I ((0 : Nat) : Int))] ⟨rfl, rfl, rfl, rfl, rfl, trivial⟩ ?_
  refine VC.loop (I := fun kk ff ss => ∃ (i : Nat), kk = l.length - i ∧ ff = [(0, .v (.sl .str) l), (1, .v y158 m), (22, .v (.sl .str) l), (23, I ((l.length : Nat) : Int)), (24, I ((i : Nat) : Int))] ∧ ss = [] ∧ (i ≤ l.length) ∧ (usesE (fun s => (mget m s).getD false) l = firstR (usesAt (fun s => (mget m s).getD false) l) i l.length)) ?_ _ _ _ ⟨0, rfl, rfl, rfl, Nat.zero_le _, (by exact if_pos (Decidable.not_not.1 c2))⟩
  rintro kk ff ss ⟨i, hk0, rfl, rfl, hi, hw⟩
  refine VC.seq (VC.text ?_)
  refine VO.c (.lss) ?_
  refine VO.go (VC.seq ?_)
  refine VC.condD rfl (fun c5 => ?_) (fun c5 => ?_)
  · refine VC.skip (VC.seq (VC.block (VC.seq (VC.text ?_))))
    refine VO.c (.move rfl) ?_
    refine VO.c (.ix (j := i) rfl rfl el27 (by omega)) ?_
    refine VO.r (.ld vt9) ?_
    refine VO.c (.assign rfl) ?_
    refine VO.c (.assign rfl) ?_
    refine VO.go (VC.seq (VC.drawn ?_))
    refine VD.c (.move rfl) ?_
    refine VD.c (.move rfl) ?_
    refine VD.r [] (.look mt158) (.inl rfl) ?_
    refine VD.c (.not) ?_
    refine VD.call rfl rfl (VF.call (sWhen_ok )) ?_
    refine VD.c (.move rfl) ?_
    refine VD.nw [] ?_
    refine VD.c (.move rfl) ?_
    refine VD.r [] (.cutH rfl rfl el27 (by omega)) (.inl rfl) ?_
    refine VD.c (.move rfl) ?_
    refine VD.call rfl rfl (VF.call (zContains_ok (by simp; omega))) ?_
    refine VD.call rfl rfl (VF.call (sWhen_ok )) ?_
    refine VD.new (.lit [whenE (!((mget m (l[i])).getD false)) (10 : Int), whenE (hasB (l.take (((i : Nat) : Int)).toNat) (l[i])) (9 : Int)] el204) ?_
    refine VD.callO rfl rfl (VF.call (sFirst_ok (by simp))) ?_
    refine VD.nw [40] ?_
    refine VD.c (.assign rfl) ?_
    refine VD.go (VC.seq (VC.text ?_))
    refine VO.c (.move rfl) ?_
    refine VO.c (.neq) ?_
    refine VO.go ?_
    refine VC.condD rfl (fun c8 => ?_) (fun c8 => ?_)
    · have hlt : i < l.length := by omega
      have hv := usesAt_m (m := m) hlt
      refine VC.seq (VC.text ?_)
      refine VO.c (.move rfl) ?_
      refine VO.c (.assign rfl) ?_
      refine VO.go ?_
      refine VC.ret ?_
      exact VEnd.one rfl evT (pvI (by rw [hw, firstR_step hlt, ← hv]; exact (if_neg c8).symm))
    have hlt : i < l.length := by omega
    have hz : usesAt (fun s => (mget m s).getD false) l i = 0 := by rw [← usesAt_m hlt]; exact Decidable.not_not.1 c8
    refine VC.skip (VC.text ?_)
    refine VO.c (.add rfl rfl (by omega)) ?_
    refine VO.c (.move rfl) ?_
    refine VO.nil ?_
    refine ⟨_, [(0, .v (.sl .str) l), (1, .v y158 m), (22, .v (.sl .str) l), (23, I ((l.length : Nat) : Int)), (24, I (((i + 1) : Nat) : Int))], ?_, ⟨rfl, rfl, rfl, rfl, rfl, trivial⟩, (i + 1), rfl, rfl, rfl, (by omega), (by rw [hw, firstR_step hlt, if_pos hz])⟩
    omega
  refine VC.exit (VC.seq (VC.text ?_))
  refine VO.c (.assign rfl) ?_
  refine VO.go ?_
  refine VC.ret ?_
  exact VEnd.one rfl evT (pvI (by rw [hw, firstR_end (by omega)]))
end Go.Proofs
namespace Go.Proofs
open Go.Fs
set_option linter.unusedVariables false
abbrev y96 : Ty := (.pair .str (.sl (.pair .str (.int .i64))))
theorem vt60 : ValT Tryz.prog 60 y60 := valT_of (by kernel_rfl)
theorem vt64 : ValT Tryz.prog 64 y64 := valT_of (by kernel_rfl)
theorem vt96 : ValT Tryz.prog 96 y96 := valT_of (by kernel_rfl)
theorem zt96 : ZerT Tryz.prog 96 y96 := zerT_of (z := .agg #[.string ByteArray.empty, .slice none 0 0]) (by kernel_rfl) rfl rfl
theorem idxG_app {α : Type} {F : α → Bool} {b : List α} : ∀ {a : List α} {k : Int}, idxG F (a ++ b) k = if a.any F = true then idxG F a k else idxG F b (k + (a.length : Int))
  | [], k => by simp
  | x :: a, k => by
    show (if F x = true then k else idxG F (a ++ b) (k + 1)) = if (x :: a).any F = true then (if F x = true then k else idxG F a (k + 1)) else idxG F b (k + ((x :: a).length : Int))
    rw [List.any_cons]
    by_cases hx : F x = true
    · simp [hx]
    rw [if_neg hx, if_neg hx, idxG_app (a := a)]
    simp only [hx, Bool.false_or, List.length_cons]
    rw [show k + 1 + (a.length : Int) = k + ((a.length + 1 : Nat) : Int) by omega]
theorem idxG_bound {α : Type} {F : α → Bool} : ∀ {a : List α} {k : Int}, a.any F = true → idxG F a k < k + (a.length : Int)
  | [], k, h => by cases h
  | x :: a, k, h => by
    unfold idxG
    by_cases hx : F x = true
    · rw [if_pos hx]; simp only [List.length_cons]; omega
    rw [if_neg hx]
    have := idxG_bound (a := a) (k := k + 1) (by simpa [hx] using h)
    simp only [List.length_cons]; omega
theorem idxG_lt {α : Type} {F : α → Bool} {l : List α} {i : Nat} (h : i < l.length) (hF : F l[i] = true) : idxG F l 0 < (i : Int) ↔ 0 ≤ idxG F (l.take i) 0 := by
  have e : idxG F l 0 = idxG F (l.take i ++ l.drop i) 0 := by rw [List.take_append_drop]
  rw [e, idxG_app, idxG_any (l := l.take i) (by omega)]
  by_cases ha : (l.take i).any F = true
  · rw [if_pos ha]
    have := idxG_bound (k := 0) ha
    rw [List.length_take] at this
    constructor
    · exact fun _ => ha
    intro _; omega
  rw [if_neg ha, List.drop_eq_getElem_cons h, idxG, if_pos hF, List.length_take]
  constructor
  · intro h2; omega
  exact fun h2 => absurd h2 ha
def knowsV (c : Cse) (s : ByteArray) : Bool := decide (0 ≤ thingE c.1 s)
def eAt (c : Cse) (i : Nat) : Evid := c.2.1.getD i (ByteArray.empty, [])
theorem eAt_eq {c : Cse} {i : Nat} (h : i < c.2.1.length) : eAt c i = c.2.1[i] := by simp [eAt, h]
def evAt (c : Cse) (i : Nat) : Int := firstE [whenE (!nameB (eAt c i).1) 8, whenE (decide (0 ≤ evidE (c.2.1.take i) (eAt c i).1)) 9, withE (knowsV c) (eAt c i).2]
theorem evid_lt {c : Cse} {i : Nat} (h : i < c.2.1.length) : evidE c.2.1 c.2.1[i].1 < (i : Int) ↔ 0 ≤ evidE (c.2.1.take i) c.2.1[i].1 := idxG_lt h (decide_eq_true rfl)
theorem withAt_r {K : ByteArray → Bool} {l : List Vers} {i : Nat} (h : i < l.length) : withAt K l i = if K l[i].1 = true then (if rangeE l[i].2 0 999 = 0 then whenE (decide (0 ≤ thingE (l.take i) l[i].1)) 9 else rangeE l[i].2 0 999) else 10 := by
  unfold withAt
  rw [vAt_eq h]
  show (if _ = 0 then firstE [_, _] else _) = _
  rw [firstE_two]
  cases hk : K l[i].1 <;> simp [whenE]
theorem rEvidC_ok {c : (List (ByteArray × Int)) × (List (ByteArray × (List (ByteArray × Int)))) × (List (ByteArray × Bool × (List ByteArray)))} {i : Nat} (hl : c.1.length < 1000000) (hm : c.2.1.length < 1000000) (hw0 : ∀ x ∈ c.2.1, x.2.length < 1000000) (hi0 : i < c.2.1.length) : VF Tryz.prog OA 109 [.v y64 c, I ((i : Nat) : Int)] (I (evAt c i)) := by
  refine VF.enter Tryz.func109 rfl (fun _ _ => rfl) rfl ?_
  show VC _ _ _ _ _ [(0, .v y64 c), (1, I ((i : Nat) : Int))] [] _
  refine VC.seq (VC.text ?_)
  refine VO.new (.box) ?_
  refine VO.c (.assign rfl) ?_
  refine VO.go (VC.seq (VC.text ?_))
  refine VO.c (.fa (.r (.l .o))) ?_
  refine VO.r (.ld vt61) ?_
  refine VO.c (.move rfl) ?_
  refine VO.c (.ix (j := i) rfl rfl el61 (by omega)) ?_
  refine VO.r (.ld vt96) ?_
  refine VO.cell (.alloc zt96) ?_
  intro ww1
  refine VO.setV (cs' := [St ((c.2.1[i]).1), .v y60 ((c.2.1[i]).2)]) vt96 .v ?_
  refine VO.shut [(5, .p y96 (c.2.1[i]))] (.cons rfl (.var m0 .refl) .nil) ?_
  refine VO.go (VC.seq (VC.seq (VC.text ?_)))
  refine VO.c (.fa (.l .o)) ?_
  refine VO.r (.ld vt9) ?_
  refine VO.call rfl rfl (VF.call (rName_ok )) ?_
  refine VO.c (.not) ?_
  refine VO.go ?_
  refine VC.condB rfl (fun c2 => ?_) (fun c2 => ?_)
  · try simp only [Bool.and_eq_true, Bool.or_eq_true, Bool.and_eq_false_iff, Bool.or_eq_false_iff, Bool.not_eq_true', Bool.not_eq_false', decide_eq_true_eq, decide_eq_false_iff_not] at c2
    refine VC.seq (VC.text ?_)
    refine VO.c (.assign rfl) ?_
    refine VO.go ?_
    refine VC.ret ?_
    exact VEnd.one rfl evT (pvI (by rw [evAt, eAt_eq hi0, c2] <;> rfl))
  try simp only [Bool.and_eq_true, Bool.or_eq_true, Bool.and_eq_false_iff, Bool.or_eq_false_iff, Bool.not_eq_true', Bool.not_eq_false', decide_eq_true_eq, decide_eq_false_iff_not] at c2
  refine VC.skip (VC.seq (VC.seq (VC.text ?_)))
  refine VO.r (.ld vt64) ?_
  refine VO.c (.fa (.l .o)) ?_
  refine VO.r (.ld vt9) ?_
  refine VO.call rfl rfl (VF.call (rEvid_ok (by first | assumption | omega | simp))) ?_
  refine VO.c (.move rfl) ?_
  refine VO.c (.lss) ?_
  refine VO.go ?_
  refine VC.condD rfl (fun c4 => ?_) (fun c4 => ?_)
  · refine VC.seq (VC.text ?_)
    refine VO.c (.assign rfl) ?_
    refine VO.go ?_
    refine VC.ret ?_
    exact VEnd.one rfl evT (pvI (by rw [evAt, eAt_eq hi0, c2, decide_eq_true ((evid_lt hi0).1 c4)] <;> rfl))
  have hwl := hw0 _ (List.getElem_mem hi0)
  have h4 : ¬ 0 ≤ evidE (c.2.1.take i) c.2.1[i].1 := fun h => c4 ((evid_lt hi0).2 h)
  have hev : evAt c i = withE (knowsV c) c.2.1[i].2 := by rw [evAt, eAt_eq hi0, c2, decide_eq_false h4]; show (if _ = 0 then firstE [_, _] else _) = _; rw [firstE_two] <;> rfl
  refine VC.skip (VC.seq (VC.seq (VC.text ?_)))
  refine VO.c (.fa (.r .o)) ?_
  refine VO.r (.ld vt60) ?_
  refine VO.r (.len el60) ?_
  refine VO.c (.gtr) ?_
  refine VO.go ?_
  refine VC.condD rfl (fun c6 => ?_) (fun c6 => ?_)
  · refine VC.seq (VC.text ?_)
    refine VO.c (.assign rfl) ?_
    refine VO.go ?_
    refine VC.ret ?_
    exact VEnd.one rfl evT (pvI (by rw [hev, withE, if_pos c6]))
  refine VC.skip (VC.seq (VC.seq (VC.text ?_)))
  refine VO.c (.assign rfl) ?_
  refine VO.go (VC.block ?_)
  refine VC.keep [(2, .p y64 c), (5, .p y96 (c.2.1[i])), (6, I ((0 : Nat) : Int))] ⟨rfl, rfl, rfl, trivial⟩ ?_
  refine VC.loop (I := fun kk ff ss => ∃ (k : Nat), kk = c.2.1[i].2.length - k ∧ ff = [(2, .p y64 c), (5, .p y96 (c.2.1[i])), (6, I ((k : Nat) : Int))] ∧ ss = [] ∧ (k ≤ c.2.1[i].2.length) ∧ (withE (knowsV c) c.2.1[i].2 = firstR (withAt (knowsV c) c.2.1[i].2) k c.2.1[i].2.length)) ?_ _ _ _ ⟨0, rfl, rfl, rfl, (by omega), (by exact if_neg c6)⟩
  rintro kk ff ss ⟨k, hk0, rfl, rfl, hk, hw⟩
  refine VC.seq (VC.seq (VC.text ?_))
  refine VO.c (.move rfl) ?_
  refine VO.c (.fa (.r .o)) ?_
  refine VO.r (.ld vt60) ?_
  refine VO.r (.len el60) ?_
  refine VO.c (.lss) ?_
  refine VO.go ?_
  refine VC.condD rfl (fun c9 => ?_) (fun c9 => ?_)
  · refine VC.skip (VC.seq (VC.block (VC.seq (VC.seq (VC.drawn ?_)))))
    refine VD.c (.fa (.l .o)) ?_
    refine VD.r [] (.ld vt60) (.inl rfl) ?_
    refine VD.c (.fa (.r .o)) ?_
    refine VD.r [] (.ld vt60) (.inl rfl) ?_
    refine VD.c (.move rfl) ?_
    refine VD.c (.ix (j := k) rfl rfl el60 (by omega)) ?_
    refine VD.nw [] ?_
    refine VD.c (.fa (.l .o)) ?_
    refine VD.r [] (.ld vt9) (.inl rfl) ?_
    refine VD.call rfl rfl (VF.call (rThing_ok (by first | assumption | omega | simp))) ?_
    refine VD.c (.lss) ?_
    refine VD.go ?_
    refine VC.condD rfl (fun c11 => ?_) (fun c11 => ?_)
    · have hlt : k < c.2.1[i].2.length := by omega
      have hz : withAt (knowsV c) c.2.1[i].2 k = 10 := by rw [withAt_r hlt, if_neg (by unfold knowsV; rw [decide_eq_false (by omega)]; decide)]
      refine VC.seq (VC.text ?_)
      refine VO.c (.assign rfl) ?_
      refine VO.go ?_
      refine VC.ret ?_
      exact VEnd.one rfl evT (pvI (by rw [hev, hw, firstR_step hlt, hz] <;> rfl))
    have hlt : k < c.2.1[i].2.length := by omega
    have hy : withAt (knowsV c) c.2.1[i].2 k = (if rangeE c.2.1[i].2[k].2 0 999 = 0 then whenE (decide (0 ≤ thingE (c.2.1[i].2.take k) c.2.1[i].2[k].1)) 9 else rangeE c.2.1[i].2[k].2 0 999) := by rw [withAt_r hlt, if_pos (by unfold knowsV; exact decide_eq_true (by omega))]
    refine VC.skip (VC.seq (VC.seq (VC.text ?_)))
    refine VO.c (.fa (.r .o)) ?_
    refine VO.r (.ld vt60) ?_
    refine VO.c (.move rfl) ?_
    refine VO.c (.ix (j := k) rfl rfl el60 (by omega)) ?_
    refine VO.c (.fa (.r .o)) ?_
    refine VO.r (.ld vt3) ?_
    refine VO.call rfl rfl (VF.call (rCheckRange_ok )) ?_
    refine VO.c (.assign rfl) ?_
    refine VO.go (VC.seq (VC.text ?_))
    refine VO.c (.move rfl) ?_
    refine VO.c (.neq) ?_
    refine VO.go ?_
    refine VC.condD rfl (fun c14 => ?_) (fun c14 => ?_)
    · refine VC.seq (VC.text ?_)
      refine VO.c (.move rfl) ?_
      refine VO.c (.assign rfl) ?_
      refine VO.go ?_
      refine VC.ret ?_
      exact VEnd.one rfl evT (pvI (by rw [hev, hw, firstR_step hlt, hy, if_neg c14, if_neg c14]))
    refine VC.skip (VC.seq (VC.drawn ?_))
    refine VD.c (.fa (.r .o)) ?_
    refine VD.r [] (.ld vt60) (.inl rfl) ?_
    refine VD.c (.move rfl) ?_
    refine VD.r [] (.cutH rfl rfl el60 (by omega)) (.inl rfl) ?_
    refine VD.c (.fa (.r .o)) ?_
    refine VD.r [] (.ld vt60) (.inl rfl) ?_
    refine VD.nw [] ?_
    refine VD.c (.move rfl) ?_
    refine VD.c (.ix (j := k) rfl rfl el60 (by omega)) ?_
    refine VD.c (.fa (.l .o)) ?_
    refine VD.r [] (.ld vt9) (.inl rfl) ?_
    refine VD.call rfl rfl (VF.call (rThing_ok (by simp; omega))) ?_
    refine VD.c (.geq) ?_
    refine VD.go ?_
    refine VC.condD rfl (fun c16 => ?_) (fun c16 => ?_)
    · have hz : withAt (knowsV c) c.2.1[i].2 k = 9 := by rw [hy, if_pos (Decidable.not_not.1 c14), decide_eq_true (show 0 ≤ thingE (c.2.1[i].2.take k) c.2.1[i].2[k].1 from c16)] <;> rfl
      refine VC.seq ?_
      refine VC.keep [(2, .p y64 c), (5, .p y96 (c.2.1[i])), (6, I ((k : Nat) : Int))] ⟨rfl, rfl, rfl, trivial⟩ ?_
      refine VC.text ?_
      refine VO.c (.assign rfl) ?_
      refine VO.go ?_
      refine VC.ret ?_
      exact VEnd.one rfl evT (pvI (by rw [hev, hw, firstR_step hlt, hz] <;> rfl))
    have hz : withAt (knowsV c) c.2.1[i].2 k = 0 := by rw [hy, if_pos (Decidable.not_not.1 c14), decide_eq_false (show ¬ 0 ≤ thingE (c.2.1[i].2.take k) c.2.1[i].2[k].1 from c16)] <;> rfl
    refine VC.skip ?_
    refine VC.keep [(2, .p y64 c), (5, .p y96 (c.2.1[i])), (6, I ((k : Nat) : Int))] ⟨rfl, rfl, rfl, trivial⟩ ?_
    refine VC.text ?_
    refine VO.c (.move rfl) ?_
    refine VO.c (.add rfl rfl (by omega)) ?_
    refine VO.c (.assign rfl) ?_
    refine VO.nil ?_
    refine ⟨_, [(2, .p y64 c), (5, .p y96 (c.2.1[i])), (6, I (((k + 1) : Nat) : Int))], ?_, ⟨rfl, rfl, rfl, trivial⟩, (k + 1), rfl, rfl, rfl, (by omega), (by rw [hw, firstR_step hlt, if_pos hz])⟩
    omega
  have hkl : k = c.2.1[i].2.length := by omega
  refine VC.exit (VC.seq (VC.text ?_))
  refine VO.c (.assign rfl) ?_
  refine VO.go ?_
  refine VC.ret ?_
  exact VEnd.one rfl evT (pvI (by rw [hev, hw, firstR_end (by omega)]))
end Go.Proofs
namespace Go.Proofs
open Go.Fs
set_option linter.unusedVariables false
abbrev y109 : Ty := (.pair .str (.pair .bool (.sl .str)))
theorem vt62 : ValT Tryz.prog 62 y62 := valT_of (by kernel_rfl)
theorem vt109 : ValT Tryz.prog 109 y109 := valT_of (by kernel_rfl)
theorem zt109 : ZerT Tryz.prog 109 y109 := zerT_of (z := .agg #[.string ByteArray.empty, .bool false, .slice none 0 0]) (by kernel_rfl) rfl rfl
def knownC (c : Cse) (i : Nat) (s : ByteArray) : Bool := decide (0 ≤ evidE c.2.1 s) || decide (0 ≤ claimE (c.2.2.take i) s)
def cAt (c : Cse) (i : Nat) : Clm := c.2.2.getD i (ByteArray.empty, false, [])
theorem cAt_eq {c : Cse} {i : Nat} (h : i < c.2.2.length) : cAt c i = c.2.2[i] := by simp [cAt, h]
def clAt (c : Cse) (i : Nat) : Int := firstE [whenE (!nameB (cAt c i).1) 8, whenE (knownC c i (cAt c i).1) 9, usesE (knownC c i) (cAt c i).2.2]
theorem claim_lt {c : Cse} {i : Nat} (h : i < c.2.2.length) : claimE c.2.2 c.2.2[i].1 < (i : Int) ↔ 0 ≤ claimE (c.2.2.take i) c.2.2[i].1 := idxG_lt h (decide_eq_true rfl)
theorem usesAt_r {K : ByteArray → Bool} {l : List ByteArray} {i : Nat} (h : i < l.length) : usesAt K l i = if K l[i] = true then whenE (hasB (l.take i) l[i]) 9 else 10 := by
  unfold usesAt
  rw [show l.getD i ByteArray.empty = l[i] by simp [h], firstE_two]
  cases hk : K l[i] <;> simp [whenE]
theorem rClaimC_ok {c : (List (ByteArray × Int)) × (List (ByteArray × (List (ByteArray × Int)))) × (List (ByteArray × Bool × (List ByteArray)))} {i : Nat} (hm : c.2.1.length < 1000000) (hn : c.2.2.length < 1000000) (hw0 : ∀ x ∈ c.2.2, x.2.2.length < 1000000) (hi0 : i < c.2.2.length) : VF Tryz.prog OA 110 [.v y64 c, I ((i : Nat) : Int)] (I (clAt c i)) := by
  refine VF.enter Tryz.func110 rfl (fun _ _ => rfl) rfl ?_
  show VC _ _ _ _ _ [(0, .v y64 c), (1, I ((i : Nat) : Int))] [] _
  refine VC.seq (VC.text ?_)
  refine VO.new (.box) ?_
  refine VO.c (.assign rfl) ?_
  refine VO.go (VC.seq (VC.text ?_))
  refine VO.c (.fa (.r (.r .o))) ?_
  refine VO.r (.ld vt62) ?_
  refine VO.c (.move rfl) ?_
  refine VO.c (.ix (j := i) rfl rfl el62 (by omega)) ?_
  refine VO.r (.ld vt109) ?_
  refine VO.cell (.alloc zt109) ?_
  intro ww1
  refine VO.setV (cs' := [St ((c.2.2[i]).1), B ((c.2.2[i]).2.1), .v (.sl .str) ((c.2.2[i]).2.2)]) vt109 .v ?_
  refine VO.shut [(5, .p y109 (c.2.2[i]))] (.cons rfl (.var m0 .refl) .nil) ?_
  refine VO.go (VC.seq (VC.seq (VC.text ?_)))
  refine VO.c (.fa (.l .o)) ?_
  refine VO.r (.ld vt9) ?_
  refine VO.call rfl rfl (VF.call (rName_ok )) ?_
  refine VO.c (.not) ?_
  refine VO.go ?_
  refine VC.condB rfl (fun c2 => ?_) (fun c2 => ?_)
  · try simp only [Bool.and_eq_true, Bool.or_eq_true, Bool.and_eq_false_iff, Bool.or_eq_false_iff, Bool.not_eq_true', Bool.not_eq_false', decide_eq_true_eq, decide_eq_false_iff_not] at c2
    refine VC.seq (VC.text ?_)
    refine VO.c (.assign rfl) ?_
    refine VO.go ?_
    refine VC.ret ?_
    exact VEnd.one rfl evT (pvI (by rw [clAt, cAt_eq hi0, c2] <;> rfl))
  try simp only [Bool.and_eq_true, Bool.or_eq_true, Bool.and_eq_false_iff, Bool.or_eq_false_iff, Bool.not_eq_true', Bool.not_eq_false', decide_eq_true_eq, decide_eq_false_iff_not] at c2
  refine VC.skip (VC.seq (VC.seq (VC.text ?_)))
  refine VO.r (.ld vt64) ?_
  refine VO.c (.fa (.l .o)) ?_
  refine VO.r (.ld vt9) ?_
  refine VO.call rfl rfl (VF.call (rEvid_ok (by first | assumption | omega | simp))) ?_
  refine VO.c (.geq) ?_
  refine VO.c (.move rfl) ?_
  refine VO.cg (r := decide ((0 : Int) ≤ evidE c.2.1 ((c.2.2[i]).1))) (w := false) [] trivial (fun hgd => have g4_5 : ¬ ((0 : Int) ≤ evidE c.2.1 ((c.2.2[i]).1)) := (by simpa using hgd); (.fa (.r (.r .o)))) ?_
  refine VO.rg (r := decide ((0 : Int) ≤ evidE c.2.1 ((c.2.2[i]).1))) (w := false) [(22, .p y62 c.2.2)] ⟨rfl, trivial⟩ (fun hgd => have g4_5 : ¬ ((0 : Int) ≤ evidE c.2.1 ((c.2.2[i]).1)) := (by simpa using hgd); (.ld vt62)) ?_
  refine VO.cg (r := decide ((0 : Int) ≤ evidE c.2.1 ((c.2.2[i]).1))) (w := false) [] trivial (fun hgd => have g4_5 : ¬ ((0 : Int) ≤ evidE c.2.1 ((c.2.2[i]).1)) := (by simpa using hgd); (.fa (.l .o))) ?_
  refine VO.rg (r := decide ((0 : Int) ≤ evidE c.2.1 ((c.2.2[i]).1))) (w := false) [(24, .p .str ((c.2.2[i]).1))] ⟨rfl, trivial⟩ (fun hgd => have g4_5 : ¬ ((0 : Int) ≤ evidE c.2.1 ((c.2.2[i]).1)) := (by simpa using hgd); (.ld vt9)) ?_
  refine VO.callg (r0 := decide ((0 : Int) ≤ evidE c.2.1 ((c.2.2[i]).1))) (w := false) [(23, .v y62 c.2.2), (25, St ((c.2.2[i]).1))] ⟨rfl, rfl, trivial⟩ rfl rfl .same .refl rfl (fun hgd => have g4_5 : ¬ ((0 : Int) ≤ evidE c.2.1 ((c.2.2[i]).1)) := (by simpa using hgd); VF.call (rClaim_ok (by first | assumption | omega | simp))) ?_
  refine VO.cg (r := decide ((0 : Int) ≤ evidE c.2.1 ((c.2.2[i]).1))) (w := false) [] trivial (fun hgd => have g4_5 : ¬ ((0 : Int) ≤ evidE c.2.1 ((c.2.2[i]).1)) := (by simpa using hgd); (.move rfl)) ?_
  refine VO.cg (r := decide ((0 : Int) ≤ evidE c.2.1 ((c.2.2[i]).1))) (w := false) [(26, I (claimE c.2.2 ((c.2.2[i]).1))), (27, I ((i : Nat) : Int))] ⟨rfl, rfl, trivial⟩ (fun hgd => have g4_5 : ¬ ((0 : Int) ≤ evidE c.2.1 ((c.2.2[i]).1)) := (by simpa using hgd); (.lss)) ?_
  refine VO.c (.or) ?_
  refine VO.go ?_
  refine VC.condB rfl (fun c4 => ?_) (fun c4 => ?_)
  · try simp only [Bool.and_eq_true, Bool.or_eq_true, Bool.and_eq_false_iff, Bool.or_eq_false_iff, Bool.not_eq_true', Bool.not_eq_false', decide_eq_true_eq, decide_eq_false_iff_not] at c4
    have h4 : knownC c i c.2.2[i].1 = true := by
      unfold knownC
      rcases c4 with h | h
      · rw [decide_eq_true h] <;> rfl
      rw [decide_eq_true ((claim_lt hi0).1 h), Bool.or_true]
    refine VC.seq (VC.text ?_)
    refine VO.c (.assign rfl) ?_
    refine VO.go ?_
    refine VC.ret ?_
    exact VEnd.one rfl evT (pvI (by rw [clAt, cAt_eq hi0, c2, h4] <;> rfl))
  try simp only [Bool.and_eq_true, Bool.or_eq_true, Bool.and_eq_false_iff, Bool.or_eq_false_iff, Bool.not_eq_true', Bool.not_eq_false', decide_eq_true_eq, decide_eq_false_iff_not] at c4
  have hwl := hw0 _ (List.getElem_mem hi0)
  have h4 : knownC c i c.2.2[i].1 = false := by
    unfold knownC
    rw [decide_eq_false c4.1, decide_eq_false (fun h => c4.2 ((claim_lt hi0).2 h))] <;> rfl
  have hev : clAt c i = usesE (knownC c i) c.2.2[i].2.2 := by rw [clAt, cAt_eq hi0, c2, h4]; show (if _ = 0 then firstE [_, _] else _) = _; rw [firstE_two] <;> rfl
  refine VC.skip (VC.seq (VC.seq (VC.text ?_)))
  refine VO.c (.fa (.r (.r .o))) ?_
  refine VO.r (.ld vt27) ?_
  refine VO.r (.len el27) ?_
  refine VO.c (.eql) ?_
  refine VO.go ?_
  refine VC.condD rfl (fun c6 => ?_) (fun c6 => ?_)
  · refine VC.seq (VC.text ?_)
    refine VO.c (.assign rfl) ?_
    refine VO.go ?_
    refine VC.ret ?_
    exact VEnd.one rfl evT (pvI (by rw [hev, usesE, decide_eq_true c6] <;> rfl))
  refine VC.skip (VC.seq (VC.seq (VC.text ?_)))
  refine VO.c (.fa (.r (.r .o))) ?_
  refine VO.r (.ld vt27) ?_
  refine VO.r (.len el27) ?_
  refine VO.c (.gtr) ?_
  refine VO.go ?_
  refine VC.condD rfl (fun c8 => ?_) (fun c8 => ?_)
  · refine VC.seq (VC.text ?_)
    refine VO.c (.assign rfl) ?_
    refine VO.go ?_
    refine VC.ret ?_
    exact VEnd.one rfl evT (pvI (by rw [hev, usesE, decide_eq_false c6, decide_eq_true c8] <;> rfl))
  have hu : usesE (knownC c i) c.2.2[i].2.2 = firstR (usesAt (knownC c i) c.2.2[i].2.2) 0 c.2.2[i].2.2.length := by rw [usesE, decide_eq_false c6, decide_eq_false c8] <;> rfl
  refine VC.skip (VC.seq (VC.seq (VC.text ?_)))
  refine VO.c (.assign rfl) ?_
  refine VO.go (VC.block ?_)
  refine VC.keep [(1, I ((i : Nat) : Int)), (2, .p y64 c), (5, .p y109 (c.2.2[i])), (6, I ((0 : Nat) : Int))] ⟨rfl, rfl, rfl, rfl, trivial⟩ ?_
  refine VC.loop (I := fun kk ff ss => ∃ (k : Nat), kk = c.2.2[i].2.2.length - k ∧ ff = [(1, I ((i : Nat) : Int)), (2, .p y64 c), (5, .p y109 (c.2.2[i])), (6, I ((k : Nat) : Int))] ∧ ss = [] ∧ (k ≤ c.2.2[i].2.2.length) ∧ (usesE (knownC c i) c.2.2[i].2.2 = firstR (usesAt (knownC c i) c.2.2[i].2.2) k c.2.2[i].2.2.length)) ?_ _ _ _ ⟨0, rfl, rfl, rfl, (by omega), (by exact hu)⟩
  rintro kk ff ss ⟨k, hk0, rfl, rfl, hk, hw⟩
  refine VC.seq (VC.seq (VC.text ?_))
  refine VO.c (.move rfl) ?_
  refine VO.c (.fa (.r (.r .o))) ?_
  refine VO.r (.ld vt27) ?_
  refine VO.r (.len el27) ?_
  refine VO.c (.lss) ?_
  refine VO.go ?_
  refine VC.condD rfl (fun c11 => ?_) (fun c11 => ?_)
  · refine VC.skip (VC.seq (VC.block (VC.seq (VC.seq (VC.drawn ?_)))))
    refine VD.r [] (.ld vt64) (.inl rfl) ?_
    refine VD.c (.fa (.r (.r .o))) ?_
    refine VD.r [] (.ld vt27) (.inl rfl) ?_
    refine VD.c (.move rfl) ?_
    refine VD.c (.ix (j := k) rfl rfl el27 (by omega)) ?_
    refine VD.r [] (.ld vt9) (.inl rfl) ?_
    refine VD.nw [] ?_
    refine VD.call rfl rfl (VF.call (rEvid_ok (by first | assumption | omega | simp))) ?_
    refine VD.c (.lss) ?_
    refine VD.c (.move rfl) ?_
    refine VD.splitD (x := 53) rfl (fun g13_8 => ?_) (fun g13_8 => ?_)
    · refine VD.c (.fa (.r (.r .o))) ?_
      refine VD.r [] (.ld vt62) (.inl rfl) ?_
      refine VD.c (.move rfl) ?_
      refine VD.nw [] ?_
      refine VD.r [] (.cutH rfl rfl el62 (by omega)) (.inl rfl) ?_
      refine VD.c (.fa (.r (.r .o))) ?_
      refine VD.r [] (.ld vt27) (.inl rfl) ?_
      refine VD.c (.move rfl) ?_
      refine VD.c (.ix (j := k) rfl rfl el27 (by omega)) ?_
      refine VD.r [] (.ld vt9) (.inl rfl) ?_
      refine VD.call rfl rfl (VF.call (rClaim_ok (by simp; omega))) ?_
      refine VD.nw [] ?_
      refine VD.c (.lss) ?_
      refine VD.c (.pickT rfl rfl) ?_
      refine VD.go ?_
      refine VC.condD rfl (fun c13 => ?_) (fun c13 => ?_)
      · have hlt : k < c.2.2[i].2.2.length := by omega
        have c13' : claimE (c.2.2.take i) c.2.2[i].2.2[k] < 0 := c13
        have hv : usesAt (knownC c i) c.2.2[i].2.2 k = 10 := by rw [usesAt_r hlt, if_neg (by unfold knownC; rw [decide_eq_false (by omega), decide_eq_false (by omega)]; decide)]
        refine VC.seq (VC.text ?_)
        refine VO.c (.assign rfl) ?_
        refine VO.go ?_
        refine VC.ret ?_
        exact VEnd.one rfl evT (pvI (by rw [hev, hw, firstR_step hlt, hv] <;> rfl))
      have hlt : k < c.2.2[i].2.2.length := by omega
      have c13' : ¬ claimE (c.2.2.take i) c.2.2[i].2.2[k] < 0 := c13
      have hy : usesAt (knownC c i) c.2.2[i].2.2 k = whenE (hasB (c.2.2[i].2.2.take k) c.2.2[i].2.2[k]) 9 := by rw [usesAt_r hlt, if_pos (by unfold knownC; rw [decide_eq_true (show 0 ≤ claimE (c.2.2.take i) c.2.2[i].2.2[k] by omega), Bool.or_true])]
      refine VC.skip (VC.seq (VC.drawn ?_))
      refine VD.c (.fa (.r (.r .o))) ?_
      refine VD.r [] (.ld vt27) (.inl rfl) ?_
      refine VD.c (.move rfl) ?_
      refine VD.r [] (.cutH rfl rfl el27 (by omega)) (.inl rfl) ?_
      refine VD.c (.fa (.r (.r .o))) ?_
      refine VD.r [] (.ld vt27) (.inl rfl) ?_
      refine VD.nw [] ?_
      refine VD.c (.move rfl) ?_
      refine VD.c (.ix (j := k) rfl rfl el27 (by omega)) ?_
      refine VD.r [] (.ld vt9) (.inl rfl) ?_
      refine VD.call rfl rfl (VF.call (rHas_ok (by simp; omega))) ?_
      refine VD.go ?_
      refine VC.condB rfl (fun c15 => ?_) (fun c15 => ?_)
      · have hv : usesAt (knownC c i) c.2.2[i].2.2 k = 9 := by rw [hy, show hasB (c.2.2[i].2.2.take k) c.2.2[i].2.2[k] = true from c15] <;> rfl
        refine VC.seq ?_
        refine VC.keep [(1, I ((i : Nat) : Int)), (2, .p y64 c), (5, .p y109 (c.2.2[i])), (6, I ((k : Nat) : Int))] ⟨rfl, rfl, rfl, rfl, trivial⟩ ?_
        refine VC.text ?_
        refine VO.c (.assign rfl) ?_
        refine VO.go ?_
        refine VC.ret ?_
        exact VEnd.one rfl evT (pvI (by rw [hev, hw, firstR_step hlt, hv] <;> rfl))
      have hz : usesAt (knownC c i) c.2.2[i].2.2 k = 0 := by rw [hy, show hasB (c.2.2[i].2.2.take k) c.2.2[i].2.2[k] = false from c15] <;> rfl
      refine VC.skip ?_
      refine VC.keep [(1, I ((i : Nat) : Int)), (2, .p y64 c), (5, .p y109 (c.2.2[i])), (6, I ((k : Nat) : Int))] ⟨rfl, rfl, rfl, rfl, trivial⟩ ?_
      refine VC.text ?_
      refine VO.c (.move rfl) ?_
      refine VO.c (.add rfl rfl (by omega)) ?_
      refine VO.c (.assign rfl) ?_
      refine VO.nil ?_
      refine ⟨_, [(1, I ((i : Nat) : Int)), (2, .p y64 c), (5, .p y109 (c.2.2[i])), (6, I (((k + 1) : Nat) : Int))], ?_, ⟨rfl, rfl, rfl, rfl, trivial⟩, (k + 1), rfl, rfl, rfl, (by omega), (by rw [hw, firstR_step hlt, if_pos hz])⟩
      omega
    have hlt : k < c.2.2[i].2.2.length := by omega
    have hy : usesAt (knownC c i) c.2.2[i].2.2 k = whenE (hasB (c.2.2[i].2.2.take k) c.2.2[i].2.2[k]) 9 := by rw [usesAt_r hlt, if_pos (by unfold knownC; rw [decide_eq_true (by omega)]; rfl)]
    refine VD.skip ?_
    refine VD.skip ?_
    refine VD.skip ?_
    refine VD.nw [] ?_
    refine VD.skip ?_
    refine VD.skip ?_
    refine VD.skip ?_
    refine VD.skip ?_
    refine VD.skip ?_
    refine VD.skip ?_
    refine VD.skip ?_
    refine VD.nw [] ?_
    refine VD.skip ?_
    refine VD.c (.pickF rfl rfl) ?_
    refine VD.go ?_
    refine VC.condF rfl ?_
    refine VC.skip (VC.seq (VC.drawn ?_))
    refine VD.c (.fa (.r (.r .o))) ?_
    refine VD.r [] (.ld vt27) (.inl rfl) ?_
    refine VD.c (.move rfl) ?_
    refine VD.r [] (.cutH rfl rfl el27 (by omega)) (.inl rfl) ?_
    refine VD.c (.fa (.r (.r .o))) ?_
    refine VD.r [] (.ld vt27) (.inl rfl) ?_
    refine VD.nw [] ?_
    refine VD.c (.move rfl) ?_
    refine VD.c (.ix (j := k) rfl rfl el27 (by omega)) ?_
    refine VD.r [] (.ld vt9) (.inl rfl) ?_
    refine VD.call rfl rfl (VF.call (rHas_ok (by simp; omega))) ?_
    refine VD.go ?_
    refine VC.condB rfl (fun c15 => ?_) (fun c15 => ?_)
    · have hv : usesAt (knownC c i) c.2.2[i].2.2 k = 9 := by rw [hy, show hasB (c.2.2[i].2.2.take k) c.2.2[i].2.2[k] = true from c15] <;> rfl
      refine VC.seq ?_
      refine VC.keep [(1, I ((i : Nat) : Int)), (2, .p y64 c), (5, .p y109 (c.2.2[i])), (6, I ((k : Nat) : Int))] ⟨rfl, rfl, rfl, rfl, trivial⟩ ?_
      refine VC.text ?_
      refine VO.c (.assign rfl) ?_
      refine VO.go ?_
      refine VC.ret ?_
      exact VEnd.one rfl evT (pvI (by rw [hev, hw, firstR_step hlt, hv] <;> rfl))
    have hz : usesAt (knownC c i) c.2.2[i].2.2 k = 0 := by rw [hy, show hasB (c.2.2[i].2.2.take k) c.2.2[i].2.2[k] = false from c15] <;> rfl
    refine VC.skip ?_
    refine VC.keep [(1, I ((i : Nat) : Int)), (2, .p y64 c), (5, .p y109 (c.2.2[i])), (6, I ((k : Nat) : Int))] ⟨rfl, rfl, rfl, rfl, trivial⟩ ?_
    refine VC.text ?_
    refine VO.c (.move rfl) ?_
    refine VO.c (.add rfl rfl (by omega)) ?_
    refine VO.c (.assign rfl) ?_
    refine VO.nil ?_
    refine ⟨_, [(1, I ((i : Nat) : Int)), (2, .p y64 c), (5, .p y109 (c.2.2[i])), (6, I (((k + 1) : Nat) : Int))], ?_, ⟨rfl, rfl, rfl, rfl, trivial⟩, (k + 1), rfl, rfl, rfl, (by omega), (by rw [hw, firstR_step hlt, if_pos hz])⟩
    omega
  refine VC.exit (VC.seq (VC.text ?_))
  refine VO.c (.assign rfl) ?_
  refine VO.go ?_
  refine VC.ret ?_
  exact VEnd.one rfl evT (pvI (by rw [hev, hw, firstR_end (by omega)]))
end Go.Proofs
namespace Go.Proofs
open Go.Fs
set_option linter.unusedVariables false

def caseE (c : Cse) : Int :=
  if versE c.1 ≠ 0 then versE c.1
  else if 64 < (c.2.1.length : Int) then 5
  else if firstR (evAt c) 0 c.2.1.length ≠ 0 then firstR (evAt c) 0 c.2.1.length
  else if 64 < (c.2.2.length : Int) then 5
  else firstR (clAt c) 0 c.2.2.length
structure CseOk (c : Cse) : Prop where
  v : c.1.length < 100000
  e : c.2.1.length < 100000
  l : c.2.2.length < 100000
  w : ∀ x ∈ c.2.1, x.2.length < 100000
  u : ∀ x ∈ c.2.2, x.2.2.length < 100000
theorem rCase_ok {c : (List (ByteArray × Int)) × (List (ByteArray × (List (ByteArray × Int)))) × (List (ByteArray × Bool × (List ByteArray)))} (hc : CseOk c) : VF Tryz.prog OA 41 [.v y64 c] (I (caseE c)) := by
  refine VF.enter Tryz.func41 rfl (fun _ _ => rfl) rfl ?_
  show VC _ _ _ _ _ [(0, .v y64 c)] [] _
  refine VC.seq (VC.text ?_)
  have h1 := hc.v
  have h2 := hc.e
  have h3 := hc.l
  refine VO.new (.box) ?_
  refine VO.c (.assign rfl) ?_
  refine VO.go (VC.seq (VC.seq (VC.text ?_)))
  refine VO.c (.fa (.l .o)) ?_
  refine VO.r (.ld vt60) ?_
  refine VO.call rfl rfl (VF.call (rVersions_ok (by omega))) ?_
  refine VO.c (.assign rfl) ?_
  refine VO.go (VC.seq (VC.text ?_))
  refine VO.c (.move rfl) ?_
  refine VO.c (.neq) ?_
  refine VO.go ?_
  refine VC.condD rfl (fun c2 => ?_) (fun c2 => ?_)
  · refine VC.seq (VC.text ?_)
    refine VO.c (.move rfl) ?_
    refine VO.c (.assign rfl) ?_
    refine VO.go ?_
    refine VC.ret ?_
    exact VEnd.one rfl evT (pvI (by rw [caseE, if_pos c2]))
  refine VC.skip (VC.seq (VC.seq (VC.text ?_)))
  refine VO.c (.fa (.r (.l .o))) ?_
  refine VO.r (.ld vt61) ?_
  refine VO.r (.len el61) ?_
  refine VO.c (.gtr) ?_
  refine VO.go ?_
  refine VC.condD rfl (fun c4 => ?_) (fun c4 => ?_)
  · refine VC.seq (VC.text ?_)
    refine VO.c (.assign rfl) ?_
    refine VO.go ?_
    refine VC.ret ?_
    exact VEnd.one rfl evT (pvI (by rw [caseE, if_neg c2, if_pos c4]))
  refine VC.skip (VC.seq (VC.seq (VC.text ?_)))
  refine VO.c (.assign rfl) ?_
  refine VO.go (VC.block ?_)
  refine VC.keep [(1, .p y64 c), (4, I ((0 : Nat) : Int))] ⟨rfl, rfl, trivial⟩ ?_
  refine VC.loop (I := fun kk ff ss => ∃ (i : Nat), kk = c.2.1.length - i ∧ ff = [(1, .p y64 c), (4, I ((i : Nat) : Int))] ∧ ss = [] ∧ (i ≤ c.2.1.length) ∧ (firstR (evAt c) 0 c.2.1.length = firstR (evAt c) i c.2.1.length)) ?_ _ _ _ ⟨0, rfl, rfl, rfl, Nat.zero_le _, (by rfl)⟩
  rintro kk ff ss ⟨i, hk0, rfl, rfl, hi, hw⟩
  refine VC.seq (VC.seq (VC.text ?_))
  refine VO.c (.move rfl) ?_
  refine VO.c (.fa (.r (.l .o))) ?_
  refine VO.r (.ld vt61) ?_
  refine VO.r (.len el61) ?_
  refine VO.c (.lss) ?_
  refine VO.go ?_
  refine VC.condD rfl (fun c7 => ?_) (fun c7 => ?_)
  · have hlt : i < c.2.1.length := by omega
    refine VC.skip (VC.seq (VC.block (VC.seq (VC.text ?_))))
    refine VO.r (.ld vt64) ?_
    refine VO.c (.move rfl) ?_
    refine VO.call rfl rfl (VF.call (rEvidC_ok (by omega) (by omega) (fun x hx => by have := hc.w x hx; omega) (by omega))) ?_
    refine VO.c (.assign rfl) ?_
    refine VO.go (VC.seq (VC.text ?_))
    refine VO.c (.move rfl) ?_
    refine VO.c (.neq) ?_
    refine VO.go ?_
    refine VC.condD rfl (fun c10 => ?_) (fun c10 => ?_)
    · refine VC.seq (VC.text ?_)
      refine VO.c (.move rfl) ?_
      refine VO.c (.assign rfl) ?_
      refine VO.go ?_
      refine VC.ret ?_
      exact VEnd.one rfl evT (pvI (by rw [caseE, if_neg c2, if_neg c4, hw, firstR_step hlt, if_neg c10, if_pos c10]))
    refine VC.skip (VC.text ?_)
    refine VO.c (.move rfl) ?_
    refine VO.c (.add rfl rfl (by omega)) ?_
    refine VO.c (.assign rfl) ?_
    refine VO.nil ?_
    refine ⟨_, [(1, .p y64 c), (4, I (((i + 1) : Nat) : Int))], ?_, ⟨rfl, rfl, trivial⟩, (i + 1), rfl, rfl, rfl, (by omega), (by rw [hw, firstR_step hlt, if_pos (Decidable.not_not.1 c10)])⟩
    omega
  have hz : firstR (evAt c) 0 c.2.1.length = 0 := by rw [hw, firstR_end (by omega)]
  refine VC.exit (VC.seq (VC.seq (VC.text ?_)))
  refine VO.c (.fa (.r (.r .o))) ?_
  refine VO.r (.ld vt62) ?_
  refine VO.r (.len el62) ?_
  refine VO.c (.gtr) ?_
  refine VO.go ?_
  refine VC.condD rfl (fun c12 => ?_) (fun c12 => ?_)
  · refine VC.seq (VC.text ?_)
    refine VO.c (.assign rfl) ?_
    refine VO.go ?_
    refine VC.ret ?_
    exact VEnd.one rfl evT (pvI (by rw [caseE, if_neg c2, if_neg c4, hz, if_neg (fun h => h rfl), if_pos c12]))
  refine VC.skip (VC.seq (VC.seq (VC.text ?_)))
  refine VO.c (.assign rfl) ?_
  refine VO.go (VC.block ?_)
  refine VC.keep [(1, .p y64 c), (6, I ((0 : Nat) : Int))] ⟨rfl, rfl, trivial⟩ ?_
  refine VC.loop (I := fun kk ff ss => ∃ (j : Nat), kk = c.2.2.length - j ∧ ff = [(1, .p y64 c), (6, I ((j : Nat) : Int))] ∧ ss = [] ∧ (j ≤ c.2.2.length) ∧ (firstR (clAt c) 0 c.2.2.length = firstR (clAt c) j c.2.2.length)) ?_ _ _ _ ⟨0, rfl, rfl, rfl, Nat.zero_le _, (by rfl)⟩
  rintro kk ff ss ⟨j, hk2, rfl, rfl, hj, hx⟩
  refine VC.seq (VC.seq (VC.text ?_))
  refine VO.c (.move rfl) ?_
  refine VO.c (.fa (.r (.r .o))) ?_
  refine VO.r (.ld vt62) ?_
  refine VO.r (.len el62) ?_
  refine VO.c (.lss) ?_
  refine VO.go ?_
  refine VC.condD rfl (fun c15 => ?_) (fun c15 => ?_)
  · have hlt2 : j < c.2.2.length := by omega
    refine VC.skip (VC.seq (VC.block (VC.seq (VC.text ?_))))
    refine VO.r (.ld vt64) ?_
    refine VO.c (.move rfl) ?_
    refine VO.call rfl rfl (VF.call (rClaimC_ok (by omega) (by omega) (fun x hx => by have := hc.u x hx; omega) (by omega))) ?_
    refine VO.c (.assign rfl) ?_
    refine VO.go (VC.seq (VC.text ?_))
    refine VO.c (.move rfl) ?_
    refine VO.c (.neq) ?_
    refine VO.go ?_
    refine VC.condD rfl (fun c18 => ?_) (fun c18 => ?_)
    · refine VC.seq (VC.text ?_)
      refine VO.c (.move rfl) ?_
      refine VO.c (.assign rfl) ?_
      refine VO.go ?_
      refine VC.ret ?_
      exact VEnd.one rfl evT (pvI (by rw [caseE, if_neg c2, if_neg c4, hz, if_neg (fun h => h rfl), if_neg c12, hx, firstR_step hlt2, if_neg c18]))
    refine VC.skip (VC.text ?_)
    refine VO.c (.move rfl) ?_
    refine VO.c (.add rfl rfl (by omega)) ?_
    refine VO.c (.assign rfl) ?_
    refine VO.nil ?_
    refine ⟨_, [(1, .p y64 c), (6, I (((j + 1) : Nat) : Int))], ?_, ⟨rfl, rfl, trivial⟩, (j + 1), rfl, rfl, rfl, (by omega), (by rw [hx, firstR_step hlt2, if_pos (Decidable.not_not.1 c18)])⟩
    omega
  refine VC.exit (VC.seq (VC.text ?_))
  refine VO.c (.assign rfl) ?_
  refine VO.go ?_
  refine VC.ret ?_
  exact VEnd.one rfl evT (pvI (by rw [caseE, if_neg c2, if_neg c4, hz, if_neg (fun h => h rfl), if_neg c12, hx, firstR_end (by omega)]))
end Go.Proofs
namespace Go.Proofs
open Go.Fs
set_option linter.unusedVariables false
abbrev y69 : Ty := (.sl (.pair .str (.sl (.pair .str (.int .i64)))))
abbrev y155 : Ty := (.pair .str (.sl (.pair .str (.int .i64))))
theorem vt69 : ValT Tryz.prog 69 y69 := valT_of (by kernel_rfl)
theorem vt72 : ValT Tryz.prog 72 y72 := valT_of (by kernel_rfl)
theorem vt155 : ValT Tryz.prog 155 y155 := valT_of (by kernel_rfl)
theorem el69 : ElT Tryz.prog 69 155 y155 := elT_of (by kernel_rfl)
theorem zt155 : ZerT Tryz.prog 155 y155 := zerT_of (z := .agg #[.string ByteArray.empty, .slice none 0 0]) (by kernel_rfl) rfl rfl
theorem zt156 : ZerT Tryz.prog 156 y156 := zerT_of (z := .agg #[.string ByteArray.empty, .bool false, .slice none 0 0]) (by kernel_rfl) rfl rfl
def kE (c : Cse) : Nat → List (ByteArray × Bool)
  | 0 => []
  | i + 1 => mset (kE c i) (eAt c i).1 true
def kC (c : Cse) : Nat → List (ByteArray × Bool)
  | 0 => kE c c.2.1.length
  | j + 1 => mset (kC c j) (cAt c j).1 true
theorem kE_has {c : Cse} {s : ByteArray} : ∀ i, i ≤ c.2.1.length → (mget (kE c i) s).getD false = decide (0 ≤ evidE (c.2.1.take i) s)
  | 0, _ => by simp [kE, mget, evidE, idxG]
  | i + 1, h => by
    have hlt : i < c.2.1.length := by omega
    have ih := kE_has (c := c) (s := s) i (by omega)
    rw [kE, mget_mset, evidE, List.take_succ_eq_append_getElem hlt, eAt_eq hlt]
    rw [evidE] at ih
    by_cases hs : s = c.2.1[i].1
    · rw [if_pos hs]
      refine (decide_eq_true ?_).symm
      exact idxG_none.2 ⟨c.2.1[i], List.mem_append_right _ List.mem_cons_self, decide_eq_true hs.symm⟩
    rw [if_neg hs, ih]
    refine decide_eq_decide.2 ?_
    rw [idxG_none, idxG_none]
    constructor
    · rintro ⟨x, hx, he⟩; exact ⟨x, List.mem_append_left _ hx, he⟩
    rintro ⟨x, hx, he⟩
    rcases List.mem_append.1 hx with hx | hx
    · exact ⟨x, hx, he⟩
    obtain rfl := List.mem_singleton.1 hx
    exact absurd (of_decide_eq_true he).symm hs
theorem kC_has {c : Cse} {s : ByteArray} : ∀ j, j ≤ c.2.2.length → (mget (kC c j) s).getD false = knownC c j s
  | 0, _ => by
    rw [kC, kE_has _ (Nat.le_refl _), List.take_length]
    unfold knownC
    simp [claimE, idxG]
  | j + 1, h => by
    have hlt : j < c.2.2.length := by omega
    have ih := kC_has (c := c) (s := s) j (by omega)
    rw [kC, mget_mset, cAt_eq hlt]
    unfold knownC at ih ⊢
    rw [claimE, List.take_succ_eq_append_getElem hlt]
    rw [claimE] at ih
    by_cases hs : s = c.2.2[j].1
    · rw [if_pos hs, decide_eq_true (p := 0 ≤ idxG _ (c.2.2.take j ++ [c.2.2[j]]) 0) (idxG_none.2 ⟨c.2.2[j], List.mem_append_right _ List.mem_cons_self, decide_eq_true hs.symm⟩), Bool.or_true]
      rfl
    rw [if_neg hs, ih]
    congr 1
    refine decide_eq_decide.2 ?_
    rw [idxG_none, idxG_none]
    constructor
    · rintro ⟨x, hx, he⟩; exact ⟨x, List.mem_append_left _ hx, he⟩
    rintro ⟨x, hx, he⟩
    rcases List.mem_append.1 hx with hx | hx
    · exact ⟨x, hx, he⟩
    obtain rfl := List.mem_singleton.1 hx
    exact absurd (of_decide_eq_true he).symm hs
theorem knows_fun {c : Cse} (hv : versE c.1 = 0) : (fun s => (mget (if versE c.1 = 0 then verM c.1 c.1.length else []) s).isSome) = knowsV c := by
  funext s
  rw [if_pos hv, verM_dec (l := c.1) (i := c.1.length) (Nat.le_refl _), List.take_length]
  rfl
theorem kC_fun {c : Cse} {j : Nat} (hj : j ≤ c.2.2.length) : (fun s => (mget (kC c j) s).getD false) = knownC c j := funext fun s => kC_has j hj
theorem evAt_m {c : Cse} {i : Nat} (hv : versE c.1 = 0) (h : i < c.2.1.length) :
    firstE [whenE (!nameB c.2.1[i].1) 8, whenE ((mget (kE c i) c.2.1[i].1).getD false) 9, withE (fun s => (mget (if versE c.1 = 0 then verM c.1 c.1.length else []) s).isSome) c.2.1[i].2] = evAt c i := by
  rw [knows_fun hv, kE_has i (by omega), evAt, eAt_eq h]
theorem clAt_m {c : Cse} {j : Nat} (h : j < c.2.2.length) :
    firstE [whenE (!nameB c.2.2[j].1) 8, whenE ((mget (kC c j) c.2.2[j].1).getD false) 9, usesE (fun s => (mget (kC c j) s).getD false) c.2.2[j].2.2] = clAt c j := by
  rw [kC_fun (by omega), kC_has j (by omega), clAt, cAt_eq h]
theorem two_ok {a : Int} {p : Prop} [Decidable p] (h : ¬ firstE [a, whenE (decide p) 5] ≠ 0) : a = 0 ∧ ¬ p := by
  have h := Decidable.not_not.1 h
  rw [firstE_two] at h
  by_cases ha : a = 0
  · rw [if_pos ha] at h
    refine ⟨ha, fun hp => ?_⟩
    rw [decide_eq_true hp] at h
    cases h
  rw [if_neg ha] at h
  exact absurd h ha
theorem case_bad {c : Cse} (h : firstE [versE c.1, whenE (decide (64 < (c.2.1.length : Int))) 5] ≠ 0) : firstE [versE c.1, whenE (decide (64 < (c.2.1.length : Int))) 5] = caseE c := by
  rw [firstE_two] at h ⊢
  unfold caseE
  by_cases hv : versE c.1 = 0
  · rw [if_pos hv] at h ⊢
    rw [if_neg (fun h2 => h2 hv)]
    by_cases hp : 64 < (c.2.1.length : Int)
    · rw [if_pos hp, decide_eq_true hp] <;> rfl
    rw [decide_eq_false hp] at h
    exact absurd rfl h
  rw [if_neg hv, if_pos hv]
theorem case_ok {c : Cse} (hv : versE c.1 = 0) (h4 : ¬ 64 < (c.2.1.length : Int)) : caseE c = if firstR (evAt c) 0 c.2.1.length ≠ 0 then firstR (evAt c) 0 c.2.1.length else if 64 < (c.2.2.length : Int) then 5 else firstR (clAt c) 0 c.2.2.length := by
  have h : ¬ versE c.1 ≠ 0 := fun h => h hv
  unfold caseE
  rw [if_neg h, if_neg h4]
theorem sCase_ok {c : (List (ByteArray × Int)) × (List (ByteArray × (List (ByteArray × Int)))) × (List (ByteArray × Bool × (List ByteArray)))} (hc : CseOk c) : VF Tryz.prog OA 45 [.v y72 c] (I (caseE c)) := by
  refine VF.enter Tryz.func45 rfl (fun _ _ => rfl) rfl ?_
  show VC _ _ _ _ _ [(0, .v y72 c)] [] _
  refine VC.seq (VC.text ?_)
  have h1 := hc.v
  have h2 := hc.e
  have h3 := hc.l
  refine VO.new (.box) ?_
  refine VO.c (.assign rfl) ?_
  refine VO.go (VC.seq (VC.text ?_))
  refine VO.r (.ld vt72) ?_
  refine VO.call rfl rfl (VF.call (sVersions_ok (by omega))) ?_
  refine VO.c (.move rfl) ?_
  refine VO.c (.extract) ?_
  refine VO.c (.extract) ?_
  refine VO.c (.assign rfl) ?_
  refine VO.c (.assign rfl) ?_
  refine VO.go (VC.seq (VC.seq (VC.text ?_)))
  refine VO.c (.move rfl) ?_
  refine VO.c (.fa (.r (.l .o))) ?_
  refine VO.r (.ld vt69) ?_
  refine VO.r (.len el69) ?_
  refine VO.c (.gtr) ?_
  refine VO.call rfl rfl (VF.call (sWhen_ok )) ?_
  refine VO.new (.lit [versE c.1, whenE (decide ((64 : Int) < ((c.2.1.length : Nat) : Int))) (5 : Int)] el204) ?_
  refine VO.call rfl rfl (VF.call (sFirst_ok (by simp))) ?_
  refine VO.c (.assign rfl) ?_
  refine VO.go (VC.seq (VC.text ?_))
  refine VO.c (.move rfl) ?_
  refine VO.c (.neq) ?_
  refine VO.go ?_
  refine VC.condD rfl (fun c3 => ?_) (fun c3 => ?_)
  · refine VC.seq (VC.text ?_)
    refine VO.c (.move rfl) ?_
    refine VO.c (.assign rfl) ?_
    refine VO.go ?_
    refine VC.ret ?_
    exact VEnd.one rfl evT (pvI (by exact case_bad c3))
  have hv : versE c.1 = 0 := (two_ok c3).1
  have c4 : ¬ 64 < (c.2.1.length : Int) := (two_ok c3).2
  have hk := case_ok hv c4
  refine VC.skip (VC.seq (VC.text ?_))
  refine VO.cell (.mkMap .str .bool) ?_
  intro ww1
  refine VO.c (.assign rfl) ?_
  refine VO.go (VC.seq (VC.seq (VC.text ?_)))
  refine VO.c (.fa (.r (.l .o))) ?_
  refine VO.r (.ld vt69) ?_
  refine VO.r (.len el69) ?_
  refine VO.c (.move rfl) ?_
  refine VO.go (VC.block ?_)
  refine VC.keep [(1, .p y72 c), (3, .v y129 (if versE c.1 = 0 then verM c.1 c.1.length else [])), (5, .raw ww1), (30, .v y69 c.2.1), (31, I ((c.2.1.length : Nat) : Int)), (32, I ((0 : Nat) : Int))] ⟨rfl, rfl, rfl, rfl, rfl, rfl, trivial⟩ ?_
  refine VC.loop (I := fun kk ff ss => ∃ (i : Nat), kk = c.2.1.length - i ∧ ff = [(1, .p y72 c), (3, .v y129 (if versE c.1 = 0 then verM c.1 c.1.length else [])), (5, .raw ww1), (30, .v y69 c.2.1), (31, I ((c.2.1.length : Nat) : Int)), (32, I ((i : Nat) : Int))] ∧ ss = [(ww1, .mp .str .bool (kE c i))] ∧ (i ≤ c.2.1.length) ∧ (firstR (evAt c) 0 c.2.1.length = firstR (evAt c) i c.2.1.length)) ?_ _ _ _ ⟨0, rfl, rfl, rfl, Nat.zero_le _, (by rfl)⟩
  rintro kk ff ss ⟨i, hk0, rfl, rfl, hi, hw⟩
  refine VC.seq (VC.text ?_)
  refine VO.c (.lss) ?_
  refine VO.go (VC.seq ?_)
  refine VC.condD rfl (fun c7 => ?_) (fun c7 => ?_)
  · have hlt : i < c.2.1.length := by omega
    refine VC.skip (VC.seq (VC.block (VC.seq (VC.text ?_))))
    refine VO.c (.ix (j := i) rfl rfl el69 (by omega)) ?_
    refine VO.r (.ld vt155) ?_
    refine VO.cell (.alloc zt155) ?_
    intro ww2
    refine VO.setV (cs' := [St ((c.2.1[i]).1), .v y68 ((c.2.1[i]).2)]) vt155 .v ?_
    refine VO.shut [(7, .p y155 (c.2.1[i]))] (.cons rfl (.var m0 .refl) .nil) ?_
    refine VO.go (VC.seq (VC.seq (VC.drawn ?_)))
    refine VD.c (.fa (.l .o)) ?_
    refine VD.r [] (.ld vt9) (.inl rfl) ?_
    refine VD.call rfl rfl (VF.call (sNm_ok )) ?_
    refine VD.c (.move rfl) ?_
    refine VD.c (.fa (.l .o)) ?_
    refine VD.r [] (.ld vt9) (.inl rfl) ?_
    refine VD.nw [] ?_
    refine VD.r [(ww1, .mp .str .bool (kE c i))] (.lookO mt158 m0) (.inr ⟨rfl, rfl⟩) ?_
    refine VD.call rfl rfl (VF.call (sWhen_ok )) ?_
    refine VD.c (.fa (.r .o)) ?_
    refine VD.r [] (.ld vt68) (.inl rfl) ?_
    refine VD.c (.move rfl) ?_
    refine VD.call rfl rfl (VF.call (sWith_ok (by have := hc.w _ (List.getElem_mem hlt); omega))) ?_
    refine VD.new (.lit [whenE (!nameB ((c.2.1[i]).1)) 8, whenE ((mget (kE c i) ((c.2.1[i]).1)).getD false) (9 : Int), withE (fun s => (mget (if versE c.1 = 0 then verM c.1 c.1.length else []) s).isSome) ((c.2.1[i]).2)] el204) ?_
    refine VD.nw [48] ?_
    refine VD.callO rfl rfl (VF.call (sFirst_ok (by simp))) ?_
    refine VD.c (.assign rfl) ?_
    refine VD.go (VC.seq (VC.text ?_))
    refine VO.c (.move rfl) ?_
    refine VO.c (.neq) ?_
    refine VO.go ?_
    refine VC.condD rfl (fun c10 => ?_) (fun c10 => ?_)
    · have hv10 := evAt_m hv hlt
      refine VC.seq (VC.text ?_)
      refine VO.c (.move rfl) ?_
      refine VO.c (.assign rfl) ?_
      refine VO.go ?_
      refine VC.ret ?_
      exact VEnd.one rfl evT (pvI (by rw [hk, hw, firstR_step hlt, ← hv10, if_neg c10, if_pos c10]))
    have hz : evAt c i = 0 := by rw [← evAt_m hv hlt]; exact Decidable.not_not.1 c10
    refine VC.skip (VC.text ?_)
    refine VO.c (.move rfl) ?_
    refine VO.c (.fa (.l .o)) ?_
    refine VO.r (.ld vt9) ?_
    refine VO.mput mt158 ?_
    refine VO.nil (VC.text ?_)
    refine VO.c (.add rfl rfl (by omega)) ?_
    refine VO.c (.move rfl) ?_
    refine VO.nil ?_
    refine ⟨_, [(1, .p y72 c), (3, .v y129 (if versE c.1 = 0 then verM c.1 c.1.length else [])), (5, .raw ww1), (30, .v y69 c.2.1), (31, I ((c.2.1.length : Nat) : Int)), (32, I (((i + 1) : Nat) : Int))], ?_, ⟨rfl, rfl, rfl, rfl, rfl, rfl, trivial⟩, (i + 1), rfl, rfl, (by rw [kE, eAt_eq hlt]), (by omega), (by rw [hw, firstR_step hlt, if_pos hz])⟩
    omega
  have hz : firstR (evAt c) 0 c.2.1.length = 0 := by rw [hw, firstR_end (by omega)]
  have hin : i = c.2.1.length := by omega
  refine VC.exit (VC.seq (VC.seq (VC.text ?_)))
  refine VO.c (.fa (.r (.r .o))) ?_
  refine VO.r (.ld vt70) ?_
  refine VO.r (.len el70) ?_
  refine VO.c (.gtr) ?_
  refine VO.go ?_
  refine VC.condD rfl (fun c14 => ?_) (fun c14 => ?_)
  · refine VC.seq (VC.text ?_)
    refine VO.c (.assign rfl) ?_
    refine VO.go ?_
    refine VC.ret ?_
    exact VEnd.one rfl evT (pvI (by rw [hk, hz, if_neg (fun h => h rfl), if_pos c14]))
  refine VC.skip (VC.seq (VC.seq (VC.text ?_)))
  refine VO.c (.fa (.r (.r .o))) ?_
  refine VO.r (.ld vt70) ?_
  refine VO.r (.len el70) ?_
  refine VO.c (.move rfl) ?_
  refine VO.go (VC.block ?_)
  refine VC.keep [(5, .raw ww1), (62, .v y70 c.2.2), (63, I ((c.2.2.length : Nat) : Int)), (64, I ((0 : Nat) : Int))] ⟨rfl, rfl, rfl, rfl, trivial⟩ ?_
  refine VC.loop (I := fun kk ff ss => ∃ (j : Nat), kk = c.2.2.length - j ∧ ff = [(5, .raw ww1), (62, .v y70 c.2.2), (63, I ((c.2.2.length : Nat) : Int)), (64, I ((j : Nat) : Int))] ∧ ss = [(ww1, .mp .str .bool (kC c j))] ∧ (j ≤ c.2.2.length) ∧ (firstR (clAt c) 0 c.2.2.length = firstR (clAt c) j c.2.2.length)) ?_ _ _ _ ⟨0, rfl, rfl, (by rw [hin] <;> rfl), Nat.zero_le _, (by rfl)⟩
  rintro kk ff ss ⟨j, hk2, rfl, rfl, hj, hx⟩
  refine VC.seq (VC.text ?_)
  refine VO.c (.lss) ?_
  refine VO.go (VC.seq ?_)
  refine VC.condD rfl (fun c17 => ?_) (fun c17 => ?_)
  · have hlt2 : j < c.2.2.length := by omega
    refine VC.skip (VC.seq (VC.block (VC.seq (VC.text ?_))))
    refine VO.c (.ix (j := j) rfl rfl el70 (by omega)) ?_
    refine VO.r (.ld vt156) ?_
    refine VO.cell (.alloc zt156) ?_
    intro ww3
    refine VO.setV (cs' := [St ((c.2.2[j]).1), B ((c.2.2[j]).2.1), .v (.sl .str) ((c.2.2[j]).2.2)]) vt156 .v ?_
    refine VO.shut [(10, .p y156 (c.2.2[j]))] (.cons rfl (.var m0 .refl) .nil) ?_
    refine VO.go (VC.seq (VC.seq (VC.drawn ?_)))
    refine VD.c (.fa (.l .o)) ?_
    refine VD.r [] (.ld vt9) (.inl rfl) ?_
    refine VD.call rfl rfl (VF.call (sNm_ok )) ?_
    refine VD.c (.move rfl) ?_
    refine VD.c (.fa (.l .o)) ?_
    refine VD.r [] (.ld vt9) (.inl rfl) ?_
    refine VD.nw [] ?_
    refine VD.r [(ww1, .mp .str .bool (kC c j))] (.lookO mt158 m0) (.inr ⟨rfl, rfl⟩) ?_
    refine VD.call rfl rfl (VF.call (sWhen_ok )) ?_
    refine VD.c (.fa (.r (.r .o))) ?_
    refine VD.r [] (.ld vt27) (.inl rfl) ?_
    refine VD.c (.move rfl) ?_
    refine VD.callC rfl rfl .same (.cons .same (.cons (.mp m0) .nil)) rfl (VF.call (sUses_ok (by have := hc.u _ (List.getElem_mem hlt2); omega))) ?_
    refine VD.new (.lit [whenE (!nameB ((c.2.2[j]).1)) 8, whenE ((mget (kC c j) ((c.2.2[j]).1)).getD false) (9 : Int), usesE (fun s => (mget (kC c j) s).getD false) ((c.2.2[j]).2.2)] el204) ?_
    refine VD.nw [80] ?_
    refine VD.callO rfl rfl (VF.call (sFirst_ok (by simp))) ?_
    refine VD.c (.assign rfl) ?_
    refine VD.go (VC.seq (VC.text ?_))
    refine VO.c (.move rfl) ?_
    refine VO.c (.neq) ?_
    refine VO.go ?_
    refine VC.condD rfl (fun c20 => ?_) (fun c20 => ?_)
    · have hv20 := clAt_m hlt2
      refine VC.seq (VC.text ?_)
      refine VO.c (.move rfl) ?_
      refine VO.c (.assign rfl) ?_
      refine VO.go ?_
      refine VC.ret ?_
      exact VEnd.one rfl evT (pvI (by rw [hk, hz, if_neg (fun h => h rfl), if_neg c14, hx, firstR_step hlt2, ← hv20, if_neg c20]))
    have hz2 : clAt c j = 0 := by rw [← clAt_m hlt2]; exact Decidable.not_not.1 c20
    refine VC.skip (VC.text ?_)
    refine VO.c (.move rfl) ?_
    refine VO.c (.fa (.l .o)) ?_
    refine VO.r (.ld vt9) ?_
    refine VO.mput mt158 ?_
    refine VO.nil (VC.text ?_)
    refine VO.c (.add rfl rfl (by omega)) ?_
    refine VO.c (.move rfl) ?_
    refine VO.nil ?_
    refine ⟨_, [(5, .raw ww1), (62, .v y70 c.2.2), (63, I ((c.2.2.length : Nat) : Int)), (64, I (((j + 1) : Nat) : Int))], ?_, ⟨rfl, rfl, rfl, rfl, trivial⟩, (j + 1), rfl, rfl, (by rw [kC, cAt_eq hlt2]), (by omega), (by rw [hx, firstR_step hlt2, if_pos hz2])⟩
    omega
  refine VC.exit (VC.seq (VC.text ?_))
  refine VO.c (.assign rfl) ?_
  refine VO.go ?_
  refine VC.ret ?_
  exact VEnd.one rfl evT (pvI (by rw [hk, hz, if_neg (fun h => h rfl), if_neg c14, hx, firstR_end (by omega)]))
end Go.Proofs
namespace Go.Proofs
open Go.Fs
set_option linter.unusedVariables false
theorem eq153 : EqT Tryz.prog 153 y153 := eqT_of (by kernel_rfl)
theorem zIndexV_ok {l : List (ByteArray × Int)} {v : ByteArray × Int} (hl : l.length < 1000000) : VF Tryz.prog OA 196 [.v y68 l, .v y153 v] (I (idxG (fun x => decide (v = x)) l 0)) := by
  refine VF.enter Tryz.func196 rfl (fun _ _ => rfl) rfl ?_
  show VC _ _ _ _ _ [(0, .v y68 l), (1, .v y153 v)] [] _
  refine VC.seq (VC.text ?_)
  refine VO.new (.box) ?_
  refine VO.c (.assign rfl) ?_
  refine VO.go (VC.seq (VC.seq (VC.text ?_)))
  refine VO.c (.move rfl) ?_
  refine VO.r (.len el68) ?_
  refine VO.c (.move rfl) ?_
  refine VO.go (VC.block ?_)
  refine VC.keep [(0, .v y68 l), (3, .p y153 v), (7, I ((l.length : Nat) : Int)), (8, I ((0 : Nat) : Int))] ⟨rfl, rfl, rfl, rfl, trivial⟩ ?_
  refine VC.loop (I := fun kk ff ss => ∃ (j : Nat), kk = l.length - j ∧ ff = [(0, .v y68 l), (3, .p y153 v), (7, I ((l.length : Nat) : Int)), (8, I ((j : Nat) : Int))] ∧ ss = [] ∧ (j ≤ l.length) ∧ (idxG (fun x => decide (v = x)) l 0 = idxG (fun x => decide (v = x)) (l.drop j) (j : Nat))) ?_ _ _ _ ⟨0, rfl, rfl, rfl, Nat.zero_le _, (by rfl)⟩
  rintro kk ff ss ⟨j, hk0, rfl, rfl, hj, hi⟩
  refine VC.seq (VC.text ?_)
  refine VO.c (.lss) ?_
  refine VO.go (VC.seq ?_)
  refine VC.condD rfl (fun c2 => ?_) (fun c2 => ?_)
  · refine VC.skip (VC.seq (VC.block (VC.seq (VC.text ?_))))
    refine VO.c (.move rfl) ?_
    refine VO.c (.assign rfl) ?_
    refine VO.go (VC.seq (VC.drawn ?_))
    refine VD.r [] (.ld vt153) (.inl rfl) ?_
    refine VD.c (.move rfl) ?_
    refine VD.c (.move rfl) ?_
    refine VD.c (.ix (j := j) rfl rfl el68 (by omega)) ?_
    refine VD.r [] (.ld vt153) (.inl rfl) ?_
    refine VD.c (.eeql eq153) ?_
    refine VD.go ?_
    refine VC.condD rfl (fun c4 => ?_) (fun c4 => ?_)
    · refine VC.seq (VC.text ?_)
      refine VO.c (.move rfl) ?_
      refine VO.c (.assign rfl) ?_
      refine VO.go ?_
      refine VC.ret ?_
      exact VEnd.one rfl evT (pvI (by rw [hi, idxG_drop (by omega), if_pos (by simpa using c4)]))
    refine VC.skip (VC.text ?_)
    refine VO.c (.add rfl rfl (by omega)) ?_
    refine VO.c (.move rfl) ?_
    refine VO.nil ?_
    refine ⟨_, [(0, .v y68 l), (3, .p y153 v), (7, I ((l.length : Nat) : Int)), (8, I (((j + 1) : Nat) : Int))], ?_, ⟨rfl, rfl, rfl, rfl, trivial⟩, (j + 1), rfl, rfl, rfl, (by omega), (by rw [hi, idxG_drop (by omega), if_neg (by simpa using c4)])⟩
    omega
  refine VC.exit (VC.seq (VC.text ?_))
  refine VO.c (.assign rfl) ?_
  refine VO.go ?_
  refine VC.ret ?_
  exact VEnd.one rfl evT (pvI (by rw [hi, idxG_end (by omega)]))
def hasV (l : List Vers) (v : Vers) : Bool := l.any fun x => decide (v = x)
theorem zContainsV_ok {l : List (ByteArray × Int)} {v : ByteArray × Int} (hl : l.length < 1000000) : VF Tryz.prog OA 166 [.v y68 l, .v y153 v] (B (hasV l v)) := by
  refine VF.enter Tryz.func166 rfl (fun _ _ => rfl) rfl ?_
  show VC _ _ _ _ _ [(0, .v y68 l), (1, .v y153 v)] [] _
  refine VC.seq (VC.text ?_)
  refine VO.new (.box) ?_
  refine VO.c (.assign rfl) ?_
  refine VO.go (VC.seq (VC.text ?_))
  refine VO.c (.move rfl) ?_
  refine VO.r (.ld vt153) ?_
  refine VO.call rfl rfl (VF.call (zIndexV_ok hl)) ?_
  refine VO.c (.geq) ?_
  refine VO.c (.assign rfl) ?_
  refine VO.go ?_
  refine VC.ret ?_
  exact VEnd.one rfl evT (pvE (by have h9 := idxG_any (F := fun x => decide (v = x)) (l := l) (k := 0) (by omega); change _ ↔ hasV l v = true at h9; cases h8 : hasV l v <;> simp_all))
theorem zContainsFV_ok {F : Vers → Bool} {l : List (ByteArray × Int)} {f : PV} (hl : l.length < 1000000) (hf : ∀ x ∈ l, VCall Tryz.prog OA f [.v y153 x] (B (F x))) : VF Tryz.prog OA 167 [.v y68 l, f] (B (l.any F)) := by
  refine VF.enter Tryz.func167 rfl (fun _ _ => rfl) rfl ?_
  show VC _ _ _ _ _ [(0, .v y68 l), (1, f)] [] _
  refine VC.seq (VC.text ?_)
  refine VO.c (.assign rfl) ?_
  refine VO.go (VC.seq (VC.text ?_))
  refine VO.c (.move rfl) ?_
  refine VO.c (.move rfl) ?_
  refine VO.call rfl rfl (VF.call (zIndexFV_ok (F := F) hl hf)) ?_
  refine VO.c (.geq) ?_
  refine VO.c (.assign rfl) ?_
  refine VO.go ?_
  refine VC.ret ?_
  exact VEnd.one rfl evT (pvE (by have h9 := idxG_any (F := F) (l := l) (k := 0) (by omega); cases h8 : l.any F <;> simp_all))
theorem sFresh1_ok {v : ByteArray × Int} {c : (List (ByteArray × Int)) × (List (ByteArray × (List (ByteArray × Int)))) × (List (ByteArray × Bool × (List ByteArray)))} (hl : c.1.length < 1000000) : VF Tryz.prog OA 165 [.v y153 v, .p y72 c] (B (!hasV c.1 v)) := by
  refine VF.enter Tryz.func165 rfl (fun _ _ => rfl) rfl ?_
  show VC _ _ _ _ _ [(0, .v y153 v), (1, .p y72 c)] [] _
  refine VC.seq (VC.text ?_)
  refine VO.new (.box) ?_
  refine VO.c (.assign rfl) ?_
  refine VO.go (VC.seq (VC.text ?_))
  refine VO.c (.fa (.l .o)) ?_
  refine VO.r (.ld vt68) ?_
  refine VO.r (.ld vt153) ?_
  refine VO.call rfl rfl (VF.call (zContainsV_ok hl)) ?_
  refine VO.c (.not) ?_
  refine VO.c (.assign rfl) ?_
  refine VO.go ?_
  refine VC.ret ?_
  exact VEnd.one rfl evT (pvE (by rfl))
def freshB (c : Cse) (x : Evid) : Bool := !(x.2.any fun v => !hasV c.1 v)
theorem sFresh0_ok {c : (List (ByteArray × Int)) × (List (ByteArray × (List (ByteArray × Int)))) × (List (ByteArray × Bool × (List ByteArray)))} {x : ByteArray × (List (ByteArray × Int))} (hl : c.1.length < 1000000) (hx : x.2.length < 1000000) : VF Tryz.prog OA 127 [.v y72 c, .v y155 x] (B (freshB c x)) := by
  refine VF.enter Tryz.func127 rfl (fun _ _ => rfl) rfl ?_
  show VC _ _ _ _ _ [(0, .v y72 c), (1, .v y155 x)] [] _
  refine VC.seq (VC.text ?_)
  refine VO.new (.box) ?_
  refine VO.new (.box) ?_
  refine VO.c (.assign rfl) ?_
  refine VO.go (VC.seq (VC.text ?_))
  refine VO.c (.func) ?_
  refine VO.c (.assign rfl) ?_
  refine VO.go (VC.seq (VC.text ?_))
  refine VO.c (.fa (.r .o)) ?_
  refine VO.r (.ld vt68) ?_
  refine VO.c (.move rfl) ?_
  refine VO.call rfl rfl (VF.call (zContainsFV_ok (F := fun v => !hasV c.1 v) hx (fun _ _ => VF.clo (sFresh1_ok hl)))) ?_
  refine VO.c (.not) ?_
  refine VO.c (.assign rfl) ?_
  refine VO.go ?_
  refine VC.ret ?_
  exact VEnd.one rfl evT (pvE (by rfl))
theorem sKeptE_ok {F : Evid → Bool} {l : List (ByteArray × (List (ByteArray × Int)))} {f : PV} (hl : l.length < 100000) (hf : ∀ x ∈ l, VCall Tryz.prog OA f [.v y155 x] (B (F x))) : VF Tryz.prog OA 164 [.v y69 l, f] (.v y69 (l.filter F)) := by
  refine VF.enter Tryz.func164 rfl (fun _ _ => rfl) rfl ?_
  show VC _ _ _ _ _ [(0, .v y69 l), (1, f)] [] _
  refine VC.seq (VC.text ?_)
  refine VO.c (.assign rfl) ?_
  refine VO.go (VC.seq (VC.text ?_))
  refine VO.c (.assign rfl) ?_
  refine VO.go (VC.seq (VC.seq (VC.text ?_)))
  refine VO.c (.move rfl) ?_
  refine VO.r (.len el69) ?_
  refine VO.c (.move rfl) ?_
  refine VO.go (VC.block ?_)
  refine VC.cell0 155 y155 ?_
  refine VC.keep [(1, f), (5, .raw (.slice none 0 0)), (8, .v y69 l), (9, I ((l.length : Nat) : Int)), (10, I ((0 : Nat) : Int))] ⟨rfl, rfl, rfl, rfl, rfl, trivial⟩ ?_
  refine VC.loop (I := fun kk ff ss => ∃ (j : Nat) (out : Value), kk = l.length - j ∧ ff = [(1, f), (5, .raw out), (8, .v y69 l), (9, I ((l.length : Nat) : Int)), (10, I ((j : Nat) : Int))] ∧ ss = [(out, .row 155 y155 ((l.take j).filter F))] ∧ (j ≤ l.length)) ?_ _ _ _ ⟨0, (.slice none 0 0), rfl, rfl, rfl, Nat.zero_le _⟩
  rintro kk ff ss ⟨j, out, hk0, rfl, rfl, hj⟩
  have hlen : ((l.take j).filter F).length ≤ j := Nat.le_trans (List.length_filter_le F (l.take j)) (List.length_take_le j l)
  refine VC.seq (VC.text ?_)
  refine VO.c (.lss) ?_
  refine VO.go (VC.seq ?_)
  refine VC.condD rfl (fun c3 => ?_) (fun c3 => ?_)
  · refine VC.skip (VC.seq (VC.block (VC.seq (VC.text ?_))))
    refine VO.c (.ix (j := j) rfl rfl el69 (by omega)) ?_
    refine VO.r (.ld vt155) ?_
    refine VO.cell (.alloc zt155) ?_
    intro ww1
    refine VO.setV (cs' := [St ((l[j]).1), .v y68 ((l[j]).2)]) vt155 .v ?_
    refine VO.shut [(7, .p y155 (l[j]))] (.cons rfl (.var m0 .refl) .nil) ?_
    refine VO.go (VC.seq (VC.text ?_))
    refine VO.c (.move rfl) ?_
    refine VO.r (.ld vt155) ?_
    refine VO.call rfl rfl ((hf _ (List.getElem_mem _)) ) ?_
    refine VO.go ?_
    refine VC.condB rfl (fun c5 => ?_) (fun c5 => ?_)
    · have hg : (l.take (j + 1)).filter F = (l.take j).filter F ++ [l[j]] := by rw [List.take_succ_eq_append_getElem (by omega), List.filter_append]; simp [c5]
      refine VC.text ?_
      refine VO.c (.move rfl) ?_
      refine VO.r (.ld vt155) ?_
      refine VO.new (.lit [l[j]] el69) ?_
      refine VO.app rfl rfl el69 el69 (by simp; omega) ?_
      intro ww2
      refine VO.c (.assign rfl) ?_
      refine VO.nil (VC.text ?_)
      refine VO.c (.add rfl rfl (by omega)) ?_
      refine VO.c (.move rfl) ?_
      refine VO.nil ?_
      refine ⟨_, [(1, f), (5, .raw ww2), (8, .v y69 l), (9, I ((l.length : Nat) : Int)), (10, I (((j + 1) : Nat) : Int))], ?_, ⟨rfl, rfl, rfl, rfl, rfl, trivial⟩, (j + 1), ww2, rfl, rfl, (by rw [hg]), (by omega)⟩
      omega
    have hg : (l.take (j + 1)).filter F = (l.take j).filter F := by rw [List.take_succ_eq_append_getElem (by omega), List.filter_append]; simp [c5]
    refine VC.skip (VC.text ?_)
    refine VO.c (.add rfl rfl (by omega)) ?_
    refine VO.c (.move rfl) ?_
    refine VO.nil ?_
    refine ⟨_, [(1, f), (5, .raw out), (8, .v y69 l), (9, I ((l.length : Nat) : Int)), (10, I (((j + 1) : Nat) : Int))], ?_, ⟨rfl, rfl, rfl, rfl, rfl, trivial⟩, (j + 1), out, rfl, rfl, (by rw [hg]), (by omega)⟩
    omega
  refine VC.exit (VC.seq (VC.text ?_))
  refine VO.c (.move rfl) ?_
  refine VO.c (.assign rfl) ?_
  refine VO.go ?_
  refine VC.ret ?_
  exact VEnd.one rfl (evC (.row m0)) (pvE (by rw [List.take_of_length_le (by omega)]))
theorem sNames_ok {F : Evid → Bool} {c : (List (ByteArray × Int)) × (List (ByteArray × (List (ByteArray × Int)))) × (List (ByteArray × Bool × (List ByteArray)))} {f : PV} (hl : c.2.1.length < 100000) (hf : ∀ x ∈ c.2.1, VCall Tryz.prog OA f [.v y155 x] (B (F x))) : VF Tryz.prog OA 125 [.v y72 c, f] (.v (.sl .str) ((c.2.1.filter F).map (·.1))) := by
  refine VF.enter Tryz.func125 rfl (fun _ _ => rfl) rfl ?_
  show VC _ _ _ _ _ [(0, .v y72 c), (1, f)] [] _
  refine VC.seq (VC.text ?_)
  refine VO.new (.box) ?_
  refine VO.c (.assign rfl) ?_
  refine VO.go (VC.seq (VC.text ?_))
  refine VO.c (.assign rfl) ?_
  refine VO.go (VC.seq (VC.seq (VC.text ?_)))
  refine VO.c (.fa (.r (.l .o))) ?_
  refine VO.r (.ld vt69) ?_
  refine VO.c (.move rfl) ?_
  refine VO.call rfl rfl (VF.call (sKeptE_ok (F := F) hl hf)) ?_
  have hlen := List.length_filter_le F c.2.1
  refine VO.r (.len el69) ?_
  refine VO.c (.move rfl) ?_
  refine VO.go (VC.block ?_)
  refine VC.cell0 9 .str ?_
  refine VC.keep [(5, .raw (.slice none 0 0)), (11, .v y69 (c.2.1.filter F)), (12, I (((c.2.1.filter F).length : Nat) : Int)), (13, I ((0 : Nat) : Int))] ⟨rfl, rfl, rfl, rfl, trivial⟩ ?_
  refine VC.loop (I := fun kk ff ss => ∃ (j : Nat) (out : Value), kk = (c.2.1.filter F).length - j ∧ ff = [(5, .raw out), (11, .v y69 (c.2.1.filter F)), (12, I (((c.2.1.filter F).length : Nat) : Int)), (13, I ((j : Nat) : Int))] ∧ ss = [(out, .row 9 .str (((c.2.1.filter F).take j).map (·.1)))] ∧ (j ≤ (c.2.1.filter F).length)) ?_ _ _ _ ⟨0, (.slice none 0 0), rfl, rfl, rfl, (by omega)⟩
  rintro kk ff ss ⟨j, out, hk0, rfl, rfl, hj⟩
  refine VC.seq (VC.text ?_)
  refine VO.c (.lss) ?_
  refine VO.go (VC.seq ?_)
  refine VC.condD rfl (fun c3 => ?_) (fun c3 => ?_)
  · refine VC.skip (VC.seq (VC.block (VC.seq (VC.text ?_))))
    refine VO.c (.ix (j := j) rfl rfl el69 (by omega)) ?_
    refine VO.r (.ld vt155) ?_
    refine VO.cell (.alloc zt155) ?_
    intro ww3
    refine VO.setV (cs' := [St (((c.2.1.filter F)[j]).1), .v y68 (((c.2.1.filter F)[j]).2)]) vt155 .v ?_
    refine VO.shut [(7, .p y155 ((c.2.1.filter F)[j]))] (.cons rfl (.var m0 .refl) .nil) ?_
    refine VO.go (VC.text ?_)
    refine VO.c (.move rfl) ?_
    refine VO.c (.fa (.l .o)) ?_
    refine VO.r (.ld vt9) ?_
    refine VO.new (.lit [((c.2.1.filter F)[j]).1] el27) ?_
    refine VO.app rfl rfl el27 el27 (by simp; omega) ?_
    intro ww4
    refine VO.c (.assign rfl) ?_
    refine VO.nil (VC.text ?_)
    refine VO.c (.add rfl rfl (by omega)) ?_
    refine VO.c (.move rfl) ?_
    refine VO.nil ?_
    refine ⟨_, [(5, .raw ww4), (11, .v y69 (c.2.1.filter F)), (12, I (((c.2.1.filter F).length : Nat) : Int)), (13, I (((j + 1) : Nat) : Int))], ?_, ⟨rfl, rfl, rfl, rfl, trivial⟩, (j + 1), ww4, rfl, rfl, (by rw [List.take_succ_eq_append_getElem (by omega), List.map_append] <;> rfl), (by omega)⟩
    omega
  refine VC.exit (VC.seq (VC.text ?_))
  refine VO.c (.move rfl) ?_
  refine VO.c (.assign rfl) ?_
  refine VO.go ?_
  refine VC.ret ?_
  exact VEnd.one rfl (evC (.row m0)) (pvE (by rw [List.take_of_length_le (by omega)]))
def validE (c : Cse) : List ByteArray := (c.2.1.filter (freshB c)).map (·.1)
theorem sValid0_ok {c : (List (ByteArray × Int)) × (List (ByteArray × (List (ByteArray × Int)))) × (List (ByteArray × Bool × (List ByteArray)))} (hc : CseOk c) : VF Tryz.prog OA 104 [.v y72 c] (.v (.sl .str) (validE c)) := by
  refine VF.enter Tryz.func104 rfl (fun _ _ => rfl) rfl ?_
  show VC _ _ _ _ _ [(0, .v y72 c)] [] _
  refine VC.seq (VC.text ?_)
  refine VO.new (.box) ?_
  refine VO.c (.assign rfl) ?_
  refine VO.go (VC.seq (VC.text ?_))
  refine VO.r (.ld vt72) ?_
  refine VO.r (.ld vt72) ?_
  refine VO.c (.func) ?_
  refine VO.call rfl rfl (VF.call (sNames_ok (F := freshB c) hc.e (fun x m => VF.clo (sFresh0_ok (by have := hc.v; omega) (by have := hc.w x m; omega))))) ?_
  refine VO.c (.assign rfl) ?_
  refine VO.go ?_
  refine VC.ret ?_
  exact VEnd.one rfl evT (pvE (by rfl))
theorem sFresh_ok {c : (List (ByteArray × Int)) × (List (ByteArray × (List (ByteArray × Int)))) × (List (ByteArray × Bool × (List ByteArray)))} (hc : CseOk c) : VF Tryz.prog OA 37 [.v y72 c] (.tup [.v (.sl .str) (if caseE c = 0 then validE c else []), I (caseE c)]) := by
  refine VF.enter Tryz.func37 rfl (fun _ _ => rfl) rfl ?_
  show VC _ _ _ _ _ [(0, .v y72 c)] [] _
  refine VC.seq (VC.text ?_)
  refine VO.new (.box) ?_
  refine VO.c (.assign rfl) ?_
  refine VO.c (.assign rfl) ?_
  refine VO.go (VC.seq (VC.seq (VC.text ?_)))
  refine VO.r (.ld vt72) ?_
  refine VO.call rfl rfl (VF.call (sCase_ok hc)) ?_
  refine VO.c (.assign rfl) ?_
  refine VO.go (VC.seq (VC.text ?_))
  refine VO.c (.move rfl) ?_
  refine VO.c (.neq) ?_
  refine VO.go ?_
  refine VC.condD rfl (fun c2 => ?_) (fun c2 => ?_)
  · refine VC.seq (VC.text ?_)
    refine VO.c (.move rfl) ?_
    refine VO.c (.assign rfl) ?_
    refine VO.c (.assign rfl) ?_
    refine VO.go ?_
    refine VC.ret ?_
    exact VEnd.two rfl (evC .nil) evT (pvE (by rw [if_neg c2])) (pvI (by rfl))
  refine VC.skip (VC.seq (VC.text ?_))
  refine VO.r (.ld vt72) ?_
  refine VO.call rfl rfl (VF.call (sValid0_ok hc)) ?_
  refine VO.c (.assign rfl) ?_
  refine VO.c (.assign rfl) ?_
  refine VO.go ?_
  refine VC.ret ?_
  exact VEnd.two rfl evT evT (pvE (by rw [if_pos (Decidable.not_not.1 c2)])) (pvI (by exact (Decidable.not_not.1 c2).symm))
end Go.Proofs
namespace Go.Proofs
open Go.Fs
set_option linter.unusedVariables false

theorem idxG_get {α : Type} {F : α → Bool} {l : List α} (h : 0 ≤ idxG F l 0) : ∃ (hlt : (idxG F l 0).toNat < l.length), F l[(idxG F l 0).toNat] = true := by
  have key : ∀ (l : List α) (k : Nat), 0 ≤ idxG F l (k : Int) → (k : Int) ≤ idxG F l (k : Int) ∧ ∃ (hlt : (idxG F l (k : Int)).toNat - k < l.length), F (l[(idxG F l (k : Int)).toNat - k]'hlt) = true := by
    intro l
    induction l with
    | nil => intro k h; simp [idxG] at h
    | cons x l ih =>
      intro k h
      by_cases hx : F x = true
      · have e : idxG F (x :: l) (k : Int) = k := by rw [idxG, if_pos hx]
        rw [e]
        refine ⟨Int.le_refl _, by simp, ?_⟩
        simpa using hx
      have e : idxG F (x :: l) (k : Int) = idxG F l ((k + 1 : Nat) : Int) := by rw [idxG, if_neg hx] <;> rfl
      rw [e] at h ⊢
      obtain ⟨h1, h2, h3⟩ := ih (k + 1) h
      refine ⟨by omega, by simp only [List.length_cons]; omega, ?_⟩
      have e2 : (idxG F l ((k + 1 : Nat) : Int)).toNat - k = ((idxG F l ((k + 1 : Nat) : Int)).toNat - (k + 1)) + 1 := by omega
      simp only [e2, List.getElem_cons_succ]
      exact h3
  obtain ⟨_, h2, h3⟩ := key l 0 h
  exact ⟨by simpa using h2, by simpa using h3⟩
theorem thing_get {l : List Vers} {s : ByteArray} (h : 0 ≤ thingE l s) : ∃ (hlt : (thingE l s).toNat < l.length), l[(thingE l s).toNat].1 = s := by
  obtain ⟨h1, h2⟩ := idxG_get h
  exact ⟨h1, of_decide_eq_true h2⟩
def nowE (l : List Vers) (s : ByteArray) : Int := (vAt l (thingE l s).toNat).2
def validB (c : Cse) (x : Evid) : Bool := x.2.all fun v => decide (nowE c.1 v.1 = v.2)
def KnownW (c : Cse) (x : Evid) : Prop := ∀ v ∈ x.2, 0 ≤ thingE c.1 v.1
def CaseK (c : Cse) : Prop := ∀ x ∈ c.2.1, KnownW c x
def validR (c : Cse) : List ByteArray := (c.2.1.filter (validB c)).map (·.1)
end Go.Proofs
namespace Go.Fs
variable {P : Program} {h : Heap} {S : List Nat} {σ : Sto} {t : Tr} {fl : VL} {x : Operand} {T e : TypeId} {τ : Ty}
end Go.Fs
namespace Go.Fs
variable {P : Program} {σ : Sto} {fl : VL} {x y : Operand} {T T' : TypeId} {p q : Bool}
theorem equal_bool (hT : P.underlying T = some .bool) : runPure P (Op.equal T (.bool p) (.bool q)) = some (p == q) := by
  unfold Op.equal
  rw [show Op.maxDepth = 9999 + 1 from rfl, Op.equalIn]
  simp only [runPure_bind, runPure_underlying hT, Option.bind_some, runPure_pure]
theorem CalmV.beql (hT : P.underlying T = some .bool := by kernel_rfl) (hx : evV fl x = some (.v .bool p) := by rfl) (hy : evV fl y = some (.v .bool q) := by rfl) : CalmV P fl σ (.binOp .eql T x y T') (.v .bool (p == q)) :=
  .bin hx hy fun h S a c ha hc => by
    obtain rfl := RepV.bool ha
    obtain rfl := RepV.bool hc
    refine ⟨.bool (p == q), RepV.ofBool _, rfl, ?_⟩
    have h1 : runPure P (Op.equal T (.bool p) (.bool q) >>= fun b => pure (Value.bool b)) = some (.bool (p == q)) := by
      rw [runPure_bind, equal_bool hT]; rfl
    unfold purely
    show (runPure P (Op.equal T (.bool p) (.bool q) >>= fun b => pure (Value.bool b))).bind _ = _
    rw [h1]; rfl
theorem CalmV.bneq (hT : P.underlying T = some .bool := by kernel_rfl) (hx : evV fl x = some (.v .bool p) := by rfl) (hy : evV fl y = some (.v .bool q) := by rfl) : CalmV P fl σ (.binOp .neq T x y T') (.v .bool (p != q)) :=
  .bin hx hy fun h S a c ha hc => by
    obtain rfl := RepV.bool ha
    obtain rfl := RepV.bool hc
    refine ⟨.bool (p != q), RepV.ofBool _, rfl, ?_⟩
    have h1 : runPure P (Op.equal T (.bool p) (.bool q) >>= fun b => pure (Value.bool !b)) = some (.bool (p != q)) := by
      rw [runPure_bind, equal_bool hT]; rfl
    unfold purely
    show (runPure P (Op.equal T (.bool p) (.bool q) >>= fun b => pure (Value.bool !b))).bind _ = _
    rw [h1]; rfl
end Go.Fs
namespace Go.Fs
variable {P : Program} {orc : FuncId → List Value → Heap → Option (Value × Heap)} {σ : Sto} {fl : VL} {ops : Array Oper} {n : Nat} {l : List Oper} {K : VL → Sto → Prop} {d : Tmp} {ty : TypeId} {pos : String} {after : Array Edge} {g : Option (Nat × Bool)} {x : Operand} {T e : TypeId} {τ : Ty}
theorem VO.callW {f : Operand} {args : Array Operand} {ats : Array TypeId} {F F' : PV} {asl as' : List PV} {xs : List τ.den} (hT : ElT P T e τ) (hf : evV fl f = some F) (ha : evVs fl args.toList = some asl) (cF : Co σ F F') (ca : CoL σ asl as') (hc : VCall P orc F' as' (.v (.sl τ) xs))
    (hk : ∀ u : Value, (∀ H, fsLen P #[T] u H = some (.int .i64 ((xs.length : Nat) : Int))) → VO P orc ops n l ((d, .raw u) :: fl) σ K)
    (hw : wantV ops fl g = some true := by rfl) (hn : (Nat.blt d n && Nat.ble n 4000) = true := by rfl) : VO P orc ops n (⟨some d, .call { callee := .value f, args := args, argTypes := ats }, ty, pos, after, g⟩ :: l) fl σ K := fun h0 G S0 t h ms I => by
  obtain ⟨n1, n2⟩ := fits hn
  have L := I.lc
  obtain ⟨fid, a, c, h1, h2⟩ := hc.ev I.ok L.s0 (cF.ok L.cells L.sep (evV_ok I.slots hf)) (ca.ok L.cells L.sep (evVs_ok I.slots ha))
  refine EvO.call (want_ok I.slots hw) rfl rfl h1 (h2.mono fun u h' hq => ?_)
  obtain ⟨q1, q2, _⟩ := hq
  exact ⟨_, put_fits n1 t u, hk u (fun H => (RepV.sl (q2 : RepV h' S0 (.sl τ) u xs)).len hT H) h0 G S0 _ h' ms ((I.calm q1).set (show RepPV _ _ (.raw u) u from rfl) n2)⟩
theorem ReadV.lenW {u : Value} {k : Int} (hu : ∀ H, fsLen P #[T] u H = some (.int .i64 k)) (hx : evV fl x = some (.raw u) := by rfl) : ReadV P fl σ (.call { callee := .builtin .len, args := #[x], argTypes := #[T] }) (.v (.int .i64) k) :=
  ⟨rfl, fun h S t hs _ => by
    have h1 : evalO t x = u := hs x (by simp [Op.operands, Call.operands]) _ hx
    refine ⟨_, RepV.ofInt _ _, fun H _ _ _ _ _ _ => ?_⟩
    show (fsLen P #[T] (evalO t x) H).map _ = _
    rw [h1, hu]; rfl⟩
theorem VO.oneM {w : Value} {κ ν : Ty} {kvs : List (κ.den × ν.den)} (hm : (w, Cell.mp κ ν kvs) ∈ σ) (hk : oneCell w = true → VO P orc ops n l fl σ K) : VO P orc ops n l fl σ K := fun h0 G S0 t h ms I => by
  obtain ⟨b, es, c, h1, _⟩ := I.cells _ hm
  have h1 : w = .map (some b) := h1
  exact hk (by rw [h1]; rfl) h0 G S0 t h ms I
end Go.Fs
