/- The evaluator is sound: code. No condition. From the evaluator's runs to the model's calls. No condition. Two functions of Go's library by their contracts: an oracle for the evaluator. No condition. A closed call that answers true, as an oracle. No condition. slices.Sort of strings by its contract: an oracle for the evaluator. No condition. A function that sorts strings, by its oracle. No condition. Chapter 9, the plain laws: ascending lists of words; the ticks at which too many gates can be out of service. No condition. -/
import Derived.Test.YtligdjefbiebjaaGreatDoorP2
import Derived.Test.YtligdjefbiebjaaGreatDoorP4
import Derived.Scope
import Derived.Lib.ItoaNum
import Derived.Lib.Join
import Derived.Sort.OwnSorted
import Derived.Test.YtligdjefbiebjaaGreatDoorChecked
set_option linter.all false
namespace Go
variable {P : Program}
theorem stepR_scopeFs {b : Frame} {a : Act} {k : List Item} {cs : List Frame} {w : World} {c : Code} : step P (lone (b.atR a (.code (.scope c) :: k)) cs w) = .next (lone (b.atR a (.code c :: .inScope c :: k)) cs w) :=
  step_lone_go (by simp [stepG, stepG.exec, Frame.atR])
theorem stepR_inScopeFs {b : Frame} {a : Act} {k : List Item} {cs : List Frame} {w : World} {c : Code} : step P (lone (b.atR a (.inScope c :: k)) cs w) = .next (lone (b.atR a k) cs w) :=
  step_lone_go (by simp [stepG, stepG.exec, Frame.atR])
theorem wpIn_scopeFs {F : Fence} {n : Nat} {Q : Exit → Act → World → Prop} {a : Act} {w : World} {c : Code} (h : c.wpIn F n P (Exit.noGoto Q) a w) : (Code.scope c).wpIn F n P Q a w := by
  intro b k cs hro hb hr
  have h0 : (lone (b.atR a (.code (.scope c) :: k)) cs w).fenced P F := fenced_calm hb hr rfl
  obtain ⟨e, a₁, w₁, hq, harr⟩ := h b (.inScope c :: k) cs hro hb hr
  cases e with
  | normal => exact ⟨.normal, a₁, w₁, hq, .head h0 stepR_scopeFs (StepsIn.trans harr (.one (fenced_calm hb hr rfl) stepR_inScopeFs))⟩
  | exit id =>
    have hx : exitTo id (.inScope c :: k) = exitTo id k := by simp [exitTo]
    exact ⟨.exit id, a₁, w₁, hq, fun k' hk => .head h0 stepR_scopeFs (harr.1 k' (by rw [hx]; exact hk)),
      fun hr' hk => let ⟨k₁, h1, h2⟩ := harr.2 hr' (by rw [hx]; exact hk); ⟨k₁, h1, .head h0 stepR_scopeFs h2⟩⟩
  | goto l => exact hq.elim
  | ret => exact ⟨_, a₁, w₁, hq, .of_steps (.one h0 stepR_scopeFs) harr⟩
  | panic ch => exact ⟨_, a₁, w₁, hq, .of_steps (.one h0 stepR_scopeFs) harr⟩
  | outgrown => exact ⟨_, a₁, w₁, hq, .of_steps (.one h0 stepR_scopeFs) harr⟩

end Go
namespace Go.Fs
open Go.RowKit (Below)
variable {P : Program} {ρ ρ' : Ren} {S S' : Nat → Prop} {B : Nat} {w0 w w' w1 w2 : World} {h h' h1 h2 : Heap}

theorem call_sound (hP : ProgOk P) {orc : FuncId → List Value → Heap → Option (Value × Heap)} (horc : CallSound P B w0 orc) {m : Nat} {rec : Rec} (hrec : SoundR P B w0 m rec) : CallSnd P B w0 (callOf P orc rec) := by
  intro f args h v h' hf
  unfold callOf at hf
  split at hf
  · rename_i r hr
    simp only [Option.some.injEq] at hf
    subst hf
    exact .inl (horc _ _ _ _ _ hr)
  · split at hf
    · rename_i r hr
      simp only [Option.some.injEq] at hf
      subst hf
      refine .inr fun ρ S w args' hr2 ha => ?_
      unfold fsExt at hr
      split at hr
      · rename_i fn hfn
        obtain ⟨hb, hr3⟩ := bif_some hr
        obtain ⟨hb1, hb2⟩ := band hb
        split at hr3
        · rename_i e h1 h2
          obtain ⟨haf, hr4⟩ := bif_some hr3
          obtain ⟨hp, rfl⟩ := map_pair hr4
          obtain ⟨h3, h4⟩ := purely_ok hp w
          have he : args' = args := ha.eq_of_af haf
          subst he
          refine ⟨w, v, ?_, ρ, Moved.same hr2, .of_af h4⟩
          unfold callFunc
          have hb2' : (fn.name == "runtime.NumGoroutine") = false := by simpa using hb2
          simp only [Sem.run_bind, run_program, Result.andThen_ok, hfn, hb1, hb2', Bool.false_eq_true, if_false, if_true, h1, h2]
          have hm : (mark (Mark.extern f)).run P w = .ok () w := rfl
          rw [hm]
          simp only [Result.andThen_ok, h3, Sem.run_pure]
        · cases hr3
      · cases hr
    · exact .inl (enter_sound hP hrec _ _ _ _ _ hf)

theorem Post.same {fr : Fr} {a : Act} (hr : HR P ρ S B w0 h w) (ht : TrR ρ S fr.t fr.n a.tmps) (hm : MarksR ρ S fr.marks a.defers) : Post P B w0 ρ ρ S h w fr h w a :=
  ⟨Moved.same hr, ht.mono fun _ hb => ⟨.inl hb, rfl⟩, hm.mono fun _ hb => ⟨.inl hb, rfl⟩⟩

theorem step_sound (hP : ProgOk P) {orc : FuncId → List Value → Heap → Option (Value × Heap)} (horc : CallSound P B w0 orc) {m : Nat} {rec : Rec} (hrec : SoundR P B w0 m rec) : SoundR P B w0 (m + 1) (fsStep P orc rec) := by
  intro rnd c fr h e fr' h' hok hf ρ S w a nn Q hr ht hm hs k
  have hcs : CallSnd P B w0 (callOf P orc rec) := call_sound hP horc hrec
  have hys : YieldSound P B w0 (fsYield rec) := yield_sound hrec
  cases c with
  | skip =>
    simp only [fsStep, Option.some.injEq, Prod.mk.injEq] at hf
    obtain ⟨rfl, rfl, rfl⟩ := hf
    exact wpIn_skip (k _ _ _ (Post.same hr ht hm))
  | label l =>
    simp only [fsStep, Option.some.injEq, Prod.mk.injEq] at hf
    obtain ⟨rfl, rfl, rfl⟩ := hf
    exact wpIn_label (k _ _ _ (Post.same hr ht hm))
  | exit id =>
    simp only [fsStep, Option.some.injEq, Prod.mk.injEq] at hf
    obtain ⟨rfl, rfl, rfl⟩ := hf
    exact wpIn_exit (k _ _ _ (Post.same hr ht hm))
  | ret =>
    simp only [fsStep, Option.some.injEq, Prod.mk.injEq] at hf
    obtain ⟨rfl, rfl, rfl⟩ := hf
    exact wpIn_ret (k _ _ _ (Post.same hr ht hm))
  | goto l => simp only [fsStep] at hf; cases hf
  | refuse l => simp only [fsStep] at hf; cases hf
  | scope b =>
    simp only [fsStep] at hf
    refine wpIn_scopeFs ?_
    refine (hrec rnd b fr h e fr' h' hok hf ρ S w a nn _ hr ht hm hs fun ρ1 w1 a1 p1 => ?_).wpIn
    have hq := k _ _ _ p1
    cases e with
    | normal => exact hq
    | exit id => exact hq
    | ret => exact hq
  | seq x y =>
    simp only [fsStep] at hf
    obtain ⟨ok1, ok2⟩ := band (show (codeOk x && codeOk y) = true from hok)
    refine wpIn_seq ?_
    split at hf
    · rename_i fr1 h1 hrun
      refine (hrec rnd x fr h _ fr1 h1 ok1 hrun ρ S w a nn _ hr ht hm hs fun ρ1 w1 a1 p1 => ?_).wpIn
      show y.wpIn (rndF ρ rnd) nn P Q a1 w1
      rw [← rndF_eq hs p1.moved.agree]
      exact (hrec rnd y fr1 h1 e fr' h' ok2 hf ρ1 _ w1 a1 nn Q p1.moved.hr p1.tmps p1.marks (fun l hl => .inl (hs l hl)) fun ρ2 w2 a2 p2 => k _ _ _ (Post.trans (fr1 := fr1) (a1 := a1) p1.moved p2)).wpIn
    · rename_i hne
      refine (hrec rnd x fr h e fr' h' ok1 hf ρ S w a nn _ hr ht hm hs fun ρ1 w1 a1 p1 => ?_).wpIn
      have hq := k _ _ _ p1
      cases e with
      | normal => exact (hne _ _ hf).elim
      | exit id => exact hq
      | ret => exact hq
  | cond x y z =>
    simp only [fsStep] at hf
    obtain ⟨ok1, ok2⟩ := band (show (codeOk y && codeOk z) = true from hok)
    have hev := ht.eval a.defers x
    split at hf
    · rename_i hx
      rw [hx] at hev
      exact wpIn_cond_true hev.bool_inv (hrec rnd y fr h e fr' h' ok1 hf ρ S w a nn Q hr ht hm hs k).wpIn
    · rename_i hx
      rw [hx] at hev
      exact wpIn_cond_false hev.bool_inv (hrec rnd z fr h e fr' h' ok2 hf ρ S w a nn Q hr ht hm hs k).wpIn
    · cases hf
  | block id b =>
    simp only [fsStep] at hf
    refine wpIn_block ?_
    split at hf
    · rename_i id' fr1 h1 hrun
      refine (hrec rnd b fr h _ fr1 h1 hok hrun ρ S w a nn _ hr ht hm hs fun ρ1 w1 a1 p1 => ?_).wpIn
      cases hb : Nat.beq id' id with
      | true =>
        rw [hb] at hf
        simp only [cond_true, Option.some.injEq, Prod.mk.injEq] at hf
        obtain ⟨rfl, rfl, rfl⟩ := hf
        have := k _ _ _ p1
        simp only [exOf, Exit.inBlock, nbeq hb, if_true]
        exact this
      | false =>
        rw [hb] at hf
        simp only [cond_false, Option.some.injEq, Prod.mk.injEq] at hf
        obtain ⟨rfl, rfl, rfl⟩ := hf
        have := k _ _ _ p1
        simp only [exOf, Exit.inBlock, if_neg (ne_of_no hb)]
        exact this
    · rename_i hne
      refine (hrec rnd b fr h e fr' h' hok hf ρ S w a nn _ hr ht hm hs fun ρ1 w1 a1 p1 => ?_).wpIn
      have hq := k _ _ _ p1
      cases e with
      | normal => exact hq
      | exit id' => exact (hne _ _ _ hf).elim
      | ret => exact hq
  | loop b =>
    simp only [fsStep] at hf
    show Code.roundsIn (rndF ρ rnd) nn P b Q (m + 1) a w
    rw [roundsIn_succ]
    split at hf
    · rename_i fr1 h1 hrun
      refine (hrec rnd b fr h _ fr1 h1 hok hrun ρ S w a nn _ hr ht hm hs fun ρ1 w1 a1 p1 => ?_).wpIn
      show Code.roundsIn (rndF ρ rnd) nn P b Q m a1 w1
      rw [← rndF_eq hs p1.moved.agree]
      exact hrec rnd (.loop b) fr1 h1 e fr' h' hok hf ρ1 _ w1 a1 nn Q p1.moved.hr p1.tmps p1.marks (fun l hl => .inl (hs l hl)) fun ρ2 w2 a2 p2 => k _ _ _ (Post.trans (fr1 := fr1) (a1 := a1) p1.moved p2)
    · rename_i hne
      refine (hrec rnd b fr h e fr' h' hok hf ρ S w a nn _ hr ht hm hs fun ρ1 w1 a1 p1 => ?_).wpIn
      have hq := k _ _ _ p1
      cases e with
      | normal => exact (hne _ _ hf).elim
      | exit id => exact hq
      | ret => exact hq
  | region id ops draw =>
    cases draw with
    | false =>
      simp only [fsStep] at hf
      split at hf
      · rename_i t h1 hrun
        simp only [Option.some.injEq, Prod.mk.injEq] at hf
        obtain ⟨rfl, rfl, rfl⟩ := hf
        refine wpIn_region ?_
        exact ops_wp (step := fsOp P (callOf P orc rec) (fsYield rec)) rfl hcs hys _ _ ρ S w a fr.t h range_map hr ht hrun fun ρ1 w1 a1 m1 ht1 hd1 => k _ _ _ ⟨m1, ht1, by rw [hd1]; exact hm.mono fun b hb => ⟨.inl hb, m1.agree b hb⟩⟩
      · cases hf
    | true =>
      simp only [fsStep] at hf
      cases hl : lateB ops with
      | false =>
        rw [hl] at hf
        simp only [cond_false] at hf
        split at hf
        · rename_i s hrun
          simp only [Option.some.injEq, Prod.mk.injEq] at hf
          obtain ⟨rfl, rfl, rfl⟩ := hf
          refine wpIn_region_draw fun t => ?_
          rw [hP.mixed]
          exact drawn_wp (call := callOf P orc rec) (yield := fsYield rec) hcs hys hok hrun (hr.drew _) ht (fun ρ1 w1 a1 m1 ht1 hd1 => k _ _ _ ⟨Moved.ofDrew m1, ht1, by rw [hd1]; exact hm.mono fun b hb => ⟨.inl hb, m1.agree b hb⟩⟩) t
        · cases hf
      | true =>
        rw [hl] at hf
        simp only [cond_true] at hf
        split at hf
        · rename_i s hrun
          simp only [Option.some.injEq, Prod.mk.injEq] at hf
          obtain ⟨rfl, rfl, rfl⟩ := hf
          refine wpIn_region_draw fun t => ?_
          rw [hP.mixed]
          exact drawn_wpL (call := callOf P orc rec) (yield := fsYield rec) hcs hys hok hrun (hr.drew _) ht (fun ρ1 w1 a1 m1 ht1 hd1 => k _ _ _ ⟨Moved.ofDrew m1, ht1, by rw [hd1]; exact hm.mono fun b hb => ⟨.inl hb, m1.agree b hb⟩⟩) t
        · cases hf
  | rangeFunc g ps assign body =>
    simp only [fsStep] at hf
    obtain ⟨ok1, ok2⟩ := band (show (codeOk assign && codeOk body) = true from hok)
    exact rangeFunc_sound hP hrec ok1 ok2 hf hr ht hm hs k

theorem code_sound (hP : ProgOk P) {orc : FuncId → List Value → Heap → Option (Value × Heap)} (horc : CallSound P B w0 orc) : ∀ m, SoundR P B w0 m (fsCode P orc m)
  | 0 => fun rnd c fr h e fr' h' _ hf => by cases hf
  | m + 1 => step_sound hP horc (code_sound hP horc m)

end Go.Fs
namespace Go.Fs
open Go.RowKit (Below)
variable {P : Program}

theorem fs_open (hP : ProgOk P) {B : Nat} {w0 w : World} {orc : FuncId → List Value → Heap → Option (Value × Heap)} (horc : CallSound P B w0 orc) {ρ : Ren} {S : Nat → Prop} {h : Heap} {f : FuncId} {args args' : List Value} {v : Value}
    (hE : Enters P f) (hr : HR P ρ S B w0 h w) (ha : LR ρ S args args') (he : EvF P orc f args h fun u _ => u = v) (hv : af v = true) : Calls P f args'.toArray w fun | .returned v', w' => v' = v ∧ Below B w0 w' | _, _ => False := by
  obtain ⟨m, u, h', h1, rfl⟩ := he
  have hc : CallsIn Fence.wide 0 P f args'.toArray w (RetR P B w0 ρ S h w u h') := by
    rcases call_sound hP horc (code_sound hP horc m) f args h u h' h1 with h2 | h2
    · exact h2.2 ρ S w args' hr ha 0
    · obtain ⟨w', v', h3, _⟩ := h2 ρ S w args' hr ha
      rw [callFunc_run hE] at h3
      simp at h3
  refine Calls.mono (callsIn_wide.1 hc) fun e w' he => ?_
  cases e with
  | returned v' =>
    obtain ⟨ρ', m1, hv1⟩ := he
    exact ⟨hv1.eq_of_af hv, m1.hr.below⟩
  | panicked c => exact he.elim
  | outgrown => exact he.elim

end Go.Fs
namespace Go.Fs
open Go.RowKit (Below)
variable {P : Program}

def digs : Nat → Nat → List UInt8
  | 0, _ => []
  | f + 1, n => bif Nat.blt n 10 then [UInt8.ofNat (48 + n)] else digs f (n / 10) ++ [UInt8.ofNat (48 + n % 10)]
def itoaF (n : Int) : List UInt8 := match n with
  | .ofNat k => digs 20 k
  | .negSucc k => 45 :: digs 20 (k + 1)
def joinF (sep : List UInt8) : List (List UInt8) → List UInt8
  | [] => []
  | [w] => w
  | w :: r => w ++ sep ++ joinF sep r
def strs : List Value → Option (List ByteArray)
  | [] => some []
  | .string s :: r => (strs r).map (s :: ·)
  | _ => none

theorem digs_eq : ∀ (f n : Nat), n < 10 ^ (f + 1) → digs (f + 1) n = Lib.decDigits n
  | f, n, h => by
    unfold digs Lib.decDigits
    cases hb : Nat.blt n 10 with
    | true => rw [dif_pos (nblt hb)]; rfl
    | false =>
      have h1 : ¬ n < 10 := by have := nble_no hb; omega
      rw [dif_neg h1]
      simp only [cond_false]
      cases f with
      | zero => simp at h; omega
      | succ f => rw [digs_eq f (n / 10) (by rw [Nat.pow_succ] at h; omega)]
theorem itoaF_eq {n : Int} (h0 : -1000000000000000000 < n) (h1 : n < 1000000000000000000) : itoaF n = Lib.itoa n := by
  unfold Lib.itoa
  cases n with
  | ofNat k =>
    rw [if_neg (by simp)]
    show digs 20 k = _
    rw [digs_eq 19 k (by have : (k : Int) < 1000000000000000000 := h1; have : (10 : Nat) ^ (19 + 1) = 100000000000000000000 := by decide
                         omega)]
    rfl
  | negSucc k =>
    rw [if_pos (by omega)]
    show 45 :: digs 20 (k + 1) = _
    rw [digs_eq 19 (k + 1) (by have h2 : -1000000000000000000 < Int.negSucc k := h0; have : (10 : Nat) ^ (19 + 1) = 100000000000000000000 := by decide
                               omega)]
    rfl
theorem joinF_eq (sep : List UInt8) : ∀ xs : List (List UInt8), joinF sep xs = Lib.join xs sep
  | [] => rfl
  | [w] => by rw [Lib.join_one]; rfl
  | w :: v :: r => by
    rw [Lib.join_cons]
    simp only [joinF]
    rw [joinF_eq sep (v :: r), Lib.join_cons]
    simp [Lib.joinTail]

def orcS (fi fj : FuncId) : FuncId → List Value → Heap → Option (Value × Heap) := fun f xs h =>
  bif Nat.beq f fi then
    match xs with
    | [.int .i64 n] => bif decide (-1000000000000000000 < n) && decide (n < 1000000000000000000) then some (.string ⟨(itoaF n).toArray⟩, h) else none
    | _ => none
  else bif Nat.beq f fj then
    match xs with
    | [.slice (some ⟨b, o, none⟩) n _, .string sep] =>
      match h.get b with
      | some (.row _ cs _ _) =>
        bif Nat.ble (o + n) cs.length && Nat.ble n 1000000 then
          match strs ((cs.drop o).take n) with
          | some ss => let r := joinF sep.data.toList (ss.map (·.data.toList))
            bif Nat.ble r.length 1000000000 then some (.string ⟨r.toArray⟩, h) else none
          | none => none
        else none
      | _ => none
    | _ => none
  else none
variable {B : Nat} {w0 w w' : World} {ρ : Ren} {S : Nat → Prop} {h : Heap}
theorem strs_ok : ∀ (cs cs' : List Value) (ss : List ByteArray), LR ρ S cs cs' → strs cs = some ss → cs' = ss.map .string
  | [], cs', ss, hl, hs => by
    simp only [strs, Option.some.injEq] at hs
    subst hs
    exact List.eq_nil_of_length_eq_zero hl.1.symm
  | v :: r, [], ss, hl, _ => by have := hl.1; simp at this
  | v :: r, v' :: r', ss, hl, hs => by
    unfold strs at hs
    split at hs
    · rename_i he; cases he
    · rename_i s r0 he
      simp only [List.cons.injEq] at he
      obtain ⟨rfl, rfl⟩ := he
      obtain ⟨ss0, h1, rfl⟩ := Option.map_eq_some_iff.1 hs
      have hv : VR ρ S (.string s) v' := hl.2 0 (by simp)
      have hr : LR ρ S r r' := ⟨by have := hl.1; simpa using this, fun i hi => by have := hl.2 (i + 1) (by simp; omega); simpa using this⟩
      rw [hv.string_inv, strs_ok r r' ss0 hr h1]
      rfl
    · cases hs

theorem orcS_sound {fi fj : FuncId} (hi : Enters P fi) (hj : Enters P fj)
    (hI : ∀ (n : Int) (w : World), Below B w0 w → -9223372036854775808 ≤ n → n ≤ 9223372036854775807 → Calls P fi #[.int .i64 n] w fun e w' => e = .returned (.string ⟨(Lib.itoa n).toArray⟩) ∧ Below w.heap.size w w')
    (hJ : ∀ (bk o c : Nat) (xs : List ByteArray) (sep : ByteArray) (w : World), (∀ (j : Nat) x, xs[j]? = some x → w.cell? ⟨bk, o + j, none⟩ = some (.string x)) → bk < w.heap.size → xs.length ≤ 140737488355328 → xs.length ≤ c →
      (Lib.join (xs.map (·.data.toList)) sep.data.toList).length ≤ 140737488355328 →
      Calls P fj #[.slice (some ⟨bk, o, none⟩) xs.length c, .string sep] w fun e w' => e = .returned (.string ⟨(Lib.join (xs.map (·.data.toList)) sep.data.toList).toArray⟩) ∧ Below w.heap.size w w') :
    CallSound P B w0 (orcS fi fj) := by
  intro f xs h v h' hf
  unfold orcS at hf
  cases hfi : Nat.beq f fi with
  | true =>
    have := nbeq hfi
    subst this
    rw [hfi] at hf
    simp only [cond_true] at hf
    split at hf
    · rename_i n
      obtain ⟨hc, hf2⟩ := bif_some hf
      obtain ⟨h0, h1⟩ := band hc
      have h0 := of_decide_eq_true h0
      have h1 := of_decide_eq_true h1
      simp only [Option.some.injEq, Prod.mk.injEq] at hf2
      obtain ⟨rfl, rfl⟩ := hf2
      refine ⟨hi, fun ρ S w args' hr ha nn => ?_⟩
      have he : args' = [.int .i64 n] := ha.eq_of_af (by rfl)
      subst he
      have hC : CallsIn Fence.wide nn P f #[.int .i64 n] w _ := callsIn_wide.2 (hI n w hr.below (by omega) (by omega))
      refine hC.mono fun e w' hret => ?_
      obtain ⟨rfl, hb⟩ := hret
      exact ⟨ρ, Moved.grewWorld hr hb, by rw [itoaF_eq h0 h1]; exact .lit rfl⟩
    · cases hf
  | false =>
    rw [hfi] at hf
    simp only [cond_false] at hf
    obtain ⟨hfj, hf2⟩ := bif_some hf
    have := nbeq hfj
    subst this
    clear hf
    split at hf2
    · rename_i b o n mk sep
      split at hf2
      · rename_i e cs own more hg
        obtain ⟨hc, hf3⟩ := bif_some hf2
        obtain ⟨hle, hn⟩ := band hc
        have hle := nble hle
        have hn := nble hn
        split at hf3
        · rename_i ss hss
          obtain ⟨hlen, hf4⟩ := bif_some hf3
          have hlen := nble hlen
          simp only [Option.some.injEq, Prod.mk.injEq] at hf4
          obtain ⟨rfl, rfl⟩ := hf4
          refine ⟨hj, fun ρ S w args' hr ha nn => ?_⟩
          match args', ha with
          | [x', s'], ha =>
            have hx : VR ρ S (.slice (some ⟨b, o, none⟩) n mk) x' := ha.2 0 (by simp)
            have hs : VR ρ S (.string sep) s' := ha.2 1 (by simp)
            obtain ⟨A, c, rfl, hnc, _, _, hb⟩ := hx.slice_inv
            obtain rfl := hs.string_inv
            have hb0 : b ≠ 0 := (hr.ids b (hr.objs b _ hg).1).2
            obtain ⟨_, rfl, _⟩ := hb hb0
            have hobj := (hr.objs b _ hg).2
            have hlt : (ρ b).block < w.heap.size := by
              by_cases hown : ownO (.row e cs own more) = true
              · exact hobj.lt hown
              · have := hr.ro b _ hg (by simpa using hown)
                have := hr.size
                omega
            have hlr : LR ρ S ((cs.drop o).take n) ((List.range n).map fun j => (w.cell? ((ρ b).at (o + j))).getD undef) := by
              refine LR.of_get? (by simp; omega) fun i v v' hv hv' => ?_
              rw [List.getElem?_take] at hv
              split at hv
              · rename_i hin
                rw [List.getElem?_drop] at hv
                obtain ⟨u, h1, h2⟩ := hobj.cell (i := o + i) (by omega)
                simp [hin, h1] at hv'
                subst hv'
                have : cs.getD (o + i) undef = v := by simp [List.getD, hv]
                rwa [this] at h2
              · cases hv
            have heq := strs_ok _ _ ss hlr hss
            have hsl : ss.length = n := by
              have := congrArg List.length heq
              simp at this
              omega
            have hcells : ∀ (j : Nat) x, ss[j]? = some x → w.cell? ⟨(ρ b).block, (ρ b).off + o + j, none⟩ = some (.string x) := fun j x hjx => by
              have hjn : j < n := by have := (List.getElem?_eq_some_iff.1 hjx).1; omega
              obtain ⟨u, h1, h2⟩ := hobj.cell (i := o + j) (by omega)
              have h3 := congrArg (·[j]?) heq
              simp [hjn, hjx, h1] at h3
              subst h3
              simpa [Loc.at, Nat.add_assoc] using h1
            rw [joinF_eq] at hlen
            have hC : CallsIn Fence.wide nn P f #[.slice (some ⟨(ρ b).block, (ρ b).off + o, none⟩) ss.length c, .string sep] w _ := callsIn_wide.2 (hJ (ρ b).block ((ρ b).off + o) c ss sep w hcells hlt (by omega) (by omega) (by omega))
            rw [hsl] at hC
            refine hC.mono fun e w' hret => ?_
            obtain ⟨rfl, hb⟩ := hret
            exact ⟨ρ, Moved.grewWorld hr hb, by rw [joinF_eq]; exact .lit rfl⟩
        · cases hf3
      · cases hf2
    · cases hf2

end Go.Fs
namespace Go.Fs
open Go.RowKit (Below)
variable {P : Program}

def orcA (fi fj fa : FuncId) : FuncId → List Value → Heap → Option (Value × Heap) := fun f xs h =>
  bif Nat.beq f fa then
    match xs with
    | [] => some (.bool true, h)
    | _ => none
  else orcS fi fj f xs h

theorem orcA_sound {B : Nat} {w0 : World} {fi fj fa : FuncId} (hS : CallSound P B w0 (orcS fi fj)) (ha : Enters P fa)
    (hA : ∀ w, Below B w0 w → Calls P fa #[] w fun | .returned v', w' => v' = .bool true ∧ Below w.heap.size w w' | _, _ => False) : CallSound P B w0 (orcA fi fj fa) := by
  intro f xs h v h' hf
  unfold orcA at hf
  cases hb : Nat.beq f fa with
  | true =>
    have := nbeq hb
    subst this
    rw [hb] at hf
    simp only [cond_true] at hf
    split at hf
    · simp only [Option.some.injEq, Prod.mk.injEq] at hf
      obtain ⟨rfl, rfl⟩ := hf
      refine ⟨ha, fun ρ S w args' hr har nn => ?_⟩
      have he : args' = [] := List.eq_nil_of_length_eq_zero har.1.symm
      subst he
      have hC : CallsIn Fence.wide nn P f #[] w _ := callsIn_wide.2 (hA w hr.below)
      refine hC.mono fun e w' hret => ?_
      cases e with
      | returned v' =>
        obtain ⟨rfl, hb⟩ := hret
        exact ⟨ρ, Moved.grewWorld hr hb, .lit rfl⟩
      | panicked c => exact hret.elim
      | outgrown => exact hret.elim
    · cases hf
  | false =>
    rw [hb] at hf
    exact hS f xs h v h' hf

end Go.Fs
namespace Go.Fs
open Go.RowKit (Below)
open Go.Sort Go.Proofs
variable {P : Program}
def sortB (ss : List ByteArray) : List ByteArray := ((ss.map fun s => s.data.toList).mergeSort fun x y => decide (x ≤ y)).map fun d => ⟨d.toArray⟩
theorem sortB_length (ss : List ByteArray) : (sortB ss).length = ss.length := by simp [sortB]
def orcT (fs : FuncId) (O : FuncId → List Value → Heap → Option (Value × Heap)) : FuncId → List Value → Heap → Option (Value × Heap) := fun f xs h =>
  bif Nat.beq f fs then
    match xs with
    | [.slice (some ⟨b, 0, none⟩) n _] =>
      match h.get b with
      | some (.row e cs true more) =>
        bif Nat.ble n cs.length && Nat.ble n 1000000 then
          match strs (cs.take n) with
          | some ss => some (.tuple #[], h.set b (.row e (splice cs 0 ((sortB ss).map .string)) true more))
          | none => none
        else none
      | _ => none
    | [.slice none 0 0] => some (.tuple #[], h)
    | _ => none
  else O f xs h
variable {B : Nat} {w0 w w' : World} {ρ : Ren} {S : Nat → Prop} {h : Heap}
theorem orcT_sound {fs : FuncId} {O : FuncId → List Value → Heap → Option (Value × Heap)} (hO : CallSound P B w0 O) (hs : Enters P fs)
    (hN : ∀ w, Below B w0 w → Calls P fs #[.slice none 0 0] w fun | .returned v', w' => v' = .tuple #[] ∧ Below w.heap.size w w' | _, _ => False)
    (hT : ∀ (blk off cap : Nat) (ss : List (List UInt8)) (w : World), Holds encStr w blk off ss.toArray → blk < w.heap.size → ss.length < 4611686018427387904 → Calls P fs #[.slice (some ⟨blk, off, none⟩) ss.length cap] w fun e w' =>
      e = .returned (.tuple #[]) ∧ ∃ n os, w' = grow (putRow encStr (Sort.ahead w n) blk off (ss.mergeSort fun x y => decide (x ≤ y)).toArray) os) : CallSound P B w0 (orcT fs O) := by
  intro f xs h v h' hf
  unfold orcT at hf
  cases hb : Nat.beq f fs with
  | false =>
    rw [hb] at hf
    exact hO f xs h v h' hf
  | true =>
    have := nbeq hb
    subst this
    rw [hb] at hf
    simp only [cond_true] at hf
    split at hf
    · rename_i b n mk
      split at hf
      · rename_i e cs more hg
        obtain ⟨hc, hf⟩ := bif_some hf
        obtain ⟨hle, hn⟩ := band hc
        have hle := nble hle
        have hn := nble hn
        split at hf
        · rename_i ss hss
          simp only [Option.some.injEq, Prod.mk.injEq] at hf
          obtain ⟨rfl, rfl⟩ := hf
          refine ⟨hs, fun ρ S w args' hr ha nn => ?_⟩
          match args', ha with
          | [x'], ha =>
            have hx : VR ρ S (.slice (some ⟨b, 0, none⟩) n mk) x' := ha.2 0 (by simp)
            obtain ⟨A, c, rfl, hnc, _, _, hbb⟩ := hx.slice_inv
            have hb0 : b ≠ 0 := (hr.ids b (hr.objs b _ hg).1).2
            obtain ⟨_, rfl, _⟩ := hbb hb0
            obtain ⟨_, cur, h1, h2, h3, h4, h5, h6, h7⟩ := hr.objs b _ hg
            have hlt : (ρ b).block < w.heap.size := (Array.getElem?_eq_some_iff.1 h1).1
            have hlr : LR ρ S (cs.take n) (cur.take n) := by
              refine LR.of_get? (by simp; omega) fun i v v' hv hv' => ?_
              rw [List.getElem?_take] at hv hv'
              split at hv
              · rename_i hin
                rw [if_pos hin] at hv'
                have := h7 i (by omega)
                simpa [List.getD, hv, hv'] using this
              · cases hv
            have heq := strs_ok _ _ ss hlr hss
            have hsl : ss.length = n := by
              have := congrArg List.length heq
              simp at this
              omega
            have hold : Holds encStr w (ρ b).block 0 (ss.map fun s => s.data.toList).toArray := by
              intro j hj
              have hj' : j < ss.length := by simpa using hj
              have h8 := congrArg (·[j]?) heq
              simp [show j < n by omega, hj'] at h8
              have h9 : cur[j]? = some (.string ss[j]) := h8
              have h10 : cur.toArray[0 + j]? = some (.string ss[j]) := by simpa using h9
              refine ⟨?_, ?_⟩
              · simp only [World.cell?, h1, Option.isSome_none, Bool.false_eq_true, if_false, h10]
                simp [hj', encStr]
              · simp [World.frozen?, h1]
            have hC : CallsIn Fence.wide nn P f #[.slice (some ⟨(ρ b).block, 0, none⟩) (ss.map fun s => s.data.toList).length c] w _ := callsIn_wide.2 (hT (ρ b).block 0 c _ w hold hlt (by simp; omega))
            rw [List.length_map, hsl] at hC
            have hat : (ρ b).at 0 = ⟨(ρ b).block, 0, none⟩ := by simp [Loc.at, h2]
            rw [hat]
            refine hC.mono fun e' w' hret => ?_
            obtain ⟨rfl, k, os, rfl⟩ := hret
            have hput : (putCells encStr 0 ((ss.map fun s => s.data.toList).mergeSort fun x y => decide (x ≤ y)).toArray cur.toArray).toList = cur.take 0 ++ (sortB ss).map .string ++ cur.drop (0 + ((sortB ss).map Value.string).length) := by
              apply List.ext_getElem?
              intro j
              simp only [List.take_zero, List.nil_append, Nat.zero_add, List.length_map, sortB_length]
              by_cases hj : j < ss.length
              · rw [List.getElem?_append_left (by simpa [sortB_length] using hj)]
                simp [putCells, sortB, hj, show j < cur.length by omega, encStr]
              · rw [List.getElem?_append_right (by simpa [sortB_length] using Nat.le_of_not_lt hj)]
                simp [putCells, sortB_length, hj]
                congr 1
                omega
            have m1 : Moved P B w0 ρ ρ S h (h.set b (.row e (splice cs 0 ((sortB ss).map .string)) true more)) w (putRow encStr w (ρ b).block 0 ((ss.map fun s => s.data.toList).mergeSort fun x y => decide (x ≤ y)).toArray) := by
              refine Moved.set hr hg rfl rfl rfl rfl rfl (by simp [putRow, mapBlock]) (fun k hk => by simp [putRow, mapBlock, Array.getElem?_modify, Ne.symm hk]) ?_
              refine ⟨_, ?_, h2, ?_, h4, ?_, ?_, LR.spliceCur h7 h5 (LR.map _ _ _ fun x _ => .lit rfl) (by simp [sortB_length]; omega)⟩
              · rw [← hput]
                simp [putRow, mapBlock, Array.getElem?_modify, h1, onCells]
              · simp [sortB_length, h3]; omega
              · simp [splice, sortB_length]; omega
              · intro hm
                have := h6 hm
                simp [splice, sortB_length]; omega
            have m2 := Moved.grewWorld m1.hr (w' := grow (putRow encStr (Sort.ahead w k) (ρ b).block 0 ((ss.map fun s => s.data.toList).mergeSort fun x y => decide (x ≤ y)).toArray) os)
              ⟨rfl, rfl, rfl, by simp [grow, putRow, mapBlock, Sort.ahead], fun j hj => by
                rw [heap_grow_old _ _ (by simpa [putRow, mapBlock, Sort.ahead] using hj)]; rfl⟩
            exact ⟨ρ, m1.trans m2, VR.undef⟩
        · cases hf
      · cases hf
    · simp only [Option.some.injEq, Prod.mk.injEq] at hf
      obtain ⟨rfl, rfl⟩ := hf
      refine ⟨hs, fun ρ S w args' hr har nn => ?_⟩
      have he : args' = [.slice none 0 0] := har.eq_of_af (by rfl)
      subst he
      have hC : CallsIn Fence.wide nn P f #[.slice none 0 0] w _ := callsIn_wide.2 (hN w hr.below)
      refine hC.mono fun e w' hret => ?_
      cases e with
      | returned v' =>
        obtain ⟨rfl, hb⟩ := hret
        exact ⟨ρ, Moved.grewWorld hr hb, VR.undef⟩
      | panicked c => exact hret.elim
      | outgrown => exact hret.elim
    · cases hf
end Go.Fs
namespace Go.Fs
variable {P : Program} {O : FuncId → List Value → Heap → Option (Value × Heap)} {h h' : Heap} {S : List Nat}
theorem strs_map : ∀ xs : List ByteArray, strs (xs.map .string) = some xs
  | [] => rfl
  | x :: r => by simp only [List.map_cons, strs, strs_map r, Option.map_some]
theorem elems_str {rs : List Value} {xs : List ByteArray} (he : Elems h S .str rs xs) : rs = xs.map .string := by
  obtain ⟨h1, h2⟩ := he
  have h1 : rs.length = xs.length := by simpa [Ty.size] using h1
  apply List.ext_getElem?
  intro i
  by_cases hi : i < xs.length
  · have h3 := h2 i hi
    have h4 : ((rs.drop (i * 1)).take 1) = [.string xs[i]] := h3
    rw [Nat.mul_one, List.drop_eq_getElem_cons (by omega)] at h4
    simp only [List.take_succ_cons, List.take_zero, List.cons.injEq, and_true] at h4
    rw [List.getElem?_eq_getElem (by omega), h4]
    simp [hi]
  · rw [List.getElem?_eq_none (by omega), List.getElem?_eq_none (by simp; omega)]
theorem str_elems {xs : List ByteArray} : Elems h S .str (xs.map .string) xs := ⟨by simp [Ty.size], fun i hi => by
  show (((xs.map Value.string).drop (i * 1)).take 1) = [.string xs[i]]
  rw [Nat.mul_one, List.drop_eq_getElem_cons (by simpa using hi)]
  simp⟩
theorem VFG.sortS {fs : FuncId} {e : TypeId} {w : Value} {xs : List ByteArray} (hn : xs.length ≤ 1000000) :
    VFG P (orcT fs O) fs [.raw w] [(w, .row e .str xs)] fun r γ' => r = .tup [] ∧ γ' = [(w, .row e .str (sortB xs))] := fun h S us hok hS hcells hnd hsep ha => by
  obtain ⟨u, r, rfl, h1, h2⟩ := ha
  obtain rfl : r = [] := h2
  obtain rfl : u = w := h1
  rcases hcells _ List.mem_cons_self with ⟨hw, hx⟩ | ⟨b, rs, m, hw, h3, h4, h5⟩
  · have hw : u = .slice none 0 0 := hw
    have hx : xs = [] := hx
    subst hw hx
    refine EvF.oracle (v := .tuple #[]) (h' := h) (by simp only [orcT, Nat.beq_refl, cond_true]) ?_
    refine ⟨_, _, ⟨rfl, rfl⟩, ⟨Aft.refl _ _, fun b hb => (by cases hb), List.nodup_nil, fun c hc => ?_⟩, ⟨[], rfl, rfl⟩⟩
    obtain rfl : c = _ := by simpa using hc
    exact .inl ⟨rfl, by simp [sortB]⟩
  · have hw : u = .slice (some ⟨b, 0, none⟩) xs.length 0 := hw
    have hrs := elems_str h5
    subst hw hrs
    have ho : orcT fs O fs [.slice (some ⟨b, 0, none⟩) xs.length 0] h = some (.tuple #[], h.set b (.row e ((sortB xs).map .string) true m)) := by
      have e1 : Nat.ble xs.length (xs.map Value.string).length = true := by rw [Nat.ble_eq]; simp
      have e2 : Nat.ble xs.length 1000000 = true := by rw [Nat.ble_eq]; exact hn
      have e3 : (xs.map Value.string).take xs.length = xs.map .string := List.take_of_length_le (by simp)
      have e4 : splice (xs.map Value.string) 0 ((sortB xs).map .string) = (sortB xs).map .string := by
        unfold splice
        rw [List.take_zero, List.nil_append, List.drop_of_length_le (by simp [sortB_length]), List.append_nil]
      simp only [orcT, Nat.beq_refl, cond_true, h4, e1, e2, Bool.and_self, e3, strs_map, e4]
    refine EvF.oracle ho ⟨_, _, ⟨rfl, rfl⟩, ⟨Aft.set h4 (by simp [own, blk]), fun b' hb' => .inl (by simpa [own, blk] using hb'), by simp [own, blk], fun c hc => ?_⟩, ⟨[], rfl, rfl⟩⟩
    obtain rfl : c = _ := by simpa using hc
    refine .inr ⟨b, _, m, by rw [sortB_length], by simp [own, blk], by rw [Heap.get_set h4, if_pos rfl], str_elems⟩
end Go.Fs
namespace Go.Proofs
open Go.Fs
set_option linter.unusedVariables false
def OA := orcT 178 (orcA 182 147 16)
abbrev y39 : Ty := (.sl (.int .i64))
abbrev y204 : Ty := (.sl (.int .i64))
theorem vt3 : ValT Tryz.prog 3 (.int .i64) := valT_of (by kernel_rfl)
theorem vt32 : ValT Tryz.prog 32 (.int .i64) := valT_of (by kernel_rfl)
theorem el39 : ElT Tryz.prog 39 3 (.int .i64) := elT_of (by kernel_rfl)
theorem el204 : ElT Tryz.prog 204 32 (.int .i64) := elT_of (by kernel_rfl)
def whenE (c : Bool) (e : Int) : Int := bif c then e else 0
theorem sWhen_ok {c : Bool} {e : Int} : VF Tryz.prog OA 94 [B c, I e] (I (whenE c e)) := by
  refine VF.enter Tryz.func94 rfl (fun _ _ => rfl) rfl ?_
  show VC _ _ _ _ _ [(0, B c), (1, I e)] [] _
  refine VC.seq ?_
  refine VC.text ?_
  refine VO.c (.assign rfl) ?_
  refine VO.go ?_
  refine VC.seq ?_
  refine VC.seq ?_
  refine VC.text ?_
  refine VO.c (.move rfl) ?_
  refine VO.go ?_
  refine VC.condB rfl (fun c1 => ?_) (fun c1 => ?_)
  · subst c1
    refine VC.seq ?_
    refine VC.text ?_
    refine VO.c (.move rfl) ?_
    refine VO.c (.assign rfl) ?_
    refine VO.go ?_
    refine VC.ret ?_
    exact VEnd.one rfl evT (pvI (by rfl))
  · subst c1
    refine VC.skip ?_
    show VC _ _ _ _ _ _ _ _
    refine VC.seq ?_
    refine VC.text ?_
    refine VO.c (.assign rfl) ?_
    refine VO.go ?_
    refine VC.ret ?_
    exact VEnd.one rfl evT (pvI (by rfl))
def rangeE (n lo hi : Int) : Int := if n < lo ∨ hi < n then 3 else 0
theorem rCheckRange_ok {n : Int} {lo : Int} {hi : Int} : VF Tryz.prog OA 100 [I n, I lo, I hi] (I (rangeE n lo hi)) := by
  refine VF.enter Tryz.func100 rfl (fun _ _ => rfl) rfl ?_
  show VC _ _ _ _ _ [(0, I n), (1, I lo), (2, I hi)] [] _
  refine VC.seq ?_
  refine VC.text ?_
  refine VO.c (.assign rfl) ?_
  refine VO.go ?_
  refine VC.seq ?_
  refine VC.seq ?_
  refine VC.text ?_
  refine VO.c (.move rfl) ?_
  refine VO.c (.move rfl) ?_
  refine VO.c (.lss) ?_
  refine VO.c (.move rfl) ?_
  refine VO.cg (r := decide (n < lo)) (w := false) [] trivial (fun hgd => have g1_3 : ¬ (n < lo) := (by simpa using hgd); (.move rfl)) ?_
  refine VO.cg (r := decide (n < lo)) (w := false) [] trivial (fun hgd => have g1_3 : ¬ (n < lo) := (by simpa using hgd); (.move rfl)) ?_
  refine VO.cg (r := decide (n < lo)) (w := false) [(11, I n), (12, I hi)] ⟨rfl, rfl, trivial⟩ (fun hgd => have g1_3 : ¬ (n < lo) := (by simpa using hgd); (.gtr)) ?_
  refine VO.c (.or) ?_
  refine VO.go ?_
  refine VC.condB rfl (fun c1 => ?_) (fun c1 => ?_)
  · try simp only [Bool.and_eq_true, Bool.or_eq_true, Bool.and_eq_false_iff, Bool.or_eq_false_iff, Bool.not_eq_true', Bool.not_eq_false', decide_eq_true_eq, decide_eq_false_iff_not] at c1
    refine VC.seq ?_
    refine VC.text ?_
    refine VO.c (.assign rfl) ?_
    refine VO.go ?_
    refine VC.ret ?_
    exact VEnd.one rfl evT (pvI (by simp only [rangeE, ← Bool.decide_or, decide_eq_true_eq, decide_eq_false_iff_not, Bool.or_eq_true, Bool.or_eq_false_iff] at *; first | rw [if_pos (by omega)] | rw [if_neg (by omega)]))
  · try simp only [Bool.and_eq_true, Bool.or_eq_true, Bool.and_eq_false_iff, Bool.or_eq_false_iff, Bool.not_eq_true', Bool.not_eq_false', decide_eq_true_eq, decide_eq_false_iff_not] at c1
    refine VC.skip ?_
    show VC _ _ _ _ _ _ _ _
    refine VC.seq ?_
    refine VC.text ?_
    refine VO.c (.assign rfl) ?_
    refine VO.go ?_
    refine VC.ret ?_
    exact VEnd.one rfl evT (pvI (by simp only [rangeE, ← Bool.decide_or, decide_eq_true_eq, decide_eq_false_iff_not, Bool.or_eq_true, Bool.or_eq_false_iff] at *; first | rw [if_pos (by omega)] | rw [if_neg (by omega)]))
theorem whenE_range {n lo hi : Int} : whenE (decide (n < lo) || decide (hi < n)) 3 = rangeE n lo hi := by
  unfold whenE rangeE
  by_cases h1 : n < lo <;> by_cases h2 : hi < n <;> simp [h1, h2]
theorem sWithin_ok {n : Int} {lo : Int} {hi : Int} : VF Tryz.prog OA 99 [I n, I lo, I hi] (I (rangeE n lo hi)) := by
  refine VF.enter Tryz.func99 rfl (fun _ _ => rfl) rfl ?_
  show VC _ _ _ _ _ [(0, I n), (1, I lo), (2, I hi)] [] _
  refine VC.seq ?_
  refine VC.text ?_
  refine VO.c (.assign rfl) ?_
  refine VO.go ?_
  refine VC.seq ?_
  refine VC.text ?_
  refine VO.c (.move rfl) ?_
  refine VO.c (.move rfl) ?_
  refine VO.c (.lss) ?_
  refine VO.c (.move rfl) ?_
  refine VO.cg (r := decide (n < lo)) (w := false) [] trivial (fun hgd => have g1_3 : ¬ (n < lo) := (by simpa using hgd); (.move rfl)) ?_
  refine VO.cg (r := decide (n < lo)) (w := false) [] trivial (fun hgd => have g1_3 : ¬ (n < lo) := (by simpa using hgd); (.move rfl)) ?_
  refine VO.cg (r := decide (n < lo)) (w := false) [(11, I n), (12, I hi)] ⟨rfl, rfl, trivial⟩ (fun hgd => have g1_3 : ¬ (n < lo) := (by simpa using hgd); (.gtr)) ?_
  refine VO.c (.or) ?_
  refine VO.call rfl rfl (VF.call (sWhen_ok )) ?_
  refine VO.c (.assign rfl) ?_
  refine VO.go ?_
  refine VC.ret ?_
  exact VEnd.one rfl evT (pvI (by exact whenE_range))
def firstE : List Int → Int
  | [] => 0
  | x :: r => if x = 0 then firstE r else x
theorem firstE_drop {xs : List Int} {j : Nat} (hj : j < xs.length) : firstE (xs.drop j) = if xs[j] = 0 then firstE (xs.drop (j + 1)) else xs[j] := by
  rw [List.drop_eq_getElem_cons hj] <;> rfl
theorem firstE_end {xs : List Int} {j : Nat} (hj : xs.length ≤ j) : firstE (xs.drop j) = 0 := by rw [List.drop_eq_nil_of_le hj] <;> rfl
theorem sFirst_ok {l : List Int} (hl : l.length < 1000000) : VF Tryz.prog OA 89 [.v y204 l] (I (firstE l)) := by
  refine VF.enter Tryz.func89 rfl (fun _ _ => rfl) rfl ?_
  show VC _ _ _ _ _ [(0, .v y204 l)] [] _
  refine VC.seq ?_
  refine VC.text ?_
  refine VO.c (.assign rfl) ?_
  refine VO.go ?_
  refine VC.seq ?_
  refine VC.seq ?_
  refine VC.text ?_
  refine VO.c (.move rfl) ?_
  refine VO.r (.len el204) ?_
  refine VO.c (.move rfl) ?_
  refine VO.go ?_
  refine VC.block ?_
  refine VC.keep [(5, .v y204 l), (6, I ((l.length : Nat) : Int)), (7, I ((0 : Nat) : Int))] ⟨rfl, rfl, rfl, trivial⟩ ?_
  refine VC.loop (I := fun kk ff ss => ∃ (j : Nat), kk = l.length - j ∧ ff = [(5, .v y204 l), (6, I ((l.length : Nat) : Int)), (7, I ((j : Nat) : Int))] ∧ ss = [] ∧ (j ≤ l.length) ∧ (firstE l = firstE (l.drop j))) ?_ _ _ _ ⟨0, rfl, rfl, rfl, Nat.zero_le _, (by rfl)⟩
  rintro kk ff ss ⟨j, hk0, rfl, rfl, hj, hf⟩
  refine VC.seq ?_
  refine VC.text ?_
  refine VO.c (.lss) ?_
  refine VO.go ?_
  refine VC.seq ?_
  refine VC.condD rfl (fun c2 => ?_) (fun c2 => ?_)
  · refine VC.skip ?_
    show VC _ _ _ _ _ _ _ _
    refine VC.seq ?_
    refine VC.block ?_
    refine VC.seq ?_
    refine VC.text ?_
    refine VO.c (.ix (j := j) rfl rfl el204 (by omega)) ?_
    refine VO.r (.ld vt32) ?_
    refine VO.c (.assign rfl) ?_
    refine VO.go ?_
    refine VC.seq ?_
    refine VC.text ?_
    refine VO.c (.move rfl) ?_
    refine VO.c (.neq) ?_
    refine VO.go ?_
    refine VC.condD rfl (fun c4 => ?_) (fun c4 => ?_)
    · refine VC.seq ?_
      refine VC.text ?_
      refine VO.c (.move rfl) ?_
      refine VO.c (.assign rfl) ?_
      refine VO.go ?_
      refine VC.ret ?_
      exact VEnd.one rfl evT (pvI (by rw [hf, firstE_drop (by omega), if_neg c4]))
    · refine VC.skip ?_
      show VC _ _ _ _ _ _ _ _
      refine VC.text ?_
      refine VO.c (.add rfl rfl (by omega)) ?_
      refine VO.c (.move rfl) ?_
      refine VO.nil ?_
      refine ⟨_, [(5, .v y204 l), (6, I ((l.length : Nat) : Int)), (7, I (((j + 1) : Nat) : Int))], ?_, ⟨rfl, rfl, rfl, trivial⟩, (j + 1), rfl, rfl, rfl, (by omega), (by rw [hf, firstE_drop (by omega), if_pos (by simpa using c4)])⟩
      omega
  · refine VC.exit ?_
    show VC _ _ _ _ _ _ _ _
    refine VC.seq ?_
    refine VC.text ?_
    refine VO.c (.assign rfl) ?_
    refine VO.go ?_
    refine VC.ret ?_
    exact VEnd.one rfl evT (pvI (by rw [hf, firstE_end (by omega)]))
theorem rFirst_ok {l : List Int} (hl : l.length < 1000000) : VF Tryz.prog OA 19 [.v y39 l] (I (firstE l)) := by
  refine VF.enter Tryz.func19 rfl (fun _ _ => rfl) rfl ?_
  show VC _ _ _ _ _ [(0, .v y39 l)] [] _
  refine VC.seq ?_
  refine VC.text ?_
  refine VO.c (.assign rfl) ?_
  refine VO.go ?_
  refine VC.seq ?_
  refine VC.seq ?_
  refine VC.text ?_
  refine VO.c (.assign rfl) ?_
  refine VO.go ?_
  refine VC.block ?_
  refine VC.keep [(0, .v y39 l), (3, I ((0 : Nat) : Int))] ⟨rfl, rfl, trivial⟩ ?_
  refine VC.loop (I := fun kk ff ss => ∃ (j : Nat), kk = l.length - j ∧ ff = [(0, .v y39 l), (3, I ((j : Nat) : Int))] ∧ ss = [] ∧ (j ≤ l.length) ∧ (firstE l = firstE (l.drop j))) ?_ _ _ _ ⟨0, rfl, rfl, rfl, Nat.zero_le _, (by rfl)⟩
  rintro kk ff ss ⟨j, hk0, rfl, rfl, hj, hf⟩
  refine VC.seq ?_
  refine VC.seq ?_
  refine VC.text ?_
  refine VO.c (.move rfl) ?_
  refine VO.c (.move rfl) ?_
  refine VO.r (.len el39) ?_
  refine VO.c (.lss) ?_
  refine VO.go ?_
  refine VC.condD rfl (fun c2 => ?_) (fun c2 => ?_)
  · refine VC.skip ?_
    show VC _ _ _ _ _ _ _ _
    refine VC.seq ?_
    refine VC.block ?_
    refine VC.seq ?_
    refine VC.text ?_
    refine VO.c (.move rfl) ?_
    refine VO.c (.move rfl) ?_
    refine VO.c (.ix (j := j) rfl rfl el39 (by omega)) ?_
    refine VO.r (.ld vt3) ?_
    refine VO.c (.neq) ?_
    refine VO.go ?_
    refine VC.condD rfl (fun c4 => ?_) (fun c4 => ?_)
    · refine VC.seq ?_
      refine VC.text ?_
      refine VO.c (.move rfl) ?_
      refine VO.c (.move rfl) ?_
      refine VO.c (.ix (j := j) rfl rfl el39 (by omega)) ?_
      refine VO.r (.ld vt3) ?_
      refine VO.c (.assign rfl) ?_
      refine VO.go ?_
      refine VC.ret ?_
      exact VEnd.one rfl evT (pvI (by rw [hf, firstE_drop (by omega), if_neg c4]))
    · refine VC.skip ?_
      show VC _ _ _ _ _ _ _ _
      refine VC.text ?_
      refine VO.c (.move rfl) ?_
      refine VO.c (.add rfl rfl (by omega)) ?_
      refine VO.c (.assign rfl) ?_
      refine VO.nil ?_
      refine ⟨_, [(0, .v y39 l), (3, I (((j + 1) : Nat) : Int))], ?_, ⟨rfl, rfl, trivial⟩, (j + 1), rfl, rfl, rfl, (by omega), (by rw [hf, firstE_drop (by omega), if_pos (by simpa using c4)])⟩
      omega
  · refine VC.exit ?_
    show VC _ _ _ _ _ _ _ _
    refine VC.seq ?_
    refine VC.text ?_
    refine VO.c (.assign rfl) ?_
    refine VO.go ?_
    refine VC.ret ?_
    exact VEnd.one rfl evT (pvI (by rw [hf, firstE_end (by omega)]))
end Go.Proofs
namespace Go.Proofs
open Go.Fs Ieee
set_option linter.unusedVariables false

/-! ## Names -/
def letterB (c : Int) : Bool := decide (65 ≤ c ∧ c ≤ 90 ∨ 97 ≤ c ∧ c ≤ 122)
def otherB (c : Int) : Bool := decide (48 ≤ c ∧ c ≤ 57 ∨ c = 95)
def byteB (c : Int) (i : Nat) : Bool := letterB c || (decide (i ≠ 0) && otherB c)
def nameB (s : ByteArray) : Bool := decide (s.size ≠ 0 ∧ s.size ≤ 24 ∧ ∀ i, i < s.size → byteB (byteE s i) i = true)
theorem nameB_f {s : ByteArray} {i : Nat} (hi : i < s.size) (h : byteB (byteE s i) i = false) : false = nameB s := by
  refine (decide_eq_false fun hh => ?_).symm
  rw [hh.2.2 i hi] at h; cases h
theorem nameB_t {s : ByteArray} (h1 : s.size ≠ 0) (h2 : s.size ≤ 24) (h : ∀ i, i < s.size → byteB (byteE s i) i = true) : true = nameB s := (decide_eq_true ⟨h1, h2, h⟩).symm
theorem size_empty {s : ByteArray} : s ≠ ByteArray.empty ↔ s.size ≠ 0 := by
  constructor
  · intro h e
    exact h (ByteArray.ext (Array.eq_empty_of_size_eq_zero e))
  · rintro h rfl; exact h rfl
theorem byteB_high {c : Int} {i : Nat} (h : 128 ≤ c) : byteB c i = false := by
  have h1 : letterB c = false := decide_eq_false (by omega)
  have h2 : otherB c = false := decide_eq_false (by omega)
  rw [byteB, h1, h2]; simp
theorem rune_f {s : ByteArray} {p : Nat} (h : byteB ((Utf8.decode s p).1 : Nat) p = false) : byteB (byteE s p) p = false := by
  by_cases hl : (s.get! p).toNat < 128
  · rw [decode_low hl] at h; exact h
  · exact byteB_high (by rw [byteE_nat]; omega)
theorem rune_t {s : ByteArray} {p : Nat} (h : byteB ((Utf8.decode s p).1 : Nat) p = true) : byteB (byteE s p) p = true ∧ (Utf8.decode s p).2 = 1 := by
  by_cases hl : (s.get! p).toNat < 128
  · rw [decode_low hl] at h ⊢; exact ⟨h, rfl⟩
  · have := decode_high hl
    rw [byteB_high (by omega)] at h; cases h
theorem name_end {s : ByteArray} (h : ∀ i, i < s.size → byteB (byteE s i) i = true) : (decide (s ≠ ByteArray.empty) && decide (((s.size : Nat) : Int) ≤ 24)) = nameB s := by
  rw [← Bool.decide_and]
  exact decide_eq_decide.2 ⟨fun hh => ⟨size_empty.1 hh.1, by omega, h⟩, fun hh => ⟨size_empty.2 hh.1, by omega⟩⟩
theorem gName_ok {s : ByteArray} : VF Tryz.prog OA 153 [St s] (B (nameB s)) := by
  refine VF.enter Tryz.func153 rfl (fun _ _ => rfl) rfl ?_
  show VC _ _ _ _ _ [(0, St s)] [] _
  refine VC.seq ?_
  refine VC.text ?_
  refine VO.c (.assign rfl) ?_
  refine VO.go ?_
  refine VC.seq ?_
  refine VC.seq ?_
  refine VC.text ?_
  refine VO.c (.move rfl) ?_
  refine VO.cell (.rng) ?_
  intro ww1
  refine VO.go ?_
  refine VC.block ?_
  refine VC.keep [(0, St s), (8, .raw ww1)] ⟨rfl, rfl, trivial⟩ ?_
  refine VC.loop (I := fun kk ff ss => ∃ (p : Nat), kk = s.size - p ∧ ff = [(0, St s), (8, .raw ww1)] ∧ ss = [(ww1, .it s p)] ∧ (p ≤ s.size) ∧ (∀ i, i < p → byteB (byteE s i) i = true)) ?_ _ _ _ ⟨0, rfl, rfl, rfl, Nat.zero_le _, (by intro i hi; omega)⟩
  rintro kk ff ss ⟨p, hk0, rfl, rfl, hp, hq⟩
  refine VC.seq ?_
  refine VC.text ?_
  refine VO.next rfl (fun h2_0 => ?_) (fun h2_0 => ?_)
  · refine VO.c (.extract) ?_
    refine VO.go ?_
    refine VC.seq ?_
    refine VC.condT rfl ?_
    refine VC.skip ?_
    show VC _ _ _ _ _ _ _ _
    refine VC.block ?_
    refine VC.seq ?_
    refine VC.text ?_
    refine VO.c (.extract) ?_
    refine VO.c (.extract) ?_
    refine VO.c (.assign rfl) ?_
    refine VO.c (.assign rfl) ?_
    refine VO.go ?_
    refine VC.seq ?_
    refine VC.join [(0, St s), (3, I ((p : Nat) : Int)), (4, .v (.int .i32) (((Utf8.decode s p).1 : Nat) : Int)), (5, B (letterB ((Utf8.decode s p).1 : Nat))), (8, .raw ww1)] [(ww1, .it s (p + (Utf8.decode s p).2))] ?_ ?_
    · skip
      refine VC.text ?_
      refine VO.c (.move rfl) ?_
      refine VO.c (.geq) ?_
      refine VO.c (.move rfl) ?_
      refine VO.splitD (x := 15) rfl (fun g4_2 => ?_) (fun g4_2 => ?_)
      · refine VO.c (.move rfl) ?_
        refine VO.c (.leq) ?_
        refine VO.c (.pickT rfl rfl) ?_
        refine VO.c (.move rfl) ?_
        refine VO.splitD (x := 19) rfl (fun g4_6 => ?_) (fun g4_6 => ?_)
        · refine VO.skip ?_
          refine VO.skip ?_
          refine VO.skip ?_
          refine VO.skip ?_
          refine VO.skip ?_
          refine VO.skip ?_
          refine VO.c (.pickT rfl rfl) ?_
          refine VO.c (.assign rfl) ?_
          refine VO.nil ?_
          exact ⟨⟨rfl, rfl, rfl, slE rfl (by rw [Bool.eq_iff_iff]; simp [letterB] <;> omega), rfl, trivial⟩, rfl⟩
        · refine VO.c (.move rfl) ?_
          refine VO.c (.geq) ?_
          refine VO.c (.move rfl) ?_
          refine VO.cg (r := decide ((97 : Int) ≤ (((Utf8.decode s p).1 : Nat) : Int))) (w := true) [] trivial (fun hgd => have g4_9 : (97 : Int) ≤ (((Utf8.decode s p).1 : Nat) : Int) := (by simpa using hgd); (.move rfl)) ?_
          refine VO.cg (r := decide ((97 : Int) ≤ (((Utf8.decode s p).1 : Nat) : Int))) (w := true) [(23, .v (.int .i32) (((Utf8.decode s p).1 : Nat) : Int))] ⟨rfl, trivial⟩ (fun hgd => have g4_9 : (97 : Int) ≤ (((Utf8.decode s p).1 : Nat) : Int) := (by simpa using hgd); (.leq)) ?_
          refine VO.c (.and) ?_
          refine VO.c (.pickF rfl rfl) ?_
          refine VO.c (.assign rfl) ?_
          refine VO.nil ?_
          exact ⟨⟨rfl, rfl, rfl, slE rfl (by rw [Bool.eq_iff_iff]; simp [letterB] <;> omega), rfl, trivial⟩, rfl⟩
      · refine VO.skip ?_
        refine VO.skip ?_
        refine VO.c (.pickF rfl rfl) ?_
        refine VO.c (.move rfl) ?_
        refine VO.c (.move rfl) ?_
        refine VO.c (.geq) ?_
        refine VO.c (.move rfl) ?_
        refine VO.cg (r := decide ((97 : Int) ≤ (((Utf8.decode s p).1 : Nat) : Int))) (w := true) [] trivial (fun hgd => have g4_9 : (97 : Int) ≤ (((Utf8.decode s p).1 : Nat) : Int) := (by simpa using hgd); (.move rfl)) ?_
        refine VO.cg (r := decide ((97 : Int) ≤ (((Utf8.decode s p).1 : Nat) : Int))) (w := true) [(23, .v (.int .i32) (((Utf8.decode s p).1 : Nat) : Int))] ⟨rfl, trivial⟩ (fun hgd => have g4_9 : (97 : Int) ≤ (((Utf8.decode s p).1 : Nat) : Int) := (by simpa using hgd); (.leq)) ?_
        refine VO.c (.and) ?_
        refine VO.c (.pickF rfl rfl) ?_
        refine VO.c (.assign rfl) ?_
        refine VO.nil ?_
        exact ⟨⟨rfl, rfl, rfl, slE rfl (by rw [Bool.eq_iff_iff]; simp [letterB] <;> omega), rfl, trivial⟩, rfl⟩
    show VC _ _ _ _ _ _ _ _
    refine VC.seq ?_
    refine VC.join [(0, St s), (3, I ((p : Nat) : Int)), (5, B (letterB ((Utf8.decode s p).1 : Nat))), (6, B (otherB ((Utf8.decode s p).1 : Nat))), (8, .raw ww1)] [(ww1, .it s (p + (Utf8.decode s p).2))] ?_ ?_
    · skip
      refine VC.text ?_
      refine VO.c (.move rfl) ?_
      refine VO.c (.geq) ?_
      refine VO.c (.move rfl) ?_
      refine VO.splitD (x := 29) rfl (fun g5_2 => ?_) (fun g5_2 => ?_)
      · refine VO.c (.move rfl) ?_
        refine VO.c (.leq) ?_
        refine VO.c (.pickT rfl rfl) ?_
        refine VO.c (.move rfl) ?_
        refine VO.cg (r := decide ((((Utf8.decode s p).1 : Nat) : Int) ≤ (57 : Int))) (w := false) [] trivial (fun hgd => have g5_6 : ¬ ((((Utf8.decode s p).1 : Nat) : Int) ≤ (57 : Int)) := (by simpa using hgd); (.move rfl)) ?_
        refine VO.cg (r := decide ((((Utf8.decode s p).1 : Nat) : Int) ≤ (57 : Int))) (w := false) [(34, .v (.int .i32) (((Utf8.decode s p).1 : Nat) : Int))] ⟨rfl, trivial⟩ (fun hgd => have g5_6 : ¬ ((((Utf8.decode s p).1 : Nat) : Int) ≤ (57 : Int)) := (by simpa using hgd); (.eql)) ?_
        refine VO.c (.or) ?_
        refine VO.c (.assign rfl) ?_
        refine VO.nil ?_
        exact ⟨⟨rfl, rfl, rfl, slE rfl (by rw [Bool.eq_iff_iff]; simp [otherB] <;> omega), rfl, trivial⟩, rfl⟩
      · refine VO.skip ?_
        refine VO.skip ?_
        refine VO.c (.pickF rfl rfl) ?_
        refine VO.c (.move rfl) ?_
        refine VO.c (.move rfl) ?_
        refine VO.c (.eql) ?_
        refine VO.c (.pickF rfl rfl) ?_
        refine VO.c (.assign rfl) ?_
        refine VO.nil ?_
        exact ⟨⟨rfl, rfl, rfl, slE rfl (by rw [Bool.eq_iff_iff]; simp [otherB] <;> omega), rfl, trivial⟩, rfl⟩
    show VC _ _ _ _ _ _ _ _
    refine VC.seq ?_
    refine VC.join [(0, St s), (8, .raw ww1), (46, B (!byteB ((Utf8.decode s p).1 : Nat) p))] [(ww1, .it s (p + (Utf8.decode s p).2))] ?_ ?_
    · skip
      refine VC.text ?_
      refine VO.c (.move rfl) ?_
      refine VO.c (.not) ?_
      refine VO.c (.move rfl) ?_
      refine VO.splitB (x := 39) rfl (fun g6_2 => ?_) (fun g6_2 => ?_)
      · try simp only [Bool.and_eq_true, Bool.or_eq_true, Bool.and_eq_false_iff, Bool.or_eq_false_iff, Bool.not_eq_true', Bool.not_eq_false', decide_eq_true_eq, decide_eq_false_iff_not] at g6_2
        refine VO.c (.move rfl) ?_
        refine VO.c (.eql) ?_
        refine VO.c (.move rfl) ?_
        refine VO.cg (r := decide (((p : Nat) : Int) = (0 : Int))) (w := false) [] trivial (fun hgd => have g6_5 : ¬ (((p : Nat) : Int) = (0 : Int)) := (by simpa using hgd); (.move rfl)) ?_
        refine VO.cg (r := decide (((p : Nat) : Int) = (0 : Int))) (w := false) [(43, B (otherB ((Utf8.decode s p).1 : Nat)))] ⟨rfl, trivial⟩ (fun hgd => have g6_5 : ¬ (((p : Nat) : Int) = (0 : Int)) := (by simpa using hgd); (.not)) ?_
        refine VO.c (.or) ?_
        refine VO.c (.pickT rfl rfl) ?_
        refine VO.nil ?_
        exact ⟨⟨rfl, rfl, slE rfl (by simp [byteB, *]), trivial⟩, rfl⟩
      · try simp only [Bool.and_eq_true, Bool.or_eq_true, Bool.and_eq_false_iff, Bool.or_eq_false_iff, Bool.not_eq_true', Bool.not_eq_false', decide_eq_true_eq, decide_eq_false_iff_not] at g6_2
        refine VO.skip ?_
        refine VO.skip ?_
        refine VO.skip ?_
        refine VO.skip ?_
        refine VO.skip ?_
        refine VO.skip ?_
        refine VO.c (.pickF rfl rfl) ?_
        refine VO.nil ?_
        exact ⟨⟨rfl, rfl, slE rfl (by simp [byteB, *]), trivial⟩, rfl⟩
    show VC _ _ _ _ _ _ _ _
    refine VC.condB rfl (fun c6 => ?_) (fun c6 => ?_)
    · try simp only [Bool.and_eq_true, Bool.or_eq_true, Bool.and_eq_false_iff, Bool.or_eq_false_iff, Bool.not_eq_true', Bool.not_eq_false', decide_eq_true_eq, decide_eq_false_iff_not] at c6
      refine VC.seq ?_
      refine VC.text ?_
      refine VO.c (.assign rfl) ?_
      refine VO.go ?_
      refine VC.ret ?_
      exact VEnd.one rfl evT (pvE (by exact nameB_f h2_0 (rune_f c6)))
    · try simp only [Bool.and_eq_true, Bool.or_eq_true, Bool.and_eq_false_iff, Bool.or_eq_false_iff, Bool.not_eq_true', Bool.not_eq_false', decide_eq_true_eq, decide_eq_false_iff_not] at c6
      refine VC.skip ?_
      refine ⟨_, [(0, St s), (8, .raw ww1)], ?_, ⟨rfl, rfl, trivial⟩, (p + 1), rfl, rfl, (by rw [(rune_t c6).2]), (by omega), (by intro i hi; rcases Nat.lt_succ_iff_lt_or_eq.1 hi with h | h; exact hq i h; subst h; exact (rune_t c6).1)⟩
      omega
  · refine VO.c (.ext0) ?_
    refine VO.go ?_
    refine VC.seq ?_
    refine VC.condF rfl ?_
    refine VC.exit ?_
    show VC _ _ _ _ _ _ _ _
    refine VC.seq ?_
    refine VC.text ?_
    refine VO.c (.move rfl) ?_
    refine VO.c (.sneq) ?_
    refine VO.c (.move rfl) ?_
    refine VO.cg (r := decide (s ≠ ByteArray.empty)) (w := true) [] trivial (fun hgd => have g8_2 : s ≠ ByteArray.empty := (by simpa using hgd); (.move rfl)) ?_
    refine VO.rg (r := decide (s ≠ ByteArray.empty)) (w := true) [(50, St s)] ⟨rfl, trivial⟩ (fun hgd => have g8_2 : s ≠ ByteArray.empty := (by simpa using hgd); (.lenS)) ?_
    refine VO.cg (r := decide (s ≠ ByteArray.empty)) (w := true) [(51, I ((s.size : Nat) : Int))] ⟨rfl, trivial⟩ (fun hgd => have g8_2 : s ≠ ByteArray.empty := (by simpa using hgd); (.leq)) ?_
    refine VO.c (.and) ?_
    refine VO.c (.assign rfl) ?_
    refine VO.go ?_
    refine VC.ret ?_
    exact VEnd.one rfl evT (pvE (by exact name_end (fun i hi => hq i (by omega))))
theorem rName_ok {s : ByteArray} : VF Tryz.prog OA 152 [St s] (B (nameB s)) := by
  refine VF.enter Tryz.func152 rfl (fun _ _ => rfl) rfl ?_
  show VC _ _ _ _ _ [(0, St s)] [] _
  refine VC.seq ?_
  refine VC.text ?_
  refine VO.c (.assign rfl) ?_
  refine VO.go ?_
  refine VC.seq ?_
  refine VC.seq ?_
  refine VC.text ?_
  refine VO.c (.move rfl) ?_
  refine VO.r (.lenS) ?_
  refine VO.c (.eql) ?_
  refine VO.c (.move rfl) ?_
  refine VO.cg (r := decide (((s.size : Nat) : Int) = (0 : Int))) (w := false) [] trivial (fun hgd => have g1_3 : ¬ (((s.size : Nat) : Int) = (0 : Int)) := (by simpa using hgd); (.move rfl)) ?_
  refine VO.rg (r := decide (((s.size : Nat) : Int) = (0 : Int))) (w := false) [(9, St s)] ⟨rfl, trivial⟩ (fun hgd => have g1_3 : ¬ (((s.size : Nat) : Int) = (0 : Int)) := (by simpa using hgd); (.lenS)) ?_
  refine VO.cg (r := decide (((s.size : Nat) : Int) = (0 : Int))) (w := false) [(10, I ((s.size : Nat) : Int))] ⟨rfl, trivial⟩ (fun hgd => have g1_3 : ¬ (((s.size : Nat) : Int) = (0 : Int)) := (by simpa using hgd); (.gtr)) ?_
  refine VO.c (.or) ?_
  refine VO.go ?_
  refine VC.condB rfl (fun c1 => ?_) (fun c1 => ?_)
  · try simp only [Bool.and_eq_true, Bool.or_eq_true, Bool.and_eq_false_iff, Bool.or_eq_false_iff, Bool.not_eq_true', Bool.not_eq_false', decide_eq_true_eq, decide_eq_false_iff_not] at c1
    refine VC.seq ?_
    refine VC.text ?_
    refine VO.c (.assign rfl) ?_
    refine VO.go ?_
    refine VC.ret ?_
    exact VEnd.one rfl evT (pvE (by exact (decide_eq_false fun hh => by have := hh.1; have := hh.2.1; omega).symm))
  · try simp only [Bool.and_eq_true, Bool.or_eq_true, Bool.and_eq_false_iff, Bool.or_eq_false_iff, Bool.not_eq_true', Bool.not_eq_false', decide_eq_true_eq, decide_eq_false_iff_not] at c1
    refine VC.skip ?_
    show VC _ _ _ _ _ _ _ _
    refine VC.seq ?_
    refine VC.seq ?_
    refine VC.text ?_
    refine VO.c (.assign rfl) ?_
    refine VO.go ?_
    refine VC.block ?_
    refine VC.keep [(0, St s), (3, I ((0 : Nat) : Int))] ⟨rfl, rfl, trivial⟩ ?_
    refine VC.loop (I := fun kk ff ss => ∃ (i : Nat), kk = s.size - i ∧ ff = [(0, St s), (3, I ((i : Nat) : Int))] ∧ ss = [] ∧ (i ≤ s.size) ∧ (∀ k, k < i → byteB (byteE s k) k = true)) ?_ _ _ _ ⟨0, rfl, rfl, rfl, Nat.zero_le _, (by intro k hk; omega)⟩
    rintro kk ff ss ⟨i, hk0, rfl, rfl, hi, hq⟩
    refine VC.seq ?_
    refine VC.seq ?_
    refine VC.text ?_
    refine VO.c (.move rfl) ?_
    refine VO.c (.move rfl) ?_
    refine VO.r (.lenS) ?_
    refine VO.c (.lss) ?_
    refine VO.go ?_
    refine VC.condD rfl (fun c4 => ?_) (fun c4 => ?_)
    · refine VC.skip ?_
      show VC _ _ _ _ _ _ _ _
      refine VC.seq ?_
      refine VC.block ?_
      refine VC.seq ?_
      refine VC.text ?_
      refine VO.c (.move rfl) ?_
      refine VO.c (.move rfl) ?_
      refine VO.c (.ixS rfl rfl (by omega) (by omega)) ?_
      refine VO.c (.assign rfl) ?_
      refine VO.go ?_
      refine VC.seq ?_
      refine VC.seq ?_
      refine VC.join [(0, St s), (3, I ((i : Nat) : Int)), (4, .v (.int .u8) (byteE s ((i : Nat) : Int))), (35, B (letterB (byteE s i)))] [] ?_ ?_
      · skip
        refine VC.text ?_
        refine VO.c (.move rfl) ?_
        refine VO.c (.geq) ?_
        refine VO.c (.move rfl) ?_
        refine VO.splitD (x := 24) rfl (fun g7_2 => ?_) (fun g7_2 => ?_)
        · refine VO.c (.move rfl) ?_
          refine VO.c (.leq) ?_
          refine VO.c (.pickT rfl rfl) ?_
          refine VO.c (.move rfl) ?_
          refine VO.splitD (x := 28) rfl (fun g7_6 => ?_) (fun g7_6 => ?_)
          · refine VO.skip ?_
            refine VO.skip ?_
            refine VO.skip ?_
            refine VO.skip ?_
            refine VO.skip ?_
            refine VO.skip ?_
            refine VO.c (.pickT rfl rfl) ?_
            refine VO.nil ?_
            exact ⟨⟨rfl, rfl, rfl, slE rfl (by rw [Bool.eq_iff_iff]; simp [letterB] <;> omega), trivial⟩, rfl⟩
          · refine VO.c (.move rfl) ?_
            refine VO.c (.geq) ?_
            refine VO.c (.move rfl) ?_
            refine VO.cg (r := decide ((65 : Int) ≤ (byteE s ((i : Nat) : Int)))) (w := true) [] trivial (fun hgd => have g7_9 : (65 : Int) ≤ (byteE s ((i : Nat) : Int)) := (by simpa using hgd); (.move rfl)) ?_
            refine VO.cg (r := decide ((65 : Int) ≤ (byteE s ((i : Nat) : Int)))) (w := true) [(32, .v (.int .u8) (byteE s ((i : Nat) : Int)))] ⟨rfl, trivial⟩ (fun hgd => have g7_9 : (65 : Int) ≤ (byteE s ((i : Nat) : Int)) := (by simpa using hgd); (.leq)) ?_
            refine VO.c (.and) ?_
            refine VO.c (.pickF rfl rfl) ?_
            refine VO.nil ?_
            exact ⟨⟨rfl, rfl, rfl, slE rfl (by rw [Bool.eq_iff_iff]; simp [letterB] <;> omega), trivial⟩, rfl⟩
        · refine VO.skip ?_
          refine VO.skip ?_
          refine VO.c (.pickF rfl rfl) ?_
          refine VO.c (.move rfl) ?_
          refine VO.c (.move rfl) ?_
          refine VO.c (.geq) ?_
          refine VO.c (.move rfl) ?_
          refine VO.cg (r := decide ((65 : Int) ≤ (byteE s ((i : Nat) : Int)))) (w := true) [] trivial (fun hgd => have g7_9 : (65 : Int) ≤ (byteE s ((i : Nat) : Int)) := (by simpa using hgd); (.move rfl)) ?_
          refine VO.cg (r := decide ((65 : Int) ≤ (byteE s ((i : Nat) : Int)))) (w := true) [(32, .v (.int .u8) (byteE s ((i : Nat) : Int)))] ⟨rfl, trivial⟩ (fun hgd => have g7_9 : (65 : Int) ≤ (byteE s ((i : Nat) : Int)) := (by simpa using hgd); (.leq)) ?_
          refine VO.c (.and) ?_
          refine VO.c (.pickF rfl rfl) ?_
          refine VO.nil ?_
          exact ⟨⟨rfl, rfl, rfl, slE rfl (by rw [Bool.eq_iff_iff]; simp [letterB] <;> omega), trivial⟩, rfl⟩
      show VC _ _ _ _ _ _ _ _
      refine VC.condB rfl (fun c7 => ?_) (fun c7 => ?_)
      · have hok : byteB (byteE s i) i = true := by rw [byteB, c7] <;> rfl
        refine VC.exit ?_
        show VC _ _ _ _ _ _ _ _
        refine VC.text ?_
        refine VO.c (.move rfl) ?_
        refine VO.c (.add rfl rfl (by omega)) ?_
        refine VO.c (.assign rfl) ?_
        refine VO.nil ?_
        refine ⟨_, [(0, St s), (3, I (((i + 1) : Nat) : Int))], ?_, ⟨rfl, rfl, trivial⟩, (i + 1), rfl, rfl, rfl, (by omega), (by intro k hk; rcases Nat.lt_succ_iff_lt_or_eq.1 hk with h | h; exact hq k h; subst h; exact hok)⟩
        omega
      · refine VC.skip ?_
        show VC _ _ _ _ _ _ _ _
        refine VC.seq ?_
        refine VC.join [(0, St s), (3, I ((i : Nat) : Int)), (49, B (!(decide (i ≠ 0) && otherB (byteE s i))))] [] ?_ ?_
        · skip
          refine VC.text ?_
          refine VO.c (.move rfl) ?_
          refine VO.c (.eql) ?_
          refine VO.c (.move rfl) ?_
          refine VO.splitD (x := 38) rfl (fun g8_2 => ?_) (fun g8_2 => ?_)
          · refine VO.skip ?_
            refine VO.skip ?_
            refine VO.skip ?_
            refine VO.skip ?_
            refine VO.skip ?_
            refine VO.skip ?_
            refine VO.skip ?_
            refine VO.skip ?_
            refine VO.skip ?_
            refine VO.skip ?_
            refine VO.c (.pickT rfl rfl) ?_
            refine VO.nil ?_
            exact ⟨⟨rfl, rfl, slE rfl (by rw [Bool.eq_iff_iff]; simp [otherB] <;> omega), trivial⟩, rfl⟩
          · refine VO.c (.move rfl) ?_
            refine VO.c (.neq) ?_
            refine VO.c (.move rfl) ?_
            refine VO.splitD (x := 41) rfl (fun g8_5 => ?_) (fun g8_5 => ?_)
            · refine VO.c (.move rfl) ?_
              refine VO.c (.lss) ?_
              refine VO.c (.move rfl) ?_
              refine VO.cg (r := decide ((byteE s ((i : Nat) : Int)) < (48 : Int))) (w := false) [] trivial (fun hgd => have g8_8 : ¬ ((byteE s ((i : Nat) : Int)) < (48 : Int)) := (by simpa using hgd); (.move rfl)) ?_
              refine VO.cg (r := decide ((byteE s ((i : Nat) : Int)) < (48 : Int))) (w := false) [(45, .v (.int .u8) (byteE s ((i : Nat) : Int)))] ⟨rfl, trivial⟩ (fun hgd => have g8_8 : ¬ ((byteE s ((i : Nat) : Int)) < (48 : Int)) := (by simpa using hgd); (.gtr)) ?_
              refine VO.c (.or) ?_
              refine VO.c (.pickT rfl rfl) ?_
              refine VO.c (.pickF rfl rfl) ?_
              refine VO.nil ?_
              exact ⟨⟨rfl, rfl, slE rfl (by rw [Bool.eq_iff_iff]; simp [otherB] <;> omega), trivial⟩, rfl⟩
            · refine VO.skip ?_
              refine VO.skip ?_
              refine VO.skip ?_
              refine VO.skip ?_
              refine VO.skip ?_
              refine VO.skip ?_
              refine VO.c (.pickF rfl rfl) ?_
              refine VO.c (.pickF rfl rfl) ?_
              refine VO.nil ?_
              exact ⟨⟨rfl, rfl, slE rfl (by rw [Bool.eq_iff_iff]; simp [otherB] <;> omega), trivial⟩, rfl⟩
        show VC _ _ _ _ _ _ _ _
        refine VC.condB rfl (fun c8 => ?_) (fun c8 => ?_)
        · try simp only [Bool.and_eq_true, Bool.or_eq_true, Bool.and_eq_false_iff, Bool.or_eq_false_iff, Bool.not_eq_true', Bool.not_eq_false', decide_eq_true_eq, decide_eq_false_iff_not] at c8
          refine VC.seq ?_
          refine VC.text ?_
          refine VO.c (.assign rfl) ?_
          refine VO.go ?_
          refine VC.ret ?_
          exact VEnd.one rfl evT (pvE (by exact nameB_f (i := i) (by omega) (by simp only [byteB, c7, Bool.false_or, Bool.and_eq_false_iff, decide_eq_false_iff_not]; exact c8)))
        · try simp only [Bool.and_eq_true, Bool.or_eq_true, Bool.and_eq_false_iff, Bool.or_eq_false_iff, Bool.not_eq_true', Bool.not_eq_false', decide_eq_true_eq, decide_eq_false_iff_not] at c8
          have hok : byteB (byteE s i) i = true := by simp [byteB, *]
          refine VC.skip ?_
          show VC _ _ _ _ _ _ _ _
          refine VC.text ?_
          refine VO.c (.move rfl) ?_
          refine VO.c (.add rfl rfl (by omega)) ?_
          refine VO.c (.assign rfl) ?_
          refine VO.nil ?_
          refine ⟨_, [(0, St s), (3, I (((i + 1) : Nat) : Int))], ?_, ⟨rfl, rfl, trivial⟩, (i + 1), rfl, rfl, rfl, (by omega), (by intro k hk; rcases Nat.lt_succ_iff_lt_or_eq.1 hk with h | h; exact hq k h; subst h; exact hok)⟩
          omega
    · refine VC.exit ?_
      show VC _ _ _ _ _ _ _ _
      refine VC.seq ?_
      refine VC.text ?_
      refine VO.c (.assign rfl) ?_
      refine VO.go ?_
      refine VC.ret ?_
      exact VEnd.one rfl evT (pvE (by exact nameB_t (by omega) (by omega) (fun k hk => hq k (by omega))))
theorem rNameE_ok {s : ByteArray} : VF Tryz.prog OA 91 [St s] (I (whenE (!nameB s) 8)) := by
  refine VF.enter Tryz.func91 rfl (fun _ _ => rfl) rfl ?_
  show VC _ _ _ _ _ [(0, St s)] [] _
  refine VC.seq ?_
  refine VC.text ?_
  refine VO.c (.assign rfl) ?_
  refine VO.go ?_
  refine VC.seq ?_
  refine VC.seq ?_
  refine VC.text ?_
  refine VO.c (.move rfl) ?_
  refine VO.call rfl rfl (VF.call (rName_ok )) ?_
  refine VO.c (.not) ?_
  refine VO.go ?_
  refine VC.condB rfl (fun c1 => ?_) (fun c1 => ?_)
  · try simp only [Bool.and_eq_true, Bool.or_eq_true, Bool.and_eq_false_iff, Bool.or_eq_false_iff, Bool.not_eq_true', Bool.not_eq_false', decide_eq_true_eq, decide_eq_false_iff_not] at c1
    refine VC.seq ?_
    refine VC.text ?_
    refine VO.c (.assign rfl) ?_
    refine VO.go ?_
    refine VC.ret ?_
    exact VEnd.one rfl evT (pvI (by simp [whenE, *]))
  · try simp only [Bool.and_eq_true, Bool.or_eq_true, Bool.and_eq_false_iff, Bool.or_eq_false_iff, Bool.not_eq_true', Bool.not_eq_false', decide_eq_true_eq, decide_eq_false_iff_not] at c1
    refine VC.skip ?_
    show VC _ _ _ _ _ _ _ _
    refine VC.seq ?_
    refine VC.text ?_
    refine VO.c (.assign rfl) ?_
    refine VO.go ?_
    refine VC.ret ?_
    exact VEnd.one rfl evT (pvI (by simp [whenE, *]))
end Go.Proofs
namespace Go.Proofs
open Go.Fs
set_option linter.unusedVariables false
abbrev y29 : Ty := (.pair (.int .i64) (.int .i64))
theorem vt9 : ValT Tryz.prog 9 .str := valT_of (by kernel_rfl)
theorem vt29 : ValT Tryz.prog 29 y29 := valT_of (by kernel_rfl)
theorem el27 : ElT Tryz.prog 27 9 .str := elT_of (by kernel_rfl)
theorem gWhen_ok {c : Bool} {e : Int} : VF Tryz.prog OA 189 [B c, I e] (I (whenE c e)) := by
  refine VF.enter Tryz.func189 rfl (fun _ _ => rfl) rfl ?_
  show VC _ _ _ _ _ [(0, B c), (1, I e)] [] _
  refine VC.seq ?_
  refine VC.text ?_
  refine VO.c (.assign rfl) ?_
  refine VO.go ?_
  refine VC.seq ?_
  refine VC.seq ?_
  refine VC.text ?_
  refine VO.c (.move rfl) ?_
  refine VO.go ?_
  refine VC.condB rfl (fun c1 => ?_) (fun c1 => ?_)
  · subst c1
    refine VC.seq ?_
    refine VC.text ?_
    refine VO.c (.move rfl) ?_
    refine VO.c (.assign rfl) ?_
    refine VO.go ?_
    refine VC.ret ?_
    exact VEnd.one rfl evT (pvI (by rfl))
  · subst c1
    refine VC.skip ?_
    show VC _ _ _ _ _ _ _ _
    refine VC.seq ?_
    refine VC.text ?_
    refine VO.c (.assign rfl) ?_
    refine VO.go ?_
    refine VC.ret ?_
    exact VEnd.one rfl evT (pvI (by rfl))
/-! ## Spans -/
def spanE (p : Int × Int) : Int := if p.1 < 0 ∨ p.2 ≤ p.1 ∨ 100000 < p.2 then 14 else 0
theorem whenE_span {p : Int × Int} : whenE (decide (p.1 < 0) || decide (p.2 ≤ p.1) || decide (100000 < p.2)) 14 = spanE p := by
  unfold whenE spanE
  by_cases h1 : p.1 < 0 <;> by_cases h2 : p.2 ≤ p.1 <;> by_cases h3 : 100000 < p.2 <;> simp [h1, h2, h3]
theorem gSpan_ok {p : Int × Int} : VF Tryz.prog OA 154 [.v y29 p] (I (spanE p)) := by
  refine VF.enter Tryz.func154 rfl (fun _ _ => rfl) rfl ?_
  show VC _ _ _ _ _ [(0, .v y29 p)] [] _
  refine VC.seq ?_
  refine VC.text ?_
  refine VO.new (.box) ?_
  refine VO.c (.assign rfl) ?_
  refine VO.go ?_
  refine VC.seq ?_
  refine VC.text ?_
  refine VO.c (.fa (.l .o)) ?_
  refine VO.r (.ld vt3) ?_
  refine VO.c (.lss) ?_
  refine VO.c (.move rfl) ?_
  refine VO.cg (r := decide (p.1 < (0 : Int))) (w := false) [] trivial (fun hgd => have g1_3 : ¬ (p.1 < (0 : Int)) := (by simpa using hgd); (.fa (.l .o))) ?_
  refine VO.rg (r := decide (p.1 < (0 : Int))) (w := false) [(7, .p (.int .i64) p.1)] ⟨rfl, trivial⟩ (fun hgd => have g1_3 : ¬ (p.1 < (0 : Int)) := (by simpa using hgd); (.ld vt3)) ?_
  refine VO.cg (r := decide (p.1 < (0 : Int))) (w := false) [] trivial (fun hgd => have g1_3 : ¬ (p.1 < (0 : Int)) := (by simpa using hgd); (.fa (.r .o))) ?_
  refine VO.rg (r := decide (p.1 < (0 : Int))) (w := false) [(9, .p (.int .i64) p.2)] ⟨rfl, trivial⟩ (fun hgd => have g1_3 : ¬ (p.1 < (0 : Int)) := (by simpa using hgd); (.ld vt3)) ?_
  refine VO.cg (r := decide (p.1 < (0 : Int))) (w := false) [(8, I p.1), (10, I p.2)] ⟨rfl, rfl, trivial⟩ (fun hgd => have g1_3 : ¬ (p.1 < (0 : Int)) := (by simpa using hgd); (.geq)) ?_
  refine VO.c (.or) ?_
  refine VO.c (.move rfl) ?_
  refine VO.cg (r := ((decide (p.1 < (0 : Int))) || (decide (p.2 ≤ p.1)))) (w := false) [] trivial (fun hgd => have g1_10 : ((decide (p.1 < (0 : Int))) || (decide (p.2 ≤ p.1))) = false := (by simpa using hgd); (.fa (.r .o))) ?_
  refine VO.rg (r := ((decide (p.1 < (0 : Int))) || (decide (p.2 ≤ p.1)))) (w := false) [(14, .p (.int .i64) p.2)] ⟨rfl, trivial⟩ (fun hgd => have g1_10 : ((decide (p.1 < (0 : Int))) || (decide (p.2 ≤ p.1))) = false := (by simpa using hgd); (.ld vt3)) ?_
  refine VO.cg (r := ((decide (p.1 < (0 : Int))) || (decide (p.2 ≤ p.1)))) (w := false) [(15, I p.2)] ⟨rfl, trivial⟩ (fun hgd => have g1_10 : ((decide (p.1 < (0 : Int))) || (decide (p.2 ≤ p.1))) = false := (by simpa using hgd); (.gtr)) ?_
  refine VO.c (.or) ?_
  refine VO.call rfl rfl (VF.call (gWhen_ok )) ?_
  refine VO.c (.assign rfl) ?_
  refine VO.go ?_
  refine VC.ret ?_
  exact VEnd.one rfl evT (pvI (by exact whenE_span))
theorem sSpan_ok {p : Int × Int} : VF Tryz.prog OA 97 [.v y29 p] (I (spanE p)) := by
  refine VF.enter Tryz.func97 rfl (fun _ _ => rfl) rfl ?_
  show VC _ _ _ _ _ [(0, .v y29 p)] [] _
  refine VC.seq ?_
  refine VC.text ?_
  refine VO.new (.box) ?_
  refine VO.c (.assign rfl) ?_
  refine VO.go ?_
  refine VC.seq ?_
  refine VC.text ?_
  refine VO.r (.ld vt29) ?_
  refine VO.call rfl rfl (VF.call (gSpan_ok )) ?_
  refine VO.c (.neq) ?_
  refine VO.call rfl rfl (VF.call (sWhen_ok )) ?_
  refine VO.c (.assign rfl) ?_
  refine VO.go ?_
  refine VC.ret ?_
  exact VEnd.one rfl evT (pvI (by unfold whenE spanE; split <;> simp))
theorem rSpan_ok {p : Int × Int} : VF Tryz.prog OA 82 [.v y29 p] (I (spanE p)) := by
  refine VF.enter Tryz.func82 rfl (fun _ _ => rfl) rfl ?_
  show VC _ _ _ _ _ [(0, .v y29 p)] [] _
  refine VC.seq ?_
  refine VC.text ?_
  refine VO.new (.box) ?_
  refine VO.c (.assign rfl) ?_
  refine VO.go ?_
  refine VC.seq ?_
  refine VC.seq ?_
  refine VC.text ?_
  refine VO.c (.fa (.l .o)) ?_
  refine VO.r (.ld vt3) ?_
  refine VO.c (.lss) ?_
  refine VO.c (.move rfl) ?_
  refine VO.cg (r := decide (p.1 < (0 : Int))) (w := false) [] trivial (fun hgd => have g1_3 : ¬ (p.1 < (0 : Int)) := (by simpa using hgd); (.fa (.r .o))) ?_
  refine VO.rg (r := decide (p.1 < (0 : Int))) (w := false) [(7, .p (.int .i64) p.2)] ⟨rfl, trivial⟩ (fun hgd => have g1_3 : ¬ (p.1 < (0 : Int)) := (by simpa using hgd); (.ld vt3)) ?_
  refine VO.cg (r := decide (p.1 < (0 : Int))) (w := false) [] trivial (fun hgd => have g1_3 : ¬ (p.1 < (0 : Int)) := (by simpa using hgd); (.fa (.l .o))) ?_
  refine VO.rg (r := decide (p.1 < (0 : Int))) (w := false) [(9, .p (.int .i64) p.1)] ⟨rfl, trivial⟩ (fun hgd => have g1_3 : ¬ (p.1 < (0 : Int)) := (by simpa using hgd); (.ld vt3)) ?_
  refine VO.cg (r := decide (p.1 < (0 : Int))) (w := false) [(8, I p.2), (10, I p.1)] ⟨rfl, rfl, trivial⟩ (fun hgd => have g1_3 : ¬ (p.1 < (0 : Int)) := (by simpa using hgd); (.leq)) ?_
  refine VO.c (.or) ?_
  refine VO.c (.move rfl) ?_
  refine VO.cg (r := ((decide (p.1 < (0 : Int))) || (decide (p.2 ≤ p.1)))) (w := false) [] trivial (fun hgd => have g1_10 : ((decide (p.1 < (0 : Int))) || (decide (p.2 ≤ p.1))) = false := (by simpa using hgd); (.fa (.r .o))) ?_
  refine VO.rg (r := ((decide (p.1 < (0 : Int))) || (decide (p.2 ≤ p.1)))) (w := false) [(14, .p (.int .i64) p.2)] ⟨rfl, trivial⟩ (fun hgd => have g1_10 : ((decide (p.1 < (0 : Int))) || (decide (p.2 ≤ p.1))) = false := (by simpa using hgd); (.ld vt3)) ?_
  refine VO.cg (r := ((decide (p.1 < (0 : Int))) || (decide (p.2 ≤ p.1)))) (w := false) [(15, I p.2)] ⟨rfl, trivial⟩ (fun hgd => have g1_10 : ((decide (p.1 < (0 : Int))) || (decide (p.2 ≤ p.1))) = false := (by simpa using hgd); (.gtr)) ?_
  refine VO.c (.or) ?_
  refine VO.go ?_
  refine VC.condB rfl (fun c1 => ?_) (fun c1 => ?_)
  · try simp only [Bool.and_eq_true, Bool.or_eq_true, Bool.and_eq_false_iff, Bool.or_eq_false_iff, Bool.not_eq_true', Bool.not_eq_false', decide_eq_true_eq, decide_eq_false_iff_not] at c1
    refine VC.seq ?_
    refine VC.text ?_
    refine VO.c (.assign rfl) ?_
    refine VO.go ?_
    refine VC.ret ?_
    exact VEnd.one rfl evT (pvI (by simp only [spanE, ← Bool.decide_or, decide_eq_true_eq, decide_eq_false_iff_not, Bool.or_eq_true, Bool.or_eq_false_iff] at *; first | rw [if_pos (by omega)] | rw [if_neg (by omega)]))
  · try simp only [Bool.and_eq_true, Bool.or_eq_true, Bool.and_eq_false_iff, Bool.or_eq_false_iff, Bool.not_eq_true', Bool.not_eq_false', decide_eq_true_eq, decide_eq_false_iff_not] at c1
    refine VC.skip ?_
    show VC _ _ _ _ _ _ _ _
    refine VC.seq ?_
    refine VC.text ?_
    refine VO.c (.assign rfl) ?_
    refine VO.go ?_
    refine VC.ret ?_
    exact VEnd.one rfl evT (pvI (by simp only [spanE, ← Bool.decide_or, decide_eq_true_eq, decide_eq_false_iff_not, Bool.or_eq_true, Bool.or_eq_false_iff] at *; first | rw [if_pos (by omega)] | rw [if_neg (by omega)]))
theorem sNm_ok {s : ByteArray} : VF Tryz.prog OA 93 [St s] (I (whenE (!nameB s) 8)) := by
  refine VF.enter Tryz.func93 rfl (fun _ _ => rfl) rfl ?_
  show VC _ _ _ _ _ [(0, St s)] [] _
  refine VC.seq ?_
  refine VC.text ?_
  refine VO.c (.assign rfl) ?_
  refine VO.go ?_
  refine VC.seq ?_
  refine VC.text ?_
  refine VO.c (.move rfl) ?_
  refine VO.call rfl rfl (VF.call (gName_ok )) ?_
  refine VO.c (.not) ?_
  refine VO.call rfl rfl (VF.call (sWhen_ok )) ?_
  refine VO.c (.assign rfl) ?_
  refine VO.go ?_
  refine VC.ret ?_
  exact VEnd.one rfl evT (pvI (by rfl))
/-! ## The first error of a list, by a check that remembers something -/
def wst {α β : Type} (e : β → α → Int) (nx : β → α → β) : β → List α → Int × β
  | s, [] => (0, s)
  | s, x :: r => if e s x = 0 then wst e nx (nx s x) r else (e s x, nx s x)
theorem wst_drop {α β : Type} {e : β → α → Int} {nx : β → α → β} {s : β} {l : List α} {j : Nat} (hj : j < l.length) : wst e nx s (l.drop j) = if e s l[j] = 0 then wst e nx (nx s l[j]) (l.drop (j + 1)) else (e s l[j], nx s l[j]) := by
  rw [List.drop_eq_getElem_cons hj] <;> rfl
theorem wst_end {α β : Type} {e : β → α → Int} {nx : β → α → β} {s : β} {l : List α} {j : Nat} (hj : l.length ≤ j) : wst e nx s (l.drop j) = (0, s) := by rw [List.drop_eq_nil_of_le hj] <;> rfl
theorem sWorstG {l : List ByteArray} {f : PV} {β : Type} {e : β → ByteArray → Int} {nx : β → ByteArray → β} {γ : β → Sto} {s0 : β} (hl : l.length < 1000000) (hown : ∀ s, own (γ s) = own (γ s0)) (hflat : ∀ s, ((γ s).all fun c => c.2.flat) = true)
    (hf : ∀ s x, VCallG Tryz.prog OA f [.v .str x] (γ s) (fun r g => r = I (e s x) ∧ g = γ (nx s x))) : VFG Tryz.prog OA 96 [.v (.sl .str) l, f] (γ s0) (fun r g => r = I (wst e nx s0 l).1 ∧ g = γ (wst e nx s0 l).2) := by
  refine VFG.enter Tryz.func96 rfl (fun _ _ => rfl) rfl ?_
  show VC _ _ _ _ _ [(0, .v (.sl .str) l), (1, f)] _ _
  refine VC.seq ?_
  refine VC.text ?_
  refine VO.c (.assign rfl) ?_
  refine VO.go ?_
  refine VC.seq ?_
  refine VC.seq ?_
  refine VC.text ?_
  refine VO.c (.move rfl) ?_
  refine VO.r (.len el27) ?_
  refine VO.c (.move rfl) ?_
  refine VO.go ?_
  refine VC.block ?_
  refine VC.keep [(1, f), (8, .v (.sl .str) l), (9, I ((l.length : Nat) : Int)), (10, I ((0 : Nat) : Int))] ⟨rfl, rfl, rfl, rfl, trivial⟩ ?_
  refine VC.loop (I := fun kk ff ss => ∃ (j : Nat) (s : β), kk = l.length - j ∧ ff = [(1, f), (8, .v (.sl .str) l), (9, I ((l.length : Nat) : Int)), (10, I ((j : Nat) : Int))] ∧ ss = γ s ∧ (j ≤ l.length) ∧ (wst e nx s0 l = wst e nx s (l.drop j))) ?_ _ _ _ ⟨0, s0, rfl, rfl, rfl, Nat.zero_le _, rfl⟩
  rintro kk ff ss ⟨j, s, hk0, rfl, rfl, hj, hw⟩
  refine VC.seq ?_
  refine VC.text ?_
  refine VO.c (.lss) ?_
  refine VO.go ?_
  refine VC.seq ?_
  refine VC.condD rfl (fun c2 => ?_) (fun c2 => ?_)
  · refine VC.skip ?_
    show VC _ _ _ _ _ _ _ _
    refine VC.seq ?_
    refine VC.block ?_
    refine VC.seq ?_
    refine VC.text ?_
    refine VO.c (.ix (j := j) rfl rfl el27 (by omega)) ?_
    refine VO.r (.ld vt9) ?_
    refine VO.c (.assign rfl) ?_
    refine VO.go ?_
    refine VC.seq ?_
    refine VC.text ?_
    refine VO.c (.move rfl) ?_
    refine VO.c (.move rfl) ?_
    refine VO.callG (γ s) (List.append_nil _) rfl rfl (hf s _) ?_
    rintro r g ⟨rfl, rfl⟩
    rw [List.append_nil]
    refine VO.c (.assign rfl) ?_
    refine VO.go ?_
    refine VC.seq ?_
    refine VC.text ?_
    refine VO.c (.move rfl) ?_
    refine VO.c (.neq) ?_
    refine VO.go ?_
    rw [wst_drop (by omega)] at hw
    refine VC.condD rfl (fun c5 => ?_) (fun c5 => ?_)
    · rw [if_neg c5] at hw
      refine VC.seq ?_
      refine VC.text ?_
      refine VO.c (.move rfl) ?_
      refine VO.c (.assign rfl) ?_
      refine VO.go ?_
      refine VC.ret ?_
      refine VEndG.one (P := Tryz.prog) (fn := Tryz.f96) (γ := γ s0) (Q := fun r g => r = I (wst e nx s0 l).1 ∧ g = γ (wst e nx s0 l).2) rfl evT ?_ (hown _) (hflat _)
      exact ⟨by rw [hw], by rw [hw]⟩
    · rw [if_pos (by simpa using c5)] at hw
      refine VC.skip ?_
      show VC _ _ _ _ _ _ _ _
      refine VC.text ?_
      refine VO.c (.add rfl rfl (by omega)) ?_
      refine VO.c (.move rfl) ?_
      refine VO.nil ?_
      refine ⟨_, [(1, f), (8, .v (.sl .str) l), (9, I ((l.length : Nat) : Int)), (10, I (((j + 1) : Nat) : Int))], ?_, ⟨rfl, rfl, rfl, rfl, trivial⟩, (j + 1), _, rfl, rfl, rfl, (by omega), hw⟩
      omega
  · rw [wst_end (by omega)] at hw
    refine VC.exit ?_
    show VC _ _ _ _ _ _ _ _
    refine VC.seq ?_
    refine VC.text ?_
    refine VO.c (.assign rfl) ?_
    refine VO.go ?_
    refine VC.ret ?_
    refine VEndG.one (P := Tryz.prog) (fn := Tryz.f96) (γ := γ s0) (Q := fun r g => r = I (wst e nx s0 l).1 ∧ g = γ (wst e nx s0 l).2) rfl evT ?_ (hown _) (hflat _)
    exact ⟨by rw [hw], by rw [hw]⟩
end Go.Proofs
namespace Go.Proofs
open Go.Fs
set_option linter.unusedVariables false
abbrev y31 : Ty := (.pair .str (.pair .str (.pair .str (.pair (.sl .str) (.pair (.int .i64) (.int .i64))))))
abbrev y35 : Ty := (.pair .str (.pair .str (.pair .str (.pair (.sl .str) (.pair (.int .i64) (.int .i64))))))
theorem vt27 : ValT Tryz.prog 27 (.sl .str) := valT_of (by kernel_rfl)
theorem zt9 : ZerT Tryz.prog 9 .str := zerT_of (z := .string ByteArray.empty) (by kernel_rfl) rfl rfl
/-! ## Permits -/
def lockE (last s : ByteArray) : Int := firstE [whenE (!nameB s) 8, whenE (!ltS last s) 11]
theorem sLock_ok {s : ByteArray} {w_last : Value} {last : ByteArray} : VFG Tryz.prog OA 95 [St s, .raw w_last] [(w_last, .var [St last])] (fun r g => r = I (lockE last s) ∧ g = [(w_last, .var [St s])]) := by
  refine VFG.enter Tryz.func95 rfl (fun _ _ => rfl) rfl ?_
  show VC _ _ _ _ _ [(0, St s), (1, .raw w_last)] [(w_last, .var [St last])] _
  refine VC.seq ?_
  refine VC.text ?_
  refine VO.c (.assign rfl) ?_
  refine VO.go ?_
  refine VC.seq ?_
  refine VC.drawn ?_
  refine VD.c (.move rfl) ?_
  refine VD.call rfl rfl (VF.call (sNm_ok )) ?_
  refine VD.c (.move rfl) ?_
  refine VD.r [(w_last, .var [St last])] (.ldV m0 vt9) (.inr ⟨rfl, rfl⟩) ?_
  refine VD.c (.sleq) ?_
  refine VD.call rfl rfl (VF.call (sWhen_ok )) ?_
  refine VD.nw [] ?_
  refine VD.new (.lit [whenE (!nameB s) 8, whenE (!ltS last s) (11 : Int)] el204) ?_
  refine VD.callO rfl rfl (VF.call (sFirst_ok (by simp))) ?_
  refine VD.c (.assign rfl) ?_
  refine VD.go ?_
  refine VC.seq ?_
  refine VC.text ?_
  refine VO.c (.move rfl) ?_
  refine VO.setV (cs' := [St s]) vt9 .v ?_
  refine VO.go ?_
  refine VC.seq ?_
  refine VC.text ?_
  refine VO.c (.move rfl) ?_
  refine VO.c (.assign rfl) ?_
  refine VO.go ?_
  refine VC.ret ?_
  refine VEndG.one (P := Tryz.prog) (fn := Tryz.f95) (γ := [(w_last, .var [St last])]) (Q := fun r g => r = I (lockE last s) ∧ g = [(w_last, .var [St s])]) rfl evT ?_ rfl rfl
  exact ⟨pvI (by rfl), by rfl⟩
def locksE (last : ByteArray) (l : List ByteArray) : Int := (wst lockE (fun _ s => s) last l).1
def permE (p : ByteArray × ByteArray × ByteArray × List ByteArray × Int × Int) : Int :=
  firstE [whenE (!nameB p.1) 8, whenE (!nameB p.2.1) 8, whenE (!nameB p.2.2.1) 8, whenE (decide (8 < (p.2.2.2.1.length : Int))) 5, locksE ByteArray.empty p.2.2.2.1, spanE p.2.2.2.2]
theorem firstE_app : ∀ xs ys : List Int, firstE (xs ++ ys) = if firstE xs = 0 then firstE ys else firstE xs
  | [], ys => by simp [firstE]
  | x :: xs, ys => by
    have e1 : firstE (x :: xs ++ ys) = if x = 0 then firstE (xs ++ ys) else x := rfl
    have e2 : firstE (x :: xs) = if x = 0 then firstE xs else x := rfl
    by_cases h : x = 0
    · rw [if_pos h] at e1 e2
      rw [e1, e2]
      exact firstE_app xs ys
    · rw [if_neg h] at e1 e2
      rw [e1, e2, if_neg h]
variable {p : ByteArray × ByteArray × ByteArray × List ByteArray × Int × Int}
theorem firstE_one {x : Int} : firstE [x] = x := by
  simp only [firstE]
  by_cases h : x = 0 <;> simp [h]
theorem firstE_two {x y : Int} : firstE [x, y] = if x = 0 then y else x := by
  show (if x = 0 then firstE [y] else x) = _
  rw [firstE_one]
theorem permE_s {a b c d : Int} (ha : a = whenE (!nameB p.1) 8) (hb : b = whenE (!nameB p.2.1) 8) (hc : c = whenE (!nameB p.2.2.1) 8) (hd : d = whenE (decide (8 < (p.2.2.2.1.length : Int))) 5) :
    permE p = if firstE [a, b, c, d] = 0 then (if locksE ByteArray.empty p.2.2.2.1 = 0 then spanE p.2.2.2.2 else locksE ByteArray.empty p.2.2.2.1) else firstE [a, b, c, d] := by
  subst ha hb hc hd
  show firstE ([_, _, _, _] ++ [_, _]) = _
  rw [firstE_app, firstE_two]
theorem permE_r {a b c : Int} (ha : a = whenE (!nameB p.1) 8) (hb : b = whenE (!nameB p.2.1) 8) (hc : c = whenE (!nameB p.2.2.1) 8) :
    permE p = if firstE [a, b, c] = 0 then (if 8 < (p.2.2.2.1.length : Int) then 5 else if locksE ByteArray.empty p.2.2.2.1 = 0 then spanE p.2.2.2.2 else locksE ByteArray.empty p.2.2.2.1) else firstE [a, b, c] := by
  rw [permE_s ha hb hc rfl, show firstE [a, b, c, whenE (decide (8 < (p.2.2.2.1.length : Int))) 5] = firstE ([a, b, c] ++ [whenE (decide (8 < (p.2.2.2.1.length : Int))) 5]) from rfl, firstE_app, firstE_one]
  generalize firstE [a, b, c] = F
  by_cases h1 : F = 0 <;> by_cases h2 : 8 < (p.2.2.2.1.length : Int) <;> simp [h1, h2, whenE]
def prevL (l : List ByteArray) (i : Nat) : ByteArray := if i = 0 then ByteArray.empty else l.getD (i - 1) ByteArray.empty
theorem prevL_succ {l : List ByteArray} {i : Nat} (hi : i < l.length) : prevL l (i + 1) = l[i] := by simp [prevL, hi]
theorem prevL_pos {l : List ByteArray} {i : Nat} (h0 : i ≠ 0) (hi : i - 1 < l.length) : prevL l i = l[i - 1] := by simp [prevL, h0, hi]
theorem prevL_int {l : List ByteArray} {i : Nat} (h0 : 0 < (i : Int)) (h : ((i : Int) - 1).toNat < l.length) : prevL l i = l[((i : Int) - 1).toNat] := by
  rw [prevL_pos (by omega) (by omega)]
  simp only [show ((i : Int) - 1).toNat = i - 1 by omega]
theorem locksE_drop {last : ByteArray} {l : List ByteArray} {i : Nat} (hi : i < l.length) : locksE last (l.drop i) = if lockE last l[i] = 0 then locksE l[i] (l.drop (i + 1)) else lockE last l[i] := by
  unfold locksE
  rw [wst_drop hi]
  by_cases h : lockE last l[i] = 0 <;> simp [h]
theorem locksE_end {last : ByteArray} {l : List ByteArray} {i : Nat} (hi : l.length ≤ i) : locksE last (l.drop i) = 0 := by
  unfold locksE
  rw [wst_end hi]
theorem lockE_name {last s : ByteArray} (h : nameB s = false) : lockE last s = 8 := by simp [lockE, h, whenE, firstE]
theorem lockE_ord {last s : ByteArray} (h : nameB s = true) : lockE last s = if ltS last s = true then 0 else 11 := by
  cases h2 : ltS last s <;> simp [lockE, h, h2, whenE, firstE]
theorem nameB_size {s : ByteArray} (h : nameB s = true) : s.size ≠ 0 := (of_decide_eq_true h).1
theorem nameE_name {s : ByteArray} (h : whenE (!nameB s) 8 ≠ 0) : nameB s = false := by
  cases h2 : nameB s with
  | false => rfl
  | true => rw [h2] at h; exact absurd rfl h
theorem nameE_ok {s : ByteArray} (h : whenE (!nameB s) 8 = 0) : nameB s = true := by
  cases h2 : nameB s with
  | true => rfl
  | false => rw [h2] at h; cases h
theorem sPermit_ok {p : ByteArray × ByteArray × ByteArray × (List ByteArray) × (Int × Int)} (hl : p.2.2.2.1.length < 1000000) : VF Tryz.prog OA 22 [.v y35 p] (I (permE p)) := by
  refine VF.enter Tryz.func22 rfl (fun _ _ => rfl) rfl ?_
  show VC _ _ _ _ _ [(0, .v y35 p)] [] _
  refine VC.seq ?_
  refine VC.text ?_
  refine VO.new (.box) ?_
  refine VO.c (.assign rfl) ?_
  refine VO.go ?_
  refine VC.seq ?_
  refine VC.seq ?_
  refine VC.drawn ?_
  refine VD.c (.fa (.l .o)) ?_
  refine VD.r [] (.ld vt9) (.inl rfl) ?_
  refine VD.call rfl rfl (VF.call (sNm_ok )) ?_
  refine VD.c (.fa (.r (.l .o))) ?_
  refine VD.r [] (.ld vt9) (.inl rfl) ?_
  refine VD.call rfl rfl (VF.call (sNm_ok )) ?_
  refine VD.nw [] ?_
  refine VD.c (.fa (.r (.r (.l .o)))) ?_
  refine VD.r [] (.ld vt9) (.inl rfl) ?_
  refine VD.call rfl rfl (VF.call (sNm_ok )) ?_
  refine VD.c (.fa (.r (.r (.r (.l .o))))) ?_
  refine VD.r [] (.ld vt27) (.inl rfl) ?_
  refine VD.r [] (.len el27) (.inl rfl) ?_
  refine VD.c (.gtr) ?_
  refine VD.nw [] ?_
  refine VD.call rfl rfl (VF.call (sWhen_ok )) ?_
  refine VD.new (.lit [whenE (!nameB p.1) 8, whenE (!nameB p.2.1) 8, whenE (!nameB p.2.2.1) 8, whenE (decide ((8 : Int) < ((p.2.2.2.1.length : Nat) : Int))) (5 : Int)] el204) ?_
  refine VD.callO rfl rfl (VF.call (sFirst_ok (by simp))) ?_
  refine VD.c (.assign rfl) ?_
  refine VD.go ?_
  refine VC.seq ?_
  refine VC.text ?_
  refine VO.c (.move rfl) ?_
  refine VO.c (.neq) ?_
  refine VO.go ?_
  refine VC.condD rfl (fun c2 => ?_) (fun c2 => ?_)
  · refine VC.seq ?_
    refine VC.text ?_
    refine VO.c (.move rfl) ?_
    refine VO.c (.assign rfl) ?_
    refine VO.go ?_
    refine VC.ret ?_
    exact VEnd.one rfl evT (pvI (by rw [permE_s rfl rfl rfl rfl, if_neg c2]))
  · refine VC.skip ?_
    show VC _ _ _ _ _ _ _ _
    refine VC.seq ?_
    refine VC.text ?_
    refine VO.cell (.alloc zt9) ?_
    intro ww1
    refine VO.setV (cs' := [St ByteArray.empty]) vt9 .v ?_
    refine VO.go ?_
    refine VC.seq ?_
    refine VC.text ?_
    refine VO.c (.func) ?_
    refine VO.c (.assign rfl) ?_
    refine VO.go ?_
    refine VC.seq ?_
    refine VC.seq ?_
    refine VC.text ?_
    refine VO.c (.fa (.r (.r (.r (.l .o))))) ?_
    refine VO.r (.ld vt27) ?_
    refine VO.c (.move rfl) ?_
    refine VO.callG [(ww1, .var [St ByteArray.empty])] rfl rfl rfl (VFG.call (sWorstG (e := lockE) (nx := fun _ s => s) (γ := fun s => [(ww1, .var [St s])]) (s0 := ByteArray.empty) hl (fun _ => rfl) (fun _ => rfl) (fun s x => VFG.clo sLock_ok))) ?_
    rintro _ _ ⟨rfl, rfl⟩
    show VO _ _ _ _ _ _ [(ww1, .var [St ((wst lockE (fun _ s => s) ByteArray.empty p.2.2.2.1).2)])] _
    refine VO.c (.assign rfl) ?_
    refine VO.go ?_
    refine VC.seq ?_
    refine VC.text ?_
    refine VO.c (.move rfl) ?_
    refine VO.c (.neq) ?_
    refine VO.go ?_
    refine VC.condD rfl (fun c7 => ?_) (fun c7 => ?_)
    · refine VC.seq ?_
      refine VC.keep [(1, .p y35 p), (6, I (locksE ByteArray.empty p.2.2.2.1))] ⟨rfl, rfl, trivial⟩ ?_
      refine VC.text ?_
      refine VO.c (.move rfl) ?_
      refine VO.c (.assign rfl) ?_
      refine VO.go ?_
      refine VC.ret ?_
      exact VEnd.one rfl evT (pvI (by rw [permE_s rfl rfl rfl rfl, if_pos (by simpa using c2), if_neg (show locksE _ _ ≠ 0 from c7)]))
    · refine VC.skip ?_
      show VC _ _ _ _ _ _ _ _
      refine VC.seq ?_
      refine VC.keep [(1, .p y35 p)] ⟨rfl, trivial⟩ ?_
      refine VC.text ?_
      refine VO.c (.fa (.r (.r (.r (.r .o))))) ?_
      refine VO.r (.ld vt29) ?_
      refine VO.call rfl rfl (VF.call (sSpan_ok )) ?_
      refine VO.c (.assign rfl) ?_
      refine VO.go ?_
      refine VC.ret ?_
      exact VEnd.one rfl evT (pvI (by rw [permE_s rfl rfl rfl rfl, if_pos (by simpa using c2), if_pos (show locksE _ _ = 0 from Decidable.not_not.1 c7)]))
theorem rPermit_ok {p : ByteArray × ByteArray × ByteArray × (List ByteArray) × (Int × Int)} (hl : p.2.2.2.1.length < 1000000) : VF Tryz.prog OA 20 [.v y31 p] (I (permE p)) := by
  refine VF.enter Tryz.func20 rfl (fun _ _ => rfl) rfl ?_
  show VC _ _ _ _ _ [(0, .v y31 p)] [] _
  refine VC.seq ?_
  refine VC.text ?_
  refine VO.new (.box) ?_
  refine VO.c (.assign rfl) ?_
  refine VO.go ?_
  refine VC.seq ?_
  refine VC.seq ?_
  refine VC.drawn ?_
  refine VD.c (.fa (.l .o)) ?_
  refine VD.r [] (.ld vt9) (.inl rfl) ?_
  refine VD.call rfl rfl (VF.call (rNameE_ok )) ?_
  refine VD.c (.fa (.r (.l .o))) ?_
  refine VD.r [] (.ld vt9) (.inl rfl) ?_
  refine VD.call rfl rfl (VF.call (rNameE_ok )) ?_
  refine VD.nw [] ?_
  refine VD.c (.fa (.r (.r (.l .o)))) ?_
  refine VD.r [] (.ld vt9) (.inl rfl) ?_
  refine VD.call rfl rfl (VF.call (rNameE_ok )) ?_
  refine VD.new (.lit [whenE (!nameB p.1) 8, whenE (!nameB p.2.1) 8, whenE (!nameB p.2.2.1) 8] el39) ?_
  refine VD.callO rfl rfl (VF.call (rFirst_ok (by simp))) ?_
  refine VD.c (.assign rfl) ?_
  refine VD.go ?_
  refine VC.seq ?_
  refine VC.text ?_
  refine VO.c (.move rfl) ?_
  refine VO.c (.neq) ?_
  refine VO.go ?_
  refine VC.condD rfl (fun c2 => ?_) (fun c2 => ?_)
  · refine VC.seq ?_
    refine VC.text ?_
    refine VO.c (.move rfl) ?_
    refine VO.c (.assign rfl) ?_
    refine VO.go ?_
    refine VC.ret ?_
    exact VEnd.one rfl evT (pvI (by rw [permE_r rfl rfl rfl, if_neg c2]))
  · refine VC.skip ?_
    show VC _ _ _ _ _ _ _ _
    refine VC.seq ?_
    refine VC.seq ?_
    refine VC.text ?_
    refine VO.c (.fa (.r (.r (.r (.l .o))))) ?_
    refine VO.r (.ld vt27) ?_
    refine VO.r (.len el27) ?_
    refine VO.c (.gtr) ?_
    refine VO.go ?_
    refine VC.condD rfl (fun c4 => ?_) (fun c4 => ?_)
    · refine VC.seq ?_
      refine VC.text ?_
      refine VO.c (.assign rfl) ?_
      refine VO.go ?_
      refine VC.ret ?_
      exact VEnd.one rfl evT (pvI (by rw [permE_r rfl rfl rfl, if_pos (by simpa using c2), if_pos c4]))
    · have hp : permE p = if locksE ByteArray.empty p.2.2.2.1 = 0 then spanE p.2.2.2.2 else locksE ByteArray.empty p.2.2.2.1 := by rw [permE_r rfl rfl rfl, if_pos (by simpa using c2), if_neg c4]
      refine VC.skip ?_
      show VC _ _ _ _ _ _ _ _
      refine VC.seq ?_
      refine VC.seq ?_
      refine VC.text ?_
      refine VO.c (.assign rfl) ?_
      refine VO.go ?_
      refine VC.block ?_
      refine VC.keep [(1, .p y31 p), (4, I ((0 : Nat) : Int))] ⟨rfl, rfl, trivial⟩ ?_
      refine VC.loop (I := fun kk ff ss => ∃ (i : Nat), kk = p.2.2.2.1.length - i ∧ ff = [(1, .p y31 p), (4, I ((i : Nat) : Int))] ∧ ss = [] ∧ (i ≤ p.2.2.2.1.length) ∧ (locksE ByteArray.empty p.2.2.2.1 = locksE (prevL p.2.2.2.1 i) (p.2.2.2.1.drop i))) ?_ _ _ _ ⟨0, rfl, rfl, rfl, Nat.zero_le _, (by rfl)⟩
      rintro kk ff ss ⟨i, hk0, rfl, rfl, hi, hq⟩
      refine VC.seq ?_
      refine VC.seq ?_
      refine VC.text ?_
      refine VO.c (.move rfl) ?_
      refine VO.c (.fa (.r (.r (.r (.l .o))))) ?_
      refine VO.r (.ld vt27) ?_
      refine VO.r (.len el27) ?_
      refine VO.c (.lss) ?_
      refine VO.go ?_
      refine VC.condD rfl (fun c7 => ?_) (fun c7 => ?_)
      · refine VC.skip ?_
        show VC _ _ _ _ _ _ _ _
        refine VC.seq ?_
        refine VC.block ?_
        refine VC.seq ?_
        refine VC.seq ?_
        refine VC.text ?_
        refine VO.c (.fa (.r (.r (.r (.l .o))))) ?_
        refine VO.r (.ld vt27) ?_
        refine VO.c (.move rfl) ?_
        refine VO.c (.ix (j := i) rfl rfl el27 (by omega)) ?_
        refine VO.r (.ld vt9) ?_
        refine VO.call rfl rfl (VF.call (rNameE_ok )) ?_
        refine VO.c (.assign rfl) ?_
        refine VO.go ?_
        refine VC.seq ?_
        refine VC.text ?_
        refine VO.c (.move rfl) ?_
        refine VO.c (.neq) ?_
        refine VO.go ?_
        refine VC.condD rfl (fun c10 => ?_) (fun c10 => ?_)
        · have hv : locksE ByteArray.empty p.2.2.2.1 = 8 := by rw [hq, locksE_drop (by omega), lockE_name (nameE_name c10), if_neg (by decide)]
          refine VC.seq ?_
          refine VC.text ?_
          refine VO.c (.move rfl) ?_
          refine VO.c (.assign rfl) ?_
          refine VO.go ?_
          refine VC.ret ?_
          exact VEnd.one rfl evT (pvI (by rw [hp, hv, if_neg (by decide)]; rw [nameE_name c10] <;> rfl))
        · have hn := nameE_ok (by simpa using c10)
          refine VC.skip ?_
          show VC _ _ _ _ _ _ _ _
          refine VC.seq ?_
          refine VC.drawn ?_
          refine VD.c (.move rfl) ?_
          refine VD.c (.gtr) ?_
          refine VD.c (.move rfl) ?_
          refine VD.splitD (x := 42) rfl (fun g12_2 => ?_) (fun g12_2 => ?_)
          · refine VD.c (.fa (.r (.r (.r (.l .o))))) ?_
            refine VD.r [] (.ld vt27) (.inl rfl) ?_
            refine VD.nw [] ?_
            refine VD.c (.move rfl) ?_
            refine VD.c (.ix (j := i) rfl rfl el27 (by omega)) ?_
            refine VD.r [] (.ld vt9) (.inl rfl) ?_
            refine VD.c (.fa (.r (.r (.r (.l .o))))) ?_
            refine VD.r [] (.ld vt27) (.inl rfl) ?_
            refine VD.c (.move rfl) ?_
            refine VD.c (.sub rfl rfl (by omega)) ?_
            refine VD.nw [] ?_
            refine VD.c (.ixZ (k := (((i : Nat) : Int) - (1 : Int))) rfl rfl el27 (by omega) (by omega)) ?_
            refine VD.r [] (.ld vt9) (.inl rfl) ?_
            refine VD.c (.sleq) ?_
            refine VD.c (.pickT rfl rfl) ?_
            refine VD.go ?_
            refine VC.condB rfl (fun c12 => ?_) (fun c12 => ?_)
            · try simp only [Bool.and_eq_true, Bool.or_eq_true, Bool.and_eq_false_iff, Bool.or_eq_false_iff, Bool.not_eq_true', Bool.not_eq_false', decide_eq_true_eq, decide_eq_false_iff_not] at c12
              refine VC.seq ?_
              refine VC.text ?_
              refine VO.c (.assign rfl) ?_
              refine VO.go ?_
              refine VC.ret ?_
              exact VEnd.one rfl evT (pvI (by rw [hp, hq, locksE_drop (by omega), lockE_ord hn, prevL_int g12_2 (by omega), c12] <;> rfl))
            · try simp only [Bool.and_eq_true, Bool.or_eq_true, Bool.and_eq_false_iff, Bool.or_eq_false_iff, Bool.not_eq_true', Bool.not_eq_false', decide_eq_true_eq, decide_eq_false_iff_not] at c12
              have hz : lockE (prevL p.2.2.2.1 i) p.2.2.2.1[i] = 0 := by rw [lockE_ord hn, prevL_int g12_2 (by omega), c12] <;> rfl
              refine VC.skip ?_
              show VC _ _ _ _ _ _ _ _
              refine VC.text ?_
              refine VO.c (.move rfl) ?_
              refine VO.c (.add rfl rfl (by omega)) ?_
              refine VO.c (.assign rfl) ?_
              refine VO.nil ?_
              refine ⟨_, [(1, .p y31 p), (4, I (((i + 1) : Nat) : Int))], ?_, ⟨rfl, rfl, trivial⟩, (i + 1), rfl, rfl, rfl, (by omega), (by rw [hq, locksE_drop (by omega), if_pos hz, prevL_succ (by omega)])⟩
              omega
          · have hz : lockE (prevL p.2.2.2.1 i) p.2.2.2.1[i] = 0 := by rw [lockE_ord hn, if_pos]; rw [show prevL p.2.2.2.1 i = ByteArray.empty from if_pos (by omega)]; exact ltS_full (nameB_size hn)
            refine VD.skip ?_
            refine VD.skip ?_
            refine VD.nw [] ?_
            refine VD.skip ?_
            refine VD.skip ?_
            refine VD.skip ?_
            refine VD.skip ?_
            refine VD.skip ?_
            refine VD.skip ?_
            refine VD.skip ?_
            refine VD.nw [] ?_
            refine VD.skip ?_
            refine VD.skip ?_
            refine VD.skip ?_
            refine VD.c (.pickF rfl rfl) ?_
            refine VD.go ?_
            refine VC.condF rfl ?_
            refine VC.skip ?_
            show VC _ _ _ _ _ _ _ _
            refine VC.text ?_
            refine VO.c (.move rfl) ?_
            refine VO.c (.add rfl rfl (by omega)) ?_
            refine VO.c (.assign rfl) ?_
            refine VO.nil ?_
            refine ⟨_, [(1, .p y31 p), (4, I (((i + 1) : Nat) : Int))], ?_, ⟨rfl, rfl, trivial⟩, (i + 1), rfl, rfl, rfl, (by omega), (by rw [hq, locksE_drop (by omega), if_pos hz, prevL_succ (by omega)])⟩
            omega
      · refine VC.exit ?_
        show VC _ _ _ _ _ _ _ _
        refine VC.seq ?_
        refine VC.text ?_
        refine VO.c (.fa (.r (.r (.r (.r .o))))) ?_
        refine VO.r (.ld vt29) ?_
        refine VO.call rfl rfl (VF.call (rSpan_ok )) ?_
        refine VO.c (.assign rfl) ?_
        refine VO.go ?_
        refine VC.ret ?_
        exact VEnd.one rfl evT (pvI (by rw [hp, hq, locksE_end (by omega), if_pos rfl]))
end Go.Proofs
namespace Go.Proofs
open Go.Fs
set_option linter.unusedVariables false
abbrev y22 : Ty := (.sl (.pair .str (.pair .str (.pair .str (.pair (.sl .str) (.pair (.int .i64) (.int .i64)))))))
abbrev y23 : Ty := (.sl (.pair (.pair (.int .i64) (.int .i64)) (.int .i64)))
abbrev y43 : Ty := (.sl (.pair .str (.pair .str (.pair .str (.pair (.sl .str) (.pair (.int .i64) (.int .i64)))))))
abbrev y47 : Ty := (.sl (.pair (.pair (.int .i64) (.int .i64)) (.int .i64)))
abbrev y94 : Ty := (.pair (.pair (.int .i64) (.int .i64)) (.int .i64))
theorem vt31 : ValT Tryz.prog 31 y31 := valT_of (by kernel_rfl)
theorem vt35 : ValT Tryz.prog 35 y35 := valT_of (by kernel_rfl)
theorem vt94 : ValT Tryz.prog 94 y94 := valT_of (by kernel_rfl)
theorem el22 : ElT Tryz.prog 22 31 y31 := elT_of (by kernel_rfl)
theorem el23 : ElT Tryz.prog 23 149 (.pair (.pair (.int .i64) (.int .i64)) (.int .i64)) := elT_of (by kernel_rfl)
theorem el43 : ElT Tryz.prog 43 35 y35 := elT_of (by kernel_rfl)
theorem el47 : ElT Tryz.prog 47 94 y94 := elT_of (by kernel_rfl)
theorem zt35 : ZerT Tryz.prog 35 y35 := zerT_of (z := .agg #[.string ByteArray.empty, .string ByteArray.empty, .string ByteArray.empty, .slice none 0 0, .int .i64 0, .int .i64 0]) (by kernel_rfl) rfl rfl
theorem zt94 : ZerT Tryz.prog 94 y94 := zerT_of (z := .agg #[.int .i64 0, .int .i64 0, .int .i64 0]) (by kernel_rfl) rfl rfl
/-! ## Lists of permits, seasons -/
theorem worstE_drop {α : Type} {f : α → Int} {l : List α} {j : Nat} (hj : j < l.length) : firstE ((l.drop j).map f) = if f l[j] = 0 then firstE ((l.drop (j + 1)).map f) else f l[j] := by
  rw [List.drop_eq_getElem_cons hj] <;> rfl
theorem worstE_end {α : Type} {f : α → Int} {l : List α} {j : Nat} (hj : l.length ≤ j) : firstE ((l.drop j).map f) = 0 := by rw [List.drop_eq_nil_of_le hj] <;> rfl
theorem sWorstP_ok {F : ByteArray × ByteArray × ByteArray × List ByteArray × Int × Int → Int} {l : List (ByteArray × ByteArray × ByteArray × (List ByteArray) × (Int × Int))} {f : PV} (hl : l.length < 1000000) (hf : ∀ x ∈ l, VCall Tryz.prog OA f [.v y35 x] (I (F x))) : VF Tryz.prog OA 98 [.v y43 l, f] (I (firstE (l.map F))) := by
  refine VF.enter Tryz.func98 rfl (fun _ _ => rfl) rfl ?_
  show VC _ _ _ _ _ [(0, .v y43 l), (1, f)] [] _
  refine VC.seq ?_
  refine VC.text ?_
  refine VO.c (.assign rfl) ?_
  refine VO.go ?_
  refine VC.seq ?_
  refine VC.seq ?_
  refine VC.text ?_
  refine VO.c (.move rfl) ?_
  refine VO.r (.len el43) ?_
  refine VO.c (.move rfl) ?_
  refine VO.go ?_
  refine VC.block ?_
  refine VC.keep [(1, f), (8, .v y43 l), (9, I ((l.length : Nat) : Int)), (10, I ((0 : Nat) : Int))] ⟨rfl, rfl, rfl, rfl, trivial⟩ ?_
  refine VC.loop (I := fun kk ff ss => ∃ (j : Nat), kk = l.length - j ∧ ff = [(1, f), (8, .v y43 l), (9, I ((l.length : Nat) : Int)), (10, I ((j : Nat) : Int))] ∧ ss = [] ∧ (j ≤ l.length) ∧ (firstE (l.map F) = firstE ((l.drop j).map F))) ?_ _ _ _ ⟨0, rfl, rfl, rfl, Nat.zero_le _, (by rfl)⟩
  rintro kk ff ss ⟨j, hk0, rfl, rfl, hj, hw⟩
  refine VC.seq ?_
  refine VC.text ?_
  refine VO.c (.lss) ?_
  refine VO.go ?_
  refine VC.seq ?_
  refine VC.condD rfl (fun c2 => ?_) (fun c2 => ?_)
  · refine VC.skip ?_
    show VC _ _ _ _ _ _ _ _
    refine VC.seq ?_
    refine VC.block ?_
    refine VC.seq ?_
    refine VC.text ?_
    refine VO.c (.ix (j := j) rfl rfl el43 (by omega)) ?_
    refine VO.r (.ld vt35) ?_
    refine VO.cell (.alloc zt35) ?_
    intro ww1
    refine VO.setV (cs' := [St ((l[j]).1), St ((l[j]).2.1), St ((l[j]).2.2.1), .v (.sl .str) ((l[j]).2.2.2.1), I (((l[j]).2.2.2.2).1), I (((l[j]).2.2.2.2).2)]) vt35 .v ?_
    refine VO.shut [(6, .p y35 (l[j]))] (.cons rfl (.var m0 .refl) .nil) ?_
    refine VO.go ?_
    refine VC.seq ?_
    refine VC.text ?_
    refine VO.c (.move rfl) ?_
    refine VO.r (.ld vt35) ?_
    refine VO.call rfl rfl ((hf _ (List.getElem_mem _)) ) ?_
    refine VO.c (.assign rfl) ?_
    refine VO.go ?_
    refine VC.seq ?_
    refine VC.text ?_
    refine VO.c (.move rfl) ?_
    refine VO.c (.neq) ?_
    refine VO.go ?_
    refine VC.condD rfl (fun c5 => ?_) (fun c5 => ?_)
    · refine VC.seq ?_
      refine VC.text ?_
      refine VO.c (.move rfl) ?_
      refine VO.c (.assign rfl) ?_
      refine VO.go ?_
      refine VC.ret ?_
      exact VEnd.one rfl evT (pvI (by rw [hw, worstE_drop (by omega), if_neg c5]))
    · refine VC.skip ?_
      show VC _ _ _ _ _ _ _ _
      refine VC.text ?_
      refine VO.c (.add rfl rfl (by omega)) ?_
      refine VO.c (.move rfl) ?_
      refine VO.nil ?_
      refine ⟨_, [(1, f), (8, .v y43 l), (9, I ((l.length : Nat) : Int)), (10, I (((j + 1) : Nat) : Int))], ?_, ⟨rfl, rfl, rfl, rfl, trivial⟩, (j + 1), rfl, rfl, rfl, (by omega), (by rw [hw, worstE_drop (by omega), if_pos (by simpa using c5)])⟩
      omega
  · refine VC.exit ?_
    show VC _ _ _ _ _ _ _ _
    refine VC.seq ?_
    refine VC.text ?_
    refine VO.c (.assign rfl) ?_
    refine VO.go ?_
    refine VC.ret ?_
    exact VEnd.one rfl evT (pvI (by rw [hw, worstE_end (by omega)]))
def PermOk (l : List (ByteArray × ByteArray × ByteArray × List ByteArray × Int × Int)) : Prop := ∀ p ∈ l, p.2.2.2.1.length < 1000000
def permsE (l : List (ByteArray × ByteArray × ByteArray × List ByteArray × Int × Int)) : Int := if 64 < (l.length : Int) then 5 else firstE (l.map permE)
theorem sPermits_ok {l : List (ByteArray × ByteArray × ByteArray × (List ByteArray) × (Int × Int))} (hl : l.length < 1000000) (hp : PermOk l) : VF Tryz.prog OA 23 [.v y43 l] (I (permsE l)) := by
  refine VF.enter Tryz.func23 rfl (fun _ _ => rfl) rfl ?_
  show VC _ _ _ _ _ [(0, .v y43 l)] [] _
  refine VC.seq ?_
  refine VC.text ?_
  refine VO.c (.assign rfl) ?_
  refine VO.go ?_
  refine VC.seq ?_
  refine VC.seq ?_
  refine VC.text ?_
  refine VO.c (.move rfl) ?_
  refine VO.r (.len el43) ?_
  refine VO.c (.gtr) ?_
  refine VO.go ?_
  refine VC.condD rfl (fun c1 => ?_) (fun c1 => ?_)
  · refine VC.seq ?_
    refine VC.text ?_
    refine VO.c (.assign rfl) ?_
    refine VO.go ?_
    refine VC.ret ?_
    exact VEnd.one rfl evT (pvI (by rw [permsE, if_pos c1]))
  · refine VC.skip ?_
    show VC _ _ _ _ _ _ _ _
    refine VC.seq ?_
    refine VC.text ?_
    refine VO.c (.move rfl) ?_
    refine VO.call rfl rfl (VF.call (sWorstP_ok (F := permE) hl (fun _ m => VF.call (sPermit_ok (hp _ m))))) ?_
    refine VO.c (.assign rfl) ?_
    refine VO.go ?_
    refine VC.ret ?_
    exact VEnd.one rfl evT (pvI (by rw [permsE, if_neg c1]))
theorem rPermits_ok {l : List (ByteArray × ByteArray × ByteArray × (List ByteArray) × (Int × Int))} (hl : l.length < 1000000) (hp : PermOk l) : VF Tryz.prog OA 25 [.v y22 l] (I (permsE l)) := by
  refine VF.enter Tryz.func25 rfl (fun _ _ => rfl) rfl ?_
  show VC _ _ _ _ _ [(0, .v y22 l)] [] _
  refine VC.seq ?_
  refine VC.text ?_
  refine VO.c (.assign rfl) ?_
  refine VO.go ?_
  refine VC.seq ?_
  refine VC.seq ?_
  refine VC.text ?_
  refine VO.c (.move rfl) ?_
  refine VO.r (.len el22) ?_
  refine VO.c (.gtr) ?_
  refine VO.go ?_
  refine VC.condD rfl (fun c1 => ?_) (fun c1 => ?_)
  · refine VC.seq ?_
    refine VC.text ?_
    refine VO.c (.assign rfl) ?_
    refine VO.go ?_
    refine VC.ret ?_
    exact VEnd.one rfl evT (pvI (by rw [permsE, if_pos c1]))
  · refine VC.skip ?_
    show VC _ _ _ _ _ _ _ _
    refine VC.seq ?_
    refine VC.seq ?_
    refine VC.text ?_
    refine VO.c (.assign rfl) ?_
    refine VO.go ?_
    refine VC.block ?_
    refine VC.keep [(0, .v y22 l), (3, I ((0 : Nat) : Int))] ⟨rfl, rfl, trivial⟩ ?_
    refine VC.loop (I := fun kk ff ss => ∃ (j : Nat), kk = l.length - j ∧ ff = [(0, .v y22 l), (3, I ((j : Nat) : Int))] ∧ ss = [] ∧ (j ≤ l.length) ∧ (permsE l = firstE ((l.drop j).map permE))) ?_ _ _ _ ⟨0, rfl, rfl, rfl, Nat.zero_le _, (by exact if_neg c1)⟩
    rintro kk ff ss ⟨j, hk0, rfl, rfl, hj, hw⟩
    refine VC.seq ?_
    refine VC.seq ?_
    refine VC.text ?_
    refine VO.c (.move rfl) ?_
    refine VO.c (.move rfl) ?_
    refine VO.r (.len el22) ?_
    refine VO.c (.lss) ?_
    refine VO.go ?_
    refine VC.condD rfl (fun c4 => ?_) (fun c4 => ?_)
    · refine VC.skip ?_
      show VC _ _ _ _ _ _ _ _
      refine VC.seq ?_
      refine VC.block ?_
      refine VC.seq ?_
      refine VC.text ?_
      refine VO.c (.move rfl) ?_
      refine VO.c (.move rfl) ?_
      refine VO.c (.ix (j := j) rfl rfl el22 (by omega)) ?_
      refine VO.r (.ld vt31) ?_
      refine VO.call rfl rfl (VF.call (rPermit_ok (hp _ (List.getElem_mem _)))) ?_
      refine VO.c (.assign rfl) ?_
      refine VO.go ?_
      refine VC.seq ?_
      refine VC.text ?_
      refine VO.c (.move rfl) ?_
      refine VO.c (.neq) ?_
      refine VO.go ?_
      refine VC.condD rfl (fun c7 => ?_) (fun c7 => ?_)
      · refine VC.seq ?_
        refine VC.text ?_
        refine VO.c (.move rfl) ?_
        refine VO.c (.assign rfl) ?_
        refine VO.go ?_
        refine VC.ret ?_
        exact VEnd.one rfl evT (pvI (by rw [hw, worstE_drop (by omega), if_neg c7]))
      · refine VC.skip ?_
        show VC _ _ _ _ _ _ _ _
        refine VC.text ?_
        refine VO.c (.move rfl) ?_
        refine VO.c (.add rfl rfl (by omega)) ?_
        refine VO.c (.assign rfl) ?_
        refine VO.nil ?_
        refine ⟨_, [(0, .v y22 l), (3, I (((j + 1) : Nat) : Int))], ?_, ⟨rfl, rfl, trivial⟩, (j + 1), rfl, rfl, rfl, (by omega), (by rw [hw, worstE_drop (by omega), if_pos (by simpa using c7)])⟩
        omega
    · refine VC.exit ?_
      show VC _ _ _ _ _ _ _ _
      refine VC.seq ?_
      refine VC.text ?_
      refine VO.c (.assign rfl) ?_
      refine VO.go ?_
      refine VC.ret ?_
      exact VEnd.one rfl evT (pvI (by rw [hw, worstE_end (by omega)]))
def seasonE (e : Int) (s : (Int × Int) × Int) : Int := firstE [spanE s.1, rangeE s.2 0 16, whenE (decide (s.1.1 < e)) 11]
def ssE (e : Int) (l : List ((Int × Int) × Int)) : Int := (wst seasonE (fun _ s => s.1.2) e l).1
def seasE (l : List ((Int × Int) × Int)) : Int := if 8 < (l.length : Int) then 5 else ssE 0 l
def endP (l : List ((Int × Int) × Int)) (j : Nat) : Int := if j = 0 then 0 else (l.getD (j - 1) ((0, 0), 0)).1.2
theorem endP_succ {l : List ((Int × Int) × Int)} {j : Nat} (hj : j < l.length) : endP l (j + 1) = l[j].1.2 := by simp [endP, hj]
theorem endP_int {l : List ((Int × Int) × Int)} {i : Nat} (h0 : 0 < (i : Int)) (h : ((i : Int) - 1).toNat < l.length) : endP l i = l[((i : Int) - 1).toNat].1.2 := by
  have e : ((i : Int) - 1).toNat = i - 1 := by omega
  have h' : i - 1 < l.length := by omega
  rw [endP, if_neg (by omega)]
  simp only [e]
  simp [h']
theorem ssE_drop {e : Int} {l : List ((Int × Int) × Int)} {j : Nat} (hj : j < l.length) : ssE e (l.drop j) = if seasonE e l[j] = 0 then ssE l[j].1.2 (l.drop (j + 1)) else seasonE e l[j] := by
  unfold ssE
  rw [wst_drop hj]
  by_cases h : seasonE e l[j] = 0 <;> simp [h]
theorem ssE_end {e : Int} {l : List ((Int × Int) × Int)} {j : Nat} (hj : l.length ≤ j) : ssE e (l.drop j) = 0 := by
  unfold ssE
  rw [wst_end hj]
theorem sSeas_ok {l : List ((Int × Int) × Int)} (hl : l.length < 1000000) : VF Tryz.prog OA 26 [.v y47 l] (I (seasE l)) := by
  refine VF.enter Tryz.func26 rfl (fun _ _ => rfl) rfl ?_
  show VC _ _ _ _ _ [(0, .v y47 l)] [] _
  refine VC.seq ?_
  refine VC.text ?_
  refine VO.c (.assign rfl) ?_
  refine VO.go ?_
  refine VC.seq ?_
  refine VC.seq ?_
  refine VC.text ?_
  refine VO.c (.move rfl) ?_
  refine VO.r (.len el47) ?_
  refine VO.c (.gtr) ?_
  refine VO.go ?_
  refine VC.condD rfl (fun c1 => ?_) (fun c1 => ?_)
  · refine VC.seq ?_
    refine VC.text ?_
    refine VO.c (.assign rfl) ?_
    refine VO.go ?_
    refine VC.ret ?_
    exact VEnd.one rfl evT (pvI (by rw [seasE, if_pos c1]))
  · refine VC.skip ?_
    show VC _ _ _ _ _ _ _ _
    refine VC.seq ?_
    refine VC.text ?_
    refine VO.c (.assign rfl) ?_
    refine VO.go ?_
    refine VC.seq ?_
    refine VC.seq ?_
    refine VC.text ?_
    refine VO.c (.move rfl) ?_
    refine VO.r (.len el47) ?_
    refine VO.c (.move rfl) ?_
    refine VO.go ?_
    refine VC.block ?_
    refine VC.keep [(3, I (endP l 0)), (10, .v y47 l), (11, I ((l.length : Nat) : Int)), (12, I ((0 : Nat) : Int))] ⟨rfl, rfl, rfl, rfl, trivial⟩ ?_
    refine VC.loop (I := fun kk ff ss => ∃ (j : Nat), kk = l.length - j ∧ ff = [(3, I (endP l j)), (10, .v y47 l), (11, I ((l.length : Nat) : Int)), (12, I ((j : Nat) : Int))] ∧ ss = [] ∧ (j ≤ l.length) ∧ (seasE l = ssE (endP l j) (l.drop j))) ?_ _ _ _ ⟨0, rfl, rfl, rfl, Nat.zero_le _, (by exact if_neg c1)⟩
    rintro kk ff ss ⟨j, hk0, rfl, rfl, hj, hw⟩
    refine VC.seq ?_
    refine VC.text ?_
    refine VO.c (.lss) ?_
    refine VO.go ?_
    refine VC.seq ?_
    refine VC.condD rfl (fun c5 => ?_) (fun c5 => ?_)
    · refine VC.skip ?_
      show VC _ _ _ _ _ _ _ _
      refine VC.seq ?_
      refine VC.block ?_
      refine VC.seq ?_
      refine VC.text ?_
      refine VO.c (.ix (j := j) rfl rfl el47 (by omega)) ?_
      refine VO.r (.ld vt94) ?_
      refine VO.cell (.alloc zt94) ?_
      intro ww2
      refine VO.setV (cs' := [I (((l[j]).1).1), I (((l[j]).1).2), I ((l[j]).2)]) vt94 .v ?_
      refine VO.shut [(5, .p y94 (l[j]))] (.cons rfl (.var m0 .refl) .nil) ?_
      refine VO.go ?_
      refine VC.seq ?_
      refine VC.seq ?_
      refine VC.drawn ?_
      refine VD.c (.fa (.l .o)) ?_
      refine VD.r [] (.ld vt29) (.inl rfl) ?_
      refine VD.call rfl rfl (VF.call (sSpan_ok )) ?_
      refine VD.c (.fa (.r .o)) ?_
      refine VD.r [] (.ld vt3) (.inl rfl) ?_
      refine VD.call rfl rfl (VF.call (sWithin_ok )) ?_
      refine VD.nw [] ?_
      refine VD.c (.fa (.l .o)) ?_
      refine VD.c (.fa (.l .o)) ?_
      refine VD.r [] (.ld vt3) (.inl rfl) ?_
      refine VD.c (.move rfl) ?_
      refine VD.c (.lss) ?_
      refine VD.call rfl rfl (VF.call (sWhen_ok )) ?_
      refine VD.new (.lit [spanE ((l[j]).1), rangeE ((l[j]).2) (0 : Int) (16 : Int), whenE (decide (((l[j]).1).1 < endP l j)) (11 : Int)] el204) ?_
      refine VD.nw [28] ?_
      refine VD.callO rfl rfl (VF.call (sFirst_ok (by simp))) ?_
      refine VD.c (.assign rfl) ?_
      refine VD.go ?_
      refine VC.seq ?_
      refine VC.text ?_
      refine VO.c (.move rfl) ?_
      refine VO.c (.neq) ?_
      refine VO.go ?_
      refine VC.condD rfl (fun c8 => ?_) (fun c8 => ?_)
      · refine VC.seq ?_
        refine VC.text ?_
        refine VO.c (.move rfl) ?_
        refine VO.c (.assign rfl) ?_
        refine VO.go ?_
        refine VC.ret ?_
        exact VEnd.one rfl evT (pvI (by rw [hw, ssE_drop (by omega)]; exact (if_neg c8).symm))
      · refine VC.skip ?_
        show VC _ _ _ _ _ _ _ _
        refine VC.text ?_
        refine VO.c (.fa (.l .o)) ?_
        refine VO.c (.fa (.r .o)) ?_
        refine VO.r (.ld vt3) ?_
        refine VO.c (.assign rfl) ?_
        refine VO.nil ?_
        show VC _ _ _ _ _ _ _ _
        refine VC.text ?_
        refine VO.c (.add rfl rfl (by omega)) ?_
        refine VO.c (.move rfl) ?_
        refine VO.nil ?_
        refine ⟨_, [(3, I (endP l (j + 1))), (10, .v y47 l), (11, I ((l.length : Nat) : Int)), (12, I (((j + 1) : Nat) : Int))], ?_, ⟨slE rfl (by exact (endP_succ (l := l) (j := j) (by omega)).symm), rfl, rfl, rfl, trivial⟩, (j + 1), rfl, rfl, rfl, (by omega), (by rw [hw, ssE_drop (by omega), if_pos (show seasonE _ _ = 0 from Decidable.not_not.1 c8), endP_succ (l := l) (j := j) (by omega)])⟩
        omega
    · refine VC.exit ?_
      show VC _ _ _ _ _ _ _ _
      refine VC.seq ?_
      refine VC.text ?_
      refine VO.c (.assign rfl) ?_
      refine VO.go ?_
      refine VC.ret ?_
      exact VEnd.one rfl evT (pvI (by rw [hw, ssE_end (by omega)]))
theorem seasonE_two {e : Int} {s : (Int × Int) × Int} (h : ¬ firstE [spanE s.1, rangeE s.2 0 16] ≠ 0) : seasonE e s = whenE (decide (s.1.1 < e)) 11 := by
  show firstE ([_, _] ++ [_]) = _
  rw [firstE_app, if_pos (Decidable.not_not.1 h), firstE_one]
theorem seasonE_bad {e : Int} {s : (Int × Int) × Int} (h : firstE [spanE s.1, rangeE s.2 0 16] ≠ 0) : seasonE e s = firstE [spanE s.1, rangeE s.2 0 16] := by
  show firstE ([_, _] ++ [_]) = _
  rw [firstE_app, if_neg h]
theorem spanE_ok {p : Int × Int} (h : spanE p = 0) : 0 ≤ p.1 ∧ p.1 < p.2 ∧ p.2 ≤ 100000 := by
  unfold spanE at h
  by_cases h1 : p.1 < 0 ∨ p.2 ≤ p.1 ∨ 100000 < p.2
  · rw [if_pos h1] at h; cases h
  · omega
theorem seasonE_span {s : (Int × Int) × Int} (h : ¬ firstE [spanE s.1, rangeE s.2 0 16] ≠ 0) : 0 ≤ s.1.1 := by
  have h := Decidable.not_not.1 h
  rw [firstE_two] at h
  by_cases h1 : spanE s.1 = 0
  · exact (spanE_ok h1).1
  · rw [if_neg h1] at h; exact absurd h h1
theorem rSeas_ok {l : List ((Int × Int) × Int)} (hl : l.length < 1000000) : VF Tryz.prog OA 28 [.v y23 l] (I (seasE l)) := by
  refine VF.enter Tryz.func28 rfl (fun _ _ => rfl) rfl ?_
  show VC _ _ _ _ _ [(0, .v y23 l)] [] _
  refine VC.seq ?_
  refine VC.text ?_
  refine VO.c (.assign rfl) ?_
  refine VO.go ?_
  refine VC.seq ?_
  refine VC.seq ?_
  refine VC.text ?_
  refine VO.c (.move rfl) ?_
  refine VO.r (.len el23) ?_
  refine VO.c (.gtr) ?_
  refine VO.go ?_
  refine VC.condD rfl (fun c1 => ?_) (fun c1 => ?_)
  · refine VC.seq ?_
    refine VC.text ?_
    refine VO.c (.assign rfl) ?_
    refine VO.go ?_
    refine VC.ret ?_
    exact VEnd.one rfl evT (pvI (by rw [seasE, if_pos c1]))
  · refine VC.skip ?_
    show VC _ _ _ _ _ _ _ _
    refine VC.seq ?_
    refine VC.seq ?_
    refine VC.text ?_
    refine VO.c (.assign rfl) ?_
    refine VO.go ?_
    refine VC.block ?_
    refine VC.keep [(0, .v y23 l), (3, I ((0 : Nat) : Int))] ⟨rfl, rfl, trivial⟩ ?_
    refine VC.loop (I := fun kk ff ss => ∃ (j : Nat), kk = l.length - j ∧ ff = [(0, .v y23 l), (3, I ((j : Nat) : Int))] ∧ ss = [] ∧ (j ≤ l.length) ∧ (seasE l = ssE (endP l j) (l.drop j))) ?_ _ _ _ ⟨0, rfl, rfl, rfl, Nat.zero_le _, (by exact if_neg c1)⟩
    rintro kk ff ss ⟨j, hk0, rfl, rfl, hj, hw⟩
    refine VC.seq ?_
    refine VC.seq ?_
    refine VC.text ?_
    refine VO.c (.move rfl) ?_
    refine VO.c (.move rfl) ?_
    refine VO.r (.len el23) ?_
    refine VO.c (.lss) ?_
    refine VO.go ?_
    refine VC.condD rfl (fun c4 => ?_) (fun c4 => ?_)
    · refine VC.skip ?_
      show VC _ _ _ _ _ _ _ _
      refine VC.seq ?_
      refine VC.block ?_
      refine VC.seq ?_
      refine VC.seq ?_
      refine VC.drawn ?_
      refine VD.c (.move rfl) ?_
      refine VD.c (.move rfl) ?_
      refine VD.c (.ix (j := j) rfl rfl el23 (by omega)) ?_
      refine VD.c (.fa (.l .o)) ?_
      refine VD.r [] (.ld vt29) (.inl rfl) ?_
      refine VD.call rfl rfl (VF.call (rSpan_ok )) ?_
      refine VD.nw [] ?_
      refine VD.c (.move rfl) ?_
      refine VD.c (.move rfl) ?_
      refine VD.c (.ix (j := j) rfl rfl el23 (by omega)) ?_
      refine VD.c (.fa (.r .o)) ?_
      refine VD.r [] (.ld vt3) (.inl rfl) ?_
      refine VD.call rfl rfl (VF.call (rCheckRange_ok )) ?_
      refine VD.new (.lit [spanE ((l[j]).1), rangeE ((l[j]).2) (0 : Int) (16 : Int)] el39) ?_
      refine VD.nw [26] ?_
      refine VD.callO rfl rfl (VF.call (rFirst_ok (by simp))) ?_
      refine VD.c (.assign rfl) ?_
      refine VD.go ?_
      refine VC.seq ?_
      refine VC.text ?_
      refine VO.c (.move rfl) ?_
      refine VO.c (.neq) ?_
      refine VO.go ?_
      refine VC.condD rfl (fun c7 => ?_) (fun c7 => ?_)
      · refine VC.seq ?_
        refine VC.text ?_
        refine VO.c (.move rfl) ?_
        refine VO.c (.assign rfl) ?_
        refine VO.go ?_
        refine VC.ret ?_
        exact VEnd.one rfl evT (pvI (by rw [hw, ssE_drop (by omega), seasonE_bad c7, if_neg c7]))
      · refine VC.skip ?_
        show VC _ _ _ _ _ _ _ _
        refine VC.seq ?_
        refine VC.drawn ?_
        refine VD.c (.move rfl) ?_
        refine VD.c (.gtr) ?_
        refine VD.c (.move rfl) ?_
        refine VD.splitD (x := 33) rfl (fun g9_2 => ?_) (fun g9_2 => ?_)
        · refine VD.c (.move rfl) ?_
          refine VD.c (.move rfl) ?_
          refine VD.nw [] ?_
          refine VD.c (.ix (j := j) rfl rfl el23 (by omega)) ?_
          refine VD.c (.fa (.l .o)) ?_
          refine VD.c (.fa (.l .o)) ?_
          refine VD.r [] (.ld vt3) (.inl rfl) ?_
          refine VD.c (.move rfl) ?_
          refine VD.c (.move rfl) ?_
          refine VD.c (.sub rfl rfl (by omega)) ?_
          refine VD.nw [] ?_
          refine VD.c (.ixZ (k := (((j : Nat) : Int) - (1 : Int))) rfl rfl el23 (by omega) (by omega)) ?_
          refine VD.c (.fa (.l .o)) ?_
          refine VD.c (.fa (.r .o)) ?_
          refine VD.r [] (.ld vt3) (.inl rfl) ?_
          refine VD.c (.lss) ?_
          refine VD.c (.pickT rfl rfl) ?_
          refine VD.go ?_
          refine VC.condD rfl (fun c9 => ?_) (fun c9 => ?_)
          · refine VC.seq ?_
            refine VC.keep [(0, .v y23 l), (3, I ((j : Nat) : Int))] ⟨rfl, rfl, trivial⟩ ?_
            refine VC.text ?_
            refine VO.c (.assign rfl) ?_
            refine VO.go ?_
            refine VC.ret ?_
            exact VEnd.one rfl evT (pvI (by rw [hw, ssE_drop (by omega), seasonE_two c7, endP_int g9_2 (by omega), decide_eq_true (by simpa using c9)] <;> rfl))
          · have hz : seasonE (endP l j) l[j] = 0 := by rw [seasonE_two c7, endP_int g9_2 (by omega), decide_eq_false (by simpa using c9)] <;> rfl
            refine VC.skip ?_
            show VC _ _ _ _ _ _ _ _
            refine VC.keep [(0, .v y23 l), (3, I ((j : Nat) : Int))] ⟨rfl, rfl, trivial⟩ ?_
            refine VC.text ?_
            refine VO.c (.move rfl) ?_
            refine VO.c (.add rfl rfl (by omega)) ?_
            refine VO.c (.assign rfl) ?_
            refine VO.nil ?_
            refine ⟨_, [(0, .v y23 l), (3, I (((j + 1) : Nat) : Int))], ?_, ⟨rfl, rfl, trivial⟩, (j + 1), rfl, rfl, rfl, (by omega), (by rw [hw, ssE_drop (by omega), if_pos hz, endP_succ (by omega)])⟩
            omega
        · have hz : seasonE (endP l j) l[j] = 0 := by rw [seasonE_two c7, show endP l j = 0 from if_pos (by omega), decide_eq_false (by have := seasonE_span c7; omega)] <;> rfl
          refine VD.skip ?_
          refine VD.skip ?_
          refine VD.nw [] ?_
          refine VD.skip ?_
          refine VD.skip ?_
          refine VD.skip ?_
          refine VD.skip ?_
          refine VD.skip ?_
          refine VD.skip ?_
          refine VD.skip ?_
          refine VD.nw [] ?_
          refine VD.skip ?_
          refine VD.skip ?_
          refine VD.skip ?_
          refine VD.skip ?_
          refine VD.skip ?_
          refine VD.c (.pickF rfl rfl) ?_
          refine VD.go ?_
          refine VC.condF rfl ?_
          refine VC.skip ?_
          show VC _ _ _ _ _ _ _ _
          refine VC.keep [(0, .v y23 l), (3, I ((j : Nat) : Int))] ⟨rfl, rfl, trivial⟩ ?_
          refine VC.text ?_
          refine VO.c (.move rfl) ?_
          refine VO.c (.add rfl rfl (by omega)) ?_
          refine VO.c (.assign rfl) ?_
          refine VO.nil ?_
          refine ⟨_, [(0, .v y23 l), (3, I (((j + 1) : Nat) : Int))], ?_, ⟨rfl, rfl, trivial⟩, (j + 1), rfl, rfl, rfl, (by omega), (by rw [hw, ssE_drop (by omega), if_pos hz, endP_succ (by omega)])⟩
          omega
    · refine VC.exit ?_
      show VC _ _ _ _ _ _ _ _
      refine VC.seq ?_
      refine VC.text ?_
      refine VO.c (.assign rfl) ?_
      refine VO.go ?_
      refine VC.ret ?_
      exact VEnd.one rfl evT (pvI (by rw [hw, ssE_end (by omega)]))
end Go.Proofs
namespace Go.Proofs
open Go.Fs
set_option linter.unusedVariables false
abbrev y128 : Ty := (.pair (.int .i64) (.int .i64))
theorem vt128 : ValT Tryz.prog 128 y128 := valT_of (by kernel_rfl)
theorem zt128 : ZerT Tryz.prog 128 y128 := zerT_of (z := .agg #[.int .i64 0, .int .i64 0]) (by kernel_rfl) rfl rfl
theorem bt128 : BldT Tryz.prog 128 y128 [(0, 1), (1, 1)] := bldT_of zt128 rfl (by kernel_rfl)
/-! ## Words -/
def idxG {α : Type} (F : α → Bool) : List α → Int → Int
  | [], _ => -1
  | x :: l, k => if F x = true then k else idxG F l (k + 1)
theorem idxG_drop {α : Type} {F : α → Bool} {l : List α} {j : Nat} (hj : j < l.length) : idxG F (l.drop j) (j : Nat) = if F l[j] = true then ((j : Nat) : Int) else idxG F (l.drop (j + 1)) ((j + 1 : Nat) : Int) := by
  rw [List.drop_eq_getElem_cons hj] <;> rfl
theorem idxG_end {α : Type} {F : α → Bool} {l : List α} {j : Nat} {k : Int} (hj : l.length ≤ j) : idxG F (l.drop j) k = -1 := by rw [List.drop_eq_nil_of_le hj] <;> rfl
theorem idxG_any {α : Type} {F : α → Bool} : ∀ {l : List α} {k : Int}, 0 ≤ k → ((0 ≤ idxG F l k) ↔ l.any F = true)
  | [], k, _ => by simp [idxG]
  | x :: l, k, h => by
    unfold idxG
    rw [List.any_cons]
    by_cases hx : F x = true
    · rw [if_pos hx, hx]; simp [h]
    · rw [if_neg hx, idxG_any (l := l) (by omega)]; simp [hx]
theorem zIndexF_ok {F : ByteArray → Bool} {l : List ByteArray} {f : PV} (hl : l.length < 1000000) (hf : ∀ x ∈ l, VCall Tryz.prog OA f [.v .str x] (B (F x))) : VF Tryz.prog OA 171 [.v (.sl .str) l, f] (I (idxG F l 0)) := by
  refine VF.enter Tryz.func171 rfl (fun _ _ => rfl) rfl ?_
  show VC _ _ _ _ _ [(0, .v (.sl .str) l), (1, f)] [] _
  refine VC.seq ?_
  refine VC.text ?_
  refine VO.c (.assign rfl) ?_
  refine VO.go ?_
  refine VC.seq ?_
  refine VC.seq ?_
  refine VC.text ?_
  refine VO.c (.move rfl) ?_
  refine VO.r (.len el27) ?_
  refine VO.c (.move rfl) ?_
  refine VO.go ?_
  refine VC.block ?_
  refine VC.keep [(0, .v (.sl .str) l), (1, f), (7, I ((l.length : Nat) : Int)), (8, I ((0 : Nat) : Int))] ⟨rfl, rfl, rfl, rfl, trivial⟩ ?_
  refine VC.loop (I := fun kk ff ss => ∃ (j : Nat), kk = l.length - j ∧ ff = [(0, .v (.sl .str) l), (1, f), (7, I ((l.length : Nat) : Int)), (8, I ((j : Nat) : Int))] ∧ ss = [] ∧ (j ≤ l.length) ∧ (idxG F l 0 = idxG F (l.drop j) (j : Nat))) ?_ _ _ _ ⟨0, rfl, rfl, rfl, Nat.zero_le _, (by rfl)⟩
  rintro kk ff ss ⟨j, hk0, rfl, rfl, hj, hi⟩
  refine VC.seq ?_
  refine VC.text ?_
  refine VO.c (.lss) ?_
  refine VO.go ?_
  refine VC.seq ?_
  refine VC.condD rfl (fun c2 => ?_) (fun c2 => ?_)
  · refine VC.skip ?_
    show VC _ _ _ _ _ _ _ _
    refine VC.seq ?_
    refine VC.block ?_
    refine VC.seq ?_
    refine VC.text ?_
    refine VO.c (.move rfl) ?_
    refine VO.c (.assign rfl) ?_
    refine VO.go ?_
    refine VC.seq ?_
    refine VC.text ?_
    refine VO.c (.move rfl) ?_
    refine VO.c (.move rfl) ?_
    refine VO.c (.move rfl) ?_
    refine VO.c (.ix (j := j) rfl rfl el27 (by omega)) ?_
    refine VO.r (.ld vt9) ?_
    refine VO.call rfl rfl ((hf _ (List.getElem_mem _)) ) ?_
    refine VO.go ?_
    refine VC.condB rfl (fun c4 => ?_) (fun c4 => ?_)
    · refine VC.seq ?_
      refine VC.text ?_
      refine VO.c (.move rfl) ?_
      refine VO.c (.assign rfl) ?_
      refine VO.go ?_
      refine VC.ret ?_
      exact VEnd.one rfl evT (pvI (by rw [hi, idxG_drop (by omega), if_pos c4]))
    · refine VC.skip ?_
      show VC _ _ _ _ _ _ _ _
      refine VC.text ?_
      refine VO.c (.add rfl rfl (by omega)) ?_
      refine VO.c (.move rfl) ?_
      refine VO.nil ?_
      refine ⟨_, [(0, .v (.sl .str) l), (1, f), (7, I ((l.length : Nat) : Int)), (8, I (((j + 1) : Nat) : Int))], ?_, ⟨rfl, rfl, rfl, rfl, trivial⟩, (j + 1), rfl, rfl, rfl, (by omega), (by rw [hi, idxG_drop (by omega), if_neg (by rw [c4]; decide)])⟩
      omega
  · refine VC.exit ?_
    show VC _ _ _ _ _ _ _ _
    refine VC.seq ?_
    refine VC.text ?_
    refine VO.c (.assign rfl) ?_
    refine VO.go ?_
    refine VC.ret ?_
    exact VEnd.one rfl evT (pvI (by rw [hi, idxG_end (by omega)]))
theorem zContainsF_ok {F : ByteArray → Bool} {l : List ByteArray} {f : PV} (hl : l.length < 1000000) (hf : ∀ x ∈ l, VCall Tryz.prog OA f [.v .str x] (B (F x))) : VF Tryz.prog OA 136 [.v (.sl .str) l, f] (B (l.any F)) := by
  refine VF.enter Tryz.func136 rfl (fun _ _ => rfl) rfl ?_
  show VC _ _ _ _ _ [(0, .v (.sl .str) l), (1, f)] [] _
  refine VC.seq ?_
  refine VC.text ?_
  refine VO.c (.assign rfl) ?_
  refine VO.go ?_
  refine VC.seq ?_
  refine VC.text ?_
  refine VO.c (.move rfl) ?_
  refine VO.c (.move rfl) ?_
  refine VO.call rfl rfl (VF.call (zIndexF_ok (F := F) hl hf)) ?_
  refine VO.c (.geq) ?_
  refine VO.c (.assign rfl) ?_
  refine VO.go ?_
  refine VC.ret ?_
  exact VEnd.one rfl evT (pvE (by have h9 := idxG_any (F := F) (l := l) (k := 0) (by omega); cases h8 : l.any F <;> simp_all))
theorem zIndex_ok {l : List ByteArray} {v : ByteArray} (hl : l.length < 1000000) : VF Tryz.prog OA 163 [.v (.sl .str) l, St v] (I (idxG (fun x => decide (v = x)) l 0)) := by
  refine VF.enter Tryz.func163 rfl (fun _ _ => rfl) rfl ?_
  show VC _ _ _ _ _ [(0, .v (.sl .str) l), (1, St v)] [] _
  refine VC.seq ?_
  refine VC.text ?_
  refine VO.c (.assign rfl) ?_
  refine VO.go ?_
  refine VC.seq ?_
  refine VC.seq ?_
  refine VC.text ?_
  refine VO.c (.move rfl) ?_
  refine VO.r (.len el27) ?_
  refine VO.c (.move rfl) ?_
  refine VO.go ?_
  refine VC.block ?_
  refine VC.keep [(0, .v (.sl .str) l), (1, St v), (7, I ((l.length : Nat) : Int)), (8, I ((0 : Nat) : Int))] ⟨rfl, rfl, rfl, rfl, trivial⟩ ?_
  refine VC.loop (I := fun kk ff ss => ∃ (j : Nat), kk = l.length - j ∧ ff = [(0, .v (.sl .str) l), (1, St v), (7, I ((l.length : Nat) : Int)), (8, I ((j : Nat) : Int))] ∧ ss = [] ∧ (j ≤ l.length) ∧ (idxG (fun x => decide (v = x)) l 0 = idxG (fun x => decide (v = x)) (l.drop j) (j : Nat))) ?_ _ _ _ ⟨0, rfl, rfl, rfl, Nat.zero_le _, (by rfl)⟩
  rintro kk ff ss ⟨j, hk0, rfl, rfl, hj, hi⟩
  refine VC.seq ?_
  refine VC.text ?_
  refine VO.c (.lss) ?_
  refine VO.go ?_
  refine VC.seq ?_
  refine VC.condD rfl (fun c2 => ?_) (fun c2 => ?_)
  · refine VC.skip ?_
    show VC _ _ _ _ _ _ _ _
    refine VC.seq ?_
    refine VC.block ?_
    refine VC.seq ?_
    refine VC.text ?_
    refine VO.c (.move rfl) ?_
    refine VO.c (.assign rfl) ?_
    refine VO.go ?_
    refine VC.seq ?_
    refine VC.text ?_
    refine VO.c (.move rfl) ?_
    refine VO.c (.move rfl) ?_
    refine VO.c (.move rfl) ?_
    refine VO.c (.ix (j := j) rfl rfl el27 (by omega)) ?_
    refine VO.r (.ld vt9) ?_
    refine VO.c (.seql) ?_
    refine VO.go ?_
    refine VC.condD rfl (fun c4 => ?_) (fun c4 => ?_)
    · refine VC.seq ?_
      refine VC.text ?_
      refine VO.c (.move rfl) ?_
      refine VO.c (.assign rfl) ?_
      refine VO.go ?_
      refine VC.ret ?_
      exact VEnd.one rfl evT (pvI (by rw [hi, idxG_drop (by omega), if_pos (by simpa using c4)]))
    · refine VC.skip ?_
      show VC _ _ _ _ _ _ _ _
      refine VC.text ?_
      refine VO.c (.add rfl rfl (by omega)) ?_
      refine VO.c (.move rfl) ?_
      refine VO.nil ?_
      refine ⟨_, [(0, .v (.sl .str) l), (1, St v), (7, I ((l.length : Nat) : Int)), (8, I (((j + 1) : Nat) : Int))], ?_, ⟨rfl, rfl, rfl, rfl, trivial⟩, (j + 1), rfl, rfl, rfl, (by omega), (by rw [hi, idxG_drop (by omega), if_neg (by simpa using c4)])⟩
      omega
  · refine VC.exit ?_
    show VC _ _ _ _ _ _ _ _
    refine VC.seq ?_
    refine VC.text ?_
    refine VO.c (.assign rfl) ?_
    refine VO.go ?_
    refine VC.ret ?_
    exact VEnd.one rfl evT (pvI (by rw [hi, idxG_end (by omega)]))
def hasB (l : List ByteArray) (v : ByteArray) : Bool := l.any fun x => decide (x = v)
theorem hasB_comm {l : List ByteArray} {v : ByteArray} : (l.any fun x => decide (v = x)) = hasB l v := by
  unfold hasB
  congr 1
  funext x
  exact decide_eq_decide.2 ⟨Eq.symm, Eq.symm⟩
theorem zContains_ok {l : List ByteArray} {v : ByteArray} (hl : l.length < 1000000) : VF Tryz.prog OA 122 [.v (.sl .str) l, St v] (B (hasB l v)) := by
  refine VF.enter Tryz.func122 rfl (fun _ _ => rfl) rfl ?_
  show VC _ _ _ _ _ [(0, .v (.sl .str) l), (1, St v)] [] _
  refine VC.seq ?_
  refine VC.text ?_
  refine VO.c (.assign rfl) ?_
  refine VO.go ?_
  refine VC.seq ?_
  refine VC.text ?_
  refine VO.c (.move rfl) ?_
  refine VO.c (.move rfl) ?_
  refine VO.call rfl rfl (VF.call (zIndex_ok hl)) ?_
  refine VO.c (.geq) ?_
  refine VO.c (.assign rfl) ?_
  refine VO.go ?_
  refine VC.ret ?_
  exact VEnd.one rfl evT (pvE (by have h9 := idxG_any (F := fun x => decide (v = x)) (l := l) (k := 0) (by omega); rw [hasB_comm] at h9; cases h8 : hasB l v <;> simp_all))
def commonB (a b : List ByteArray) : Bool := a.any fun x => hasB b x
abbrev Permit := ByteArray × ByteArray × ByteArray × List ByteArray × Int × Int
theorem sShares1_ok {s : ByteArray} {o : ByteArray × ByteArray × ByteArray × (List ByteArray) × (Int × Int)} (ho : o.2.2.2.1.length < 1000000) : VF Tryz.prog OA 214 [St s, .p y35 o] (B (hasB o.2.2.2.1 s)) := by
  refine VF.enter Tryz.func214 rfl (fun _ _ => rfl) rfl ?_
  show VC _ _ _ _ _ [(0, St s), (1, .p y35 o)] [] _
  refine VC.seq ?_
  refine VC.text ?_
  refine VO.c (.assign rfl) ?_
  refine VO.go ?_
  refine VC.seq ?_
  refine VC.text ?_
  refine VO.c (.fa (.r (.r (.r (.l .o))))) ?_
  refine VO.r (.ld vt27) ?_
  refine VO.c (.move rfl) ?_
  refine VO.call rfl rfl (VF.call (zContains_ok ho)) ?_
  refine VO.c (.assign rfl) ?_
  refine VO.go ?_
  refine VC.ret ?_
  exact VEnd.one rfl evT (pvE (by rfl))
theorem sShares_ok {p : ByteArray × ByteArray × ByteArray × (List ByteArray) × (Int × Int)} {o : ByteArray × ByteArray × ByteArray × (List ByteArray) × (Int × Int)} (hp : p.2.2.2.1.length < 1000000) (ho : o.2.2.2.1.length < 1000000) : VF Tryz.prog OA 187 [.v y35 p, .v y35 o] (B (commonB p.2.2.2.1 o.2.2.2.1)) := by
  refine VF.enter Tryz.func187 rfl (fun _ _ => rfl) rfl ?_
  show VC _ _ _ _ _ [(0, .v y35 p), (1, .v y35 o)] [] _
  refine VC.seq ?_
  refine VC.text ?_
  refine VO.new (.box) ?_
  refine VO.new (.box) ?_
  refine VO.c (.assign rfl) ?_
  refine VO.go ?_
  refine VC.seq ?_
  refine VC.text ?_
  refine VO.c (.fa (.r (.r (.r (.l .o))))) ?_
  refine VO.r (.ld vt27) ?_
  refine VO.c (.func) ?_
  refine VO.call rfl rfl (VF.call (zContainsF_ok (F := fun s => hasB o.2.2.2.1 s) hp (fun _ _ => VF.clo (sShares1_ok ho)))) ?_
  refine VO.c (.assign rfl) ?_
  refine VO.go ?_
  refine VC.ret ?_
  exact VEnd.one rfl evT (pvE (by rfl))
theorem sEnds_ok {s : Int × Int} : VF Tryz.prog OA 190 [.v y29 s] (.v y128 s) := by
  refine VF.enter Tryz.func190 rfl (fun _ _ => rfl) rfl ?_
  show VC _ _ _ _ _ [(0, .v y29 s)] [] _
  refine VC.seq ?_
  refine VC.text ?_
  refine VO.new (.box) ?_
  refine VO.cell (.alloc zt128) ?_
  intro ww1
  refine VO.go ?_
  refine VC.seq ?_
  refine VC.text ?_
  refine VO.c (.fa (.l .o)) ?_
  refine VO.r (.ld vt3) ?_
  refine VO.c (.fa (.r .o)) ?_
  refine VO.r (.ld vt3) ?_
  refine VO.c (.build (s.1, s.2) bt128) ?_
  refine VO.setV (cs' := [I s.1, I s.2]) vt128 .v ?_
  refine VO.go ?_
  refine VC.ret ?_
  exact VEnd.one rfl (.cell (x := (s.1, s.2)) rfl m0 vt128 .refl) (pvE (by first | rfl | simp))
def meetB (a b : Int × Int) : Bool := decide (a = b) || decide (max a.1 b.1 < min a.2 b.2)
theorem arr2 {a b : Int × Int} : ([a.1, a.2] = [b.1, b.2]) ↔ a = b := by
  obtain ⟨a1, a2⟩ := a
  obtain ⟨b1, b2⟩ := b
  simp
theorem sMeet_ok {a : Int × Int} {b : Int × Int} : VF Tryz.prog OA 185 [.v y29 a, .v y29 b] (B (meetB a b)) := by
  refine VF.enter Tryz.func185 rfl (fun _ _ => rfl) rfl ?_
  show VC _ _ _ _ _ [(0, .v y29 a), (1, .v y29 b)] [] _
  refine VC.seq ?_
  refine VC.text ?_
  refine VO.new (.box) ?_
  refine VO.new (.box) ?_
  refine VO.c (.assign rfl) ?_
  refine VO.go ?_
  refine VC.seq ?_
  refine VC.drawn ?_
  refine VD.r [] (.ld vt29) (.inl rfl) ?_
  refine VD.call rfl rfl (VF.call (sEnds_ok )) ?_
  refine VD.r [] (.ld vt29) (.inl rfl) ?_
  refine VD.call rfl rfl (VF.call (sEnds_ok )) ?_
  refine VD.c (.arrCmp (xs := [a.1, a.2]) (ys := [b.1, b.2]) (.inl ⟨rfl, rfl⟩) rfl rfl rfl rfl (by kernel_rfl) rfl) ?_
  refine VD.c (.move rfl) ?_
  refine VD.nw [] ?_
  refine VD.splitD (x := 10) rfl (fun g1_5 => ?_) (fun g1_5 => ?_)
  · refine VD.skip ?_
    refine VD.skip ?_
    refine VD.skip ?_
    refine VD.skip ?_
    refine VD.skip ?_
    refine VD.skip ?_
    refine VD.nw [] ?_
    refine VD.skip ?_
    refine VD.skip ?_
    refine VD.skip ?_
    refine VD.skip ?_
    refine VD.skip ?_
    refine VD.c (.pickT rfl rfl) ?_
    refine VD.c (.assign rfl) ?_
    refine VD.go ?_
    refine VC.ret ?_
    exact VEnd.one rfl evT (pvE (by simp only [arr2] at *; simp [meetB, *]))
  · refine VD.c (.fa (.l .o)) ?_
    refine VD.r [] (.ld vt3) (.inl rfl) ?_
    refine VD.c (.fa (.l .o)) ?_
    refine VD.r [] (.ld vt3) (.inl rfl) ?_
    refine VD.r [] (.max) (.inl rfl) ?_
    refine VD.c (.fa (.r .o)) ?_
    refine VD.nw [] ?_
    refine VD.r [] (.ld vt3) (.inl rfl) ?_
    refine VD.c (.fa (.r .o)) ?_
    refine VD.r [] (.ld vt3) (.inl rfl) ?_
    refine VD.r [] (.min) (.inl rfl) ?_
    refine VD.c (.lss) ?_
    refine VD.c (.pickF rfl rfl) ?_
    refine VD.c (.assign rfl) ?_
    refine VD.go ?_
    refine VC.ret ?_
    exact VEnd.one rfl evT (pvE (by simp only [arr2] at *; simp [meetB, *]))
theorem sReason1_ok {a : ByteArray × ByteArray × ByteArray × (List ByteArray) × (Int × Int)} {b : ByteArray × ByteArray × ByteArray × (List ByteArray) × (Int × Int)} (ha : a.2.2.2.1.length < 1000000) (hb : b.2.2.2.1.length < 1000000) : VF Tryz.prog OA 183 [.v y35 a, .v y35 b] (B (decide (a.1 = b.1))) := by
  refine VF.enter Tryz.func183 rfl (fun _ _ => rfl) rfl ?_
  show VC _ _ _ _ _ [(0, .v y35 a), (1, .v y35 b)] [] _
  refine VC.seq ?_
  refine VC.text ?_
  refine VO.new (.box) ?_
  refine VO.new (.box) ?_
  refine VO.c (.assign rfl) ?_
  refine VO.go ?_
  refine VC.seq ?_
  refine VC.text ?_
  refine VO.c (.fa (.l .o)) ?_
  refine VO.r (.ld vt9) ?_
  refine VO.c (.fa (.l .o)) ?_
  refine VO.r (.ld vt9) ?_
  refine VO.c (.seql) ?_
  refine VO.c (.assign rfl) ?_
  refine VO.go ?_
  refine VC.ret ?_
  exact VEnd.one rfl evT (pvE (by rfl))
theorem sReason2_ok {a : ByteArray × ByteArray × ByteArray × (List ByteArray) × (Int × Int)} {b : ByteArray × ByteArray × ByteArray × (List ByteArray) × (Int × Int)} (ha : a.2.2.2.1.length < 1000000) (hb : b.2.2.2.1.length < 1000000) : VF Tryz.prog OA 184 [.v y35 a, .v y35 b] (B (meetB a.2.2.2.2 b.2.2.2.2 && decide (a.2.1 = b.2.1))) := by
  refine VF.enter Tryz.func184 rfl (fun _ _ => rfl) rfl ?_
  show VC _ _ _ _ _ [(0, .v y35 a), (1, .v y35 b)] [] _
  refine VC.seq ?_
  refine VC.text ?_
  refine VO.new (.box) ?_
  refine VO.new (.box) ?_
  refine VO.c (.assign rfl) ?_
  refine VO.go ?_
  refine VC.seq ?_
  refine VC.text ?_
  refine VO.c (.fa (.r (.r (.r (.r .o))))) ?_
  refine VO.r (.ld vt29) ?_
  refine VO.c (.fa (.r (.r (.r (.r .o))))) ?_
  refine VO.r (.ld vt29) ?_
  refine VO.call rfl rfl (VF.call (sMeet_ok )) ?_
  refine VO.c (.move rfl) ?_
  refine VO.cg (r := meetB a.2.2.2.2 b.2.2.2.2) (w := true) [] trivial (fun hgd => have g1_5 : meetB a.2.2.2.2 b.2.2.2.2 = true := (by simpa using hgd); (.fa (.r (.l .o)))) ?_
  refine VO.rg (r := meetB a.2.2.2.2 b.2.2.2.2) (w := true) [(11, .p .str a.2.1)] ⟨rfl, trivial⟩ (fun hgd => have g1_5 : meetB a.2.2.2.2 b.2.2.2.2 = true := (by simpa using hgd); (.ld vt9)) ?_
  refine VO.cg (r := meetB a.2.2.2.2 b.2.2.2.2) (w := true) [] trivial (fun hgd => have g1_5 : meetB a.2.2.2.2 b.2.2.2.2 = true := (by simpa using hgd); (.fa (.r (.l .o)))) ?_
  refine VO.rg (r := meetB a.2.2.2.2 b.2.2.2.2) (w := true) [(13, .p .str b.2.1)] ⟨rfl, trivial⟩ (fun hgd => have g1_5 : meetB a.2.2.2.2 b.2.2.2.2 = true := (by simpa using hgd); (.ld vt9)) ?_
  refine VO.cg (r := meetB a.2.2.2.2 b.2.2.2.2) (w := true) [(12, St a.2.1), (14, St b.2.1)] ⟨rfl, rfl, trivial⟩ (fun hgd => have g1_5 : meetB a.2.2.2.2 b.2.2.2.2 = true := (by simpa using hgd); (.seql)) ?_
  refine VO.c (.and) ?_
  refine VO.c (.assign rfl) ?_
  refine VO.go ?_
  refine VC.ret ?_
  exact VEnd.one rfl evT (pvE (by rfl))
theorem sReason3_ok {a : ByteArray × ByteArray × ByteArray × (List ByteArray) × (Int × Int)} {b : ByteArray × ByteArray × ByteArray × (List ByteArray) × (Int × Int)} (ha : a.2.2.2.1.length < 1000000) (hb : b.2.2.2.1.length < 1000000) : VF Tryz.prog OA 186 [.v y35 a, .v y35 b] (B (meetB a.2.2.2.2 b.2.2.2.2 && commonB a.2.2.2.1 b.2.2.2.1)) := by
  refine VF.enter Tryz.func186 rfl (fun _ _ => rfl) rfl ?_
  show VC _ _ _ _ _ [(0, .v y35 a), (1, .v y35 b)] [] _
  refine VC.seq ?_
  refine VC.text ?_
  refine VO.new (.box) ?_
  refine VO.new (.box) ?_
  refine VO.c (.assign rfl) ?_
  refine VO.go ?_
  refine VC.seq ?_
  refine VC.text ?_
  refine VO.c (.fa (.r (.r (.r (.r .o))))) ?_
  refine VO.r (.ld vt29) ?_
  refine VO.c (.fa (.r (.r (.r (.r .o))))) ?_
  refine VO.r (.ld vt29) ?_
  refine VO.call rfl rfl (VF.call (sMeet_ok )) ?_
  refine VO.c (.move rfl) ?_
  refine VO.rg (r := meetB a.2.2.2.2 b.2.2.2.2) (w := true) [] trivial (fun hgd => have g1_5 : meetB a.2.2.2.2 b.2.2.2.2 = true := (by simpa using hgd); (.ld vt35)) ?_
  refine VO.rg (r := meetB a.2.2.2.2 b.2.2.2.2) (w := true) [] trivial (fun hgd => have g1_5 : meetB a.2.2.2.2 b.2.2.2.2 = true := (by simpa using hgd); (.ld vt35)) ?_
  refine VO.callg (r0 := meetB a.2.2.2.2 b.2.2.2.2) (w := true) [(11, .v y35 a), (12, .v y35 b)] ⟨rfl, rfl, trivial⟩ rfl rfl .same .refl rfl (fun hgd => have g1_5 : meetB a.2.2.2.2 b.2.2.2.2 = true := (by simpa using hgd); VF.call (sShares_ok ha hb)) ?_
  refine VO.c (.and) ?_
  refine VO.c (.assign rfl) ?_
  refine VO.go ?_
  refine VC.ret ?_
  exact VEnd.one rfl evT (pvE (by rfl))
theorem sReason4_ok {a : ByteArray × ByteArray × ByteArray × (List ByteArray) × (Int × Int)} {b : ByteArray × ByteArray × ByteArray × (List ByteArray) × (Int × Int)} (ha : a.2.2.2.1.length < 1000000) (hb : b.2.2.2.1.length < 1000000) : VF Tryz.prog OA 188 [.v y35 a, .v y35 b] (B (meetB a.2.2.2.2 b.2.2.2.2 && (hasB a.2.2.2.1 b.2.2.1 || hasB b.2.2.2.1 a.2.2.1))) := by
  refine VF.enter Tryz.func188 rfl (fun _ _ => rfl) rfl ?_
  show VC _ _ _ _ _ [(0, .v y35 a), (1, .v y35 b)] [] _
  refine VC.seq ?_
  refine VC.text ?_
  refine VO.new (.box) ?_
  refine VO.new (.box) ?_
  refine VO.c (.assign rfl) ?_
  refine VO.go ?_
  refine VC.seq ?_
  refine VC.text ?_
  refine VO.c (.fa (.r (.r (.r (.r .o))))) ?_
  refine VO.r (.ld vt29) ?_
  refine VO.c (.fa (.r (.r (.r (.r .o))))) ?_
  refine VO.r (.ld vt29) ?_
  refine VO.call rfl rfl (VF.call (sMeet_ok )) ?_
  refine VO.c (.move rfl) ?_
  refine VO.splitB (x := 10) rfl (fun g1_5 => ?_) (fun g1_5 => ?_)
  · refine VO.c (.fa (.r (.r (.r (.l .o))))) ?_
    refine VO.r (.ld vt27) ?_
    refine VO.c (.fa (.r (.r (.l .o)))) ?_
    refine VO.r (.ld vt9) ?_
    refine VO.call rfl rfl (VF.call (zContains_ok ha)) ?_
    refine VO.c (.move rfl) ?_
    refine VO.cg (r := hasB a.2.2.2.1 b.2.2.1) (w := false) [] trivial (fun hgd => have g1_11 : hasB a.2.2.2.1 b.2.2.1 = false := (by simpa using hgd); (.fa (.r (.r (.r (.l .o)))))) ?_
    refine VO.rg (r := hasB a.2.2.2.1 b.2.2.1) (w := false) [(17, .p (.sl .str) b.2.2.2.1)] ⟨rfl, trivial⟩ (fun hgd => have g1_11 : hasB a.2.2.2.1 b.2.2.1 = false := (by simpa using hgd); (.ld vt27)) ?_
    refine VO.cg (r := hasB a.2.2.2.1 b.2.2.1) (w := false) [] trivial (fun hgd => have g1_11 : hasB a.2.2.2.1 b.2.2.1 = false := (by simpa using hgd); (.fa (.r (.r (.l .o))))) ?_
    refine VO.rg (r := hasB a.2.2.2.1 b.2.2.1) (w := false) [(19, .p .str a.2.2.1)] ⟨rfl, trivial⟩ (fun hgd => have g1_11 : hasB a.2.2.2.1 b.2.2.1 = false := (by simpa using hgd); (.ld vt9)) ?_
    refine VO.callg (r0 := hasB a.2.2.2.1 b.2.2.1) (w := false) [(18, .v (.sl .str) b.2.2.2.1), (20, St a.2.2.1)] ⟨rfl, rfl, trivial⟩ rfl rfl .same .refl rfl (fun hgd => have g1_11 : hasB a.2.2.2.1 b.2.2.1 = false := (by simpa using hgd); VF.call (zContains_ok hb)) ?_
    refine VO.c (.or) ?_
    refine VO.c (.pickT rfl rfl) ?_
    refine VO.c (.assign rfl) ?_
    refine VO.go ?_
    refine VC.ret ?_
    exact VEnd.one rfl evT (pvE (by simp [*]))
  · refine VO.skip ?_
    refine VO.skip ?_
    refine VO.skip ?_
    refine VO.skip ?_
    refine VO.skip ?_
    refine VO.skip ?_
    refine VO.skip ?_
    refine VO.skip ?_
    refine VO.skip ?_
    refine VO.skip ?_
    refine VO.skip ?_
    refine VO.skip ?_
    refine VO.c (.pickF rfl rfl) ?_
    refine VO.c (.assign rfl) ?_
    refine VO.go ?_
    refine VC.ret ?_
    exact VEnd.one rfl evT (pvE (by simp [*]))
def reasonIx (a b : Permit) : Nat :=
  if decide (a.1 = b.1) = true then 0
  else if (meetB a.2.2.2.2 b.2.2.2.2 && decide (a.2.1 = b.2.1)) = true then 1
  else if (meetB a.2.2.2.2 b.2.2.2.2 && commonB a.2.2.2.1 b.2.2.2.1) = true then 2
  else if (meetB a.2.2.2.2 b.2.2.2.2 && (hasB a.2.2.2.1 b.2.2.1 || hasB b.2.2.2.1 a.2.2.1)) = true then 3
  else 4
def nameR : Nat → ByteArray
  | 0 => ⟨#[110, 97, 109, 101]⟩
  | 1 => ⟨#[99, 114, 101, 119]⟩
  | 2 => ⟨#[108, 111, 99, 107]⟩
  | 3 => ⟨#[103, 97, 116, 101]⟩
  | _ => ByteArray.empty
end Go.Proofs
namespace Go.Proofs
open Go.Fs
set_option linter.unusedVariables false
abbrev y140 : Ty := (.pair .str (.pair .fn (.int .i64)))
abbrev y205 : Ty := (.pair (.pair .str (.pair .fn (.int .i64))) (.pair (.pair .str (.pair .fn (.int .i64))) (.pair (.pair .str (.pair .fn (.int .i64))) (.pair .str (.pair .fn (.int .i64))))))
theorem vt138 : ValT Tryz.prog 138 .fn := valT_of (by kernel_rfl)
theorem vt140 : ValT Tryz.prog 140 y140 := valT_of (by kernel_rfl)
theorem vt205 : ValT Tryz.prog 205 y205 := valT_of (by kernel_rfl)
theorem zt140 : ZerT Tryz.prog 140 y140 := zerT_of (z := .agg #[.string ByteArray.empty, .nilFunc, .int .i64 0]) (by kernel_rfl) rfl rfl
theorem zt205 : ZerT Tryz.prog 205 y205 := zerT_of (z := .agg #[.string ByteArray.empty, .nilFunc, .int .i64 0, .string ByteArray.empty, .nilFunc, .int .i64 0, .string ByteArray.empty, .nilFunc, .int .i64 0, .string ByteArray.empty, .nilFunc, .int .i64 0]) (by kernel_rfl) rfl rfl
theorem bt140 : BldT Tryz.prog 140 y140 [(0, 1), (1, 1), (2, 1)] := bldT_of zt140 rfl (by kernel_rfl)
theorem bt205 : BldT Tryz.prog 205 y205 [(0, 3), (3, 3), (6, 3), (9, 3)] := bldT_of zt205 rfl (by kernel_rfl)
theorem sReasons_ok  : VF Tryz.prog OA 151 [] (.v y205 ((⟨#[110, 97, 109, 101]⟩, some 183, 9), (⟨#[99, 114, 101, 119]⟩, some 184, 15), (⟨#[108, 111, 99, 107]⟩, some 186, 33), (⟨#[103, 97, 116, 101]⟩, some 188, 33))) := by
  refine VF.enter Tryz.func151 rfl (fun _ _ => rfl) rfl ?_
  show VC _ _ _ _ _ [] [] _
  refine VC.seq ?_
  refine VC.text ?_
  refine VO.cell (.alloc zt205) ?_
  intro ww1
  refine VO.go ?_
  refine VC.seq ?_
  refine VC.text ?_
  refine VO.c (.buildF (⟨#[110, 97, 109, 101]⟩, some 183, (9 : Int)) bt140 (.same (.fn (.same .nil)))) ?_
  refine VO.c (.buildF (⟨#[99, 114, 101, 119]⟩, some 184, (15 : Int)) bt140 (.same (.fn (.same .nil)))) ?_
  refine VO.c (.buildF (⟨#[108, 111, 99, 107]⟩, some 186, (33 : Int)) bt140 (.same (.fn (.same .nil)))) ?_
  refine VO.c (.buildF (⟨#[103, 97, 116, 101]⟩, some 188, (33 : Int)) bt140 (.same (.fn (.same .nil)))) ?_
  refine VO.c (.build ((⟨#[110, 97, 109, 101]⟩, some 183, (9 : Int)), (⟨#[99, 114, 101, 119]⟩, some 184, (15 : Int)), (⟨#[108, 111, 99, 107]⟩, some 186, (33 : Int)), (⟨#[103, 97, 116, 101]⟩, some 188, (33 : Int))) bt205) ?_
  refine VO.setV (cs' := [St (⟨#[110, 97, 109, 101]⟩), .v .fn (some 183), I (9 : Int), St (⟨#[99, 114, 101, 119]⟩), .v .fn (some 184), I (15 : Int), St (⟨#[108, 111, 99, 107]⟩), .v .fn (some 186), I (33 : Int), St (⟨#[103, 97, 116, 101]⟩), .v .fn (some 188), I (33 : Int)]) vt205 .v ?_
  refine VO.go ?_
  refine VC.ret ?_
  exact VEnd.one rfl (.cell (x := ((⟨#[110, 97, 109, 101]⟩, some 183, (9 : Int)), (⟨#[99, 114, 101, 119]⟩, some 184, (15 : Int)), (⟨#[108, 111, 99, 107]⟩, some 186, (33 : Int)), (⟨#[103, 97, 116, 101]⟩, some 188, (33 : Int)))) rfl m0 vt205 .refl) (pvE (by first | rfl | simp))
def reasonR : Nat → ByteArray × Option Nat × Int
  | 0 => (⟨#[110, 97, 109, 101]⟩, some 183, 9)
  | 1 => (⟨#[99, 114, 101, 119]⟩, some 184, 15)
  | 2 => (⟨#[108, 111, 99, 107]⟩, some 186, 33)
  | 3 => (⟨#[103, 97, 116, 101]⟩, some 188, 33)
  | _ => (ByteArray.empty, none, 0)
theorem sExcl_ok {a : ByteArray × ByteArray × ByteArray × (List ByteArray) × (Int × Int)} {b : ByteArray × ByteArray × ByteArray × (List ByteArray) × (Int × Int)} (ha : a.2.2.2.1.length < 1000000) (hb : b.2.2.2.1.length < 1000000) : VF Tryz.prog OA 90 [.v y35 a, .v y35 b] (.v y140 (reasonR (reasonIx a b))) := by
  refine VF.enter Tryz.func90 rfl (fun _ _ => rfl) rfl ?_
  show VC _ _ _ _ _ [(0, .v y35 a), (1, .v y35 b)] [] _
  refine VC.seq ?_
  refine VC.text ?_
  refine VO.new (.box) ?_
  refine VO.new (.box) ?_
  refine VO.cell (.alloc zt140) ?_
  intro ww2
  refine VO.go ?_
  refine VC.seq ?_
  refine VC.seq ?_
  refine VC.text ?_
  refine VO.call rfl rfl (VF.call (sReasons_ok )) ?_
  refine VO.c (.move rfl) ?_
  refine VO.go ?_
  refine VC.block ?_
  refine VC.unroll ?_
  refine VC.seq ?_
  refine VC.text ?_
  refine VO.c (.lss) ?_
  refine VO.go ?_
  refine VC.seq ?_
  refine VC.condT rfl ?_
  refine VC.skip ?_
  show VC _ _ _ _ _ _ _ _
  refine VC.seq ?_
  refine VC.block ?_
  refine VC.seq ?_
  refine VC.text ?_
  refine VO.c (.ixA 0 (τ' := y140) (dy := (⟨#[110, 97, 109, 101]⟩, some 183, 9)) (.l .o)) ?_
  refine VO.cell (.alloc zt140) ?_
  intro ww3
  refine VO.setV (cs' := [St (⟨#[110, 97, 109, 101]⟩), .v .fn (some 183), I 9]) vt140 .v ?_
  refine VO.shut [(6, .p y140 (⟨#[110, 97, 109, 101]⟩, some 183, 9))] (.cons rfl (.var m0 .refl) .nil) ?_
  refine VO.go ?_
  refine VC.seq ?_
  refine VC.text ?_
  refine VO.c (.fa (τ' := .fn) (dy := some 183) (.r (.l .o))) ?_
  refine VO.r (.ld vt138) ?_
  refine VO.r (.ld vt35) ?_
  refine VO.r (.ld vt35) ?_
  refine VO.callF rfl rfl rfl (VF.call (sReason1_ok ha hb)) ?_
  refine VO.go ?_
  refine VC.condB rfl (fun c4 => ?_) (fun c4 => ?_)
  · try simp only [Bool.and_eq_true, Bool.or_eq_true, Bool.and_eq_false_iff, Bool.or_eq_false_iff, Bool.not_eq_true', Bool.not_eq_false', decide_eq_true_eq, decide_eq_false_iff_not] at c4
    refine VC.seq ?_
    refine VC.text ?_
    refine VO.r (.ld vt140) ?_
    refine VO.setV (cs' := [St (⟨#[110, 97, 109, 101]⟩), .v .fn (some 183), I 9]) vt140 .v ?_
    refine VO.go ?_
    refine VC.ret ?_
    exact VEnd.one rfl (.cell (x := (⟨#[110, 97, 109, 101]⟩, some 183, 9)) rfl m0 vt140 .refl) (pvE (by cases h1 : meetB a.2.2.2.2 b.2.2.2.2 <;> simp_all [reasonIx] <;> rfl))
  · try simp only [Bool.and_eq_true, Bool.or_eq_true, Bool.and_eq_false_iff, Bool.or_eq_false_iff, Bool.not_eq_true', Bool.not_eq_false', decide_eq_true_eq, decide_eq_false_iff_not] at c4
    refine VC.skip ?_
    show VC _ _ _ _ _ _ _ _
    refine VC.text ?_
    refine VO.c (.add rfl rfl (by decide)) ?_
    refine VO.c (.move rfl) ?_
    refine VO.nil ?_
    show VC _ _ _ _ _ _ _ _
    refine VC.unroll ?_
    refine VC.seq ?_
    refine VC.text ?_
    refine VO.c (.lss) ?_
    refine VO.go ?_
    refine VC.seq ?_
    refine VC.condT rfl ?_
    refine VC.skip ?_
    show VC _ _ _ _ _ _ _ _
    refine VC.seq ?_
    refine VC.block ?_
    refine VC.seq ?_
    refine VC.text ?_
    refine VO.c (.ixA 1 (τ' := y140) (dy := (⟨#[99, 114, 101, 119]⟩, some 184, 15)) (.r (.l .o))) ?_
    refine VO.cell (.alloc zt140) ?_
    intro ww4
    refine VO.setV (cs' := [St (⟨#[99, 114, 101, 119]⟩), .v .fn (some 184), I 15]) vt140 .v ?_
    refine VO.shut [(6, .p y140 (⟨#[99, 114, 101, 119]⟩, some 184, 15))] (.cons rfl (.var m0 .refl) .nil) ?_
    refine VO.go ?_
    refine VC.seq ?_
    refine VC.text ?_
    refine VO.c (.fa (τ' := .fn) (dy := some 184) (.r (.l .o))) ?_
    refine VO.r (.ld vt138) ?_
    refine VO.r (.ld vt35) ?_
    refine VO.r (.ld vt35) ?_
    refine VO.callF rfl rfl rfl (VF.call (sReason2_ok ha hb)) ?_
    refine VO.go ?_
    refine VC.condB rfl (fun c4 => ?_) (fun c4 => ?_)
    · try simp only [Bool.and_eq_true, Bool.or_eq_true, Bool.and_eq_false_iff, Bool.or_eq_false_iff, Bool.not_eq_true', Bool.not_eq_false', decide_eq_true_eq, decide_eq_false_iff_not] at c4
      refine VC.seq ?_
      refine VC.text ?_
      refine VO.r (.ld vt140) ?_
      refine VO.setV (cs' := [St (⟨#[99, 114, 101, 119]⟩), .v .fn (some 184), I 15]) vt140 .v ?_
      refine VO.go ?_
      refine VC.ret ?_
      exact VEnd.one rfl (.cell (x := (⟨#[99, 114, 101, 119]⟩, some 184, 15)) rfl m0 vt140 .refl) (pvE (by cases h1 : meetB a.2.2.2.2 b.2.2.2.2 <;> simp_all [reasonIx] <;> rfl))
    · try simp only [Bool.and_eq_true, Bool.or_eq_true, Bool.and_eq_false_iff, Bool.or_eq_false_iff, Bool.not_eq_true', Bool.not_eq_false', decide_eq_true_eq, decide_eq_false_iff_not] at c4
      refine VC.skip ?_
      show VC _ _ _ _ _ _ _ _
      refine VC.text ?_
      refine VO.c (.add rfl rfl (by decide)) ?_
      refine VO.c (.move rfl) ?_
      refine VO.nil ?_
      show VC _ _ _ _ _ _ _ _
      refine VC.unroll ?_
      refine VC.seq ?_
      refine VC.text ?_
      refine VO.c (.lss) ?_
      refine VO.go ?_
      refine VC.seq ?_
      refine VC.condT rfl ?_
      refine VC.skip ?_
      show VC _ _ _ _ _ _ _ _
      refine VC.seq ?_
      refine VC.block ?_
      refine VC.seq ?_
      refine VC.text ?_
      refine VO.c (.ixA 2 (τ' := y140) (dy := (⟨#[108, 111, 99, 107]⟩, some 186, 33)) (.r (.r (.l .o)))) ?_
      refine VO.cell (.alloc zt140) ?_
      intro ww5
      refine VO.setV (cs' := [St (⟨#[108, 111, 99, 107]⟩), .v .fn (some 186), I 33]) vt140 .v ?_
      refine VO.shut [(6, .p y140 (⟨#[108, 111, 99, 107]⟩, some 186, 33))] (.cons rfl (.var m0 .refl) .nil) ?_
      refine VO.go ?_
      refine VC.seq ?_
      refine VC.text ?_
      refine VO.c (.fa (τ' := .fn) (dy := some 186) (.r (.l .o))) ?_
      refine VO.r (.ld vt138) ?_
      refine VO.r (.ld vt35) ?_
      refine VO.r (.ld vt35) ?_
      refine VO.callF rfl rfl rfl (VF.call (sReason3_ok ha hb)) ?_
      refine VO.go ?_
      refine VC.condB rfl (fun c4 => ?_) (fun c4 => ?_)
      · try simp only [Bool.and_eq_true, Bool.or_eq_true, Bool.and_eq_false_iff, Bool.or_eq_false_iff, Bool.not_eq_true', Bool.not_eq_false', decide_eq_true_eq, decide_eq_false_iff_not] at c4
        refine VC.seq ?_
        refine VC.keep [(2, .p y35 a), (3, .p y35 b), (4, .raw ww2), (6, .p y140 (⟨#[108, 111, 99, 107]⟩, some 186, 33)), (7, .v y205 ((⟨#[110, 97, 109, 101]⟩, some 183, 9), (⟨#[99, 114, 101, 119]⟩, some 184, 15), (⟨#[108, 111, 99, 107]⟩, some 186, 33), (⟨#[103, 97, 116, 101]⟩, some 188, 33))), (8, I (2 : Int))] ⟨rfl, rfl, rfl, rfl, rfl, rfl, trivial⟩ ?_
        refine VC.text ?_
        refine VO.r (.ld vt140) ?_
        refine VO.setV (cs' := [St (⟨#[108, 111, 99, 107]⟩), .v .fn (some 186), I 33]) vt140 .v ?_
        refine VO.go ?_
        refine VC.ret ?_
        exact VEnd.one rfl (.cell (x := (⟨#[108, 111, 99, 107]⟩, some 186, 33)) rfl m0 vt140 .refl) (pvE (by cases h1 : meetB a.2.2.2.2 b.2.2.2.2 <;> simp_all [reasonIx] <;> rfl))
      · try simp only [Bool.and_eq_true, Bool.or_eq_true, Bool.and_eq_false_iff, Bool.or_eq_false_iff, Bool.not_eq_true', Bool.not_eq_false', decide_eq_true_eq, decide_eq_false_iff_not] at c4
        refine VC.skip ?_
        show VC _ _ _ _ _ _ _ _
        refine VC.keep [(2, .p y35 a), (3, .p y35 b), (4, .raw ww2), (7, .v y205 ((⟨#[110, 97, 109, 101]⟩, some 183, 9), (⟨#[99, 114, 101, 119]⟩, some 184, 15), (⟨#[108, 111, 99, 107]⟩, some 186, 33), (⟨#[103, 97, 116, 101]⟩, some 188, 33))), (8, I (2 : Int))] ⟨rfl, rfl, rfl, rfl, rfl, trivial⟩ ?_
        refine VC.text ?_
        refine VO.c (.add rfl rfl (by decide)) ?_
        refine VO.c (.move rfl) ?_
        refine VO.nil ?_
        show VC _ _ _ _ _ _ _ _
        refine VC.unroll ?_
        refine VC.seq ?_
        refine VC.text ?_
        refine VO.c (.lss) ?_
        refine VO.go ?_
        refine VC.seq ?_
        refine VC.condT rfl ?_
        refine VC.skip ?_
        show VC _ _ _ _ _ _ _ _
        refine VC.seq ?_
        refine VC.block ?_
        refine VC.seq ?_
        refine VC.text ?_
        refine VO.c (.ixA 3 (τ' := y140) (dy := (⟨#[103, 97, 116, 101]⟩, some 188, 33)) (.r (.r (.r .o)))) ?_
        refine VO.cell (.alloc zt140) ?_
        intro ww6
        refine VO.setV (cs' := [St (⟨#[103, 97, 116, 101]⟩), .v .fn (some 188), I 33]) vt140 .v ?_
        refine VO.shut [(6, .p y140 (⟨#[103, 97, 116, 101]⟩, some 188, 33))] (.cons rfl (.var m0 .refl) .nil) ?_
        refine VO.go ?_
        refine VC.seq ?_
        refine VC.text ?_
        refine VO.c (.fa (τ' := .fn) (dy := some 188) (.r (.l .o))) ?_
        refine VO.r (.ld vt138) ?_
        refine VO.r (.ld vt35) ?_
        refine VO.r (.ld vt35) ?_
        refine VO.callF rfl rfl rfl (VF.call (sReason4_ok ha hb)) ?_
        refine VO.go ?_
        refine VC.condB rfl (fun c4 => ?_) (fun c4 => ?_)
        · try simp only [Bool.and_eq_true, Bool.or_eq_true, Bool.and_eq_false_iff, Bool.or_eq_false_iff, Bool.not_eq_true', Bool.not_eq_false', decide_eq_true_eq, decide_eq_false_iff_not] at c4
          refine VC.seq ?_
          refine VC.text ?_
          refine VO.r (.ld vt140) ?_
          refine VO.setV (cs' := [St (⟨#[103, 97, 116, 101]⟩), .v .fn (some 188), I 33]) vt140 .v ?_
          refine VO.go ?_
          refine VC.ret ?_
          exact VEnd.one rfl (.cell (x := (⟨#[103, 97, 116, 101]⟩, some 188, 33)) rfl m0 vt140 .refl) (pvE (by cases h1 : meetB a.2.2.2.2 b.2.2.2.2 <;> simp_all [reasonIx] <;> rfl))
        · try simp only [Bool.and_eq_true, Bool.or_eq_true, Bool.and_eq_false_iff, Bool.or_eq_false_iff, Bool.not_eq_true', Bool.not_eq_false', decide_eq_true_eq, decide_eq_false_iff_not] at c4
          refine VC.skip ?_
          show VC _ _ _ _ _ _ _ _
          refine VC.text ?_
          refine VO.c (.add rfl rfl (by decide)) ?_
          refine VO.c (.move rfl) ?_
          refine VO.nil ?_
          show VC _ _ _ _ _ _ _ _
          refine VC.unroll ?_
          refine VC.seq ?_
          refine VC.text ?_
          refine VO.c (.lss) ?_
          refine VO.go ?_
          refine VC.seq ?_
          refine VC.condF rfl ?_
          refine VC.exit ?_
          show VC _ _ _ _ _ _ _ _
          refine VC.seq ?_
          refine VC.text ?_
          refine VO.c (.build (ByteArray.empty, none, 0) bt140) ?_
          refine VO.setV (cs' := [St ByteArray.empty, .v .fn none, I 0]) vt140 .v ?_
          refine VO.go ?_
          refine VC.ret ?_
          exact VEnd.one rfl (.cell (x := (ByteArray.empty, none, 0)) rfl m0 vt140 .refl) (pvE (by cases h1 : meetB a.2.2.2.2 b.2.2.2.2 <;> simp_all [reasonIx] <;> rfl))
end Go.Proofs
namespace Go.Proofs
open Go.Fs
set_option linter.unusedVariables false
abbrev y149 : Ty := (.pair (.pair (.int .i64) (.int .i64)) (.int .i64))
theorem vt149 : ValT Tryz.prog 149 y149 := valT_of (by kernel_rfl)
theorem zt31 : ZerT Tryz.prog 31 y31 := zerT_of (z := .agg #[.string ByteArray.empty, .string ByteArray.empty, .string ByteArray.empty, .slice none 0 0, .int .i64 0, .int .i64 0]) (by kernel_rfl) rfl rfl
theorem zt149 : ZerT Tryz.prog 149 y149 := zerT_of (z := .agg #[.int .i64 0, .int .i64 0, .int .i64 0]) (by kernel_rfl) rfl rfl
theorem bt35 : BldT Tryz.prog 35 y35 [(0, 1), (1, 1), (2, 1), (3, 1), (4, 2)] := bldT_of zt35 rfl (by kernel_rfl)
/-! ## The inputs -/
theorem any_all {α : Type} {F : α → Bool} {l : List α} {j : Nat} (hj : j < l.length) : (l.drop j).all F = (F l[j] && (l.drop (j + 1)).all F) := by
  rw [List.drop_eq_getElem_cons hj, List.all_cons]
def shortW (l : List ByteArray) : Bool := l.all fun w => decide (w.size ≤ 60)
theorem rShort_ok {l : List ByteArray} (hl : l.length < 1000000) : VF Tryz.prog OA 81 [.v (.sl .str) l] (B (shortW l)) := by
  refine VF.enter Tryz.func81 rfl (fun _ _ => rfl) rfl ?_
  show VC _ _ _ _ _ [(0, .v (.sl .str) l)] [] _
  refine VC.seq ?_
  refine VC.text ?_
  refine VO.c (.assign rfl) ?_
  refine VO.go ?_
  refine VC.seq ?_
  refine VC.seq ?_
  refine VC.text ?_
  refine VO.c (.assign rfl) ?_
  refine VO.go ?_
  refine VC.block ?_
  refine VC.keep [(0, .v (.sl .str) l), (3, I ((0 : Nat) : Int))] ⟨rfl, rfl, trivial⟩ ?_
  refine VC.loop (I := fun kk ff ss => ∃ (j : Nat), kk = l.length - j ∧ ff = [(0, .v (.sl .str) l), (3, I ((j : Nat) : Int))] ∧ ss = [] ∧ (j ≤ l.length) ∧ (shortW l = shortW (l.drop j))) ?_ _ _ _ ⟨0, rfl, rfl, rfl, Nat.zero_le _, (by rfl)⟩
  rintro kk ff ss ⟨j, hk0, rfl, rfl, hj, hi⟩
  refine VC.seq ?_
  refine VC.seq ?_
  refine VC.text ?_
  refine VO.c (.move rfl) ?_
  refine VO.c (.move rfl) ?_
  refine VO.r (.len el27) ?_
  refine VO.c (.lss) ?_
  refine VO.go ?_
  refine VC.condD rfl (fun c2 => ?_) (fun c2 => ?_)
  · refine VC.skip ?_
    show VC _ _ _ _ _ _ _ _
    refine VC.seq ?_
    refine VC.block ?_
    refine VC.seq ?_
    refine VC.text ?_
    refine VO.c (.move rfl) ?_
    refine VO.c (.move rfl) ?_
    refine VO.c (.ix (j := j) rfl rfl el27 (by omega)) ?_
    refine VO.r (.ld vt9) ?_
    refine VO.r (.lenS) ?_
    refine VO.c (.gtr) ?_
    refine VO.go ?_
    refine VC.condD rfl (fun c4 => ?_) (fun c4 => ?_)
    · refine VC.seq ?_
      refine VC.text ?_
      refine VO.c (.assign rfl) ?_
      refine VO.go ?_
      refine VC.ret ?_
      exact VEnd.one rfl evT (pvE (by rw [hi, shortW, any_all (by omega), decide_eq_false (by omega)] <;> rfl))
    · refine VC.skip ?_
      show VC _ _ _ _ _ _ _ _
      refine VC.text ?_
      refine VO.c (.move rfl) ?_
      refine VO.c (.add rfl rfl (by omega)) ?_
      refine VO.c (.assign rfl) ?_
      refine VO.nil ?_
      refine ⟨_, [(0, .v (.sl .str) l), (3, I (((j + 1) : Nat) : Int))], ?_, ⟨rfl, rfl, trivial⟩, (j + 1), rfl, rfl, rfl, (by omega), (by rw [hi, shortW, any_all (by omega), decide_eq_true (by omega)] <;> rfl)⟩
      omega
  · refine VC.exit ?_
    show VC _ _ _ _ _ _ _ _
    refine VC.seq ?_
    refine VC.text ?_
    refine VO.c (.assign rfl) ?_
    refine VO.go ?_
    refine VC.ret ?_
    exact VEnd.one rfl evT (pvE (by rw [hi, shortW, List.drop_eq_nil_of_le (by omega)] <;> rfl))
def shortP (p : Permit) : Bool := !((decide (9 < (p.2.2.2.1.length : Int)) || !shortW p.2.2.2.1) || !shortW [p.1, p.2.1, p.2.2.1]) && !(decide (spanE p.2.2.2.2 = 0) && decide (40 < p.2.2.2.2.2 - p.2.2.2.2.1))
def shortPs (l : List Permit) : Bool := decide (l.length ≤ 8 ∨ l.length = 65 ∨ l.length = 64) && l.all shortP
theorem shortPs_f {l : List Permit} {j : Nat} (hj : j < l.length) (h : shortP l[j] = false) : false = shortPs l := by
  symm
  unfold shortPs
  rw [Bool.and_eq_false_iff]
  right
  rw [List.all_eq_false]
  exact ⟨l[j], List.getElem_mem _, by rw [h]; decide⟩
theorem rShortP_ok {l : List (ByteArray × ByteArray × ByteArray × (List ByteArray) × (Int × Int))} : VF Tryz.prog OA 14 [.v y22 l] (B (shortPs l)) := by
  refine VF.enter Tryz.func14 rfl (fun _ _ => rfl) rfl ?_
  show VC _ _ _ _ _ [(0, .v y22 l)] [] _
  refine VC.seq ?_
  refine VC.text ?_
  refine VO.c (.assign rfl) ?_
  refine VO.go ?_
  refine VC.seq ?_
  refine VC.seq ?_
  refine VC.text ?_
  refine VO.c (.move rfl) ?_
  refine VO.r (.len el22) ?_
  refine VO.c (.gtr) ?_
  refine VO.c (.move rfl) ?_
  refine VO.cg (r := decide ((8 : Int) < ((l.length : Nat) : Int))) (w := true) [] trivial (fun hgd => have g1_3 : (8 : Int) < ((l.length : Nat) : Int) := (by simpa using hgd); (.move rfl)) ?_
  refine VO.rg (r := decide ((8 : Int) < ((l.length : Nat) : Int))) (w := true) [(9, .v y22 l)] ⟨rfl, trivial⟩ (fun hgd => have g1_3 : (8 : Int) < ((l.length : Nat) : Int) := (by simpa using hgd); (.len el22)) ?_
  refine VO.cg (r := decide ((8 : Int) < ((l.length : Nat) : Int))) (w := true) [(10, I ((l.length : Nat) : Int))] ⟨rfl, trivial⟩ (fun hgd => have g1_3 : (8 : Int) < ((l.length : Nat) : Int) := (by simpa using hgd); (.neq)) ?_
  refine VO.c (.and) ?_
  refine VO.c (.move rfl) ?_
  refine VO.cg (r := ((decide ((8 : Int) < ((l.length : Nat) : Int))) && (decide (((l.length : Nat) : Int) ≠ (65 : Int))))) (w := true) [] trivial (fun hgd => have g1_8 : ((decide ((8 : Int) < ((l.length : Nat) : Int))) && (decide (((l.length : Nat) : Int) ≠ (65 : Int)))) = true := (by simpa using hgd); (.move rfl)) ?_
  refine VO.rg (r := ((decide ((8 : Int) < ((l.length : Nat) : Int))) && (decide (((l.length : Nat) : Int) ≠ (65 : Int))))) (w := true) [(14, .v y22 l)] ⟨rfl, trivial⟩ (fun hgd => have g1_8 : ((decide ((8 : Int) < ((l.length : Nat) : Int))) && (decide (((l.length : Nat) : Int) ≠ (65 : Int)))) = true := (by simpa using hgd); (.len el22)) ?_
  refine VO.cg (r := ((decide ((8 : Int) < ((l.length : Nat) : Int))) && (decide (((l.length : Nat) : Int) ≠ (65 : Int))))) (w := true) [(15, I ((l.length : Nat) : Int))] ⟨rfl, trivial⟩ (fun hgd => have g1_8 : ((decide ((8 : Int) < ((l.length : Nat) : Int))) && (decide (((l.length : Nat) : Int) ≠ (65 : Int)))) = true := (by simpa using hgd); (.neq)) ?_
  refine VO.c (.and) ?_
  refine VO.go ?_
  refine VC.condB rfl (fun c1 => ?_) (fun c1 => ?_)
  · try simp only [Bool.and_eq_true, Bool.or_eq_true, Bool.and_eq_false_iff, Bool.or_eq_false_iff, Bool.not_eq_true', Bool.not_eq_false', decide_eq_true_eq, decide_eq_false_iff_not] at c1
    refine VC.seq ?_
    refine VC.text ?_
    refine VO.c (.assign rfl) ?_
    refine VO.go ?_
    refine VC.ret ?_
    exact VEnd.one rfl evT (pvE (by first | (symm; rw [shortPs, decide_eq_false (by omega)]; rfl) | exact shortPs_f (j := j) (by omega) (by rcases g7_10 with h | h <;> simp [shortP, h]) | exact shortPs_f (j := j) (by omega) (by simp [shortP, *]) | (rw [hf, List.drop_eq_nil_of_le (by omega)]; rfl)))
  · try simp only [Bool.and_eq_true, Bool.or_eq_true, Bool.and_eq_false_iff, Bool.or_eq_false_iff, Bool.not_eq_true', Bool.not_eq_false', decide_eq_true_eq, decide_eq_false_iff_not] at c1
    refine VC.skip ?_
    show VC _ _ _ _ _ _ _ _
    refine VC.seq ?_
    refine VC.seq ?_
    refine VC.text ?_
    refine VO.c (.assign rfl) ?_
    refine VO.go ?_
    refine VC.block ?_
    refine VC.keep [(0, .v y22 l), (3, I ((0 : Nat) : Int))] ⟨rfl, rfl, trivial⟩ ?_
    refine VC.loop (I := fun kk ff ss => ∃ (j : Nat), kk = l.length - j ∧ ff = [(0, .v y22 l), (3, I ((j : Nat) : Int))] ∧ ss = [] ∧ (j ≤ l.length) ∧ (l.length ≤ 8 ∨ l.length = 65 ∨ l.length = 64) ∧ (shortPs l = (l.drop j).all shortP)) ?_ _ _ _ ⟨0, rfl, rfl, rfl, Nat.zero_le _, (by omega), (by rw [shortPs, decide_eq_true (by omega)]; rfl)⟩
    rintro kk ff ss ⟨j, hk0, rfl, rfl, hj, h0, hf⟩
    refine VC.seq ?_
    refine VC.seq ?_
    refine VC.text ?_
    refine VO.c (.move rfl) ?_
    refine VO.c (.move rfl) ?_
    refine VO.r (.len el22) ?_
    refine VO.c (.lss) ?_
    refine VO.go ?_
    refine VC.condD rfl (fun c4 => ?_) (fun c4 => ?_)
    · refine VC.skip ?_
      show VC _ _ _ _ _ _ _ _
      refine VC.seq ?_
      refine VC.block ?_
      refine VC.seq ?_
      refine VC.text ?_
      refine VO.c (.move rfl) ?_
      refine VO.c (.move rfl) ?_
      refine VO.c (.ix (j := j) rfl rfl el22 (by omega)) ?_
      refine VO.r (.ld vt31) ?_
      refine VO.cell (.alloc zt31) ?_
      intro ww1
      refine VO.setV (cs' := [St ((l[j]).1), St ((l[j]).2.1), St ((l[j]).2.2.1), .v (.sl .str) ((l[j]).2.2.2.1), I (((l[j]).2.2.2.2).1), I (((l[j]).2.2.2.2).2)]) vt31 .v ?_
      refine VO.shut [(4, .p y31 (l[j]))] (.cons rfl (.var m0 .refl) .nil) ?_
      refine VO.go ?_
      refine VC.seq ?_
      refine VC.text ?_
      refine VO.c (.fa (.r (.r (.r (.l .o))))) ?_
      refine VO.r (.ld vt27) ?_
      refine VO.r (.len el27) ?_
      refine VO.c (.gtr) ?_
      refine VO.c (.move rfl) ?_
      refine VO.cg (r := decide ((9 : Int) < ((((l[j]).2.2.2.1).length : Nat) : Int))) (w := false) [] trivial (fun hgd => have g7_4 : ¬ ((9 : Int) < ((((l[j]).2.2.2.1).length : Nat) : Int)) := (by simpa using hgd); (.fa (.r (.r (.r (.l .o)))))) ?_
      refine VO.rg (r := decide ((9 : Int) < ((((l[j]).2.2.2.1).length : Nat) : Int))) (w := false) [(33, .p (.sl .str) ((l[j]).2.2.2.1))] ⟨rfl, trivial⟩ (fun hgd => have g7_4 : ¬ ((9 : Int) < ((((l[j]).2.2.2.1).length : Nat) : Int)) := (by simpa using hgd); (.ld vt27)) ?_
      refine VO.callg (r0 := decide ((9 : Int) < ((((l[j]).2.2.2.1).length : Nat) : Int))) (w := false) [(34, .v (.sl .str) ((l[j]).2.2.2.1))] ⟨rfl, trivial⟩ rfl rfl .same .refl rfl (fun hgd => have g7_4 : ¬ ((9 : Int) < ((((l[j]).2.2.2.1).length : Nat) : Int)) := (by simpa using hgd); VF.call (rShort_ok (by omega))) ?_
      refine VO.cg (r := decide ((9 : Int) < ((((l[j]).2.2.2.1).length : Nat) : Int))) (w := false) [(35, B (shortW ((l[j]).2.2.2.1)))] ⟨rfl, trivial⟩ (fun hgd => have g7_4 : ¬ ((9 : Int) < ((((l[j]).2.2.2.1).length : Nat) : Int)) := (by simpa using hgd); (.not)) ?_
      refine VO.c (.or) ?_
      refine VO.c (.move rfl) ?_
      refine VO.splitB (x := 38) rfl (fun g7_10 => ?_) (fun g7_10 => ?_)
      · try simp only [Bool.and_eq_true, Bool.or_eq_true, Bool.and_eq_false_iff, Bool.or_eq_false_iff, Bool.not_eq_true', Bool.not_eq_false', decide_eq_true_eq, decide_eq_false_iff_not] at g7_10
        refine VO.skip ?_
        refine VO.skip ?_
        refine VO.skip ?_
        refine VO.skip ?_
        refine VO.skip ?_
        refine VO.skip ?_
        refine VO.skip ?_
        refine VO.skip ?_
        refine VO.skip ?_
        refine VO.c (.pickT rfl rfl) ?_
        refine VO.c (.move rfl) ?_
        refine VO.skip ?_
        refine VO.skip ?_
        refine VO.skip ?_
        refine VO.skip ?_
        refine VO.skip ?_
        refine VO.skip ?_
        refine VO.skip ?_
        refine VO.skip ?_
        refine VO.skip ?_
        refine VO.skip ?_
        refine VO.skip ?_
        refine VO.skip ?_
        refine VO.skip ?_
        refine VO.skip ?_
        refine VO.c (.pickT rfl rfl) ?_
        refine VO.go ?_
        refine VC.condT rfl ?_
        refine VC.seq ?_
        refine VC.keep [(0, .v y22 l), (3, I ((j : Nat) : Int))] ⟨rfl, rfl, trivial⟩ ?_
        refine VC.text ?_
        refine VO.c (.assign rfl) ?_
        refine VO.go ?_
        refine VC.ret ?_
        exact VEnd.one rfl evT (pvE (by first | (symm; rw [shortPs, decide_eq_false (by omega)]; rfl) | exact shortPs_f (j := j) (by omega) (by rcases g7_10 with h | h <;> simp [shortP, h]) | exact shortPs_f (j := j) (by omega) (by simp [shortP, *]) | (rw [hf, List.drop_eq_nil_of_le (by omega)]; rfl)))
      · try simp only [Bool.and_eq_true, Bool.or_eq_true, Bool.and_eq_false_iff, Bool.or_eq_false_iff, Bool.not_eq_true', Bool.not_eq_false', decide_eq_true_eq, decide_eq_false_iff_not] at g7_10
        refine VO.c (.fa (.l .o)) ?_
        refine VO.r (.ld vt9) ?_
        refine VO.c (.fa (.r (.l .o))) ?_
        refine VO.r (.ld vt9) ?_
        refine VO.c (.fa (.r (.r (.l .o)))) ?_
        refine VO.r (.ld vt9) ?_
        refine VO.new (.lit [(l[j]).1, (l[j]).2.1, (l[j]).2.2.1] el27) ?_
        refine VO.call rfl rfl (VF.call (rShort_ok (by simp))) ?_
        refine VO.c (.not) ?_
        refine VO.c (.pickF rfl rfl) ?_
        refine VO.c (.move rfl) ?_
        refine VO.splitB (x := 49) rfl (fun g7_21 => ?_) (fun g7_21 => ?_)
        · try simp only [Bool.and_eq_true, Bool.or_eq_true, Bool.and_eq_false_iff, Bool.or_eq_false_iff, Bool.not_eq_true', Bool.not_eq_false', decide_eq_true_eq, decide_eq_false_iff_not] at g7_21
          refine VO.skip ?_
          refine VO.skip ?_
          refine VO.skip ?_
          refine VO.skip ?_
          refine VO.skip ?_
          refine VO.skip ?_
          refine VO.skip ?_
          refine VO.skip ?_
          refine VO.skip ?_
          refine VO.skip ?_
          refine VO.skip ?_
          refine VO.skip ?_
          refine VO.skip ?_
          refine VO.skip ?_
          refine VO.c (.pickT rfl rfl) ?_
          refine VO.go ?_
          refine VC.condT rfl ?_
          refine VC.seq ?_
          refine VC.keep [(0, .v y22 l), (3, I ((j : Nat) : Int))] ⟨rfl, rfl, trivial⟩ ?_
          refine VC.text ?_
          refine VO.c (.assign rfl) ?_
          refine VO.go ?_
          refine VC.ret ?_
          exact VEnd.one rfl evT (pvE (by first | (symm; rw [shortPs, decide_eq_false (by omega)]; rfl) | exact shortPs_f (j := j) (by omega) (by rcases g7_10 with h | h <;> simp [shortP, h]) | exact shortPs_f (j := j) (by omega) (by simp [shortP, *]) | (rw [hf, List.drop_eq_nil_of_le (by omega)]; rfl)))
        · try simp only [Bool.and_eq_true, Bool.or_eq_true, Bool.and_eq_false_iff, Bool.or_eq_false_iff, Bool.not_eq_true', Bool.not_eq_false', decide_eq_true_eq, decide_eq_false_iff_not] at g7_21
          refine VO.c (.fa (.r (.r (.r (.r .o))))) ?_
          refine VO.r (.ld vt29) ?_
          refine VO.call rfl rfl (VF.call (rSpan_ok )) ?_
          refine VO.c (.eql) ?_
          refine VO.c (.move rfl) ?_
          refine VO.cg (r := decide (spanE ((l[j]).2.2.2.2) = (0 : Int))) (w := true) [] trivial (fun hgd => have g7_26 : spanE ((l[j]).2.2.2.2) = (0 : Int) := (by simpa using hgd); (.fa (.r (.r (.r (.r .o)))))) ?_
          refine VO.cg (r := decide (spanE ((l[j]).2.2.2.2) = (0 : Int))) (w := true) [(55, .p y29 ((l[j]).2.2.2.2))] ⟨rfl, trivial⟩ (fun hgd => have g7_26 : spanE ((l[j]).2.2.2.2) = (0 : Int) := (by simpa using hgd); (.fa (.r .o))) ?_
          refine VO.rg (r := decide (spanE ((l[j]).2.2.2.2) = (0 : Int))) (w := true) [(56, .p (.int .i64) (((l[j]).2.2.2.2).2))] ⟨rfl, trivial⟩ (fun hgd => have g7_26 : spanE ((l[j]).2.2.2.2) = (0 : Int) := (by simpa using hgd); (.ld vt3)) ?_
          refine VO.cg (r := decide (spanE ((l[j]).2.2.2.2) = (0 : Int))) (w := true) [] trivial (fun hgd => have g7_26 : spanE ((l[j]).2.2.2.2) = (0 : Int) := (by simpa using hgd); (.fa (.r (.r (.r (.r .o)))))) ?_
          refine VO.cg (r := decide (spanE ((l[j]).2.2.2.2) = (0 : Int))) (w := true) [(58, .p y29 ((l[j]).2.2.2.2))] ⟨rfl, trivial⟩ (fun hgd => have g7_26 : spanE ((l[j]).2.2.2.2) = (0 : Int) := (by simpa using hgd); (.fa (.l .o))) ?_
          refine VO.rg (r := decide (spanE ((l[j]).2.2.2.2) = (0 : Int))) (w := true) [(59, .p (.int .i64) (((l[j]).2.2.2.2).1))] ⟨rfl, trivial⟩ (fun hgd => have g7_26 : spanE ((l[j]).2.2.2.2) = (0 : Int) := (by simpa using hgd); (.ld vt3)) ?_
          refine VO.cg (r := decide (spanE ((l[j]).2.2.2.2) = (0 : Int))) (w := true) [(57, I (((l[j]).2.2.2.2).2)), (60, I (((l[j]).2.2.2.2).1))] ⟨rfl, rfl, trivial⟩ (fun hgd => have g7_26 : spanE ((l[j]).2.2.2.2) = (0 : Int) := (by simpa using hgd); (.sub rfl rfl (by have h := spanE_ok g7_26; omega))) ?_
          refine VO.cg (r := decide (spanE ((l[j]).2.2.2.2) = (0 : Int))) (w := true) [(61, I (((l[j]).2.2.2.2).2 - ((l[j]).2.2.2.2).1))] ⟨rfl, trivial⟩ (fun hgd => have g7_26 : spanE ((l[j]).2.2.2.2) = (0 : Int) := (by simpa using hgd); (.gtr)) ?_
          refine VO.c (.and) ?_
          refine VO.c (.pickF rfl rfl) ?_
          refine VO.go ?_
          refine VC.condB rfl (fun c7 => ?_) (fun c7 => ?_)
          · try simp only [Bool.and_eq_true, Bool.or_eq_true, Bool.and_eq_false_iff, Bool.or_eq_false_iff, Bool.not_eq_true', Bool.not_eq_false', decide_eq_true_eq, decide_eq_false_iff_not] at c7
            refine VC.seq ?_
            refine VC.keep [(0, .v y22 l), (3, I ((j : Nat) : Int))] ⟨rfl, rfl, trivial⟩ ?_
            refine VC.text ?_
            refine VO.c (.assign rfl) ?_
            refine VO.go ?_
            refine VC.ret ?_
            exact VEnd.one rfl evT (pvE (by first | (symm; rw [shortPs, decide_eq_false (by omega)]; rfl) | exact shortPs_f (j := j) (by omega) (by rcases g7_10 with h | h <;> simp [shortP, h]) | exact shortPs_f (j := j) (by omega) (by simp [shortP, *]) | (rw [hf, List.drop_eq_nil_of_le (by omega)]; rfl)))
          · try simp only [Bool.and_eq_true, Bool.or_eq_true, Bool.and_eq_false_iff, Bool.or_eq_false_iff, Bool.not_eq_true', Bool.not_eq_false', decide_eq_true_eq, decide_eq_false_iff_not] at c7
            have hz : shortP l[j] = true := by simp_all [shortP]
            refine VC.skip ?_
            show VC _ _ _ _ _ _ _ _
            refine VC.keep [(0, .v y22 l), (3, I ((j : Nat) : Int))] ⟨rfl, rfl, trivial⟩ ?_
            refine VC.text ?_
            refine VO.c (.move rfl) ?_
            refine VO.c (.add rfl rfl (by omega)) ?_
            refine VO.c (.assign rfl) ?_
            refine VO.nil ?_
            refine ⟨_, [(0, .v y22 l), (3, I (((j + 1) : Nat) : Int))], ?_, ⟨rfl, rfl, trivial⟩, (j + 1), rfl, rfl, rfl, (by omega), (by exact h0), (by rw [hf, any_all (by omega), hz] <;> rfl)⟩
            omega
    · refine VC.exit ?_
      show VC _ _ _ _ _ _ _ _
      refine VC.seq ?_
      refine VC.text ?_
      refine VO.c (.assign rfl) ?_
      refine VO.go ?_
      refine VC.ret ?_
      exact VEnd.one rfl evT (pvE (by first | (symm; rw [shortPs, decide_eq_false (by omega)]; rfl) | exact shortPs_f (j := j) (by omega) (by rcases g7_10 with h | h <;> simp [shortP, h]) | exact shortPs_f (j := j) (by omega) (by simp [shortP, *]) | (rw [hf, List.drop_eq_nil_of_le (by omega)]; rfl)))
theorem rShortS_ok {s : List ((Int × Int) × Int)} : VF Tryz.prog OA 15 [.v y23 s] (B (decide ((s.length : Int) ≤ 9))) := by
  refine VF.enter Tryz.func15 rfl (fun _ _ => rfl) rfl ?_
  show VC _ _ _ _ _ [(0, .v y23 s)] [] _
  refine VC.seq ?_
  refine VC.text ?_
  refine VO.c (.assign rfl) ?_
  refine VO.go ?_
  refine VC.seq ?_
  refine VC.text ?_
  refine VO.c (.move rfl) ?_
  refine VO.r (.len el23) ?_
  refine VO.c (.leq) ?_
  refine VO.c (.assign rfl) ?_
  refine VO.go ?_
  refine VC.ret ?_
  exact VEnd.one rfl evT (pvE (by first | rfl | simp))
theorem lWords_ok {l : List ByteArray} (hl : l.length < 1000000) : VF Tryz.prog OA 66 [.v (.sl .str) l] (.v (.sl .str) l) := by
  refine VF.enter Tryz.func66 rfl (fun _ _ => rfl) rfl ?_
  show VC _ _ _ _ _ [(0, .v (.sl .str) l)] [] _
  refine VC.seq ?_
  refine VC.text ?_
  refine VO.c (.assign rfl) ?_
  refine VO.go ?_
  refine VC.seq ?_
  refine VC.text ?_
  refine VO.cell (.lit0 el27) ?_
  intro ww2
  refine VO.c (.move rfl) ?_
  refine VO.app rfl rfl el27 el27 (by simp; omega) ?_
  intro ww3
  refine VO.c (.assign rfl) ?_
  refine VO.go ?_
  refine VC.ret ?_
  exact VEnd.one rfl (evC (.row m0)) (pvE (by rfl))
theorem lPermit_ok {p : ByteArray × ByteArray × ByteArray × (List ByteArray) × (Int × Int)} (hl : p.2.2.2.1.length < 1000000) : VF Tryz.prog OA 18 [.v y31 p] (.v y35 p) := by
  refine VF.enter Tryz.func18 rfl (fun _ _ => rfl) rfl ?_
  show VC _ _ _ _ _ [(0, .v y31 p)] [] _
  refine VC.seq ?_
  refine VC.text ?_
  refine VO.new (.box) ?_
  refine VO.cell (.alloc zt35) ?_
  intro ww4
  refine VO.go ?_
  refine VC.seq ?_
  refine VC.drawn ?_
  refine VD.c (.fa (.l .o)) ?_
  refine VD.r [] (.ld vt9) (.inl rfl) ?_
  refine VD.c (.fa (.r (.l .o))) ?_
  refine VD.r [] (.ld vt9) (.inl rfl) ?_
  refine VD.c (.fa (.r (.r (.l .o)))) ?_
  refine VD.r [] (.ld vt9) (.inl rfl) ?_
  refine VD.nw [] ?_
  refine VD.c (.fa (.r (.r (.r (.l .o))))) ?_
  refine VD.r [] (.ld vt27) (.inl rfl) ?_
  refine VD.call rfl rfl (VF.call (lWords_ok hl)) ?_
  refine VD.c (.fa (.r (.r (.r (.r .o))))) ?_
  refine VD.r [] (.ld vt29) (.inl rfl) ?_
  refine VD.c (.build (p.1, p.2.1, p.2.2.1, p.2.2.2.1, p.2.2.2.2) bt35) ?_
  refine VD.mk0 (MakeV.setF (k := 0) vt35 .v (by decide) (.inr ⟨rfl, rfl⟩) rfl rfl) ?_
  rintro _ _ tl5 ⟨rfl, rfl⟩
  refine VD.go ?_
  refine VC.ret ?_
  exact VEnd.one rfl (.cell (x := (p.1, p.2.1, p.2.2.1, p.2.2.2.1, p.2.2.2.2)) rfl m0 vt35 .refl) (pvE (by rfl))
theorem lPermits_ok {l : List (ByteArray × ByteArray × ByteArray × (List ByteArray) × (Int × Int))} (hl : l.length < 100000) (hp : PermOk l) : VF Tryz.prog OA 24 [.v y22 l] (.v y43 l) := by
  refine VF.enter Tryz.func24 rfl (fun _ _ => rfl) rfl ?_
  show VC _ _ _ _ _ [(0, .v y22 l)] [] _
  refine VC.seq ?_
  refine VC.text ?_
  refine VO.c (.assign rfl) ?_
  refine VO.go ?_
  refine VC.seq ?_
  refine VC.text ?_
  refine VO.c (.assign rfl) ?_
  refine VO.go ?_
  refine VC.seq ?_
  refine VC.seq ?_
  refine VC.text ?_
  refine VO.c (.move rfl) ?_
  refine VO.r (.len el22) ?_
  refine VO.c (.move rfl) ?_
  refine VO.go ?_
  refine VC.block ?_
  refine VC.cell0 35 y35 ?_
  refine VC.keep [(3, .raw (.slice none 0 0)), (6, .v y22 l), (7, I ((l.length : Nat) : Int)), (8, I ((0 : Nat) : Int))] ⟨rfl, rfl, rfl, rfl, trivial⟩ ?_
  refine VC.loop (I := fun kk ff ss => ∃ (j : Nat) (out : Value), kk = l.length - j ∧ ff = [(3, .raw out), (6, .v y22 l), (7, I ((l.length : Nat) : Int)), (8, I ((j : Nat) : Int))] ∧ ss = [(out, .row 35 y35 (l.take j))] ∧ (j ≤ l.length)) ?_ _ _ _ ⟨0, (.slice none 0 0), rfl, rfl, rfl, Nat.zero_le _⟩
  rintro kk ff ss ⟨j, out, hk0, rfl, rfl, hj⟩
  refine VC.seq ?_
  refine VC.text ?_
  refine VO.c (.lss) ?_
  refine VO.go ?_
  refine VC.seq ?_
  refine VC.condD rfl (fun c3 => ?_) (fun c3 => ?_)
  · refine VC.skip ?_
    show VC _ _ _ _ _ _ _ _
    refine VC.seq ?_
    refine VC.block ?_
    refine VC.seq ?_
    refine VC.text ?_
    refine VO.c (.ix (j := j) rfl rfl el22 (by omega)) ?_
    refine VO.r (.ld vt31) ?_
    refine VO.cell (.alloc zt31) ?_
    intro ww6
    refine VO.setV (cs' := [St ((l[j]).1), St ((l[j]).2.1), St ((l[j]).2.2.1), .v (.sl .str) ((l[j]).2.2.2.1), I (((l[j]).2.2.2.2).1), I (((l[j]).2.2.2.2).2)]) vt31 .v ?_
    refine VO.shut [(5, .p y31 (l[j]))] (.cons rfl (.var m0 .refl) .nil) ?_
    refine VO.go ?_
    refine VC.text ?_
    refine VO.c (.move rfl) ?_
    refine VO.r (.ld vt31) ?_
    refine VO.call rfl rfl (VF.call (lPermit_ok (hp _ (List.getElem_mem _)))) ?_
    refine VO.new (.lit [(l[j])] el43) ?_
    refine VO.app rfl rfl el43 el43 (by simp; omega) ?_
    intro ww7
    refine VO.c (.assign rfl) ?_
    refine VO.nil ?_
    show VC _ _ _ _ _ _ _ _
    refine VC.text ?_
    refine VO.c (.add rfl rfl (by omega)) ?_
    refine VO.c (.move rfl) ?_
    refine VO.nil ?_
    refine ⟨_, [(3, .raw ww7), (6, .v y22 l), (7, I ((l.length : Nat) : Int)), (8, I (((j + 1) : Nat) : Int))], ?_, ⟨rfl, rfl, rfl, rfl, trivial⟩, (j + 1), ww7, rfl, rfl, (by rw [List.take_succ_eq_append_getElem (by omega)] <;> rfl), (by omega)⟩
    omega
  · refine VC.exit ?_
    show VC _ _ _ _ _ _ _ _
    refine VC.seq ?_
    refine VC.text ?_
    refine VO.c (.move rfl) ?_
    refine VO.c (.assign rfl) ?_
    refine VO.go ?_
    refine VC.ret ?_
    exact VEnd.one rfl (evC (.row m0)) (pvE (by rw [List.take_of_length_le (by omega)]))
theorem lSeasons_ok {l : List ((Int × Int) × Int)} (hl : l.length < 100000) : VF Tryz.prog OA 27 [.v y23 l] (.v y47 l) := by
  refine VF.enter Tryz.func27 rfl (fun _ _ => rfl) rfl ?_
  show VC _ _ _ _ _ [(0, .v y23 l)] [] _
  refine VC.seq ?_
  refine VC.text ?_
  refine VO.c (.assign rfl) ?_
  refine VO.go ?_
  refine VC.seq ?_
  refine VC.text ?_
  refine VO.c (.assign rfl) ?_
  refine VO.go ?_
  refine VC.seq ?_
  refine VC.seq ?_
  refine VC.text ?_
  refine VO.c (.move rfl) ?_
  refine VO.r (.len el23) ?_
  refine VO.c (.move rfl) ?_
  refine VO.go ?_
  refine VC.block ?_
  refine VC.cell0 94 y94 ?_
  refine VC.keep [(3, .raw (.slice none 0 0)), (6, .v y23 l), (7, I ((l.length : Nat) : Int)), (8, I ((0 : Nat) : Int))] ⟨rfl, rfl, rfl, rfl, trivial⟩ ?_
  refine VC.loop (I := fun kk ff ss => ∃ (j : Nat) (out : Value), kk = l.length - j ∧ ff = [(3, .raw out), (6, .v y23 l), (7, I ((l.length : Nat) : Int)), (8, I ((j : Nat) : Int))] ∧ ss = [(out, .row 94 y94 (l.take j))] ∧ (j ≤ l.length)) ?_ _ _ _ ⟨0, (.slice none 0 0), rfl, rfl, rfl, Nat.zero_le _⟩
  rintro kk ff ss ⟨j, out, hk0, rfl, rfl, hj⟩
  refine VC.seq ?_
  refine VC.text ?_
  refine VO.c (.lss) ?_
  refine VO.go ?_
  refine VC.seq ?_
  refine VC.condD rfl (fun c3 => ?_) (fun c3 => ?_)
  · refine VC.skip ?_
    show VC _ _ _ _ _ _ _ _
    refine VC.seq ?_
    refine VC.block ?_
    refine VC.seq ?_
    refine VC.text ?_
    refine VO.c (.ix (j := j) rfl rfl el23 (by omega)) ?_
    refine VO.r (.ld vt149) ?_
    refine VO.cell (.alloc zt149) ?_
    intro ww8
    refine VO.setV (cs' := [I (((l[j]).1).1), I (((l[j]).1).2), I ((l[j]).2)]) vt149 .v ?_
    refine VO.shut [(5, .p y149 (l[j]))] (.cons rfl (.var m0 .refl) .nil) ?_
    refine VO.go ?_
    refine VC.text ?_
    refine VO.c (.move rfl) ?_
    refine VO.r (.ld vt149) ?_
    refine VO.new (.lit [l[j]] el47) ?_
    refine VO.app rfl rfl el47 el47 (by simp; omega) ?_
    intro ww9
    refine VO.c (.assign rfl) ?_
    refine VO.nil ?_
    show VC _ _ _ _ _ _ _ _
    refine VC.text ?_
    refine VO.c (.add rfl rfl (by omega)) ?_
    refine VO.c (.move rfl) ?_
    refine VO.nil ?_
    refine ⟨_, [(3, .raw ww9), (6, .v y23 l), (7, I ((l.length : Nat) : Int)), (8, I (((j + 1) : Nat) : Int))], ?_, ⟨rfl, rfl, rfl, rfl, trivial⟩, (j + 1), ww9, rfl, rfl, (by rw [List.take_succ_eq_append_getElem (by omega)] <;> rfl), (by omega)⟩
    omega
  · refine VC.exit ?_
    show VC _ _ _ _ _ _ _ _
    refine VC.seq ?_
    refine VC.text ?_
    refine VO.c (.move rfl) ?_
    refine VO.c (.assign rfl) ?_
    refine VO.go ?_
    refine VC.ret ?_
    exact VEnd.one rfl (evC (.row m0)) (pvE (by rw [List.take_of_length_le (by omega)]))
end Go.Proofs
namespace Go.Proofs
open Go.Fs
/-! ## Ascending lists -/
def Asc (l : List ByteArray) : Prop := l.Pairwise fun a b => ltS a b = true
theorem asc_nil : Asc [] := List.Pairwise.nil
theorem Asc.tail {a : ByteArray} {l : List ByteArray} (h : Asc (a :: l)) : Asc l := (List.pairwise_cons.1 h).2
theorem Asc.head {a x : ByteArray} {l : List ByteArray} (h : Asc (a :: l)) (hx : x ∈ l) : ltS a x = true := (List.pairwise_cons.1 h).1 x hx
theorem Asc.not {a : ByteArray} {l : List ByteArray} (h : Asc (a :: l)) : a ∉ l := fun hm => by
  have := h.head hm
  rw [ltS_irr] at this; cases this
theorem asc_ext : ∀ {a b : List ByteArray}, Asc a → Asc b → (∀ x, x ∈ a ↔ x ∈ b) → a = b
  | [], [], _, _, _ => rfl
  | [], y :: b, _, _, h => by have := (h y).2 List.mem_cons_self; cases this
  | x :: a, [], _, _, h => by have := (h x).1 List.mem_cons_self; cases this
  | x :: a, y :: b, ha, hb, h => by
    have e : x = y := by
      have h1 := (h x).1 List.mem_cons_self
      have h2 := (h y).2 List.mem_cons_self
      rcases List.mem_cons.1 h1 with h1 | h1
      · exact h1
      · rcases List.mem_cons.1 h2 with h2 | h2
        · exact h2.symm
        · have h3 := hb.head h1
          have h4 := ha.head h2
          rw [ltS_asym h3] at h4; cases h4
    subst e
    rw [asc_ext ha.tail hb.tail fun z => ?_]
    constructor
    · intro hz
      rcases List.mem_cons.1 ((h z).1 (List.mem_cons_of_mem _ hz)) with e | hz'
      · subst e; exact absurd hz ha.not
      · exact hz'
    · intro hz
      rcases List.mem_cons.1 ((h z).2 (List.mem_cons_of_mem _ hz)) with e | hz'
      · subst e; exact absurd hz hb.not
      · exact hz'
def insE (w : ByteArray) : List ByteArray → List ByteArray
  | [] => [w]
  | x :: l => if ltS w x = true then w :: x :: l else x :: insE w l
def putE (l : List ByteArray) (w : ByteArray) : List ByteArray := if hasB l w = true then l else insE w l
theorem hasB_mem {l : List ByteArray} {w : ByteArray} : hasB l w = true ↔ w ∈ l := by
  unfold hasB
  rw [List.any_eq_true]
  constructor
  · rintro ⟨x, hx, he⟩
    have := of_decide_eq_true he
    subst this; exact hx
  · exact fun h => ⟨w, h, decide_eq_true rfl⟩
theorem mem_insE {w x : ByteArray} : ∀ {l : List ByteArray}, x ∈ insE w l ↔ x = w ∨ x ∈ l
  | [] => by simp [insE]
  | y :: l => by
    unfold insE
    by_cases h : ltS w y = true
    · rw [if_pos h]; simp
    · rw [if_neg h, List.mem_cons, mem_insE (l := l), List.mem_cons]
      constructor
      · rintro (h | h | h)
        · exact .inr (.inl h)
        · exact .inl h
        · exact .inr (.inr h)
      · rintro (h | h | h)
        · exact .inr (.inl h)
        · exact .inl h
        · exact .inr (.inr h)
theorem insE_asc {w : ByteArray} : ∀ {l : List ByteArray}, Asc l → w ∉ l → Asc (insE w l)
  | [], _, _ => List.pairwise_cons.2 ⟨fun _ h => (by cases h), List.Pairwise.nil⟩
  | y :: l, ha, hw => by
    unfold insE
    by_cases h : ltS w y = true
    · rw [if_pos h]
      refine List.pairwise_cons.2 ⟨fun x hx => ?_, ha⟩
      rcases List.mem_cons.1 hx with e | hx
      · subst e; exact h
      · exact ltS_trans h (ha.head hx)
    · rw [if_neg h]
      refine List.pairwise_cons.2 ⟨fun x hx => ?_, insE_asc ha.tail fun hm => hw (List.mem_cons_of_mem _ hm)⟩
      rcases mem_insE.1 hx with e | hx
      · subst e
        have h1 := leS_eq (p := x) (q := y)
        have h2 : ¬ x = y := fun e => hw (e ▸ List.mem_cons_self)
        have h3 : ltS x y = false := by simpa using h
        rw [h3, decide_eq_false h2] at h1
        simpa using h1.symm
      · exact ha.head hx
theorem putE_asc {l : List ByteArray} {w : ByteArray} (h : Asc l) : Asc (putE l w) := by
  unfold putE
  by_cases hh : hasB l w = true
  · rw [if_pos hh]; exact h
  · rw [if_neg hh]; exact insE_asc h fun hm => hh (hasB_mem.2 hm)
theorem mem_putE {l : List ByteArray} {w x : ByteArray} : x ∈ putE l w ↔ x = w ∨ x ∈ l := by
  unfold putE
  by_cases hh : hasB l w = true
  · rw [if_pos hh]
    constructor
    · exact .inr
    · rintro (h | h)
      · subst h; exact hasB_mem.1 hh
      · exact h
  · rw [if_neg hh]; exact mem_insE
def setE (l : List ByteArray) : List ByteArray := l.foldl putE []
theorem foldl_putE : ∀ (l a : List ByteArray), Asc a → Asc (l.foldl putE a) ∧ ∀ x, x ∈ l.foldl putE a ↔ x ∈ l ∨ x ∈ a
  | [], a, ha => ⟨ha, fun x => by simp⟩
  | w :: l, a, ha => by
    obtain ⟨h1, h2⟩ := foldl_putE l (putE a w) (putE_asc ha)
    refine ⟨h1, fun x => ?_⟩
    rw [List.foldl_cons, h2, mem_putE, List.mem_cons]
    constructor
    · rintro (h | h | h)
      · exact .inl (.inr h)
      · exact .inl (.inl h)
      · exact .inr h
    · rintro ((h | h) | h)
      · exact .inr (.inl h)
      · exact .inl h
      · exact .inr (.inr h)
theorem setE_asc (l : List ByteArray) : Asc (setE l) := (foldl_putE l [] asc_nil).1
theorem mem_setE {l : List ByteArray} {x : ByteArray} : x ∈ setE l ↔ x ∈ l := by
  have := (foldl_putE l [] asc_nil).2 x
  simpa [setE] using this
theorem setE_eq {l m : List ByteArray} (ha : Asc m) (hm : ∀ x, x ∈ m ↔ x ∈ l) : m = setE l := asc_ext ha (setE_asc l) fun x => (hm x).trans mem_setE.symm
theorem asc_len : ∀ {a b : List ByteArray}, Asc a → (∀ x ∈ a, x ∈ b) → a.length ≤ b.length
  | [], _, _, _ => Nat.zero_le _
  | x :: a, b, ha, h => by
    have hx := h x List.mem_cons_self
    have h1 := asc_len (a := a) (b := b.filter fun y => decide (y ≠ x)) ha.tail fun y hy => by
      have hne : y ≠ x := fun e => by subst e; exact ha.not hy
      exact List.mem_filter.2 ⟨h y (List.mem_cons_of_mem _ hy), decide_eq_true hne⟩
    have h2 : (b.filter fun y => decide (y ≠ x)).length < b.length := List.length_filter_lt_length_iff_exists.2 ⟨x, hx, by simp⟩
    simp only [List.length_cons]
    omega
/-! ## Gates out of service -/
abbrev Season := (Int × Int) × Int
def hasT (s : Int × Int) (t : Int) : Bool := decide (s.1 ≤ t) && decide (t < s.2)
def atE (l : List Permit) (t : Int) : List Permit := l.filter fun p => hasT p.2.2.2.2 t
def outE (l : List Permit) (t : Int) : List ByteArray := setE ((atE l t).map fun p => p.2.2.1)
def lockedE (l : List Permit) (t : Int) : List ByteArray := setE ((atE l t).flatMap fun p => p.2.2.2.1)
def permittedE : List Season → Int → Int
  | [], _ => 0
  | s :: r, t => if hasT s.1 t = true then s.2 else permittedE r t
def overE (l : List Permit) (ss : List Season) (t : Int) : Bool := decide (permittedE ss t < ((outE l t).length : Int))
def overIn (l : List Permit) (ss : List Season) (s : Int × Int) : Prop := ∃ t, s.1 ≤ t ∧ t < s.2 ∧ overE l ss t = true
def ticksE (l : List Permit) (ss : List Season) (s : Int × Int) : List Int := s.1 :: (l.map (fun p => p.2.2.2.2.1) ++ ss.flatMap fun x => [x.1.1, x.1.2])
def crowdedE (l : List Permit) (ss : List Season) (s : Int × Int) : Bool := (ticksE l ss s).any fun t => hasT s t && overE l ss t
theorem last_le {t : Int} : ∀ (l : List Int) (x : Int), x ∈ l → x ≤ t → ∃ y ∈ l, y ≤ t ∧ ∀ z ∈ l, z ≤ t → z ≤ y
  | [], _, hx, _ => by cases hx
  | a :: l, x, hx, hxt => by
    by_cases hl : ∃ z ∈ l, z ≤ t
    · obtain ⟨z, hz, hzt⟩ := hl
      obtain ⟨y, h1, h2, h3⟩ := last_le l z hz hzt
      by_cases ha : a ≤ t ∧ y ≤ a
      · refine ⟨a, List.mem_cons_self, ha.1, fun w hw hwt => ?_⟩
        rcases List.mem_cons.1 hw with e | hw
        · omega
        · have := h3 w hw hwt; omega
      · refine ⟨y, List.mem_cons_of_mem _ h1, h2, fun w hw hwt => ?_⟩
        rcases List.mem_cons.1 hw with e | hw
        · subst e; omega
        · exact h3 w hw hwt
    · rcases List.mem_cons.1 hx with e | hx
      · subst e
        refine ⟨x, List.mem_cons_self, hxt, fun w hw hwt => ?_⟩
        rcases List.mem_cons.1 hw with e | hw
        · omega
        · exact absurd ⟨w, hw, hwt⟩ hl
      · exact absurd ⟨x, hx, hxt⟩ hl
theorem permitted_same {t u : Int} : ∀ (ss : List Season), (∀ x ∈ ss, hasT x.1 t = hasT x.1 u) → permittedE ss t = permittedE ss u
  | [], _ => rfl
  | s :: r, h => by
    unfold permittedE
    rw [h s List.mem_cons_self, permitted_same r fun x hx => h x (List.mem_cons_of_mem _ hx)]
theorem out_len {l : List Permit} {t u : Int} (h : ∀ p ∈ l, hasT p.2.2.2.2 t = true → hasT p.2.2.2.2 u = true) : (outE l t).length ≤ (outE l u).length := by
  refine asc_len (setE_asc _) fun x hx => ?_
  rw [outE, mem_setE] at hx ⊢
  obtain ⟨p, hp, he⟩ := List.mem_map.1 hx
  obtain ⟨h1, h2⟩ := List.mem_filter.1 hp
  exact List.mem_map.2 ⟨p, List.mem_filter.2 ⟨h1, h p h1 h2⟩, he⟩
theorem hasT_iff {s : Int × Int} {t : Int} : hasT s t = true ↔ s.1 ≤ t ∧ t < s.2 := by simp [hasT]
theorem crowded_iff {l : List Permit} {ss : List Season} {s : Int × Int} : crowdedE l ss s = true ↔ overIn l ss s := by
  unfold crowdedE
  rw [List.any_eq_true]
  constructor
  · rintro ⟨t, _, h⟩
    rw [Bool.and_eq_true] at h
    have h1 := hasT_iff.1 h.1
    exact ⟨t, h1.1, h1.2, h.2⟩
  · rintro ⟨t, h1, h2, h3⟩
    obtain ⟨u, u1, u2, u3⟩ := last_le (t := t) (ticksE l ss s) s.1 List.mem_cons_self h1
    have hs := u3 s.1 List.mem_cons_self h1
    refine ⟨u, u1, ?_⟩
    rw [Bool.and_eq_true]
    refine ⟨hasT_iff.2 ⟨hs, by omega⟩, ?_⟩
    unfold overE at h3 ⊢
    have h3 := of_decide_eq_true h3
    refine decide_eq_true ?_
    have e1 : permittedE ss t = permittedE ss u := permitted_same ss fun x hx => by
      have m1 : x.1.1 ∈ ticksE l ss s := List.mem_cons_of_mem _ (List.mem_append_right _ (List.mem_flatMap.2 ⟨x, hx, by simp⟩))
      have m2 : x.1.2 ∈ ticksE l ss s := List.mem_cons_of_mem _ (List.mem_append_right _ (List.mem_flatMap.2 ⟨x, hx, by simp⟩))
      have k1 := u3 _ m1
      have k2 := u3 _ m2
      unfold hasT
      have a1 : decide (x.1.1 ≤ t) = decide (x.1.1 ≤ u) := decide_eq_decide.2 ⟨fun h => k1 h, fun h => by omega⟩
      have a2 : decide (t < x.1.2) = decide (u < x.1.2) := decide_eq_decide.2 ⟨fun h => by omega, fun h => by
        by_cases hh : x.1.2 ≤ t
        · have := k2 hh; omega
        · omega⟩
      rw [a1, a2]
    have e2 : (outE l t).length ≤ (outE l u).length := out_len fun p hp hh => by
      have k1 := u3 p.2.2.2.2.1 (List.mem_cons_of_mem _ (List.mem_append_left _ (List.mem_map.2 ⟨p, hp, rfl⟩)))
      have h4 := hasT_iff.1 hh
      exact hasT_iff.2 ⟨k1 h4.1, by omega⟩
    omega
end Go.Proofs
namespace Go.Proofs
open Go.Fs
set_option linter.unusedVariables false

/-! ## The reference's ticks -/
def doneE (w : ByteArray) (l : List ByteArray) (i : Nat) : Bool := (l.take i).any fun x => ltS w x
def outP (w : ByteArray) (l : List ByteArray) (i : Nat) : List ByteArray := if doneE w l i = true then insE w (l.take i) else l.take i
theorem permitted_drop {l : List Season} {j : Nat} {t : Int} (h : j < l.length) : permittedE (l.drop j) t = if hasT l[j].1 t = true then l[j].2 else permittedE (l.drop (j + 1)) t := by
  rw [List.drop_eq_getElem_cons h] <;> rfl
theorem rCheckIssue_ok {l : List (ByteArray × ByteArray × ByteArray × (List ByteArray) × (Int × Int))} {ss : List ((Int × Int) × Int)} {p : ByteArray × ByteArray × ByteArray × (List ByteArray) × (Int × Int)} (hl : l.length < 1000000) (hp : PermOk l) (hs : ss.length < 1000000) (hq : p.2.2.2.1.length < 1000000) : VF Tryz.prog OA 29 [.v y22 l, .v y23 ss, .v y31 p] (I (firstE [permsE l, seasE ss, permE p])) := by
  refine VF.enter Tryz.func29 rfl (fun _ _ => rfl) rfl ?_
  show VC _ _ _ _ _ [(0, .v y22 l), (1, .v y23 ss), (2, .v y31 p)] [] _
  refine VC.seq ?_
  refine VC.text ?_
  refine VO.new (.box) ?_
  refine VO.c (.assign rfl) ?_
  refine VO.go ?_
  refine VC.seq ?_
  refine VC.drawn ?_
  refine VD.c (.move rfl) ?_
  refine VD.call rfl rfl (VF.call (rPermits_ok hl hp)) ?_
  refine VD.c (.move rfl) ?_
  refine VD.call rfl rfl (VF.call (rSeas_ok hs)) ?_
  refine VD.r [] (.ld vt31) (.inl rfl) ?_
  refine VD.call rfl rfl (VF.call (rPermit_ok hq)) ?_
  refine VD.nw [] ?_
  refine VD.new (.lit [permsE l, seasE ss, permE p] el39) ?_
  refine VD.callO rfl rfl (VF.call (rFirst_ok (by simp))) ?_
  refine VD.c (.assign rfl) ?_
  refine VD.go ?_
  refine VC.ret ?_
  exact VEnd.one rfl evT (pvI (by rfl))
end Go.Proofs
