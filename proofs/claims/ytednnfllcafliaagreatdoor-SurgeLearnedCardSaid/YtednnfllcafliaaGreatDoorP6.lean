/- The evaluator is sound: code. No condition. From the evaluator's runs to the model's calls. No condition. Two functions of Go's library by their contracts: an oracle for the evaluator. No condition. A closed call that answers true, as an oracle. No condition. -/
import Derived.Test.YtednnfllcafliaaGreatDoorP1
import Derived.Scope
import Derived.Test.YtednnfllcafliaaGreatDoorP2
import Derived.Lib.ItoaNum
import Derived.Lib.Join
import Derived.Test.YtednnfllcafliaaGreatDoorP5
import Derived.Test.YtednnfllcafliaaGreatDoorChecked
set_option linter.all false
namespace Go
variable {P : Program}
theorem stepR_scopeFs {b : Frame} {a : Act} {k : List Item} {cs : List Frame} {w : World} {c : Code} : step P (lone (b.atR a (.code (.scope c) :: k)) cs w) = .next (lone (b.atR a (.code c :: .inScope c :: k)) cs w) :=
  step_lone_go (by simp [stepG, stepG.exec, Frame.atR])
theorem stepR_inScopeFs {b : Frame} {a : Act} {k : List Item} {cs : List Frame} {w : World} {c : Code} : step P (lone (b.atR a (.inScope c :: k)) cs w) = .next (lone (b.atR a k) cs w) :=
  step_lone_go (by simp [stepG, stepG.exec, Frame.atR])
/-- A piece that is left by no jump to a label. -/
theorem wpIn_scopeFs {F : Fence} {n : Nat} {Q : Exit → Act → World → Prop} {a : Act} {w : World} {c : Code} (h : c.wpIn F n P (Exit.noGoto Q) a w) : (Code.scope c).wpIn F n P Q a w := by
  intro b k cs hro hb hr
  have h0 : (lone (b.atR a (.code (.scope c) :: k)) cs w).fenced P F := fenced_calm hb hr rfl
  obtain ⟨e, a₁, w₁, hq, harr⟩ := h b (.inScope c :: k) cs hro hb hr
  cases e with
  | normal => exact ⟨.normal, a₁, w₁, hq, .head h0 stepR_scopeFs (StepsIn.trans harr (.one (fenced_calm hb hr rfl) stepR_inScopeFs))⟩
  | exit id =>
    have hx : exitTo id (.inScope c :: k) = exitTo id k := by simp [exitTo]
    exact ⟨.exit id, a₁, w₁, hq, fun k' hk => .head h0 stepR_scopeFs (harr.1 k' (by rw [hx]; exact hk)),
      fun hr' hk => let ⟨k₁, h1, h2⟩ := harr.2 hr' (by rw [hx]; exact hk); ⟨k₁, h1, .head h0 stepR_scopeFs h2⟩⟩
  | goto l => exact hq.elim
  | ret => exact ⟨_, a₁, w₁, hq, .of_steps (.one h0 stepR_scopeFs) harr⟩
  | panic ch => exact ⟨_, a₁, w₁, hq, .of_steps (.one h0 stepR_scopeFs) harr⟩
  | outgrown => exact ⟨_, a₁, w₁, hq, .of_steps (.one h0 stepR_scopeFs) harr⟩

end Go
namespace Go.Fs
open Go.RowKit (Below)
variable {P : Program} {ρ ρ' : Ren} {S S' : Nat → Prop} {B : Nat} {w0 w w' w1 w2 : World} {h h' h1 h2 : Heap}

theorem call_sound (hP : ProgOk P) {orc : FuncId → List Value → Heap → Option (Value × Heap)} (horc : CallSound P B w0 orc) {m : Nat} {rec : Rec} (hrec : SoundR P B w0 m rec) : CallSound P B w0 (callOf P orc rec) := by
  intro f args h v h' hf
  unfold callOf at hf
  split at hf
  · rename_i r hr
    simp only [Option.some.injEq] at hf
    subst hf
    exact horc _ _ _ _ _ hr
  · exact enter_sound hP hrec _ _ _ _ _ hf

theorem Post.same {fr : Fr} {a : Act} (hr : HR P ρ S B w0 h w) (ht : TrR ρ S fr.t fr.n a.tmps) (hm : MarksR ρ S fr.marks a.defers) : Post P B w0 ρ ρ S h w fr h w a :=
  ⟨Moved.same hr, ht.mono fun _ hb => ⟨.inl hb, rfl⟩, hm.mono fun _ hb => ⟨.inl hb, rfl⟩⟩

theorem step_sound (hP : ProgOk P) {orc : FuncId → List Value → Heap → Option (Value × Heap)} (horc : CallSound P B w0 orc) {m : Nat} {rec : Rec} (hrec : SoundR P B w0 m rec) : SoundR P B w0 (m + 1) (fsStep P orc rec) := by
  intro rnd c fr h e fr' h' hok hf ρ S w a nn Q hr ht hm hs k
  have hcs : CallSound P B w0 (callOf P orc rec) := call_sound hP horc hrec
  have hys : YieldSound P B w0 (fsYield rec) := yield_sound hrec
  cases c with
  | skip =>
    simp only [fsStep, Option.some.injEq, Prod.mk.injEq] at hf
    obtain ⟨rfl, rfl, rfl⟩ := hf
    exact wpIn_skip (k _ _ _ (Post.same hr ht hm))
  | label l =>
    simp only [fsStep, Option.some.injEq, Prod.mk.injEq] at hf
    obtain ⟨rfl, rfl, rfl⟩ := hf
    exact wpIn_label (k _ _ _ (Post.same hr ht hm))
  | exit id =>
    simp only [fsStep, Option.some.injEq, Prod.mk.injEq] at hf
    obtain ⟨rfl, rfl, rfl⟩ := hf
    exact wpIn_exit (k _ _ _ (Post.same hr ht hm))
  | ret =>
    simp only [fsStep, Option.some.injEq, Prod.mk.injEq] at hf
    obtain ⟨rfl, rfl, rfl⟩ := hf
    exact wpIn_ret (k _ _ _ (Post.same hr ht hm))
  | goto l => simp only [fsStep] at hf; cases hf
  | refuse l => simp only [fsStep] at hf; cases hf
  | scope b =>
    simp only [fsStep] at hf
    refine wpIn_scopeFs ?_
    refine (hrec rnd b fr h e fr' h' hok hf ρ S w a nn _ hr ht hm hs fun ρ1 w1 a1 p1 => ?_).wpIn
    have hq := k _ _ _ p1
    cases e with
    | normal => exact hq
    | exit id => exact hq
    | ret => exact hq
  | seq x y =>
    simp only [fsStep] at hf
    obtain ⟨ok1, ok2⟩ := band (show (codeOk x && codeOk y) = true from hok)
    refine wpIn_seq ?_
    split at hf
    · rename_i fr1 h1 hrun
      refine (hrec rnd x fr h _ fr1 h1 ok1 hrun ρ S w a nn _ hr ht hm hs fun ρ1 w1 a1 p1 => ?_).wpIn
      show y.wpIn (rndF ρ rnd) nn P Q a1 w1
      rw [← rndF_eq hs p1.moved.agree]
      exact (hrec rnd y fr1 h1 e fr' h' ok2 hf ρ1 _ w1 a1 nn Q p1.moved.hr p1.tmps p1.marks (fun l hl => .inl (hs l hl)) fun ρ2 w2 a2 p2 => k _ _ _ (Post.trans (fr1 := fr1) (a1 := a1) p1.moved p2)).wpIn
    · rename_i hne
      refine (hrec rnd x fr h e fr' h' ok1 hf ρ S w a nn _ hr ht hm hs fun ρ1 w1 a1 p1 => ?_).wpIn
      have hq := k _ _ _ p1
      cases e with
      | normal => exact (hne _ _ hf).elim
      | exit id => exact hq
      | ret => exact hq
  | cond x y z =>
    simp only [fsStep] at hf
    obtain ⟨ok1, ok2⟩ := band (show (codeOk y && codeOk z) = true from hok)
    have hev := ht.eval a.defers x
    split at hf
    · rename_i hx
      rw [hx] at hev
      exact wpIn_cond_true hev.bool_inv (hrec rnd y fr h e fr' h' ok1 hf ρ S w a nn Q hr ht hm hs k).wpIn
    · rename_i hx
      rw [hx] at hev
      exact wpIn_cond_false hev.bool_inv (hrec rnd z fr h e fr' h' ok2 hf ρ S w a nn Q hr ht hm hs k).wpIn
    · cases hf
  | block id b =>
    simp only [fsStep] at hf
    refine wpIn_block ?_
    split at hf
    · rename_i id' fr1 h1 hrun
      refine (hrec rnd b fr h _ fr1 h1 hok hrun ρ S w a nn _ hr ht hm hs fun ρ1 w1 a1 p1 => ?_).wpIn
      cases hb : Nat.beq id' id with
      | true =>
        rw [hb] at hf
        simp only [cond_true, Option.some.injEq, Prod.mk.injEq] at hf
        obtain ⟨rfl, rfl, rfl⟩ := hf
        have := k _ _ _ p1
        simp only [exOf, Exit.inBlock, nbeq hb, if_true]
        exact this
      | false =>
        rw [hb] at hf
        simp only [cond_false, Option.some.injEq, Prod.mk.injEq] at hf
        obtain ⟨rfl, rfl, rfl⟩ := hf
        have := k _ _ _ p1
        simp only [exOf, Exit.inBlock, if_neg (ne_of_no hb)]
        exact this
    · rename_i hne
      refine (hrec rnd b fr h e fr' h' hok hf ρ S w a nn _ hr ht hm hs fun ρ1 w1 a1 p1 => ?_).wpIn
      have hq := k _ _ _ p1
      cases e with
      | normal => exact hq
      | exit id' => exact (hne _ _ _ hf).elim
      | ret => exact hq
  | loop b =>
    simp only [fsStep] at hf
    show Code.roundsIn (rndF ρ rnd) nn P b Q (m + 1) a w
    rw [roundsIn_succ]
    split at hf
    · rename_i fr1 h1 hrun
      refine (hrec rnd b fr h _ fr1 h1 hok hrun ρ S w a nn _ hr ht hm hs fun ρ1 w1 a1 p1 => ?_).wpIn
      show Code.roundsIn (rndF ρ rnd) nn P b Q m a1 w1
      rw [← rndF_eq hs p1.moved.agree]
      exact hrec rnd (.loop b) fr1 h1 e fr' h' hok hf ρ1 _ w1 a1 nn Q p1.moved.hr p1.tmps p1.marks (fun l hl => .inl (hs l hl)) fun ρ2 w2 a2 p2 => k _ _ _ (Post.trans (fr1 := fr1) (a1 := a1) p1.moved p2)
    · rename_i hne
      refine (hrec rnd b fr h e fr' h' hok hf ρ S w a nn _ hr ht hm hs fun ρ1 w1 a1 p1 => ?_).wpIn
      have hq := k _ _ _ p1
      cases e with
      | normal => exact (hne _ _ hf).elim
      | exit id => exact hq
      | ret => exact hq
  | region id ops draw =>
    cases draw with
    | false =>
      simp only [fsStep] at hf
      split at hf
      · rename_i t h1 hrun
        simp only [Option.some.injEq, Prod.mk.injEq] at hf
        obtain ⟨rfl, rfl, rfl⟩ := hf
        refine wpIn_region ?_
        exact ops_wp (step := fsOp P (callOf P orc rec) (fsYield rec)) rfl hcs hys _ _ ρ S w a fr.t h range_map hr ht hrun fun ρ1 w1 a1 m1 ht1 hd1 => k _ _ _ ⟨m1, ht1, by rw [hd1]; exact hm.mono fun b hb => ⟨.inl hb, m1.agree b hb⟩⟩
      · cases hf
    | true =>
      simp only [fsStep] at hf
      split at hf
      · rename_i s hrun
        simp only [Option.some.injEq, Prod.mk.injEq] at hf
        obtain ⟨rfl, rfl, rfl⟩ := hf
        refine wpIn_region_draw fun t => ?_
        rw [hP.mixed]
        exact drawn_wp (call := callOf P orc rec) (yield := fsYield rec) hcs hys hok hrun (hr.drew _) ht (fun ρ1 w1 a1 m1 ht1 hd1 => k _ _ _ ⟨Moved.ofDrew m1, ht1, by rw [hd1]; exact hm.mono fun b hb => ⟨.inl hb, m1.agree b hb⟩⟩) t
      · cases hf
  | rangeFunc g ps assign body =>
    simp only [fsStep] at hf
    obtain ⟨ok1, ok2⟩ := band (show (codeOk assign && codeOk body) = true from hok)
    exact rangeFunc_sound hP hrec ok1 ok2 hf hr ht hm hs k

theorem code_sound (hP : ProgOk P) {orc : FuncId → List Value → Heap → Option (Value × Heap)} (horc : CallSound P B w0 orc) : ∀ m, SoundR P B w0 m (fsCode P orc m)
  | 0 => fun rnd c fr h e fr' h' _ hf => by cases hf
  | m + 1 => step_sound hP horc (code_sound hP horc m)

/-- **A call, evaluated.** -/
theorem fs_calls (hP : ProgOk P) {orc : FuncId → List Value → Heap → Option (Value × Heap)} (horc : CallSound P B w0 orc) (m : Nat) : CallSound P B w0 (fsEnter P (fsCode P orc m)) := enter_sound hP (code_sound hP horc m)

/-- **A closed call whose value bears no address: in every world, the world but for new blocks as it was.** -/
theorem fs_closed (hP : ProgOk P) {w : World} {orc : FuncId → List Value → Heap → Option (Value × Heap)} (horc : CallSound P w.heap.size w orc) {m : Nat} {f : FuncId} {args : List Value} {v : Value} (ha : args.all af = true)
    (hf : (fsEnter P (fsCode P orc m) f args ⟨1, 1, []⟩).map (·.1) = some v) (hv : af v = true) :
    Calls P f args.toArray w fun | .returned v', w' => v' = v ∧ Below w.heap.size w w' | _, _ => False := by
  obtain ⟨⟨v0, h0⟩, h1, h2⟩ := Option.map_eq_some_iff.1 hf
  simp only at h2
  subst h2
  have hr : HR P (fun _ => ⟨0, 0, 0, 0⟩) (fun _ => False) w.heap.size w ⟨1, 1, []⟩ w :=
    { objs := fun i o hi => (by cases hi), inj := fun i j oi oj hi => (by cases hi), base := fun i o hi => (by cases hi), ro := fun i o hi => (by cases hi), ids := fun b hb => hb.elim, pos := by decide,
      below := Below.refl _ _, size := Nat.le_refl _ }
  have hc := ((fs_calls hP horc m) f args _ _ _ h1).2 _ _ w args hr ⟨rfl, fun i hi => .of_af (List.all_eq_true.1 ha _ (mem_getD hi))⟩ 0
  refine Calls.mono (callsIn_wide.1 hc) fun e w' he => ?_
  cases e with
  | returned v' =>
    obtain ⟨ρ', m1, hv1⟩ := he
    exact ⟨hv1.eq_of_af hv, m1.hr.below⟩
  | panicked c => exact he.elim
  | outgrown => exact he.elim

end Go.Fs
namespace Go.Fs
open Go.RowKit (Below)
variable {P : Program}

/-- **A call whose value is known, evaluated from a heap that is related to the world.** -/
theorem fs_open (hP : ProgOk P) {B : Nat} {w0 w : World} {orc : FuncId → List Value → Heap → Option (Value × Heap)} (horc : CallSound P B w0 orc) {ρ : Ren} {S : Nat → Prop} {h : Heap} {f : FuncId} {args args' : List Value} {v : Value}
    (hr : HR P ρ S B w0 h w) (ha : LR ρ S args args') (he : EvF P orc f args h fun u _ => u = v) (hv : af v = true) : Calls P f args'.toArray w fun | .returned v', w' => v' = v ∧ Below B w0 w' | _, _ => False := by
  obtain ⟨m, u, h', h1, rfl⟩ := he
  have hc := (call_sound hP horc (code_sound hP horc m) f args h u h' h1).2 ρ S w args' hr ha 0
  refine Calls.mono (callsIn_wide.1 hc) fun e w' he => ?_
  cases e with
  | returned v' =>
    obtain ⟨ρ', m1, hv1⟩ := he
    exact ⟨hv1.eq_of_af hv, m1.hr.below⟩
  | panicked c => exact he.elim
  | outgrown => exact he.elim

/-- The kernel's run, as a run. -/
theorem EvF.ofRun {orc : FuncId → List Value → Heap → Option (Value × Heap)} {m : Nat} {f : FuncId} {args : List Value} {h : Heap} {v : Value} (ho : orc f args h = none) (hr : fsEnter P (fsCode P orc m) f args h = some (v, h)) : EvF P orc f args h fun u h' => u = v ∧ h' = h :=
  ⟨m, v, h, by unfold callOf; rw [ho]; exact hr, rfl, rfl⟩
end Go.Fs
namespace Go.Fs
open Go.RowKit (Below)
variable {P : Program}

def digs : Nat → Nat → List UInt8
  | 0, _ => []
  | f + 1, n => bif Nat.blt n 10 then [UInt8.ofNat (48 + n)] else digs f (n / 10) ++ [UInt8.ofNat (48 + n % 10)]
def itoaF (n : Int) : List UInt8 := match n with
  | .ofNat k => digs 20 k
  | .negSucc k => 45 :: digs 20 (k + 1)
def joinF (sep : List UInt8) : List (List UInt8) → List UInt8
  | [] => []
  | [w] => w
  | w :: r => w ++ sep ++ joinF sep r
def strs : List Value → Option (List ByteArray)
  | [] => some []
  | .string s :: r => (strs r).map (s :: ·)
  | _ => none

theorem digs_eq : ∀ (f n : Nat), n < 10 ^ (f + 1) → digs (f + 1) n = Lib.decDigits n
  | f, n, h => by
    unfold digs Lib.decDigits
    cases hb : Nat.blt n 10 with
    | true => rw [dif_pos (nblt hb)]; rfl
    | false =>
      have h1 : ¬ n < 10 := by have := nble_no hb; omega
      rw [dif_neg h1]
      simp only [cond_false]
      cases f with
      | zero => simp at h; omega
      | succ f => rw [digs_eq f (n / 10) (by rw [Nat.pow_succ] at h; omega)]
theorem itoaF_eq {n : Int} (h0 : -1000000000000000000 < n) (h1 : n < 1000000000000000000) : itoaF n = Lib.itoa n := by
  unfold Lib.itoa
  cases n with
  | ofNat k =>
    rw [if_neg (by simp)]
    show digs 20 k = _
    rw [digs_eq 19 k (by have : (k : Int) < 1000000000000000000 := h1; have : (10 : Nat) ^ (19 + 1) = 100000000000000000000 := by decide
                         omega)]
    rfl
  | negSucc k =>
    rw [if_pos (by omega)]
    show 45 :: digs 20 (k + 1) = _
    rw [digs_eq 19 (k + 1) (by have h2 : -1000000000000000000 < Int.negSucc k := h0; have : (10 : Nat) ^ (19 + 1) = 100000000000000000000 := by decide
                               omega)]
    rfl
theorem joinF_eq (sep : List UInt8) : ∀ xs : List (List UInt8), joinF sep xs = Lib.join xs sep
  | [] => rfl
  | [w] => by rw [Lib.join_one]; rfl
  | w :: v :: r => by
    rw [Lib.join_cons]
    simp only [joinF]
    rw [joinF_eq sep (v :: r), Lib.join_cons]
    simp [Lib.joinTail]

/-- strconv.Itoa is number fi, strings.Join number fj. -/
def orcS (fi fj : FuncId) : FuncId → List Value → Heap → Option (Value × Heap) := fun f xs h =>
  bif Nat.beq f fi then
    match xs with
    | [.int .i64 n] => bif decide (-1000000000000000000 < n) && decide (n < 1000000000000000000) then some (.string ⟨(itoaF n).toArray⟩, h) else none
    | _ => none
  else bif Nat.beq f fj then
    match xs with
    | [.slice (some ⟨b, o, none⟩) n _, .string sep] =>
      match h.get b with
      | some (.row _ cs _ _) =>
        bif Nat.ble (o + n) cs.length && Nat.ble n 1000000 then
          match strs ((cs.drop o).take n) with
          | some ss => let r := joinF sep.data.toList (ss.map (·.data.toList))
            bif Nat.ble r.length 1000000000 then some (.string ⟨r.toArray⟩, h) else none
          | none => none
        else none
      | _ => none
    | _ => none
  else none
variable {B : Nat} {w0 w w' : World} {ρ : Ren} {S : Nat → Prop} {h : Heap}
theorem strs_ok : ∀ (cs cs' : List Value) (ss : List ByteArray), LR ρ S cs cs' → strs cs = some ss → cs' = ss.map .string
  | [], cs', ss, hl, hs => by
    simp only [strs, Option.some.injEq] at hs
    subst hs
    exact List.eq_nil_of_length_eq_zero hl.1.symm
  | v :: r, [], ss, hl, _ => by have := hl.1; simp at this
  | v :: r, v' :: r', ss, hl, hs => by
    unfold strs at hs
    split at hs
    · rename_i he; cases he
    · rename_i s r0 he
      simp only [List.cons.injEq] at he
      obtain ⟨rfl, rfl⟩ := he
      obtain ⟨ss0, h1, rfl⟩ := Option.map_eq_some_iff.1 hs
      have hv : VR ρ S (.string s) v' := hl.2 0 (by simp)
      have hr : LR ρ S r r' := ⟨by have := hl.1; simpa using this, fun i hi => by have := hl.2 (i + 1) (by simp; omega); simpa using this⟩
      rw [hv.string_inv, strs_ok r r' ss0 hr h1]
      rfl
    · cases hs

/-- The two contracts make the oracle sound. -/
theorem orcS_sound {fi fj : FuncId} (hi : Enters P fi) (hj : Enters P fj)
    (hI : ∀ (n : Int) (w : World), Below B w0 w → -9223372036854775808 ≤ n → n ≤ 9223372036854775807 → Calls P fi #[.int .i64 n] w fun e w' => e = .returned (.string ⟨(Lib.itoa n).toArray⟩) ∧ Below w.heap.size w w')
    (hJ : ∀ (bk o c : Nat) (xs : List ByteArray) (sep : ByteArray) (w : World), (∀ (j : Nat) x, xs[j]? = some x → w.cell? ⟨bk, o + j, none⟩ = some (.string x)) → bk < w.heap.size → xs.length ≤ 140737488355328 → xs.length ≤ c →
      (Lib.join (xs.map (·.data.toList)) sep.data.toList).length ≤ 140737488355328 →
      Calls P fj #[.slice (some ⟨bk, o, none⟩) xs.length c, .string sep] w fun e w' => e = .returned (.string ⟨(Lib.join (xs.map (·.data.toList)) sep.data.toList).toArray⟩) ∧ Below w.heap.size w w') :
    CallSound P B w0 (orcS fi fj) := by
  intro f xs h v h' hf
  unfold orcS at hf
  cases hfi : Nat.beq f fi with
  | true =>
    have := nbeq hfi
    subst this
    rw [hfi] at hf
    simp only [cond_true] at hf
    split at hf
    · rename_i n
      obtain ⟨hc, hf2⟩ := bif_some hf
      obtain ⟨h0, h1⟩ := band hc
      have h0 := of_decide_eq_true h0
      have h1 := of_decide_eq_true h1
      simp only [Option.some.injEq, Prod.mk.injEq] at hf2
      obtain ⟨rfl, rfl⟩ := hf2
      refine ⟨hi, fun ρ S w args' hr ha nn => ?_⟩
      have he : args' = [.int .i64 n] := ha.eq_of_af (by rfl)
      subst he
      have hC : CallsIn Fence.wide nn P f #[.int .i64 n] w _ := callsIn_wide.2 (hI n w hr.below (by omega) (by omega))
      refine hC.mono fun e w' hret => ?_
      obtain ⟨rfl, hb⟩ := hret
      exact ⟨ρ, Moved.grewWorld hr hb, by rw [itoaF_eq h0 h1]; exact .lit rfl⟩
    · cases hf
  | false =>
    rw [hfi] at hf
    simp only [cond_false] at hf
    obtain ⟨hfj, hf2⟩ := bif_some hf
    have := nbeq hfj
    subst this
    clear hf
    split at hf2
    · rename_i b o n mk sep
      split at hf2
      · rename_i e cs own more hg
        obtain ⟨hc, hf3⟩ := bif_some hf2
        obtain ⟨hle, hn⟩ := band hc
        have hle := nble hle
        have hn := nble hn
        split at hf3
        · rename_i ss hss
          obtain ⟨hlen, hf4⟩ := bif_some hf3
          have hlen := nble hlen
          simp only [Option.some.injEq, Prod.mk.injEq] at hf4
          obtain ⟨rfl, rfl⟩ := hf4
          refine ⟨hj, fun ρ S w args' hr ha nn => ?_⟩
          match args', ha with
          | [x', s'], ha =>
            have hx : VR ρ S (.slice (some ⟨b, o, none⟩) n mk) x' := ha.2 0 (by simp)
            have hs : VR ρ S (.string sep) s' := ha.2 1 (by simp)
            obtain ⟨A, c, rfl, hnc, _, _, hb⟩ := hx.slice_inv
            obtain rfl := hs.string_inv
            have hb0 : b ≠ 0 := (hr.ids b (hr.objs b _ hg).1).2
            obtain ⟨_, rfl, _⟩ := hb hb0
            have hobj := (hr.objs b _ hg).2
            have hlt : (ρ b).block < w.heap.size := by
              by_cases hown : ownO (.row e cs own more) = true
              · exact hobj.lt hown
              · have := hr.ro b _ hg (by simpa using hown)
                have := hr.size
                omega
            have hlr : LR ρ S ((cs.drop o).take n) ((List.range n).map fun j => (w.cell? ((ρ b).at (o + j))).getD undef) := by
              refine LR.of_get? (by simp; omega) fun i v v' hv hv' => ?_
              rw [List.getElem?_take] at hv
              split at hv
              · rename_i hin
                rw [List.getElem?_drop] at hv
                obtain ⟨u, h1, h2⟩ := hobj.cell (i := o + i) (by omega)
                simp [hin, h1] at hv'
                subst hv'
                have : cs.getD (o + i) undef = v := by simp [List.getD, hv]
                rwa [this] at h2
              · cases hv
            have heq := strs_ok _ _ ss hlr hss
            have hsl : ss.length = n := by
              have := congrArg List.length heq
              simp at this
              omega
            have hcells : ∀ (j : Nat) x, ss[j]? = some x → w.cell? ⟨(ρ b).block, (ρ b).off + o + j, none⟩ = some (.string x) := fun j x hjx => by
              have hjn : j < n := by have := (List.getElem?_eq_some_iff.1 hjx).1; omega
              obtain ⟨u, h1, h2⟩ := hobj.cell (i := o + j) (by omega)
              have h3 := congrArg (·[j]?) heq
              simp [hjn, hjx, h1] at h3
              subst h3
              simpa [Loc.at, Nat.add_assoc] using h1
            rw [joinF_eq] at hlen
            have hC : CallsIn Fence.wide nn P f #[.slice (some ⟨(ρ b).block, (ρ b).off + o, none⟩) ss.length c, .string sep] w _ := callsIn_wide.2 (hJ (ρ b).block ((ρ b).off + o) c ss sep w hcells hlt (by omega) (by omega) (by omega))
            rw [hsl] at hC
            refine hC.mono fun e w' hret => ?_
            obtain ⟨rfl, hb⟩ := hret
            exact ⟨ρ, Moved.grewWorld hr hb, by rw [joinF_eq]; exact .lit rfl⟩
        · cases hf3
      · cases hf2
    · cases hf2

end Go.Fs
namespace Go.Fs
open Go.RowKit (Below)
variable {P : Program}

/-- As orcS; function fa answers true. -/
def orcA (fi fj fa : FuncId) : FuncId → List Value → Heap → Option (Value × Heap) := fun f xs h =>
  bif Nat.beq f fa then
    match xs with
    | [] => some (.bool true, h)
    | _ => none
  else orcS fi fj f xs h

theorem orcA_sound {B : Nat} {w0 : World} {fi fj fa : FuncId} (hS : CallSound P B w0 (orcS fi fj)) (ha : Enters P fa)
    (hA : ∀ w, Below B w0 w → Calls P fa #[] w fun | .returned v', w' => v' = .bool true ∧ Below w.heap.size w w' | _, _ => False) : CallSound P B w0 (orcA fi fj fa) := by
  intro f xs h v h' hf
  unfold orcA at hf
  cases hb : Nat.beq f fa with
  | true =>
    have := nbeq hb
    subst this
    rw [hb] at hf
    simp only [cond_true] at hf
    split at hf
    · simp only [Option.some.injEq, Prod.mk.injEq] at hf
      obtain ⟨rfl, rfl⟩ := hf
      refine ⟨ha, fun ρ S w args' hr har nn => ?_⟩
      have he : args' = [] := List.eq_nil_of_length_eq_zero har.1.symm
      subst he
      have hC : CallsIn Fence.wide nn P f #[] w _ := callsIn_wide.2 (hA w hr.below)
      refine hC.mono fun e w' hret => ?_
      cases e with
      | returned v' =>
        obtain ⟨rfl, hb⟩ := hret
        exact ⟨ρ, Moved.grewWorld hr hb, .lit rfl⟩
      | panicked c => exact hret.elim
      | outgrown => exact hret.elim
    · cases hf
  | false =>
    rw [hb] at hf
    exact hS f xs h v h' hf

/-- The closed call's soundness, at every world behind w0. -/
theorem awake_calls (hP : ProgOk P) {B : Nat} {w0 : World} {fi fj fa : FuncId} (hS : ∀ w, Below B w0 w → CallSound P w.heap.size w (orcS fi fj)) {m : Nat}
    (hrun : (fsEnter P (fsCode P (orcS fi fj) m) fa [] ⟨1, 1, []⟩).map (·.1) = some (.bool true)) (w : World) (hw : Below B w0 w) :
    Calls P fa #[] w fun | .returned v', w' => v' = .bool true ∧ Below w.heap.size w w' | _, _ => False :=
  fs_closed hP (hS w hw) (args := []) rfl hrun rfl
end Go.Fs
namespace Go.Proofs
open Go.Fs
set_option linter.unusedVariables false
def OA := orcA 211 154 16
abbrev y22 : Ty := (.sl (.int .i64))
abbrev y179 : Ty := (.sl (.int .i64))
theorem vt3 : ValT Tryz.prog 3 (.int .i64) := valT_of (by kernel_rfl)
theorem vt26 : ValT Tryz.prog 26 (.int .i64) := valT_of (by kernel_rfl)
theorem el22 : ElT Tryz.prog 22 3 (.int .i64) := elT_of (by kernel_rfl)
theorem el179 : ElT Tryz.prog 179 26 (.int .i64) := elT_of (by kernel_rfl)
def whenE (c : Bool) (e : Int) : Int := bif c then e else 0
theorem sWhen_ok {c : Bool} {e : Int} : VF Tryz.prog OA 93 [B c, I e] (I (whenE c e)) := by
  refine VF.enter Tryz.func93 rfl (fun _ _ => rfl) rfl ?_
  show VC _ _ _ _ _ [(0, B c), (1, I e)] [] _
  refine VC.seq ?_
  refine VC.text ?_
  refine VO.c (.assign rfl) ?_
  refine VO.go ?_
  refine VC.seq ?_
  refine VC.seq ?_
  refine VC.text ?_
  refine VO.c (.move rfl) ?_
  refine VO.go ?_
  refine VC.condB rfl (fun c1 => ?_) (fun c1 => ?_)
  · subst c1
    refine VC.seq ?_
    refine VC.text ?_
    refine VO.c (.move rfl) ?_
    refine VO.c (.assign rfl) ?_
    refine VO.go ?_
    refine VC.ret ?_
    exact VEnd.one rfl evT (pvI (by rfl))
  · subst c1
    refine VC.skip ?_
    show VC _ _ _ _ _ _ _ _
    refine VC.seq ?_
    refine VC.text ?_
    refine VO.c (.assign rfl) ?_
    refine VO.go ?_
    refine VC.ret ?_
    exact VEnd.one rfl evT (pvI (by rfl))
def rangeE (n lo hi : Int) : Int := if n < lo ∨ hi < n then 3 else 0
theorem rCheckRange_ok {n : Int} {lo : Int} {hi : Int} : VF Tryz.prog OA 40 [I n, I lo, I hi] (I (rangeE n lo hi)) := by
  refine VF.enter Tryz.func40 rfl (fun _ _ => rfl) rfl ?_
  show VC _ _ _ _ _ [(0, I n), (1, I lo), (2, I hi)] [] _
  refine VC.seq ?_
  refine VC.text ?_
  refine VO.c (.assign rfl) ?_
  refine VO.go ?_
  refine VC.seq ?_
  refine VC.seq ?_
  refine VC.text ?_
  refine VO.c (.move rfl) ?_
  refine VO.c (.move rfl) ?_
  refine VO.c (.lss) ?_
  refine VO.c (.move rfl) ?_
  refine VO.cg (r := decide (n < lo)) (w := false) [] trivial (fun hgd => have g1_3 : ¬ (n < lo) := (by simpa using hgd); (.move rfl)) ?_
  refine VO.cg (r := decide (n < lo)) (w := false) [] trivial (fun hgd => have g1_3 : ¬ (n < lo) := (by simpa using hgd); (.move rfl)) ?_
  refine VO.cg (r := decide (n < lo)) (w := false) [(11, I n), (12, I hi)] ⟨rfl, rfl, trivial⟩ (fun hgd => have g1_3 : ¬ (n < lo) := (by simpa using hgd); (.gtr)) ?_
  refine VO.c (.or) ?_
  refine VO.go ?_
  refine VC.condB rfl (fun c1 => ?_) (fun c1 => ?_)
  · try simp only [Bool.and_eq_true, Bool.or_eq_true, Bool.and_eq_false_iff, Bool.or_eq_false_iff, Bool.not_eq_true', Bool.not_eq_false', decide_eq_true_eq, decide_eq_false_iff_not] at c1
    refine VC.seq ?_
    refine VC.text ?_
    refine VO.c (.assign rfl) ?_
    refine VO.go ?_
    refine VC.ret ?_
    exact VEnd.one rfl evT (pvI (by simp only [rangeE, ← Bool.decide_or, decide_eq_true_eq, decide_eq_false_iff_not, Bool.or_eq_true, Bool.or_eq_false_iff] at *; first | rw [if_pos (by omega)] | rw [if_neg (by omega)]))
  · try simp only [Bool.and_eq_true, Bool.or_eq_true, Bool.and_eq_false_iff, Bool.or_eq_false_iff, Bool.not_eq_true', Bool.not_eq_false', decide_eq_true_eq, decide_eq_false_iff_not] at c1
    refine VC.skip ?_
    show VC _ _ _ _ _ _ _ _
    refine VC.seq ?_
    refine VC.text ?_
    refine VO.c (.assign rfl) ?_
    refine VO.go ?_
    refine VC.ret ?_
    exact VEnd.one rfl evT (pvI (by simp only [rangeE, ← Bool.decide_or, decide_eq_true_eq, decide_eq_false_iff_not, Bool.or_eq_true, Bool.or_eq_false_iff] at *; first | rw [if_pos (by omega)] | rw [if_neg (by omega)]))
theorem whenE_range {n lo hi : Int} : whenE (decide (n < lo) || decide (hi < n)) 3 = rangeE n lo hi := by
  unfold whenE rangeE
  by_cases h1 : n < lo <;> by_cases h2 : hi < n <;> simp [h1, h2]
theorem sWithin_ok {n : Int} {lo : Int} {hi : Int} : VF Tryz.prog OA 101 [I n, I lo, I hi] (I (rangeE n lo hi)) := by
  refine VF.enter Tryz.func101 rfl (fun _ _ => rfl) rfl ?_
  show VC _ _ _ _ _ [(0, I n), (1, I lo), (2, I hi)] [] _
  refine VC.seq ?_
  refine VC.text ?_
  refine VO.c (.assign rfl) ?_
  refine VO.go ?_
  refine VC.seq ?_
  refine VC.text ?_
  refine VO.c (.move rfl) ?_
  refine VO.c (.move rfl) ?_
  refine VO.c (.lss) ?_
  refine VO.c (.move rfl) ?_
  refine VO.cg (r := decide (n < lo)) (w := false) [] trivial (fun hgd => have g1_3 : ¬ (n < lo) := (by simpa using hgd); (.move rfl)) ?_
  refine VO.cg (r := decide (n < lo)) (w := false) [] trivial (fun hgd => have g1_3 : ¬ (n < lo) := (by simpa using hgd); (.move rfl)) ?_
  refine VO.cg (r := decide (n < lo)) (w := false) [(11, I n), (12, I hi)] ⟨rfl, rfl, trivial⟩ (fun hgd => have g1_3 : ¬ (n < lo) := (by simpa using hgd); (.gtr)) ?_
  refine VO.c (.or) ?_
  refine VO.call rfl rfl (VF.call (sWhen_ok )) ?_
  refine VO.c (.assign rfl) ?_
  refine VO.go ?_
  refine VC.ret ?_
  exact VEnd.one rfl evT (pvI (by exact whenE_range))
def firstE : List Int → Int
  | [] => 0
  | x :: r => if x = 0 then firstE r else x
theorem firstE_drop {xs : List Int} {j : Nat} (hj : j < xs.length) : firstE (xs.drop j) = if xs[j] = 0 then firstE (xs.drop (j + 1)) else xs[j] := by
  rw [List.drop_eq_getElem_cons hj] <;> rfl
theorem firstE_end {xs : List Int} {j : Nat} (hj : xs.length ≤ j) : firstE (xs.drop j) = 0 := by rw [List.drop_eq_nil_of_le hj] <;> rfl
theorem sFirst_ok {l : List Int} (hl : l.length < 1000000) : VF Tryz.prog OA 92 [.v y179 l] (I (firstE l)) := by
  refine VF.enter Tryz.func92 rfl (fun _ _ => rfl) rfl ?_
  show VC _ _ _ _ _ [(0, .v y179 l)] [] _
  refine VC.seq ?_
  refine VC.text ?_
  refine VO.c (.assign rfl) ?_
  refine VO.go ?_
  refine VC.seq ?_
  refine VC.seq ?_
  refine VC.text ?_
  refine VO.c (.move rfl) ?_
  refine VO.r (.len el179) ?_
  refine VO.c (.move rfl) ?_
  refine VO.go ?_
  refine VC.block ?_
  refine VC.keep [(5, .v y179 l), (6, I ((l.length : Nat) : Int)), (7, I ((0 : Nat) : Int))] ⟨rfl, rfl, rfl, trivial⟩ ?_
  refine VC.loop (I := fun kk ff ss => ∃ (j : Nat), kk = l.length - j ∧ ff = [(5, .v y179 l), (6, I ((l.length : Nat) : Int)), (7, I ((j : Nat) : Int))] ∧ ss = [] ∧ (j ≤ l.length) ∧ (firstE l = firstE (l.drop j))) ?_ _ _ _ ⟨0, rfl, rfl, rfl, Nat.zero_le _, (by rfl)⟩
  rintro kk ff ss ⟨j, hk0, rfl, rfl, hj, hf⟩
  refine VC.seq ?_
  refine VC.text ?_
  refine VO.c (.lss) ?_
  refine VO.go ?_
  refine VC.seq ?_
  refine VC.condD rfl (fun c2 => ?_) (fun c2 => ?_)
  · refine VC.skip ?_
    show VC _ _ _ _ _ _ _ _
    refine VC.seq ?_
    refine VC.block ?_
    refine VC.seq ?_
    refine VC.text ?_
    refine VO.c (.ix (j := j) rfl rfl el179 (by omega)) ?_
    refine VO.r (.ld vt26) ?_
    refine VO.c (.assign rfl) ?_
    refine VO.go ?_
    refine VC.seq ?_
    refine VC.text ?_
    refine VO.c (.move rfl) ?_
    refine VO.c (.neq) ?_
    refine VO.go ?_
    refine VC.condD rfl (fun c4 => ?_) (fun c4 => ?_)
    · refine VC.seq ?_
      refine VC.text ?_
      refine VO.c (.move rfl) ?_
      refine VO.c (.assign rfl) ?_
      refine VO.go ?_
      refine VC.ret ?_
      exact VEnd.one rfl evT (pvI (by rw [hf, firstE_drop (by omega), if_neg c4]))
    · refine VC.skip ?_
      show VC _ _ _ _ _ _ _ _
      refine VC.text ?_
      refine VO.c (.add rfl rfl (by omega)) ?_
      refine VO.c (.move rfl) ?_
      refine VO.nil ?_
      refine ⟨_, [(5, .v y179 l), (6, I ((l.length : Nat) : Int)), (7, I (((j + 1) : Nat) : Int))], ?_, ⟨rfl, rfl, rfl, trivial⟩, (j + 1), rfl, rfl, rfl, (by omega), (by rw [hf, firstE_drop (by omega), if_pos (by simpa using c4)])⟩
      omega
  · refine VC.exit ?_
    show VC _ _ _ _ _ _ _ _
    refine VC.seq ?_
    refine VC.text ?_
    refine VO.c (.assign rfl) ?_
    refine VO.go ?_
    refine VC.ret ?_
    exact VEnd.one rfl evT (pvI (by rw [hf, firstE_end (by omega)]))
theorem rFirst_ok {l : List Int} (hl : l.length < 1000000) : VF Tryz.prog OA 96 [.v y22 l] (I (firstE l)) := by
  refine VF.enter Tryz.func96 rfl (fun _ _ => rfl) rfl ?_
  show VC _ _ _ _ _ [(0, .v y22 l)] [] _
  refine VC.seq ?_
  refine VC.text ?_
  refine VO.c (.assign rfl) ?_
  refine VO.go ?_
  refine VC.seq ?_
  refine VC.seq ?_
  refine VC.text ?_
  refine VO.c (.assign rfl) ?_
  refine VO.go ?_
  refine VC.block ?_
  refine VC.keep [(0, .v y22 l), (3, I ((0 : Nat) : Int))] ⟨rfl, rfl, trivial⟩ ?_
  refine VC.loop (I := fun kk ff ss => ∃ (j : Nat), kk = l.length - j ∧ ff = [(0, .v y22 l), (3, I ((j : Nat) : Int))] ∧ ss = [] ∧ (j ≤ l.length) ∧ (firstE l = firstE (l.drop j))) ?_ _ _ _ ⟨0, rfl, rfl, rfl, Nat.zero_le _, (by rfl)⟩
  rintro kk ff ss ⟨j, hk0, rfl, rfl, hj, hf⟩
  refine VC.seq ?_
  refine VC.seq ?_
  refine VC.text ?_
  refine VO.c (.move rfl) ?_
  refine VO.c (.move rfl) ?_
  refine VO.r (.len el22) ?_
  refine VO.c (.lss) ?_
  refine VO.go ?_
  refine VC.condD rfl (fun c2 => ?_) (fun c2 => ?_)
  · refine VC.skip ?_
    show VC _ _ _ _ _ _ _ _
    refine VC.seq ?_
    refine VC.block ?_
    refine VC.seq ?_
    refine VC.text ?_
    refine VO.c (.move rfl) ?_
    refine VO.c (.move rfl) ?_
    refine VO.c (.ix (j := j) rfl rfl el22 (by omega)) ?_
    refine VO.r (.ld vt3) ?_
    refine VO.c (.neq) ?_
    refine VO.go ?_
    refine VC.condD rfl (fun c4 => ?_) (fun c4 => ?_)
    · refine VC.seq ?_
      refine VC.text ?_
      refine VO.c (.move rfl) ?_
      refine VO.c (.move rfl) ?_
      refine VO.c (.ix (j := j) rfl rfl el22 (by omega)) ?_
      refine VO.r (.ld vt3) ?_
      refine VO.c (.assign rfl) ?_
      refine VO.go ?_
      refine VC.ret ?_
      exact VEnd.one rfl evT (pvI (by rw [hf, firstE_drop (by omega), if_neg c4]))
    · refine VC.skip ?_
      show VC _ _ _ _ _ _ _ _
      refine VC.text ?_
      refine VO.c (.move rfl) ?_
      refine VO.c (.add rfl rfl (by omega)) ?_
      refine VO.c (.assign rfl) ?_
      refine VO.nil ?_
      refine ⟨_, [(0, .v y22 l), (3, I (((j + 1) : Nat) : Int))], ?_, ⟨rfl, rfl, trivial⟩, (j + 1), rfl, rfl, rfl, (by omega), (by rw [hf, firstE_drop (by omega), if_pos (by simpa using c4)])⟩
      omega
  · refine VC.exit ?_
    show VC _ _ _ _ _ _ _ _
    refine VC.seq ?_
    refine VC.text ?_
    refine VO.c (.assign rfl) ?_
    refine VO.go ?_
    refine VC.ret ?_
    exact VEnd.one rfl evT (pvI (by rw [hf, firstE_end (by omega)]))
theorem lInts_ok {l : List Int} (hl : l.length < 1000000) : VF Tryz.prog OA 19 [.v y22 l] (.v y22 l) := by
  refine VF.enter Tryz.func19 rfl (fun _ _ => rfl) rfl ?_
  show VC _ _ _ _ _ [(0, .v y22 l)] [] _
  refine VC.seq ?_
  refine VC.text ?_
  refine VO.c (.assign rfl) ?_
  refine VO.go ?_
  refine VC.seq ?_
  refine VC.text ?_
  refine VO.cell (.lit0 el22) ?_
  intro ww1
  refine VO.c (.move rfl) ?_
  refine VO.app rfl rfl el22 el22 (by simp; omega) ?_
  intro ww2
  refine VO.c (.assign rfl) ?_
  refine VO.go ?_
  refine VC.ret ?_
  exact VEnd.one rfl (evC (.row m0)) (pvE (by first | rfl | simp))
theorem sMapIE_ok {F : Int → Int} {l : List Int} {f : PV} (hl : l.length < 100000) (hf : ∀ x ∈ l, VCall Tryz.prog OA f [I x] (.v (.int .i64) (F x))) : VF Tryz.prog OA 99 [.v y22 l, f] (.v y179 (l.map F)) := by
  refine VF.enter Tryz.func99 rfl (fun _ _ => rfl) rfl ?_
  show VC _ _ _ _ _ [(0, .v y22 l), (1, f)] [] _
  refine VC.seq ?_
  refine VC.text ?_
  refine VO.c (.assign rfl) ?_
  refine VO.go ?_
  refine VC.seq ?_
  refine VC.text ?_
  refine VO.c (.assign rfl) ?_
  refine VO.go ?_
  refine VC.seq ?_
  refine VC.seq ?_
  refine VC.text ?_
  refine VO.c (.move rfl) ?_
  refine VO.r (.len el22) ?_
  refine VO.c (.move rfl) ?_
  refine VO.go ?_
  refine VC.block ?_
  refine VC.cell0 26 (.int .i64) ?_
  refine VC.keep [(1, f), (5, .raw (.slice none 0 0)), (8, .v y22 l), (9, I ((l.length : Nat) : Int)), (10, I ((0 : Nat) : Int))] ⟨rfl, rfl, rfl, rfl, rfl, trivial⟩ ?_
  refine VC.loop (I := fun kk ff ss => ∃ (j : Nat) (out : Value), kk = l.length - j ∧ ff = [(1, f), (5, .raw out), (8, .v y22 l), (9, I ((l.length : Nat) : Int)), (10, I ((j : Nat) : Int))] ∧ ss = [(out, .row 26 (.int .i64) ((l.take j).map F))] ∧ (j ≤ l.length)) ?_ _ _ _ ⟨0, (.slice none 0 0), rfl, rfl, rfl, Nat.zero_le _⟩
  rintro kk ff ss ⟨j, out, hk0, rfl, rfl, hj⟩
  refine VC.seq ?_
  refine VC.text ?_
  refine VO.c (.lss) ?_
  refine VO.go ?_
  refine VC.seq ?_
  refine VC.condD rfl (fun c3 => ?_) (fun c3 => ?_)
  · refine VC.skip ?_
    show VC _ _ _ _ _ _ _ _
    refine VC.seq ?_
    refine VC.block ?_
    refine VC.seq ?_
    refine VC.text ?_
    refine VO.c (.ix (j := j) rfl rfl el22 (by omega)) ?_
    refine VO.r (.ld vt3) ?_
    refine VO.c (.assign rfl) ?_
    refine VO.go ?_
    refine VC.text ?_
    refine VO.c (.move rfl) ?_
    refine VO.c (.move rfl) ?_
    refine VO.c (.move rfl) ?_
    refine VO.call rfl rfl ((hf _ (List.getElem_mem _)) ) ?_
    refine VO.new (.lit [F (l[j])] el179) ?_
    refine VO.app rfl rfl el179 el179 (by simp; omega) ?_
    intro ww3
    refine VO.c (.assign rfl) ?_
    refine VO.nil ?_
    show VC _ _ _ _ _ _ _ _
    refine VC.text ?_
    refine VO.c (.add rfl rfl (by omega)) ?_
    refine VO.c (.move rfl) ?_
    refine VO.nil ?_
    refine ⟨_, [(1, f), (5, .raw ww3), (8, .v y22 l), (9, I ((l.length : Nat) : Int)), (10, I (((j + 1) : Nat) : Int))], ?_, ⟨rfl, rfl, rfl, rfl, rfl, trivial⟩, (j + 1), ww3, rfl, rfl, (by rw [List.take_succ_eq_append_getElem (by omega), List.map_append] <;> rfl), (by omega)⟩
    omega
  · refine VC.exit ?_
    show VC _ _ _ _ _ _ _ _
    refine VC.seq ?_
    refine VC.text ?_
    refine VO.c (.move rfl) ?_
    refine VO.c (.assign rfl) ?_
    refine VO.go ?_
    refine VC.ret ?_
    exact VEnd.one rfl (evC (.row m0)) (pvE (by rw [List.take_of_length_le (by omega)]))
theorem sTap_ok {n : Int} : VF Tryz.prog OA 100 [I n] (I (rangeE n (-64) 64)) := by
  refine VF.enter Tryz.func100 rfl (fun _ _ => rfl) rfl ?_
  show VC _ _ _ _ _ [(0, I n)] [] _
  refine VC.seq ?_
  refine VC.text ?_
  refine VO.c (.assign rfl) ?_
  refine VO.go ?_
  refine VC.seq ?_
  refine VC.text ?_
  refine VO.c (.move rfl) ?_
  refine VO.call rfl rfl (VF.call (sWithin_ok )) ?_
  refine VO.c (.assign rfl) ?_
  refine VO.go ?_
  refine VC.ret ?_
  exact VEnd.one rfl evT (pvI (by first | rfl | simp))
theorem sHeight_ok {n : Int} : VF Tryz.prog OA 109 [I n] (I (rangeE n (-1048576) 1048576)) := by
  refine VF.enter Tryz.func109 rfl (fun _ _ => rfl) rfl ?_
  show VC _ _ _ _ _ [(0, I n)] [] _
  refine VC.seq ?_
  refine VC.text ?_
  refine VO.c (.assign rfl) ?_
  refine VO.go ?_
  refine VC.seq ?_
  refine VC.text ?_
  refine VO.c (.move rfl) ?_
  refine VO.call rfl rfl (VF.call (sWithin_ok )) ?_
  refine VO.c (.assign rfl) ?_
  refine VO.go ?_
  refine VC.ret ?_
  exact VEnd.one rfl evT (pvI (by first | rfl | simp))
def heightsE (l : List Int) : Int := firstE (l.map fun x => rangeE x (-1048576) 1048576)
theorem sHeights_ok {l : List Int} (hl : l.length < 100000) : VF Tryz.prog OA 94 [.v y22 l] (I (heightsE l)) := by
  refine VF.enter Tryz.func94 rfl (fun _ _ => rfl) rfl ?_
  show VC _ _ _ _ _ [(0, .v y22 l)] [] _
  refine VC.seq ?_
  refine VC.text ?_
  refine VO.c (.assign rfl) ?_
  refine VO.go ?_
  refine VC.seq ?_
  refine VC.text ?_
  refine VO.c (.move rfl) ?_
  refine VO.call rfl rfl (VF.call (sMapIE_ok (F := fun x => rangeE x (-1048576) 1048576) hl (fun _ _ => VF.call sHeight_ok))) ?_
  refine VO.call rfl rfl (VF.call (sFirst_ok (by simpa using (by omega : l.length < 1000000)))) ?_
  refine VO.c (.assign rfl) ?_
  refine VO.go ?_
  refine VC.ret ?_
  exact VEnd.one rfl evT (pvI (by first | rfl | simp))
end Go.Proofs
namespace Go.Proofs
open Go.Fs
set_option linter.unusedVariables false
abbrev y24 : Ty := (.pair (.sl (.int .i64)) (.pair (.int .i64) (.int .i64)))
abbrev y29 : Ty := (.pair (.sl (.int .i64)) (.pair (.int .i64) (.int .i64)))
theorem vt22 : ValT Tryz.prog 22 y22 := valT_of (by kernel_rfl)
theorem heightsE_drop {l : List Int} {j : Nat} (hj : j < l.length) : heightsE (l.drop j) = if rangeE l[j] (-1048576) 1048576 = 0 then heightsE (l.drop (j + 1)) else rangeE l[j] (-1048576) 1048576 := by
  rw [heightsE, List.drop_eq_getElem_cons hj] <;> rfl
theorem heightsE_end {l : List Int} {j : Nat} (hj : l.length ≤ j) : heightsE (l.drop j) = 0 := by rw [List.drop_eq_nil_of_le hj] <;> rfl
theorem rHeights_ok {l : List Int} (hl : l.length < 1000000) : VF Tryz.prog OA 97 [.v y22 l] (I (heightsE l)) := by
  refine VF.enter Tryz.func97 rfl (fun _ _ => rfl) rfl ?_
  show VC _ _ _ _ _ [(0, .v y22 l)] [] _
  refine VC.seq ?_
  refine VC.text ?_
  refine VO.c (.assign rfl) ?_
  refine VO.go ?_
  refine VC.seq ?_
  refine VC.seq ?_
  refine VC.text ?_
  refine VO.c (.assign rfl) ?_
  refine VO.go ?_
  refine VC.block ?_
  refine VC.keep [(0, .v y22 l), (3, I ((0 : Nat) : Int))] ⟨rfl, rfl, trivial⟩ ?_
  refine VC.loop (I := fun kk ff ss => ∃ (j : Nat), kk = l.length - j ∧ ff = [(0, .v y22 l), (3, I ((j : Nat) : Int))] ∧ ss = [] ∧ (j ≤ l.length) ∧ (heightsE l = heightsE (l.drop j))) ?_ _ _ _ ⟨0, rfl, rfl, rfl, Nat.zero_le _, (by rfl)⟩
  rintro kk ff ss ⟨j, hk0, rfl, rfl, hj, hf⟩
  refine VC.seq ?_
  refine VC.seq ?_
  refine VC.text ?_
  refine VO.c (.move rfl) ?_
  refine VO.c (.move rfl) ?_
  refine VO.r (.len el22) ?_
  refine VO.c (.lss) ?_
  refine VO.go ?_
  refine VC.condD rfl (fun c2 => ?_) (fun c2 => ?_)
  · refine VC.skip ?_
    show VC _ _ _ _ _ _ _ _
    refine VC.seq ?_
    refine VC.block ?_
    refine VC.seq ?_
    refine VC.text ?_
    refine VO.c (.move rfl) ?_
    refine VO.c (.move rfl) ?_
    refine VO.c (.ix (j := j) rfl rfl el22 (by omega)) ?_
    refine VO.r (.ld vt3) ?_
    refine VO.call rfl rfl (VF.call (rCheckRange_ok )) ?_
    refine VO.c (.assign rfl) ?_
    refine VO.go ?_
    refine VC.seq ?_
    refine VC.text ?_
    refine VO.c (.move rfl) ?_
    refine VO.c (.neq) ?_
    refine VO.go ?_
    refine VC.condD rfl (fun c5 => ?_) (fun c5 => ?_)
    · refine VC.seq ?_
      refine VC.text ?_
      refine VO.c (.move rfl) ?_
      refine VO.c (.assign rfl) ?_
      refine VO.go ?_
      refine VC.ret ?_
      exact VEnd.one rfl evT (pvI (by rw [hf, heightsE_drop (by omega), if_neg c5]))
    · refine VC.skip ?_
      show VC _ _ _ _ _ _ _ _
      refine VC.text ?_
      refine VO.c (.move rfl) ?_
      refine VO.c (.add rfl rfl (by omega)) ?_
      refine VO.c (.assign rfl) ?_
      refine VO.nil ?_
      refine ⟨_, [(0, .v y22 l), (3, I (((j + 1) : Nat) : Int))], ?_, ⟨rfl, rfl, trivial⟩, (j + 1), rfl, rfl, rfl, (by omega), (by rw [hf, heightsE_drop (by omega), if_pos (by simpa using c5)])⟩
      omega
  · refine VC.exit ?_
    show VC _ _ _ _ _ _ _ _
    refine VC.seq ?_
    refine VC.text ?_
    refine VO.c (.assign rfl) ?_
    refine VO.go ?_
    refine VC.ret ?_
    exact VEnd.one rfl evT (pvI (by rw [hf, heightsE_end (by omega)]))
def numbersE (l : List Int) : Int := if (96 : Int) < l.length then 5 else heightsE l
theorem whenE_t {p : Prop} {inst : Decidable p} {e : Int} (h : p) : whenE (@decide p inst) e = e := by rw [decide_eq_true h] <;> rfl
theorem whenE_f {p : Prop} {inst : Decidable p} {e : Int} (h : ¬ p) : whenE (@decide p inst) e = 0 := by rw [decide_eq_false h] <;> rfl
def tapsE (l : List Int) : Int := firstE (l.map fun x => rangeE x (-64) 64)
def transferE (t : List Int × Int × Int) : Int := firstE [whenE (decide ((t.1.length : Int) = 0)) 12, whenE (decide ((8 : Int) < t.1.length)) 5, tapsE t.1, rangeE t.2.1 0 8, rangeE t.2.2 (-1024) 1024]
theorem sCheckTransfer_ok {t : (List Int) × Int × Int} (hl : t.1.length < 100000) : VF Tryz.prog OA 24 [.v y29 t] (I (transferE t)) := by
  refine VF.enter Tryz.func24 rfl (fun _ _ => rfl) rfl ?_
  show VC _ _ _ _ _ [(0, .v y29 t)] [] _
  refine VC.seq ?_
  refine VC.text ?_
  refine VO.new (.box) ?_
  refine VO.c (.assign rfl) ?_
  refine VO.go ?_
  refine VC.seq ?_
  refine VC.text ?_
  refine VO.c (.fa (.l .o)) ?_
  refine VO.r (.ld vt22) ?_
  refine VO.call rfl rfl (VF.call (sMapIE_ok (F := fun x => rangeE x (-64) 64) hl (fun _ _ => VF.call sTap_ok))) ?_
  refine VO.call rfl rfl (VF.call (sFirst_ok (by simpa using (by omega : t.1.length < 1000000)))) ?_
  refine VO.c (.assign rfl) ?_
  refine VO.go ?_
  refine VC.seq ?_
  refine VC.drawn ?_
  refine VD.c (.fa (.l .o)) ?_
  refine VD.r [] (.ld vt22) (.inl rfl) ?_
  refine VD.r [] (.len el22) (.inl rfl) ?_
  refine VD.c (.eql) ?_
  refine VD.call rfl rfl (VF.call (sWhen_ok )) ?_
  refine VD.c (.fa (.l .o)) ?_
  refine VD.nw [] ?_
  refine VD.r [] (.ld vt22) (.inl rfl) ?_
  refine VD.r [] (.len el22) (.inl rfl) ?_
  refine VD.c (.gtr) ?_
  refine VD.call rfl rfl (VF.call (sWhen_ok )) ?_
  refine VD.c (.move rfl) ?_
  refine VD.c (.fa (.r (.l .o))) ?_
  refine VD.r [] (.ld vt3) (.inl rfl) ?_
  refine VD.nw [] ?_
  refine VD.call rfl rfl (VF.call (sWithin_ok )) ?_
  refine VD.c (.fa (.r (.r .o))) ?_
  refine VD.r [] (.ld vt3) (.inl rfl) ?_
  refine VD.call rfl rfl (VF.call (sWithin_ok )) ?_
  refine VD.new (.lit [whenE (decide (((t.1.length : Nat) : Int) = (0 : Int))) (12 : Int), whenE (decide ((8 : Int) < ((t.1.length : Nat) : Int))) (5 : Int), firstE (t.1.map (fun x => rangeE x (-64) 64)), rangeE t.2.1 (0 : Int) (8 : Int), rangeE t.2.2 (-1024 : Int) (1024 : Int)] el179) ?_
  refine VD.callO rfl rfl (VF.call (sFirst_ok (by simp))) ?_
  refine VD.c (.assign rfl) ?_
  refine VD.go ?_
  refine VC.ret ?_
  exact VEnd.one rfl evT (pvI (by rfl))
theorem tapsE_drop {l : List Int} {j : Nat} (hj : j < l.length) : tapsE (l.drop j) = if rangeE l[j] (-64) 64 = 0 then tapsE (l.drop (j + 1)) else rangeE l[j] (-64) 64 := by
  rw [tapsE, List.drop_eq_getElem_cons hj] <;> rfl
theorem tapsE_end {l : List Int} {j : Nat} (hj : l.length ≤ j) : tapsE (l.drop j) = 0 := by rw [List.drop_eq_nil_of_le hj] <;> rfl
theorem rCheckTransfer_ok {t : (List Int) × Int × Int} (hl : t.1.length < 100000) : VF Tryz.prog OA 20 [.v y24 t] (I (transferE t)) := by
  refine VF.enter Tryz.func20 rfl (fun _ _ => rfl) rfl ?_
  show VC _ _ _ _ _ [(0, .v y24 t)] [] _
  refine VC.seq ?_
  refine VC.text ?_
  refine VO.new (.box) ?_
  refine VO.c (.assign rfl) ?_
  refine VO.go ?_
  refine VC.seq ?_
  refine VC.seq ?_
  refine VC.text ?_
  refine VO.c (.fa (.l .o)) ?_
  refine VO.r (.ld vt22) ?_
  refine VO.r (.len el22) ?_
  refine VO.c (.eql) ?_
  refine VO.go ?_
  refine VC.condD rfl (fun c1 => ?_) (fun c1 => ?_)
  · refine VC.seq ?_
    refine VC.text ?_
    refine VO.c (.assign rfl) ?_
    refine VO.go ?_
    refine VC.ret ?_
    exact VEnd.one rfl evT (pvI (by simp only [transferE, whenE_t c1]; simp [firstE]))
  · refine VC.skip ?_
    show VC _ _ _ _ _ _ _ _
    refine VC.seq ?_
    refine VC.seq ?_
    refine VC.text ?_
    refine VO.c (.fa (.l .o)) ?_
    refine VO.r (.ld vt22) ?_
    refine VO.r (.len el22) ?_
    refine VO.c (.gtr) ?_
    refine VO.go ?_
    refine VC.condD rfl (fun c3 => ?_) (fun c3 => ?_)
    · refine VC.seq ?_
      refine VC.text ?_
      refine VO.c (.assign rfl) ?_
      refine VO.go ?_
      refine VC.ret ?_
      exact VEnd.one rfl evT (pvI (by simp only [transferE, whenE_f c1, whenE_t c3]; simp [firstE]))
    · refine VC.skip ?_
      show VC _ _ _ _ _ _ _ _
      refine VC.seq ?_
      refine VC.seq ?_
      refine VC.text ?_
      refine VO.c (.assign rfl) ?_
      refine VO.go ?_
      refine VC.block ?_
      refine VC.keep [(1, .p y24 t), (3, I ((0 : Nat) : Int))] ⟨rfl, rfl, trivial⟩ ?_
      refine VC.loop (I := fun kk ff ss => ∃ (j : Nat), kk = t.1.length - j ∧ ff = [(1, .p y24 t), (3, I ((j : Nat) : Int))] ∧ ss = [] ∧ (j ≤ t.1.length) ∧ (tapsE t.1 = tapsE (t.1.drop j))) ?_ _ _ _ ⟨0, rfl, rfl, rfl, Nat.zero_le _, (by rfl)⟩
      rintro kk ff ss ⟨j, hk0, rfl, rfl, hj, hf⟩
      refine VC.seq ?_
      refine VC.seq ?_
      refine VC.text ?_
      refine VO.c (.move rfl) ?_
      refine VO.c (.fa (.l .o)) ?_
      refine VO.r (.ld vt22) ?_
      refine VO.r (.len el22) ?_
      refine VO.c (.lss) ?_
      refine VO.go ?_
      refine VC.condD rfl (fun c6 => ?_) (fun c6 => ?_)
      · refine VC.skip ?_
        show VC _ _ _ _ _ _ _ _
        refine VC.seq ?_
        refine VC.block ?_
        refine VC.seq ?_
        refine VC.text ?_
        refine VO.c (.fa (.l .o)) ?_
        refine VO.r (.ld vt22) ?_
        refine VO.c (.move rfl) ?_
        refine VO.c (.ix (j := j) rfl rfl el22 (by omega)) ?_
        refine VO.r (.ld vt3) ?_
        refine VO.call rfl rfl (VF.call (rCheckRange_ok )) ?_
        refine VO.c (.assign rfl) ?_
        refine VO.go ?_
        refine VC.seq ?_
        refine VC.text ?_
        refine VO.c (.move rfl) ?_
        refine VO.c (.neq) ?_
        refine VO.go ?_
        refine VC.condD rfl (fun c9 => ?_) (fun c9 => ?_)
        · refine VC.seq ?_
          refine VC.text ?_
          refine VO.c (.move rfl) ?_
          refine VO.c (.assign rfl) ?_
          refine VO.go ?_
          refine VC.ret ?_
          exact VEnd.one rfl evT (pvI (by have h9 := hf; rw [tapsE_drop (by omega), if_neg c9] at h9; simp only [transferE, whenE_f c1, whenE_f c3]; simp [firstE, h9, c9]))
        · refine VC.skip ?_
          show VC _ _ _ _ _ _ _ _
          refine VC.text ?_
          refine VO.c (.move rfl) ?_
          refine VO.c (.add rfl rfl (by omega)) ?_
          refine VO.c (.assign rfl) ?_
          refine VO.nil ?_
          refine ⟨_, [(1, .p y24 t), (3, I (((j + 1) : Nat) : Int))], ?_, ⟨rfl, rfl, trivial⟩, (j + 1), rfl, rfl, rfl, (by omega), (by rw [hf, tapsE_drop (by omega), if_pos (by simpa using c9)])⟩
          omega
      · refine VC.exit ?_
        show VC _ _ _ _ _ _ _ _
        refine VC.seq ?_
        refine VC.drawn ?_
        refine VD.c (.fa (.r (.l .o))) ?_
        refine VD.r [] (.ld vt3) (.inl rfl) ?_
        refine VD.call rfl rfl (VF.call (rCheckRange_ok )) ?_
        refine VD.c (.fa (.r (.r .o))) ?_
        refine VD.r [] (.ld vt3) (.inl rfl) ?_
        refine VD.call rfl rfl (VF.call (rCheckRange_ok )) ?_
        refine VD.nw [] ?_
        refine VD.new (.lit [rangeE t.2.1 (0 : Int) (8 : Int), rangeE t.2.2 (-1024 : Int) (1024 : Int)] el22) ?_
        refine VD.callO rfl rfl (VF.call (rFirst_ok (by simp))) ?_
        refine VD.c (.assign rfl) ?_
        refine VD.go ?_
        refine VC.ret ?_
        exact VEnd.one rfl evT (pvI (by have h9 := hf; rw [tapsE_end (by omega)] at h9; simp only [transferE, whenE_f c1, whenE_f c3]; simp [firstE, h9]))

/-! ## Transfers, applied -/
def tapSum (a l : List Int) (i : Nat) : Nat → Int
  | 0 => 0
  | k + 1 => tapSum a l i k + a.getD k 0 * l.getD (max 0 ((i : Int) - k)).toNat 0
def applyE (t : List Int × Int × Int) (l : List Int) : List Int := (List.range l.length).map fun i => (tapSum t.1 l i t.1.length).fdiv (2 ^ t.2.1.toNat) + t.2.2
structure OkT (t : List Int × Int × Int) : Prop where
  taps : ∀ x ∈ t.1, -64 ≤ x ∧ x ≤ 64
  len : t.1.length ≤ 8
  shift : 0 ≤ t.2.1 ∧ t.2.1 ≤ 8
  off : -1024 ≤ t.2.2 ∧ t.2.2 ≤ 1024
structure OkL (l : List Int) : Prop where
  all : ∀ x ∈ l, -1048576 ≤ x ∧ x ≤ 1048576
  len : l.length ≤ 96
theorem getD_mem_or {l : List Int} (i : Nat) : l.getD i 0 = 0 ∨ l.getD i 0 ∈ l := by
  by_cases h : i < l.length
  · right; simp [List.getD, h]
  · left; simp [List.getD, List.getElem?_eq_none (by omega : l.length ≤ i)]
theorem mul_bound {a b A B : Int} (h1 : -A ≤ a ∧ a ≤ A) (h2 : -B ≤ b ∧ b ≤ B) : -(A * B) ≤ a * b ∧ a * b ≤ A * B := by
  have hA : 0 ≤ A := by omega
  have hB : 0 ≤ B := by omega
  have e1 : 0 ≤ (A - a) * (B + b) := Int.mul_nonneg (by omega) (by omega)
  have e2 : 0 ≤ (A + a) * (B - b) := Int.mul_nonneg (by omega) (by omega)
  have e3 : 0 ≤ (A - a) * (B - b) := Int.mul_nonneg (by omega) (by omega)
  have e4 : 0 ≤ (A + a) * (B + b) := Int.mul_nonneg (by omega) (by omega)
  simp only [Int.sub_mul, Int.add_mul, Int.mul_sub, Int.mul_add] at e1 e2 e3 e4
  constructor <;> omega
theorem tap_bound {a l : List Int} (ha : ∀ x ∈ a, -64 ≤ x ∧ x ≤ 64) (hl : ∀ x ∈ l, -1048576 ≤ x ∧ x ≤ 1048576) (i j : Nat) : -67108864 ≤ a.getD i 0 * l.getD j 0 ∧ a.getD i 0 * l.getD j 0 ≤ 67108864 := by
  have h1 : -64 ≤ a.getD i 0 ∧ a.getD i 0 ≤ 64 := by
    rcases getD_mem_or (l := a) i with h | h
    · rw [h]; decide
    · exact ha _ h
  have h2 : -1048576 ≤ l.getD j 0 ∧ l.getD j 0 ≤ 1048576 := by
    rcases getD_mem_or (l := l) j with h | h
    · rw [h]; decide
    · exact hl _ h
  exact mul_bound (A := 64) (B := 1048576) h1 h2
theorem tapSum_bound {a l : List Int} (ha : ∀ x ∈ a, -64 ≤ x ∧ x ≤ 64) (hl : ∀ x ∈ l, -1048576 ≤ x ∧ x ≤ 1048576) (i : Nat) : ∀ k : Nat, -(67108864 * (k : Int)) ≤ tapSum a l i k ∧ tapSum a l i k ≤ 67108864 * (k : Int)
  | 0 => by simp [tapSum]
  | k + 1 => by
    have h1 := tapSum_bound ha hl i k
    have h2 := tap_bound ha hl k (max 0 ((i : Int) - k)).toNat
    simp only [tapSum]
    constructor <;> (push_cast; omega)
theorem getD_eq {l : List Int} {i : Nat} (h : i < l.length) : l[i] = l.getD i 0 := by simp [List.getD, h]
theorem fdiv_bound {n : Int} {s : Nat} (h : -1000000000 ≤ n ∧ n ≤ 1000000000) : -1000000000 ≤ n.fdiv (2 ^ s) ∧ n.fdiv (2 ^ s) ≤ 1000000000 := by
  have hp : (0 : Int) < 2 ^ s := Int.pow_pos (by decide)
  rw [Int.fdiv_eq_ediv_of_nonneg _ (Int.le_of_lt hp)]
  have h1 : (1 : Int) ≤ 2 ^ s := hp
  constructor
  · have : -1000000000 * 2 ^ s ≤ n := by
      have : (-1000000000 : Int) * 2 ^ s ≤ -1000000000 * 1 := Int.mul_le_mul_of_nonpos_left (by decide) h1
      omega
    exact (Int.le_ediv_iff_mul_le hp).2 this
  · refine Int.ediv_le_of_le_mul hp ?_
    have : (1000000000 : Int) * 1 ≤ 1000000000 * 2 ^ s := Int.mul_le_mul_of_nonneg_left h1 (by decide)
    omega
theorem sApplyT_ok {t : (List Int) × Int × Int} {l : List Int} (ht : OkT t) (hl : OkL l) : VF Tryz.prog OA 95 [.v y29 t, .v y22 l] (.v y22 (applyE t l)) := by
  refine VF.enter Tryz.func95 rfl (fun _ _ => rfl) rfl ?_
  show VC _ _ _ _ _ [(0, .v y29 t), (1, .v y22 l)] [] _
  refine VC.seq ?_
  refine VC.text ?_
  refine VO.new (.box) ?_
  refine VO.c (.assign rfl) ?_
  refine VO.go ?_
  refine VC.seq ?_
  refine VC.text ?_
  refine VO.c (.assign rfl) ?_
  refine VO.go ?_
  refine VC.seq ?_
  refine VC.seq ?_
  refine VC.text ?_
  refine VO.c (.move rfl) ?_
  refine VO.r (.len el22) ?_
  refine VO.c (.move rfl) ?_
  refine VO.go ?_
  refine VC.block ?_
  refine VC.cell0 3 (.int .i64) ?_
  refine VC.keep [(1, .v y22 l), (2, .p y29 t), (5, .raw (.slice none 0 0)), (11, I ((l.length : Nat) : Int)), (12, I ((0 : Nat) : Int))] ⟨rfl, rfl, rfl, rfl, rfl, trivial⟩ ?_
  refine VC.loop (I := fun kk ff ss => ∃ (j : Nat) (out : Value), kk = l.length - j ∧ ff = [(1, .v y22 l), (2, .p y29 t), (5, .raw out), (11, I ((l.length : Nat) : Int)), (12, I ((j : Nat) : Int))] ∧ ss = [(out, .row 3 (.int .i64) ((List.range j).map fun i => (tapSum t.1 l i t.1.length).fdiv (2 ^ t.2.1.toNat) + t.2.2))] ∧ (j ≤ l.length)) ?_ _ _ _ ⟨0, (.slice none 0 0), rfl, rfl, rfl, Nat.zero_le _⟩
  rintro kk ff ss ⟨j, out, hk0, rfl, rfl, hj⟩
  have h8 := hl.len
  have h9 := ht.len
  have h10 := ht.shift
  have h11 := ht.off
  refine VC.seq ?_
  refine VC.text ?_
  refine VO.c (.lss) ?_
  refine VO.go ?_
  refine VC.seq ?_
  refine VC.condD rfl (fun c3 => ?_) (fun c3 => ?_)
  · refine VC.skip ?_
    show VC _ _ _ _ _ _ _ _
    refine VC.seq ?_
    refine VC.block ?_
    refine VC.seq ?_
    refine VC.text ?_
    refine VO.c (.move rfl) ?_
    refine VO.c (.assign rfl) ?_
    refine VO.go ?_
    refine VC.seq ?_
    refine VC.text ?_
    refine VO.c (.assign rfl) ?_
    refine VO.go ?_
    refine VC.seq ?_
    refine VC.seq ?_
    refine VC.text ?_
    refine VO.c (.fa (.l .o)) ?_
    refine VO.r (.ld vt22) ?_
    refine VO.r (.len el22) ?_
    refine VO.c (.move rfl) ?_
    refine VO.go ?_
    refine VC.block ?_
    refine VC.keep [(1, .v y22 l), (2, .p y29 t), (5, .raw out), (6, I ((j : Nat) : Int)), (7, I (tapSum t.1 l j 0)), (11, I ((l.length : Nat) : Int)), (12, I ((j : Nat) : Int)), (16, .v y22 t.1), (17, I ((t.1.length : Nat) : Int)), (18, I ((0 : Nat) : Int))] ⟨rfl, rfl, rfl, rfl, rfl, rfl, rfl, rfl, rfl, rfl, trivial⟩ ?_
    refine VC.loop (I := fun kk ff ss => ∃ (q : Nat), kk = t.1.length - q ∧ ff = [(1, .v y22 l), (2, .p y29 t), (5, .raw out), (6, I ((j : Nat) : Int)), (7, I (tapSum t.1 l j q)), (11, I ((l.length : Nat) : Int)), (12, I ((j : Nat) : Int)), (16, .v y22 t.1), (17, I ((t.1.length : Nat) : Int)), (18, I ((q : Nat) : Int))] ∧ ss = [(out, .row 3 (.int .i64) ((List.range j).map fun i => (tapSum t.1 l i t.1.length).fdiv (2 ^ t.2.1.toNat) + t.2.2))] ∧ (q ≤ t.1.length)) ?_ _ _ _ ⟨0, rfl, rfl, rfl, Nat.zero_le _⟩
    rintro kk ff ss ⟨q, hk2, rfl, rfl, hq⟩
    refine VC.seq ?_
    refine VC.text ?_
    refine VO.c (.lss) ?_
    refine VO.go ?_
    refine VC.seq ?_
    refine VC.condD rfl (fun c7 => ?_) (fun c7 => ?_)
    · refine VC.skip ?_
      show VC _ _ _ _ _ _ _ _
      refine VC.seq ?_
      refine VC.block ?_
      refine VC.seq ?_
      refine VC.text ?_
      refine VO.c (.move rfl) ?_
      refine VO.c (.ix (j := q) rfl rfl el22 (by omega)) ?_
      refine VO.r (.ld vt3) ?_
      refine VO.c (.assign rfl) ?_
      refine VO.c (.assign rfl) ?_
      refine VO.go ?_
      refine VC.text ?_
      refine VO.c (.move rfl) ?_
      refine VO.c (.move rfl) ?_
      refine VO.c (.move rfl) ?_
      refine VO.c (.move rfl) ?_
      refine VO.c (.move rfl) ?_
      refine VO.c (.sub rfl rfl (by omega)) ?_
      refine VO.r (.max) ?_
      refine VO.c (.ixZ (k := (max (0 : Int) (((j : Nat) : Int) - ((q : Nat) : Int)))) rfl rfl el22 (by omega) (by omega)) ?_
      refine VO.r (.ld vt3) ?_
      have b1 := tapSum_bound ht.taps hl.all j q
      have b2 : -67108864 ≤ t.1[q] * l[Int.toNat (max (0 : Int) (((j : Nat) : Int) - ((q : Nat) : Int)))] ∧ t.1[q] * l[Int.toNat (max (0 : Int) (((j : Nat) : Int) - ((q : Nat) : Int)))] ≤ 67108864 := by rw [getD_eq, getD_eq]; exact tap_bound ht.taps hl.all _ _
      refine VO.c (.mul rfl rfl (by omega)) ?_
      refine VO.c (.add rfl rfl (by omega)) ?_
      refine VO.c (.assign rfl) ?_
      refine VO.nil ?_
      show VC _ _ _ _ _ _ _ _
      refine VC.text ?_
      refine VO.c (.add rfl rfl (by omega)) ?_
      refine VO.c (.move rfl) ?_
      refine VO.nil ?_
      have eT : tapSum t.1 l j (q + 1) = tapSum t.1 l j q + t.1[q] * l[Int.toNat (max (0 : Int) (((j : Nat) : Int) - ((q : Nat) : Int)))] := by rw [tapSum, getD_eq, getD_eq]
      
      refine ⟨_, [(1, .v y22 l), (2, .p y29 t), (5, .raw out), (6, I ((j : Nat) : Int)), (7, I (tapSum t.1 l j (q + 1))), (11, I ((l.length : Nat) : Int)), (12, I ((j : Nat) : Int)), (16, .v y22 t.1), (17, I ((t.1.length : Nat) : Int)), (18, I (((q + 1) : Nat) : Int))], ?_, ⟨rfl, rfl, rfl, rfl, slI rfl (by exact eT.symm), rfl, rfl, rfl, rfl, rfl, trivial⟩, (q + 1), rfl, rfl, rfl, (by omega)⟩
      omega
    · refine VC.exit ?_
      show VC _ _ _ _ _ _ _ _
      refine VC.drawn ?_
      refine VD.c (.move rfl) ?_
      refine VD.c (.move rfl) ?_
      refine VD.c (.fa (.r (.l .o))) ?_
      refine VD.r [] (.ld vt3) (.inl rfl) ?_
      have b3 := tapSum_bound ht.taps hl.all j q
      have b4 := fdiv_bound (n := tapSum t.1 l j q) (s := t.2.1.toNat) (by omega)
      refine VD.c (.shr rfl rfl (by omega)) ?_
      refine VD.c (.fa (.r (.r .o))) ?_
      refine VD.nw [] ?_
      refine VD.r [] (.ld vt3) (.inl rfl) ?_
      refine VD.c (.add rfl rfl (by omega)) ?_
      refine VD.new (.lit [(((tapSum t.1 l j q).fdiv (2 ^ (t.2.1).toNat)) + t.2.2)] el22) ?_
      refine VD.mk (MakeV.app el22 el22 rfl rfl (by simp; omega)) ?_
      rintro _ _ tl1 ⟨ww1, rfl, rfl⟩
      refine VD.c (.assign rfl) ?_
      refine VD.nil ?_
      show VC _ _ _ _ _ _ _ _
      refine VC.text ?_
      refine VO.c (.add rfl rfl (by omega)) ?_
      refine VO.c (.move rfl) ?_
      refine VO.nil ?_
      refine ⟨_, [(1, .v y22 l), (2, .p y29 t), (5, .raw ww1), (11, I ((l.length : Nat) : Int)), (12, I (((j + 1) : Nat) : Int))], ?_, ⟨rfl, rfl, rfl, rfl, rfl, trivial⟩, (j + 1), ww1, rfl, rfl, (by obtain rfl : q = t.1.length := (by omega); rw [List.range_succ, List.map_append] <;> rfl), (by omega)⟩
      omega
  · refine VC.exit ?_
    show VC _ _ _ _ _ _ _ _
    refine VC.seq ?_
    refine VC.text ?_
    refine VO.c (.move rfl) ?_
    refine VO.c (.assign rfl) ?_
    refine VO.go ?_
    refine VC.ret ?_
    exact VEnd.one rfl (evC (.row m0)) (pvE (by rw [applyE, show j = l.length by omega]))
end Go.Proofs
namespace Go.Proofs
open Go.Fs
set_option linter.unusedVariables false
theorem vt29 : ValT Tryz.prog 29 y29 := valT_of (by kernel_rfl)
theorem zt29 : ZerT Tryz.prog 29 y29 := zerT_of (z := .agg #[.slice none 0 0, .int .i64 0, .int .i64 0]) (by kernel_rfl) rfl rfl
theorem bt29 : BldT Tryz.prog 29 y29 [(0, 1), (1, 1), (2, 1)] := bldT_of zt29 rfl (by kernel_rfl)
theorem tdiv_fact (n d : Int) (h : 0 < d) : ∃ r, n.tdiv d * d + r = n ∧ -d < r ∧ r < d ∧ (0 ≤ n → 0 ≤ r) ∧ (n ≤ 0 → r ≤ 0) := by
  refine ⟨n.tmod d, ?_, ?_, ?_, ?_, ?_⟩
  · have := Int.tmod_add_mul_tdiv n d; rw [Int.mul_comm] at this; omega
  · exact Int.lt_tmod_of_pos n h
  · exact Int.tmod_lt_of_pos n h
  · exact fun hn => Int.tmod_nonneg d hn
  · intro hn
    have e : n = -(-n) := by omega
    rw [e, Int.neg_tmod]; have := Int.tmod_nonneg d (show 0 ≤ -n by omega); omega
theorem tdiv_bound {n d : Int} (h : 0 < d) {B : Int} (hB : -B ≤ n ∧ n ≤ B) : -B ≤ n.tdiv d ∧ n.tdiv d ≤ B := by
  by_cases hn : 0 ≤ n
  · rw [Int.tdiv_eq_ediv_of_nonneg hn]
    have h1 := Int.ediv_nonneg hn (Int.le_of_lt h)
    have h2 := Int.ediv_le_self d hn
    omega
  · have e : n = -(-n) := by omega
    rw [e, Int.neg_tdiv, Int.tdiv_eq_ediv_of_nonneg (show 0 ≤ -n by omega)]
    have h1 := Int.ediv_nonneg (show 0 ≤ -n by omega) (Int.le_of_lt h)
    have h2 := Int.ediv_le_self d (show 0 ≤ -n by omega)
    omega
theorem pow_bound {q : Nat} (hq : q ≤ 8) : (1 : Int) ≤ 2 ^ q ∧ (2 : Int) ^ q ≤ 256 := by
  rcases (by omega : q = 0 ∨ q = 1 ∨ q = 2 ∨ q = 3 ∨ q = 4 ∨ q = 5 ∨ q = 6 ∨ q = 7 ∨ q = 8) with rfl | rfl | rfl | rfl | rfl | rfl | rfl | rfl | rfl <;> decide
theorem firstE_zero {l : List Int} : firstE l = 0 ↔ ∀ x ∈ l, x = 0 := by
  induction l with
  | nil => simp [firstE]
  | cons x l ih => by_cases h : x = 0 <;> simp [firstE, h, ih]
theorem rangeE_zero {n lo hi : Int} : rangeE n lo hi = 0 ↔ lo ≤ n ∧ n ≤ hi := by
  unfold rangeE; split <;> simp <;> omega
theorem transferE_ok {t : List Int × Int × Int} (h : transferE t = 0) : OkT t := by
  rw [transferE, firstE_zero] at h
  simp only [List.mem_cons, List.not_mem_nil, or_false, forall_eq_or_imp, forall_eq] at h
  obtain ⟨h1, h2, h3, h4, h5⟩ := h
  refine ⟨fun x hx => ?_, ?_, rangeE_zero.1 h4, rangeE_zero.1 h5⟩
  · rw [tapsE, firstE_zero] at h3
    exact rangeE_zero.1 (h3 _ (List.mem_map_of_mem hx))
  · by_cases hc : (8 : Int) < t.1.length
    · rw [whenE_t hc] at h2; simp at h2
    · omega
theorem heightsE_ok {l : List Int} (h : heightsE l = 0) : ∀ x ∈ l, -1048576 ≤ x ∧ x ≤ 1048576 := fun x hx => by
  rw [heightsE, firstE_zero] at h
  exact rangeE_zero.1 (h _ (List.mem_map_of_mem hx))
theorem numbersE_eq (l : List Int) : numbersE l = firstE [whenE (decide ((96 : Int) < l.length)) 5, heightsE l] := by
  unfold numbersE
  by_cases h : (96 : Int) < l.length
  · rw [if_pos h, whenE_t h]; simp [firstE]
  · rw [if_neg h, whenE_f h]; simp only [firstE, if_true]; split <;> simp [*]
theorem numbersE_ok {l : List Int} (h : numbersE l = 0) : OkL l := by
  unfold numbersE at h
  by_cases hc : (96 : Int) < l.length
  · rw [if_pos hc] at h; simp at h
  · rw [if_neg hc] at h; exact ⟨heightsE_ok h, by omega⟩
def applyB (t : List Int × Int × Int) (l : List Int) : Int := firstE [transferE t, numbersE l]
theorem firstE_app (a b : List Int) : firstE (a ++ b) = if firstE a = 0 then firstE b else firstE a := by
  induction a with
  | nil => simp [firstE]
  | cons x a ih => by_cases h : x = 0 <;> simp [firstE, h, ih]
theorem applyB_eq (t : List Int × Int × Int) (l : List Int) : firstE [transferE t, whenE (decide ((96 : Int) < l.length)) 5, heightsE l] = applyB t l := by
  rw [applyB, numbersE_eq]
  simp only [firstE]
  by_cases h1 : transferE t = 0 <;> simp [h1]
  by_cases h2 : whenE (decide ((96 : Int) < l.length)) 5 = 0 <;> simp [h2]
theorem applyB_ok {t : List Int × Int × Int} {l : List Int} (h : applyB t l = 0) : OkT t ∧ OkL l := by
  rw [applyB, firstE_zero] at h
  exact ⟨transferE_ok (h _ (by simp)), numbersE_ok (h _ (by simp))⟩
def applyR (t : List Int × Int × Int) (l : List Int) : List Int := if applyB t l = 0 then applyE t l else []
theorem sApply_ok {t : (List Int) × Int × Int} {l : List Int} (hlt : t.1.length < 100000) (hll : l.length < 100000) : VF Tryz.prog OA 17 [.v y29 t, .v y22 l] (.tup [.v y22 (applyR t l), I (applyB t l)]) := by
  refine VF.enter Tryz.func17 rfl (fun _ _ => rfl) rfl ?_
  show VC _ _ _ _ _ [(0, .v y29 t), (1, .v y22 l)] [] _
  refine VC.seq ?_
  refine VC.text ?_
  refine VO.new (.box) ?_
  refine VO.c (.assign rfl) ?_
  refine VO.c (.assign rfl) ?_
  refine VO.go ?_
  refine VC.seq ?_
  refine VC.seq ?_
  refine VC.text ?_
  refine VO.r (.ld vt29) ?_
  refine VO.call rfl rfl (VF.call (sCheckTransfer_ok (by first | assumption | omega))) ?_
  refine VO.c (.move rfl) ?_
  refine VO.r (.len el22) ?_
  refine VO.c (.gtr) ?_
  refine VO.call rfl rfl (VF.call (sWhen_ok )) ?_
  refine VO.c (.move rfl) ?_
  refine VO.call rfl rfl (VF.call (sHeights_ok (by first | assumption | omega))) ?_
  refine VO.new (.lit [transferE t, whenE (decide ((96 : Int) < ((l.length : Nat) : Int))) (5 : Int), heightsE l] el179) ?_
  refine VO.call rfl rfl (VF.call (sFirst_ok (by simp))) ?_
  refine VO.c (.assign rfl) ?_
  refine VO.go ?_
  refine VC.seq ?_
  refine VC.text ?_
  refine VO.c (.move rfl) ?_
  refine VO.c (.neq) ?_
  refine VO.go ?_
  refine VC.condD rfl (fun c2 => ?_) (fun c2 => ?_)
  · rw [applyB_eq] at c2
    refine VC.seq ?_
    refine VC.text ?_
    refine VO.c (.move rfl) ?_
    refine VO.c (.assign rfl) ?_
    refine VO.c (.assign rfl) ?_
    refine VO.go ?_
    refine VC.ret ?_
    exact VEnd.two rfl (evC .nil) evT (pvE (by unfold applyR; rw [if_neg c2])) (pvI (by exact applyB_eq t l))
  · rw [applyB_eq] at c2
    have hB : applyB t l = 0 := by omega
    refine VC.skip ?_
    show VC _ _ _ _ _ _ _ _
    refine VC.seq ?_
    refine VC.text ?_
    refine VO.r (.ld vt29) ?_
    refine VO.c (.move rfl) ?_
    refine VO.call rfl rfl (VF.call (sApplyT_ok (applyB_ok hB).1 (applyB_ok hB).2)) ?_
    refine VO.c (.assign rfl) ?_
    refine VO.c (.assign rfl) ?_
    refine VO.go ?_
    refine VC.ret ?_
    exact VEnd.two rfl evT evT (pvE (by unfold applyR; rw [if_pos hB])) (pvI (by exact hB.symm))
theorem lTransfer_ok {t : (List Int) × Int × Int} (hl : t.1.length < 1000000) : VF Tryz.prog OA 18 [.v y24 t] (.v y29 t) := by
  refine VF.enter Tryz.func18 rfl (fun _ _ => rfl) rfl ?_
  show VC _ _ _ _ _ [(0, .v y24 t)] [] _
  refine VC.seq ?_
  refine VC.text ?_
  refine VO.new (.box) ?_
  refine VO.cell (.alloc zt29) ?_
  intro ww2
  refine VO.go ?_
  refine VC.seq ?_
  refine VC.drawn ?_
  refine VD.c (.fa (.l .o)) ?_
  refine VD.r [] (.ld vt22) (.inl rfl) ?_
  refine VD.call rfl rfl (VF.call (lInts_ok (by first | assumption | omega))) ?_
  refine VD.c (.fa (.r (.l .o))) ?_
  refine VD.r [] (.ld vt3) (.inl rfl) ?_
  refine VD.c (.fa (.r (.r .o))) ?_
  refine VD.nw [5] ?_
  refine VD.r [] (.ld vt3) (.inl rfl) ?_
  refine VD.c (.build (t.1, t.2.1, t.2.2) bt29) ?_
  refine VD.mk0 (MakeV.setF (k := 0) vt29 .v (by decide) (.inr ⟨rfl, rfl⟩) rfl rfl) ?_
  rintro _ _ tl3 ⟨rfl, rfl⟩
  refine VD.go ?_
  refine VC.ret ?_
  exact VEnd.one rfl (.cell (x := (t.1, t.2.1, t.2.2)) rfl m0 vt29 .refl) (pvE (by first | rfl | simp))
def listE (have_ : List Int) (e bad : Int) (want : List Int) : Bool := decide (e = bad ∧ have_ = if bad = 0 then want else [])
theorem awake_ok : VF Tryz.prog OA 16 [] (B true) := VF.oracle (fun _ => rfl) fun _ _ => ⟨rfl, rfl⟩
end Go.Proofs
namespace Go.Proofs
open Go.Fs
set_option linter.unusedVariables false
abbrev y41 : Ty := (.pair (.int .i64) (.int .i64))
abbrev y54 : Ty := (.sl (.pair (.int .i64) (.sl (.int .i64))))
abbrev y64 : Ty := (.sl (.pair (.int .i64) (.sl (.int .i64))))
abbrev y89 : Ty := (.pair (.int .i64) (.sl (.int .i64)))
theorem vt41 : ValT Tryz.prog 41 y41 := valT_of (by kernel_rfl)
theorem vt89 : ValT Tryz.prog 89 y89 := valT_of (by kernel_rfl)
theorem el64 : ElT Tryz.prog 64 89 y89 := elT_of (by kernel_rfl)
theorem zt41 : ZerT Tryz.prog 41 y41 := zerT_of (z := .agg #[.int .i64 0, .int .i64 0]) (by kernel_rfl) rfl rfl
theorem zt89 : ZerT Tryz.prog 89 y89 := zerT_of (z := .agg #[.int .i64 0, .slice none 0 0]) (by kernel_rfl) rfl rfl
theorem bt41 : BldT Tryz.prog 41 y41 [(0, 1), (1, 1)] := bldT_of zt41 rfl (by kernel_rfl)
theorem firstE_map_drop {α : Type} {f : α → Int} {l : List α} {j : Nat} (hj : j < l.length) : firstE ((l.drop j).map f) = if f l[j] = 0 then firstE ((l.drop (j + 1)).map f) else f l[j] := by
  rw [List.drop_eq_getElem_cons hj] <;> rfl
theorem firstE_map_end {α : Type} {f : α → Int} {l : List α} {j : Nat} (hj : l.length ≤ j) : firstE ((l.drop j).map f) = 0 := by rw [List.drop_eq_nil_of_le hj] <;> rfl
theorem all_take {α : Type} {p : α → Prop} {l : List α} {j : Nat} (hj : j < l.length) (h : ∀ x ∈ l.take j, p x) (hx : p l[j]) : ∀ x ∈ l.take (j + 1), p x := by
  intro x hm
  rw [List.take_succ_eq_append_getElem hj] at hm
  rcases List.mem_append.1 hm with hm | hm
  · exact h x hm
  · rw [List.mem_singleton.1 hm]; exact hx
theorem foldl_take {α β : Type} (f : β → α → β) (b : β) {l : List α} {j : Nat} (hj : j < l.length) : (l.take (j + 1)).foldl f b = f ((l.take j).foldl f b) l[j] := by
  rw [List.take_succ_eq_append_getElem hj, List.foldl_append] <;> rfl
/-! ## Least and greatest numbers -/
def minE (l : List Int) : Int := l.foldl min (l.headD 0)
def maxE (l : List Int) : Int := l.foldl max (l.headD 0)
theorem min_first {l : List Int} (h : 0 < l.length) : l[0] = (l.take 1).foldl min (l.headD 0) := by
  cases l with
  | nil => simp at h
  | cons x l => simp
theorem max_first {l : List Int} (h : 0 < l.length) : l[0] = (l.take 1).foldl max (l.headD 0) := by
  cases l with
  | nil => simp at h
  | cons x l => simp
theorem zMin_ok {l : List Int} (hp : 0 < l.length) (hl : l.length < 1000000) : VF Tryz.prog OA 157 [.v y22 l] (I (minE l)) := by
  refine VF.enter Tryz.func157 rfl (fun _ _ => rfl) rfl ?_
  show VC _ _ _ _ _ [(0, .v y22 l)] [] _
  refine VC.seq ?_
  refine VC.text ?_
  refine VO.c (.assign rfl) ?_
  refine VO.go ?_
  refine VC.seq ?_
  refine VC.seq ?_
  refine VC.text ?_
  refine VO.c (.move rfl) ?_
  refine VO.r (.len el22) ?_
  refine VO.c (.lss) ?_
  refine VO.go ?_
  refine VC.condD rfl (fun c1 => ?_) (fun c1 => ?_)
  · exact absurd c1 (by omega)
  · refine VC.skip ?_
    show VC _ _ _ _ _ _ _ _
    refine VC.seq ?_
    refine VC.text ?_
    refine VO.c (.move rfl) ?_
    refine VO.c (.ix (j := 0) rfl rfl el22 (by omega)) ?_
    refine VO.r (.ld vt3) ?_
    refine VO.c (.assign rfl) ?_
    refine VO.go ?_
    refine VC.seq ?_
    refine VC.seq ?_
    refine VC.text ?_
    refine VO.c (.assign rfl) ?_
    refine VO.go ?_
    refine VC.block ?_
    refine VC.keep [(0, .v y22 l), (3, I ((l.take 1).foldl min (l.headD 0))), (4, I ((1 : Nat) : Int))] ⟨rfl, slI rfl (by exact (min_first hp)), rfl, trivial⟩ ?_
    refine VC.loop (I := fun kk ff ss => ∃ (j : Nat), kk = l.length - j ∧ ff = [(0, .v y22 l), (3, I ((l.take j).foldl min (l.headD 0))), (4, I ((j : Nat) : Int))] ∧ ss = [] ∧ (j ≤ l.length)) ?_ _ _ _ ⟨1, rfl, rfl, rfl, (by omega)⟩
    rintro kk ff ss ⟨j, hk0, rfl, rfl, hj⟩
    refine VC.seq ?_
    refine VC.seq ?_
    refine VC.text ?_
    refine VO.c (.move rfl) ?_
    refine VO.c (.move rfl) ?_
    refine VO.r (.len el22) ?_
    refine VO.c (.lss) ?_
    refine VO.go ?_
    refine VC.condD rfl (fun c5 => ?_) (fun c5 => ?_)
    · refine VC.skip ?_
      show VC _ _ _ _ _ _ _ _
      refine VC.seq ?_
      refine VC.block ?_
      refine VC.text ?_
      refine VO.c (.move rfl) ?_
      refine VO.c (.move rfl) ?_
      refine VO.c (.move rfl) ?_
      refine VO.c (.ix (j := j) rfl rfl el22 (by omega)) ?_
      refine VO.r (.ld vt3) ?_
      refine VO.r (.min) ?_
      refine VO.c (.assign rfl) ?_
      refine VO.nil ?_
      show VC _ _ _ _ _ _ _ _
      refine VC.text ?_
      refine VO.c (.move rfl) ?_
      refine VO.c (.add rfl rfl (by omega)) ?_
      refine VO.c (.assign rfl) ?_
      refine VO.nil ?_
      refine ⟨_, [(0, .v y22 l), (3, I ((l.take (j + 1)).foldl min (l.headD 0))), (4, I (((j + 1) : Nat) : Int))], ?_, ⟨rfl, slI rfl (by rw [foldl_take min _ (by omega : j < l.length)]), rfl, trivial⟩, (j + 1), rfl, rfl, rfl, (by omega)⟩
      omega
    · refine VC.exit ?_
      show VC _ _ _ _ _ _ _ _
      refine VC.seq ?_
      refine VC.text ?_
      refine VO.c (.move rfl) ?_
      refine VO.c (.assign rfl) ?_
      refine VO.go ?_
      refine VC.ret ?_
      exact VEnd.one rfl evT (pvI (by rw [minE, List.take_of_length_le (by omega)]))
theorem zMax_ok {l : List Int} (hp : 0 < l.length) (hl : l.length < 1000000) : VF Tryz.prog OA 158 [.v y22 l] (I (maxE l)) := by
  refine VF.enter Tryz.func158 rfl (fun _ _ => rfl) rfl ?_
  show VC _ _ _ _ _ [(0, .v y22 l)] [] _
  refine VC.seq ?_
  refine VC.text ?_
  refine VO.c (.assign rfl) ?_
  refine VO.go ?_
  refine VC.seq ?_
  refine VC.seq ?_
  refine VC.text ?_
  refine VO.c (.move rfl) ?_
  refine VO.r (.len el22) ?_
  refine VO.c (.lss) ?_
  refine VO.go ?_
  refine VC.condD rfl (fun c1 => ?_) (fun c1 => ?_)
  · exact absurd c1 (by omega)
  · refine VC.skip ?_
    show VC _ _ _ _ _ _ _ _
    refine VC.seq ?_
    refine VC.text ?_
    refine VO.c (.move rfl) ?_
    refine VO.c (.ix (j := 0) rfl rfl el22 (by omega)) ?_
    refine VO.r (.ld vt3) ?_
    refine VO.c (.assign rfl) ?_
    refine VO.go ?_
    refine VC.seq ?_
    refine VC.seq ?_
    refine VC.text ?_
    refine VO.c (.assign rfl) ?_
    refine VO.go ?_
    refine VC.block ?_
    refine VC.keep [(0, .v y22 l), (3, I ((l.take 1).foldl max (l.headD 0))), (4, I ((1 : Nat) : Int))] ⟨rfl, slI rfl (by exact (max_first hp)), rfl, trivial⟩ ?_
    refine VC.loop (I := fun kk ff ss => ∃ (j : Nat), kk = l.length - j ∧ ff = [(0, .v y22 l), (3, I ((l.take j).foldl max (l.headD 0))), (4, I ((j : Nat) : Int))] ∧ ss = [] ∧ (j ≤ l.length)) ?_ _ _ _ ⟨1, rfl, rfl, rfl, (by omega)⟩
    rintro kk ff ss ⟨j, hk0, rfl, rfl, hj⟩
    refine VC.seq ?_
    refine VC.seq ?_
    refine VC.text ?_
    refine VO.c (.move rfl) ?_
    refine VO.c (.move rfl) ?_
    refine VO.r (.len el22) ?_
    refine VO.c (.lss) ?_
    refine VO.go ?_
    refine VC.condD rfl (fun c5 => ?_) (fun c5 => ?_)
    · refine VC.skip ?_
      show VC _ _ _ _ _ _ _ _
      refine VC.seq ?_
      refine VC.block ?_
      refine VC.text ?_
      refine VO.c (.move rfl) ?_
      refine VO.c (.move rfl) ?_
      refine VO.c (.move rfl) ?_
      refine VO.c (.ix (j := j) rfl rfl el22 (by omega)) ?_
      refine VO.r (.ld vt3) ?_
      refine VO.r (.max) ?_
      refine VO.c (.assign rfl) ?_
      refine VO.nil ?_
      show VC _ _ _ _ _ _ _ _
      refine VC.text ?_
      refine VO.c (.move rfl) ?_
      refine VO.c (.add rfl rfl (by omega)) ?_
      refine VO.c (.assign rfl) ?_
      refine VO.nil ?_
      refine ⟨_, [(0, .v y22 l), (3, I ((l.take (j + 1)).foldl max (l.headD 0))), (4, I (((j + 1) : Nat) : Int))], ?_, ⟨rfl, slI rfl (by rw [foldl_take max _ (by omega : j < l.length)]), rfl, trivial⟩, (j + 1), rfl, rfl, rfl, (by omega)⟩
      omega
    · refine VC.exit ?_
      show VC _ _ _ _ _ _ _ _
      refine VC.seq ?_
      refine VC.text ?_
      refine VO.c (.move rfl) ?_
      refine VO.c (.assign rfl) ?_
      refine VO.go ?_
      refine VC.ret ?_
      exact VEnd.one rfl evT (pvI (by rw [maxE, List.take_of_length_le (by omega)]))
def hullE (l : List Int) : Int × Int := (minE l, maxE l)
theorem sHull_ok {l : List Int} (hp : 0 < l.length) (hl : l.length < 1000000) : VF Tryz.prog OA 102 [.v y22 l] (.v y41 (hullE l)) := by
  refine VF.enter Tryz.func102 rfl (fun _ _ => rfl) rfl ?_
  show VC _ _ _ _ _ [(0, .v y22 l)] [] _
  refine VC.seq ?_
  refine VC.text ?_
  refine VO.cell (.alloc zt41) ?_
  intro ww1
  refine VO.go ?_
  refine VC.seq ?_
  refine VC.text ?_
  refine VO.c (.move rfl) ?_
  refine VO.call rfl rfl (VF.call (zMin_ok (by first | assumption | omega) (by first | assumption | omega))) ?_
  refine VO.c (.move rfl) ?_
  refine VO.call rfl rfl (VF.call (zMax_ok (by first | assumption | omega) (by first | assumption | omega))) ?_
  refine VO.c (.build (minE l, maxE l) bt41) ?_
  refine VO.setV (cs' := [I (minE l), I (maxE l)]) vt41 .v ?_
  refine VO.go ?_
  refine VC.ret ?_
  exact VEnd.one rfl (.cell (x := (minE l, maxE l)) rfl m0 vt41 .refl) (pvE (by rfl))
/-! ## Intervals, ensembles -/
def boundsE (b : Int × Int) : Int := firstE [rangeE b.1 (-1048576) 1048576, rangeE b.2 (-1048576) 1048576, whenE (decide (b.2 < b.1)) 11]
theorem sBounds_ok {b : Int × Int} : VF Tryz.prog OA 106 [.v y41 b] (I (boundsE b)) := by
  refine VF.enter Tryz.func106 rfl (fun _ _ => rfl) rfl ?_
  show VC _ _ _ _ _ [(0, .v y41 b)] [] _
  refine VC.seq ?_
  refine VC.text ?_
  refine VO.new (.box) ?_
  refine VO.c (.assign rfl) ?_
  refine VO.go ?_
  refine VC.seq ?_
  refine VC.drawn ?_
  refine VD.c (.fa (.l .o)) ?_
  refine VD.r [] (.ld vt3) (.inl rfl) ?_
  refine VD.call rfl rfl (VF.call (sHeight_ok )) ?_
  refine VD.c (.fa (.r .o)) ?_
  refine VD.r [] (.ld vt3) (.inl rfl) ?_
  refine VD.call rfl rfl (VF.call (sHeight_ok )) ?_
  refine VD.nw [] ?_
  refine VD.c (.fa (.r .o)) ?_
  refine VD.r [] (.ld vt3) (.inl rfl) ?_
  refine VD.c (.fa (.l .o)) ?_
  refine VD.r [] (.ld vt3) (.inl rfl) ?_
  refine VD.c (.lss) ?_
  refine VD.call rfl rfl (VF.call (sWhen_ok )) ?_
  refine VD.new (.lit [rangeE b.1 (-1048576) 1048576, rangeE b.2 (-1048576) 1048576, whenE (decide (b.2 < b.1)) (11 : Int)] el179) ?_
  refine VD.nw [15] ?_
  refine VD.callO rfl rfl (VF.call (sFirst_ok (by simp))) ?_
  refine VD.c (.assign rfl) ?_
  refine VD.go ?_
  refine VC.ret ?_
  exact VEnd.one rfl evT (pvI (by rfl))
theorem rInterval_ok {b : Int × Int} : VF Tryz.prog OA 31 [.v y41 b] (I (boundsE b)) := by
  refine VF.enter Tryz.func31 rfl (fun _ _ => rfl) rfl ?_
  show VC _ _ _ _ _ [(0, .v y41 b)] [] _
  refine VC.seq ?_
  refine VC.text ?_
  refine VO.new (.box) ?_
  refine VO.c (.assign rfl) ?_
  refine VO.go ?_
  refine VC.seq ?_
  refine VC.seq ?_
  refine VC.drawn ?_
  refine VD.c (.fa (.l .o)) ?_
  refine VD.r [] (.ld vt3) (.inl rfl) ?_
  refine VD.call rfl rfl (VF.call (rCheckRange_ok )) ?_
  refine VD.c (.fa (.r .o)) ?_
  refine VD.r [] (.ld vt3) (.inl rfl) ?_
  refine VD.call rfl rfl (VF.call (rCheckRange_ok )) ?_
  refine VD.nw [] ?_
  refine VD.new (.lit [rangeE b.1 (-1048576 : Int) (1048576 : Int), rangeE b.2 (-1048576 : Int) (1048576 : Int)] el22) ?_
  refine VD.callO rfl rfl (VF.call (rFirst_ok (by simp))) ?_
  refine VD.c (.assign rfl) ?_
  refine VD.go ?_
  refine VC.seq ?_
  refine VC.text ?_
  refine VO.c (.move rfl) ?_
  refine VO.c (.neq) ?_
  refine VO.go ?_
  refine VC.condD rfl (fun c2 => ?_) (fun c2 => ?_)
  · refine VC.seq ?_
    refine VC.text ?_
    refine VO.c (.move rfl) ?_
    refine VO.c (.assign rfl) ?_
    refine VO.go ?_
    refine VC.ret ?_
    exact VEnd.one rfl evT (pvI (by revert c2; simp only [boundsE, firstE]; split <;> simp_all))
  · have d2 : rangeE b.1 (-1048576) 1048576 = 0 ∧ rangeE b.2 (-1048576) 1048576 = 0 := by
      have := firstE_zero.1 (Decidable.not_not.1 c2)
      exact ⟨this _ (by simp), this _ (by simp)⟩
    refine VC.skip ?_
    show VC _ _ _ _ _ _ _ _
    refine VC.seq ?_
    refine VC.seq ?_
    refine VC.text ?_
    refine VO.c (.fa (.r .o)) ?_
    refine VO.r (.ld vt3) ?_
    refine VO.c (.fa (.l .o)) ?_
    refine VO.r (.ld vt3) ?_
    refine VO.c (.lss) ?_
    refine VO.go ?_
    refine VC.condD rfl (fun c4 => ?_) (fun c4 => ?_)
    · refine VC.seq ?_
      refine VC.text ?_
      refine VO.c (.assign rfl) ?_
      refine VO.go ?_
      refine VC.ret ?_
      exact VEnd.one rfl evT (pvI (by simp only [boundsE, firstE, d2.1, d2.2, if_true, whenE_t c4] <;> rfl))
    · refine VC.skip ?_
      show VC _ _ _ _ _ _ _ _
      refine VC.seq ?_
      refine VC.text ?_
      refine VO.c (.assign rfl) ?_
      refine VO.go ?_
      refine VC.ret ?_
      exact VEnd.one rfl evT (pvI (by simp only [boundsE, firstE, d2.1, d2.2, if_true, whenE_f c4]))
def len0 (l : List (Int × List Int)) : Nat := (l.map fun c => c.2.length).headD 0
theorem len0_eq {l : List (Int × List Int)} (h : 0 < l.length) : l[0].2.length = len0 l := by
  cases l with
  | nil => simp at h
  | cons x l => rfl
def courseE (n : Nat) (c : Int × List Int) : Int := firstE [rangeE c.1 1 1000, whenE (decide ((c.2.length : Int) = 0)) 12, whenE (decide ((96 : Int) < c.2.length)) 5, whenE (decide ((c.2.length : Int) ≠ n)) 2, heightsE c.2]
def ensembleE (l : List (Int × List Int)) : Int := if (l.length : Int) = 0 then 12 else if (16 : Int) < l.length then 5 else firstE (l.map (courseE (len0 l)))
theorem ens_pre {n : Int} : firstE [whenE (decide (n = 0)) 12, whenE (decide ((16 : Int) < n)) 5] = if n = 0 then 12 else if 16 < n then 5 else 0 := by
  by_cases h1 : n = 0
  · rw [whenE_t h1, if_pos h1]; simp [firstE]
  · rw [whenE_f h1, if_neg h1]
    by_cases h2 : 16 < n
    · rw [whenE_t h2, if_pos h2]; simp [firstE]
    · rw [whenE_f h2, if_neg h2]; simp [firstE]
theorem sEnsemble_ok {l : List (Int × (List Int))} (hl : ∀ c ∈ l, c.2.length < 100000) : VF Tryz.prog OA 46 [.v y64 l] (I (ensembleE l)) := by
  refine VF.enter Tryz.func46 rfl (fun _ _ => rfl) rfl ?_
  show VC _ _ _ _ _ [(0, .v y64 l)] [] _
  refine VC.seq ?_
  refine VC.text ?_
  refine VO.c (.assign rfl) ?_
  refine VO.go ?_
  refine VC.seq ?_
  refine VC.seq ?_
  refine VC.text ?_
  refine VO.c (.move rfl) ?_
  refine VO.r (.len el64) ?_
  refine VO.c (.eql) ?_
  refine VO.call rfl rfl (VF.call (sWhen_ok )) ?_
  refine VO.c (.move rfl) ?_
  refine VO.r (.len el64) ?_
  refine VO.c (.gtr) ?_
  refine VO.call rfl rfl (VF.call (sWhen_ok )) ?_
  refine VO.new (.lit [whenE (decide (((l.length : Nat) : Int) = (0 : Int))) (12 : Int), whenE (decide ((16 : Int) < ((l.length : Nat) : Int))) (5 : Int)] el179) ?_
  refine VO.call rfl rfl (VF.call (sFirst_ok (by simp))) ?_
  refine VO.c (.assign rfl) ?_
  refine VO.go ?_
  refine VC.seq ?_
  refine VC.text ?_
  refine VO.c (.move rfl) ?_
  refine VO.c (.neq) ?_
  refine VO.go ?_
  refine VC.condD rfl (fun c2 => ?_) (fun c2 => ?_)
  · refine VC.seq ?_
    refine VC.text ?_
    refine VO.c (.move rfl) ?_
    refine VO.c (.assign rfl) ?_
    refine VO.go ?_
    refine VC.ret ?_
    exact VEnd.one rfl evT (pvI (by rw [ens_pre] at c2 ⊢; rw [ensembleE]; split <;> simp_all))
  · rw [ens_pre] at c2
    have d1 : ¬ (l.length : Int) = 0 := fun h => by simp [h] at c2
    have d2 : ¬ (16 : Int) < l.length := fun h => by simp [h] at c2; omega
    have e0 := len0_eq (l := l) (by omega)
    refine VC.skip ?_
    show VC _ _ _ _ _ _ _ _
    refine VC.seq ?_
    refine VC.seq ?_
    refine VC.text ?_
    refine VO.c (.move rfl) ?_
    refine VO.r (.len el64) ?_
    refine VO.c (.move rfl) ?_
    refine VO.go ?_
    refine VC.block ?_
    refine VC.keep [(0, .v y64 l), (20, .v y64 l), (21, I ((l.length : Nat) : Int)), (22, I ((0 : Nat) : Int))] ⟨rfl, rfl, rfl, rfl, trivial⟩ ?_
    refine VC.loop (I := fun kk ff ss => ∃ (j : Nat), kk = l.length - j ∧ ff = [(0, .v y64 l), (20, .v y64 l), (21, I ((l.length : Nat) : Int)), (22, I ((j : Nat) : Int))] ∧ ss = [] ∧ (j ≤ l.length) ∧ (firstE (l.map (courseE (len0 l))) = firstE ((l.drop j).map (courseE (len0 l))))) ?_ _ _ _ ⟨0, rfl, rfl, rfl, Nat.zero_le _, (by rfl)⟩
    rintro kk ff ss ⟨j, hk0, rfl, rfl, hj, hf⟩
    refine VC.seq ?_
    refine VC.text ?_
    refine VO.c (.lss) ?_
    refine VO.go ?_
    refine VC.seq ?_
    refine VC.condD rfl (fun c5 => ?_) (fun c5 => ?_)
    · refine VC.skip ?_
      show VC _ _ _ _ _ _ _ _
      refine VC.seq ?_
      refine VC.block ?_
      refine VC.seq ?_
      refine VC.text ?_
      refine VO.c (.ix (j := j) rfl rfl el64 (by omega)) ?_
      refine VO.r (.ld vt89) ?_
      refine VO.cell (.alloc zt89) ?_
      intro ww2
      refine VO.setV (cs' := [I ((l[j]).1), .v y22 ((l[j]).2)]) vt89 .v ?_
      refine VO.shut [(5, .p y89 (l[j]))] (.cons rfl (.var m0 .refl) .nil) ?_
      refine VO.go ?_
      refine VC.seq ?_
      refine VC.drawn ?_
      have hlj := hl _ (List.getElem_mem (show j < l.length by omega))
      refine VD.c (.fa (.l .o)) ?_
      refine VD.r [] (.ld vt3) (.inl rfl) ?_
      refine VD.call rfl rfl (VF.call (sWithin_ok )) ?_
      refine VD.c (.fa (.r .o)) ?_
      refine VD.r [] (.ld vt22) (.inl rfl) ?_
      refine VD.r [] (.len el22) (.inl rfl) ?_
      refine VD.nw [] ?_
      refine VD.c (.eql) ?_
      refine VD.call rfl rfl (VF.call (sWhen_ok )) ?_
      refine VD.c (.fa (.r .o)) ?_
      refine VD.r [] (.ld vt22) (.inl rfl) ?_
      refine VD.r [] (.len el22) (.inl rfl) ?_
      refine VD.c (.gtr) ?_
      refine VD.call rfl rfl (VF.call (sWhen_ok )) ?_
      refine VD.nw [] ?_
      refine VD.c (.fa (.r .o)) ?_
      refine VD.r [] (.ld vt22) (.inl rfl) ?_
      refine VD.r [] (.len el22) (.inl rfl) ?_
      refine VD.c (.move rfl) ?_
      refine VD.c (.ix (j := 0) rfl rfl el64 (by omega)) ?_
      refine VD.c (.fa (.r .o)) ?_
      refine VD.r [] (.ld vt22) (.inl rfl) ?_
      refine VD.nw [] ?_
      refine VD.r [] (.len el22) (.inl rfl) ?_
      refine VD.c (.neq) ?_
      refine VD.call rfl rfl (VF.call (sWhen_ok )) ?_
      refine VD.c (.fa (.r .o)) ?_
      refine VD.r [] (.ld vt22) (.inl rfl) ?_
      refine VD.call rfl rfl (VF.call (sHeights_ok (by first | assumption | omega))) ?_
      refine VD.new (.lit [rangeE ((l[j]).1) (1 : Int) (1000 : Int), whenE (decide (((((l[j]).2).length : Nat) : Int) = (0 : Int))) (12 : Int), whenE (decide ((96 : Int) < ((((l[j]).2).length : Nat) : Int))) (5 : Int), whenE (decide (((((l[j]).2).length : Nat) : Int) ≠ ((((l[0]).2).length : Nat) : Int))) (2 : Int), heightsE ((l[j]).2)] el179) ?_
      refine VD.nw [52] ?_
      refine VD.callO rfl rfl (VF.call (sFirst_ok (by simp))) ?_
      refine VD.c (.assign rfl) ?_
      refine VD.go ?_
      refine VC.seq ?_
      refine VC.keep [(0, .v y64 l), (6, I (firstE [rangeE ((l[j]).1) (1 : Int) (1000 : Int), whenE (decide (((((l[j]).2).length : Nat) : Int) = (0 : Int))) (12 : Int), whenE (decide ((96 : Int) < ((((l[j]).2).length : Nat) : Int))) (5 : Int), whenE (decide (((((l[j]).2).length : Nat) : Int) ≠ ((((l[0]).2).length : Nat) : Int))) (2 : Int), heightsE ((l[j]).2)])), (20, .v y64 l), (21, I ((l.length : Nat) : Int)), (22, I ((j : Nat) : Int))] ⟨rfl, rfl, rfl, rfl, rfl, trivial⟩ ?_
      refine VC.text ?_
      refine VO.c (.move rfl) ?_
      refine VO.c (.neq) ?_
      refine VO.go ?_
      refine VC.condD rfl (fun c8 => ?_) (fun c8 => ?_)
      · refine VC.seq ?_
        refine VC.text ?_
        refine VO.c (.move rfl) ?_
        refine VO.c (.assign rfl) ?_
        refine VO.go ?_
        refine VC.ret ?_
        exact VEnd.one rfl evT (pvI (by rw [ensembleE, if_neg d1, if_neg d2, hf, firstE_map_drop (by omega), if_neg (by rw [courseE, ← e0]; exact c8), courseE, ← e0]))
      · refine VC.skip ?_
        show VC _ _ _ _ _ _ _ _
        refine VC.text ?_
        refine VO.c (.add rfl rfl (by omega)) ?_
        refine VO.c (.move rfl) ?_
        refine VO.nil ?_
        refine ⟨_, [(0, .v y64 l), (20, .v y64 l), (21, I ((l.length : Nat) : Int)), (22, I (((j + 1) : Nat) : Int))], ?_, ⟨rfl, rfl, rfl, rfl, trivial⟩, (j + 1), rfl, rfl, rfl, (by omega), (by rw [hf, firstE_map_drop (by omega), if_pos (by rw [courseE, ← e0]; simpa using c8)])⟩
        omega
    · refine VC.exit ?_
      show VC _ _ _ _ _ _ _ _
      refine VC.seq ?_
      refine VC.text ?_
      refine VO.c (.assign rfl) ?_
      refine VO.go ?_
      refine VC.ret ?_
      exact VEnd.one rfl evT (pvI (by rw [ensembleE, if_neg d1, if_neg d2, hf, firstE_map_end (by omega)]))
end Go.Proofs
namespace Go.Proofs
open Go.Fs
set_option linter.unusedVariables false
abbrev y81 : Ty := (.sl (.pair (.int .i64) (.int .i64)))
theorem el81 : ElT Tryz.prog 81 41 y41 := elT_of (by kernel_rfl)
theorem zt3 : ZerT Tryz.prog 3 (.int .i64) := zerT_of (z := .int .i64 0) (by kernel_rfl) rfl rfl
structure OkC (n : Nat) (c : Int × List Int) : Prop where
  w : 1 ≤ c.1 ∧ c.1 ≤ 1000
  len : c.2.length = n
  pos : 0 < n
  top : n ≤ 96
  all : ∀ x ∈ c.2, -1048576 ≤ x ∧ x ≤ 1048576
structure OkE (l : List (Int × List Int)) : Prop where
  pos : 0 < l.length
  top : l.length ≤ 16
  all : ∀ c ∈ l, OkC (len0 l) c
structure OkB (b : Int × Int) : Prop where
  lo : -1048576 ≤ b.1 ∧ b.1 ≤ 1048576
  hi : -1048576 ≤ b.2 ∧ b.2 ≤ 1048576
  le : b.1 ≤ b.2
theorem whenE_zero {p : Prop} {inst : Decidable p} {e : Int} (he : e ≠ 0) (h : whenE (@decide p inst) e = 0) : ¬ p := fun hp => he (by rw [whenE_t hp] at h; exact h)
theorem boundsE_ok {b : Int × Int} (h : boundsE b = 0) : OkB b := by
  rw [boundsE, firstE_zero] at h
  have h1 := h _ (by simp : rangeE b.1 (-1048576) 1048576 ∈ _)
  have h2 := h _ (by simp : rangeE b.2 (-1048576) 1048576 ∈ _)
  have h3 := whenE_zero (by decide) (h _ (by simp : whenE (decide (b.2 < b.1)) 11 ∈ _))
  exact ⟨rangeE_zero.1 h1, rangeE_zero.1 h2, by omega⟩
theorem courseE_ok {n : Nat} {c : Int × List Int} (h : courseE n c = 0) : OkC n c := by
  rw [courseE, firstE_zero] at h
  have h1 := rangeE_zero.1 (h _ (by simp : rangeE c.1 1 1000 ∈ _))
  have h2 := whenE_zero (by decide) (h _ (by simp : whenE (decide ((c.2.length : Int) = 0)) 12 ∈ _))
  have h3 := whenE_zero (by decide) (h _ (by simp : whenE (decide ((96 : Int) < c.2.length)) 5 ∈ _))
  have h4 := whenE_zero (by decide) (h _ (by simp : whenE (decide ((c.2.length : Int) ≠ n)) 2 ∈ _))
  have h5 := h _ (by simp : heightsE c.2 ∈ _)
  exact ⟨h1, by omega, by omega, by omega, heightsE_ok h5⟩
theorem ensembleE_ok {l : List (Int × List Int)} (h : ensembleE l = 0) : OkE l := by
  unfold ensembleE at h
  by_cases h1 : (l.length : Int) = 0
  · rw [if_pos h1] at h; simp at h
  · rw [if_neg h1] at h
    by_cases h2 : (16 : Int) < l.length
    · rw [if_pos h2] at h; simp at h
    · rw [if_neg h2, firstE_zero] at h
      exact ⟨by omega, by omega, fun c hc => courseE_ok (h _ (List.mem_map_of_mem hc))⟩
theorem sMapCI_ok {F : Int × List Int → Int} {l : List (Int × (List Int))} {f : PV} (hl : l.length < 100000) (hf : ∀ x ∈ l, VCall Tryz.prog OA f [.v y89 x] (I (F x))) : VF Tryz.prog OA 117 [.v y64 l, f] (.v y22 (l.map F)) := by
  refine VF.enter Tryz.func117 rfl (fun _ _ => rfl) rfl ?_
  show VC _ _ _ _ _ [(0, .v y64 l), (1, f)] [] _
  refine VC.seq ?_
  refine VC.text ?_
  refine VO.c (.assign rfl) ?_
  refine VO.go ?_
  refine VC.seq ?_
  refine VC.text ?_
  refine VO.c (.assign rfl) ?_
  refine VO.go ?_
  refine VC.seq ?_
  refine VC.seq ?_
  refine VC.text ?_
  refine VO.c (.move rfl) ?_
  refine VO.r (.len el64) ?_
  refine VO.c (.move rfl) ?_
  refine VO.go ?_
  refine VC.block ?_
  refine VC.cell0 3 (.int .i64) ?_
  refine VC.keep [(1, f), (5, .raw (.slice none 0 0)), (8, .v y64 l), (9, I ((l.length : Nat) : Int)), (10, I ((0 : Nat) : Int))] ⟨rfl, rfl, rfl, rfl, rfl, trivial⟩ ?_
  refine VC.loop (I := fun kk ff ss => ∃ (j : Nat) (out : Value), kk = l.length - j ∧ ff = [(1, f), (5, .raw out), (8, .v y64 l), (9, I ((l.length : Nat) : Int)), (10, I ((j : Nat) : Int))] ∧ ss = [(out, .row 3 (.int .i64) ((l.take j).map F))] ∧ (j ≤ l.length)) ?_ _ _ _ ⟨0, (.slice none 0 0), rfl, rfl, rfl, Nat.zero_le _⟩
  rintro kk ff ss ⟨j, out, hk0, rfl, rfl, hj⟩
  refine VC.seq ?_
  refine VC.text ?_
  refine VO.c (.lss) ?_
  refine VO.go ?_
  refine VC.seq ?_
  refine VC.condD rfl (fun c3 => ?_) (fun c3 => ?_)
  · refine VC.skip ?_
    show VC _ _ _ _ _ _ _ _
    refine VC.seq ?_
    refine VC.block ?_
    refine VC.seq ?_
    refine VC.text ?_
    refine VO.c (.ix (j := j) rfl rfl el64 (by omega)) ?_
    refine VO.r (.ld vt89) ?_
    refine VO.cell (.alloc zt89) ?_
    intro ww1
    refine VO.setV (cs' := [I ((l[j]).1), .v y22 ((l[j]).2)]) vt89 .v ?_
    refine VO.shut [(7, .p y89 (l[j]))] (.cons rfl (.var m0 .refl) .nil) ?_
    refine VO.go ?_
    refine VC.text ?_
    refine VO.c (.move rfl) ?_
    refine VO.c (.move rfl) ?_
    refine VO.r (.ld vt89) ?_
    refine VO.call rfl rfl ((hf _ (List.getElem_mem _)) ) ?_
    refine VO.new (.lit [F (l[j])] el22) ?_
    refine VO.app rfl rfl el22 el22 (by simp; omega) ?_
    intro ww2
    refine VO.c (.assign rfl) ?_
    refine VO.nil ?_
    show VC _ _ _ _ _ _ _ _
    refine VC.text ?_
    refine VO.c (.add rfl rfl (by omega)) ?_
    refine VO.c (.move rfl) ?_
    refine VO.nil ?_
    refine ⟨_, [(1, f), (5, .raw ww2), (8, .v y64 l), (9, I ((l.length : Nat) : Int)), (10, I (((j + 1) : Nat) : Int))], ?_, ⟨rfl, rfl, rfl, rfl, rfl, trivial⟩, (j + 1), ww2, rfl, rfl, (by rw [List.take_succ_eq_append_getElem (by omega), List.map_append] <;> rfl), (by omega)⟩
    omega
  · refine VC.exit ?_
    show VC _ _ _ _ _ _ _ _
    refine VC.seq ?_
    refine VC.text ?_
    refine VO.c (.move rfl) ?_
    refine VO.c (.assign rfl) ?_
    refine VO.go ?_
    refine VC.ret ?_
    exact VEnd.one rfl (evC (.row m0)) (pvE (by rw [List.take_of_length_le (by omega)]))
theorem sEnc1_ok {c : Int × (List Int)} {i : Int} (hi : 0 ≤ i ∧ i < c.2.length) : VF Tryz.prog OA 124 [.v y89 c, .p (.int .i64) i] (I (c.2.getD i.toNat 0)) := by
  refine VF.enter Tryz.func124 rfl (fun _ _ => rfl) rfl ?_
  show VC _ _ _ _ _ [(0, .v y89 c), (1, .p (.int .i64) i)] [] _
  refine VC.seq ?_
  refine VC.text ?_
  refine VO.new (.box) ?_
  refine VO.c (.assign rfl) ?_
  refine VO.go ?_
  refine VC.seq ?_
  refine VC.text ?_
  refine VO.c (.fa (.r .o)) ?_
  refine VO.r (.ld vt22) ?_
  refine VO.r (.ld vt3) ?_
  refine VO.c (.ixZ (k := i) rfl rfl el22 (by omega) (by omega)) ?_
  refine VO.r (.ld vt3) ?_
  refine VO.c (.assign rfl) ?_
  refine VO.go ?_
  refine VC.ret ?_
  exact VEnd.one rfl evT (pvI (by rw [getD_eq]))
def colE (l : List (Int × List Int)) (t : Nat) : List Int := l.map fun c => c.2.getD t 0
def encloseE (l : List (Int × List Int)) (b : Int × Int) : List (Int × Int) := (List.range (len0 l)).map fun t => (minE (colE l t) + b.1, maxE (colE l t) + b.2)
theorem foldl_min_bound {A B : Int} : ∀ {l : List Int} {a : Int}, A ≤ a ∧ a ≤ B → (∀ x ∈ l, A ≤ x ∧ x ≤ B) → A ≤ l.foldl min a ∧ l.foldl min a ≤ B
  | [], a, h, _ => h
  | x :: l, a, h, hl => foldl_min_bound (l := l) (by have := hl x List.mem_cons_self; omega) fun y hy => hl y (List.mem_cons_of_mem _ hy)
theorem foldl_max_bound {A B : Int} : ∀ {l : List Int} {a : Int}, A ≤ a ∧ a ≤ B → (∀ x ∈ l, A ≤ x ∧ x ≤ B) → A ≤ l.foldl max a ∧ l.foldl max a ≤ B
  | [], a, h, _ => h
  | x :: l, a, h, hl => foldl_max_bound (l := l) (by have := hl x List.mem_cons_self; omega) fun y hy => hl y (List.mem_cons_of_mem _ hy)
theorem headD_bound {A B : Int} (h0 : A ≤ 0 ∧ 0 ≤ B) {l : List Int} (hl : ∀ x ∈ l, A ≤ x ∧ x ≤ B) : A ≤ l.headD 0 ∧ l.headD 0 ≤ B := by
  cases l with
  | nil => exact h0
  | cons x l => exact hl x List.mem_cons_self
theorem minE_bound {l : List Int} (hl : ∀ x ∈ l, -1048576 ≤ x ∧ x ≤ 1048576) : -1048576 ≤ minE l ∧ minE l ≤ 1048576 := foldl_min_bound (headD_bound (by decide) hl) hl
theorem maxE_bound {l : List Int} (hl : ∀ x ∈ l, -1048576 ≤ x ∧ x ≤ 1048576) : -1048576 ≤ maxE l ∧ maxE l ≤ 1048576 := foldl_max_bound (headD_bound (by decide) hl) hl
theorem getD_bound {l : List Int} (hl : ∀ x ∈ l, -1048576 ≤ x ∧ x ≤ 1048576) (t : Nat) : -1048576 ≤ l.getD t 0 ∧ l.getD t 0 ≤ 1048576 := by
  rcases getD_mem_or (l := l) t with h | h
  · rw [h]; decide
  · exact hl _ h
theorem colE_bound {l : List (Int × List Int)} (h : OkE l) (t : Nat) : ∀ x ∈ colE l t, -1048576 ≤ x ∧ x ≤ 1048576 := by
  intro x hx
  obtain ⟨c, hc, rfl⟩ := List.mem_map.1 hx
  exact getD_bound (h.all c hc).all t
def enclB (l : List (Int × List Int)) (b : Int × Int) : Int := firstE [ensembleE l, boundsE b]
theorem enclB_ok {l : List (Int × List Int)} {b : Int × Int} (h : enclB l b = 0) : OkE l ∧ OkB b := by
  rw [enclB, firstE_zero] at h
  exact ⟨ensembleE_ok (h _ (by simp)), boundsE_ok (h _ (by simp))⟩
def enclR (l : List (Int × List Int)) (b : Int × Int) : List (Int × Int) := if enclB l b = 0 then encloseE l b else []
theorem sEnclose_ok {l : List (Int × (List Int))} {b : Int × Int} (hl : ∀ c ∈ l, c.2.length < 100000) : VF Tryz.prog OA 49 [.v y64 l, .v y41 b] (.tup [.v y81 (enclR l b), I (enclB l b)]) := by
  refine VF.enter Tryz.func49 rfl (fun _ _ => rfl) rfl ?_
  show VC _ _ _ _ _ [(0, .v y64 l), (1, .v y41 b)] [] _
  refine VC.seq ?_
  refine VC.text ?_
  refine VO.new (.box) ?_
  refine VO.c (.assign rfl) ?_
  refine VO.c (.assign rfl) ?_
  refine VO.go ?_
  refine VC.seq ?_
  refine VC.seq ?_
  refine VC.drawn ?_
  refine VD.c (.move rfl) ?_
  refine VD.call rfl rfl (VF.call (sEnsemble_ok (by first | assumption | omega))) ?_
  refine VD.r [] (.ld vt41) (.inl rfl) ?_
  refine VD.call rfl rfl (VF.call (sBounds_ok )) ?_
  refine VD.new (.lit [ensembleE l, boundsE b] el179) ?_
  refine VD.callO rfl rfl (VF.call (sFirst_ok (by simp))) ?_
  refine VD.nw [14] ?_
  refine VD.c (.assign rfl) ?_
  refine VD.go ?_
  refine VC.seq ?_
  refine VC.text ?_
  refine VO.c (.move rfl) ?_
  refine VO.c (.neq) ?_
  refine VO.go ?_
  refine VC.condD rfl (fun c2 => ?_) (fun c2 => ?_)
  · refine VC.seq ?_
    refine VC.text ?_
    refine VO.c (.move rfl) ?_
    refine VO.c (.assign rfl) ?_
    refine VO.c (.assign rfl) ?_
    refine VO.go ?_
    refine VC.ret ?_
    exact VEnd.two rfl (evC .nil) evT (pvE (by unfold enclR; exact (if_neg c2).symm)) (pvI (by rfl))
  · have hB : enclB l b = 0 := Decidable.not_not.1 c2
    have hE := (enclB_ok hB).1
    have hb := (enclB_ok hB).2
    have hp := hE.pos
    have ht := hE.top
    have hC := hE.all _ (List.getElem_mem hE.pos)
    have e0 := len0_eq hE.pos
    have h9 := hC.top
    refine VC.skip ?_
    show VC _ _ _ _ _ _ _ _
    refine VC.seq ?_
    refine VC.text ?_
    refine VO.c (.assign rfl) ?_
    refine VO.go ?_
    refine VC.seq ?_
    refine VC.seq ?_
    refine VC.text ?_
    refine VO.c (.move rfl) ?_
    refine VO.c (.ix (j := 0) rfl rfl el64 (by omega)) ?_
    refine VO.c (.fa (.r .o)) ?_
    refine VO.r (.ld vt22) ?_
    refine VO.r (.len el22) ?_
    refine VO.c (.move rfl) ?_
    refine VO.go ?_
    refine VC.block ?_
    refine VC.cell0 41 y41 ?_
    refine VC.keep [(0, .v y64 l), (3, .p y41 b), (7, .raw (.slice none 0 0)), (23, I ((((l[0]).2).length : Nat) : Int)), (24, I ((0 : Nat) : Int))] ⟨rfl, rfl, rfl, rfl, rfl, trivial⟩ ?_
    refine VC.loop (I := fun kk ff ss => ∃ (j : Nat) (out : Value), kk = l[0].2.length - j ∧ ff = [(0, .v y64 l), (3, .p y41 b), (7, .raw out), (23, I ((((l[0]).2).length : Nat) : Int)), (24, I ((j : Nat) : Int))] ∧ ss = [(out, .row 41 y41 ((List.range j).map fun t => (minE (colE l t) + b.1, maxE (colE l t) + b.2)))] ∧ (j ≤ l[0].2.length)) ?_ _ _ _ ⟨0, (.slice none 0 0), rfl, rfl, rfl, (by omega)⟩
    rintro kk ff ss ⟨j, out, hk0, rfl, rfl, hj⟩
    refine VC.seq ?_
    refine VC.text ?_
    refine VO.c (.lss) ?_
    refine VO.go ?_
    refine VC.seq ?_
    refine VC.condD rfl (fun c6 => ?_) (fun c6 => ?_)
    · refine VC.skip ?_
      show VC _ _ _ _ _ _ _ _
      refine VC.seq ?_
      refine VC.block ?_
      refine VC.seq ?_
      refine VC.text ?_
      refine VO.c (.move rfl) ?_
      refine VO.cell (.alloc zt3) ?_
      intro ww3
      refine VO.setV (cs' := [I ((j : Nat) : Int)]) vt3 .v ?_
      refine VO.shut [(8, .p (.int .i64) ((j : Nat) : Int))] (.cons rfl (.var m0 .refl) .nil) ?_
      refine VO.go ?_
      refine VC.seq ?_
      refine VC.text ?_
      refine VO.c (.move rfl) ?_
      refine VO.c (.func) ?_
      refine VO.call rfl rfl (VF.call (sMapCI_ok (F := fun x => x.2.getD j 0) (by omega) (fun a m => VF.clo (sEnc1_ok (by have := (hE.all _ m).len; omega))))) ?_
      refine VO.call rfl rfl (VF.call (sHull_ok (by simp; omega) (by simp; omega))) ?_
      refine VO.cell (.alloc zt41) ?_
      intro ww4
      refine VO.setV (cs' := [I ((hullE (l.map (fun x => x.2.getD j 0))).1), I ((hullE (l.map (fun x => x.2.getD j 0))).2)]) vt41 .v ?_
      refine VO.shut [(9, .p y41 (hullE (l.map (fun x => x.2.getD j 0))))] (.cons rfl (.var m0 .refl) .nil) ?_
      refine VO.go ?_
      refine VC.text ?_
      refine VO.c (.move rfl) ?_
      refine VO.c (.fa (.l .o)) ?_
      refine VO.r (.ld vt3) ?_
      refine VO.c (.fa (.l .o)) ?_
      refine VO.r (.ld vt3) ?_
      have hm : -1048576 ≤ minE (colE l j) ∧ minE (colE l j) ≤ 1048576 := minE_bound (colE_bound hE j)
      have hM : -1048576 ≤ maxE (colE l j) ∧ maxE (colE l j) ≤ 1048576 := maxE_bound (colE_bound hE j)
      have hb1 := hb.lo
      have hb2 := hb.hi
      refine VO.c (.add rfl rfl (by have e1 : (hullE (l.map fun x => x.2.getD j 0)).1 = minE (colE l j) := rfl; rw [e1]; omega)) ?_
      refine VO.c (.fa (.r .o)) ?_
      refine VO.r (.ld vt3) ?_
      refine VO.c (.fa (.r .o)) ?_
      refine VO.r (.ld vt3) ?_
      refine VO.c (.add rfl rfl (by have e1 : (hullE (l.map fun x => x.2.getD j 0)).2 = maxE (colE l j) := rfl; rw [e1]; omega)) ?_
      refine VO.c (.build (((hullE (l.map (fun x => x.2.getD j 0))).1 + b.1), ((hullE (l.map (fun x => x.2.getD j 0))).2 + b.2)) bt41) ?_
      refine VO.new (.lit [(((hullE (l.map (fun x => x.2.getD j 0))).1 + b.1), ((hullE (l.map (fun x => x.2.getD j 0))).2 + b.2))] el81) ?_
      refine VO.app rfl rfl el81 el81 (by simp; omega) ?_
      intro ww5
      refine VO.c (.assign rfl) ?_
      refine VO.nil ?_
      show VC _ _ _ _ _ _ _ _
      refine VC.text ?_
      refine VO.c (.add rfl rfl (by omega)) ?_
      refine VO.c (.move rfl) ?_
      refine VO.nil ?_
      refine ⟨_, [(0, .v y64 l), (3, .p y41 b), (7, .raw ww5), (23, I ((((l[0]).2).length : Nat) : Int)), (24, I (((j + 1) : Nat) : Int))], ?_, ⟨rfl, rfl, rfl, rfl, rfl, trivial⟩, (j + 1), ww5, rfl, rfl, (by rw [List.range_succ, List.map_append] <;> rfl), (by omega)⟩
      omega
    · refine VC.exit ?_
      show VC _ _ _ _ _ _ _ _
      refine VC.seq ?_
      refine VC.text ?_
      refine VO.c (.move rfl) ?_
      refine VO.c (.assign rfl) ?_
      refine VO.c (.assign rfl) ?_
      refine VO.go ?_
      refine VC.ret ?_
      exact VEnd.two rfl (evC (.row m0)) evT (pvE (by unfold enclR; rw [if_pos hB, encloseE, show j = len0 l by omega])) (pvI (by exact hB.symm))
end Go.Proofs
namespace Go.Proofs
open Go.Fs
set_option linter.unusedVariables false
abbrev y72 : Ty := (.pair (.int .i64) (.sl (.int .i64)))
theorem bt89 : BldT Tryz.prog 89 y89 [(0, 1), (1, 1)] := bldT_of zt89 rfl (by kernel_rfl)
def shortCE (l : List (Int × List Int)) : Bool := decide ((l.length ≤ 6 ∨ l.length = 17) ∧ ∀ c ∈ l, c.2.length ≤ 12 ∨ c.2.length = 97)
end Go.Proofs
namespace Go.Proofs
open Go.Fs
set_option linter.unusedVariables false
abbrev y39 : Ty := (.sl (.pair (.sl (.int .i64)) (.sl (.int .i64))))
abbrev y45 : Ty := (.sl (.pair (.sl (.int .i64)) (.sl (.int .i64))))
abbrev y172 : Ty := (.pair (.sl (.int .i64)) (.sl (.int .i64)))
theorem vt172 : ValT Tryz.prog 172 y172 := valT_of (by kernel_rfl)
theorem el39 : ElT Tryz.prog 39 88 (.pair (.sl (.int .i64)) (.sl (.int .i64))) := elT_of (by kernel_rfl)
theorem el45 : ElT Tryz.prog 45 172 y172 := elT_of (by kernel_rfl)
theorem zt172 : ZerT Tryz.prog 172 y172 := zerT_of (z := .agg #[.slice none 0 0, .slice none 0 0]) (by kernel_rfl) rfl rfl
/-! ## Nights -/
def nightE (c : List Int × List Int) : Int := firstE [whenE (decide ((c.1.length : Int) = 0)) 12, whenE (decide ((96 : Int) < c.1.length)) 5, whenE (decide ((c.2.length : Int) ≠ c.1.length)) 2, heightsE c.1, heightsE c.2]
theorem night_two {c : List Int × List Int} : nightE c = firstE ([whenE (decide ((c.1.length : Int) = 0)) 12, whenE (decide ((96 : Int) < c.1.length)) 5, whenE (decide ((c.2.length : Int) ≠ c.1.length)) 2] ++ [heightsE c.1, heightsE c.2]) := rfl
def nightsE (l : List (List Int × List Int)) : Int := if (l.length : Int) = 0 then 12 else if (64 : Int) < l.length then 5 else firstE (l.map nightE)
theorem sNightC_ok {c : (List Int) × (List Int)} (hl1 : c.1.length < 100000) (hl2 : c.2.length < 100000) : VF Tryz.prog OA 108 [.v y172 c] (I (nightE c)) := by
  refine VF.enter Tryz.func108 rfl (fun _ _ => rfl) rfl ?_
  show VC _ _ _ _ _ [(0, .v y172 c)] [] _
  refine VC.seq ?_
  refine VC.text ?_
  refine VO.new (.box) ?_
  refine VO.c (.assign rfl) ?_
  refine VO.go ?_
  refine VC.seq ?_
  refine VC.seq ?_
  refine VC.drawn ?_
  refine VD.c (.fa (.l .o)) ?_
  refine VD.r [] (.ld vt22) (.inl rfl) ?_
  refine VD.r [] (.len el22) (.inl rfl) ?_
  refine VD.c (.eql) ?_
  refine VD.call rfl rfl (VF.call (sWhen_ok )) ?_
  refine VD.c (.fa (.l .o)) ?_
  refine VD.nw [] ?_
  refine VD.r [] (.ld vt22) (.inl rfl) ?_
  refine VD.r [] (.len el22) (.inl rfl) ?_
  refine VD.c (.gtr) ?_
  refine VD.call rfl rfl (VF.call (sWhen_ok )) ?_
  refine VD.c (.fa (.r .o)) ?_
  refine VD.r [] (.ld vt22) (.inl rfl) ?_
  refine VD.r [] (.len el22) (.inl rfl) ?_
  refine VD.nw [] ?_
  refine VD.c (.fa (.l .o)) ?_
  refine VD.r [] (.ld vt22) (.inl rfl) ?_
  refine VD.r [] (.len el22) (.inl rfl) ?_
  refine VD.c (.neq) ?_
  refine VD.call rfl rfl (VF.call (sWhen_ok )) ?_
  refine VD.new (.lit [whenE (decide (((c.1.length : Nat) : Int) = (0 : Int))) (12 : Int), whenE (decide ((96 : Int) < ((c.1.length : Nat) : Int))) (5 : Int), whenE (decide (((c.2.length : Nat) : Int) ≠ ((c.1.length : Nat) : Int))) (2 : Int)] el179) ?_
  refine VD.callO rfl rfl (VF.call (sFirst_ok (by simp))) ?_
  refine VD.nw [22] ?_
  refine VD.c (.assign rfl) ?_
  refine VD.go ?_
  refine VC.seq ?_
  refine VC.text ?_
  refine VO.c (.move rfl) ?_
  refine VO.c (.neq) ?_
  refine VO.go ?_
  refine VC.condD rfl (fun c2 => ?_) (fun c2 => ?_)
  · refine VC.seq ?_
    refine VC.text ?_
    refine VO.c (.move rfl) ?_
    refine VO.c (.assign rfl) ?_
    refine VO.go ?_
    refine VC.ret ?_
    exact VEnd.one rfl evT (pvI (by rw [night_two, firstE_app, if_neg c2]))
  · refine VC.skip ?_
    show VC _ _ _ _ _ _ _ _
    refine VC.seq ?_
    refine VC.drawn ?_
    refine VD.c (.fa (.l .o)) ?_
    refine VD.r [] (.ld vt22) (.inl rfl) ?_
    refine VD.call rfl rfl (VF.call (sHeights_ok (by first | assumption | omega))) ?_
    refine VD.c (.fa (.r .o)) ?_
    refine VD.r [] (.ld vt22) (.inl rfl) ?_
    refine VD.call rfl rfl (VF.call (sHeights_ok (by first | assumption | omega))) ?_
    refine VD.nw [] ?_
    refine VD.new (.lit [heightsE c.1, heightsE c.2] el179) ?_
    refine VD.callO rfl rfl (VF.call (sFirst_ok (by simp))) ?_
    refine VD.c (.assign rfl) ?_
    refine VD.go ?_
    refine VC.ret ?_
    exact VEnd.one rfl evT (pvI (by rw [night_two, firstE_app, if_pos (Decidable.not_not.1 c2)]))
theorem sMapNE_ok {F : List Int × List Int → Int} {l : List ((List Int) × (List Int))} {f : PV} (hl : l.length < 100000) (hf : ∀ x ∈ l, VCall Tryz.prog OA f [.v y172 x] (I (F x))) : VF Tryz.prog OA 107 [.v y45 l, f] (.v y179 (l.map F)) := by
  refine VF.enter Tryz.func107 rfl (fun _ _ => rfl) rfl ?_
  show VC _ _ _ _ _ [(0, .v y45 l), (1, f)] [] _
  refine VC.seq ?_
  refine VC.text ?_
  refine VO.c (.assign rfl) ?_
  refine VO.go ?_
  refine VC.seq ?_
  refine VC.text ?_
  refine VO.c (.assign rfl) ?_
  refine VO.go ?_
  refine VC.seq ?_
  refine VC.seq ?_
  refine VC.text ?_
  refine VO.c (.move rfl) ?_
  refine VO.r (.len el45) ?_
  refine VO.c (.move rfl) ?_
  refine VO.go ?_
  refine VC.block ?_
  refine VC.cell0 26 (.int .i64) ?_
  refine VC.keep [(1, f), (5, .raw (.slice none 0 0)), (8, .v y45 l), (9, I ((l.length : Nat) : Int)), (10, I ((0 : Nat) : Int))] ⟨rfl, rfl, rfl, rfl, rfl, trivial⟩ ?_
  refine VC.loop (I := fun kk ff ss => ∃ (j : Nat) (out : Value), kk = l.length - j ∧ ff = [(1, f), (5, .raw out), (8, .v y45 l), (9, I ((l.length : Nat) : Int)), (10, I ((j : Nat) : Int))] ∧ ss = [(out, .row 26 (.int .i64) ((l.take j).map F))] ∧ (j ≤ l.length)) ?_ _ _ _ ⟨0, (.slice none 0 0), rfl, rfl, rfl, Nat.zero_le _⟩
  rintro kk ff ss ⟨j, out, hk0, rfl, rfl, hj⟩
  refine VC.seq ?_
  refine VC.text ?_
  refine VO.c (.lss) ?_
  refine VO.go ?_
  refine VC.seq ?_
  refine VC.condD rfl (fun c3 => ?_) (fun c3 => ?_)
  · refine VC.skip ?_
    show VC _ _ _ _ _ _ _ _
    refine VC.seq ?_
    refine VC.block ?_
    refine VC.seq ?_
    refine VC.text ?_
    refine VO.c (.ix (j := j) rfl rfl el45 (by omega)) ?_
    refine VO.r (.ld vt172) ?_
    refine VO.cell (.alloc zt172) ?_
    intro ww1
    refine VO.setV (cs' := [.v y22 ((l[j]).1), .v y22 ((l[j]).2)]) vt172 .v ?_
    refine VO.shut [(7, .p y172 (l[j]))] (.cons rfl (.var m0 .refl) .nil) ?_
    refine VO.go ?_
    refine VC.text ?_
    refine VO.c (.move rfl) ?_
    refine VO.c (.move rfl) ?_
    refine VO.r (.ld vt172) ?_
    refine VO.call rfl rfl ((hf _ (List.getElem_mem _)) ) ?_
    refine VO.new (.lit [F (l[j])] el179) ?_
    refine VO.app rfl rfl el179 el179 (by simp; omega) ?_
    intro ww2
    refine VO.c (.assign rfl) ?_
    refine VO.nil ?_
    show VC _ _ _ _ _ _ _ _
    refine VC.text ?_
    refine VO.c (.add rfl rfl (by omega)) ?_
    refine VO.c (.move rfl) ?_
    refine VO.nil ?_
    refine ⟨_, [(1, f), (5, .raw ww2), (8, .v y45 l), (9, I ((l.length : Nat) : Int)), (10, I (((j + 1) : Nat) : Int))], ?_, ⟨rfl, rfl, rfl, rfl, rfl, trivial⟩, (j + 1), ww2, rfl, rfl, (by rw [List.take_succ_eq_append_getElem (by omega), List.map_append] <;> rfl), (by omega)⟩
    omega
  · refine VC.exit ?_
    show VC _ _ _ _ _ _ _ _
    refine VC.seq ?_
    refine VC.text ?_
    refine VO.c (.move rfl) ?_
    refine VO.c (.assign rfl) ?_
    refine VO.go ?_
    refine VC.ret ?_
    exact VEnd.one rfl (evC (.row m0)) (pvE (by rw [List.take_of_length_le (by omega)]))
theorem nights_pre {n : Int} : firstE [whenE (decide (n = 0)) 12, whenE (decide ((64 : Int) < n)) 5] = if n = 0 then 12 else if 64 < n then 5 else 0 := by
  by_cases h1 : n = 0
  · rw [whenE_t h1, if_pos h1]; simp [firstE]
  · rw [whenE_f h1, if_neg h1]
    by_cases h2 : 64 < n
    · rw [whenE_t h2, if_pos h2]; simp [firstE]
    · rw [whenE_f h2, if_neg h2]; simp [firstE]
theorem sNights_ok {l : List ((List Int) × (List Int))} (hl : ∀ c ∈ l, c.1.length < 100000 ∧ c.2.length < 100000) : VF Tryz.prog OA 34 [.v y45 l] (I (nightsE l)) := by
  refine VF.enter Tryz.func34 rfl (fun _ _ => rfl) rfl ?_
  show VC _ _ _ _ _ [(0, .v y45 l)] [] _
  refine VC.seq ?_
  refine VC.text ?_
  refine VO.c (.assign rfl) ?_
  refine VO.go ?_
  refine VC.seq ?_
  refine VC.seq ?_
  refine VC.text ?_
  refine VO.c (.move rfl) ?_
  refine VO.r (.len el45) ?_
  refine VO.c (.eql) ?_
  refine VO.call rfl rfl (VF.call (sWhen_ok )) ?_
  refine VO.c (.move rfl) ?_
  refine VO.r (.len el45) ?_
  refine VO.c (.gtr) ?_
  refine VO.call rfl rfl (VF.call (sWhen_ok )) ?_
  refine VO.new (.lit [whenE (decide (((l.length : Nat) : Int) = (0 : Int))) (12 : Int), whenE (decide ((64 : Int) < ((l.length : Nat) : Int))) (5 : Int)] el179) ?_
  refine VO.call rfl rfl (VF.call (sFirst_ok (by simp))) ?_
  refine VO.c (.assign rfl) ?_
  refine VO.go ?_
  refine VC.seq ?_
  refine VC.text ?_
  refine VO.c (.move rfl) ?_
  refine VO.c (.neq) ?_
  refine VO.go ?_
  refine VC.condD rfl (fun c2 => ?_) (fun c2 => ?_)
  · refine VC.seq ?_
    refine VC.text ?_
    refine VO.c (.move rfl) ?_
    refine VO.c (.assign rfl) ?_
    refine VO.go ?_
    refine VC.ret ?_
    exact VEnd.one rfl evT (pvI (by rw [nights_pre] at c2 ⊢; rw [nightsE]; split <;> simp_all))
  · rw [nights_pre] at c2
    have d1 : ¬ (l.length : Int) = 0 := fun h => by simp [h] at c2
    have d2 : ¬ (64 : Int) < l.length := fun h => by simp [h] at c2; omega
    refine VC.skip ?_
    show VC _ _ _ _ _ _ _ _
    refine VC.seq ?_
    refine VC.text ?_
    refine VO.c (.move rfl) ?_
    refine VO.call rfl rfl (VF.call (sMapNE_ok (F := nightE) (by omega) (fun _ m => VF.call (sNightC_ok (hl _ m).1 (hl _ m).2)))) ?_
    refine VO.call rfl rfl (VF.call (sFirst_ok (by simp; omega))) ?_
    refine VO.c (.assign rfl) ?_
    refine VO.go ?_
    refine VC.ret ?_
    exact VEnd.one rfl evT (pvI (by rw [nightsE, if_neg d1, if_neg d2]))
theorem rNights_ok {l : List ((List Int) × (List Int))} (hl : ∀ c ∈ l, c.1.length < 100000 ∧ c.2.length < 100000) : VF Tryz.prog OA 30 [.v y39 l] (I (nightsE l)) := by
  refine VF.enter Tryz.func30 rfl (fun _ _ => rfl) rfl ?_
  show VC _ _ _ _ _ [(0, .v y39 l)] [] _
  refine VC.seq ?_
  refine VC.text ?_
  refine VO.c (.assign rfl) ?_
  refine VO.go ?_
  refine VC.seq ?_
  refine VC.seq ?_
  refine VC.text ?_
  refine VO.c (.move rfl) ?_
  refine VO.r (.len el39) ?_
  refine VO.c (.eql) ?_
  refine VO.go ?_
  refine VC.condD rfl (fun c1 => ?_) (fun c1 => ?_)
  · refine VC.seq ?_
    refine VC.text ?_
    refine VO.c (.assign rfl) ?_
    refine VO.go ?_
    refine VC.ret ?_
    exact VEnd.one rfl evT (pvI (by rw [nightsE, if_pos c1]))
  · refine VC.skip ?_
    show VC _ _ _ _ _ _ _ _
    refine VC.seq ?_
    refine VC.seq ?_
    refine VC.text ?_
    refine VO.c (.move rfl) ?_
    refine VO.r (.len el39) ?_
    refine VO.c (.gtr) ?_
    refine VO.go ?_
    refine VC.condD rfl (fun c3 => ?_) (fun c3 => ?_)
    · refine VC.seq ?_
      refine VC.text ?_
      refine VO.c (.assign rfl) ?_
      refine VO.go ?_
      refine VC.ret ?_
      exact VEnd.one rfl evT (pvI (by rw [nightsE, if_neg c1, if_pos c3]))
    · refine VC.skip ?_
      show VC _ _ _ _ _ _ _ _
      refine VC.seq ?_
      refine VC.seq ?_
      refine VC.text ?_
      refine VO.c (.assign rfl) ?_
      refine VO.go ?_
      refine VC.block ?_
      refine VC.keep [(0, .v y39 l), (3, I ((0 : Nat) : Int))] ⟨rfl, rfl, trivial⟩ ?_
      refine VC.loop (I := fun kk ff ss => ∃ (j : Nat), kk = l.length - j ∧ ff = [(0, .v y39 l), (3, I ((j : Nat) : Int))] ∧ ss = [] ∧ (j ≤ l.length) ∧ (firstE (l.map nightE) = firstE ((l.drop j).map nightE))) ?_ _ _ _ ⟨0, rfl, rfl, rfl, Nat.zero_le _, (by rfl)⟩
      rintro kk ff ss ⟨j, hk0, rfl, rfl, hj, hf⟩
      refine VC.seq ?_
      refine VC.seq ?_
      refine VC.text ?_
      refine VO.c (.move rfl) ?_
      refine VO.c (.move rfl) ?_
      refine VO.r (.len el39) ?_
      refine VO.c (.lss) ?_
      refine VO.go ?_
      refine VC.condD rfl (fun c6 => ?_) (fun c6 => ?_)
      · refine VC.skip ?_
        show VC _ _ _ _ _ _ _ _
        refine VC.seq ?_
        refine VC.block ?_
        refine VC.seq ?_
        refine VC.seq ?_
        refine VC.text ?_
        refine VO.c (.move rfl) ?_
        refine VO.c (.move rfl) ?_
        refine VO.c (.ix (j := j) rfl rfl el39 (by omega)) ?_
        refine VO.c (.fa (.l .o)) ?_
        refine VO.r (.ld vt22) ?_
        refine VO.r (.len el22) ?_
        refine VO.c (.eql) ?_
        refine VO.go ?_
        refine VC.condD rfl (fun c8 => ?_) (fun c8 => ?_)
        · refine VC.seq ?_
          refine VC.text ?_
          refine VO.c (.assign rfl) ?_
          refine VO.go ?_
          refine VC.ret ?_
          exact VEnd.one rfl evT (pvI (by rw [nightsE, if_neg c1, if_neg c3, hf, firstE_map_drop (by omega)]; simp only [nightE, firstE, whenE_t c8, if_true] <;> rfl))
        · refine VC.skip ?_
          show VC _ _ _ _ _ _ _ _
          refine VC.seq ?_
          refine VC.seq ?_
          refine VC.text ?_
          refine VO.c (.move rfl) ?_
          refine VO.c (.move rfl) ?_
          refine VO.c (.ix (j := j) rfl rfl el39 (by omega)) ?_
          refine VO.c (.fa (.l .o)) ?_
          refine VO.r (.ld vt22) ?_
          refine VO.r (.len el22) ?_
          refine VO.c (.gtr) ?_
          refine VO.go ?_
          refine VC.condD rfl (fun c10 => ?_) (fun c10 => ?_)
          · refine VC.seq ?_
            refine VC.text ?_
            refine VO.c (.assign rfl) ?_
            refine VO.go ?_
            refine VC.ret ?_
            exact VEnd.one rfl evT (pvI (by rw [nightsE, if_neg c1, if_neg c3, hf, firstE_map_drop (by omega)]; simp only [nightE, firstE, whenE_f c8, whenE_t c10, if_true] <;> rfl))
          · refine VC.skip ?_
            show VC _ _ _ _ _ _ _ _
            refine VC.seq ?_
            refine VC.seq ?_
            refine VC.drawn ?_
            refine VD.c (.move rfl) ?_
            refine VD.c (.move rfl) ?_
            refine VD.c (.ix (j := j) rfl rfl el39 (by omega)) ?_
            refine VD.c (.fa (.r .o)) ?_
            refine VD.r [] (.ld vt22) (.inl rfl) ?_
            refine VD.r [] (.len el22) (.inl rfl) ?_
            refine VD.nw [] ?_
            refine VD.c (.move rfl) ?_
            refine VD.c (.move rfl) ?_
            refine VD.c (.ix (j := j) rfl rfl el39 (by omega)) ?_
            refine VD.c (.fa (.l .o)) ?_
            refine VD.r [] (.ld vt22) (.inl rfl) ?_
            refine VD.r [] (.len el22) (.inl rfl) ?_
            refine VD.c (.neq) ?_
            refine VD.go ?_
            refine VC.condD rfl (fun c12 => ?_) (fun c12 => ?_)
            · refine VC.seq ?_
              refine VC.keep [(0, .v y39 l), (3, I ((j : Nat) : Int))] ⟨rfl, rfl, trivial⟩ ?_
              refine VC.text ?_
              refine VO.c (.assign rfl) ?_
              refine VO.go ?_
              refine VC.ret ?_
              exact VEnd.one rfl evT (pvI (by rw [nightsE, if_neg c1, if_neg c3, hf, firstE_map_drop (by omega)]; simp only [nightE, firstE, whenE_f c8, whenE_f c10, whenE_t c12, if_true] <;> rfl))
            · refine VC.skip ?_
              show VC _ _ _ _ _ _ _ _
              refine VC.seq ?_
              refine VC.keep [(0, .v y39 l), (3, I ((j : Nat) : Int))] ⟨rfl, rfl, trivial⟩ ?_
              refine VC.drawn ?_
              have hlj := hl _ (List.getElem_mem (show j < l.length by omega))
              refine VD.c (.move rfl) ?_
              refine VD.c (.move rfl) ?_
              refine VD.c (.ix (j := j) rfl rfl el39 (by omega)) ?_
              refine VD.c (.fa (.l .o)) ?_
              refine VD.r [] (.ld vt22) (.inl rfl) ?_
              refine VD.call rfl rfl (VF.call (rHeights_ok (by first | assumption | omega))) ?_
              refine VD.nw [] ?_
              refine VD.c (.move rfl) ?_
              refine VD.c (.move rfl) ?_
              refine VD.c (.ix (j := j) rfl rfl el39 (by omega)) ?_
              refine VD.c (.fa (.r .o)) ?_
              refine VD.r [] (.ld vt22) (.inl rfl) ?_
              refine VD.call rfl rfl (VF.call (rHeights_ok (by first | assumption | omega))) ?_
              refine VD.new (.lit [heightsE ((l[j]).1), heightsE ((l[j]).2)] el22) ?_
              refine VD.nw [56] ?_
              refine VD.callO rfl rfl (VF.call (rFirst_ok (by simp))) ?_
              refine VD.c (.assign rfl) ?_
              refine VD.go ?_
              refine VC.seq ?_
              refine VC.text ?_
              refine VO.c (.move rfl) ?_
              refine VO.c (.neq) ?_
              refine VO.go ?_
              refine VC.condD rfl (fun c15 => ?_) (fun c15 => ?_)
              · refine VC.seq ?_
                refine VC.text ?_
                refine VO.c (.move rfl) ?_
                refine VO.c (.assign rfl) ?_
                refine VO.go ?_
                refine VC.ret ?_
                exact VEnd.one rfl evT (pvI (by rw [nightsE, if_neg c1, if_neg c3, hf, firstE_map_drop (by omega)]; simp only [nightE, firstE, whenE_f c8, whenE_f c10, whenE_f c12, if_true] at c15 ⊢; rw [if_neg c15]))
              · refine VC.skip ?_
                show VC _ _ _ _ _ _ _ _
                refine VC.text ?_
                refine VO.c (.move rfl) ?_
                refine VO.c (.add rfl rfl (by omega)) ?_
                refine VO.c (.assign rfl) ?_
                refine VO.nil ?_
                refine ⟨_, [(0, .v y39 l), (3, I (((j + 1) : Nat) : Int))], ?_, ⟨rfl, rfl, trivial⟩, (j + 1), rfl, rfl, rfl, (by omega), (by rw [hf, firstE_map_drop (by omega), if_pos (by simpa only [nightE, firstE, whenE_f c8, whenE_f c10, whenE_f c12, if_true] using Decidable.not_not.1 c15)])⟩
                omega
      · refine VC.exit ?_
        show VC _ _ _ _ _ _ _ _
        refine VC.seq ?_
        refine VC.text ?_
        refine VO.c (.assign rfl) ?_
        refine VO.go ?_
        refine VC.ret ?_
        exact VEnd.one rfl evT (pvI (by rw [nightsE, if_neg c1, if_neg c3, hf, firstE_map_end (by omega)]))
def devE (c : List Int × List Int) : List Int := (List.range c.2.length).map fun i => c.2.getD i 0 - c.1.getD i 0
theorem devE_len {c : List Int × List Int} : (devE c).length = c.2.length := by simp [devE]
theorem set_fill {l : List Int} {n j : Nat} {x : Int} (hj : j < l.length) (hn : l.length = n) (hx : x = l[j]) : (l.take j ++ List.replicate (n - j) 0).set j x = l.take (j + 1) ++ List.replicate (n - (j + 1)) 0 := by
  subst hx hn
  rw [List.set_append_right _ _ (by simp; omega), List.take_succ_eq_append_getElem hj, List.append_assoc]
  congr 1
  rw [List.length_take, Nat.min_eq_left (by omega), Nat.sub_self, show l.length - j = (l.length - (j + 1)) + 1 by omega, List.replicate_succ]
  rfl
theorem devE_get {c : List Int × List Int} {j : Nat} (h1 : j < c.1.length) (h2 : j < c.2.length) : (devE c)[j]'(by rw [devE_len]; exact h2) = c.2[j] - c.1[j] := by
  simp [devE, List.getD, h1, h2]
structure OkN (c : List Int × List Int) : Prop where
  len : c.2.length = c.1.length
  pos : 0 < c.1.length
  top : c.1.length ≤ 96
  all1 : ∀ x ∈ c.1, -1048576 ≤ x ∧ x ≤ 1048576
  all2 : ∀ x ∈ c.2, -1048576 ≤ x ∧ x ≤ 1048576
theorem nightE_ok {c : List Int × List Int} (h : nightE c = 0) : OkN c := by
  rw [nightE, firstE_zero] at h
  have h2 := whenE_zero (by decide) (h _ (by simp : whenE (decide ((c.1.length : Int) = 0)) 12 ∈ _))
  have h3 := whenE_zero (by decide) (h _ (by simp : whenE (decide ((96 : Int) < c.1.length)) 5 ∈ _))
  have h4 := whenE_zero (by decide) (h _ (by simp : whenE (decide ((c.2.length : Int) ≠ c.1.length)) 2 ∈ _))
  have h5 := h _ (by simp : heightsE c.1 ∈ _)
  have h6 := h _ (by simp : heightsE c.2 ∈ _)
  exact ⟨by omega, by omega, by omega, heightsE_ok h5, heightsE_ok h6⟩
structure OkNs (l : List (List Int × List Int)) : Prop where
  pos : 0 < l.length
  top : l.length ≤ 64
  all : ∀ c ∈ l, OkN c
theorem nightsE_ok {l : List (List Int × List Int)} (h : nightsE l = 0) : OkNs l := by
  unfold nightsE at h
  by_cases h1 : (l.length : Int) = 0
  · rw [if_pos h1] at h; simp at h
  · rw [if_neg h1] at h
    by_cases h2 : (64 : Int) < l.length
    · rw [if_pos h2] at h; simp at h
    · rw [if_neg h2, firstE_zero] at h
      exact ⟨by omega, by omega, fun c hc => nightE_ok (h _ (List.mem_map_of_mem hc))⟩
theorem sDev_ok {c : (List Int) × (List Int)} (hN : OkN c) : VF Tryz.prog OA 105 [.v y172 c] (.v y22 (devE c)) := by
  refine VF.enter Tryz.func105 rfl (fun _ _ => rfl) rfl ?_
  show VC _ _ _ _ _ [(0, .v y172 c)] [] _
  refine VC.seq ?_
  refine VC.text ?_
  have hp := hN.pos
  have ht := hN.top
  have hl := hN.len
  have hdl := @devE_len c
  refine VO.new (.box) ?_
  refine VO.c (.assign rfl) ?_
  refine VO.go ?_
  refine VC.seq ?_
  refine VC.text ?_
  refine VO.c (.fa (.r .o)) ?_
  refine VO.r (.ld vt22) ?_
  refine VO.r (.len el22) ?_
  refine VO.cell (.make (k := c.2.length) rfl rfl el22 zt3 (by omega)) ?_
  intro ww3
  refine VO.c (.assign rfl) ?_
  refine VO.go ?_
  refine VC.seq ?_
  refine VC.seq ?_
  refine VC.text ?_
  refine VO.c (.fa (.r .o)) ?_
  refine VO.r (.ld vt22) ?_
  refine VO.r (.len el22) ?_
  refine VO.c (.move rfl) ?_
  refine VO.go ?_
  refine VC.block ?_
  refine VC.keep [(1, .p y172 c), (3, .raw ww3), (11, .v y22 c.2), (12, I ((c.2.length : Nat) : Int)), (13, I ((0 : Nat) : Int))] ⟨rfl, rfl, rfl, rfl, rfl, trivial⟩ ?_
  refine VC.loop (I := fun kk ff ss => ∃ (j : Nat), kk = c.2.length - j ∧ ff = [(1, .p y172 c), (3, .raw ww3), (11, .v y22 c.2), (12, I ((c.2.length : Nat) : Int)), (13, I ((j : Nat) : Int))] ∧ ss = [(ww3, .row 3 (.int .i64) ((devE c).take j ++ List.replicate (c.2.length - j) 0))] ∧ (j ≤ c.2.length)) ?_ _ _ _ ⟨0, rfl, rfl, rfl, Nat.zero_le _⟩
  rintro kk ff ss ⟨j, hk0, rfl, rfl, hj⟩
  refine VC.seq ?_
  refine VC.text ?_
  refine VO.c (.lss) ?_
  refine VO.go ?_
  refine VC.seq ?_
  refine VC.condD rfl (fun c3 => ?_) (fun c3 => ?_)
  · refine VC.skip ?_
    show VC _ _ _ _ _ _ _ _
    refine VC.seq ?_
    refine VC.block ?_
    refine VC.seq ?_
    refine VC.text ?_
    refine VO.c (.move rfl) ?_
    refine VO.c (.ix (j := j) rfl rfl el22 (by omega)) ?_
    refine VO.r (.ld vt3) ?_
    refine VO.c (.assign rfl) ?_
    refine VO.c (.assign rfl) ?_
    refine VO.go ?_
    refine VC.text ?_
    have b1 := hN.all1 _ (List.getElem_mem (show j < c.1.length by omega))
    have b2 := hN.all2 _ (List.getElem_mem (show j < c.2.length by omega))
    refine VO.c (.move rfl) ?_
    refine VO.c (.move rfl) ?_
    refine VO.c (.move rfl) ?_
    refine VO.c (.fa (.l .o)) ?_
    refine VO.r (.ld vt22) ?_
    refine VO.c (.move rfl) ?_
    refine VO.c (.ix (j := j) rfl rfl el22 (by omega)) ?_
    refine VO.r (.ld vt3) ?_
    refine VO.c (.sub rfl rfl (by omega)) ?_
    refine VO.c (.ixO (j := j) rfl rfl m0 el22 (by simp; omega)) ?_
    refine VO.setE j rfl rfl vt3 (by simp; omega) ?_
    refine VO.nil ?_
    show VC _ _ _ _ _ _ _ _
    refine VC.text ?_
    refine VO.c (.add rfl rfl (by omega)) ?_
    refine VO.c (.move rfl) ?_
    refine VO.nil ?_
    refine ⟨_, [(1, .p y172 c), (3, .raw ww3), (11, .v y22 c.2), (12, I ((c.2.length : Nat) : Int)), (13, I (((j + 1) : Nat) : Int))], ?_, ⟨rfl, rfl, rfl, rfl, rfl, trivial⟩, (j + 1), rfl, rfl, (by rw [← set_fill (by omega) devE_len (devE_get (by omega) (by omega)).symm] <;> rfl), (by omega)⟩
    omega
  · refine VC.exit ?_
    show VC _ _ _ _ _ _ _ _
    refine VC.seq ?_
    refine VC.text ?_
    refine VO.c (.move rfl) ?_
    refine VO.c (.assign rfl) ?_
    refine VO.go ?_
    refine VC.ret ?_
    exact VEnd.one rfl (evC (.row m0)) (pvE (by rw [List.take_of_length_le (by omega), show c.2.length - j = 0 by omega]; simp))
theorem zGrow_ok {n : Nat} (h0 : 0 < n) (h1 : n ≤ 1000000) : VFG Tryz.prog OA 159 [nilV, I ((n : Nat) : Int)] [] (fun r g => ∃ w, r = .raw w ∧ g = [(w, .cap 3 n (.int .i64) [])]) := by
  refine VFG.enter Tryz.func159 rfl (fun _ _ => rfl) rfl ?_
  show VC _ _ _ _ _ [(0, nilV), (1, I ((n : Nat) : Int))] [] _
  refine VC.seq ?_
  refine VC.text ?_
  refine VO.c (.assign rfl) ?_
  refine VO.go ?_
  refine VC.seq ?_
  refine VC.seq ?_
  refine VC.text ?_
  refine VO.c (.move rfl) ?_
  refine VO.c (.lss) ?_
  refine VO.go ?_
  refine VC.condD rfl (fun c1 => ?_) (fun c1 => ?_)
  · exact absurd c1 (by omega)
  · refine VC.skip ?_
    show VC _ _ _ _ _ _ _ _
    refine VC.seq ?_
    refine VC.seq ?_
    refine VC.text ?_
    refine VO.c (.move rfl) ?_
    refine VO.c (.move rfl) ?_
    refine VO.r (.cap0 el22) ?_
    refine VO.c (.move rfl) ?_
    refine VO.r (.len0 el22) ?_
    refine VO.c (.sub rfl rfl (by decide)) ?_
    refine VO.c (.sub rfl rfl (by omega)) ?_
    refine VO.c (.assign rfl) ?_
    refine VO.go ?_
    refine VC.seq ?_
    refine VC.text ?_
    refine VO.c (.move rfl) ?_
    refine VO.c (.gtr) ?_
    refine VO.go ?_
    refine VC.condD rfl (fun c4 => ?_) (fun c4 => ?_)
    · refine VC.text ?_
      refine VO.c (.move rfl) ?_
      refine VO.c (.move rfl) ?_
      refine VO.r (.cap0 el22) ?_
      refine VO.r (.nil0 el22 rfl rfl) ?_
      refine VO.c (.move rfl) ?_
      refine VO.grow (k := n) rfl (congrArg (fun z : Int => some (PV.v (.int .i64) z)) (show (((n : Nat) : Int) - (((0 : Nat) : Int) - ((0 : Nat) : Int))) = ((n : Nat) : Int) by omega)) el22 (by kernel_rfl) (by omega) (by omega) ?_
      intro bb4
      refine VO.c (.move rfl) ?_
      refine VO.r (.len0 el22) ?_
      refine VO.r (.cut0 el22 rfl rfl) ?_
      refine VO.c (.assign rfl) ?_
      refine VO.go ?_
      refine VC.seq ?_
      refine VC.text ?_
      refine VO.c (.move rfl) ?_
      refine VO.c (.assign rfl) ?_
      refine VO.go ?_
      refine VC.ret ?_
      exact VEndG.cap rfl evT m0 ⟨(.slice (some ⟨bb4, 0, none⟩) 0 0), rfl, (by rfl)⟩
    · exact absurd (by omega) c4
end Go.Proofs
namespace Go.Proofs
open Go.Fs
set_option linter.unusedVariables false
abbrev y185 : Ty := (.sl (.sl (.int .i64)))
theorem el185 : ElT Tryz.prog 185 22 y22 := elT_of (by kernel_rfl)
theorem sMapNL_ok {F : List Int × List Int → List Int} {l : List ((List Int) × (List Int))} {f : PV} (hl : l.length < 100000) (hf : ∀ x ∈ l, VCall Tryz.prog OA f [.v y172 x] (.v y22 (F x))) : VF Tryz.prog OA 104 [.v y45 l, f] (.v y185 (l.map F)) := by
  refine VF.enter Tryz.func104 rfl (fun _ _ => rfl) rfl ?_
  show VC _ _ _ _ _ [(0, .v y45 l), (1, f)] [] _
  refine VC.seq ?_
  refine VC.text ?_
  refine VO.c (.assign rfl) ?_
  refine VO.go ?_
  refine VC.seq ?_
  refine VC.text ?_
  refine VO.c (.assign rfl) ?_
  refine VO.go ?_
  refine VC.seq ?_
  refine VC.seq ?_
  refine VC.text ?_
  refine VO.c (.move rfl) ?_
  refine VO.r (.len el45) ?_
  refine VO.c (.move rfl) ?_
  refine VO.go ?_
  refine VC.block ?_
  refine VC.cell0 22 y22 ?_
  refine VC.keep [(1, f), (5, .raw (.slice none 0 0)), (8, .v y45 l), (9, I ((l.length : Nat) : Int)), (10, I ((0 : Nat) : Int))] ⟨rfl, rfl, rfl, rfl, rfl, trivial⟩ ?_
  refine VC.loop (I := fun kk ff ss => ∃ (j : Nat) (out : Value), kk = l.length - j ∧ ff = [(1, f), (5, .raw out), (8, .v y45 l), (9, I ((l.length : Nat) : Int)), (10, I ((j : Nat) : Int))] ∧ ss = [(out, .row 22 y22 ((l.take j).map F))] ∧ (j ≤ l.length)) ?_ _ _ _ ⟨0, (.slice none 0 0), rfl, rfl, rfl, Nat.zero_le _⟩
  rintro kk ff ss ⟨j, out, hk0, rfl, rfl, hj⟩
  refine VC.seq ?_
  refine VC.text ?_
  refine VO.c (.lss) ?_
  refine VO.go ?_
  refine VC.seq ?_
  refine VC.condD rfl (fun c3 => ?_) (fun c3 => ?_)
  · refine VC.skip ?_
    show VC _ _ _ _ _ _ _ _
    refine VC.seq ?_
    refine VC.block ?_
    refine VC.seq ?_
    refine VC.text ?_
    refine VO.c (.ix (j := j) rfl rfl el45 (by omega)) ?_
    refine VO.r (.ld vt172) ?_
    refine VO.cell (.alloc zt172) ?_
    intro ww1
    refine VO.setV (cs' := [.v y22 ((l[j]).1), .v y22 ((l[j]).2)]) vt172 .v ?_
    refine VO.shut [(7, .p y172 (l[j]))] (.cons rfl (.var m0 .refl) .nil) ?_
    refine VO.go ?_
    refine VC.text ?_
    refine VO.c (.move rfl) ?_
    refine VO.c (.move rfl) ?_
    refine VO.r (.ld vt172) ?_
    refine VO.call rfl rfl ((hf _ (List.getElem_mem _)) ) ?_
    refine VO.new (.lit [F (l[j])] el185) ?_
    refine VO.app rfl rfl el185 el185 (by simp; omega) ?_
    intro ww2
    refine VO.c (.assign rfl) ?_
    refine VO.nil ?_
    show VC _ _ _ _ _ _ _ _
    refine VC.text ?_
    refine VO.c (.add rfl rfl (by omega)) ?_
    refine VO.c (.move rfl) ?_
    refine VO.nil ?_
    refine ⟨_, [(1, f), (5, .raw ww2), (8, .v y45 l), (9, I ((l.length : Nat) : Int)), (10, I (((j + 1) : Nat) : Int))], ?_, ⟨rfl, rfl, rfl, rfl, rfl, trivial⟩, (j + 1), ww2, rfl, rfl, (by rw [List.take_succ_eq_append_getElem (by omega), List.map_append] <;> rfl), (by omega)⟩
    omega
  · refine VC.exit ?_
    show VC _ _ _ _ _ _ _ _
    refine VC.seq ?_
    refine VC.text ?_
    refine VO.c (.move rfl) ?_
    refine VO.c (.assign rfl) ?_
    refine VO.go ?_
    refine VC.ret ?_
    exact VEnd.one rfl (evC (.row m0)) (pvE (by rw [List.take_of_length_le (by omega)]))
theorem flat_le {α : Type} {l : List (List α)} (j : Nat) : (l.take j).flatten.length ≤ l.flatten.length := by
  have : l.flatten = (l.take j).flatten ++ (l.drop j).flatten := by rw [← List.flatten_append, List.take_append_drop]
  rw [this, List.length_append]; omega
theorem flat_succ {α : Type} {l : List (List α)} {j : Nat} (hj : j < l.length) : (l.take (j + 1)).flatten = (l.take j).flatten ++ l[j] := by
  rw [List.take_succ_eq_append_getElem hj, List.flatten_append]; simp
theorem zConcat_ok {l : List (List Int)} (hl : l.length < 100000) (h0 : 0 < l.flatten.length) (h1 : l.flatten.length ≤ 1000000) : VF Tryz.prog OA 103 [.v y185 l] (.v y22 l.flatten) := by
  refine VF.enter Tryz.func103 rfl (fun _ _ => rfl) rfl ?_
  show VC _ _ _ _ _ [(0, .v y185 l)] [] _
  refine VC.seq ?_
  refine VC.text ?_
  refine VO.c (.assign rfl) ?_
  refine VO.go ?_
  refine VC.seq ?_
  refine VC.text ?_
  refine VO.c (.assign rfl) ?_
  refine VO.go ?_
  refine VC.seq ?_
  refine VC.seq ?_
  refine VC.text ?_
  refine VO.c (.move rfl) ?_
  refine VO.r (.len el185) ?_
  refine VO.c (.move rfl) ?_
  refine VO.go ?_
  refine VC.block ?_
  refine VC.keep [(0, .v y185 l), (3, I (((l.take 0).flatten.length : Nat) : Int)), (9, .v y185 l), (10, I ((l.length : Nat) : Int)), (11, I ((0 : Nat) : Int))] ⟨rfl, slI rfl (by rfl), rfl, rfl, rfl, trivial⟩ ?_
  refine VC.loop (I := fun kk ff ss => ∃ (j : Nat), kk = l.length - j ∧ ff = [(0, .v y185 l), (3, I (((l.take j).flatten.length : Nat) : Int)), (9, .v y185 l), (10, I ((l.length : Nat) : Int)), (11, I ((j : Nat) : Int))] ∧ ss = [] ∧ (j ≤ l.length)) ?_ _ _ _ ⟨0, rfl, rfl, rfl, Nat.zero_le _⟩
  rintro kk ff ss ⟨j, hk0, rfl, rfl, hj⟩
  refine VC.seq ?_
  refine VC.text ?_
  refine VO.c (.lss) ?_
  refine VO.go ?_
  refine VC.seq ?_
  refine VC.condD rfl (fun c3 => ?_) (fun c3 => ?_)
  · refine VC.skip ?_
    show VC _ _ _ _ _ _ _ _
    refine VC.seq ?_
    refine VC.block ?_
    refine VC.seq ?_
    refine VC.text ?_
    refine VO.c (.ix (j := j) rfl rfl el185 (by omega)) ?_
    refine VO.r (.ld vt22) ?_
    refine VO.c (.assign rfl) ?_
    refine VO.go ?_
    refine VC.seq ?_
    refine VC.text ?_
    have hs := flat_le (l := l) (j + 1)
    rw [flat_succ (by omega), List.length_append] at hs
    refine VO.c (.move rfl) ?_
    refine VO.c (.move rfl) ?_
    refine VO.r (.len el22) ?_
    refine VO.c (.add rfl rfl (by omega)) ?_
    refine VO.c (.assign rfl) ?_
    refine VO.go ?_
    refine VC.seq ?_
    refine VC.text ?_
    refine VO.c (.move rfl) ?_
    refine VO.c (.lss) ?_
    refine VO.go ?_
    refine VC.condD rfl (fun c6 => ?_) (fun c6 => ?_)
    · exact absurd c6 (by omega)
    · refine VC.skip ?_
      show VC _ _ _ _ _ _ _ _
      refine VC.text ?_
      refine VO.c (.add rfl rfl (by omega)) ?_
      refine VO.c (.move rfl) ?_
      refine VO.nil ?_
      refine ⟨_, [(0, .v y185 l), (3, I (((l.take (j + 1)).flatten.length : Nat) : Int)), (9, .v y185 l), (10, I ((l.length : Nat) : Int)), (11, I (((j + 1) : Nat) : Int))], ?_, ⟨rfl, slI rfl (by rw [flat_succ (by omega), List.length_append] <;> rfl), rfl, rfl, rfl, trivial⟩, (j + 1), rfl, rfl, rfl, (by omega)⟩
      omega
  · refine VC.exit ?_
    show VC _ _ _ _ _ _ _ _
    refine VC.seq ?_
    refine VC.text ?_
    have hjl : l.take j = l := List.take_of_length_le (by omega)
    refine VO.c (.move rfl) ?_
    refine VO.callG [] rfl rfl rfl (VFG.call (zGrow_ok (by rw [hjl]; exact h0) (by rw [hjl]; exact h1))) ?_
    rintro _ _ ⟨ww3, rfl, rfl⟩
    show VO _ _ _ _ _ _ [(ww3, .cap 3 ((l.take j).flatten.length) (.int .i64) [])] _
    refine VO.c (.assign rfl) ?_
    refine VO.go ?_
    refine VC.seq ?_
    refine VC.seq ?_
    refine VC.text ?_
    refine VO.c (.move rfl) ?_
    refine VO.r (.len el185) ?_
    refine VO.c (.move rfl) ?_
    refine VO.go ?_
    refine VC.block ?_
    refine VC.keep [(6, .raw ww3), (25, .v y185 l), (26, I ((l.length : Nat) : Int)), (27, I ((0 : Nat) : Int))] ⟨rfl, rfl, rfl, rfl, trivial⟩ ?_
    refine VC.loop (I := fun kk ff ss => ∃ (i : Nat) (out : Value), kk = l.length - i ∧ ff = [(6, .raw out), (25, .v y185 l), (26, I ((l.length : Nat) : Int)), (27, I ((i : Nat) : Int))] ∧ ss = [(out, .cap 3 ((l.take j).flatten.length) (.int .i64) ((l.take i).flatten))] ∧ (i ≤ l.length)) ?_ _ _ _ ⟨0, ww3, rfl, rfl, rfl, Nat.zero_le _⟩
    rintro kk ff ss ⟨i, out, hk2, rfl, rfl, hi⟩
    refine VC.seq ?_
    refine VC.text ?_
    refine VO.c (.lss) ?_
    refine VO.go ?_
    refine VC.seq ?_
    refine VC.condD rfl (fun c11 => ?_) (fun c11 => ?_)
    · refine VC.skip ?_
      show VC _ _ _ _ _ _ _ _
      refine VC.seq ?_
      refine VC.block ?_
      refine VC.seq ?_
      refine VC.text ?_
      refine VO.c (.ix (j := i) rfl rfl el185 (by omega)) ?_
      refine VO.r (.ld vt22) ?_
      refine VO.c (.assign rfl) ?_
      refine VO.go ?_
      refine VC.text ?_
      have hs := flat_le (l := l) (i + 1)
      rw [flat_succ (by omega), List.length_append] at hs
      refine VO.c (.move rfl) ?_
      refine VO.c (.move rfl) ?_
      refine VO.appC rfl rfl el22 el22 (by rw [hjl]; exact hs) (by rw [hjl]; exact h1) ?_
      intro ww4
      refine VO.c (.assign rfl) ?_
      refine VO.nil ?_
      show VC _ _ _ _ _ _ _ _
      refine VC.text ?_
      refine VO.c (.add rfl rfl (by omega)) ?_
      refine VO.c (.move rfl) ?_
      refine VO.nil ?_
      refine ⟨_, [(6, .raw ww4), (25, .v y185 l), (26, I ((l.length : Nat) : Int)), (27, I (((i + 1) : Nat) : Int))], ?_, ⟨rfl, rfl, rfl, rfl, trivial⟩, (i + 1), ww4, rfl, rfl, (by rw [flat_succ (by omega)] <;> rfl), (by omega)⟩
      omega
    · refine VC.exit ?_
      show VC _ _ _ _ _ _ _ _
      refine VC.seq ?_
      refine VC.text ?_
      refine VO.c (.move rfl) ?_
      refine VO.c (.assign rfl) ?_
      refine VO.go ?_
      refine VC.ret ?_
      exact VEnd.one rfl (evC (.cap m0)) (pvE (by rw [List.take_of_length_le (by omega)]))
def learnE (l : List (List Int × List Int)) : Int × Int := hullE (l.map devE).flatten
theorem flat_bound {α : Type} {m : Nat} : ∀ {L : List (List α)}, (∀ x ∈ L, x.length ≤ m) → L.flatten.length ≤ L.length * m
  | [], _ => by simp
  | x :: L, h => by
    have h1 := h x List.mem_cons_self
    have h2 := flat_bound (L := L) fun y hy => h y (List.mem_cons_of_mem _ hy)
    rw [List.flatten_cons, List.length_append, List.length_cons, Nat.add_mul]
    omega
theorem learn_top {l : List (List Int × List Int)} (h : OkNs l) : (l.map devE).flatten.length ≤ 6144 := by
  have h1 : (l.map devE).flatten.length ≤ (l.map devE).length * 96 := flat_bound fun x hx => by
    obtain ⟨c, hc, rfl⟩ := List.mem_map.1 hx
    have := (h.all c hc).top
    have := (h.all c hc).len
    rw [devE_len]; omega
  have := h.top
  rw [List.length_map] at h1
  have := Nat.mul_le_mul_right 96 h.top
  omega
theorem learn_pos {l : List (List Int × List Int)} (h : OkNs l) : 0 < (l.map devE).flatten.length := by
  have hp := h.pos
  cases l with
  | nil => simp at hp
  | cons c l =>
    have hc := h.all c List.mem_cons_self
    have := hc.pos
    have := hc.len
    rw [List.map_cons, List.flatten_cons, List.length_append, devE_len]
    omega
def learnR (l : List (List Int × List Int)) : Int × Int := if nightsE l = 0 then learnE l else (0, 0)
theorem sLearn_ok {l : List ((List Int) × (List Int))} (hl : ∀ c ∈ l, c.1.length < 100000 ∧ c.2.length < 100000) : VF Tryz.prog OA 27 [.v y45 l] (.tup [.v y41 (learnR l), I (nightsE l)]) := by
  refine VF.enter Tryz.func27 rfl (fun _ _ => rfl) rfl ?_
  show VC _ _ _ _ _ [(0, .v y45 l)] [] _
  refine VC.seq ?_
  refine VC.text ?_
  refine VO.cell (.alloc zt41) ?_
  intro ww5
  refine VO.c (.assign rfl) ?_
  refine VO.go ?_
  refine VC.seq ?_
  refine VC.seq ?_
  refine VC.text ?_
  refine VO.c (.move rfl) ?_
  refine VO.call rfl rfl (VF.call (sNights_ok (by first | assumption | omega))) ?_
  refine VO.c (.assign rfl) ?_
  refine VO.go ?_
  refine VC.seq ?_
  refine VC.text ?_
  refine VO.c (.move rfl) ?_
  refine VO.c (.neq) ?_
  refine VO.go ?_
  refine VC.condD rfl (fun c2 => ?_) (fun c2 => ?_)
  · refine VC.seq ?_
    refine VC.text ?_
    refine VO.c (.build (0, 0) bt41) ?_
    refine VO.c (.move rfl) ?_
    refine VO.setV (cs' := [I 0, I 0]) vt41 .v ?_
    refine VO.c (.assign rfl) ?_
    refine VO.go ?_
    refine VC.ret ?_
    exact VEnd.two rfl (.cell (x := (0, 0)) rfl m0 vt41 .refl) evT (pvE (by unfold learnR; exact (if_neg c2).symm)) (pvI (by rfl))
  · have hB : nightsE l = 0 := Decidable.not_not.1 c2
    have hN := nightsE_ok hB
    have ht := hN.top
    have hlt := learn_top hN
    have hlp := learn_pos hN
    refine VC.skip ?_
    show VC _ _ _ _ _ _ _ _
    refine VC.seq ?_
    refine VC.text ?_
    refine VO.c (.move rfl) ?_
    refine VO.call rfl rfl (VF.call (sMapNL_ok (F := devE) (by omega) (fun _ m => VF.call (sDev_ok (hN.all _ m))))) ?_
    refine VO.call rfl rfl (VF.call (zConcat_ok (by simp; omega) hlp (by omega))) ?_
    refine VO.call rfl rfl (VF.call (sHull_ok hlp (by omega))) ?_
    refine VO.setV (cs' := [I ((hullE ((l.map devE).flatten)).1), I ((hullE ((l.map devE).flatten)).2)]) vt41 .v ?_
    refine VO.c (.assign rfl) ?_
    refine VO.go ?_
    refine VC.ret ?_
    exact VEnd.two rfl (.cell (x := hullE ((l.map devE).flatten)) rfl m0 vt41 .refl) evT (pvE (by unfold learnR; rw [if_pos hB] <;> rfl)) (pvI (by exact hB.symm))
def outE (b : Int × Int) (c : List Int × List Int) : Bool := (devE c).any fun x => decide (x < b.1) || decide (b.2 < x)
def verE (l : List (List Int × List Int)) (b : Int × Int) (n : Nat) : List Int := ((List.range n).filter fun i => outE b (l.getD i ([], []))).map fun i : Nat => (i : Int)
theorem verE_succ {l : List (List Int × List Int)} {b : Int × Int} {j : Nat} (hj : j < l.length) : verE l b (j + 1) = if outE b l[j] = true then verE l b j ++ [(j : Int)] else verE l b j := by
  unfold verE
  rw [List.range_succ, List.filter_append, List.map_append, List.filter_cons, List.filter_nil, List.getD_eq_getElem?_getD, List.getElem?_eq_getElem hj, Option.getD_some]
  split <;> simp
theorem minE_lt {L : List Int} {a : Int} (h : 0 < L.length) : minE L < a ↔ ∃ x ∈ L, x < a := by
  have key : ∀ (l : List Int) (b : Int), l.foldl min b < a ↔ b < a ∨ ∃ x ∈ l, x < a := by
    intro l
    induction l with
    | nil => simp
    | cons x l ih =>
      intro b
      rw [List.foldl_cons, ih, show (∃ y ∈ x :: l, y < a) ↔ x < a ∨ ∃ y ∈ l, y < a from by simp, ← or_assoc]
      exact or_congr (by omega) Iff.rfl
  cases L with
  | nil => simp at h
  | cons x L =>
    unfold minE
    rw [key]
    simp
theorem maxE_gt {L : List Int} {a : Int} (h : 0 < L.length) : a < maxE L ↔ ∃ x ∈ L, a < x := by
  have key : ∀ (l : List Int) (b : Int), a < l.foldl max b ↔ a < b ∨ ∃ x ∈ l, a < x := by
    intro l
    induction l with
    | nil => simp
    | cons x l ih =>
      intro b
      rw [List.foldl_cons, ih, show (∃ y ∈ x :: l, a < y) ↔ a < x ∨ ∃ y ∈ l, a < y from by simp, ← or_assoc]
      exact or_congr (by omega) Iff.rfl
  cases L with
  | nil => simp at h
  | cons x L =>
    unfold maxE
    rw [key]
    simp
theorem outE_hull {b : Int × Int} {c : List Int × List Int} (h : OkN c) : (outE b c = true) ↔ ((hullE (devE c)).1 < b.1 ∨ b.2 < (hullE (devE c)).2) := by
  have hp : 0 < (devE c).length := by rw [devE_len]; have := h.pos; have := h.len; omega
  rw [show (hullE (devE c)).1 = minE (devE c) from rfl, show (hullE (devE c)).2 = maxE (devE c) from rfl, minE_lt hp, maxE_gt hp, outE, List.any_eq_true]
  constructor
  · rintro ⟨x, hx, h1⟩
    rcases Bool.or_eq_true_iff.1 h1 with h1 | h1
    · exact .inl ⟨x, hx, of_decide_eq_true h1⟩
    · exact .inr ⟨x, hx, of_decide_eq_true h1⟩
  · rintro (⟨x, hx, h1⟩ | ⟨x, hx, h1⟩)
    · exact ⟨x, hx, by simp [h1]⟩
    · exact ⟨x, hx, by simp [h1]⟩
def verB (l : List (List Int × List Int)) (b : Int × Int) : Int := firstE [nightsE l, boundsE b]
theorem verB_ok {l : List (List Int × List Int)} {b : Int × Int} (h : verB l b = 0) : OkNs l ∧ OkB b := by
  rw [verB, firstE_zero] at h
  exact ⟨nightsE_ok (h _ (by simp)), boundsE_ok (h _ (by simp))⟩
theorem verE_len (l : List (List Int × List Int)) (b : Int × Int) (n : Nat) : (verE l b n).length ≤ n := by
  unfold verE
  rw [List.length_map]
  have := List.length_filter_le (fun i => outE b (l.getD i ([], []))) (List.range n)
  simpa using this
def verR (l : List (List Int × List Int)) (b : Int × Int) : List Int := if verB l b = 0 then verE l b l.length else []
theorem sVerify_ok {l : List ((List Int) × (List Int))} {b : Int × Int} (hl : ∀ c ∈ l, c.1.length < 100000 ∧ c.2.length < 100000) : VF Tryz.prog OA 29 [.v y45 l, .v y41 b] (.tup [.v y22 (verR l b), I (verB l b)]) := by
  refine VF.enter Tryz.func29 rfl (fun _ _ => rfl) rfl ?_
  show VC _ _ _ _ _ [(0, .v y45 l), (1, .v y41 b)] [] _
  refine VC.seq ?_
  refine VC.text ?_
  refine VO.new (.box) ?_
  refine VO.c (.assign rfl) ?_
  refine VO.c (.assign rfl) ?_
  refine VO.go ?_
  refine VC.seq ?_
  refine VC.seq ?_
  refine VC.drawn ?_
  refine VD.c (.move rfl) ?_
  refine VD.call rfl rfl (VF.call (sNights_ok (by first | assumption | omega))) ?_
  refine VD.r [] (.ld vt41) (.inl rfl) ?_
  refine VD.call rfl rfl (VF.call (sBounds_ok )) ?_
  refine VD.new (.lit [nightsE l, boundsE b] el179) ?_
  refine VD.callO rfl rfl (VF.call (sFirst_ok (by simp))) ?_
  refine VD.nw [15] ?_
  refine VD.c (.assign rfl) ?_
  refine VD.go ?_
  refine VC.seq ?_
  refine VC.text ?_
  refine VO.c (.move rfl) ?_
  refine VO.c (.neq) ?_
  refine VO.go ?_
  refine VC.condD rfl (fun c2 => ?_) (fun c2 => ?_)
  · refine VC.seq ?_
    refine VC.text ?_
    refine VO.c (.move rfl) ?_
    refine VO.c (.assign rfl) ?_
    refine VO.c (.assign rfl) ?_
    refine VO.go ?_
    refine VC.ret ?_
    exact VEnd.two rfl (evC .nil) evT (pvE (by unfold verR; exact (if_neg c2).symm)) (pvI (by rfl))
  · have hB : verB l b = 0 := Decidable.not_not.1 c2
    have hN := (verB_ok hB).1
    have ht := hN.top
    refine VC.skip ?_
    show VC _ _ _ _ _ _ _ _
    refine VC.seq ?_
    refine VC.text ?_
    refine VO.c (.assign rfl) ?_
    refine VO.go ?_
    refine VC.seq ?_
    refine VC.seq ?_
    refine VC.text ?_
    refine VO.c (.move rfl) ?_
    refine VO.r (.len el45) ?_
    refine VO.c (.move rfl) ?_
    refine VO.go ?_
    refine VC.block ?_
    refine VC.cell0 3 (.int .i64) ?_
    refine VC.keep [(3, .p y41 b), (7, .raw (.slice none 0 0)), (20, .v y45 l), (21, I ((l.length : Nat) : Int)), (22, I ((0 : Nat) : Int))] ⟨rfl, rfl, rfl, rfl, rfl, trivial⟩ ?_
    refine VC.loop (I := fun kk ff ss => ∃ (j : Nat) (out : Value), kk = l.length - j ∧ ff = [(3, .p y41 b), (7, .raw out), (20, .v y45 l), (21, I ((l.length : Nat) : Int)), (22, I ((j : Nat) : Int))] ∧ ss = [(out, .row 3 (.int .i64) (verE l b j))] ∧ (j ≤ l.length)) ?_ _ _ _ ⟨0, (.slice none 0 0), rfl, rfl, rfl, Nat.zero_le _⟩
    rintro kk ff ss ⟨j, out, hk0, rfl, rfl, hj⟩
    refine VC.seq ?_
    refine VC.text ?_
    refine VO.c (.lss) ?_
    refine VO.go ?_
    refine VC.seq ?_
    refine VC.condD rfl (fun c6 => ?_) (fun c6 => ?_)
    · refine VC.skip ?_
      show VC _ _ _ _ _ _ _ _
      refine VC.seq ?_
      refine VC.block ?_
      refine VC.seq ?_
      refine VC.text ?_
      refine VO.c (.move rfl) ?_
      refine VO.c (.ix (j := j) rfl rfl el45 (by omega)) ?_
      refine VO.r (.ld vt172) ?_
      refine VO.cell (.alloc zt172) ?_
      intro ww6
      refine VO.c (.assign rfl) ?_
      refine VO.setV (cs' := [.v y22 ((l[j]).1), .v y22 ((l[j]).2)]) vt172 .v ?_
      refine VO.shut [(9, .p y172 (l[j]))] (.cons rfl (.var m0 .refl) .nil) ?_
      refine VO.go ?_
      refine VC.seq ?_
      refine VC.text ?_
      have hO := hN.all _ (List.getElem_mem (show j < l.length by omega))
      have ho1 := hO.pos
      have ho2 := hO.len
      have ho3 := hO.top
      have hv := verE_len l b j
      refine VO.r (.ld vt172) ?_
      refine VO.call rfl rfl (VF.call (sDev_ok hO)) ?_
      refine VO.call rfl rfl (VF.call (sHull_ok (by rw [devE_len]; omega) (by rw [devE_len]; omega))) ?_
      refine VO.cell (.alloc zt41) ?_
      intro ww7
      refine VO.setV (cs' := [I ((hullE (devE (l[j]))).1), I ((hullE (devE (l[j]))).2)]) vt41 .v ?_
      refine VO.shut [(10, .p y41 (hullE (devE (l[j]))))] (.cons rfl (.var m0 .refl) .nil) ?_
      refine VO.go ?_
      refine VC.seq ?_
      refine VC.text ?_
      refine VO.c (.fa (.l .o)) ?_
      refine VO.r (.ld vt3) ?_
      refine VO.c (.fa (.l .o)) ?_
      refine VO.r (.ld vt3) ?_
      refine VO.c (.lss) ?_
      refine VO.c (.move rfl) ?_
      refine VO.cg (r := decide ((hullE (devE (l[j]))).1 < b.1)) (w := false) [] trivial (fun hgd => have g9_5 : ¬ ((hullE (devE (l[j]))).1 < b.1) := (by simpa using hgd); (.fa (.r .o))) ?_
      refine VO.rg (r := decide ((hullE (devE (l[j]))).1 < b.1)) (w := false) [(36, .p (.int .i64) ((hullE (devE (l[j]))).2))] ⟨rfl, trivial⟩ (fun hgd => have g9_5 : ¬ ((hullE (devE (l[j]))).1 < b.1) := (by simpa using hgd); (.ld vt3)) ?_
      refine VO.cg (r := decide ((hullE (devE (l[j]))).1 < b.1)) (w := false) [] trivial (fun hgd => have g9_5 : ¬ ((hullE (devE (l[j]))).1 < b.1) := (by simpa using hgd); (.fa (.r .o))) ?_
      refine VO.rg (r := decide ((hullE (devE (l[j]))).1 < b.1)) (w := false) [(38, .p (.int .i64) b.2)] ⟨rfl, trivial⟩ (fun hgd => have g9_5 : ¬ ((hullE (devE (l[j]))).1 < b.1) := (by simpa using hgd); (.ld vt3)) ?_
      refine VO.cg (r := decide ((hullE (devE (l[j]))).1 < b.1)) (w := false) [(37, I ((hullE (devE (l[j]))).2)), (39, I b.2)] ⟨rfl, rfl, trivial⟩ (fun hgd => have g9_5 : ¬ ((hullE (devE (l[j]))).1 < b.1) := (by simpa using hgd); (.gtr)) ?_
      refine VO.c (.or) ?_
      refine VO.go ?_
      refine VC.condB rfl (fun c9 => ?_) (fun c9 => ?_)
      · try simp only [Bool.and_eq_true, Bool.or_eq_true, Bool.and_eq_false_iff, Bool.or_eq_false_iff, Bool.not_eq_true', Bool.not_eq_false', decide_eq_true_eq, decide_eq_false_iff_not] at c9
        refine VC.text ?_
        refine VO.c (.move rfl) ?_
        refine VO.c (.move rfl) ?_
        refine VO.new (.lit [((j : Nat) : Int)] el22) ?_
        refine VO.app rfl rfl el22 el22 (by simp; omega) ?_
        intro ww8
        refine VO.c (.assign rfl) ?_
        refine VO.nil ?_
        show VC _ _ _ _ _ _ _ _
        refine VC.text ?_
        refine VO.c (.add rfl rfl (by omega)) ?_
        refine VO.c (.move rfl) ?_
        refine VO.nil ?_
        refine ⟨_, [(3, .p y41 b), (7, .raw ww8), (20, .v y45 l), (21, I ((l.length : Nat) : Int)), (22, I (((j + 1) : Nat) : Int))], ?_, ⟨rfl, rfl, rfl, rfl, rfl, trivial⟩, (j + 1), ww8, rfl, rfl, (by rw [verE_succ (by omega)]; first | (rw [if_pos ((outE_hull hO).2 (by omega))] <;> rfl) | (rw [if_neg (fun h => by have := (outE_hull hO).1 h; omega)] <;> rfl)), (by omega)⟩
        omega
      · try simp only [Bool.and_eq_true, Bool.or_eq_true, Bool.and_eq_false_iff, Bool.or_eq_false_iff, Bool.not_eq_true', Bool.not_eq_false', decide_eq_true_eq, decide_eq_false_iff_not] at c9
        refine VC.skip ?_
        show VC _ _ _ _ _ _ _ _
        refine VC.text ?_
        refine VO.c (.add rfl rfl (by omega)) ?_
        refine VO.c (.move rfl) ?_
        refine VO.nil ?_
        refine ⟨_, [(3, .p y41 b), (7, .raw out), (20, .v y45 l), (21, I ((l.length : Nat) : Int)), (22, I (((j + 1) : Nat) : Int))], ?_, ⟨rfl, rfl, rfl, rfl, rfl, trivial⟩, (j + 1), out, rfl, rfl, (by rw [verE_succ (by omega)]; first | (rw [if_pos ((outE_hull hO).2 (by omega))] <;> rfl) | (rw [if_neg (fun h => by have := (outE_hull hO).1 h; omega)] <;> rfl)), (by omega)⟩
        omega
    · refine VC.exit ?_
      show VC _ _ _ _ _ _ _ _
      refine VC.seq ?_
      refine VC.text ?_
      refine VO.c (.move rfl) ?_
      refine VO.c (.assign rfl) ?_
      refine VO.c (.assign rfl) ?_
      refine VO.go ?_
      refine VC.ret ?_
      exact VEnd.two rfl (evC (.row m0)) evT (pvE (by unfold verR; rw [if_pos hB, show j = l.length by omega])) (pvI (by exact hB.symm))
end Go.Proofs
namespace Go.Proofs
open Go.Fs
set_option linter.unusedVariables false
abbrev y88 : Ty := (.pair (.sl (.int .i64)) (.sl (.int .i64)))
theorem vt88 : ValT Tryz.prog 88 y88 := valT_of (by kernel_rfl)
theorem zt88 : ZerT Tryz.prog 88 y88 := zerT_of (z := .agg #[.slice none 0 0, .slice none 0 0]) (by kernel_rfl) rfl rfl
theorem bt172 : BldT Tryz.prog 172 y172 [(0, 1), (1, 1)] := bldT_of zt172 rfl (by kernel_rfl)
theorem any_succ {L : List Int} {p : Int → Bool} {t : Nat} (ht : t < L.length) : (L.take (t + 1)).any p = ((L.take t).any p || p L[t]) := by
  rw [List.take_succ_eq_append_getElem ht, List.any_append]
  simp
def shortNE (l : List (List Int × List Int)) : Bool := decide ((l.length ≤ 6 ∨ l.length = 65) ∧ ∀ c ∈ l, (c.1.length ≤ 12 ∨ c.1.length = 97) ∧ c.2.length ≤ 13)
theorem rShortN_ok {l : List ((List Int) × (List Int))} : VF Tryz.prog OA 26 [.v y39 l] (B (shortNE l)) := by
  refine VF.enter Tryz.func26 rfl (fun _ _ => rfl) rfl ?_
  show VC _ _ _ _ _ [(0, .v y39 l)] [] _
  refine VC.seq ?_
  refine VC.text ?_
  refine VO.c (.assign rfl) ?_
  refine VO.go ?_
  refine VC.seq ?_
  refine VC.seq ?_
  refine VC.text ?_
  refine VO.c (.move rfl) ?_
  refine VO.r (.len el39) ?_
  refine VO.c (.gtr) ?_
  refine VO.c (.move rfl) ?_
  refine VO.splitD (x := 7) rfl (fun g1_3 => ?_) (fun g1_3 => ?_)
  · refine VO.c (.move rfl) ?_
    refine VO.r (.len el39) ?_
    refine VO.c (.neq) ?_
    refine VO.c (.pickT rfl rfl) ?_
    refine VO.go ?_
    refine VC.condD rfl (fun c1 => ?_) (fun c1 => ?_)
    · refine VC.seq ?_
      refine VC.text ?_
      refine VO.c (.assign rfl) ?_
      refine VO.go ?_
      refine VC.ret ?_
      exact VEnd.one rfl evT (pvE (by first | (refine (decide_eq_false fun h => ?_).symm; have h1 := h.1; omega) | (refine (decide_eq_false fun h => ?_).symm; have h1 := h.2 _ (List.getElem_mem (show j < l.length by omega)); omega) | (refine (decide_eq_true ⟨hl0, ?_⟩).symm; rw [List.take_of_length_le (by omega)] at hf; exact hf)))
    · refine VC.skip ?_
      show VC _ _ _ _ _ _ _ _
      refine VC.seq ?_
      refine VC.seq ?_
      refine VC.text ?_
      refine VO.c (.assign rfl) ?_
      refine VO.go ?_
      refine VC.block ?_
      refine VC.keep [(0, .v y39 l), (3, I ((0 : Nat) : Int))] ⟨rfl, rfl, trivial⟩ ?_
      refine VC.loop (I := fun kk ff ss => ∃ (j : Nat), kk = l.length - j ∧ ff = [(0, .v y39 l), (3, I ((j : Nat) : Int))] ∧ ss = [] ∧ (j ≤ l.length) ∧ (l.length ≤ 6 ∨ l.length = 65) ∧ (∀ c ∈ l.take j, (c.1.length ≤ 12 ∨ c.1.length = 97) ∧ c.2.length ≤ 13)) ?_ _ _ _ ⟨0, rfl, rfl, rfl, Nat.zero_le _, (by omega), (by simp)⟩
      rintro kk ff ss ⟨j, hk0, rfl, rfl, hj, hl0, hf⟩
      refine VC.seq ?_
      refine VC.seq ?_
      refine VC.text ?_
      refine VO.c (.move rfl) ?_
      refine VO.c (.move rfl) ?_
      refine VO.r (.len el39) ?_
      refine VO.c (.lss) ?_
      refine VO.go ?_
      refine VC.condD rfl (fun c4 => ?_) (fun c4 => ?_)
      · refine VC.skip ?_
        show VC _ _ _ _ _ _ _ _
        refine VC.seq ?_
        refine VC.block ?_
        refine VC.seq ?_
        refine VC.text ?_
        refine VO.c (.move rfl) ?_
        refine VO.c (.move rfl) ?_
        refine VO.c (.ix (j := j) rfl rfl el39 (by omega)) ?_
        refine VO.c (.fa (.l .o)) ?_
        refine VO.r (.ld vt22) ?_
        refine VO.r (.len el22) ?_
        refine VO.c (.gtr) ?_
        refine VO.c (.move rfl) ?_
        refine VO.splitD (x := 25) rfl (fun g6_7 => ?_) (fun g6_7 => ?_)
        · refine VO.c (.move rfl) ?_
          refine VO.c (.move rfl) ?_
          refine VO.c (.ix (j := j) rfl rfl el39 (by omega)) ?_
          refine VO.c (.fa (.l .o)) ?_
          refine VO.r (.ld vt22) ?_
          refine VO.r (.len el22) ?_
          refine VO.c (.neq) ?_
          refine VO.c (.pickT rfl rfl) ?_
          refine VO.c (.move rfl) ?_
          refine VO.splitD (x := 34) rfl (fun g6_16 => ?_) (fun g6_16 => ?_)
          · refine VO.skip ?_
            refine VO.skip ?_
            refine VO.skip ?_
            refine VO.skip ?_
            refine VO.skip ?_
            refine VO.skip ?_
            refine VO.skip ?_
            refine VO.c (.pickT rfl rfl) ?_
            refine VO.go ?_
            refine VC.condT rfl ?_
            refine VC.seq ?_
            refine VC.text ?_
            refine VO.c (.assign rfl) ?_
            refine VO.go ?_
            refine VC.ret ?_
            exact VEnd.one rfl evT (pvE (by first | (refine (decide_eq_false fun h => ?_).symm; have h1 := h.1; omega) | (refine (decide_eq_false fun h => ?_).symm; have h1 := h.2 _ (List.getElem_mem (show j < l.length by omega)); omega) | (refine (decide_eq_true ⟨hl0, ?_⟩).symm; rw [List.take_of_length_le (by omega)] at hf; exact hf)))
          · refine VO.c (.move rfl) ?_
            refine VO.c (.move rfl) ?_
            refine VO.c (.ix (j := j) rfl rfl el39 (by omega)) ?_
            refine VO.c (.fa (.r .o)) ?_
            refine VO.r (.ld vt22) ?_
            refine VO.r (.len el22) ?_
            refine VO.c (.gtr) ?_
            refine VO.c (.pickF rfl rfl) ?_
            refine VO.go ?_
            refine VC.condD rfl (fun c6 => ?_) (fun c6 => ?_)
            · refine VC.seq ?_
              refine VC.text ?_
              refine VO.c (.assign rfl) ?_
              refine VO.go ?_
              refine VC.ret ?_
              exact VEnd.one rfl evT (pvE (by first | (refine (decide_eq_false fun h => ?_).symm; have h1 := h.1; omega) | (refine (decide_eq_false fun h => ?_).symm; have h1 := h.2 _ (List.getElem_mem (show j < l.length by omega)); omega) | (refine (decide_eq_true ⟨hl0, ?_⟩).symm; rw [List.take_of_length_le (by omega)] at hf; exact hf)))
            · refine VC.skip ?_
              show VC _ _ _ _ _ _ _ _
              refine VC.text ?_
              refine VO.c (.move rfl) ?_
              refine VO.c (.add rfl rfl (by omega)) ?_
              refine VO.c (.assign rfl) ?_
              refine VO.nil ?_
              refine ⟨_, [(0, .v y39 l), (3, I (((j + 1) : Nat) : Int))], ?_, ⟨rfl, rfl, trivial⟩, (j + 1), rfl, rfl, rfl, (by omega), (by exact hl0), (by exact all_take (by omega) hf (by omega))⟩
              omega
        · refine VO.skip ?_
          refine VO.skip ?_
          refine VO.skip ?_
          refine VO.skip ?_
          refine VO.skip ?_
          refine VO.skip ?_
          refine VO.skip ?_
          refine VO.c (.pickF rfl rfl) ?_
          refine VO.c (.move rfl) ?_
          refine VO.c (.move rfl) ?_
          refine VO.c (.move rfl) ?_
          refine VO.c (.ix (j := j) rfl rfl el39 (by omega)) ?_
          refine VO.c (.fa (.r .o)) ?_
          refine VO.r (.ld vt22) ?_
          refine VO.r (.len el22) ?_
          refine VO.c (.gtr) ?_
          refine VO.c (.pickF rfl rfl) ?_
          refine VO.go ?_
          refine VC.condD rfl (fun c6 => ?_) (fun c6 => ?_)
          · refine VC.seq ?_
            refine VC.text ?_
            refine VO.c (.assign rfl) ?_
            refine VO.go ?_
            refine VC.ret ?_
            exact VEnd.one rfl evT (pvE (by first | (refine (decide_eq_false fun h => ?_).symm; have h1 := h.1; omega) | (refine (decide_eq_false fun h => ?_).symm; have h1 := h.2 _ (List.getElem_mem (show j < l.length by omega)); omega) | (refine (decide_eq_true ⟨hl0, ?_⟩).symm; rw [List.take_of_length_le (by omega)] at hf; exact hf)))
          · refine VC.skip ?_
            show VC _ _ _ _ _ _ _ _
            refine VC.text ?_
            refine VO.c (.move rfl) ?_
            refine VO.c (.add rfl rfl (by omega)) ?_
            refine VO.c (.assign rfl) ?_
            refine VO.nil ?_
            refine ⟨_, [(0, .v y39 l), (3, I (((j + 1) : Nat) : Int))], ?_, ⟨rfl, rfl, trivial⟩, (j + 1), rfl, rfl, rfl, (by omega), (by exact hl0), (by exact all_take (by omega) hf (by omega))⟩
            omega
      · refine VC.exit ?_
        show VC _ _ _ _ _ _ _ _
        refine VC.seq ?_
        refine VC.text ?_
        refine VO.c (.assign rfl) ?_
        refine VO.go ?_
        refine VC.ret ?_
        exact VEnd.one rfl evT (pvE (by first | (refine (decide_eq_false fun h => ?_).symm; have h1 := h.1; omega) | (refine (decide_eq_false fun h => ?_).symm; have h1 := h.2 _ (List.getElem_mem (show j < l.length by omega)); omega) | (refine (decide_eq_true ⟨hl0, ?_⟩).symm; rw [List.take_of_length_le (by omega)] at hf; exact hf)))
  · refine VO.skip ?_
    refine VO.skip ?_
    refine VO.skip ?_
    refine VO.c (.pickF rfl rfl) ?_
    refine VO.go ?_
    refine VC.condF rfl ?_
    refine VC.skip ?_
    show VC _ _ _ _ _ _ _ _
    refine VC.seq ?_
    refine VC.seq ?_
    refine VC.text ?_
    refine VO.c (.assign rfl) ?_
    refine VO.go ?_
    refine VC.block ?_
    refine VC.keep [(0, .v y39 l), (3, I ((0 : Nat) : Int))] ⟨rfl, rfl, trivial⟩ ?_
    refine VC.loop (I := fun kk ff ss => ∃ (j : Nat), kk = l.length - j ∧ ff = [(0, .v y39 l), (3, I ((j : Nat) : Int))] ∧ ss = [] ∧ (j ≤ l.length) ∧ (l.length ≤ 6 ∨ l.length = 65) ∧ (∀ c ∈ l.take j, (c.1.length ≤ 12 ∨ c.1.length = 97) ∧ c.2.length ≤ 13)) ?_ _ _ _ ⟨0, rfl, rfl, rfl, Nat.zero_le _, (by omega), (by simp)⟩
    rintro kk ff ss ⟨j, hk0, rfl, rfl, hj, hl0, hf⟩
    refine VC.seq ?_
    refine VC.seq ?_
    refine VC.text ?_
    refine VO.c (.move rfl) ?_
    refine VO.c (.move rfl) ?_
    refine VO.r (.len el39) ?_
    refine VO.c (.lss) ?_
    refine VO.go ?_
    refine VC.condD rfl (fun c4 => ?_) (fun c4 => ?_)
    · refine VC.skip ?_
      show VC _ _ _ _ _ _ _ _
      refine VC.seq ?_
      refine VC.block ?_
      refine VC.seq ?_
      refine VC.text ?_
      refine VO.c (.move rfl) ?_
      refine VO.c (.move rfl) ?_
      refine VO.c (.ix (j := j) rfl rfl el39 (by omega)) ?_
      refine VO.c (.fa (.l .o)) ?_
      refine VO.r (.ld vt22) ?_
      refine VO.r (.len el22) ?_
      refine VO.c (.gtr) ?_
      refine VO.c (.move rfl) ?_
      refine VO.splitD (x := 25) rfl (fun g6_7 => ?_) (fun g6_7 => ?_)
      · refine VO.c (.move rfl) ?_
        refine VO.c (.move rfl) ?_
        refine VO.c (.ix (j := j) rfl rfl el39 (by omega)) ?_
        refine VO.c (.fa (.l .o)) ?_
        refine VO.r (.ld vt22) ?_
        refine VO.r (.len el22) ?_
        refine VO.c (.neq) ?_
        refine VO.c (.pickT rfl rfl) ?_
        refine VO.c (.move rfl) ?_
        refine VO.splitD (x := 34) rfl (fun g6_16 => ?_) (fun g6_16 => ?_)
        · refine VO.skip ?_
          refine VO.skip ?_
          refine VO.skip ?_
          refine VO.skip ?_
          refine VO.skip ?_
          refine VO.skip ?_
          refine VO.skip ?_
          refine VO.c (.pickT rfl rfl) ?_
          refine VO.go ?_
          refine VC.condT rfl ?_
          refine VC.seq ?_
          refine VC.text ?_
          refine VO.c (.assign rfl) ?_
          refine VO.go ?_
          refine VC.ret ?_
          exact VEnd.one rfl evT (pvE (by first | (refine (decide_eq_false fun h => ?_).symm; have h1 := h.1; omega) | (refine (decide_eq_false fun h => ?_).symm; have h1 := h.2 _ (List.getElem_mem (show j < l.length by omega)); omega) | (refine (decide_eq_true ⟨hl0, ?_⟩).symm; rw [List.take_of_length_le (by omega)] at hf; exact hf)))
        · refine VO.c (.move rfl) ?_
          refine VO.c (.move rfl) ?_
          refine VO.c (.ix (j := j) rfl rfl el39 (by omega)) ?_
          refine VO.c (.fa (.r .o)) ?_
          refine VO.r (.ld vt22) ?_
          refine VO.r (.len el22) ?_
          refine VO.c (.gtr) ?_
          refine VO.c (.pickF rfl rfl) ?_
          refine VO.go ?_
          refine VC.condD rfl (fun c6 => ?_) (fun c6 => ?_)
          · refine VC.seq ?_
            refine VC.text ?_
            refine VO.c (.assign rfl) ?_
            refine VO.go ?_
            refine VC.ret ?_
            exact VEnd.one rfl evT (pvE (by first | (refine (decide_eq_false fun h => ?_).symm; have h1 := h.1; omega) | (refine (decide_eq_false fun h => ?_).symm; have h1 := h.2 _ (List.getElem_mem (show j < l.length by omega)); omega) | (refine (decide_eq_true ⟨hl0, ?_⟩).symm; rw [List.take_of_length_le (by omega)] at hf; exact hf)))
          · refine VC.skip ?_
            show VC _ _ _ _ _ _ _ _
            refine VC.text ?_
            refine VO.c (.move rfl) ?_
            refine VO.c (.add rfl rfl (by omega)) ?_
            refine VO.c (.assign rfl) ?_
            refine VO.nil ?_
            refine ⟨_, [(0, .v y39 l), (3, I (((j + 1) : Nat) : Int))], ?_, ⟨rfl, rfl, trivial⟩, (j + 1), rfl, rfl, rfl, (by omega), (by exact hl0), (by exact all_take (by omega) hf (by omega))⟩
            omega
      · refine VO.skip ?_
        refine VO.skip ?_
        refine VO.skip ?_
        refine VO.skip ?_
        refine VO.skip ?_
        refine VO.skip ?_
        refine VO.skip ?_
        refine VO.c (.pickF rfl rfl) ?_
        refine VO.c (.move rfl) ?_
        refine VO.c (.move rfl) ?_
        refine VO.c (.move rfl) ?_
        refine VO.c (.ix (j := j) rfl rfl el39 (by omega)) ?_
        refine VO.c (.fa (.r .o)) ?_
        refine VO.r (.ld vt22) ?_
        refine VO.r (.len el22) ?_
        refine VO.c (.gtr) ?_
        refine VO.c (.pickF rfl rfl) ?_
        refine VO.go ?_
        refine VC.condD rfl (fun c6 => ?_) (fun c6 => ?_)
        · refine VC.seq ?_
          refine VC.text ?_
          refine VO.c (.assign rfl) ?_
          refine VO.go ?_
          refine VC.ret ?_
          exact VEnd.one rfl evT (pvE (by first | (refine (decide_eq_false fun h => ?_).symm; have h1 := h.1; omega) | (refine (decide_eq_false fun h => ?_).symm; have h1 := h.2 _ (List.getElem_mem (show j < l.length by omega)); omega) | (refine (decide_eq_true ⟨hl0, ?_⟩).symm; rw [List.take_of_length_le (by omega)] at hf; exact hf)))
        · refine VC.skip ?_
          show VC _ _ _ _ _ _ _ _
          refine VC.text ?_
          refine VO.c (.move rfl) ?_
          refine VO.c (.add rfl rfl (by omega)) ?_
          refine VO.c (.assign rfl) ?_
          refine VO.nil ?_
          refine ⟨_, [(0, .v y39 l), (3, I (((j + 1) : Nat) : Int))], ?_, ⟨rfl, rfl, trivial⟩, (j + 1), rfl, rfl, rfl, (by omega), (by exact hl0), (by exact all_take (by omega) hf (by omega))⟩
          omega
    · refine VC.exit ?_
      show VC _ _ _ _ _ _ _ _
      refine VC.seq ?_
      refine VC.text ?_
      refine VO.c (.assign rfl) ?_
      refine VO.go ?_
      refine VC.ret ?_
      exact VEnd.one rfl evT (pvE (by first | (refine (decide_eq_false fun h => ?_).symm; have h1 := h.1; omega) | (refine (decide_eq_false fun h => ?_).symm; have h1 := h.2 _ (List.getElem_mem (show j < l.length by omega)); omega) | (refine (decide_eq_true ⟨hl0, ?_⟩).symm; rw [List.take_of_length_le (by omega)] at hf; exact hf)))
theorem lNights_ok {l : List ((List Int) × (List Int))} (hl : l.length < 100000) (hc : ∀ c ∈ l, c.1.length < 100000 ∧ c.2.length < 100000) : VF Tryz.prog OA 28 [.v y39 l] (.v y45 l) := by
  refine VF.enter Tryz.func28 rfl (fun _ _ => rfl) rfl ?_
  show VC _ _ _ _ _ [(0, .v y39 l)] [] _
  refine VC.seq ?_
  refine VC.text ?_
  refine VO.c (.assign rfl) ?_
  refine VO.go ?_
  refine VC.seq ?_
  refine VC.text ?_
  refine VO.c (.assign rfl) ?_
  refine VO.go ?_
  refine VC.seq ?_
  refine VC.seq ?_
  refine VC.text ?_
  refine VO.c (.move rfl) ?_
  refine VO.r (.len el39) ?_
  refine VO.c (.move rfl) ?_
  refine VO.go ?_
  refine VC.block ?_
  refine VC.cell0 172 y172 ?_
  refine VC.keep [(3, .raw (.slice none 0 0)), (6, .v y39 l), (7, I ((l.length : Nat) : Int)), (8, I ((0 : Nat) : Int))] ⟨rfl, rfl, rfl, rfl, trivial⟩ ?_
  refine VC.loop (I := fun kk ff ss => ∃ (j : Nat) (out : Value), kk = l.length - j ∧ ff = [(3, .raw out), (6, .v y39 l), (7, I ((l.length : Nat) : Int)), (8, I ((j : Nat) : Int))] ∧ ss = [(out, .row 172 y172 (l.take j))] ∧ (j ≤ l.length)) ?_ _ _ _ ⟨0, (.slice none 0 0), rfl, rfl, rfl, Nat.zero_le _⟩
  rintro kk ff ss ⟨j, out, hk0, rfl, rfl, hj⟩
  refine VC.seq ?_
  refine VC.text ?_
  refine VO.c (.lss) ?_
  refine VO.go ?_
  refine VC.seq ?_
  refine VC.condD rfl (fun c3 => ?_) (fun c3 => ?_)
  · refine VC.skip ?_
    show VC _ _ _ _ _ _ _ _
    refine VC.seq ?_
    refine VC.block ?_
    refine VC.seq ?_
    refine VC.text ?_
    refine VO.c (.ix (j := j) rfl rfl el39 (by omega)) ?_
    refine VO.r (.ld vt88) ?_
    refine VO.cell (.alloc zt88) ?_
    intro ww4
    refine VO.setV (cs' := [.v y22 ((l[j]).1), .v y22 ((l[j]).2)]) vt88 .v ?_
    refine VO.shut [(5, .p y88 (l[j]))] (.cons rfl (.var m0 .refl) .nil) ?_
    refine VO.go ?_
    refine VC.drawn ?_
    have hlj := hc _ (List.getElem_mem (show j < l.length by omega))
    refine VD.c (.move rfl) ?_
    refine VD.c (.fa (.l .o)) ?_
    refine VD.r [] (.ld vt22) (.inl rfl) ?_
    refine VD.call rfl rfl (VF.call (lInts_ok (by first | assumption | omega))) ?_
    refine VD.c (.fa (.r .o)) ?_
    refine VD.r [] (.ld vt22) (.inl rfl) ?_
    refine VD.nw [15] ?_
    refine VD.call rfl rfl (VF.call (lInts_ok (by first | assumption | omega))) ?_
    refine VD.c (.build (((l[j]).1), ((l[j]).2)) bt172) ?_
    refine VD.new (.lit [(((l[j]).1), ((l[j]).2))] el45) ?_
    refine VD.mk (MakeV.app el45 el45 rfl rfl (by simp; omega)) ?_
    rintro _ _ tl5 ⟨ww5, rfl, rfl⟩
    refine VD.c (.assign rfl) ?_
    refine VD.nil ?_
    show VC _ _ _ _ _ _ _ _
    refine VC.text ?_
    refine VO.c (.add rfl rfl (by omega)) ?_
    refine VO.c (.move rfl) ?_
    refine VO.nil ?_
    refine ⟨_, [(3, .raw ww5), (6, .v y39 l), (7, I ((l.length : Nat) : Int)), (8, I (((j + 1) : Nat) : Int))], ?_, ⟨rfl, rfl, rfl, rfl, trivial⟩, (j + 1), ww5, rfl, rfl, (by rw [List.take_succ_eq_append_getElem (by omega)] <;> rfl), (by omega)⟩
    omega
  · refine VC.exit ?_
    show VC _ _ _ _ _ _ _ _
    refine VC.seq ?_
    refine VC.text ?_
    refine VO.c (.move rfl) ?_
    refine VO.c (.assign rfl) ?_
    refine VO.go ?_
    refine VC.ret ?_
    exact VEnd.one rfl (evC (.row m0)) (pvE (by rw [List.take_of_length_le (by omega)]))
end Go.Proofs
namespace Go.Proofs
open Go.Fs
set_option linter.unusedVariables false

theorem lIntsO_ok {l : List Int} (hl : l.length < 1000000) : VFG Tryz.prog OA 19 [.v y22 l] [] (fun r g => ∃ w, r = .raw w ∧ g = [(w, .row 3 (.int .i64) l)]) := by
  refine VFG.enter Tryz.func19 rfl (fun _ _ => rfl) rfl ?_
  show VC _ _ _ _ _ [(0, .v y22 l)] [] _
  refine VC.seq ?_
  refine VC.text ?_
  refine VO.c (.assign rfl) ?_
  refine VO.go ?_
  refine VC.seq ?_
  refine VC.text ?_
  refine VO.cell (.lit0 el22) ?_
  intro ww1
  refine VO.c (.move rfl) ?_
  refine VO.app rfl rfl el22 el22 (by simp; omega) ?_
  intro ww2
  refine VO.c (.assign rfl) ?_
  refine VO.go ?_
  refine VC.ret ?_
  exact VEndG.row rfl evT ⟨ww2, rfl, (by rfl)⟩
theorem bld29 : BldT Tryz.prog 29 y29 [(0, 1), (1, 1), (2, 1)] := bldT_of zt29 rfl (by kernel_rfl)
theorem lTransferO_ok {t : List Int × Int × Int} (hl : t.1.length < 1000000) : VFG Tryz.prog OA 18 [.v y24 t] [] (fun r g => ∃ w, oneCell w = true ∧ r = .raw (.agg #[w, .int .i64 t.2.1, .int .i64 t.2.2]) ∧ g = [(w, .row 3 (.int .i64) t.1)]) := by
  refine VFG.enterR Tryz.func18 rfl (fun _ _ => rfl) rfl ?_
  show VC _ _ _ _ _ [(0, .v y24 t)] [] _
  refine VC.seq ?_
  refine VC.text ?_
  refine VO.new (.box) ?_
  refine VO.cell (.alloc zt29) ?_
  intro ww1
  refine VO.go ?_
  refine VC.seq ?_
  refine VC.drawn ?_
  refine VD.c (.fa (.l .o)) ?_
  refine VD.r [] (.ld vt22) (.inl rfl) ?_
  refine VD.callG rfl rfl (VFG.call (lIntsO_ok hl)) ?_
  rintro _ _ ⟨ww2, rfl, rfl⟩
  show VD _ _ _ _ _ _ _ _ [(ww2, .row 3 (.int .i64) t.1), (ww1, .var (cellsPV y29 (zeroD y29)))] _ _ _ _ _
  refine VD.one (τ := .int .i64) m0 fun ho => ?_
  refine VD.c (.fa (.r (.l .o))) ?_
  refine VD.r [] (.ld vt3) (.inl rfl) ?_
  refine VD.c (.fa (.r (.r .o))) ?_
  refine VD.r [] (.ld vt3) (.inl rfl) ?_
  refine VD.c (.build3 ho bld29 rfl rfl rfl rfl) ?_
  refine VD.perm swap1 ?_
  refine VD.mk0 (MakeV.setF (k := 0) vt29 (.agg rfl (one3 ho) fun _ _ => rep3) (by decide) (.inr ⟨rfl, rfl⟩) rfl rfl) ?_
  rintro _ _ tl ⟨rfl, rfl⟩
  refine VD.go ?_
  refine VC.ret ?_
  exact ⟨rfl, 2, 29, ww1, ww2, _, _, y29, 3, .int .i64, t.1, rfl, rfl, rfl, fun _ _ _ h => rep3' h, List.mem_cons_self, vt29, rfl, rfl, ⟨ww2, ho, rfl, rfl⟩⟩
end Go.Proofs
namespace Go.Proofs
open Go.Fs
/-! ## Learned bounds: plain laws -/
def SmallN (c : List Int × List Int) : Prop := (∀ x ∈ c.1, -100000 ≤ x ∧ x ≤ 100000) ∧ ∀ x ∈ c.2, -100000 ≤ x ∧ x ≤ 100000
theorem dev_mem {c : List Int × List Int} (h : OkN c) (hs : SmallN c) : ∀ x ∈ devE c, -200000 ≤ x ∧ x ≤ 200000 := by
  intro x hx
  obtain ⟨i, hi, rfl⟩ := List.getElem_of_mem hx
  rw [devE_len] at hi
  have hl := h.len
  rw [devE_get (by omega) hi]
  have h1 := hs.1 _ (List.getElem_mem (show i < c.1.length by omega))
  have h2 := hs.2 _ (List.getElem_mem hi)
  omega
theorem minE_le' {l : List Int} {x : Int} (hx : x ∈ l) : minE l ≤ x := by
  have hp := List.length_pos_of_mem hx
  by_cases h : minE l ≤ x
  · exact h
  · exact absurd ((minE_lt (L := l) (a := minE l) hp).2 ⟨x, hx, by omega⟩) (by omega)
theorem minE_mem' {l : List Int} (hl : 0 < l.length) : minE l ∈ l := by
  obtain ⟨x, hx, h⟩ := (minE_lt (L := l) (a := minE l + 1) hl).1 (by omega)
  have := minE_le' hx
  rw [show minE l = x by omega]; exact hx
theorem maxE_ge' {l : List Int} {x : Int} (hx : x ∈ l) : x ≤ maxE l := by
  have hp := List.length_pos_of_mem hx
  by_cases h : x ≤ maxE l
  · exact h
  · exact absurd ((maxE_gt (L := l) (a := maxE l) hp).2 ⟨x, hx, by omega⟩) (by omega)
theorem maxE_mem' {l : List Int} (hl : 0 < l.length) : maxE l ∈ l := by
  obtain ⟨x, hx, h⟩ := (maxE_gt (L := l) (a := maxE l - 1) hl).1 (by omega)
  have := maxE_ge' hx
  rw [show maxE l = x by omega]; exact hx
structure LrnA (l : List (List Int × List Int)) : Prop where
  low : (learnE l).1 ∈ (l.map devE).flatten
  high : (learnE l).2 ∈ (l.map devE).flatten
  all : ∀ c ∈ l, ∀ x ∈ devE c, (learnE l).1 ≤ x ∧ x ≤ (learnE l).2
theorem lrnA {l : List (List Int × List Int)} (h : OkNs l) : LrnA l := by
  have hp := learn_pos h
  refine ⟨minE_mem' hp, maxE_mem' hp, fun c hc x hx => ?_⟩
  have hm : x ∈ (l.map devE).flatten := List.mem_flatten.2 ⟨_, List.mem_map_of_mem hc, hx⟩
  exact ⟨minE_le' hm, maxE_ge' hm⟩
theorem lrn_in {l : List (List Int × List Int)} (h : OkNs l) (hs : ∀ c ∈ l, SmallN c) : -200000 ≤ (learnE l).1 ∧ (learnE l).1 ≤ (learnE l).2 ∧ (learnE l).2 ≤ 200000 := by
  have A := lrnA h
  have key : ∀ x ∈ (l.map devE).flatten, -200000 ≤ x ∧ x ≤ 200000 := fun x hx => by
    obtain ⟨d, hd, hx⟩ := List.mem_flatten.1 hx
    obtain ⟨c, hc, rfl⟩ := List.mem_map.1 hd
    exact dev_mem (h.all c hc) (hs c hc) x hx
  have h1 := key _ A.low
  have h2 := key _ A.high
  obtain ⟨d, hd, hx⟩ := List.mem_flatten.1 A.low
  obtain ⟨c, hc, rfl⟩ := List.mem_map.1 hd
  have h3 := A.all c hc _ hx
  omega
theorem bounds_0 {b : Int × Int} (h1 : -1048576 ≤ b.1) (h2 : b.1 ≤ b.2) (h3 : b.2 ≤ 1048576) : boundsE b = 0 := by
  rw [boundsE, firstE_zero]
  intro x hx
  simp only [List.mem_cons, List.not_mem_nil, or_false] at hx
  rcases hx with rfl | rfl | rfl
  · exact rangeE_zero.2 (by omega)
  · exact rangeE_zero.2 (by omega)
  · exact whenE_f (by omega)
theorem ver_0 {l : List (List Int × List Int)} (hn : nightsE l = 0) (hs : ∀ c ∈ l, SmallN c) : verB l (learnE l) = 0 ∧ verR l (learnE l) = [] := by
  have h := nightsE_ok hn
  have hi := lrn_in h hs
  have h1 : verB l (learnE l) = 0 := by
    rw [verB, firstE_zero]
    intro x hx
    simp only [List.mem_cons, List.not_mem_nil, or_false] at hx
    rcases hx with rfl | rfl
    · exact hn
    · exact bounds_0 (by omega) (by omega) (by omega)
  refine ⟨h1, ?_⟩
  rw [verR, if_pos h1, verE, List.map_eq_nil_iff, List.filter_eq_nil_iff]
  intro i hi hq
  have hil : i < l.length := List.mem_range.1 hi
  rw [List.getD_eq_getElem?_getD, List.getElem?_eq_getElem hil, Option.getD_some] at hq
  have hO := h.all _ (List.getElem_mem hil)
  have A := lrnA h
  obtain ⟨x, hx, h2⟩ := List.any_eq_true.1 hq
  have h3 := A.all _ (List.getElem_mem hil) x hx
  simp only [Bool.or_eq_true, decide_eq_true_eq] at h2
  omega
/-- With one night less, no wider. -/
theorem lrn_less {l : List (List Int × List Int)} (h : OkNs l) (h1 : 1 < l.length) (hn : nightsE l = 0) : nightsE (l.drop 1) = 0 ∧ (learnE l).1 ≤ (learnE (l.drop 1)).1 ∧ (learnE (l.drop 1)).2 ≤ (learnE l).2 := by
  have hn2 : nightsE (l.drop 1) = 0 := by
    unfold nightsE at hn ⊢
    have ht := h.top
    rw [if_neg (by omega), if_neg (by omega), firstE_zero] at hn
    rw [if_neg (by rw [List.length_drop]; omega), if_neg (by rw [List.length_drop]; omega), firstE_zero]
    intro x hx
    obtain ⟨c, hc, rfl⟩ := List.mem_map.1 hx
    exact hn _ (List.mem_map_of_mem (List.mem_of_mem_drop hc))
  have h2 := nightsE_ok hn2
  have A := lrnA h
  have A2 := lrnA h2
  obtain ⟨d, hd, hx⟩ := List.mem_flatten.1 A2.low
  obtain ⟨c, hc, rfl⟩ := List.mem_map.1 hd
  obtain ⟨d', hd', hx'⟩ := List.mem_flatten.1 A2.high
  obtain ⟨c', hc', rfl⟩ := List.mem_map.1 hd'
  exact ⟨hn2, (A.all c (List.mem_of_mem_drop hc) _ hx).1, (A.all c' (List.mem_of_mem_drop hc') _ hx').2⟩
/-! ## One course, enclosed -/
theorem encl1 {fc : List Int} {x : Int × Int} (hp : 0 < fc.length) (ht : fc.length ≤ 96) (ha : heightsE fc = 0) (hx : boundsE x = 0) :
    enclB [(1, fc)] x = 0 ∧ (enclR [(1, fc)] x).length = fc.length ∧ ∀ (t : Nat) (h : t < (enclR [(1, fc)] x).length) (h' : t < fc.length), (enclR [(1, fc)] x)[t] = (fc[t] + x.1, fc[t] + x.2) := by
  have e0 : len0 [((1 : Int), fc)] = fc.length := rfl
  have hc : courseE fc.length (1, fc) = 0 := by
    rw [courseE, firstE_zero]
    intro y hy
    simp only [List.mem_cons, List.not_mem_nil, or_false] at hy
    rcases hy with rfl | rfl | rfl | rfl | rfl
    · rfl
    · exact whenE_f (by omega)
    · exact whenE_f (by omega)
    · exact whenE_f (by simp)
    · exact ha
  have hE : ensembleE [((1 : Int), fc)] = 0 := by
    unfold ensembleE
    rw [if_neg (by simp), if_neg (by simp), firstE_zero]
    intro y hy
    rw [e0] at hy
    simp only [List.map_cons, List.map_nil, List.mem_cons, List.not_mem_nil, or_false] at hy
    rw [hy]; exact hc
  have hB : enclB [(1, fc)] x = 0 := by
    rw [enclB, firstE_zero]
    intro y hy
    simp only [List.mem_cons, List.not_mem_nil, or_false] at hy
    rcases hy with rfl | rfl
    · exact hE
    · exact hx
  have hR : enclR [(1, fc)] x = (List.range fc.length).map fun t => (fc.getD t 0 + x.1, fc.getD t 0 + x.2) := by
    rw [enclR, if_pos hB, encloseE, e0]
    refine List.map_congr_left fun t _ => ?_
    have e1 : colE [((1 : Int), fc)] t = [fc.getD t 0] := rfl
    rw [e1]
    simp [minE, maxE]
  refine ⟨hB, by rw [hR]; simp, fun t h h' => ?_⟩
  simp only [hR, List.getElem_map, List.getElem_range]
  rw [getD_eq h']
/-! ## Raised heights, transferred -/
def wholeT (t : List Int × Int × Int) : List Int × Int × Int := (t.1.map fun a => a.tdiv (2 ^ t.2.1.toNat) * 2 ^ t.2.1.toNat, t.2)
def sumT (t : List Int × Int × Int) : Int := (t.1.map fun a => a.tdiv (2 ^ t.2.1.toNat)).sum
def upE (l : List Int) : List Int := l.map fun h => h + 1
theorem tdiv_small {a d : Int} (hd : 0 < d) {B : Int} (h : -B ≤ a ∧ a ≤ B) : -B ≤ a.tdiv d * d ∧ a.tdiv d * d ≤ B := by
  obtain ⟨r, h1, h2, h3, h4, h5⟩ := tdiv_fact a d hd
  by_cases ha : 0 ≤ a
  · have := h4 ha
    have h6 : 0 ≤ a.tdiv d * d := Int.mul_nonneg (Int.tdiv_nonneg ha (by omega)) (by omega)
    omega
  · have := h5 (by omega)
    have h6 : a.tdiv d * d ≤ 0 := by
      have : a.tdiv d ≤ 0 := by
        rw [show a = -(-a) by omega, Int.neg_tdiv]
        have := Int.tdiv_nonneg (show 0 ≤ -a by omega) (show 0 ≤ d by omega)
        omega
      exact Int.mul_nonpos_of_nonpos_of_nonneg this (by omega)
    omega
theorem whole_ok {t : List Int × Int × Int} (h : transferE t = 0) : transferE (wholeT t) = 0 := by
  have ht := transferE_ok h
  have hp : (0 : Int) < 2 ^ t.2.1.toNat := Int.pow_pos (by decide)
  rw [transferE, firstE_zero] at h ⊢
  intro y hy
  simp only [List.mem_cons, List.not_mem_nil, or_false] at hy
  rcases hy with rfl | rfl | rfl | rfl | rfl
  · have := whenE_zero (by decide) (h _ (by simp : whenE (decide ((t.1.length : Int) = 0)) 12 ∈ _))
    exact whenE_f (by simpa [wholeT] using this)
  · have := whenE_zero (by decide) (h _ (by simp : whenE (decide ((8 : Int) < t.1.length)) 5 ∈ _))
    exact whenE_f (by simpa [wholeT] using this)
  · rw [tapsE, firstE_zero]
    intro z hz
    obtain ⟨a, ha, rfl⟩ := List.mem_map.1 hz
    obtain ⟨b, hb, rfl⟩ := List.mem_map.1 ha
    exact rangeE_zero.2 (tdiv_small hp (ht.taps b hb))
  · exact rangeE_zero.2 ht.shift
  · exact rangeE_zero.2 ht.off
theorem numbers_0 {l : List Int} (hl : l.length ≤ 96) (ha : ∀ x ∈ l, -1048576 ≤ x ∧ x ≤ 1048576) : numbersE l = 0 := by
  unfold numbersE
  rw [if_neg (by omega), heightsE, firstE_zero]
  intro y hy
  obtain ⟨x, hx, rfl⟩ := List.mem_map.1 hy
  exact rangeE_zero.2 (ha x hx)
theorem apply_0 {t : List Int × Int × Int} {l : List Int} (h : transferE t = 0) (hl : l.length ≤ 96) (ha : ∀ x ∈ l, -1048576 ≤ x ∧ x ≤ 1048576) : applyB t l = 0 ∧ applyR t l = applyE t l := by
  have h1 : applyB t l = 0 := by
    rw [applyB, firstE_zero]
    intro y hy
    simp only [List.mem_cons, List.not_mem_nil, or_false] at hy
    rcases hy with rfl | rfl
    · exact h
    · exact numbers_0 hl ha
  exact ⟨h1, by rw [applyR, if_pos h1]⟩
theorem up_get {l : List Int} {j : Nat} (hj : j < l.length) : (upE l).getD j 0 = l.getD j 0 + 1 := by
  simp [upE, List.getD, hj]
theorem tap_up {a l : List Int} {i : Nat} (hi : i < l.length) : ∀ k, k ≤ a.length → tapSum a (upE l) i k = tapSum a l i k + (a.take k).sum
  | 0, _ => by simp [tapSum]
  | k + 1, hk => by
    have h1 := tap_up (a := a) hi k (by omega)
    rw [tapSum, tapSum, h1, up_get (by omega), List.take_succ_eq_append_getElem (by omega), List.sum_append, Int.mul_add, getD_eq (show k < a.length by omega)]
    simp only [List.sum_cons, List.sum_nil]
    omega
theorem whole_sum {L : List Int} {u : Int} : (L.map fun a => a.tdiv u * u).sum = (L.map fun a => a.tdiv u).sum * u := by
  induction L with
  | nil => simp
  | cons a L ih => simp only [List.map_cons, List.sum_cons, ih, Int.add_mul]
theorem apply_up {t : List Int × Int × Int} {l : List Int} {i : Nat} (hi : i < l.length) : (applyE (wholeT t) (upE l))[i]'(by simp [applyE, upE]; exact hi) = (applyE (wholeT t) l)[i]'(by simp [applyE]; exact hi) + sumT t := by
  have hp : (0 : Int) < 2 ^ t.2.1.toNat := Int.pow_pos (by decide)
  simp only [applyE, List.getElem_map, List.getElem_range]
  rw [tap_up hi _ (Nat.le_refl _), List.take_length]
  have e : (wholeT t).1.sum = sumT t * 2 ^ t.2.1.toNat := whole_sum
  have e2 : (wholeT t).2 = t.2 := rfl
  rw [e, e2, Int.fdiv_eq_ediv_of_nonneg _ (Int.le_of_lt hp), Int.fdiv_eq_ediv_of_nonneg _ (Int.le_of_lt hp), Int.add_mul_ediv_right _ _ (by omega)]
  omega
/-! ## What the law asks -/
structure LrnF (l : List (List Int × List Int)) : Prop where
  v0 : verB l (learnR l) = 0
  v1 : verR l (learnR l) = []
  b : boundsE (learnR l) = 0
  low : (learnR l).1 ∈ (l.map devE).flatten
  high : (learnR l).2 ∈ (l.map devE).flatten
  all : ∀ c ∈ l, ∀ x ∈ devE c, (learnR l).1 ≤ x ∧ x ≤ (learnR l).2
theorem lrnF {l : List (List Int × List Int)} (hn : nightsE l = 0) (hs : ∀ c ∈ l, SmallN c) : LrnF l := by
  have e : learnR l = learnE l := if_pos hn
  have h := nightsE_ok hn
  have A := lrnA h
  have hi := lrn_in h hs
  obtain ⟨v0, v1⟩ := ver_0 hn hs
  rw [← e] at v0 v1 hi
  exact ⟨v0, v1, bounds_0 (by omega) (by omega) (by omega), e ▸ A.low, e ▸ A.high, e ▸ A.all⟩
theorem any_next {l : List (List Int × List Int)} {j : Nat} {p : Int → Bool} (hj : j < l.length) : ((l.take (j + 1)).map devE).flatten.any p = (((l.take j).map devE).flatten.any p || (devE l[j]).any p) := by
  rw [List.take_succ_eq_append_getElem hj, List.map_append, List.flatten_append, List.any_append]
  simp
theorem all_any {l : List (List Int × List Int)} {j : Nat} {x : Int} (hj : l.length ≤ j) (hx : x ∈ (l.map devE).flatten) : (((l.take j).map devE).flatten.any fun d => decide (d = x)) = true := by
  rw [List.take_of_length_le hj]
  exact List.any_eq_true.2 ⟨x, hx, decide_eq_true rfl⟩
/-- One course's enclosure at one place. -/
theorem encl_at {l : List (List Int × List Int)} (F : LrnF l) (hn : nightsE l = 0) {j m : Nat} (hj : j < l.length) (hm : m < l[j].2.length) (hm1 : m < l[j].1.length) :
    ∃ h : m < (enclR [(1, l[j].1)] (learnR l)).length, ((enclR [(1, l[j].1)] (learnR l))[m]).1 ≤ l[j].2[m] ∧ l[j].2[m] ≤ ((enclR [(1, l[j].1)] (learnR l))[m]).2 ∧
      decide (l[j].2[m] = ((enclR [(1, l[j].1)] (learnR l))[m]).1) = decide (l[j].2[m] - l[j].1[m] = (learnR l).1) ∧ decide (l[j].2[m] = ((enclR [(1, l[j].1)] (learnR l))[m]).2) = decide (l[j].2[m] - l[j].1[m] = (learnR l).2) := by
  have hN := nightsE_ok hn
  have hO := hN.all _ (List.getElem_mem hj)
  have ha : heightsE l[j].1 = 0 := by
    rw [heightsE, firstE_zero]
    intro y hy
    obtain ⟨x, hx, rfl⟩ := List.mem_map.1 hy
    exact rangeE_zero.2 (hO.all1 x hx)
  obtain ⟨_, e1, e2⟩ := encl1 (fc := l[j].1) hO.pos hO.top ha F.b
  have hlt : m < (enclR [(1, l[j].1)] (learnR l)).length := by rw [e1]; exact hm1
  have hd := F.all _ (List.getElem_mem hj) ((devE l[j])[m]'(by rw [devE_len]; exact hm)) (List.getElem_mem _)
  rw [devE_get hm1 hm] at hd
  refine ⟨hlt, ?_⟩
  rw [e2 m hlt hm1]
  simp only []
  refine ⟨by omega, by omega, ?_, ?_⟩
  · exact decide_eq_decide.2 (by omega)
  · exact decide_eq_decide.2 (by omega)
theorem encl_B {l : List (List Int × List Int)} (F : LrnF l) (hn : nightsE l = 0) {j : Nat} (hj : j < l.length) : enclB [(1, l[j].1)] (learnR l) = 0 ∧ (enclR [(1, l[j].1)] (learnR l)).length = l[j].1.length := by
  have hN := nightsE_ok hn
  have hO := hN.all _ (List.getElem_mem hj)
  have ha : heightsE l[j].1 = 0 := by
    rw [heightsE, firstE_zero]
    intro y hy
    obtain ⟨x, hx, rfl⟩ := List.mem_map.1 hy
    exact rangeE_zero.2 (hO.all1 x hx)
  obtain ⟨e0, e1, _⟩ := encl1 (fc := l[j].1) hO.pos hO.top ha F.b
  exact ⟨e0, e1⟩
theorem lrn_lessR {l : List (List Int × List Int)} (hn : nightsE l = 0) (h1 : 1 < l.length) : nightsE (l.drop 1) = 0 ∧ (learnR l).1 ≤ (learnR (l.drop 1)).1 ∧ (learnR (l.drop 1)).2 ≤ (learnR l).2 := by
  obtain ⟨a, b, c⟩ := lrn_less (nightsE_ok hn) h1 hn
  have e : learnR l = learnE l := if_pos hn
  have e' : learnR (l.drop 1) = learnE (l.drop 1) := if_pos a
  rw [e, e']
  exact ⟨a, b, c⟩
/-! ## The taps, made whole one by one -/
def halfT (L : List Int) (u : Int) (i : Nat) : List Int := ((L.take i).map fun a => a.tdiv u * u) ++ L.drop i
theorem half_len {L : List Int} {u : Int} {i : Nat} : (halfT L u i).length = L.length := by simp [halfT]; omega
theorem half_get {L : List Int} {u : Int} {i : Nat} (hi : i < L.length) : (halfT L u i)[i]'(by rw [half_len]; exact hi) = L[i] := by
  simp only [halfT]
  rw [List.getElem_append_right (by simp; omega)]
  simp [Nat.min_eq_left (Nat.le_of_lt hi)]
theorem half_set {L : List Int} {u : Int} {i : Nat} (hi : i < L.length) : (halfT L u i).set i (L[i].tdiv u * u) = halfT L u (i + 1) := by
  have hl : ((L.take i).map fun a => a.tdiv u * u).length = i := by simp; omega
  unfold halfT
  rw [List.set_append_right _ _ (by omega), hl, Nat.sub_self, List.drop_eq_getElem_cons hi, List.set_cons_zero, List.take_succ_eq_append_getElem hi, List.map_append, List.append_assoc]
  rfl
theorem half_end {L : List Int} {u : Int} {i : Nat} (hi : L.length ≤ i) : halfT L u i = L.map fun a => a.tdiv u * u := by
  unfold halfT
  rw [List.take_of_length_le hi, List.drop_eq_nil_of_le hi, List.append_nil]
theorem tdiv_whole {a u : Int} (hu : 0 < u) : (a.tdiv u * u).tdiv u = a.tdiv u := Int.mul_tdiv_cancel _ (by omega)
theorem sum_next {L : List Int} {u : Int} {i : Nat} (hi : i < L.length) : ((L.take (i + 1)).map fun a => a.tdiv u).sum = ((L.take i).map fun a => a.tdiv u).sum + L[i].tdiv u := by
  rw [List.take_succ_eq_append_getElem hi, List.map_append, List.sum_append]
  simp
theorem half_get2 {L : List Int} {u : Int} {i : Nat} (hi : i < L.length) : (halfT L u (i + 1))[i]'(by rw [half_len]; exact hi) = L[i].tdiv u * u := by
  have h := half_set (u := u) hi
  have : (halfT L u (i + 1))[i]'(by rw [half_len]; exact hi) = ((halfT L u i).set i (L[i].tdiv u * u))[i]'(by rw [List.length_set, half_len]; exact hi) := by simp only [h]
  rw [this, List.getElem_set_self]
theorem sum_bound {L : List Int} {u : Int} (hu : 0 < u) (h : ∀ x ∈ L, -64 ≤ x ∧ x ≤ 64) : -(64 * (L.length : Int)) ≤ (L.map fun a => a.tdiv u).sum ∧ (L.map fun a => a.tdiv u).sum ≤ 64 * (L.length : Int) := by
  induction L with
  | nil => simp
  | cons a L ih =>
    have h1 := ih fun x hx => h x (List.mem_cons_of_mem _ hx)
    have h2 := tdiv_bound hu (h a List.mem_cons_self)
    simp only [List.map_cons, List.sum_cons, List.length_cons]
    omega
theorem apply_len {t : List Int × Int × Int} {l : List Int} : (applyE t l).length = l.length := by simp [applyE]
theorem up_len {l : List Int} : (upE l).length = l.length := by simp [upE]
theorem apply_bound {t : List Int × Int × Int} {l : List Int} (ht : OkT t) (hl : ∀ x ∈ l, -1048576 ≤ x ∧ x ≤ 1048576) {i : Nat} (hi : i < (applyE t l).length) : -1000001024 ≤ (applyE t l)[i] ∧ (applyE t l)[i] ≤ 1000001024 := by
  have h1 := tapSum_bound ht.taps hl i t.1.length
  have h2 := ht.len
  have h3 := ht.off
  have h4 := fdiv_bound (n := tapSum t.1 l i t.1.length) (s := t.2.1.toNat) (by omega)
  simp only [applyE, List.getElem_map, List.getElem_range]
  omega
end Go.Proofs
