/- The evaluator is sound: code. No condition. From the evaluator's runs to the model's calls. No condition. Two functions of Go's library by their contracts: an oracle for the evaluator. No condition. A closed call that answers true, as an oracle. No condition. -/
import Derived.Test.YtednnfllcafliaaGreatDoorP1
import Derived.Scope
import Derived.Test.YtednnfllcafliaaGreatDoorP2
import Derived.Lib.ItoaNum
import Derived.Lib.Join
import Derived.Test.YtednnfllcafliaaGreatDoorP5
import Derived.Test.YtednnfllcafliaaGreatDoorChecked
set_option linter.all false
namespace Go
variable {P : Program}
theorem stepR_scopeFs {b : Frame} {a : Act} {k : List Item} {cs : List Frame} {w : World} {c : Code} : step P (lone (b.atR a (.code (.scope c) :: k)) cs w) = .next (lone (b.atR a (.code c :: .inScope c :: k)) cs w) :=
  step_lone_go (by simp [stepG, stepG.exec, Frame.atR])
theorem stepR_inScopeFs {b : Frame} {a : Act} {k : List Item} {cs : List Frame} {w : World} {c : Code} : step P (lone (b.atR a (.inScope c :: k)) cs w) = .next (lone (b.atR a k) cs w) :=
  step_lone_go (by simp [stepG, stepG.exec, Frame.atR])
/-- A piece that is left by no jump to a label. -/
theorem wpIn_scopeFs {F : Fence} {n : Nat} {Q : Exit → Act → World → Prop} {a : Act} {w : World} {c : Code} (h : c.wpIn F n P (Exit.noGoto Q) a w) : (Code.scope c).wpIn F n P Q a w := by
  intro b k cs hro hb hr
  have h0 : (lone (b.atR a (.code (.scope c) :: k)) cs w).fenced P F := fenced_calm hb hr rfl
  obtain ⟨e, a₁, w₁, hq, harr⟩ := h b (.inScope c :: k) cs hro hb hr
  cases e with
  | normal => exact ⟨.normal, a₁, w₁, hq, .head h0 stepR_scopeFs (StepsIn.trans harr (.one (fenced_calm hb hr rfl) stepR_inScopeFs))⟩
  | exit id =>
    have hx : exitTo id (.inScope c :: k) = exitTo id k := by simp [exitTo]
    exact ⟨.exit id, a₁, w₁, hq, fun k' hk => .head h0 stepR_scopeFs (harr.1 k' (by rw [hx]; exact hk)),
      fun hr' hk => let ⟨k₁, h1, h2⟩ := harr.2 hr' (by rw [hx]; exact hk); ⟨k₁, h1, .head h0 stepR_scopeFs h2⟩⟩
  | goto l => exact hq.elim
  | ret => exact ⟨_, a₁, w₁, hq, .of_steps (.one h0 stepR_scopeFs) harr⟩
  | panic ch => exact ⟨_, a₁, w₁, hq, .of_steps (.one h0 stepR_scopeFs) harr⟩
  | outgrown => exact ⟨_, a₁, w₁, hq, .of_steps (.one h0 stepR_scopeFs) harr⟩

end Go
namespace Go.Fs
open Go.RowKit (Below)
variable {P : Program} {ρ ρ' : Ren} {S S' : Nat → Prop} {B : Nat} {w0 w w' w1 w2 : World} {h h' h1 h2 : Heap}

theorem call_sound (hP : ProgOk P) {orc : FuncId → List Value → Heap → Option (Value × Heap)} (horc : CallSound P B w0 orc) {m : Nat} {rec : Rec} (hrec : SoundR P B w0 m rec) : CallSound P B w0 (callOf P orc rec) := by
  intro f args h v h' hf
  unfold callOf at hf
  split at hf
  · rename_i r hr
    simp only [Option.some.injEq] at hf
    subst hf
    exact horc _ _ _ _ _ hr
  · exact enter_sound hP hrec _ _ _ _ _ hf

theorem Post.same {fr : Fr} {a : Act} (hr : HR P ρ S B w0 h w) (ht : TrR ρ S fr.t fr.n a.tmps) (hm : MarksR ρ S fr.marks a.defers) : Post P B w0 ρ ρ S h w fr h w a :=
  ⟨Moved.same hr, ht.mono fun _ hb => ⟨.inl hb, rfl⟩, hm.mono fun _ hb => ⟨.inl hb, rfl⟩⟩

theorem step_sound (hP : ProgOk P) {orc : FuncId → List Value → Heap → Option (Value × Heap)} (horc : CallSound P B w0 orc) {m : Nat} {rec : Rec} (hrec : SoundR P B w0 m rec) : SoundR P B w0 (m + 1) (fsStep P orc rec) := by
  intro rnd c fr h e fr' h' hok hf ρ S w a nn Q hr ht hm hs k
  have hcs : CallSound P B w0 (callOf P orc rec) := call_sound hP horc hrec
  have hys : YieldSound P B w0 (fsYield rec) := yield_sound hrec
  cases c with
  | skip =>
    simp only [fsStep, Option.some.injEq, Prod.mk.injEq] at hf
    obtain ⟨rfl, rfl, rfl⟩ := hf
    exact wpIn_skip (k _ _ _ (Post.same hr ht hm))
  | label l =>
    simp only [fsStep, Option.some.injEq, Prod.mk.injEq] at hf
    obtain ⟨rfl, rfl, rfl⟩ := hf
    exact wpIn_label (k _ _ _ (Post.same hr ht hm))
  | exit id =>
    simp only [fsStep, Option.some.injEq, Prod.mk.injEq] at hf
    obtain ⟨rfl, rfl, rfl⟩ := hf
    exact wpIn_exit (k _ _ _ (Post.same hr ht hm))
  | ret =>
    simp only [fsStep, Option.some.injEq, Prod.mk.injEq] at hf
    obtain ⟨rfl, rfl, rfl⟩ := hf
    exact wpIn_ret (k _ _ _ (Post.same hr ht hm))
  | goto l => simp only [fsStep] at hf; cases hf
  | refuse l => simp only [fsStep] at hf; cases hf
  | scope b =>
    simp only [fsStep] at hf
    refine wpIn_scopeFs ?_
    refine (hrec rnd b fr h e fr' h' hok hf ρ S w a nn _ hr ht hm hs fun ρ1 w1 a1 p1 => ?_).wpIn
    have hq := k _ _ _ p1
    cases e with
    | normal => exact hq
    | exit id => exact hq
    | ret => exact hq
  | seq x y =>
    simp only [fsStep] at hf
    obtain ⟨ok1, ok2⟩ := band (show (codeOk x && codeOk y) = true from hok)
    refine wpIn_seq ?_
    split at hf
    · rename_i fr1 h1 hrun
      refine (hrec rnd x fr h _ fr1 h1 ok1 hrun ρ S w a nn _ hr ht hm hs fun ρ1 w1 a1 p1 => ?_).wpIn
      show y.wpIn (rndF ρ rnd) nn P Q a1 w1
      rw [← rndF_eq hs p1.moved.agree]
      exact (hrec rnd y fr1 h1 e fr' h' ok2 hf ρ1 _ w1 a1 nn Q p1.moved.hr p1.tmps p1.marks (fun l hl => .inl (hs l hl)) fun ρ2 w2 a2 p2 => k _ _ _ (Post.trans (fr1 := fr1) (a1 := a1) p1.moved p2)).wpIn
    · rename_i hne
      refine (hrec rnd x fr h e fr' h' ok1 hf ρ S w a nn _ hr ht hm hs fun ρ1 w1 a1 p1 => ?_).wpIn
      have hq := k _ _ _ p1
      cases e with
      | normal => exact (hne _ _ hf).elim
      | exit id => exact hq
      | ret => exact hq
  | cond x y z =>
    simp only [fsStep] at hf
    obtain ⟨ok1, ok2⟩ := band (show (codeOk y && codeOk z) = true from hok)
    have hev := ht.eval a.defers x
    split at hf
    · rename_i hx
      rw [hx] at hev
      exact wpIn_cond_true hev.bool_inv (hrec rnd y fr h e fr' h' ok1 hf ρ S w a nn Q hr ht hm hs k).wpIn
    · rename_i hx
      rw [hx] at hev
      exact wpIn_cond_false hev.bool_inv (hrec rnd z fr h e fr' h' ok2 hf ρ S w a nn Q hr ht hm hs k).wpIn
    · cases hf
  | block id b =>
    simp only [fsStep] at hf
    refine wpIn_block ?_
    split at hf
    · rename_i id' fr1 h1 hrun
      refine (hrec rnd b fr h _ fr1 h1 hok hrun ρ S w a nn _ hr ht hm hs fun ρ1 w1 a1 p1 => ?_).wpIn
      cases hb : Nat.beq id' id with
      | true =>
        rw [hb] at hf
        simp only [cond_true, Option.some.injEq, Prod.mk.injEq] at hf
        obtain ⟨rfl, rfl, rfl⟩ := hf
        have := k _ _ _ p1
        simp only [exOf, Exit.inBlock, nbeq hb, if_true]
        exact this
      | false =>
        rw [hb] at hf
        simp only [cond_false, Option.some.injEq, Prod.mk.injEq] at hf
        obtain ⟨rfl, rfl, rfl⟩ := hf
        have := k _ _ _ p1
        simp only [exOf, Exit.inBlock, if_neg (ne_of_no hb)]
        exact this
    · rename_i hne
      refine (hrec rnd b fr h e fr' h' hok hf ρ S w a nn _ hr ht hm hs fun ρ1 w1 a1 p1 => ?_).wpIn
      have hq := k _ _ _ p1
      cases e with
      | normal => exact hq
      | exit id' => exact (hne _ _ _ hf).elim
      | ret => exact hq
  | loop b =>
    simp only [fsStep] at hf
    show Code.roundsIn (rndF ρ rnd) nn P b Q (m + 1) a w
    rw [roundsIn_succ]
    split at hf
    · rename_i fr1 h1 hrun
      refine (hrec rnd b fr h _ fr1 h1 hok hrun ρ S w a nn _ hr ht hm hs fun ρ1 w1 a1 p1 => ?_).wpIn
      show Code.roundsIn (rndF ρ rnd) nn P b Q m a1 w1
      rw [← rndF_eq hs p1.moved.agree]
      exact hrec rnd (.loop b) fr1 h1 e fr' h' hok hf ρ1 _ w1 a1 nn Q p1.moved.hr p1.tmps p1.marks (fun l hl => .inl (hs l hl)) fun ρ2 w2 a2 p2 => k _ _ _ (Post.trans (fr1 := fr1) (a1 := a1) p1.moved p2)
    · rename_i hne
      refine (hrec rnd b fr h e fr' h' hok hf ρ S w a nn _ hr ht hm hs fun ρ1 w1 a1 p1 => ?_).wpIn
      have hq := k _ _ _ p1
      cases e with
      | normal => exact (hne _ _ hf).elim
      | exit id => exact hq
      | ret => exact hq
  | region id ops draw =>
    cases draw with
    | false =>
      simp only [fsStep] at hf
      split at hf
      · rename_i t h1 hrun
        simp only [Option.some.injEq, Prod.mk.injEq] at hf
        obtain ⟨rfl, rfl, rfl⟩ := hf
        refine wpIn_region ?_
        exact ops_wp (step := fsOp P (callOf P orc rec) (fsYield rec)) rfl hcs hys _ _ ρ S w a fr.t h range_map hr ht hrun fun ρ1 w1 a1 m1 ht1 hd1 => k _ _ _ ⟨m1, ht1, by rw [hd1]; exact hm.mono fun b hb => ⟨.inl hb, m1.agree b hb⟩⟩
      · cases hf
    | true =>
      simp only [fsStep] at hf
      split at hf
      · rename_i s hrun
        simp only [Option.some.injEq, Prod.mk.injEq] at hf
        obtain ⟨rfl, rfl, rfl⟩ := hf
        refine wpIn_region_draw fun t => ?_
        rw [hP.mixed]
        exact drawn_wp (call := callOf P orc rec) (yield := fsYield rec) hcs hys hok hrun (hr.drew _) ht (fun ρ1 w1 a1 m1 ht1 hd1 => k _ _ _ ⟨Moved.ofDrew m1, ht1, by rw [hd1]; exact hm.mono fun b hb => ⟨.inl hb, m1.agree b hb⟩⟩) t
      · cases hf
  | rangeFunc g ps assign body =>
    simp only [fsStep] at hf
    obtain ⟨ok1, ok2⟩ := band (show (codeOk assign && codeOk body) = true from hok)
    exact rangeFunc_sound hP hrec ok1 ok2 hf hr ht hm hs k

theorem code_sound (hP : ProgOk P) {orc : FuncId → List Value → Heap → Option (Value × Heap)} (horc : CallSound P B w0 orc) : ∀ m, SoundR P B w0 m (fsCode P orc m)
  | 0 => fun rnd c fr h e fr' h' _ hf => by cases hf
  | m + 1 => step_sound hP horc (code_sound hP horc m)

/-- **A call, evaluated.** -/
theorem fs_calls (hP : ProgOk P) {orc : FuncId → List Value → Heap → Option (Value × Heap)} (horc : CallSound P B w0 orc) (m : Nat) : CallSound P B w0 (fsEnter P (fsCode P orc m)) := enter_sound hP (code_sound hP horc m)

/-- **A closed call whose value bears no address: in every world, the world but for new blocks as it was.** -/
theorem fs_closed (hP : ProgOk P) {w : World} {orc : FuncId → List Value → Heap → Option (Value × Heap)} (horc : CallSound P w.heap.size w orc) {m : Nat} {f : FuncId} {args : List Value} {v : Value} (ha : args.all af = true)
    (hf : (fsEnter P (fsCode P orc m) f args ⟨1, 1, []⟩).map (·.1) = some v) (hv : af v = true) :
    Calls P f args.toArray w fun | .returned v', w' => v' = v ∧ Below w.heap.size w w' | _, _ => False := by
  obtain ⟨⟨v0, h0⟩, h1, h2⟩ := Option.map_eq_some_iff.1 hf
  simp only at h2
  subst h2
  have hr : HR P (fun _ => ⟨0, 0, 0, 0⟩) (fun _ => False) w.heap.size w ⟨1, 1, []⟩ w :=
    { objs := fun i o hi => (by cases hi), inj := fun i j oi oj hi => (by cases hi), base := fun i o hi => (by cases hi), ro := fun i o hi => (by cases hi), ids := fun b hb => hb.elim, pos := by decide,
      below := Below.refl _ _, size := Nat.le_refl _ }
  have hc := ((fs_calls hP horc m) f args _ _ _ h1).2 _ _ w args hr ⟨rfl, fun i hi => .of_af (List.all_eq_true.1 ha _ (mem_getD hi))⟩ 0
  refine Calls.mono (callsIn_wide.1 hc) fun e w' he => ?_
  cases e with
  | returned v' =>
    obtain ⟨ρ', m1, hv1⟩ := he
    exact ⟨hv1.eq_of_af hv, m1.hr.below⟩
  | panicked c => exact he.elim
  | outgrown => exact he.elim

end Go.Fs
namespace Go.Fs
open Go.RowKit (Below)
variable {P : Program}

/-- **A call whose value is known, evaluated from a heap that is related to the world.** -/
theorem fs_open (hP : ProgOk P) {B : Nat} {w0 w : World} {orc : FuncId → List Value → Heap → Option (Value × Heap)} (horc : CallSound P B w0 orc) {ρ : Ren} {S : Nat → Prop} {h : Heap} {f : FuncId} {args args' : List Value} {v : Value}
    (hr : HR P ρ S B w0 h w) (ha : LR ρ S args args') (he : EvF P orc f args h fun u _ => u = v) (hv : af v = true) : Calls P f args'.toArray w fun | .returned v', w' => v' = v ∧ Below B w0 w' | _, _ => False := by
  obtain ⟨m, u, h', h1, rfl⟩ := he
  have hc := (call_sound hP horc (code_sound hP horc m) f args h u h' h1).2 ρ S w args' hr ha 0
  refine Calls.mono (callsIn_wide.1 hc) fun e w' he => ?_
  cases e with
  | returned v' =>
    obtain ⟨ρ', m1, hv1⟩ := he
    exact ⟨hv1.eq_of_af hv, m1.hr.below⟩
  | panicked c => exact he.elim
  | outgrown => exact he.elim

/-- The kernel's run, as a run. -/
theorem EvF.ofRun {orc : FuncId → List Value → Heap → Option (Value × Heap)} {m : Nat} {f : FuncId} {args : List Value} {h : Heap} {v : Value} (ho : orc f args h = none) (hr : fsEnter P (fsCode P orc m) f args h = some (v, h)) : EvF P orc f args h fun u h' => u = v ∧ h' = h :=
  ⟨m, v, h, by unfold callOf; rw [ho]; exact hr, rfl, rfl⟩
end Go.Fs
namespace Go.Fs
open Go.RowKit (Below)
variable {P : Program}

def digs : Nat → Nat → List UInt8
  | 0, _ => []
  | f + 1, n => bif Nat.blt n 10 then [UInt8.ofNat (48 + n)] else digs f (n / 10) ++ [UInt8.ofNat (48 + n % 10)]
def itoaF (n : Int) : List UInt8 := match n with
  | .ofNat k => digs 20 k
  | .negSucc k => 45 :: digs 20 (k + 1)
def joinF (sep : List UInt8) : List (List UInt8) → List UInt8
  | [] => []
  | [w] => w
  | w :: r => w ++ sep ++ joinF sep r
def strs : List Value → Option (List ByteArray)
  | [] => some []
  | .string s :: r => (strs r).map (s :: ·)
  | _ => none

theorem digs_eq : ∀ (f n : Nat), n < 10 ^ (f + 1) → digs (f + 1) n = Lib.decDigits n
  | f, n, h => by
    unfold digs Lib.decDigits
    cases hb : Nat.blt n 10 with
    | true => rw [dif_pos (nblt hb)]; rfl
    | false =>
      have h1 : ¬ n < 10 := by have := nble_no hb; omega
      rw [dif_neg h1]
      simp only [cond_false]
      cases f with
      | zero => simp at h; omega
      | succ f => rw [digs_eq f (n / 10) (by rw [Nat.pow_succ] at h; omega)]
theorem itoaF_eq {n : Int} (h0 : -1000000000000000000 < n) (h1 : n < 1000000000000000000) : itoaF n = Lib.itoa n := by
  unfold Lib.itoa
  cases n with
  | ofNat k =>
    rw [if_neg (by simp)]
    show digs 20 k = _
    rw [digs_eq 19 k (by have : (k : Int) < 1000000000000000000 := h1; have : (10 : Nat) ^ (19 + 1) = 100000000000000000000 := by decide
                         omega)]
    rfl
  | negSucc k =>
    rw [if_pos (by omega)]
    show 45 :: digs 20 (k + 1) = _
    rw [digs_eq 19 (k + 1) (by have h2 : -1000000000000000000 < Int.negSucc k := h0; have : (10 : Nat) ^ (19 + 1) = 100000000000000000000 := by decide
                               omega)]
    rfl
theorem joinF_eq (sep : List UInt8) : ∀ xs : List (List UInt8), joinF sep xs = Lib.join xs sep
  | [] => rfl
  | [w] => by rw [Lib.join_one]; rfl
  | w :: v :: r => by
    rw [Lib.join_cons]
    simp only [joinF]
    rw [joinF_eq sep (v :: r), Lib.join_cons]
    simp [Lib.joinTail]

/-- strconv.Itoa is number fi, strings.Join number fj. -/
def orcS (fi fj : FuncId) : FuncId → List Value → Heap → Option (Value × Heap) := fun f xs h =>
  bif Nat.beq f fi then
    match xs with
    | [.int .i64 n] => bif decide (-1000000000000000000 < n) && decide (n < 1000000000000000000) then some (.string ⟨(itoaF n).toArray⟩, h) else none
    | _ => none
  else bif Nat.beq f fj then
    match xs with
    | [.slice (some ⟨b, o, none⟩) n _, .string sep] =>
      match h.get b with
      | some (.row _ cs _ _) =>
        bif Nat.ble (o + n) cs.length && Nat.ble n 1000000 then
          match strs ((cs.drop o).take n) with
          | some ss => let r := joinF sep.data.toList (ss.map (·.data.toList))
            bif Nat.ble r.length 1000000000 then some (.string ⟨r.toArray⟩, h) else none
          | none => none
        else none
      | _ => none
    | _ => none
  else none
variable {B : Nat} {w0 w w' : World} {ρ : Ren} {S : Nat → Prop} {h : Heap}
theorem strs_ok : ∀ (cs cs' : List Value) (ss : List ByteArray), LR ρ S cs cs' → strs cs = some ss → cs' = ss.map .string
  | [], cs', ss, hl, hs => by
    simp only [strs, Option.some.injEq] at hs
    subst hs
    exact List.eq_nil_of_length_eq_zero hl.1.symm
  | v :: r, [], ss, hl, _ => by have := hl.1; simp at this
  | v :: r, v' :: r', ss, hl, hs => by
    unfold strs at hs
    split at hs
    · rename_i he; cases he
    · rename_i s r0 he
      simp only [List.cons.injEq] at he
      obtain ⟨rfl, rfl⟩ := he
      obtain ⟨ss0, h1, rfl⟩ := Option.map_eq_some_iff.1 hs
      have hv : VR ρ S (.string s) v' := hl.2 0 (by simp)
      have hr : LR ρ S r r' := ⟨by have := hl.1; simpa using this, fun i hi => by have := hl.2 (i + 1) (by simp; omega); simpa using this⟩
      rw [hv.string_inv, strs_ok r r' ss0 hr h1]
      rfl
    · cases hs

/-- The two contracts make the oracle sound. -/
theorem orcS_sound {fi fj : FuncId} (hi : Enters P fi) (hj : Enters P fj)
    (hI : ∀ (n : Int) (w : World), Below B w0 w → -9223372036854775808 ≤ n → n ≤ 9223372036854775807 → Calls P fi #[.int .i64 n] w fun e w' => e = .returned (.string ⟨(Lib.itoa n).toArray⟩) ∧ Below w.heap.size w w')
    (hJ : ∀ (bk o c : Nat) (xs : List ByteArray) (sep : ByteArray) (w : World), (∀ (j : Nat) x, xs[j]? = some x → w.cell? ⟨bk, o + j, none⟩ = some (.string x)) → bk < w.heap.size → xs.length ≤ 140737488355328 → xs.length ≤ c →
      (Lib.join (xs.map (·.data.toList)) sep.data.toList).length ≤ 140737488355328 →
      Calls P fj #[.slice (some ⟨bk, o, none⟩) xs.length c, .string sep] w fun e w' => e = .returned (.string ⟨(Lib.join (xs.map (·.data.toList)) sep.data.toList).toArray⟩) ∧ Below w.heap.size w w') :
    CallSound P B w0 (orcS fi fj) := by
  intro f xs h v h' hf
  unfold orcS at hf
  cases hfi : Nat.beq f fi with
  | true =>
    have := nbeq hfi
    subst this
    rw [hfi] at hf
    simp only [cond_true] at hf
    split at hf
    · rename_i n
      obtain ⟨hc, hf2⟩ := bif_some hf
      obtain ⟨h0, h1⟩ := band hc
      have h0 := of_decide_eq_true h0
      have h1 := of_decide_eq_true h1
      simp only [Option.some.injEq, Prod.mk.injEq] at hf2
      obtain ⟨rfl, rfl⟩ := hf2
      refine ⟨hi, fun ρ S w args' hr ha nn => ?_⟩
      have he : args' = [.int .i64 n] := ha.eq_of_af (by rfl)
      subst he
      have hC : CallsIn Fence.wide nn P f #[.int .i64 n] w _ := callsIn_wide.2 (hI n w hr.below (by omega) (by omega))
      refine hC.mono fun e w' hret => ?_
      obtain ⟨rfl, hb⟩ := hret
      exact ⟨ρ, Moved.grewWorld hr hb, by rw [itoaF_eq h0 h1]; exact .lit rfl⟩
    · cases hf
  | false =>
    rw [hfi] at hf
    simp only [cond_false] at hf
    obtain ⟨hfj, hf2⟩ := bif_some hf
    have := nbeq hfj
    subst this
    clear hf
    split at hf2
    · rename_i b o n mk sep
      split at hf2
      · rename_i e cs own more hg
        obtain ⟨hc, hf3⟩ := bif_some hf2
        obtain ⟨hle, hn⟩ := band hc
        have hle := nble hle
        have hn := nble hn
        split at hf3
        · rename_i ss hss
          obtain ⟨hlen, hf4⟩ := bif_some hf3
          have hlen := nble hlen
          simp only [Option.some.injEq, Prod.mk.injEq] at hf4
          obtain ⟨rfl, rfl⟩ := hf4
          refine ⟨hj, fun ρ S w args' hr ha nn => ?_⟩
          match args', ha with
          | [x', s'], ha =>
            have hx : VR ρ S (.slice (some ⟨b, o, none⟩) n mk) x' := ha.2 0 (by simp)
            have hs : VR ρ S (.string sep) s' := ha.2 1 (by simp)
            obtain ⟨A, c, rfl, hnc, _, _, hb⟩ := hx.slice_inv
            obtain rfl := hs.string_inv
            have hb0 : b ≠ 0 := (hr.ids b (hr.objs b _ hg).1).2
            obtain ⟨_, rfl, _⟩ := hb hb0
            have hobj := (hr.objs b _ hg).2
            have hlt : (ρ b).block < w.heap.size := by
              by_cases hown : ownO (.row e cs own more) = true
              · exact hobj.lt hown
              · have := hr.ro b _ hg (by simpa using hown)
                have := hr.size
                omega
            have hlr : LR ρ S ((cs.drop o).take n) ((List.range n).map fun j => (w.cell? ((ρ b).at (o + j))).getD undef) := by
              refine LR.of_get? (by simp; omega) fun i v v' hv hv' => ?_
              rw [List.getElem?_take] at hv
              split at hv
              · rename_i hin
                rw [List.getElem?_drop] at hv
                obtain ⟨u, h1, h2⟩ := hobj.cell (i := o + i) (by omega)
                simp [hin, h1] at hv'
                subst hv'
                have : cs.getD (o + i) undef = v := by simp [List.getD, hv]
                rwa [this] at h2
              · cases hv
            have heq := strs_ok _ _ ss hlr hss
            have hsl : ss.length = n := by
              have := congrArg List.length heq
              simp at this
              omega
            have hcells : ∀ (j : Nat) x, ss[j]? = some x → w.cell? ⟨(ρ b).block, (ρ b).off + o + j, none⟩ = some (.string x) := fun j x hjx => by
              have hjn : j < n := by have := (List.getElem?_eq_some_iff.1 hjx).1; omega
              obtain ⟨u, h1, h2⟩ := hobj.cell (i := o + j) (by omega)
              have h3 := congrArg (·[j]?) heq
              simp [hjn, hjx, h1] at h3
              subst h3
              simpa [Loc.at, Nat.add_assoc] using h1
            rw [joinF_eq] at hlen
            have hC : CallsIn Fence.wide nn P f #[.slice (some ⟨(ρ b).block, (ρ b).off + o, none⟩) ss.length c, .string sep] w _ := callsIn_wide.2 (hJ (ρ b).block ((ρ b).off + o) c ss sep w hcells hlt (by omega) (by omega) (by omega))
            rw [hsl] at hC
            refine hC.mono fun e w' hret => ?_
            obtain ⟨rfl, hb⟩ := hret
            exact ⟨ρ, Moved.grewWorld hr hb, by rw [joinF_eq]; exact .lit rfl⟩
        · cases hf3
      · cases hf2
    · cases hf2

end Go.Fs
namespace Go.Fs
open Go.RowKit (Below)
variable {P : Program}

/-- As orcS; function fa answers true. -/
def orcA (fi fj fa : FuncId) : FuncId → List Value → Heap → Option (Value × Heap) := fun f xs h =>
  bif Nat.beq f fa then
    match xs with
    | [] => some (.bool true, h)
    | _ => none
  else orcS fi fj f xs h

theorem orcA_sound {B : Nat} {w0 : World} {fi fj fa : FuncId} (hS : CallSound P B w0 (orcS fi fj)) (ha : Enters P fa)
    (hA : ∀ w, Below B w0 w → Calls P fa #[] w fun | .returned v', w' => v' = .bool true ∧ Below w.heap.size w w' | _, _ => False) : CallSound P B w0 (orcA fi fj fa) := by
  intro f xs h v h' hf
  unfold orcA at hf
  cases hb : Nat.beq f fa with
  | true =>
    have := nbeq hb
    subst this
    rw [hb] at hf
    simp only [cond_true] at hf
    split at hf
    · simp only [Option.some.injEq, Prod.mk.injEq] at hf
      obtain ⟨rfl, rfl⟩ := hf
      refine ⟨ha, fun ρ S w args' hr har nn => ?_⟩
      have he : args' = [] := List.eq_nil_of_length_eq_zero har.1.symm
      subst he
      have hC : CallsIn Fence.wide nn P f #[] w _ := callsIn_wide.2 (hA w hr.below)
      refine hC.mono fun e w' hret => ?_
      cases e with
      | returned v' =>
        obtain ⟨rfl, hb⟩ := hret
        exact ⟨ρ, Moved.grewWorld hr hb, .lit rfl⟩
      | panicked c => exact hret.elim
      | outgrown => exact hret.elim
    · cases hf
  | false =>
    rw [hb] at hf
    exact hS f xs h v h' hf

/-- The closed call's soundness, at every world behind w0. -/
theorem awake_calls (hP : ProgOk P) {B : Nat} {w0 : World} {fi fj fa : FuncId} (hS : ∀ w, Below B w0 w → CallSound P w.heap.size w (orcS fi fj)) {m : Nat}
    (hrun : (fsEnter P (fsCode P (orcS fi fj) m) fa [] ⟨1, 1, []⟩).map (·.1) = some (.bool true)) (w : World) (hw : Below B w0 w) :
    Calls P fa #[] w fun | .returned v', w' => v' = .bool true ∧ Below w.heap.size w w' | _, _ => False :=
  fs_closed hP (hS w hw) (args := []) rfl hrun rfl
end Go.Fs
namespace Go.Proofs
open Go.Fs
set_option linter.unusedVariables false
def OA := orcA 211 154 16
abbrev y22 : Ty := (.sl (.int .i64))
abbrev y179 : Ty := (.sl (.int .i64))
theorem vt3 : ValT Tryz.prog 3 (.int .i64) := valT_of (by kernel_rfl)
theorem vt26 : ValT Tryz.prog 26 (.int .i64) := valT_of (by kernel_rfl)
theorem el22 : ElT Tryz.prog 22 3 (.int .i64) := elT_of (by kernel_rfl)
theorem el179 : ElT Tryz.prog 179 26 (.int .i64) := elT_of (by kernel_rfl)
def whenE (c : Bool) (e : Int) : Int := bif c then e else 0
theorem sWhen_ok {c : Bool} {e : Int} : VF Tryz.prog OA 93 [B c, I e] (I (whenE c e)) := by
  refine VF.enter Tryz.func93 rfl (fun _ _ => rfl) rfl ?_
  show VC _ _ _ _ _ [(0, B c), (1, I e)] [] _
  refine VC.seq ?_
  refine VC.text ?_
  refine VO.c (.assign rfl) ?_
  refine VO.go ?_
  refine VC.seq ?_
  refine VC.seq ?_
  refine VC.text ?_
  refine VO.c (.move rfl) ?_
  refine VO.go ?_
  refine VC.condB rfl (fun c1 => ?_) (fun c1 => ?_)
  · subst c1
    refine VC.seq ?_
    refine VC.text ?_
    refine VO.c (.move rfl) ?_
    refine VO.c (.assign rfl) ?_
    refine VO.go ?_
    refine VC.ret ?_
    exact VEnd.one rfl evT (pvI (by rfl))
  · subst c1
    refine VC.skip ?_
    show VC _ _ _ _ _ _ _ _
    refine VC.seq ?_
    refine VC.text ?_
    refine VO.c (.assign rfl) ?_
    refine VO.go ?_
    refine VC.ret ?_
    exact VEnd.one rfl evT (pvI (by rfl))
def rangeE (n lo hi : Int) : Int := if n < lo ∨ hi < n then 3 else 0
theorem rCheckRange_ok {n : Int} {lo : Int} {hi : Int} : VF Tryz.prog OA 40 [I n, I lo, I hi] (I (rangeE n lo hi)) := by
  refine VF.enter Tryz.func40 rfl (fun _ _ => rfl) rfl ?_
  show VC _ _ _ _ _ [(0, I n), (1, I lo), (2, I hi)] [] _
  refine VC.seq ?_
  refine VC.text ?_
  refine VO.c (.assign rfl) ?_
  refine VO.go ?_
  refine VC.seq ?_
  refine VC.seq ?_
  refine VC.text ?_
  refine VO.c (.move rfl) ?_
  refine VO.c (.move rfl) ?_
  refine VO.c (.lss) ?_
  refine VO.c (.move rfl) ?_
  refine VO.cg (r := decide (n < lo)) (w := false) [] trivial (fun hgd => have g1_3 : ¬ (n < lo) := (by simpa using hgd); (.move rfl)) ?_
  refine VO.cg (r := decide (n < lo)) (w := false) [] trivial (fun hgd => have g1_3 : ¬ (n < lo) := (by simpa using hgd); (.move rfl)) ?_
  refine VO.cg (r := decide (n < lo)) (w := false) [(11, I n), (12, I hi)] ⟨rfl, rfl, trivial⟩ (fun hgd => have g1_3 : ¬ (n < lo) := (by simpa using hgd); (.gtr)) ?_
  refine VO.c (.or) ?_
  refine VO.go ?_
  refine VC.condB rfl (fun c1 => ?_) (fun c1 => ?_)
  · try simp only [Bool.and_eq_true, Bool.or_eq_true, Bool.and_eq_false_iff, Bool.or_eq_false_iff, Bool.not_eq_true', Bool.not_eq_false', decide_eq_true_eq, decide_eq_false_iff_not] at c1
    refine VC.seq ?_
    refine VC.text ?_
    refine VO.c (.assign rfl) ?_
    refine VO.go ?_
    refine VC.ret ?_
    exact VEnd.one rfl evT (pvI (by simp only [rangeE, ← Bool.decide_or, decide_eq_true_eq, decide_eq_false_iff_not, Bool.or_eq_true, Bool.or_eq_false_iff] at *; first | rw [if_pos (by omega)] | rw [if_neg (by omega)]))
  · try simp only [Bool.and_eq_true, Bool.or_eq_true, Bool.and_eq_false_iff, Bool.or_eq_false_iff, Bool.not_eq_true', Bool.not_eq_false', decide_eq_true_eq, decide_eq_false_iff_not] at c1
    refine VC.skip ?_
    show VC _ _ _ _ _ _ _ _
    refine VC.seq ?_
    refine VC.text ?_
    refine VO.c (.assign rfl) ?_
    refine VO.go ?_
    refine VC.ret ?_
    exact VEnd.one rfl evT (pvI (by simp only [rangeE, ← Bool.decide_or, decide_eq_true_eq, decide_eq_false_iff_not, Bool.or_eq_true, Bool.or_eq_false_iff] at *; first | rw [if_pos (by omega)] | rw [if_neg (by omega)]))
theorem whenE_range {n lo hi : Int} : whenE (decide (n < lo) || decide (hi < n)) 3 = rangeE n lo hi := by
  unfold whenE rangeE
  by_cases h1 : n < lo <;> by_cases h2 : hi < n <;> simp [h1, h2]
theorem sWithin_ok {n : Int} {lo : Int} {hi : Int} : VF Tryz.prog OA 101 [I n, I lo, I hi] (I (rangeE n lo hi)) := by
  refine VF.enter Tryz.func101 rfl (fun _ _ => rfl) rfl ?_
  show VC _ _ _ _ _ [(0, I n), (1, I lo), (2, I hi)] [] _
  refine VC.seq ?_
  refine VC.text ?_
  refine VO.c (.assign rfl) ?_
  refine VO.go ?_
  refine VC.seq ?_
  refine VC.text ?_
  refine VO.c (.move rfl) ?_
  refine VO.c (.move rfl) ?_
  refine VO.c (.lss) ?_
  refine VO.c (.move rfl) ?_
  refine VO.cg (r := decide (n < lo)) (w := false) [] trivial (fun hgd => have g1_3 : ¬ (n < lo) := (by simpa using hgd); (.move rfl)) ?_
  refine VO.cg (r := decide (n < lo)) (w := false) [] trivial (fun hgd => have g1_3 : ¬ (n < lo) := (by simpa using hgd); (.move rfl)) ?_
  refine VO.cg (r := decide (n < lo)) (w := false) [(11, I n), (12, I hi)] ⟨rfl, rfl, trivial⟩ (fun hgd => have g1_3 : ¬ (n < lo) := (by simpa using hgd); (.gtr)) ?_
  refine VO.c (.or) ?_
  refine VO.call rfl rfl (VF.call (sWhen_ok )) ?_
  refine VO.c (.assign rfl) ?_
  refine VO.go ?_
  refine VC.ret ?_
  exact VEnd.one rfl evT (pvI (by exact whenE_range))
def firstE : List Int → Int
  | [] => 0
  | x :: r => if x = 0 then firstE r else x
theorem firstE_drop {xs : List Int} {j : Nat} (hj : j < xs.length) : firstE (xs.drop j) = if xs[j] = 0 then firstE (xs.drop (j + 1)) else xs[j] := by
  rw [List.drop_eq_getElem_cons hj] <;> rfl
theorem firstE_end {xs : List Int} {j : Nat} (hj : xs.length ≤ j) : firstE (xs.drop j) = 0 := by rw [List.drop_eq_nil_of_le hj] <;> rfl
theorem sFirst_ok {l : List Int} (hl : l.length < 1000000) : VF Tryz.prog OA 92 [.v y179 l] (I (firstE l)) := by
  refine VF.enter Tryz.func92 rfl (fun _ _ => rfl) rfl ?_
  show VC _ _ _ _ _ [(0, .v y179 l)] [] _
  refine VC.seq ?_
  refine VC.text ?_
  refine VO.c (.assign rfl) ?_
  refine VO.go ?_
  refine VC.seq ?_
  refine VC.seq ?_
  refine VC.text ?_
  refine VO.c (.move rfl) ?_
  refine VO.r (.len el179) ?_
  refine VO.c (.move rfl) ?_
  refine VO.go ?_
  refine VC.block ?_
  refine VC.keep [(5, .v y179 l), (6, I ((l.length : Nat) : Int)), (7, I ((0 : Nat) : Int))] ⟨rfl, rfl, rfl, trivial⟩ ?_
  refine VC.loop (I := fun kk ff ss => ∃ (j : Nat), kk = l.length - j ∧ ff = [(5, .v y179 l), (6, I ((l.length : Nat) : Int)), (7, I ((j : Nat) : Int))] ∧ ss = [] ∧ (j ≤ l.length) ∧ (firstE l = firstE (l.drop j))) ?_ _ _ _ ⟨0, rfl, rfl, rfl, Nat.zero_le _, (by rfl)⟩
  rintro kk ff ss ⟨j, hk0, rfl, rfl, hj, hf⟩
  refine VC.seq ?_
  refine VC.text ?_
  refine VO.c (.lss) ?_
  refine VO.go ?_
  refine VC.seq ?_
  refine VC.condD rfl (fun c2 => ?_) (fun c2 => ?_)
  · refine VC.skip ?_
    show VC _ _ _ _ _ _ _ _
    refine VC.seq ?_
    refine VC.block ?_
    refine VC.seq ?_
    refine VC.text ?_
    refine VO.c (.ix (j := j) rfl rfl el179 (by omega)) ?_
    refine VO.r (.ld vt26) ?_
    refine VO.c (.assign rfl) ?_
    refine VO.go ?_
    refine VC.seq ?_
    refine VC.text ?_
    refine VO.c (.move rfl) ?_
    refine VO.c (.neq) ?_
    refine VO.go ?_
    refine VC.condD rfl (fun c4 => ?_) (fun c4 => ?_)
    · refine VC.seq ?_
      refine VC.text ?_
      refine VO.c (.move rfl) ?_
      refine VO.c (.assign rfl) ?_
      refine VO.go ?_
      refine VC.ret ?_
      exact VEnd.one rfl evT (pvI (by rw [hf, firstE_drop (by omega), if_neg c4]))
    · refine VC.skip ?_
      show VC _ _ _ _ _ _ _ _
      refine VC.text ?_
      refine VO.c (.add rfl rfl (by omega)) ?_
      refine VO.c (.move rfl) ?_
      refine VO.nil ?_
      refine ⟨_, [(5, .v y179 l), (6, I ((l.length : Nat) : Int)), (7, I (((j + 1) : Nat) : Int))], ?_, ⟨rfl, rfl, rfl, trivial⟩, (j + 1), rfl, rfl, rfl, (by omega), (by rw [hf, firstE_drop (by omega), if_pos (by simpa using c4)])⟩
      omega
  · refine VC.exit ?_
    show VC _ _ _ _ _ _ _ _
    refine VC.seq ?_
    refine VC.text ?_
    refine VO.c (.assign rfl) ?_
    refine VO.go ?_
    refine VC.ret ?_
    exact VEnd.one rfl evT (pvI (by rw [hf, firstE_end (by omega)]))
theorem rFirst_ok {l : List Int} (hl : l.length < 1000000) : VF Tryz.prog OA 96 [.v y22 l] (I (firstE l)) := by
  refine VF.enter Tryz.func96 rfl (fun _ _ => rfl) rfl ?_
  show VC _ _ _ _ _ [(0, .v y22 l)] [] _
  refine VC.seq ?_
  refine VC.text ?_
  refine VO.c (.assign rfl) ?_
  refine VO.go ?_
  refine VC.seq ?_
  refine VC.seq ?_
  refine VC.text ?_
  refine VO.c (.assign rfl) ?_
  refine VO.go ?_
  refine VC.block ?_
  refine VC.keep [(0, .v y22 l), (3, I ((0 : Nat) : Int))] ⟨rfl, rfl, trivial⟩ ?_
  refine VC.loop (I := fun kk ff ss => ∃ (j : Nat), kk = l.length - j ∧ ff = [(0, .v y22 l), (3, I ((j : Nat) : Int))] ∧ ss = [] ∧ (j ≤ l.length) ∧ (firstE l = firstE (l.drop j))) ?_ _ _ _ ⟨0, rfl, rfl, rfl, Nat.zero_le _, (by rfl)⟩
  rintro kk ff ss ⟨j, hk0, rfl, rfl, hj, hf⟩
  refine VC.seq ?_
  refine VC.seq ?_
  refine VC.text ?_
  refine VO.c (.move rfl) ?_
  refine VO.c (.move rfl) ?_
  refine VO.r (.len el22) ?_
  refine VO.c (.lss) ?_
  refine VO.go ?_
  refine VC.condD rfl (fun c2 => ?_) (fun c2 => ?_)
  · refine VC.skip ?_
    show VC _ _ _ _ _ _ _ _
    refine VC.seq ?_
    refine VC.block ?_
    refine VC.seq ?_
    refine VC.text ?_
    refine VO.c (.move rfl) ?_
    refine VO.c (.move rfl) ?_
    refine VO.c (.ix (j := j) rfl rfl el22 (by omega)) ?_
    refine VO.r (.ld vt3) ?_
    refine VO.c (.neq) ?_
    refine VO.go ?_
    refine VC.condD rfl (fun c4 => ?_) (fun c4 => ?_)
    · refine VC.seq ?_
      refine VC.text ?_
      refine VO.c (.move rfl) ?_
      refine VO.c (.move rfl) ?_
      refine VO.c (.ix (j := j) rfl rfl el22 (by omega)) ?_
      refine VO.r (.ld vt3) ?_
      refine VO.c (.assign rfl) ?_
      refine VO.go ?_
      refine VC.ret ?_
      exact VEnd.one rfl evT (pvI (by rw [hf, firstE_drop (by omega), if_neg c4]))
    · refine VC.skip ?_
      show VC _ _ _ _ _ _ _ _
      refine VC.text ?_
      refine VO.c (.move rfl) ?_
      refine VO.c (.add rfl rfl (by omega)) ?_
      refine VO.c (.assign rfl) ?_
      refine VO.nil ?_
      refine ⟨_, [(0, .v y22 l), (3, I (((j + 1) : Nat) : Int))], ?_, ⟨rfl, rfl, trivial⟩, (j + 1), rfl, rfl, rfl, (by omega), (by rw [hf, firstE_drop (by omega), if_pos (by simpa using c4)])⟩
      omega
  · refine VC.exit ?_
    show VC _ _ _ _ _ _ _ _
    refine VC.seq ?_
    refine VC.text ?_
    refine VO.c (.assign rfl) ?_
    refine VO.go ?_
    refine VC.ret ?_
    exact VEnd.one rfl evT (pvI (by rw [hf, firstE_end (by omega)]))
theorem lInts_ok {l : List Int} (hl : l.length < 1000000) : VF Tryz.prog OA 19 [.v y22 l] (.v y22 l) := by
  refine VF.enter Tryz.func19 rfl (fun _ _ => rfl) rfl ?_
  show VC _ _ _ _ _ [(0, .v y22 l)] [] _
  refine VC.seq ?_
  refine VC.text ?_
  refine VO.c (.assign rfl) ?_
  refine VO.go ?_
  refine VC.seq ?_
  refine VC.text ?_
  refine VO.cell (.lit0 el22) ?_
  intro ww1
  refine VO.c (.move rfl) ?_
  refine VO.app rfl rfl el22 el22 (by simp; omega) ?_
  intro ww2
  refine VO.c (.assign rfl) ?_
  refine VO.go ?_
  refine VC.ret ?_
  exact VEnd.one rfl (evC (.row m0)) (pvE (by first | rfl | simp))
theorem sMapIE_ok {F : Int → Int} {l : List Int} {f : PV} (hl : l.length < 100000) (hf : ∀ x ∈ l, VCall Tryz.prog OA f [I x] (.v (.int .i64) (F x))) : VF Tryz.prog OA 99 [.v y22 l, f] (.v y179 (l.map F)) := by
  refine VF.enter Tryz.func99 rfl (fun _ _ => rfl) rfl ?_
  show VC _ _ _ _ _ [(0, .v y22 l), (1, f)] [] _
  refine VC.seq ?_
  refine VC.text ?_
  refine VO.c (.assign rfl) ?_
  refine VO.go ?_
  refine VC.seq ?_
  refine VC.text ?_
  refine VO.c (.assign rfl) ?_
  refine VO.go ?_
  refine VC.seq ?_
  refine VC.seq ?_
  refine VC.text ?_
  refine VO.c (.move rfl) ?_
  refine VO.r (.len el22) ?_
  refine VO.c (.move rfl) ?_
  refine VO.go ?_
  refine VC.block ?_
  refine VC.cell0 26 (.int .i64) ?_
  refine VC.keep [(1, f), (5, .raw (.slice none 0 0)), (8, .v y22 l), (9, I ((l.length : Nat) : Int)), (10, I ((0 : Nat) : Int))] ⟨rfl, rfl, rfl, rfl, rfl, trivial⟩ ?_
  refine VC.loop (I := fun kk ff ss => ∃ (j : Nat) (out : Value), kk = l.length - j ∧ ff = [(1, f), (5, .raw out), (8, .v y22 l), (9, I ((l.length : Nat) : Int)), (10, I ((j : Nat) : Int))] ∧ ss = [(out, .row 26 (.int .i64) ((l.take j).map F))] ∧ (j ≤ l.length)) ?_ _ _ _ ⟨0, (.slice none 0 0), rfl, rfl, rfl, Nat.zero_le _⟩
  rintro kk ff ss ⟨j, out, hk0, rfl, rfl, hj⟩
  refine VC.seq ?_
  refine VC.text ?_
  refine VO.c (.lss) ?_
  refine VO.go ?_
  refine VC.seq ?_
  refine VC.condD rfl (fun c3 => ?_) (fun c3 => ?_)
  · refine VC.skip ?_
    show VC _ _ _ _ _ _ _ _
    refine VC.seq ?_
    refine VC.block ?_
    refine VC.seq ?_
    refine VC.text ?_
    refine VO.c (.ix (j := j) rfl rfl el22 (by omega)) ?_
    refine VO.r (.ld vt3) ?_
    refine VO.c (.assign rfl) ?_
    refine VO.go ?_
    refine VC.text ?_
    refine VO.c (.move rfl) ?_
    refine VO.c (.move rfl) ?_
    refine VO.c (.move rfl) ?_
    refine VO.call rfl rfl ((hf _ (List.getElem_mem _)) ) ?_
    refine VO.new (.lit [F (l[j])] el179) ?_
    refine VO.app rfl rfl el179 el179 (by simp; omega) ?_
    intro ww3
    refine VO.c (.assign rfl) ?_
    refine VO.nil ?_
    show VC _ _ _ _ _ _ _ _
    refine VC.text ?_
    refine VO.c (.add rfl rfl (by omega)) ?_
    refine VO.c (.move rfl) ?_
    refine VO.nil ?_
    refine ⟨_, [(1, f), (5, .raw ww3), (8, .v y22 l), (9, I ((l.length : Nat) : Int)), (10, I (((j + 1) : Nat) : Int))], ?_, ⟨rfl, rfl, rfl, rfl, rfl, trivial⟩, (j + 1), ww3, rfl, rfl, (by rw [List.take_succ_eq_append_getElem (by omega), List.map_append] <;> rfl), (by omega)⟩
    omega
  · refine VC.exit ?_
    show VC _ _ _ _ _ _ _ _
    refine VC.seq ?_
    refine VC.text ?_
    refine VO.c (.move rfl) ?_
    refine VO.c (.assign rfl) ?_
    refine VO.go ?_
    refine VC.ret ?_
    exact VEnd.one rfl (evC (.row m0)) (pvE (by rw [List.take_of_length_le (by omega)]))
theorem sHeight_ok {n : Int} : VF Tryz.prog OA 109 [I n] (I (rangeE n (-1048576) 1048576)) := by
  refine VF.enter Tryz.func109 rfl (fun _ _ => rfl) rfl ?_
  show VC _ _ _ _ _ [(0, I n)] [] _
  refine VC.seq ?_
  refine VC.text ?_
  refine VO.c (.assign rfl) ?_
  refine VO.go ?_
  refine VC.seq ?_
  refine VC.text ?_
  refine VO.c (.move rfl) ?_
  refine VO.call rfl rfl (VF.call (sWithin_ok )) ?_
  refine VO.c (.assign rfl) ?_
  refine VO.go ?_
  refine VC.ret ?_
  exact VEnd.one rfl evT (pvI (by first | rfl | simp))
def heightsE (l : List Int) : Int := firstE (l.map fun x => rangeE x (-1048576) 1048576)
theorem sHeights_ok {l : List Int} (hl : l.length < 100000) : VF Tryz.prog OA 94 [.v y22 l] (I (heightsE l)) := by
  refine VF.enter Tryz.func94 rfl (fun _ _ => rfl) rfl ?_
  show VC _ _ _ _ _ [(0, .v y22 l)] [] _
  refine VC.seq ?_
  refine VC.text ?_
  refine VO.c (.assign rfl) ?_
  refine VO.go ?_
  refine VC.seq ?_
  refine VC.text ?_
  refine VO.c (.move rfl) ?_
  refine VO.call rfl rfl (VF.call (sMapIE_ok (F := fun x => rangeE x (-1048576) 1048576) hl (fun _ _ => VF.call sHeight_ok))) ?_
  refine VO.call rfl rfl (VF.call (sFirst_ok (by simpa using (by omega : l.length < 1000000)))) ?_
  refine VO.c (.assign rfl) ?_
  refine VO.go ?_
  refine VC.ret ?_
  exact VEnd.one rfl evT (pvI (by first | rfl | simp))
end Go.Proofs
namespace Go.Proofs
open Go.Fs
set_option linter.unusedVariables false
abbrev y24 : Ty := (.pair (.sl (.int .i64)) (.pair (.int .i64) (.int .i64)))
abbrev y29 : Ty := (.pair (.sl (.int .i64)) (.pair (.int .i64) (.int .i64)))
theorem vt22 : ValT Tryz.prog 22 y22 := valT_of (by kernel_rfl)
theorem heightsE_drop {l : List Int} {j : Nat} (hj : j < l.length) : heightsE (l.drop j) = if rangeE l[j] (-1048576) 1048576 = 0 then heightsE (l.drop (j + 1)) else rangeE l[j] (-1048576) 1048576 := by
  rw [heightsE, List.drop_eq_getElem_cons hj] <;> rfl
theorem heightsE_end {l : List Int} {j : Nat} (hj : l.length ≤ j) : heightsE (l.drop j) = 0 := by rw [List.drop_eq_nil_of_le hj] <;> rfl
theorem rHeights_ok {l : List Int} (hl : l.length < 1000000) : VF Tryz.prog OA 97 [.v y22 l] (I (heightsE l)) := by
  refine VF.enter Tryz.func97 rfl (fun _ _ => rfl) rfl ?_
  show VC _ _ _ _ _ [(0, .v y22 l)] [] _
  refine VC.seq ?_
  refine VC.text ?_
  refine VO.c (.assign rfl) ?_
  refine VO.go ?_
  refine VC.seq ?_
  refine VC.seq ?_
  refine VC.text ?_
  refine VO.c (.assign rfl) ?_
  refine VO.go ?_
  refine VC.block ?_
  refine VC.keep [(0, .v y22 l), (3, I ((0 : Nat) : Int))] ⟨rfl, rfl, trivial⟩ ?_
  refine VC.loop (I := fun kk ff ss => ∃ (j : Nat), kk = l.length - j ∧ ff = [(0, .v y22 l), (3, I ((j : Nat) : Int))] ∧ ss = [] ∧ (j ≤ l.length) ∧ (heightsE l = heightsE (l.drop j))) ?_ _ _ _ ⟨0, rfl, rfl, rfl, Nat.zero_le _, (by rfl)⟩
  rintro kk ff ss ⟨j, hk0, rfl, rfl, hj, hf⟩
  refine VC.seq ?_
  refine VC.seq ?_
  refine VC.text ?_
  refine VO.c (.move rfl) ?_
  refine VO.c (.move rfl) ?_
  refine VO.r (.len el22) ?_
  refine VO.c (.lss) ?_
  refine VO.go ?_
  refine VC.condD rfl (fun c2 => ?_) (fun c2 => ?_)
  · refine VC.skip ?_
    show VC _ _ _ _ _ _ _ _
    refine VC.seq ?_
    refine VC.block ?_
    refine VC.seq ?_
    refine VC.text ?_
    refine VO.c (.move rfl) ?_
    refine VO.c (.move rfl) ?_
    refine VO.c (.ix (j := j) rfl rfl el22 (by omega)) ?_
    refine VO.r (.ld vt3) ?_
    refine VO.call rfl rfl (VF.call (rCheckRange_ok )) ?_
    refine VO.c (.assign rfl) ?_
    refine VO.go ?_
    refine VC.seq ?_
    refine VC.text ?_
    refine VO.c (.move rfl) ?_
    refine VO.c (.neq) ?_
    refine VO.go ?_
    refine VC.condD rfl (fun c5 => ?_) (fun c5 => ?_)
    · refine VC.seq ?_
      refine VC.text ?_
      refine VO.c (.move rfl) ?_
      refine VO.c (.assign rfl) ?_
      refine VO.go ?_
      refine VC.ret ?_
      exact VEnd.one rfl evT (pvI (by rw [hf, heightsE_drop (by omega), if_neg c5]))
    · refine VC.skip ?_
      show VC _ _ _ _ _ _ _ _
      refine VC.text ?_
      refine VO.c (.move rfl) ?_
      refine VO.c (.add rfl rfl (by omega)) ?_
      refine VO.c (.assign rfl) ?_
      refine VO.nil ?_
      refine ⟨_, [(0, .v y22 l), (3, I (((j + 1) : Nat) : Int))], ?_, ⟨rfl, rfl, trivial⟩, (j + 1), rfl, rfl, rfl, (by omega), (by rw [hf, heightsE_drop (by omega), if_pos (by simpa using c5)])⟩
      omega
  · refine VC.exit ?_
    show VC _ _ _ _ _ _ _ _
    refine VC.seq ?_
    refine VC.text ?_
    refine VO.c (.assign rfl) ?_
    refine VO.go ?_
    refine VC.ret ?_
    exact VEnd.one rfl evT (pvI (by rw [hf, heightsE_end (by omega)]))
def numbersE (l : List Int) : Int := if (96 : Int) < l.length then 5 else heightsE l
theorem whenE_t {p : Prop} {inst : Decidable p} {e : Int} (h : p) : whenE (@decide p inst) e = e := by rw [decide_eq_true h] <;> rfl
theorem whenE_f {p : Prop} {inst : Decidable p} {e : Int} (h : ¬ p) : whenE (@decide p inst) e = 0 := by rw [decide_eq_false h] <;> rfl
def tapsE (l : List Int) : Int := firstE (l.map fun x => rangeE x (-64) 64)
def transferE (t : List Int × Int × Int) : Int := firstE [whenE (decide ((t.1.length : Int) = 0)) 12, whenE (decide ((8 : Int) < t.1.length)) 5, tapsE t.1, rangeE t.2.1 0 8, rangeE t.2.2 (-1024) 1024]
/-! ## Transfers, applied -/
def tapSum (a l : List Int) (i : Nat) : Nat → Int
  | 0 => 0
  | k + 1 => tapSum a l i k + a.getD k 0 * l.getD (max 0 ((i : Int) - k)).toNat 0
def applyE (t : List Int × Int × Int) (l : List Int) : List Int := (List.range l.length).map fun i => (tapSum t.1 l i t.1.length).fdiv (2 ^ t.2.1.toNat) + t.2.2
structure OkT (t : List Int × Int × Int) : Prop where
  taps : ∀ x ∈ t.1, -64 ≤ x ∧ x ≤ 64
  len : t.1.length ≤ 8
  shift : 0 ≤ t.2.1 ∧ t.2.1 ≤ 8
  off : -1024 ≤ t.2.2 ∧ t.2.2 ≤ 1024
structure OkL (l : List Int) : Prop where
  all : ∀ x ∈ l, -1048576 ≤ x ∧ x ≤ 1048576
  len : l.length ≤ 96
theorem getD_mem_or {l : List Int} (i : Nat) : l.getD i 0 = 0 ∨ l.getD i 0 ∈ l := by
  by_cases h : i < l.length
  · right; simp [List.getD, h]
  · left; simp [List.getD, List.getElem?_eq_none (by omega : l.length ≤ i)]
theorem getD_eq {l : List Int} {i : Nat} (h : i < l.length) : l[i] = l.getD i 0 := by simp [List.getD, h]
end Go.Proofs
namespace Go.Proofs
open Go.Fs
set_option linter.unusedVariables false
theorem firstE_zero {l : List Int} : firstE l = 0 ↔ ∀ x ∈ l, x = 0 := by
  induction l with
  | nil => simp [firstE]
  | cons x l ih => by_cases h : x = 0 <;> simp [firstE, h, ih]
theorem rangeE_zero {n lo hi : Int} : rangeE n lo hi = 0 ↔ lo ≤ n ∧ n ≤ hi := by
  unfold rangeE; split <;> simp <;> omega
theorem heightsE_ok {l : List Int} (h : heightsE l = 0) : ∀ x ∈ l, -1048576 ≤ x ∧ x ≤ 1048576 := fun x hx => by
  rw [heightsE, firstE_zero] at h
  exact rangeE_zero.1 (h _ (List.mem_map_of_mem hx))
def applyB (t : List Int × Int × Int) (l : List Int) : Int := firstE [transferE t, numbersE l]
theorem firstE_app (a b : List Int) : firstE (a ++ b) = if firstE a = 0 then firstE b else firstE a := by
  induction a with
  | nil => simp [firstE]
  | cons x a ih => by_cases h : x = 0 <;> simp [firstE, h, ih]
def applyR (t : List Int × Int × Int) (l : List Int) : List Int := if applyB t l = 0 then applyE t l else []
def listE (have_ : List Int) (e bad : Int) (want : List Int) : Bool := decide (e = bad ∧ have_ = if bad = 0 then want else [])
theorem awake_ok : VF Tryz.prog OA 16 [] (B true) := VF.oracle (fun _ => rfl) fun _ _ => ⟨rfl, rfl⟩
end Go.Proofs
namespace Go.Proofs
open Go.Fs
set_option linter.unusedVariables false
abbrev y41 : Ty := (.pair (.int .i64) (.int .i64))
abbrev y54 : Ty := (.sl (.pair (.int .i64) (.sl (.int .i64))))
abbrev y64 : Ty := (.sl (.pair (.int .i64) (.sl (.int .i64))))
abbrev y89 : Ty := (.pair (.int .i64) (.sl (.int .i64)))
theorem vt41 : ValT Tryz.prog 41 y41 := valT_of (by kernel_rfl)
theorem vt89 : ValT Tryz.prog 89 y89 := valT_of (by kernel_rfl)
theorem el54 : ElT Tryz.prog 54 72 (.pair (.int .i64) (.sl (.int .i64))) := elT_of (by kernel_rfl)
theorem el64 : ElT Tryz.prog 64 89 y89 := elT_of (by kernel_rfl)
theorem zt41 : ZerT Tryz.prog 41 y41 := zerT_of (z := .agg #[.int .i64 0, .int .i64 0]) (by kernel_rfl) rfl rfl
theorem zt89 : ZerT Tryz.prog 89 y89 := zerT_of (z := .agg #[.int .i64 0, .slice none 0 0]) (by kernel_rfl) rfl rfl
theorem bt41 : BldT Tryz.prog 41 y41 [(0, 1), (1, 1)] := bldT_of zt41 rfl (by kernel_rfl)
theorem firstE_map_drop {α : Type} {f : α → Int} {l : List α} {j : Nat} (hj : j < l.length) : firstE ((l.drop j).map f) = if f l[j] = 0 then firstE ((l.drop (j + 1)).map f) else f l[j] := by
  rw [List.drop_eq_getElem_cons hj] <;> rfl
theorem firstE_map_end {α : Type} {f : α → Int} {l : List α} {j : Nat} (hj : l.length ≤ j) : firstE ((l.drop j).map f) = 0 := by rw [List.drop_eq_nil_of_le hj] <;> rfl
theorem all_take {α : Type} {p : α → Prop} {l : List α} {j : Nat} (hj : j < l.length) (h : ∀ x ∈ l.take j, p x) (hx : p l[j]) : ∀ x ∈ l.take (j + 1), p x := by
  intro x hm
  rw [List.take_succ_eq_append_getElem hj] at hm
  rcases List.mem_append.1 hm with hm | hm
  · exact h x hm
  · rw [List.mem_singleton.1 hm]; exact hx
theorem foldl_take {α β : Type} (f : β → α → β) (b : β) {l : List α} {j : Nat} (hj : j < l.length) : (l.take (j + 1)).foldl f b = f ((l.take j).foldl f b) l[j] := by
  rw [List.take_succ_eq_append_getElem hj, List.foldl_append] <;> rfl
/-! ## Least and greatest numbers -/
def minE (l : List Int) : Int := l.foldl min (l.headD 0)
def maxE (l : List Int) : Int := l.foldl max (l.headD 0)
theorem min_first {l : List Int} (h : 0 < l.length) : l[0] = (l.take 1).foldl min (l.headD 0) := by
  cases l with
  | nil => simp at h
  | cons x l => simp
theorem max_first {l : List Int} (h : 0 < l.length) : l[0] = (l.take 1).foldl max (l.headD 0) := by
  cases l with
  | nil => simp at h
  | cons x l => simp
theorem zMin_ok {l : List Int} (hp : 0 < l.length) (hl : l.length < 1000000) : VF Tryz.prog OA 157 [.v y22 l] (I (minE l)) := by
  refine VF.enter Tryz.func157 rfl (fun _ _ => rfl) rfl ?_
  show VC _ _ _ _ _ [(0, .v y22 l)] [] _
  refine VC.seq ?_
  refine VC.text ?_
  refine VO.c (.assign rfl) ?_
  refine VO.go ?_
  refine VC.seq ?_
  refine VC.seq ?_
  refine VC.text ?_
  refine VO.c (.move rfl) ?_
  refine VO.r (.len el22) ?_
  refine VO.c (.lss) ?_
  refine VO.go ?_
  refine VC.condD rfl (fun c1 => ?_) (fun c1 => ?_)
  · exact absurd c1 (by omega)
  · refine VC.skip ?_
    show VC _ _ _ _ _ _ _ _
    refine VC.seq ?_
    refine VC.text ?_
    refine VO.c (.move rfl) ?_
    refine VO.c (.ix (j := 0) rfl rfl el22 (by omega)) ?_
    refine VO.r (.ld vt3) ?_
    refine VO.c (.assign rfl) ?_
    refine VO.go ?_
    refine VC.seq ?_
    refine VC.seq ?_
    refine VC.text ?_
    refine VO.c (.assign rfl) ?_
    refine VO.go ?_
    refine VC.block ?_
    refine VC.keep [(0, .v y22 l), (3, I ((l.take 1).foldl min (l.headD 0))), (4, I ((1 : Nat) : Int))] ⟨rfl, slI rfl (by exact (min_first hp)), rfl, trivial⟩ ?_
    refine VC.loop (I := fun kk ff ss => ∃ (j : Nat), kk = l.length - j ∧ ff = [(0, .v y22 l), (3, I ((l.take j).foldl min (l.headD 0))), (4, I ((j : Nat) : Int))] ∧ ss = [] ∧ (j ≤ l.length)) ?_ _ _ _ ⟨1, rfl, rfl, rfl, (by omega)⟩
    rintro kk ff ss ⟨j, hk0, rfl, rfl, hj⟩
    refine VC.seq ?_
    refine VC.seq ?_
    refine VC.text ?_
    refine VO.c (.move rfl) ?_
    refine VO.c (.move rfl) ?_
    refine VO.r (.len el22) ?_
    refine VO.c (.lss) ?_
    refine VO.go ?_
    refine VC.condD rfl (fun c5 => ?_) (fun c5 => ?_)
    · refine VC.skip ?_
      show VC _ _ _ _ _ _ _ _
      refine VC.seq ?_
      refine VC.block ?_
      refine VC.text ?_
      refine VO.c (.move rfl) ?_
      refine VO.c (.move rfl) ?_
      refine VO.c (.move rfl) ?_
      refine VO.c (.ix (j := j) rfl rfl el22 (by omega)) ?_
      refine VO.r (.ld vt3) ?_
      refine VO.r (.min) ?_
      refine VO.c (.assign rfl) ?_
      refine VO.nil ?_
      show VC _ _ _ _ _ _ _ _
      refine VC.text ?_
      refine VO.c (.move rfl) ?_
      refine VO.c (.add rfl rfl (by omega)) ?_
      refine VO.c (.assign rfl) ?_
      refine VO.nil ?_
      refine ⟨_, [(0, .v y22 l), (3, I ((l.take (j + 1)).foldl min (l.headD 0))), (4, I (((j + 1) : Nat) : Int))], ?_, ⟨rfl, slI rfl (by rw [foldl_take min _ (by omega : j < l.length)]), rfl, trivial⟩, (j + 1), rfl, rfl, rfl, (by omega)⟩
      omega
    · refine VC.exit ?_
      show VC _ _ _ _ _ _ _ _
      refine VC.seq ?_
      refine VC.text ?_
      refine VO.c (.move rfl) ?_
      refine VO.c (.assign rfl) ?_
      refine VO.go ?_
      refine VC.ret ?_
      exact VEnd.one rfl evT (pvI (by rw [minE, List.take_of_length_le (by omega)]))
theorem zMax_ok {l : List Int} (hp : 0 < l.length) (hl : l.length < 1000000) : VF Tryz.prog OA 158 [.v y22 l] (I (maxE l)) := by
  refine VF.enter Tryz.func158 rfl (fun _ _ => rfl) rfl ?_
  show VC _ _ _ _ _ [(0, .v y22 l)] [] _
  refine VC.seq ?_
  refine VC.text ?_
  refine VO.c (.assign rfl) ?_
  refine VO.go ?_
  refine VC.seq ?_
  refine VC.seq ?_
  refine VC.text ?_
  refine VO.c (.move rfl) ?_
  refine VO.r (.len el22) ?_
  refine VO.c (.lss) ?_
  refine VO.go ?_
  refine VC.condD rfl (fun c1 => ?_) (fun c1 => ?_)
  · exact absurd c1 (by omega)
  · refine VC.skip ?_
    show VC _ _ _ _ _ _ _ _
    refine VC.seq ?_
    refine VC.text ?_
    refine VO.c (.move rfl) ?_
    refine VO.c (.ix (j := 0) rfl rfl el22 (by omega)) ?_
    refine VO.r (.ld vt3) ?_
    refine VO.c (.assign rfl) ?_
    refine VO.go ?_
    refine VC.seq ?_
    refine VC.seq ?_
    refine VC.text ?_
    refine VO.c (.assign rfl) ?_
    refine VO.go ?_
    refine VC.block ?_
    refine VC.keep [(0, .v y22 l), (3, I ((l.take 1).foldl max (l.headD 0))), (4, I ((1 : Nat) : Int))] ⟨rfl, slI rfl (by exact (max_first hp)), rfl, trivial⟩ ?_
    refine VC.loop (I := fun kk ff ss => ∃ (j : Nat), kk = l.length - j ∧ ff = [(0, .v y22 l), (3, I ((l.take j).foldl max (l.headD 0))), (4, I ((j : Nat) : Int))] ∧ ss = [] ∧ (j ≤ l.length)) ?_ _ _ _ ⟨1, rfl, rfl, rfl, (by omega)⟩
    rintro kk ff ss ⟨j, hk0, rfl, rfl, hj⟩
    refine VC.seq ?_
    refine VC.seq ?_
    refine VC.text ?_
    refine VO.c (.move rfl) ?_
    refine VO.c (.move rfl) ?_
    refine VO.r (.len el22) ?_
    refine VO.c (.lss) ?_
    refine VO.go ?_
    refine VC.condD rfl (fun c5 => ?_) (fun c5 => ?_)
    · refine VC.skip ?_
      show VC _ _ _ _ _ _ _ _
      refine VC.seq ?_
      refine VC.block ?_
      refine VC.text ?_
      refine VO.c (.move rfl) ?_
      refine VO.c (.move rfl) ?_
      refine VO.c (.move rfl) ?_
      refine VO.c (.ix (j := j) rfl rfl el22 (by omega)) ?_
      refine VO.r (.ld vt3) ?_
      refine VO.r (.max) ?_
      refine VO.c (.assign rfl) ?_
      refine VO.nil ?_
      show VC _ _ _ _ _ _ _ _
      refine VC.text ?_
      refine VO.c (.move rfl) ?_
      refine VO.c (.add rfl rfl (by omega)) ?_
      refine VO.c (.assign rfl) ?_
      refine VO.nil ?_
      refine ⟨_, [(0, .v y22 l), (3, I ((l.take (j + 1)).foldl max (l.headD 0))), (4, I (((j + 1) : Nat) : Int))], ?_, ⟨rfl, slI rfl (by rw [foldl_take max _ (by omega : j < l.length)]), rfl, trivial⟩, (j + 1), rfl, rfl, rfl, (by omega)⟩
      omega
    · refine VC.exit ?_
      show VC _ _ _ _ _ _ _ _
      refine VC.seq ?_
      refine VC.text ?_
      refine VO.c (.move rfl) ?_
      refine VO.c (.assign rfl) ?_
      refine VO.go ?_
      refine VC.ret ?_
      exact VEnd.one rfl evT (pvI (by rw [maxE, List.take_of_length_le (by omega)]))
def hullE (l : List Int) : Int × Int := (minE l, maxE l)
theorem sHull_ok {l : List Int} (hp : 0 < l.length) (hl : l.length < 1000000) : VF Tryz.prog OA 102 [.v y22 l] (.v y41 (hullE l)) := by
  refine VF.enter Tryz.func102 rfl (fun _ _ => rfl) rfl ?_
  show VC _ _ _ _ _ [(0, .v y22 l)] [] _
  refine VC.seq ?_
  refine VC.text ?_
  refine VO.cell (.alloc zt41) ?_
  intro ww1
  refine VO.go ?_
  refine VC.seq ?_
  refine VC.text ?_
  refine VO.c (.move rfl) ?_
  refine VO.call rfl rfl (VF.call (zMin_ok (by first | assumption | omega) (by first | assumption | omega))) ?_
  refine VO.c (.move rfl) ?_
  refine VO.call rfl rfl (VF.call (zMax_ok (by first | assumption | omega) (by first | assumption | omega))) ?_
  refine VO.c (.build (minE l, maxE l) bt41) ?_
  refine VO.setV (cs' := [I (minE l), I (maxE l)]) vt41 .v ?_
  refine VO.go ?_
  refine VC.ret ?_
  exact VEnd.one rfl (.cell (x := (minE l, maxE l)) rfl m0 vt41 .refl) (pvE (by rfl))
/-! ## Intervals, ensembles -/
def boundsE (b : Int × Int) : Int := firstE [rangeE b.1 (-1048576) 1048576, rangeE b.2 (-1048576) 1048576, whenE (decide (b.2 < b.1)) 11]
theorem sBounds_ok {b : Int × Int} : VF Tryz.prog OA 106 [.v y41 b] (I (boundsE b)) := by
  refine VF.enter Tryz.func106 rfl (fun _ _ => rfl) rfl ?_
  show VC _ _ _ _ _ [(0, .v y41 b)] [] _
  refine VC.seq ?_
  refine VC.text ?_
  refine VO.new (.box) ?_
  refine VO.c (.assign rfl) ?_
  refine VO.go ?_
  refine VC.seq ?_
  refine VC.drawn ?_
  refine VD.c (.fa (.l .o)) ?_
  refine VD.r [] (.ld vt3) (.inl rfl) ?_
  refine VD.call rfl rfl (VF.call (sHeight_ok )) ?_
  refine VD.c (.fa (.r .o)) ?_
  refine VD.r [] (.ld vt3) (.inl rfl) ?_
  refine VD.call rfl rfl (VF.call (sHeight_ok )) ?_
  refine VD.nw [] ?_
  refine VD.c (.fa (.r .o)) ?_
  refine VD.r [] (.ld vt3) (.inl rfl) ?_
  refine VD.c (.fa (.l .o)) ?_
  refine VD.r [] (.ld vt3) (.inl rfl) ?_
  refine VD.c (.lss) ?_
  refine VD.call rfl rfl (VF.call (sWhen_ok )) ?_
  refine VD.new (.lit [rangeE b.1 (-1048576) 1048576, rangeE b.2 (-1048576) 1048576, whenE (decide (b.2 < b.1)) (11 : Int)] el179) ?_
  refine VD.nw [15] ?_
  refine VD.callO rfl rfl (VF.call (sFirst_ok (by simp))) ?_
  refine VD.c (.assign rfl) ?_
  refine VD.go ?_
  refine VC.ret ?_
  exact VEnd.one rfl evT (pvI (by rfl))
def len0 (l : List (Int × List Int)) : Nat := (l.map fun c => c.2.length).headD 0
theorem len0_eq {l : List (Int × List Int)} (h : 0 < l.length) : l[0].2.length = len0 l := by
  cases l with
  | nil => simp at h
  | cons x l => rfl
def courseE (n : Nat) (c : Int × List Int) : Int := firstE [rangeE c.1 1 1000, whenE (decide ((c.2.length : Int) = 0)) 12, whenE (decide ((96 : Int) < c.2.length)) 5, whenE (decide ((c.2.length : Int) ≠ n)) 2, heightsE c.2]
def ensembleE (l : List (Int × List Int)) : Int := if (l.length : Int) = 0 then 12 else if (16 : Int) < l.length then 5 else firstE (l.map (courseE (len0 l)))
theorem ens_pre {n : Int} : firstE [whenE (decide (n = 0)) 12, whenE (decide ((16 : Int) < n)) 5] = if n = 0 then 12 else if 16 < n then 5 else 0 := by
  by_cases h1 : n = 0
  · rw [whenE_t h1, if_pos h1]; simp [firstE]
  · rw [whenE_f h1, if_neg h1]
    by_cases h2 : 16 < n
    · rw [whenE_t h2, if_pos h2]; simp [firstE]
    · rw [whenE_f h2, if_neg h2]; simp [firstE]
theorem sEnsemble_ok {l : List (Int × (List Int))} (hl : ∀ c ∈ l, c.2.length < 100000) : VF Tryz.prog OA 46 [.v y64 l] (I (ensembleE l)) := by
  refine VF.enter Tryz.func46 rfl (fun _ _ => rfl) rfl ?_
  show VC _ _ _ _ _ [(0, .v y64 l)] [] _
  refine VC.seq ?_
  refine VC.text ?_
  refine VO.c (.assign rfl) ?_
  refine VO.go ?_
  refine VC.seq ?_
  refine VC.seq ?_
  refine VC.text ?_
  refine VO.c (.move rfl) ?_
  refine VO.r (.len el64) ?_
  refine VO.c (.eql) ?_
  refine VO.call rfl rfl (VF.call (sWhen_ok )) ?_
  refine VO.c (.move rfl) ?_
  refine VO.r (.len el64) ?_
  refine VO.c (.gtr) ?_
  refine VO.call rfl rfl (VF.call (sWhen_ok )) ?_
  refine VO.new (.lit [whenE (decide (((l.length : Nat) : Int) = (0 : Int))) (12 : Int), whenE (decide ((16 : Int) < ((l.length : Nat) : Int))) (5 : Int)] el179) ?_
  refine VO.call rfl rfl (VF.call (sFirst_ok (by simp))) ?_
  refine VO.c (.assign rfl) ?_
  refine VO.go ?_
  refine VC.seq ?_
  refine VC.text ?_
  refine VO.c (.move rfl) ?_
  refine VO.c (.neq) ?_
  refine VO.go ?_
  refine VC.condD rfl (fun c2 => ?_) (fun c2 => ?_)
  · refine VC.seq ?_
    refine VC.text ?_
    refine VO.c (.move rfl) ?_
    refine VO.c (.assign rfl) ?_
    refine VO.go ?_
    refine VC.ret ?_
    exact VEnd.one rfl evT (pvI (by rw [ens_pre] at c2 ⊢; rw [ensembleE]; split <;> simp_all))
  · rw [ens_pre] at c2
    have d1 : ¬ (l.length : Int) = 0 := fun h => by simp [h] at c2
    have d2 : ¬ (16 : Int) < l.length := fun h => by simp [h] at c2; omega
    have e0 := len0_eq (l := l) (by omega)
    refine VC.skip ?_
    show VC _ _ _ _ _ _ _ _
    refine VC.seq ?_
    refine VC.seq ?_
    refine VC.text ?_
    refine VO.c (.move rfl) ?_
    refine VO.r (.len el64) ?_
    refine VO.c (.move rfl) ?_
    refine VO.go ?_
    refine VC.block ?_
    refine VC.keep [(0, .v y64 l), (20, .v y64 l), (21, I ((l.length : Nat) : Int)), (22, I ((0 : Nat) : Int))] ⟨rfl, rfl, rfl, rfl, trivial⟩ ?_
    refine VC.loop (I := fun kk ff ss => ∃ (j : Nat), kk = l.length - j ∧ ff = [(0, .v y64 l), (20, .v y64 l), (21, I ((l.length : Nat) : Int)), (22, I ((j : Nat) : Int))] ∧ ss = [] ∧ (j ≤ l.length) ∧ (firstE (l.map (courseE (len0 l))) = firstE ((l.drop j).map (courseE (len0 l))))) ?_ _ _ _ ⟨0, rfl, rfl, rfl, Nat.zero_le _, (by rfl)⟩
    rintro kk ff ss ⟨j, hk0, rfl, rfl, hj, hf⟩
    refine VC.seq ?_
    refine VC.text ?_
    refine VO.c (.lss) ?_
    refine VO.go ?_
    refine VC.seq ?_
    refine VC.condD rfl (fun c5 => ?_) (fun c5 => ?_)
    · refine VC.skip ?_
      show VC _ _ _ _ _ _ _ _
      refine VC.seq ?_
      refine VC.block ?_
      refine VC.seq ?_
      refine VC.text ?_
      refine VO.c (.ix (j := j) rfl rfl el64 (by omega)) ?_
      refine VO.r (.ld vt89) ?_
      refine VO.cell (.alloc zt89) ?_
      intro ww2
      refine VO.setV (cs' := [I ((l[j]).1), .v y22 ((l[j]).2)]) vt89 .v ?_
      refine VO.shut [(5, .p y89 (l[j]))] (.cons rfl (.var m0 .refl) .nil) ?_
      refine VO.go ?_
      refine VC.seq ?_
      refine VC.drawn ?_
      have hlj := hl _ (List.getElem_mem (show j < l.length by omega))
      refine VD.c (.fa (.l .o)) ?_
      refine VD.r [] (.ld vt3) (.inl rfl) ?_
      refine VD.call rfl rfl (VF.call (sWithin_ok )) ?_
      refine VD.c (.fa (.r .o)) ?_
      refine VD.r [] (.ld vt22) (.inl rfl) ?_
      refine VD.r [] (.len el22) (.inl rfl) ?_
      refine VD.nw [] ?_
      refine VD.c (.eql) ?_
      refine VD.call rfl rfl (VF.call (sWhen_ok )) ?_
      refine VD.c (.fa (.r .o)) ?_
      refine VD.r [] (.ld vt22) (.inl rfl) ?_
      refine VD.r [] (.len el22) (.inl rfl) ?_
      refine VD.c (.gtr) ?_
      refine VD.call rfl rfl (VF.call (sWhen_ok )) ?_
      refine VD.nw [] ?_
      refine VD.c (.fa (.r .o)) ?_
      refine VD.r [] (.ld vt22) (.inl rfl) ?_
      refine VD.r [] (.len el22) (.inl rfl) ?_
      refine VD.c (.move rfl) ?_
      refine VD.c (.ix (j := 0) rfl rfl el64 (by omega)) ?_
      refine VD.c (.fa (.r .o)) ?_
      refine VD.r [] (.ld vt22) (.inl rfl) ?_
      refine VD.nw [] ?_
      refine VD.r [] (.len el22) (.inl rfl) ?_
      refine VD.c (.neq) ?_
      refine VD.call rfl rfl (VF.call (sWhen_ok )) ?_
      refine VD.c (.fa (.r .o)) ?_
      refine VD.r [] (.ld vt22) (.inl rfl) ?_
      refine VD.call rfl rfl (VF.call (sHeights_ok (by first | assumption | omega))) ?_
      refine VD.new (.lit [rangeE ((l[j]).1) (1 : Int) (1000 : Int), whenE (decide (((((l[j]).2).length : Nat) : Int) = (0 : Int))) (12 : Int), whenE (decide ((96 : Int) < ((((l[j]).2).length : Nat) : Int))) (5 : Int), whenE (decide (((((l[j]).2).length : Nat) : Int) ≠ ((((l[0]).2).length : Nat) : Int))) (2 : Int), heightsE ((l[j]).2)] el179) ?_
      refine VD.nw [52] ?_
      refine VD.callO rfl rfl (VF.call (sFirst_ok (by simp))) ?_
      refine VD.c (.assign rfl) ?_
      refine VD.go ?_
      refine VC.seq ?_
      refine VC.keep [(0, .v y64 l), (6, I (firstE [rangeE ((l[j]).1) (1 : Int) (1000 : Int), whenE (decide (((((l[j]).2).length : Nat) : Int) = (0 : Int))) (12 : Int), whenE (decide ((96 : Int) < ((((l[j]).2).length : Nat) : Int))) (5 : Int), whenE (decide (((((l[j]).2).length : Nat) : Int) ≠ ((((l[0]).2).length : Nat) : Int))) (2 : Int), heightsE ((l[j]).2)])), (20, .v y64 l), (21, I ((l.length : Nat) : Int)), (22, I ((j : Nat) : Int))] ⟨rfl, rfl, rfl, rfl, rfl, trivial⟩ ?_
      refine VC.text ?_
      refine VO.c (.move rfl) ?_
      refine VO.c (.neq) ?_
      refine VO.go ?_
      refine VC.condD rfl (fun c8 => ?_) (fun c8 => ?_)
      · refine VC.seq ?_
        refine VC.text ?_
        refine VO.c (.move rfl) ?_
        refine VO.c (.assign rfl) ?_
        refine VO.go ?_
        refine VC.ret ?_
        exact VEnd.one rfl evT (pvI (by rw [ensembleE, if_neg d1, if_neg d2, hf, firstE_map_drop (by omega), if_neg (by rw [courseE, ← e0]; exact c8), courseE, ← e0]))
      · refine VC.skip ?_
        show VC _ _ _ _ _ _ _ _
        refine VC.text ?_
        refine VO.c (.add rfl rfl (by omega)) ?_
        refine VO.c (.move rfl) ?_
        refine VO.nil ?_
        refine ⟨_, [(0, .v y64 l), (20, .v y64 l), (21, I ((l.length : Nat) : Int)), (22, I (((j + 1) : Nat) : Int))], ?_, ⟨rfl, rfl, rfl, rfl, trivial⟩, (j + 1), rfl, rfl, rfl, (by omega), (by rw [hf, firstE_map_drop (by omega), if_pos (by rw [courseE, ← e0]; simpa using c8)])⟩
        omega
    · refine VC.exit ?_
      show VC _ _ _ _ _ _ _ _
      refine VC.seq ?_
      refine VC.text ?_
      refine VO.c (.assign rfl) ?_
      refine VO.go ?_
      refine VC.ret ?_
      exact VEnd.one rfl evT (pvI (by rw [ensembleE, if_neg d1, if_neg d2, hf, firstE_map_end (by omega)]))
theorem rEnsemble_ok {l : List (Int × (List Int))} (hl : ∀ c ∈ l, c.2.length < 100000) : VF Tryz.prog OA 39 [.v y54 l] (I (ensembleE l)) := by
  refine VF.enter Tryz.func39 rfl (fun _ _ => rfl) rfl ?_
  show VC _ _ _ _ _ [(0, .v y54 l)] [] _
  refine VC.seq ?_
  refine VC.text ?_
  refine VO.c (.assign rfl) ?_
  refine VO.go ?_
  refine VC.seq ?_
  refine VC.seq ?_
  refine VC.text ?_
  refine VO.c (.move rfl) ?_
  refine VO.r (.len el54) ?_
  refine VO.c (.eql) ?_
  refine VO.go ?_
  refine VC.condD rfl (fun c1 => ?_) (fun c1 => ?_)
  · refine VC.seq ?_
    refine VC.text ?_
    refine VO.c (.assign rfl) ?_
    refine VO.go ?_
    refine VC.ret ?_
    exact VEnd.one rfl evT (pvI (by rw [ensembleE, if_pos c1]))
  · refine VC.skip ?_
    show VC _ _ _ _ _ _ _ _
    refine VC.seq ?_
    refine VC.seq ?_
    refine VC.text ?_
    refine VO.c (.move rfl) ?_
    refine VO.r (.len el54) ?_
    refine VO.c (.gtr) ?_
    refine VO.go ?_
    refine VC.condD rfl (fun c3 => ?_) (fun c3 => ?_)
    · refine VC.seq ?_
      refine VC.text ?_
      refine VO.c (.assign rfl) ?_
      refine VO.go ?_
      refine VC.ret ?_
      exact VEnd.one rfl evT (pvI (by rw [ensembleE, if_neg c1, if_pos c3]))
    · refine VC.skip ?_
      show VC _ _ _ _ _ _ _ _
      refine VC.seq ?_
      refine VC.seq ?_
      refine VC.text ?_
      refine VO.c (.assign rfl) ?_
      refine VO.go ?_
      refine VC.block ?_
      refine VC.keep [(0, .v y54 l), (3, I ((0 : Nat) : Int))] ⟨rfl, rfl, trivial⟩ ?_
      refine VC.loop (I := fun kk ff ss => ∃ (j : Nat), kk = l.length - j ∧ ff = [(0, .v y54 l), (3, I ((j : Nat) : Int))] ∧ ss = [] ∧ (j ≤ l.length) ∧ (firstE (l.map (courseE (len0 l))) = firstE ((l.drop j).map (courseE (len0 l))))) ?_ _ _ _ ⟨0, rfl, rfl, rfl, Nat.zero_le _, (by rfl)⟩
      rintro kk ff ss ⟨j, hk0, rfl, rfl, hj, hf⟩
      refine VC.seq ?_
      refine VC.seq ?_
      refine VC.text ?_
      refine VO.c (.move rfl) ?_
      refine VO.c (.move rfl) ?_
      refine VO.r (.len el54) ?_
      refine VO.c (.lss) ?_
      refine VO.go ?_
      refine VC.condD rfl (fun c6 => ?_) (fun c6 => ?_)
      · refine VC.skip ?_
        show VC _ _ _ _ _ _ _ _
        refine VC.seq ?_
        refine VC.block ?_
        refine VC.seq ?_
        refine VC.seq ?_
        refine VC.text ?_
        have e0 := len0_eq (l := l) (by omega)
        have hlj := hl _ (List.getElem_mem (show j < l.length by omega))
        refine VO.c (.move rfl) ?_
        refine VO.c (.move rfl) ?_
        refine VO.c (.ix (j := j) rfl rfl el54 (by omega)) ?_
        refine VO.c (.fa (.l .o)) ?_
        refine VO.r (.ld vt3) ?_
        refine VO.call rfl rfl (VF.call (rCheckRange_ok )) ?_
        refine VO.c (.assign rfl) ?_
        refine VO.go ?_
        refine VC.seq ?_
        refine VC.text ?_
        refine VO.c (.move rfl) ?_
        refine VO.c (.neq) ?_
        refine VO.go ?_
        refine VC.condD rfl (fun c9 => ?_) (fun c9 => ?_)
        · refine VC.seq ?_
          refine VC.text ?_
          refine VO.c (.move rfl) ?_
          refine VO.c (.assign rfl) ?_
          refine VO.go ?_
          refine VC.ret ?_
          exact VEnd.one rfl evT (pvI (by rw [ensembleE, if_neg c1, if_neg c3, hf, firstE_map_drop (by omega)]; simp [courseE, firstE, c9]))
        · refine VC.skip ?_
          show VC _ _ _ _ _ _ _ _
          refine VC.seq ?_
          refine VC.seq ?_
          refine VC.text ?_
          refine VO.c (.move rfl) ?_
          refine VO.c (.move rfl) ?_
          refine VO.c (.ix (j := j) rfl rfl el54 (by omega)) ?_
          refine VO.c (.fa (.r .o)) ?_
          refine VO.r (.ld vt22) ?_
          refine VO.r (.len el22) ?_
          refine VO.c (.eql) ?_
          refine VO.go ?_
          refine VC.condD rfl (fun c11 => ?_) (fun c11 => ?_)
          · refine VC.seq ?_
            refine VC.text ?_
            refine VO.c (.assign rfl) ?_
            refine VO.go ?_
            refine VC.ret ?_
            exact VEnd.one rfl evT (pvI (by rw [ensembleE, if_neg c1, if_neg c3, hf, firstE_map_drop (by omega)]; simp only [courseE, firstE, Decidable.not_not.1 c9, whenE_t c11, if_true] <;> rfl))
          · refine VC.skip ?_
            show VC _ _ _ _ _ _ _ _
            refine VC.seq ?_
            refine VC.seq ?_
            refine VC.text ?_
            refine VO.c (.move rfl) ?_
            refine VO.c (.move rfl) ?_
            refine VO.c (.ix (j := j) rfl rfl el54 (by omega)) ?_
            refine VO.c (.fa (.r .o)) ?_
            refine VO.r (.ld vt22) ?_
            refine VO.r (.len el22) ?_
            refine VO.c (.gtr) ?_
            refine VO.go ?_
            refine VC.condD rfl (fun c13 => ?_) (fun c13 => ?_)
            · refine VC.seq ?_
              refine VC.text ?_
              refine VO.c (.assign rfl) ?_
              refine VO.go ?_
              refine VC.ret ?_
              exact VEnd.one rfl evT (pvI (by rw [ensembleE, if_neg c1, if_neg c3, hf, firstE_map_drop (by omega)]; simp only [courseE, firstE, Decidable.not_not.1 c9, whenE_f c11, whenE_t c13, if_true] <;> rfl))
            · refine VC.skip ?_
              show VC _ _ _ _ _ _ _ _
              refine VC.seq ?_
              refine VC.seq ?_
              refine VC.drawn ?_
              refine VD.c (.move rfl) ?_
              refine VD.c (.move rfl) ?_
              refine VD.c (.ix (j := j) rfl rfl el54 (by omega)) ?_
              refine VD.c (.fa (.r .o)) ?_
              refine VD.r [] (.ld vt22) (.inl rfl) ?_
              refine VD.r [] (.len el22) (.inl rfl) ?_
              refine VD.nw [] ?_
              refine VD.c (.move rfl) ?_
              refine VD.c (.ix (j := 0) rfl rfl el54 (by omega)) ?_
              refine VD.c (.fa (.r .o)) ?_
              refine VD.r [] (.ld vt22) (.inl rfl) ?_
              refine VD.r [] (.len el22) (.inl rfl) ?_
              refine VD.c (.neq) ?_
              refine VD.go ?_
              refine VC.condD rfl (fun c15 => ?_) (fun c15 => ?_)
              · refine VC.seq ?_
                refine VC.keep [(0, .v y54 l), (3, I ((j : Nat) : Int))] ⟨rfl, rfl, trivial⟩ ?_
                refine VC.text ?_
                refine VO.c (.assign rfl) ?_
                refine VO.go ?_
                refine VC.ret ?_
                exact VEnd.one rfl evT (pvI (by rw [ensembleE, if_neg c1, if_neg c3, hf, firstE_map_drop (by omega)]; simp only [courseE, ← e0, firstE, Decidable.not_not.1 c9, whenE_f c11, whenE_f c13, whenE_t c15, if_true] <;> rfl))
              · refine VC.skip ?_
                show VC _ _ _ _ _ _ _ _
                refine VC.seq ?_
                refine VC.keep [(0, .v y54 l), (3, I ((j : Nat) : Int))] ⟨rfl, rfl, trivial⟩ ?_
                refine VC.text ?_
                refine VO.c (.move rfl) ?_
                refine VO.c (.move rfl) ?_
                refine VO.c (.ix (j := j) rfl rfl el54 (by omega)) ?_
                refine VO.c (.fa (.r .o)) ?_
                refine VO.r (.ld vt22) ?_
                refine VO.call rfl rfl (VF.call (rHeights_ok (by first | assumption | omega))) ?_
                refine VO.c (.assign rfl) ?_
                refine VO.go ?_
                refine VC.seq ?_
                refine VC.text ?_
                refine VO.c (.move rfl) ?_
                refine VO.c (.neq) ?_
                refine VO.go ?_
                refine VC.condD rfl (fun c18 => ?_) (fun c18 => ?_)
                · refine VC.seq ?_
                  refine VC.text ?_
                  refine VO.c (.move rfl) ?_
                  refine VO.c (.assign rfl) ?_
                  refine VO.go ?_
                  refine VC.ret ?_
                  exact VEnd.one rfl evT (pvI (by rw [ensembleE, if_neg c1, if_neg c3, hf, firstE_map_drop (by omega)]; simp only [courseE, ← e0, firstE, Decidable.not_not.1 c9, whenE_f c11, whenE_f c13, whenE_f c15, if_true, if_neg c18]))
                · refine VC.skip ?_
                  show VC _ _ _ _ _ _ _ _
                  refine VC.text ?_
                  refine VO.c (.move rfl) ?_
                  refine VO.c (.add rfl rfl (by omega)) ?_
                  refine VO.c (.assign rfl) ?_
                  refine VO.nil ?_
                  refine ⟨_, [(0, .v y54 l), (3, I (((j + 1) : Nat) : Int))], ?_, ⟨rfl, rfl, trivial⟩, (j + 1), rfl, rfl, rfl, (by omega), (by rw [hf, firstE_map_drop (by omega), if_pos (by simp only [courseE, ← e0, firstE, Decidable.not_not.1 c9, whenE_f c11, whenE_f c13, whenE_f c15, Decidable.not_not.1 c18, if_true])])⟩
                  omega
      · refine VC.exit ?_
        show VC _ _ _ _ _ _ _ _
        refine VC.seq ?_
        refine VC.text ?_
        refine VO.c (.assign rfl) ?_
        refine VO.go ?_
        refine VC.ret ?_
        exact VEnd.one rfl evT (pvI (by rw [ensembleE, if_neg c1, if_neg c3, hf, firstE_map_end (by omega)]))
end Go.Proofs
namespace Go.Proofs
open Go.Fs
set_option linter.unusedVariables false
abbrev y81 : Ty := (.sl (.pair (.int .i64) (.int .i64)))
theorem el81 : ElT Tryz.prog 81 41 y41 := elT_of (by kernel_rfl)
theorem zt3 : ZerT Tryz.prog 3 (.int .i64) := zerT_of (z := .int .i64 0) (by kernel_rfl) rfl rfl
structure OkC (n : Nat) (c : Int × List Int) : Prop where
  w : 1 ≤ c.1 ∧ c.1 ≤ 1000
  len : c.2.length = n
  pos : 0 < n
  top : n ≤ 96
  all : ∀ x ∈ c.2, -1048576 ≤ x ∧ x ≤ 1048576
structure OkE (l : List (Int × List Int)) : Prop where
  pos : 0 < l.length
  top : l.length ≤ 16
  all : ∀ c ∈ l, OkC (len0 l) c
structure OkB (b : Int × Int) : Prop where
  lo : -1048576 ≤ b.1 ∧ b.1 ≤ 1048576
  hi : -1048576 ≤ b.2 ∧ b.2 ≤ 1048576
  le : b.1 ≤ b.2
theorem whenE_zero {p : Prop} {inst : Decidable p} {e : Int} (he : e ≠ 0) (h : whenE (@decide p inst) e = 0) : ¬ p := fun hp => he (by rw [whenE_t hp] at h; exact h)
theorem boundsE_ok {b : Int × Int} (h : boundsE b = 0) : OkB b := by
  rw [boundsE, firstE_zero] at h
  have h1 := h _ (by simp : rangeE b.1 (-1048576) 1048576 ∈ _)
  have h2 := h _ (by simp : rangeE b.2 (-1048576) 1048576 ∈ _)
  have h3 := whenE_zero (by decide) (h _ (by simp : whenE (decide (b.2 < b.1)) 11 ∈ _))
  exact ⟨rangeE_zero.1 h1, rangeE_zero.1 h2, by omega⟩
theorem courseE_ok {n : Nat} {c : Int × List Int} (h : courseE n c = 0) : OkC n c := by
  rw [courseE, firstE_zero] at h
  have h1 := rangeE_zero.1 (h _ (by simp : rangeE c.1 1 1000 ∈ _))
  have h2 := whenE_zero (by decide) (h _ (by simp : whenE (decide ((c.2.length : Int) = 0)) 12 ∈ _))
  have h3 := whenE_zero (by decide) (h _ (by simp : whenE (decide ((96 : Int) < c.2.length)) 5 ∈ _))
  have h4 := whenE_zero (by decide) (h _ (by simp : whenE (decide ((c.2.length : Int) ≠ n)) 2 ∈ _))
  have h5 := h _ (by simp : heightsE c.2 ∈ _)
  exact ⟨h1, by omega, by omega, by omega, heightsE_ok h5⟩
theorem ensembleE_ok {l : List (Int × List Int)} (h : ensembleE l = 0) : OkE l := by
  unfold ensembleE at h
  by_cases h1 : (l.length : Int) = 0
  · rw [if_pos h1] at h; simp at h
  · rw [if_neg h1] at h
    by_cases h2 : (16 : Int) < l.length
    · rw [if_pos h2] at h; simp at h
    · rw [if_neg h2, firstE_zero] at h
      exact ⟨by omega, by omega, fun c hc => courseE_ok (h _ (List.mem_map_of_mem hc))⟩
theorem sMapCI_ok {F : Int × List Int → Int} {l : List (Int × (List Int))} {f : PV} (hl : l.length < 100000) (hf : ∀ x ∈ l, VCall Tryz.prog OA f [.v y89 x] (I (F x))) : VF Tryz.prog OA 117 [.v y64 l, f] (.v y22 (l.map F)) := by
  refine VF.enter Tryz.func117 rfl (fun _ _ => rfl) rfl ?_
  show VC _ _ _ _ _ [(0, .v y64 l), (1, f)] [] _
  refine VC.seq ?_
  refine VC.text ?_
  refine VO.c (.assign rfl) ?_
  refine VO.go ?_
  refine VC.seq ?_
  refine VC.text ?_
  refine VO.c (.assign rfl) ?_
  refine VO.go ?_
  refine VC.seq ?_
  refine VC.seq ?_
  refine VC.text ?_
  refine VO.c (.move rfl) ?_
  refine VO.r (.len el64) ?_
  refine VO.c (.move rfl) ?_
  refine VO.go ?_
  refine VC.block ?_
  refine VC.cell0 3 (.int .i64) ?_
  refine VC.keep [(1, f), (5, .raw (.slice none 0 0)), (8, .v y64 l), (9, I ((l.length : Nat) : Int)), (10, I ((0 : Nat) : Int))] ⟨rfl, rfl, rfl, rfl, rfl, trivial⟩ ?_
  refine VC.loop (I := fun kk ff ss => ∃ (j : Nat) (out : Value), kk = l.length - j ∧ ff = [(1, f), (5, .raw out), (8, .v y64 l), (9, I ((l.length : Nat) : Int)), (10, I ((j : Nat) : Int))] ∧ ss = [(out, .row 3 (.int .i64) ((l.take j).map F))] ∧ (j ≤ l.length)) ?_ _ _ _ ⟨0, (.slice none 0 0), rfl, rfl, rfl, Nat.zero_le _⟩
  rintro kk ff ss ⟨j, out, hk0, rfl, rfl, hj⟩
  refine VC.seq ?_
  refine VC.text ?_
  refine VO.c (.lss) ?_
  refine VO.go ?_
  refine VC.seq ?_
  refine VC.condD rfl (fun c3 => ?_) (fun c3 => ?_)
  · refine VC.skip ?_
    show VC _ _ _ _ _ _ _ _
    refine VC.seq ?_
    refine VC.block ?_
    refine VC.seq ?_
    refine VC.text ?_
    refine VO.c (.ix (j := j) rfl rfl el64 (by omega)) ?_
    refine VO.r (.ld vt89) ?_
    refine VO.cell (.alloc zt89) ?_
    intro ww1
    refine VO.setV (cs' := [I ((l[j]).1), .v y22 ((l[j]).2)]) vt89 .v ?_
    refine VO.shut [(7, .p y89 (l[j]))] (.cons rfl (.var m0 .refl) .nil) ?_
    refine VO.go ?_
    refine VC.text ?_
    refine VO.c (.move rfl) ?_
    refine VO.c (.move rfl) ?_
    refine VO.r (.ld vt89) ?_
    refine VO.call rfl rfl ((hf _ (List.getElem_mem _)) ) ?_
    refine VO.new (.lit [F (l[j])] el22) ?_
    refine VO.app rfl rfl el22 el22 (by simp; omega) ?_
    intro ww2
    refine VO.c (.assign rfl) ?_
    refine VO.nil ?_
    show VC _ _ _ _ _ _ _ _
    refine VC.text ?_
    refine VO.c (.add rfl rfl (by omega)) ?_
    refine VO.c (.move rfl) ?_
    refine VO.nil ?_
    refine ⟨_, [(1, f), (5, .raw ww2), (8, .v y64 l), (9, I ((l.length : Nat) : Int)), (10, I (((j + 1) : Nat) : Int))], ?_, ⟨rfl, rfl, rfl, rfl, rfl, trivial⟩, (j + 1), ww2, rfl, rfl, (by rw [List.take_succ_eq_append_getElem (by omega), List.map_append] <;> rfl), (by omega)⟩
    omega
  · refine VC.exit ?_
    show VC _ _ _ _ _ _ _ _
    refine VC.seq ?_
    refine VC.text ?_
    refine VO.c (.move rfl) ?_
    refine VO.c (.assign rfl) ?_
    refine VO.go ?_
    refine VC.ret ?_
    exact VEnd.one rfl (evC (.row m0)) (pvE (by rw [List.take_of_length_le (by omega)]))
theorem sEnc1_ok {c : Int × (List Int)} {i : Int} (hi : 0 ≤ i ∧ i < c.2.length) : VF Tryz.prog OA 124 [.v y89 c, .p (.int .i64) i] (I (c.2.getD i.toNat 0)) := by
  refine VF.enter Tryz.func124 rfl (fun _ _ => rfl) rfl ?_
  show VC _ _ _ _ _ [(0, .v y89 c), (1, .p (.int .i64) i)] [] _
  refine VC.seq ?_
  refine VC.text ?_
  refine VO.new (.box) ?_
  refine VO.c (.assign rfl) ?_
  refine VO.go ?_
  refine VC.seq ?_
  refine VC.text ?_
  refine VO.c (.fa (.r .o)) ?_
  refine VO.r (.ld vt22) ?_
  refine VO.r (.ld vt3) ?_
  refine VO.c (.ixZ (k := i) rfl rfl el22 (by omega) (by omega)) ?_
  refine VO.r (.ld vt3) ?_
  refine VO.c (.assign rfl) ?_
  refine VO.go ?_
  refine VC.ret ?_
  exact VEnd.one rfl evT (pvI (by rw [getD_eq]))
def colE (l : List (Int × List Int)) (t : Nat) : List Int := l.map fun c => c.2.getD t 0
def encloseE (l : List (Int × List Int)) (b : Int × Int) : List (Int × Int) := (List.range (len0 l)).map fun t => (minE (colE l t) + b.1, maxE (colE l t) + b.2)
theorem foldl_min_bound {A B : Int} : ∀ {l : List Int} {a : Int}, A ≤ a ∧ a ≤ B → (∀ x ∈ l, A ≤ x ∧ x ≤ B) → A ≤ l.foldl min a ∧ l.foldl min a ≤ B
  | [], a, h, _ => h
  | x :: l, a, h, hl => foldl_min_bound (l := l) (by have := hl x List.mem_cons_self; omega) fun y hy => hl y (List.mem_cons_of_mem _ hy)
theorem foldl_max_bound {A B : Int} : ∀ {l : List Int} {a : Int}, A ≤ a ∧ a ≤ B → (∀ x ∈ l, A ≤ x ∧ x ≤ B) → A ≤ l.foldl max a ∧ l.foldl max a ≤ B
  | [], a, h, _ => h
  | x :: l, a, h, hl => foldl_max_bound (l := l) (by have := hl x List.mem_cons_self; omega) fun y hy => hl y (List.mem_cons_of_mem _ hy)
theorem headD_bound {A B : Int} (h0 : A ≤ 0 ∧ 0 ≤ B) {l : List Int} (hl : ∀ x ∈ l, A ≤ x ∧ x ≤ B) : A ≤ l.headD 0 ∧ l.headD 0 ≤ B := by
  cases l with
  | nil => exact h0
  | cons x l => exact hl x List.mem_cons_self
theorem minE_bound {l : List Int} (hl : ∀ x ∈ l, -1048576 ≤ x ∧ x ≤ 1048576) : -1048576 ≤ minE l ∧ minE l ≤ 1048576 := foldl_min_bound (headD_bound (by decide) hl) hl
theorem maxE_bound {l : List Int} (hl : ∀ x ∈ l, -1048576 ≤ x ∧ x ≤ 1048576) : -1048576 ≤ maxE l ∧ maxE l ≤ 1048576 := foldl_max_bound (headD_bound (by decide) hl) hl
theorem getD_bound {l : List Int} (hl : ∀ x ∈ l, -1048576 ≤ x ∧ x ≤ 1048576) (t : Nat) : -1048576 ≤ l.getD t 0 ∧ l.getD t 0 ≤ 1048576 := by
  rcases getD_mem_or (l := l) t with h | h
  · rw [h]; decide
  · exact hl _ h
theorem colE_bound {l : List (Int × List Int)} (h : OkE l) (t : Nat) : ∀ x ∈ colE l t, -1048576 ≤ x ∧ x ≤ 1048576 := by
  intro x hx
  obtain ⟨c, hc, rfl⟩ := List.mem_map.1 hx
  exact getD_bound (h.all c hc).all t
def enclB (l : List (Int × List Int)) (b : Int × Int) : Int := firstE [ensembleE l, boundsE b]
theorem enclB_ok {l : List (Int × List Int)} {b : Int × Int} (h : enclB l b = 0) : OkE l ∧ OkB b := by
  rw [enclB, firstE_zero] at h
  exact ⟨ensembleE_ok (h _ (by simp)), boundsE_ok (h _ (by simp))⟩
def enclR (l : List (Int × List Int)) (b : Int × Int) : List (Int × Int) := if enclB l b = 0 then encloseE l b else []
theorem sEnclose_ok {l : List (Int × (List Int))} {b : Int × Int} (hl : ∀ c ∈ l, c.2.length < 100000) : VF Tryz.prog OA 49 [.v y64 l, .v y41 b] (.tup [.v y81 (enclR l b), I (enclB l b)]) := by
  refine VF.enter Tryz.func49 rfl (fun _ _ => rfl) rfl ?_
  show VC _ _ _ _ _ [(0, .v y64 l), (1, .v y41 b)] [] _
  refine VC.seq ?_
  refine VC.text ?_
  refine VO.new (.box) ?_
  refine VO.c (.assign rfl) ?_
  refine VO.c (.assign rfl) ?_
  refine VO.go ?_
  refine VC.seq ?_
  refine VC.seq ?_
  refine VC.drawn ?_
  refine VD.c (.move rfl) ?_
  refine VD.call rfl rfl (VF.call (sEnsemble_ok (by first | assumption | omega))) ?_
  refine VD.r [] (.ld vt41) (.inl rfl) ?_
  refine VD.call rfl rfl (VF.call (sBounds_ok )) ?_
  refine VD.new (.lit [ensembleE l, boundsE b] el179) ?_
  refine VD.callO rfl rfl (VF.call (sFirst_ok (by simp))) ?_
  refine VD.nw [14] ?_
  refine VD.c (.assign rfl) ?_
  refine VD.go ?_
  refine VC.seq ?_
  refine VC.text ?_
  refine VO.c (.move rfl) ?_
  refine VO.c (.neq) ?_
  refine VO.go ?_
  refine VC.condD rfl (fun c2 => ?_) (fun c2 => ?_)
  · refine VC.seq ?_
    refine VC.text ?_
    refine VO.c (.move rfl) ?_
    refine VO.c (.assign rfl) ?_
    refine VO.c (.assign rfl) ?_
    refine VO.go ?_
    refine VC.ret ?_
    exact VEnd.two rfl (evC .nil) evT (pvE (by unfold enclR; exact (if_neg c2).symm)) (pvI (by rfl))
  · have hB : enclB l b = 0 := Decidable.not_not.1 c2
    have hE := (enclB_ok hB).1
    have hb := (enclB_ok hB).2
    have hp := hE.pos
    have ht := hE.top
    have hC := hE.all _ (List.getElem_mem hE.pos)
    have e0 := len0_eq hE.pos
    have h9 := hC.top
    refine VC.skip ?_
    show VC _ _ _ _ _ _ _ _
    refine VC.seq ?_
    refine VC.text ?_
    refine VO.c (.assign rfl) ?_
    refine VO.go ?_
    refine VC.seq ?_
    refine VC.seq ?_
    refine VC.text ?_
    refine VO.c (.move rfl) ?_
    refine VO.c (.ix (j := 0) rfl rfl el64 (by omega)) ?_
    refine VO.c (.fa (.r .o)) ?_
    refine VO.r (.ld vt22) ?_
    refine VO.r (.len el22) ?_
    refine VO.c (.move rfl) ?_
    refine VO.go ?_
    refine VC.block ?_
    refine VC.cell0 41 y41 ?_
    refine VC.keep [(0, .v y64 l), (3, .p y41 b), (7, .raw (.slice none 0 0)), (23, I ((((l[0]).2).length : Nat) : Int)), (24, I ((0 : Nat) : Int))] ⟨rfl, rfl, rfl, rfl, rfl, trivial⟩ ?_
    refine VC.loop (I := fun kk ff ss => ∃ (j : Nat) (out : Value), kk = l[0].2.length - j ∧ ff = [(0, .v y64 l), (3, .p y41 b), (7, .raw out), (23, I ((((l[0]).2).length : Nat) : Int)), (24, I ((j : Nat) : Int))] ∧ ss = [(out, .row 41 y41 ((List.range j).map fun t => (minE (colE l t) + b.1, maxE (colE l t) + b.2)))] ∧ (j ≤ l[0].2.length)) ?_ _ _ _ ⟨0, (.slice none 0 0), rfl, rfl, rfl, (by omega)⟩
    rintro kk ff ss ⟨j, out, hk0, rfl, rfl, hj⟩
    refine VC.seq ?_
    refine VC.text ?_
    refine VO.c (.lss) ?_
    refine VO.go ?_
    refine VC.seq ?_
    refine VC.condD rfl (fun c6 => ?_) (fun c6 => ?_)
    · refine VC.skip ?_
      show VC _ _ _ _ _ _ _ _
      refine VC.seq ?_
      refine VC.block ?_
      refine VC.seq ?_
      refine VC.text ?_
      refine VO.c (.move rfl) ?_
      refine VO.cell (.alloc zt3) ?_
      intro ww3
      refine VO.setV (cs' := [I ((j : Nat) : Int)]) vt3 .v ?_
      refine VO.shut [(8, .p (.int .i64) ((j : Nat) : Int))] (.cons rfl (.var m0 .refl) .nil) ?_
      refine VO.go ?_
      refine VC.seq ?_
      refine VC.text ?_
      refine VO.c (.move rfl) ?_
      refine VO.c (.func) ?_
      refine VO.call rfl rfl (VF.call (sMapCI_ok (F := fun x => x.2.getD j 0) (by omega) (fun a m => VF.clo (sEnc1_ok (by have := (hE.all _ m).len; omega))))) ?_
      refine VO.call rfl rfl (VF.call (sHull_ok (by simp; omega) (by simp; omega))) ?_
      refine VO.cell (.alloc zt41) ?_
      intro ww4
      refine VO.setV (cs' := [I ((hullE (l.map (fun x => x.2.getD j 0))).1), I ((hullE (l.map (fun x => x.2.getD j 0))).2)]) vt41 .v ?_
      refine VO.shut [(9, .p y41 (hullE (l.map (fun x => x.2.getD j 0))))] (.cons rfl (.var m0 .refl) .nil) ?_
      refine VO.go ?_
      refine VC.text ?_
      refine VO.c (.move rfl) ?_
      refine VO.c (.fa (.l .o)) ?_
      refine VO.r (.ld vt3) ?_
      refine VO.c (.fa (.l .o)) ?_
      refine VO.r (.ld vt3) ?_
      have hm : -1048576 ≤ minE (colE l j) ∧ minE (colE l j) ≤ 1048576 := minE_bound (colE_bound hE j)
      have hM : -1048576 ≤ maxE (colE l j) ∧ maxE (colE l j) ≤ 1048576 := maxE_bound (colE_bound hE j)
      have hb1 := hb.lo
      have hb2 := hb.hi
      refine VO.c (.add rfl rfl (by have e1 : (hullE (l.map fun x => x.2.getD j 0)).1 = minE (colE l j) := rfl; rw [e1]; omega)) ?_
      refine VO.c (.fa (.r .o)) ?_
      refine VO.r (.ld vt3) ?_
      refine VO.c (.fa (.r .o)) ?_
      refine VO.r (.ld vt3) ?_
      refine VO.c (.add rfl rfl (by have e1 : (hullE (l.map fun x => x.2.getD j 0)).2 = maxE (colE l j) := rfl; rw [e1]; omega)) ?_
      refine VO.c (.build (((hullE (l.map (fun x => x.2.getD j 0))).1 + b.1), ((hullE (l.map (fun x => x.2.getD j 0))).2 + b.2)) bt41) ?_
      refine VO.new (.lit [(((hullE (l.map (fun x => x.2.getD j 0))).1 + b.1), ((hullE (l.map (fun x => x.2.getD j 0))).2 + b.2))] el81) ?_
      refine VO.app rfl rfl el81 el81 (by simp; omega) ?_
      intro ww5
      refine VO.c (.assign rfl) ?_
      refine VO.nil ?_
      show VC _ _ _ _ _ _ _ _
      refine VC.text ?_
      refine VO.c (.add rfl rfl (by omega)) ?_
      refine VO.c (.move rfl) ?_
      refine VO.nil ?_
      refine ⟨_, [(0, .v y64 l), (3, .p y41 b), (7, .raw ww5), (23, I ((((l[0]).2).length : Nat) : Int)), (24, I (((j + 1) : Nat) : Int))], ?_, ⟨rfl, rfl, rfl, rfl, rfl, trivial⟩, (j + 1), ww5, rfl, rfl, (by rw [List.range_succ, List.map_append] <;> rfl), (by omega)⟩
      omega
    · refine VC.exit ?_
      show VC _ _ _ _ _ _ _ _
      refine VC.seq ?_
      refine VC.text ?_
      refine VO.c (.move rfl) ?_
      refine VO.c (.assign rfl) ?_
      refine VO.c (.assign rfl) ?_
      refine VO.go ?_
      refine VC.ret ?_
      exact VEnd.two rfl (evC (.row m0)) evT (pvE (by unfold enclR; rw [if_pos hB, encloseE, show j = len0 l by omega])) (pvI (by exact hB.symm))
end Go.Proofs
namespace Go.Proofs
open Go.Fs
set_option linter.unusedVariables false
abbrev y72 : Ty := (.pair (.int .i64) (.sl (.int .i64)))
theorem vt72 : ValT Tryz.prog 72 y72 := valT_of (by kernel_rfl)
theorem zt72 : ZerT Tryz.prog 72 y72 := zerT_of (z := .agg #[.int .i64 0, .slice none 0 0]) (by kernel_rfl) rfl rfl
theorem bt89 : BldT Tryz.prog 89 y89 [(0, 1), (1, 1)] := bldT_of zt89 rfl (by kernel_rfl)
theorem eq41 : EqT Tryz.prog 41 y41 := eqT_of (by kernel_rfl)
theorem colE_len {l : List (Int × List Int)} {j : Nat} : (colE l j).length = l.length := by simp [colE]
def shortCE (l : List (Int × List Int)) : Bool := decide ((l.length ≤ 6 ∨ l.length = 17) ∧ ∀ c ∈ l, c.2.length ≤ 12 ∨ c.2.length = 97)
theorem rShortC_ok {l : List (Int × (List Int))} : VF Tryz.prog OA 35 [.v y54 l] (B (shortCE l)) := by
  refine VF.enter Tryz.func35 rfl (fun _ _ => rfl) rfl ?_
  show VC _ _ _ _ _ [(0, .v y54 l)] [] _
  refine VC.seq ?_
  refine VC.text ?_
  refine VO.c (.assign rfl) ?_
  refine VO.go ?_
  refine VC.seq ?_
  refine VC.seq ?_
  refine VC.text ?_
  refine VO.c (.move rfl) ?_
  refine VO.r (.len el54) ?_
  refine VO.c (.gtr) ?_
  refine VO.c (.move rfl) ?_
  refine VO.splitD (x := 7) rfl (fun g1_3 => ?_) (fun g1_3 => ?_)
  · refine VO.c (.move rfl) ?_
    refine VO.r (.len el54) ?_
    refine VO.c (.neq) ?_
    refine VO.c (.pickT rfl rfl) ?_
    refine VO.go ?_
    refine VC.condD rfl (fun c1 => ?_) (fun c1 => ?_)
    · refine VC.seq ?_
      refine VC.text ?_
      refine VO.c (.assign rfl) ?_
      refine VO.go ?_
      refine VC.ret ?_
      exact VEnd.one rfl evT (pvE (by first | (refine (decide_eq_false fun h => ?_).symm; have h1 := h.1; omega) | (refine (decide_eq_false fun h => ?_).symm; have h1 := h.2 _ (List.getElem_mem (show j < l.length by omega)); omega) | (refine (decide_eq_true ⟨hl0, ?_⟩).symm; rw [List.take_of_length_le (by omega)] at hf; exact hf)))
    · refine VC.skip ?_
      show VC _ _ _ _ _ _ _ _
      refine VC.seq ?_
      refine VC.seq ?_
      refine VC.text ?_
      refine VO.c (.assign rfl) ?_
      refine VO.go ?_
      refine VC.block ?_
      refine VC.keep [(0, .v y54 l), (3, I ((0 : Nat) : Int))] ⟨rfl, rfl, trivial⟩ ?_
      refine VC.loop (I := fun kk ff ss => ∃ (j : Nat), kk = l.length - j ∧ ff = [(0, .v y54 l), (3, I ((j : Nat) : Int))] ∧ ss = [] ∧ (j ≤ l.length) ∧ (l.length ≤ 6 ∨ l.length = 17) ∧ (∀ c ∈ l.take j, c.2.length ≤ 12 ∨ c.2.length = 97)) ?_ _ _ _ ⟨0, rfl, rfl, rfl, Nat.zero_le _, (by omega), (by simp)⟩
      rintro kk ff ss ⟨j, hk0, rfl, rfl, hj, hl0, hf⟩
      refine VC.seq ?_
      refine VC.seq ?_
      refine VC.text ?_
      refine VO.c (.move rfl) ?_
      refine VO.c (.move rfl) ?_
      refine VO.r (.len el54) ?_
      refine VO.c (.lss) ?_
      refine VO.go ?_
      refine VC.condD rfl (fun c4 => ?_) (fun c4 => ?_)
      · refine VC.skip ?_
        show VC _ _ _ _ _ _ _ _
        refine VC.seq ?_
        refine VC.block ?_
        refine VC.seq ?_
        refine VC.text ?_
        refine VO.c (.move rfl) ?_
        refine VO.c (.move rfl) ?_
        refine VO.c (.ix (j := j) rfl rfl el54 (by omega)) ?_
        refine VO.c (.fa (.r .o)) ?_
        refine VO.r (.ld vt22) ?_
        refine VO.r (.len el22) ?_
        refine VO.c (.gtr) ?_
        refine VO.c (.move rfl) ?_
        refine VO.splitD (x := 25) rfl (fun g6_7 => ?_) (fun g6_7 => ?_)
        · refine VO.c (.move rfl) ?_
          refine VO.c (.move rfl) ?_
          refine VO.c (.ix (j := j) rfl rfl el54 (by omega)) ?_
          refine VO.c (.fa (.r .o)) ?_
          refine VO.r (.ld vt22) ?_
          refine VO.r (.len el22) ?_
          refine VO.c (.neq) ?_
          refine VO.c (.pickT rfl rfl) ?_
          refine VO.go ?_
          refine VC.condD rfl (fun c6 => ?_) (fun c6 => ?_)
          · refine VC.seq ?_
            refine VC.text ?_
            refine VO.c (.assign rfl) ?_
            refine VO.go ?_
            refine VC.ret ?_
            exact VEnd.one rfl evT (pvE (by first | (refine (decide_eq_false fun h => ?_).symm; have h1 := h.1; omega) | (refine (decide_eq_false fun h => ?_).symm; have h1 := h.2 _ (List.getElem_mem (show j < l.length by omega)); omega) | (refine (decide_eq_true ⟨hl0, ?_⟩).symm; rw [List.take_of_length_le (by omega)] at hf; exact hf)))
          · refine VC.skip ?_
            show VC _ _ _ _ _ _ _ _
            refine VC.text ?_
            refine VO.c (.move rfl) ?_
            refine VO.c (.add rfl rfl (by omega)) ?_
            refine VO.c (.assign rfl) ?_
            refine VO.nil ?_
            refine ⟨_, [(0, .v y54 l), (3, I (((j + 1) : Nat) : Int))], ?_, ⟨rfl, rfl, trivial⟩, (j + 1), rfl, rfl, rfl, (by omega), (by exact hl0), (by exact all_take (by omega) hf (by omega))⟩
            omega
        · refine VO.skip ?_
          refine VO.skip ?_
          refine VO.skip ?_
          refine VO.skip ?_
          refine VO.skip ?_
          refine VO.skip ?_
          refine VO.skip ?_
          refine VO.c (.pickF rfl rfl) ?_
          refine VO.go ?_
          refine VC.condF rfl ?_
          refine VC.skip ?_
          show VC _ _ _ _ _ _ _ _
          refine VC.text ?_
          refine VO.c (.move rfl) ?_
          refine VO.c (.add rfl rfl (by omega)) ?_
          refine VO.c (.assign rfl) ?_
          refine VO.nil ?_
          refine ⟨_, [(0, .v y54 l), (3, I (((j + 1) : Nat) : Int))], ?_, ⟨rfl, rfl, trivial⟩, (j + 1), rfl, rfl, rfl, (by omega), (by exact hl0), (by exact all_take (by omega) hf (by omega))⟩
          omega
      · refine VC.exit ?_
        show VC _ _ _ _ _ _ _ _
        refine VC.seq ?_
        refine VC.text ?_
        refine VO.c (.assign rfl) ?_
        refine VO.go ?_
        refine VC.ret ?_
        exact VEnd.one rfl evT (pvE (by first | (refine (decide_eq_false fun h => ?_).symm; have h1 := h.1; omega) | (refine (decide_eq_false fun h => ?_).symm; have h1 := h.2 _ (List.getElem_mem (show j < l.length by omega)); omega) | (refine (decide_eq_true ⟨hl0, ?_⟩).symm; rw [List.take_of_length_le (by omega)] at hf; exact hf)))
  · refine VO.skip ?_
    refine VO.skip ?_
    refine VO.skip ?_
    refine VO.c (.pickF rfl rfl) ?_
    refine VO.go ?_
    refine VC.condF rfl ?_
    refine VC.skip ?_
    show VC _ _ _ _ _ _ _ _
    refine VC.seq ?_
    refine VC.seq ?_
    refine VC.text ?_
    refine VO.c (.assign rfl) ?_
    refine VO.go ?_
    refine VC.block ?_
    refine VC.keep [(0, .v y54 l), (3, I ((0 : Nat) : Int))] ⟨rfl, rfl, trivial⟩ ?_
    refine VC.loop (I := fun kk ff ss => ∃ (j : Nat), kk = l.length - j ∧ ff = [(0, .v y54 l), (3, I ((j : Nat) : Int))] ∧ ss = [] ∧ (j ≤ l.length) ∧ (l.length ≤ 6 ∨ l.length = 17) ∧ (∀ c ∈ l.take j, c.2.length ≤ 12 ∨ c.2.length = 97)) ?_ _ _ _ ⟨0, rfl, rfl, rfl, Nat.zero_le _, (by omega), (by simp)⟩
    rintro kk ff ss ⟨j, hk0, rfl, rfl, hj, hl0, hf⟩
    refine VC.seq ?_
    refine VC.seq ?_
    refine VC.text ?_
    refine VO.c (.move rfl) ?_
    refine VO.c (.move rfl) ?_
    refine VO.r (.len el54) ?_
    refine VO.c (.lss) ?_
    refine VO.go ?_
    refine VC.condD rfl (fun c4 => ?_) (fun c4 => ?_)
    · refine VC.skip ?_
      show VC _ _ _ _ _ _ _ _
      refine VC.seq ?_
      refine VC.block ?_
      refine VC.seq ?_
      refine VC.text ?_
      refine VO.c (.move rfl) ?_
      refine VO.c (.move rfl) ?_
      refine VO.c (.ix (j := j) rfl rfl el54 (by omega)) ?_
      refine VO.c (.fa (.r .o)) ?_
      refine VO.r (.ld vt22) ?_
      refine VO.r (.len el22) ?_
      refine VO.c (.gtr) ?_
      refine VO.c (.move rfl) ?_
      refine VO.splitD (x := 25) rfl (fun g6_7 => ?_) (fun g6_7 => ?_)
      · refine VO.c (.move rfl) ?_
        refine VO.c (.move rfl) ?_
        refine VO.c (.ix (j := j) rfl rfl el54 (by omega)) ?_
        refine VO.c (.fa (.r .o)) ?_
        refine VO.r (.ld vt22) ?_
        refine VO.r (.len el22) ?_
        refine VO.c (.neq) ?_
        refine VO.c (.pickT rfl rfl) ?_
        refine VO.go ?_
        refine VC.condD rfl (fun c6 => ?_) (fun c6 => ?_)
        · refine VC.seq ?_
          refine VC.text ?_
          refine VO.c (.assign rfl) ?_
          refine VO.go ?_
          refine VC.ret ?_
          exact VEnd.one rfl evT (pvE (by first | (refine (decide_eq_false fun h => ?_).symm; have h1 := h.1; omega) | (refine (decide_eq_false fun h => ?_).symm; have h1 := h.2 _ (List.getElem_mem (show j < l.length by omega)); omega) | (refine (decide_eq_true ⟨hl0, ?_⟩).symm; rw [List.take_of_length_le (by omega)] at hf; exact hf)))
        · refine VC.skip ?_
          show VC _ _ _ _ _ _ _ _
          refine VC.text ?_
          refine VO.c (.move rfl) ?_
          refine VO.c (.add rfl rfl (by omega)) ?_
          refine VO.c (.assign rfl) ?_
          refine VO.nil ?_
          refine ⟨_, [(0, .v y54 l), (3, I (((j + 1) : Nat) : Int))], ?_, ⟨rfl, rfl, trivial⟩, (j + 1), rfl, rfl, rfl, (by omega), (by exact hl0), (by exact all_take (by omega) hf (by omega))⟩
          omega
      · refine VO.skip ?_
        refine VO.skip ?_
        refine VO.skip ?_
        refine VO.skip ?_
        refine VO.skip ?_
        refine VO.skip ?_
        refine VO.skip ?_
        refine VO.c (.pickF rfl rfl) ?_
        refine VO.go ?_
        refine VC.condF rfl ?_
        refine VC.skip ?_
        show VC _ _ _ _ _ _ _ _
        refine VC.text ?_
        refine VO.c (.move rfl) ?_
        refine VO.c (.add rfl rfl (by omega)) ?_
        refine VO.c (.assign rfl) ?_
        refine VO.nil ?_
        refine ⟨_, [(0, .v y54 l), (3, I (((j + 1) : Nat) : Int))], ?_, ⟨rfl, rfl, trivial⟩, (j + 1), rfl, rfl, rfl, (by omega), (by exact hl0), (by exact all_take (by omega) hf (by omega))⟩
        omega
    · refine VC.exit ?_
      show VC _ _ _ _ _ _ _ _
      refine VC.seq ?_
      refine VC.text ?_
      refine VO.c (.assign rfl) ?_
      refine VO.go ?_
      refine VC.ret ?_
      exact VEnd.one rfl evT (pvE (by first | (refine (decide_eq_false fun h => ?_).symm; have h1 := h.1; omega) | (refine (decide_eq_false fun h => ?_).symm; have h1 := h.2 _ (List.getElem_mem (show j < l.length by omega)); omega) | (refine (decide_eq_true ⟨hl0, ?_⟩).symm; rw [List.take_of_length_le (by omega)] at hf; exact hf)))
theorem lCourses_ok {l : List (Int × (List Int))} (hl : l.length < 100000) (hc : ∀ c ∈ l, c.2.length < 100000) : VF Tryz.prog OA 37 [.v y54 l] (.v y64 l) := by
  refine VF.enter Tryz.func37 rfl (fun _ _ => rfl) rfl ?_
  show VC _ _ _ _ _ [(0, .v y54 l)] [] _
  refine VC.seq ?_
  refine VC.text ?_
  refine VO.c (.assign rfl) ?_
  refine VO.go ?_
  refine VC.seq ?_
  refine VC.text ?_
  refine VO.c (.assign rfl) ?_
  refine VO.go ?_
  refine VC.seq ?_
  refine VC.seq ?_
  refine VC.text ?_
  refine VO.c (.move rfl) ?_
  refine VO.r (.len el54) ?_
  refine VO.c (.move rfl) ?_
  refine VO.go ?_
  refine VC.block ?_
  refine VC.cell0 89 y89 ?_
  refine VC.keep [(3, .raw (.slice none 0 0)), (6, .v y54 l), (7, I ((l.length : Nat) : Int)), (8, I ((0 : Nat) : Int))] ⟨rfl, rfl, rfl, rfl, trivial⟩ ?_
  refine VC.loop (I := fun kk ff ss => ∃ (j : Nat) (out : Value), kk = l.length - j ∧ ff = [(3, .raw out), (6, .v y54 l), (7, I ((l.length : Nat) : Int)), (8, I ((j : Nat) : Int))] ∧ ss = [(out, .row 89 y89 (l.take j))] ∧ (j ≤ l.length)) ?_ _ _ _ ⟨0, (.slice none 0 0), rfl, rfl, rfl, Nat.zero_le _⟩
  rintro kk ff ss ⟨j, out, hk0, rfl, rfl, hj⟩
  refine VC.seq ?_
  refine VC.text ?_
  refine VO.c (.lss) ?_
  refine VO.go ?_
  refine VC.seq ?_
  refine VC.condD rfl (fun c3 => ?_) (fun c3 => ?_)
  · refine VC.skip ?_
    show VC _ _ _ _ _ _ _ _
    refine VC.seq ?_
    refine VC.block ?_
    refine VC.seq ?_
    refine VC.text ?_
    refine VO.c (.ix (j := j) rfl rfl el54 (by omega)) ?_
    refine VO.r (.ld vt72) ?_
    refine VO.cell (.alloc zt72) ?_
    intro ww2
    refine VO.setV (cs' := [I ((l[j]).1), .v y22 ((l[j]).2)]) vt72 .v ?_
    refine VO.shut [(5, .p y72 (l[j]))] (.cons rfl (.var m0 .refl) .nil) ?_
    refine VO.go ?_
    refine VC.drawn ?_
    refine VD.c (.move rfl) ?_
    refine VD.c (.fa (.l .o)) ?_
    refine VD.r [] (.ld vt3) (.inl rfl) ?_
    refine VD.c (.fa (.r .o)) ?_
    refine VD.r [] (.ld vt22) (.inl rfl) ?_
    have hlj := hc _ (List.getElem_mem (show j < l.length by omega))
    refine VD.call rfl rfl (VF.call (lInts_ok (by first | assumption | omega))) ?_
    refine VD.nw [17] ?_
    refine VD.c (.build ((l[j]).1, ((l[j]).2)) bt89) ?_
    refine VD.new (.lit [((l[j]).1, ((l[j]).2))] el64) ?_
    refine VD.mk (MakeV.app el64 el64 rfl rfl (by simp; omega)) ?_
    rintro _ _ tl3 ⟨ww3, rfl, rfl⟩
    refine VD.c (.assign rfl) ?_
    refine VD.nil ?_
    show VC _ _ _ _ _ _ _ _
    refine VC.text ?_
    refine VO.c (.add rfl rfl (by omega)) ?_
    refine VO.c (.move rfl) ?_
    refine VO.nil ?_
    refine ⟨_, [(3, .raw ww3), (6, .v y54 l), (7, I ((l.length : Nat) : Int)), (8, I (((j + 1) : Nat) : Int))], ?_, ⟨rfl, rfl, rfl, rfl, trivial⟩, (j + 1), ww3, rfl, rfl, (by rw [List.take_succ_eq_append_getElem (by omega)] <;> rfl), (by omega)⟩
    omega
  · refine VC.exit ?_
    show VC _ _ _ _ _ _ _ _
    refine VC.seq ?_
    refine VC.text ?_
    refine VO.c (.move rfl) ?_
    refine VO.c (.assign rfl) ?_
    refine VO.go ?_
    refine VC.ret ?_
    exact VEnd.one rfl (evC (.row m0)) (pvE (by rw [List.take_of_length_le (by omega)]))
end Go.Proofs
namespace Go.Proofs
open Go.Fs
set_option linter.unusedVariables false
abbrev y58 : Ty := (.pair (.int .i64) (.int .i64))
theorem vt58 : ValT Tryz.prog 58 y58 := valT_of (by kernel_rfl)
theorem zt58 : ZerT Tryz.prog 58 y58 := zerT_of (z := .agg #[.int .i64 0, .int .i64 0]) (by kernel_rfl) rfl rfl
theorem bt58 : BldT Tryz.prog 58 y58 [(0, 1), (1, 1)] := bldT_of zt58 rfl (by kernel_rfl)
/-! ## Quotients in lowest terms -/
def lowE (n d : Int) : Int × Int := (n.tdiv (Int.gcd n d), d.tdiv (Int.gcd n d))
theorem gcd_pos {n d : Int} (hd : 0 < d) : 0 < Int.gcd n d := Int.gcd_pos_of_ne_zero_right _ (by omega)
theorem lowB {n : Int} {g : Nat} {B : Int} (h0 : 0 < g) (h : -B ≤ n ∧ n ≤ B) (hB : 0 ≤ B) : -B ≤ n.tdiv g ∧ n.tdiv g ≤ B := by
  have h1 : (n.tdiv g).natAbs = n.natAbs / g := by rw [Int.natAbs_tdiv] <;> rfl
  have h2 : n.natAbs / g ≤ n.natAbs := Nat.div_le_self _ _
  omega
theorem gcd_end {n d : Int} {g b : Nat} (h : Nat.gcd g b = Int.gcd n d) (hb : ¬ ((b : Nat) : Int) ≠ 0) : g = Int.gcd n d := by
  have : b = 0 := by omega
  subst this
  simpa using h
theorem gcd_step {a b : Nat} {G : Nat} (h : Nat.gcd a b = G) (hb : ((b : Nat) : Int) ≠ 0) : Nat.gcd b (a % b) = G := by
  rw [← h, Nat.gcd_comm a b, Nat.gcd_rec b a]
  exact Nat.gcd_comm _ _
theorem sRatio_ok {num : Int} {den : Int} (hn : 0 ≤ num ∧ num ≤ 9000000000000) (hd : 0 < den ∧ den ≤ 9000000000000) : VF Tryz.prog OA 113 [I num, I den] (.v y58 (lowE num den)) := by
  refine VF.enter Tryz.func113 rfl (fun _ _ => rfl) rfl ?_
  show VC _ _ _ _ _ [(0, I num), (1, I den)] [] _
  refine VC.seq ?_
  refine VC.text ?_
  refine VO.cell (.alloc zt58) ?_
  intro ww1
  refine VO.go ?_
  refine VC.seq ?_
  refine VC.text ?_
  refine VO.c (.move rfl) ?_
  refine VO.c (.move rfl) ?_
  refine VO.c (.assign rfl) ?_
  refine VO.c (.assign rfl) ?_
  refine VO.go ?_
  refine VC.seq ?_
  refine VC.block ?_
  refine VC.keep [(0, I num), (1, I den), (4, .raw ww1), (5, I ((num.toNat : Nat) : Int)), (6, I ((den.toNat : Nat) : Int))] ⟨rfl, rfl, rfl, slI rfl (by exact (Int.toNat_of_nonneg hn.1).symm), slI rfl (by exact (Int.toNat_of_nonneg (by omega)).symm), trivial⟩ ?_
  refine VC.loop (I := fun kk ff ss => ∃ (a : Nat) (b : Nat), kk = b ∧ ff = [(0, I num), (1, I den), (4, .raw ww1), (5, I ((a : Nat) : Int)), (6, I ((b : Nat) : Int))] ∧ ss = [(ww1, .var [I (0 : Int), I (0 : Int)])] ∧ (Nat.gcd a b = Int.gcd num den)) ?_ _ _ _ ⟨num.toNat, den.toNat, rfl, rfl, rfl, (by show Nat.gcd num.toNat den.toNat = Nat.gcd num.natAbs den.natAbs; congr 1 <;> omega)⟩
  rintro kk ff ss ⟨a, b, hk0, rfl, rfl, hg⟩
  refine VC.seq ?_
  refine VC.seq ?_
  refine VC.text ?_
  refine VO.c (.move rfl) ?_
  refine VO.c (.neq) ?_
  refine VO.go ?_
  refine VC.condD rfl (fun c2 => ?_) (fun c2 => ?_)
  · refine VC.skip ?_
    show VC _ _ _ _ _ _ _ _
    refine VC.block ?_
    refine VC.drawn ?_
    refine VD.c (.move rfl) ?_
    refine VD.c (.move rfl) ?_
    refine VD.c (.move rfl) ?_
    refine VD.c (.rem rfl rfl (by exact c2)) ?_
    refine VD.c (.assign rfl) ?_
    refine VD.c (.assign rfl) ?_
    refine VD.nil ?_
    refine ⟨_, [(0, I num), (1, I den), (4, .raw ww1), (5, I ((b : Nat) : Int)), (6, I (((a % b) : Nat) : Int))], ?_, ⟨rfl, rfl, rfl, rfl, slI rfl (by exact (Int.ofNat_tmod a b).symm), trivial⟩, b, (a % b), rfl, rfl, rfl, (by exact gcd_step hg c2)⟩
    have h9 := Nat.mod_lt a (show 0 < b by omega); omega
  · refine VC.exit ?_
    show VC _ _ _ _ _ _ _ _
    refine VC.seq ?_
    refine VC.drawn ?_
    have ea := gcd_end hg c2
    have hp := gcd_pos (n := num) (d := den) hd.1
    have b1 := lowB (n := num) (B := 9000000000000) (show 0 < a by omega) (by omega) (by omega)
    have b2 := lowB (n := den) (B := 9000000000000) (show 0 < a by omega) (by omega) (by omega)
    refine VD.c (.move rfl) ?_
    refine VD.c (.move rfl) ?_
    refine VD.c (.quo rfl rfl (by omega) (by omega)) ?_
    refine VD.c (.move rfl) ?_
    refine VD.c (.move rfl) ?_
    refine VD.c (.quo rfl rfl (by omega) (by omega)) ?_
    refine VD.nw [] ?_
    refine VD.c (.build ((num.tdiv ((a : Nat) : Int)), (den.tdiv ((a : Nat) : Int))) bt58) ?_
    refine VD.mk0 (MakeV.setF (k := 0) vt58 .v (by decide) (.inr ⟨rfl, rfl⟩) rfl rfl) ?_
    rintro _ _ tl2 ⟨rfl, rfl⟩
    refine VD.go ?_
    refine VC.ret ?_
    exact VEnd.one rfl (.cell (x := ((num.tdiv ((a : Nat) : Int)), (den.tdiv ((a : Nat) : Int)))) rfl m0 vt58 .refl) (pvE (by rw [ea] <;> rfl))
theorem max_abs (n : Int) : max n (-n) = (n.natAbs : Int) := by omega
theorem rLowest_ok {num : Int} {den : Int} (hn : -9000000000000 ≤ num ∧ num ≤ 9000000000000) (hd : 0 < den ∧ den ≤ 9000000000000) : VF Tryz.prog OA 122 [I num, I den] (.v y58 (lowE num den)) := by
  refine VF.enter Tryz.func122 rfl (fun _ _ => rfl) rfl ?_
  show VC _ _ _ _ _ [(0, I num), (1, I den)] [] _
  refine VC.seq ?_
  refine VC.text ?_
  refine VO.cell (.alloc zt58) ?_
  intro ww3
  refine VO.go ?_
  refine VC.seq ?_
  refine VC.seq ?_
  refine VC.text ?_
  refine VO.c (.move rfl) ?_
  refine VO.c (.lss) ?_
  refine VO.go ?_
  refine VC.condD rfl (fun c1 => ?_) (fun c1 => ?_)
  · exact absurd c1 (by omega)
  · refine VC.skip ?_
    show VC _ _ _ _ _ _ _ _
    refine VC.seq ?_
    refine VC.text ?_
    refine VO.c (.move rfl) ?_
    refine VO.c (.move rfl) ?_
    refine VO.c (.neg rfl (by omega)) ?_
    refine VO.r (.max) ?_
    refine VO.c (.move rfl) ?_
    refine VO.c (.assign rfl) ?_
    refine VO.c (.assign rfl) ?_
    refine VO.go ?_
    refine VC.seq ?_
    refine VC.block ?_
    refine VC.keep [(0, I num), (1, I den), (4, .raw ww3), (5, I ((num.natAbs : Nat) : Int)), (6, I ((den.toNat : Nat) : Int))] ⟨rfl, rfl, rfl, slI rfl (by exact max_abs num), slI rfl (by exact (Int.toNat_of_nonneg (by omega)).symm), trivial⟩ ?_
    refine VC.loop (I := fun kk ff ss => ∃ (a : Nat) (b : Nat), kk = b ∧ ff = [(0, I num), (1, I den), (4, .raw ww3), (5, I ((a : Nat) : Int)), (6, I ((b : Nat) : Int))] ∧ ss = [(ww3, .var [I (0 : Int), I (0 : Int)])] ∧ (Nat.gcd a b = Int.gcd num den)) ?_ _ _ _ ⟨num.natAbs, den.toNat, rfl, rfl, rfl, (by show Nat.gcd num.natAbs den.toNat = Nat.gcd num.natAbs den.natAbs; congr 1; omega)⟩
    rintro kk ff ss ⟨a, b, hk0, rfl, rfl, hg⟩
    refine VC.seq ?_
    refine VC.seq ?_
    refine VC.text ?_
    refine VO.c (.move rfl) ?_
    refine VO.c (.neq) ?_
    refine VO.go ?_
    refine VC.condD rfl (fun c4 => ?_) (fun c4 => ?_)
    · refine VC.skip ?_
      show VC _ _ _ _ _ _ _ _
      refine VC.block ?_
      refine VC.drawn ?_
      refine VD.c (.move rfl) ?_
      refine VD.c (.move rfl) ?_
      refine VD.c (.move rfl) ?_
      refine VD.c (.rem rfl rfl (by exact c4)) ?_
      refine VD.c (.assign rfl) ?_
      refine VD.c (.assign rfl) ?_
      refine VD.nil ?_
      refine ⟨_, [(0, I num), (1, I den), (4, .raw ww3), (5, I ((b : Nat) : Int)), (6, I (((a % b) : Nat) : Int))], ?_, ⟨rfl, rfl, rfl, rfl, slI rfl (by exact (Int.ofNat_tmod a b).symm), trivial⟩, b, (a % b), rfl, rfl, rfl, (by exact gcd_step hg c4)⟩
      have h9 := Nat.mod_lt a (show 0 < b by omega); omega
    · refine VC.exit ?_
      show VC _ _ _ _ _ _ _ _
      refine VC.seq ?_
      refine VC.drawn ?_
      have ea := gcd_end hg c4
      have hp := gcd_pos (n := num) (d := den) hd.1
      have b1 := lowB (n := num) (B := 9000000000000) (show 0 < a by omega) (by omega) (by omega)
      have b2 := lowB (n := den) (B := 9000000000000) (show 0 < a by omega) (by omega) (by omega)
      refine VD.c (.move rfl) ?_
      refine VD.c (.move rfl) ?_
      refine VD.c (.quo rfl rfl (by omega) (by omega)) ?_
      refine VD.c (.move rfl) ?_
      refine VD.c (.move rfl) ?_
      refine VD.c (.quo rfl rfl (by omega) (by omega)) ?_
      refine VD.nw [] ?_
      refine VD.c (.build ((num.tdiv ((a : Nat) : Int)), (den.tdiv ((a : Nat) : Int))) bt58) ?_
      refine VD.mk0 (MakeV.setF (k := 0) vt58 .v (by decide) (.inr ⟨rfl, rfl⟩) rfl rfl) ?_
      rintro _ _ tl4 ⟨rfl, rfl⟩
      refine VD.go ?_
      refine VC.ret ?_
      exact VEnd.one rfl (.cell (x := ((num.tdiv ((a : Nat) : Int)), (den.tdiv ((a : Nat) : Int)))) rfl m0 vt58 .refl) (pvE (by rw [ea] <;> rfl))
end Go.Proofs
namespace Go.Proofs
open Go.Fs
set_option linter.unusedVariables false
abbrev y56 : Ty := (.pair (.int .i64) (.int .i64))
theorem eq58 : EqT Tryz.prog 58 y58 := eqT_of (by kernel_rfl)
theorem gWhen_ok {c : Bool} {e : Int} : VF Tryz.prog OA 163 [B c, I e] (I (whenE c e)) := by
  refine VF.enter Tryz.func163 rfl (fun _ _ => rfl) rfl ?_
  show VC _ _ _ _ _ [(0, B c), (1, I e)] [] _
  refine VC.seq ?_
  refine VC.text ?_
  refine VO.c (.assign rfl) ?_
  refine VO.go ?_
  refine VC.seq ?_
  refine VC.seq ?_
  refine VC.text ?_
  refine VO.c (.move rfl) ?_
  refine VO.go ?_
  refine VC.condB rfl (fun c1 => ?_) (fun c1 => ?_)
  · subst c1
    refine VC.seq ?_
    refine VC.text ?_
    refine VO.c (.move rfl) ?_
    refine VO.c (.assign rfl) ?_
    refine VO.go ?_
    refine VC.ret ?_
    exact VEnd.one rfl evT (pvI (by rfl))
  · subst c1
    refine VC.skip ?_
    show VC _ _ _ _ _ _ _ _
    refine VC.seq ?_
    refine VC.text ?_
    refine VO.c (.assign rfl) ?_
    refine VO.go ?_
    refine VC.ret ?_
    exact VEnd.one rfl evT (pvI (by rfl))
theorem gWithin_ok {n : Int} {lo : Int} {hi : Int} : VF Tryz.prog OA 162 [I n, I lo, I hi] (I (rangeE n lo hi)) := by
  refine VF.enter Tryz.func162 rfl (fun _ _ => rfl) rfl ?_
  show VC _ _ _ _ _ [(0, I n), (1, I lo), (2, I hi)] [] _
  refine VC.seq ?_
  refine VC.text ?_
  refine VO.c (.assign rfl) ?_
  refine VO.go ?_
  refine VC.seq ?_
  refine VC.text ?_
  refine VO.c (.move rfl) ?_
  refine VO.c (.move rfl) ?_
  refine VO.c (.lss) ?_
  refine VO.c (.move rfl) ?_
  refine VO.cg (r := decide (n < lo)) (w := false) [] trivial (fun hgd => have g1_3 : ¬ (n < lo) := (by simpa using hgd); (.move rfl)) ?_
  refine VO.cg (r := decide (n < lo)) (w := false) [] trivial (fun hgd => have g1_3 : ¬ (n < lo) := (by simpa using hgd); (.move rfl)) ?_
  refine VO.cg (r := decide (n < lo)) (w := false) [(11, I n), (12, I hi)] ⟨rfl, rfl, trivial⟩ (fun hgd => have g1_3 : ¬ (n < lo) := (by simpa using hgd); (.gtr)) ?_
  refine VO.c (.or) ?_
  refine VO.call rfl rfl (VF.call (gWhen_ok )) ?_
  refine VO.c (.assign rfl) ?_
  refine VO.go ?_
  refine VC.ret ?_
  exact VEnd.one rfl evT (pvI (by simp [rangeE, whenE, *]))
theorem gFirst_ok {l : List Int} (hl : l.length < 1000000) : VF Tryz.prog OA 161 [.v y179 l] (I (firstE l)) := by
  refine VF.enter Tryz.func161 rfl (fun _ _ => rfl) rfl ?_
  show VC _ _ _ _ _ [(0, .v y179 l)] [] _
  refine VC.seq ?_
  refine VC.text ?_
  refine VO.c (.assign rfl) ?_
  refine VO.go ?_
  refine VC.seq ?_
  refine VC.seq ?_
  refine VC.text ?_
  refine VO.c (.move rfl) ?_
  refine VO.r (.len el179) ?_
  refine VO.c (.move rfl) ?_
  refine VO.go ?_
  refine VC.block ?_
  refine VC.keep [(5, .v y179 l), (6, I ((l.length : Nat) : Int)), (7, I ((0 : Nat) : Int))] ⟨rfl, rfl, rfl, trivial⟩ ?_
  refine VC.loop (I := fun kk ff ss => ∃ (j : Nat), kk = l.length - j ∧ ff = [(5, .v y179 l), (6, I ((l.length : Nat) : Int)), (7, I ((j : Nat) : Int))] ∧ ss = [] ∧ (j ≤ l.length) ∧ (firstE l = firstE (l.drop j))) ?_ _ _ _ ⟨0, rfl, rfl, rfl, Nat.zero_le _, (by rfl)⟩
  rintro kk ff ss ⟨j, hk0, rfl, rfl, hj, hf⟩
  refine VC.seq ?_
  refine VC.text ?_
  refine VO.c (.lss) ?_
  refine VO.go ?_
  refine VC.seq ?_
  refine VC.condD rfl (fun c2 => ?_) (fun c2 => ?_)
  · refine VC.skip ?_
    show VC _ _ _ _ _ _ _ _
    refine VC.seq ?_
    refine VC.block ?_
    refine VC.seq ?_
    refine VC.text ?_
    refine VO.c (.ix (j := j) rfl rfl el179 (by omega)) ?_
    refine VO.r (.ld vt26) ?_
    refine VO.c (.assign rfl) ?_
    refine VO.go ?_
    refine VC.seq ?_
    refine VC.text ?_
    refine VO.c (.move rfl) ?_
    refine VO.c (.neq) ?_
    refine VO.go ?_
    refine VC.condD rfl (fun c4 => ?_) (fun c4 => ?_)
    · refine VC.seq ?_
      refine VC.text ?_
      refine VO.c (.move rfl) ?_
      refine VO.c (.assign rfl) ?_
      refine VO.go ?_
      refine VC.ret ?_
      exact VEnd.one rfl evT (pvI (by rw [hf, firstE_drop (by omega), if_neg c4]))
    · refine VC.skip ?_
      show VC _ _ _ _ _ _ _ _
      refine VC.text ?_
      refine VO.c (.add rfl rfl (by omega)) ?_
      refine VO.c (.move rfl) ?_
      refine VO.nil ?_
      refine ⟨_, [(5, .v y179 l), (6, I ((l.length : Nat) : Int)), (7, I (((j + 1) : Nat) : Int))], ?_, ⟨rfl, rfl, rfl, trivial⟩, (j + 1), rfl, rfl, rfl, (by omega), (by rw [hf, firstE_drop (by omega), if_pos (by simpa using c4)])⟩
      omega
  · refine VC.exit ?_
    show VC _ _ _ _ _ _ _ _
    refine VC.seq ?_
    refine VC.text ?_
    refine VO.c (.assign rfl) ?_
    refine VO.go ?_
    refine VC.ret ?_
    exact VEnd.one rfl evT (pvI (by rw [hf, firstE_end (by omega)]))
def ratioE (r : Int × Int) : Int := firstE [rangeE r.1 (-999999999) 999999999, rangeE r.2 1 999999999, whenE (decide (((Int.gcd r.1 r.2 : Nat) : Int) ≠ 1)) 1]
theorem ratio_two {r : Int × Int} : ratioE r = firstE ([rangeE r.1 (-999999999) 999999999, rangeE r.2 1 999999999] ++ [whenE (decide (((Int.gcd r.1 r.2 : Nat) : Int) ≠ 1)) 1]) := rfl
theorem ratio_ok {a b : Int} (h : firstE [rangeE a (-999999999) 999999999, rangeE b 1 999999999] = 0) : (-999999999 ≤ a ∧ a ≤ 999999999) ∧ (1 ≤ b ∧ b ≤ 999999999) := by
  rw [firstE_zero] at h
  exact ⟨rangeE_zero.1 (h _ (by simp)), rangeE_zero.1 (h _ (by simp))⟩
theorem firstE_one (x : Int) : firstE [x] = x := by
  show (if x = 0 then 0 else x) = x
  split <;> omega
theorem gRatio_ok {q : Int × Int} : VF Tryz.prog OA 116 [.v y58 q] (I (ratioE q)) := by
  refine VF.enter Tryz.func116 rfl (fun _ _ => rfl) rfl ?_
  show VC _ _ _ _ _ [(0, .v y58 q)] [] _
  refine VC.seq ?_
  refine VC.text ?_
  refine VO.new (.box) ?_
  refine VO.c (.assign rfl) ?_
  refine VO.go ?_
  refine VC.seq ?_
  refine VC.seq ?_
  refine VC.drawn ?_
  refine VD.c (.fa (.l .o)) ?_
  refine VD.r [] (.ld vt3) (.inl rfl) ?_
  refine VD.call rfl rfl (VF.call (gWithin_ok )) ?_
  refine VD.c (.fa (.r .o)) ?_
  refine VD.r [] (.ld vt3) (.inl rfl) ?_
  refine VD.call rfl rfl (VF.call (gWithin_ok )) ?_
  refine VD.nw [] ?_
  refine VD.new (.lit [rangeE q.1 (-999999999 : Int) (999999999 : Int), rangeE q.2 (1 : Int) (999999999 : Int)] el179) ?_
  refine VD.callO rfl rfl (VF.call (gFirst_ok (by simp))) ?_
  refine VD.c (.assign rfl) ?_
  refine VD.go ?_
  refine VC.seq ?_
  refine VC.text ?_
  refine VO.c (.move rfl) ?_
  refine VO.c (.neq) ?_
  refine VO.go ?_
  refine VC.condD rfl (fun c2 => ?_) (fun c2 => ?_)
  · refine VC.seq ?_
    refine VC.text ?_
    refine VO.c (.move rfl) ?_
    refine VO.c (.assign rfl) ?_
    refine VO.go ?_
    refine VC.ret ?_
    exact VEnd.one rfl evT (pvI (by rw [ratio_two, firstE_app, if_neg c2]))
  · have hr := ratio_ok (Decidable.not_not.1 c2)
    refine VC.skip ?_
    show VC _ _ _ _ _ _ _ _
    refine VC.seq ?_
    refine VC.drawn ?_
    refine VD.c (.fa (.l .o)) ?_
    refine VD.r [] (.ld vt3) (.inl rfl) ?_
    refine VD.c (.fa (.l .o)) ?_
    refine VD.r [] (.ld vt3) (.inl rfl) ?_
    refine VD.c (.neg rfl (by omega)) ?_
    refine VD.r [] (.max) (.inl rfl) ?_
    refine VD.nw [] ?_
    refine VD.c (.fa (.r .o)) ?_
    refine VD.r [] (.ld vt3) (.inl rfl) ?_
    refine VD.c (.assign rfl) ?_
    refine VD.c (.assign rfl) ?_
    refine VD.go ?_
    refine VC.seq ?_
    refine VC.block ?_
    refine VC.keep [(4, I ((q.1.natAbs : Nat) : Int)), (5, I ((q.2.toNat : Nat) : Int))] ⟨slI rfl (by exact max_abs _), slI rfl (by exact (Int.toNat_of_nonneg (by omega)).symm), trivial⟩ ?_
    refine VC.loop (I := fun kk ff ss => ∃ (a : Nat) (b : Nat), kk = b ∧ ff = [(4, I ((a : Nat) : Int)), (5, I ((b : Nat) : Int))] ∧ ss = [] ∧ (Nat.gcd a b = Int.gcd q.1 q.2)) ?_ _ _ _ ⟨q.1.natAbs, q.2.toNat, rfl, rfl, rfl, (by show Nat.gcd q.1.natAbs q.2.toNat = Nat.gcd q.1.natAbs q.2.natAbs; congr 1; omega)⟩
    rintro kk ff ss ⟨a, b, hk0, rfl, rfl, hg⟩
    refine VC.seq ?_
    refine VC.seq ?_
    refine VC.text ?_
    refine VO.c (.move rfl) ?_
    refine VO.c (.neq) ?_
    refine VO.go ?_
    refine VC.condD rfl (fun c5 => ?_) (fun c5 => ?_)
    · refine VC.skip ?_
      show VC _ _ _ _ _ _ _ _
      refine VC.block ?_
      refine VC.drawn ?_
      refine VD.c (.move rfl) ?_
      refine VD.c (.move rfl) ?_
      refine VD.c (.move rfl) ?_
      refine VD.c (.rem rfl rfl (by exact c5)) ?_
      refine VD.c (.assign rfl) ?_
      refine VD.c (.assign rfl) ?_
      refine VD.nil ?_
      refine ⟨_, [(4, I ((b : Nat) : Int)), (5, I (((a % b) : Nat) : Int))], ?_, ⟨rfl, slI rfl (by exact (Int.ofNat_tmod a b).symm), trivial⟩, b, (a % b), rfl, rfl, rfl, (by exact gcd_step hg c5)⟩
      have h9 := Nat.mod_lt a (show 0 < b by omega); omega
    · refine VC.exit ?_
      show VC _ _ _ _ _ _ _ _
      refine VC.seq ?_
      refine VC.text ?_
      have ea := gcd_end hg c5
      refine VO.c (.move rfl) ?_
      refine VO.c (.neq) ?_
      refine VO.call rfl rfl (VF.call (gWhen_ok )) ?_
      refine VO.c (.assign rfl) ?_
      refine VO.go ?_
      refine VC.ret ?_
      exact VEnd.one rfl evT (pvI (by rw [ratio_two, firstE_app, if_pos (Decidable.not_not.1 c2), firstE_one, ← ea]))
theorem low_eq {r : Int × Int} (hd : 0 < r.2) : r = lowE r.1 r.2 ↔ ((Int.gcd r.1 r.2 : Nat) : Int) = 1 := by
  constructor
  · intro h
    have h2 : r.2 = r.2.tdiv (Int.gcd r.1 r.2) := congrArg Prod.snd h
    have hp := gcd_pos (n := r.1) hd
    by_cases h1 : Int.gcd r.1 r.2 = 1
    · rw [h1] <;> rfl
    · exfalso
      have h3 : r.2.tdiv (Int.gcd r.1 r.2) < r.2 := by
        rw [Int.tdiv_eq_ediv_of_nonneg (by omega)]
        exact Int.ediv_lt_self_of_pos_of_ne_one hd (by omega)
      omega
  · intro h
    have h1 : Int.gcd r.1 r.2 = 1 := by omega
    unfold lowE
    rw [h1]
    simp
theorem rRatio_ok {q : Int × Int} : VF Tryz.prog OA 121 [.v y58 q] (I (ratioE q)) := by
  refine VF.enter Tryz.func121 rfl (fun _ _ => rfl) rfl ?_
  show VC _ _ _ _ _ [(0, .v y58 q)] [] _
  refine VC.seq ?_
  refine VC.text ?_
  refine VO.new (.box) ?_
  refine VO.c (.assign rfl) ?_
  refine VO.go ?_
  refine VC.seq ?_
  refine VC.seq ?_
  refine VC.drawn ?_
  refine VD.c (.fa (.l .o)) ?_
  refine VD.r [] (.ld vt3) (.inl rfl) ?_
  refine VD.call rfl rfl (VF.call (rCheckRange_ok )) ?_
  refine VD.c (.fa (.r .o)) ?_
  refine VD.r [] (.ld vt3) (.inl rfl) ?_
  refine VD.call rfl rfl (VF.call (rCheckRange_ok )) ?_
  refine VD.nw [] ?_
  refine VD.new (.lit [rangeE q.1 (-999999999 : Int) (999999999 : Int), rangeE q.2 (1 : Int) (999999999 : Int)] el22) ?_
  refine VD.callO rfl rfl (VF.call (rFirst_ok (by simp))) ?_
  refine VD.c (.assign rfl) ?_
  refine VD.go ?_
  refine VC.seq ?_
  refine VC.text ?_
  refine VO.c (.move rfl) ?_
  refine VO.c (.neq) ?_
  refine VO.go ?_
  refine VC.condD rfl (fun c2 => ?_) (fun c2 => ?_)
  · refine VC.seq ?_
    refine VC.text ?_
    refine VO.c (.move rfl) ?_
    refine VO.c (.assign rfl) ?_
    refine VO.go ?_
    refine VC.ret ?_
    exact VEnd.one rfl evT (pvI (by rw [ratio_two, firstE_app, if_neg c2]))
  · have hr := ratio_ok (Decidable.not_not.1 c2)
    refine VC.skip ?_
    show VC _ _ _ _ _ _ _ _
    refine VC.seq ?_
    refine VC.seq ?_
    refine VC.drawn ?_
    refine VD.r [] (.ld vt58) (.inl rfl) ?_
    refine VD.c (.fa (.l .o)) ?_
    refine VD.r [] (.ld vt3) (.inl rfl) ?_
    refine VD.c (.fa (.r .o)) ?_
    refine VD.r [] (.ld vt3) (.inl rfl) ?_
    refine VD.call rfl rfl (VF.call (rLowest_ok (by omega) (by omega))) ?_
    refine VD.nw [] ?_
    refine VD.c (.eneq eq58) ?_
    refine VD.go ?_
    refine VC.condD rfl (fun c4 => ?_) (fun c4 => ?_)
    · refine VC.seq ?_
      refine VC.text ?_
      refine VO.c (.assign rfl) ?_
      refine VO.go ?_
      refine VC.ret ?_
      exact VEnd.one rfl evT (pvI (by rw [ratio_two, firstE_app, if_pos (Decidable.not_not.1 c2), firstE_one, whenE_t (fun h => c4 ((low_eq (by omega)).2 h))]))
    · refine VC.skip ?_
      show VC _ _ _ _ _ _ _ _
      refine VC.seq ?_
      refine VC.text ?_
      refine VO.c (.assign rfl) ?_
      refine VO.go ?_
      refine VC.ret ?_
      exact VEnd.one rfl evT (pvI (by rw [ratio_two, firstE_app, if_pos (Decidable.not_not.1 c2), firstE_one, whenE_f (fun h => h ((low_eq (by omega)).1 (Decidable.not_not.1 c4)))]))
def spanE (s : Int × Int) (n : Int) : Int := if s.1 < 0 ∨ s.2 < s.1 ∨ n < s.2 then 14 else 0
def shareE (r : Int × Int) : Int := firstE [ratioE r, whenE (decide (r.1 < 0 ∨ r.2 < r.1)) 3]
theorem rShare_ok {q : Int × Int} : VF Tryz.prog OA 43 [.v y58 q] (I (shareE q)) := by
  refine VF.enter Tryz.func43 rfl (fun _ _ => rfl) rfl ?_
  show VC _ _ _ _ _ [(0, .v y58 q)] [] _
  refine VC.seq ?_
  refine VC.text ?_
  refine VO.new (.box) ?_
  refine VO.c (.assign rfl) ?_
  refine VO.go ?_
  refine VC.seq ?_
  refine VC.seq ?_
  refine VC.text ?_
  refine VO.r (.ld vt58) ?_
  refine VO.call rfl rfl (VF.call (rRatio_ok )) ?_
  refine VO.c (.assign rfl) ?_
  refine VO.go ?_
  refine VC.seq ?_
  refine VC.text ?_
  refine VO.c (.move rfl) ?_
  refine VO.c (.neq) ?_
  refine VO.go ?_
  refine VC.condD rfl (fun c2 => ?_) (fun c2 => ?_)
  · refine VC.seq ?_
    refine VC.text ?_
    refine VO.c (.move rfl) ?_
    refine VO.c (.assign rfl) ?_
    refine VO.go ?_
    refine VC.ret ?_
    exact VEnd.one rfl evT (pvI (by rw [shareE, firstE, if_neg c2]))
  · refine VC.skip ?_
    show VC _ _ _ _ _ _ _ _
    refine VC.seq ?_
    refine VC.seq ?_
    refine VC.text ?_
    refine VO.c (.fa (.l .o)) ?_
    refine VO.r (.ld vt3) ?_
    refine VO.c (.lss) ?_
    refine VO.c (.move rfl) ?_
    refine VO.cg (r := decide (q.1 < (0 : Int))) (w := false) [] trivial (fun hgd => have g4_3 : ¬ (q.1 < (0 : Int)) := (by simpa using hgd); (.fa (.l .o))) ?_
    refine VO.rg (r := decide (q.1 < (0 : Int))) (w := false) [(13, .p (.int .i64) q.1)] ⟨rfl, trivial⟩ (fun hgd => have g4_3 : ¬ (q.1 < (0 : Int)) := (by simpa using hgd); (.ld vt3)) ?_
    refine VO.cg (r := decide (q.1 < (0 : Int))) (w := false) [] trivial (fun hgd => have g4_3 : ¬ (q.1 < (0 : Int)) := (by simpa using hgd); (.fa (.r .o))) ?_
    refine VO.rg (r := decide (q.1 < (0 : Int))) (w := false) [(15, .p (.int .i64) q.2)] ⟨rfl, trivial⟩ (fun hgd => have g4_3 : ¬ (q.1 < (0 : Int)) := (by simpa using hgd); (.ld vt3)) ?_
    refine VO.cg (r := decide (q.1 < (0 : Int))) (w := false) [(14, I q.1), (16, I q.2)] ⟨rfl, rfl, trivial⟩ (fun hgd => have g4_3 : ¬ (q.1 < (0 : Int)) := (by simpa using hgd); (.gtr)) ?_
    refine VO.c (.or) ?_
    refine VO.go ?_
    refine VC.condB rfl (fun c4 => ?_) (fun c4 => ?_)
    · try simp only [Bool.and_eq_true, Bool.or_eq_true, Bool.and_eq_false_iff, Bool.or_eq_false_iff, Bool.not_eq_true', Bool.not_eq_false', decide_eq_true_eq, decide_eq_false_iff_not] at c4
      refine VC.seq ?_
      refine VC.text ?_
      refine VO.c (.assign rfl) ?_
      refine VO.go ?_
      refine VC.ret ?_
      exact VEnd.one rfl evT (pvI (by rw [shareE, firstE, if_pos (by first | exact Decidable.not_not.1 c2 | simpa using c2), firstE_one]; first | rw [whenE_t (by omega)] | rw [whenE_f (by omega)]))
    · try simp only [Bool.and_eq_true, Bool.or_eq_true, Bool.and_eq_false_iff, Bool.or_eq_false_iff, Bool.not_eq_true', Bool.not_eq_false', decide_eq_true_eq, decide_eq_false_iff_not] at c4
      refine VC.skip ?_
      show VC _ _ _ _ _ _ _ _
      refine VC.seq ?_
      refine VC.text ?_
      refine VO.c (.assign rfl) ?_
      refine VO.go ?_
      refine VC.ret ?_
      exact VEnd.one rfl evT (pvI (by rw [shareE, firstE, if_pos (by first | exact Decidable.not_not.1 c2 | simpa using c2), firstE_one]; first | rw [whenE_t (by omega)] | rw [whenE_f (by omega)]))
/-! ## Weights -/
def weightE (F : Int × List Int → Bool) (l : List (Int × List Int)) : Int := ((l.filter F).map fun c => c.1).sum
theorem weight_succ {F : Int × List Int → Bool} {l : List (Int × List Int)} {j : Nat} (hj : j < l.length) : weightE F (l.take (j + 1)) = weightE F (l.take j) + if F l[j] = true then l[j].1 else 0 := by
  unfold weightE
  rw [List.take_succ_eq_append_getElem hj, List.filter_append, List.map_append, List.sum_append, List.filter_cons, List.filter_nil]
  split <;> simp
theorem weight_bound {F : Int × List Int → Bool} : ∀ {l : List (Int × List Int)}, (∀ c ∈ l, 1 ≤ c.1 ∧ c.1 ≤ 1000) → 0 ≤ weightE F l ∧ weightE F l ≤ 1000 * (l.length : Nat)
  | [], _ => by simp [weightE]
  | c :: l, h => by
    have h1 := h c List.mem_cons_self
    have h2 := weight_bound (F := F) (l := l) fun x hx => h x (List.mem_cons_of_mem _ hx)
    unfold weightE at h2 ⊢
    rw [List.filter_cons, List.length_cons]
    split
    · rw [List.map_cons, List.sum_cons]; omega
    · omega
theorem take_all {α : Type} {p : α → Prop} {l : List α} (h : ∀ c ∈ l, p c) (j : Nat) : ∀ c ∈ l.take j, p c := fun c hc => h c (List.mem_of_mem_take hc)
theorem weight_bound' {F : Int × List Int → Bool} {l : List (Int × List Int)} (h : ∀ c ∈ l, 1 ≤ c.1 ∧ c.1 ≤ 1000) (j : Nat) : 0 ≤ weightE F (l.take j) ∧ weightE F (l.take j) ≤ 1000 * (j : Nat) := by
  have := weight_bound (F := F) (take_all h j)
  rw [List.length_take] at this
  omega
theorem sWeight_ok {F : Int × List Int → Bool} {l : List (Int × (List Int))} {f : PV} (hl : l.length < 100000) (hw1 : ∀ c ∈ l, 1 ≤ c.1 ∧ c.1 ≤ 1000) (hf : ∀ x ∈ l, VCall Tryz.prog OA f [.v y89 x] (B (F x))) : VF Tryz.prog OA 114 [.v y64 l, f] (I (weightE F l)) := by
  refine VF.enter Tryz.func114 rfl (fun _ _ => rfl) rfl ?_
  show VC _ _ _ _ _ [(0, .v y64 l), (1, f)] [] _
  refine VC.seq ?_
  refine VC.text ?_
  refine VO.c (.assign rfl) ?_
  refine VO.go ?_
  refine VC.seq ?_
  refine VC.text ?_
  refine VO.c (.assign rfl) ?_
  refine VO.go ?_
  refine VC.seq ?_
  refine VC.seq ?_
  refine VC.text ?_
  refine VO.c (.move rfl) ?_
  refine VO.r (.len el64) ?_
  refine VO.c (.move rfl) ?_
  refine VO.go ?_
  refine VC.block ?_
  refine VC.keep [(1, f), (5, I (weightE F (l.take 0))), (8, .v y64 l), (9, I ((l.length : Nat) : Int)), (10, I ((0 : Nat) : Int))] ⟨rfl, slI rfl (by rfl), rfl, rfl, rfl, trivial⟩ ?_
  refine VC.loop (I := fun kk ff ss => ∃ (j : Nat), kk = l.length - j ∧ ff = [(1, f), (5, I (weightE F (l.take j))), (8, .v y64 l), (9, I ((l.length : Nat) : Int)), (10, I ((j : Nat) : Int))] ∧ ss = [] ∧ (j ≤ l.length)) ?_ _ _ _ ⟨0, rfl, rfl, rfl, Nat.zero_le _⟩
  rintro kk ff ss ⟨j, hk0, rfl, rfl, hj⟩
  refine VC.seq ?_
  refine VC.text ?_
  refine VO.c (.lss) ?_
  refine VO.go ?_
  refine VC.seq ?_
  refine VC.condD rfl (fun c3 => ?_) (fun c3 => ?_)
  · refine VC.skip ?_
    show VC _ _ _ _ _ _ _ _
    refine VC.seq ?_
    refine VC.block ?_
    refine VC.seq ?_
    refine VC.text ?_
    refine VO.c (.ix (j := j) rfl rfl el64 (by omega)) ?_
    refine VO.r (.ld vt89) ?_
    refine VO.cell (.alloc zt89) ?_
    intro ww1
    refine VO.setV (cs' := [I ((l[j]).1), .v y22 ((l[j]).2)]) vt89 .v ?_
    refine VO.shut [(7, .p y89 (l[j]))] (.cons rfl (.var m0 .refl) .nil) ?_
    refine VO.go ?_
    refine VC.seq ?_
    refine VC.text ?_
    have hb := weight_bound' (F := F) hw1 j
    have hc := hw1 _ (List.getElem_mem (show j < l.length by omega))
    refine VO.c (.move rfl) ?_
    refine VO.r (.ld vt89) ?_
    refine VO.call rfl rfl ((hf _ (List.getElem_mem _)) ) ?_
    refine VO.go ?_
    refine VC.condB rfl (fun c5 => ?_) (fun c5 => ?_)
    · refine VC.text ?_
      refine VO.c (.move rfl) ?_
      refine VO.c (.fa (.l .o)) ?_
      refine VO.r (.ld vt3) ?_
      refine VO.c (.add rfl rfl (by omega)) ?_
      refine VO.c (.assign rfl) ?_
      refine VO.nil ?_
      show VC _ _ _ _ _ _ _ _
      refine VC.text ?_
      refine VO.c (.add rfl rfl (by omega)) ?_
      refine VO.c (.move rfl) ?_
      refine VO.nil ?_
      refine ⟨_, [(1, f), (5, I (weightE F (l.take (j + 1)))), (8, .v y64 l), (9, I ((l.length : Nat) : Int)), (10, I (((j + 1) : Nat) : Int))], ?_, ⟨rfl, slI rfl (by rw [weight_succ (by omega)]; first | rw [if_pos c5] | (rw [if_neg (by rw [c5]; decide)]; simp)), rfl, rfl, rfl, trivial⟩, (j + 1), rfl, rfl, rfl, (by omega)⟩
      omega
    · refine VC.skip ?_
      show VC _ _ _ _ _ _ _ _
      refine VC.text ?_
      refine VO.c (.add rfl rfl (by omega)) ?_
      refine VO.c (.move rfl) ?_
      refine VO.nil ?_
      refine ⟨_, [(1, f), (5, I (weightE F (l.take (j + 1)))), (8, .v y64 l), (9, I ((l.length : Nat) : Int)), (10, I (((j + 1) : Nat) : Int))], ?_, ⟨rfl, slI rfl (by rw [weight_succ (by omega)]; first | rw [if_pos c5] | (rw [if_neg (by rw [c5]; decide)]; simp)), rfl, rfl, rfl, trivial⟩, (j + 1), rfl, rfl, rfl, (by omega)⟩
      omega
  · refine VC.exit ?_
    show VC _ _ _ _ _ _ _ _
    refine VC.seq ?_
    refine VC.text ?_
    refine VO.c (.move rfl) ?_
    refine VO.c (.assign rfl) ?_
    refine VO.go ?_
    refine VC.ret ?_
    exact VEnd.one rfl evT (pvI (by rw [List.take_of_length_le (by omega)]))
theorem sAll_ok {c : Int × (List Int)} : VF Tryz.prog OA 115 [.v y89 c] (B true) := by
  refine VF.enter Tryz.func115 rfl (fun _ _ => rfl) rfl ?_
  show VC _ _ _ _ _ [(0, .v y89 c)] [] _
  refine VC.seq ?_
  refine VC.text ?_
  refine VO.new (.box) ?_
  refine VO.c (.assign rfl) ?_
  refine VO.go ?_
  refine VC.seq ?_
  refine VC.text ?_
  refine VO.c (.assign rfl) ?_
  refine VO.go ?_
  refine VC.ret ?_
  exact VEnd.one rfl evT (pvE (by first | rfl | simp))
end Go.Proofs
namespace Go.Proofs
open Go.Fs
set_option linter.unusedVariables false

def idxE (F : Int → Bool) : List Int → Int → Int
  | [], _ => -1
  | x :: l, k => if F x = true then k else idxE F l (k + 1)
theorem idxE_drop {F : Int → Bool} {l : List Int} {j : Nat} (hj : j < l.length) : idxE F (l.drop j) (j : Nat) = if F l[j] = true then ((j : Nat) : Int) else idxE F (l.drop (j + 1)) ((j + 1 : Nat) : Int) := by
  rw [List.drop_eq_getElem_cons hj] <;> rfl
theorem idxE_end {F : Int → Bool} {l : List Int} {j : Nat} {k : Int} (hj : l.length ≤ j) : idxE F (l.drop j) k = -1 := by rw [List.drop_eq_nil_of_le hj] <;> rfl
theorem idxE_any {F : Int → Bool} : ∀ {l : List Int} {k : Int}, 0 ≤ k → ((0 ≤ idxE F l k) ↔ l.any F = true)
  | [], k, _ => by simp [idxE]
  | x :: l, k, h => by
    unfold idxE
    rw [List.any_cons]
    by_cases hx : F x = true
    · rw [if_pos hx, hx]; simp [h]
    · rw [if_neg hx, idxE_any (l := l) (by omega)]; simp [hx]
theorem zIndexF_ok {F : Int → Bool} {l : List Int} {f : PV} (hl : l.length < 100000) (hf : ∀ x ∈ l, VCall Tryz.prog OA f [I x] (B (F x))) : VF Tryz.prog OA 160 [.v y22 l, f] (I (idxE F l 0)) := by
  refine VF.enter Tryz.func160 rfl (fun _ _ => rfl) rfl ?_
  show VC _ _ _ _ _ [(0, .v y22 l), (1, f)] [] _
  refine VC.seq ?_
  refine VC.text ?_
  refine VO.c (.assign rfl) ?_
  refine VO.go ?_
  refine VC.seq ?_
  refine VC.seq ?_
  refine VC.text ?_
  refine VO.c (.move rfl) ?_
  refine VO.r (.len el22) ?_
  refine VO.c (.move rfl) ?_
  refine VO.go ?_
  refine VC.block ?_
  refine VC.keep [(0, .v y22 l), (1, f), (7, I ((l.length : Nat) : Int)), (8, I ((0 : Nat) : Int))] ⟨rfl, rfl, rfl, rfl, trivial⟩ ?_
  refine VC.loop (I := fun kk ff ss => ∃ (j : Nat), kk = l.length - j ∧ ff = [(0, .v y22 l), (1, f), (7, I ((l.length : Nat) : Int)), (8, I ((j : Nat) : Int))] ∧ ss = [] ∧ (j ≤ l.length) ∧ (idxE F l 0 = idxE F (l.drop j) (j : Nat))) ?_ _ _ _ ⟨0, rfl, rfl, rfl, Nat.zero_le _, (by rfl)⟩
  rintro kk ff ss ⟨j, hk0, rfl, rfl, hj, hi⟩
  refine VC.seq ?_
  refine VC.text ?_
  refine VO.c (.lss) ?_
  refine VO.go ?_
  refine VC.seq ?_
  refine VC.condD rfl (fun c2 => ?_) (fun c2 => ?_)
  · refine VC.skip ?_
    show VC _ _ _ _ _ _ _ _
    refine VC.seq ?_
    refine VC.block ?_
    refine VC.seq ?_
    refine VC.text ?_
    refine VO.c (.move rfl) ?_
    refine VO.c (.assign rfl) ?_
    refine VO.go ?_
    refine VC.seq ?_
    refine VC.text ?_
    refine VO.c (.move rfl) ?_
    refine VO.c (.move rfl) ?_
    refine VO.c (.move rfl) ?_
    refine VO.c (.ix (j := j) rfl rfl el22 (by omega)) ?_
    refine VO.r (.ld vt3) ?_
    refine VO.call rfl rfl ((hf _ (List.getElem_mem _)) ) ?_
    refine VO.go ?_
    refine VC.condB rfl (fun c4 => ?_) (fun c4 => ?_)
    · refine VC.seq ?_
      refine VC.text ?_
      refine VO.c (.move rfl) ?_
      refine VO.c (.assign rfl) ?_
      refine VO.go ?_
      refine VC.ret ?_
      exact VEnd.one rfl evT (pvI (by rw [hi, idxE_drop (by omega), if_pos c4]))
    · refine VC.skip ?_
      show VC _ _ _ _ _ _ _ _
      refine VC.text ?_
      refine VO.c (.add rfl rfl (by omega)) ?_
      refine VO.c (.move rfl) ?_
      refine VO.nil ?_
      refine ⟨_, [(0, .v y22 l), (1, f), (7, I ((l.length : Nat) : Int)), (8, I (((j + 1) : Nat) : Int))], ?_, ⟨rfl, rfl, rfl, rfl, trivial⟩, (j + 1), rfl, rfl, rfl, (by omega), (by rw [hi, idxE_drop (by omega), if_neg (by rw [c4]; decide)])⟩
      omega
  · refine VC.exit ?_
    show VC _ _ _ _ _ _ _ _
    refine VC.seq ?_
    refine VC.text ?_
    refine VO.c (.assign rfl) ?_
    refine VO.go ?_
    refine VC.ret ?_
    exact VEnd.one rfl evT (pvI (by rw [hi, idxE_end (by omega)]))
theorem zContainsF_ok {F : Int → Bool} {l : List Int} {f : PV} (hl : l.length < 100000) (hf : ∀ x ∈ l, VCall Tryz.prog OA f [I x] (B (F x))) : VF Tryz.prog OA 111 [.v y22 l, f] (B (l.any F)) := by
  refine VF.enter Tryz.func111 rfl (fun _ _ => rfl) rfl ?_
  show VC _ _ _ _ _ [(0, .v y22 l), (1, f)] [] _
  refine VC.seq ?_
  refine VC.text ?_
  refine VO.c (.assign rfl) ?_
  refine VO.go ?_
  refine VC.seq ?_
  refine VC.text ?_
  refine VO.c (.move rfl) ?_
  refine VO.c (.move rfl) ?_
  refine VO.call rfl rfl (VF.call (zIndexF_ok (F := F) hl hf)) ?_
  refine VO.c (.geq) ?_
  refine VO.c (.assign rfl) ?_
  refine VO.go ?_
  refine VC.ret ?_
  exact VEnd.one rfl evT (pvE (by have h9 := idxE_any (F := F) (l := l) (k := 0) (by omega); cases h8 : l.any F <;> simp_all))
theorem sEx11_ok {n : Int} {limit : Int} : VF Tryz.prog OA 112 [I n, .p (.int .i64) limit] (B (decide (limit < n))) := by
  refine VF.enter Tryz.func112 rfl (fun _ _ => rfl) rfl ?_
  show VC _ _ _ _ _ [(0, I n), (1, .p (.int .i64) limit)] [] _
  refine VC.seq ?_
  refine VC.text ?_
  refine VO.c (.assign rfl) ?_
  refine VO.go ?_
  refine VC.seq ?_
  refine VC.text ?_
  refine VO.c (.move rfl) ?_
  refine VO.r (.ld vt3) ?_
  refine VO.c (.gtr) ?_
  refine VO.c (.assign rfl) ?_
  refine VO.go ?_
  refine VC.ret ?_
  exact VEnd.one rfl evT (pvE (by first | rfl | simp))
def passE (limit : Int) (s : Int × Int) (c : Int × List Int) : Bool := ((c.2.take s.2.toNat).drop s.1.toNat).any fun n => decide (limit < n)
theorem sEx1_ok {c : Int × (List Int)} {s : Int × Int} {limit : Int} (hs : 0 ≤ s.1 ∧ s.1 ≤ s.2 ∧ s.2 ≤ (c.2.length : Nat)) (hc : c.2.length < 100000) : VF Tryz.prog OA 110 [.v y89 c, .p y56 s, .p (.int .i64) limit] (B (passE limit s c)) := by
  refine VF.enter Tryz.func110 rfl (fun _ _ => rfl) rfl ?_
  show VC _ _ _ _ _ [(0, .v y89 c), (1, .p y56 s), (2, .p (.int .i64) limit)] [] _
  refine VC.seq ?_
  refine VC.text ?_
  refine VO.new (.box) ?_
  refine VO.c (.assign rfl) ?_
  refine VO.go ?_
  refine VC.seq ?_
  refine VC.text ?_
  refine VO.c (.fa (.r .o)) ?_
  refine VO.r (.ld vt22) ?_
  refine VO.c (.fa (.l .o)) ?_
  refine VO.r (.ld vt3) ?_
  refine VO.c (.fa (.r .o)) ?_
  refine VO.r (.ld vt3) ?_
  refine VO.r (.cut rfl rfl rfl el22 (by exact hs)) ?_
  refine VO.c (.func) ?_
  refine VO.call rfl rfl (VF.call (zContainsF_ok (F := fun n => decide (limit < n)) (by simp; omega) (fun _ _ => VF.clo sEx11_ok))) ?_
  refine VO.c (.assign rfl) ?_
  refine VO.go ?_
  refine VC.ret ?_
  exact VEnd.one rfl evT (pvE (by rfl))
def exceedE (l : List (Int × List Int)) (limit : Int) (s : Int × Int) : Int × Int := lowE (weightE (passE limit s) l) (weightE (fun _ => true) l)
def exceedB (l : List (Int × List Int)) (limit : Int) (s : Int × Int) : Int := firstE [ensembleE l, rangeE limit (-1048576) 1048576, spanE s (len0 l : Nat)]
theorem exceed_two {l : List (Int × List Int)} {limit : Int} {s : Int × Int} : exceedB l limit s = firstE ([ensembleE l, rangeE limit (-1048576) 1048576] ++ [spanE s (len0 l : Nat)]) := rfl
theorem exceed_ens {l : List (Int × List Int)} {a : Int} (h : firstE [ensembleE l, a] = 0) : OkE l := by
  rw [firstE_zero] at h
  exact ensembleE_ok (h _ (by simp))
theorem okE_w {l : List (Int × List Int)} (h : OkE l) : ∀ c ∈ l, 1 ≤ c.1 ∧ c.1 ≤ 1000 := fun c hc => (h.all c hc).w
theorem total_pos {l : List (Int × List Int)} (h : OkE l) : 0 < weightE (fun _ => true) l := by
  have hp := h.pos
  cases l with
  | nil => simp at hp
  | cons c l =>
    have h1 := (h.all c List.mem_cons_self).w
    have h2 := weight_bound (F := fun _ => true) (l := l) fun x hx => (h.all x (List.mem_cons_of_mem _ hx)).w
    unfold weightE at h2 ⊢
    rw [List.filter_cons, if_pos rfl, List.map_cons, List.sum_cons]
    omega
theorem okE_len {l : List (Int × List Int)} (h : OkE l) : ∀ c ∈ l, c.2.length = len0 l := fun c hc => (h.all c hc).len
def exceedR (l : List (Int × List Int)) (limit : Int) (s : Int × Int) : Int × Int := if exceedB l limit s = 0 then exceedE l limit s else (0, 0)
theorem sExceed_ok {l : List (Int × (List Int))} {limit : Int} {s : Int × Int} (hl : ∀ c ∈ l, c.2.length < 100000) : VF Tryz.prog OA 36 [.v y64 l, I limit, .v y56 s] (.tup [.v y58 (exceedR l limit s), I (exceedB l limit s)]) := by
  refine VF.enter Tryz.func36 rfl (fun _ _ => rfl) rfl ?_
  show VC _ _ _ _ _ [(0, .v y64 l), (1, I limit), (2, .v y56 s)] [] _
  refine VC.seq ?_
  refine VC.text ?_
  refine VO.new (.box) ?_
  refine VO.new (.box) ?_
  refine VO.cell (.alloc zt58) ?_
  intro ww1
  refine VO.c (.assign rfl) ?_
  refine VO.go ?_
  refine VC.seq ?_
  refine VC.seq ?_
  refine VC.drawn ?_
  refine VD.c (.move rfl) ?_
  refine VD.call rfl rfl (VF.call (sEnsemble_ok (by first | assumption | omega))) ?_
  refine VD.r [] (.ld vt3) (.inl rfl) ?_
  refine VD.call rfl rfl (VF.call (sHeight_ok )) ?_
  refine VD.new (.lit [ensembleE l, rangeE limit (-1048576) 1048576] el179) ?_
  refine VD.callO rfl rfl (VF.call (sFirst_ok (by simp))) ?_
  refine VD.nw [14] ?_
  refine VD.c (.assign rfl) ?_
  refine VD.go ?_
  refine VC.seq ?_
  refine VC.text ?_
  refine VO.c (.move rfl) ?_
  refine VO.c (.neq) ?_
  refine VO.go ?_
  refine VC.condD rfl (fun c2 => ?_) (fun c2 => ?_)
  · refine VC.seq ?_
    refine VC.text ?_
    refine VO.c (.build (0, 0) bt58) ?_
    refine VO.c (.move rfl) ?_
    refine VO.setV (cs' := [I 0, I 0]) vt58 .v ?_
    refine VO.c (.assign rfl) ?_
    refine VO.go ?_
    refine VC.ret ?_
    exact VEnd.two rfl (.cell (x := (0, 0)) rfl m0 vt58 .refl) evT (pvE (by unfold exceedR; rw [exceed_two, firstE_app, if_neg c2, if_neg c2] <;> rfl)) (pvI (by rw [exceed_two, firstE_app, if_neg c2]))
  · have hE := exceed_ens (Decidable.not_not.1 c2)
    have hp := hE.pos
    have ht := hE.top
    have e0 := len0_eq hE.pos
    refine VC.skip ?_
    show VC _ _ _ _ _ _ _ _
    refine VC.seq ?_
    refine VC.seq ?_
    refine VC.drawn ?_
    refine VD.c (.fa (.l .o)) ?_
    refine VD.r [] (.ld vt3) (.inl rfl) ?_
    refine VD.c (.lss) ?_
    refine VD.c (.move rfl) ?_
    refine VD.splitD (x := 23) rfl (fun g4_3 => ?_) (fun g4_3 => ?_)
    · refine VD.skip ?_
      refine VD.nw [] ?_
      refine VD.skip ?_
      refine VD.skip ?_
      refine VD.skip ?_
      refine VD.skip ?_
      refine VD.c (.pickT rfl rfl) ?_
      refine VD.c (.move rfl) ?_
      refine VD.skip ?_
      refine VD.nw [] ?_
      refine VD.skip ?_
      refine VD.skip ?_
      refine VD.skip ?_
      refine VD.skip ?_
      refine VD.skip ?_
      refine VD.skip ?_
      refine VD.skip ?_
      refine VD.nw [] ?_
      refine VD.c (.pickT rfl rfl) ?_
      refine VD.go ?_
      refine VC.condT rfl ?_
      refine VC.seq ?_
      refine VC.keep [(0, .v y64 l), (4, .p (.int .i64) limit), (5, .p y56 s), (6, .raw ww1)] ⟨rfl, rfl, rfl, rfl, trivial⟩ ?_
      refine VC.text ?_
      refine VO.c (.build (0, 0) bt58) ?_
      refine VO.setV (cs' := [I 0, I 0]) vt58 .v ?_
      refine VO.c (.assign rfl) ?_
      refine VO.go ?_
      refine VC.ret ?_
      exact VEnd.two rfl (.cell (x := (0, 0)) rfl m0 vt58 .refl) evT (pvE (by unfold exceedR; first | (rw [if_pos hB] <;> rfl) | (rw [show exceedB l limit s = 14 by rw [exceed_two, firstE_app, if_pos (Decidable.not_not.1 c2), firstE_one, spanE, if_pos (by omega)]] <;> rfl))) (pvI (by first | exact hB.symm | (rw [exceed_two, firstE_app, if_pos (Decidable.not_not.1 c2), firstE_one, spanE, if_pos (by omega)])))
    · refine VD.c (.fa (.l .o)) ?_
      refine VD.nw [] ?_
      refine VD.r [] (.ld vt3) (.inl rfl) ?_
      refine VD.c (.fa (.r .o)) ?_
      refine VD.r [] (.ld vt3) (.inl rfl) ?_
      refine VD.c (.gtr) ?_
      refine VD.c (.pickF rfl rfl) ?_
      refine VD.c (.move rfl) ?_
      refine VD.splitD (x := 30) rfl (fun g4_10 => ?_) (fun g4_10 => ?_)
      · refine VD.nw [] ?_
        refine VD.skip ?_
        refine VD.skip ?_
        refine VD.skip ?_
        refine VD.skip ?_
        refine VD.skip ?_
        refine VD.skip ?_
        refine VD.skip ?_
        refine VD.nw [] ?_
        refine VD.skip ?_
        refine VD.c (.pickT rfl rfl) ?_
        refine VD.go ?_
        refine VC.condT rfl ?_
        refine VC.seq ?_
        refine VC.keep [(0, .v y64 l), (4, .p (.int .i64) limit), (5, .p y56 s), (6, .raw ww1)] ⟨rfl, rfl, rfl, rfl, trivial⟩ ?_
        refine VC.text ?_
        refine VO.c (.build (0, 0) bt58) ?_
        refine VO.setV (cs' := [I 0, I 0]) vt58 .v ?_
        refine VO.c (.assign rfl) ?_
        refine VO.go ?_
        refine VC.ret ?_
        exact VEnd.two rfl (.cell (x := (0, 0)) rfl m0 vt58 .refl) evT (pvE (by unfold exceedR; first | (rw [if_pos hB] <;> rfl) | (rw [show exceedB l limit s = 14 by rw [exceed_two, firstE_app, if_pos (Decidable.not_not.1 c2), firstE_one, spanE, if_pos (by omega)]] <;> rfl))) (pvI (by first | exact hB.symm | (rw [exceed_two, firstE_app, if_pos (Decidable.not_not.1 c2), firstE_one, spanE, if_pos (by omega)])))
      · refine VD.nw [] ?_
        refine VD.c (.fa (.r .o)) ?_
        refine VD.r [] (.ld vt3) (.inl rfl) ?_
        refine VD.c (.move rfl) ?_
        refine VD.c (.ix (j := 0) rfl rfl el64 (by omega)) ?_
        refine VD.c (.fa (.r .o)) ?_
        refine VD.r [] (.ld vt22) (.inl rfl) ?_
        refine VD.r [] (.len el22) (.inl rfl) ?_
        refine VD.nw [] ?_
        refine VD.c (.gtr) ?_
        refine VD.c (.pickF rfl rfl) ?_
        refine VD.go ?_
        refine VC.condD rfl (fun c4 => ?_) (fun c4 => ?_)
        · refine VC.seq ?_
          refine VC.keep [(0, .v y64 l), (4, .p (.int .i64) limit), (5, .p y56 s), (6, .raw ww1)] ⟨rfl, rfl, rfl, rfl, trivial⟩ ?_
          refine VC.text ?_
          refine VO.c (.build (0, 0) bt58) ?_
          refine VO.setV (cs' := [I 0, I 0]) vt58 .v ?_
          refine VO.c (.assign rfl) ?_
          refine VO.go ?_
          refine VC.ret ?_
          exact VEnd.two rfl (.cell (x := (0, 0)) rfl m0 vt58 .refl) evT (pvE (by unfold exceedR; first | (rw [if_pos hB] <;> rfl) | (rw [show exceedB l limit s = 14 by rw [exceed_two, firstE_app, if_pos (Decidable.not_not.1 c2), firstE_one, spanE, if_pos (by omega)]] <;> rfl))) (pvI (by first | exact hB.symm | (rw [exceed_two, firstE_app, if_pos (Decidable.not_not.1 c2), firstE_one, spanE, if_pos (by omega)])))
        · have hsp : 0 ≤ s.1 ∧ s.1 ≤ s.2 ∧ s.2 ≤ (len0 l : Nat) := by omega
          have hB : exceedB l limit s = 0 := by rw [exceed_two, firstE_app, if_pos (Decidable.not_not.1 c2), firstE_one, spanE, if_neg (by omega)]
          have hw0 := okE_w hE
          have w1 := weight_bound (F := passE limit s) hw0
          have w2 := weight_bound (F := fun _ => true) hw0
          have w3 := total_pos hE
          refine VC.skip ?_
          show VC _ _ _ _ _ _ _ _
          refine VC.seq ?_
          refine VC.keep [(0, .v y64 l), (4, .p (.int .i64) limit), (5, .p y56 s), (6, .raw ww1)] ⟨rfl, rfl, rfl, rfl, trivial⟩ ?_
          refine VC.text ?_
          refine VO.c (.func) ?_
          refine VO.c (.assign rfl) ?_
          refine VO.go ?_
          refine VC.seq ?_
          refine VC.text ?_
          refine VO.c (.move rfl) ?_
          refine VO.c (.move rfl) ?_
          refine VO.call rfl rfl (VF.call (sWeight_ok (F := passE limit s) (by omega) hw0 (fun _ m => VF.clo (sEx1_ok (by rw [okE_len hE _ m]; exact hsp) (hl _ m))))) ?_
          refine VO.c (.move rfl) ?_
          refine VO.call rfl rfl (VF.call (sWeight_ok (F := fun _ => true) (by omega) hw0 (fun _ _ => VF.call sAll_ok))) ?_
          refine VO.call rfl rfl (VF.call (sRatio_ok (by omega) (by omega))) ?_
          refine VO.setV (cs' := [I ((lowE (weightE (passE limit s) l) (weightE (fun _ => true) l)).1), I ((lowE (weightE (passE limit s) l) (weightE (fun _ => true) l)).2)]) vt58 .v ?_
          refine VO.c (.assign rfl) ?_
          refine VO.go ?_
          refine VC.ret ?_
          exact VEnd.two rfl (.cell (x := lowE (weightE (passE limit s) l) (weightE (fun _ => true) l)) rfl m0 vt58 .refl) evT (pvE (by unfold exceedR; first | (rw [if_pos hB] <;> rfl) | (rw [show exceedB l limit s = 14 by rw [exceed_two, firstE_app, if_pos (Decidable.not_not.1 c2), firstE_one, spanE, if_pos (by omega)]] <;> rfl))) (pvI (by first | exact hB.symm | (rw [exceed_two, firstE_app, if_pos (Decidable.not_not.1 c2), firstE_one, spanE, if_pos (by omega)])))
end Go.Proofs
namespace Go.Proofs
open Go.Fs
set_option linter.unusedVariables false

theorem cNaN_ok {x : Int} : VF Tryz.prog OA 208 [I x] (B false) := by
  refine VF.enter Tryz.func208 rfl (fun _ _ => rfl) rfl ?_
  show VC _ _ _ _ _ [(0, I x)] [] _
  refine VC.seq ?_
  refine VC.text ?_
  refine VO.c (.assign rfl) ?_
  refine VO.go ?_
  refine VC.seq ?_
  refine VC.text ?_
  refine VO.c (.move rfl) ?_
  refine VO.c (.move rfl) ?_
  refine VO.c (.neq) ?_
  refine VO.c (.assign rfl) ?_
  refine VO.go ?_
  refine VC.ret ?_
  exact VEnd.one rfl evT (pvE (by simp))
theorem cLess_ok {x : Int} {y : Int} : VF Tryz.prog OA 196 [I x, I y] (B (decide (x < y))) := by
  refine VF.enter Tryz.func196 rfl (fun _ _ => rfl) rfl ?_
  show VC _ _ _ _ _ [(0, I x), (1, I y)] [] _
  refine VC.seq ?_
  refine VC.text ?_
  refine VO.c (.assign rfl) ?_
  refine VO.go ?_
  refine VC.seq ?_
  refine VC.text ?_
  refine VO.c (.move rfl) ?_
  refine VO.call rfl rfl (VF.call (cNaN_ok )) ?_
  refine VO.c (.move rfl) ?_
  refine VO.skip ?_
  refine VO.skip ?_
  refine VO.skip ?_
  refine VO.c (.pickF rfl rfl) ?_
  refine VO.c (.move rfl) ?_
  refine VO.c (.move rfl) ?_
  refine VO.c (.move rfl) ?_
  refine VO.c (.lss) ?_
  refine VO.c (.pickF rfl rfl) ?_
  refine VO.c (.assign rfl) ?_
  refine VO.go ?_
  refine VC.ret ?_
  exact VEnd.one rfl evT (pvE (by simp_all))
def sortE (l : List Int) : List Int := l.mergeSort fun a b => decide (a ≤ b)
theorem sortE_perm (l : List Int) : (sortE l).Perm l := List.mergeSort_perm _ _
theorem sortE_sorted (l : List Int) : (sortE l).Pairwise (· ≤ ·) := by
  have := List.pairwise_mergeSort (le := fun a b : Int => decide (a ≤ b)) (fun a b c h1 h2 => by simp at *; omega) (fun a b => by simp; omega) l
  exact this.imp fun h => of_decide_eq_true h
theorem sortE_eq {l ys : List Int} (hp : ys.Perm l) (hs : ys.Pairwise (· ≤ ·)) : ys = sortE l :=
  List.Perm.eq_of_pairwise (le := (· ≤ ·)) (fun a b _ _ h1 h2 => by omega) hs (sortE_sorted l) (hp.trans (sortE_perm l).symm)
theorem getD_get {l : List Int} {k : Nat} (h : k < l.length) : l.getD k 0 = l[k] := by simp [List.getD, h]
def swapE (ws : List Int) (j : Nat) : List Int := (ws.set j (ws.getD (j - 1) 0)).set (j - 1) (ws.getD j 0)
theorem swap_perm {ws : List Int} {j : Nat} (h0 : 0 < j) (hl : j < ws.length) : (swapE ws j).Perm ws := by
  have h1 : j - 1 < ws.length := by omega
  have := List.set_set_perm hl h1
  unfold swapE
  rw [getD_get h1, getD_get hl]
  exact this
theorem swap_get {ws : List Int} {j k : Nat} (h0 : 0 < j) (hl : j < ws.length) : (swapE ws j).getD k 0 = if k = j - 1 then ws.getD j 0 else if k = j then ws.getD (j - 1) 0 else ws.getD k 0 := by
  unfold swapE
  simp only [List.getD_eq_getElem?_getD, List.getElem?_set, List.length_set]
  by_cases h1 : k = j - 1
  · subst h1
    rw [if_pos rfl, if_pos rfl, if_pos (by omega)] <;> rfl
  · rw [if_neg (fun e => h1 e.symm), if_neg h1]
    by_cases h2 : k = j
    · subst h2
      rw [if_pos rfl, if_pos rfl, if_pos hl] <;> rfl
    · rw [if_neg (fun e => h2 e.symm), if_neg h2]
def SortedTo (zs : List Int) (n : Nat) : Prop := ∀ p q, p < q → q < n → zs.getD p 0 ≤ zs.getD q 0
def InsInv (ws : List Int) (i j : Nat) : Prop := (∀ p q, p < q → q ≤ i → p ≠ j → q ≠ j → ws.getD p 0 ≤ ws.getD q 0) ∧ (∀ q, j < q → q ≤ i → ws.getD j 0 ≤ ws.getD q 0)
theorem ins_init {zs : List Int} {i : Nat} (h : SortedTo zs i) : InsInv zs i i := ⟨fun p q h1 h2 _ h4 => h p q h1 (by omega), fun q h1 h2 => by omega⟩
theorem ins_step {ws : List Int} {i j : Nat} (h : InsInv ws i j) (h0 : 0 < j) (hj : j ≤ i) (hl : i < ws.length) (hlt : ws.getD j 0 < ws.getD (j - 1) 0) : InsInv (swapE ws j) i (j - 1) := by
  constructor
  · intro p q h1 h2 h3 h4
    rw [swap_get h0 (by omega), swap_get h0 (by omega), if_neg h3, if_neg h4]
    by_cases hp : p = j
    · rw [if_pos hp, if_neg (by omega)]
      exact h.1 (j - 1) q (by omega) h2 (by omega) (by omega)
    · rw [if_neg hp]
      by_cases hq : q = j
      · rw [if_pos hq]
        exact h.1 p (j - 1) (by omega) (by omega) hp (by omega)
      · rw [if_neg hq]
        exact h.1 p q h1 h2 hp hq
  · intro q h1 h2
    rw [swap_get h0 (by omega), swap_get h0 (by omega), if_pos rfl, if_neg (by omega)]
    by_cases hq : q = j
    · rw [if_pos hq]; omega
    · rw [if_neg hq]
      exact h.2 q (by omega) h2
theorem ins_end {ws : List Int} {i j : Nat} (h : InsInv ws i j) (hj : j ≤ i) (he : j = 0 ∨ ws.getD (j - 1) 0 ≤ ws.getD j 0) : SortedTo ws (i + 1) := by
  intro p q h1 h2
  by_cases hp : p = j
  · rw [hp]; exact h.2 q (by omega) (by omega)
  · by_cases hq : q = j
    · subst hq
      rcases he with he | he
      · omega
      · by_cases h3 : p = q - 1
        · rw [h3]; exact he
        · have := h.1 p (q - 1) (by omega) (by omega) hp (by omega)
          omega
    · exact h.1 p q h1 (by omega) hp hq
theorem sorted_end {zs : List Int} (h : SortedTo zs zs.length) : zs.Pairwise (· ≤ ·) := by
  rw [List.pairwise_iff_getElem]
  intro i j hi hj hij
  have := h i j hij hj
  rwa [getD_get hi, getD_get hj] at this
theorem swap_mem {ws : List Int} {j : Nat} {z : Int} (hz : z = (j : Int) - 1) (h0 : 0 < j) (hl : j < ws.length) : (ws.set j (ws[z.toNat]'(by omega))).set z.toNat ws[j] = swapE ws j := by
  have e : z.toNat = j - 1 := by omega
  unfold swapE
  rw [getD_get (show j - 1 < ws.length by omega), getD_get hl]
  simp only [e]
theorem ins_lt {ws : List Int} {j : Nat} {z : Int} (hz : z = (j : Int) - 1) (h0 : 0 < j) (hl : j < ws.length) : (ws[j] < ws[z.toNat]'(by omega)) ↔ ws.getD j 0 < ws.getD (j - 1) 0 := by
  have e : z.toNat = j - 1 := by omega
  rw [getD_get (show j - 1 < ws.length by omega), getD_get hl]
  simp only [e]
theorem zIns_ok {w_l : Value} {l : List Int} {a : Int} {b : Int} (ha : a = 0) (hb : b = (l.length : Nat)) (hl : l.length < 100000) : VFG Tryz.prog OA 190 [.raw w_l, I a, I b] [(w_l, .row 3 (.int .i64) l)] (fun r g => r = .tup [] ∧ g = [(w_l, .row 3 (.int .i64) (sortE l))]) := by
  refine VFG.enter Tryz.func190 rfl (fun _ _ => rfl) rfl ?_
  show VC _ _ _ _ _ [(0, .raw w_l), (1, I a), (2, I b)] [(w_l, .row 3 (.int .i64) l)] _
  refine VC.seq ?_
  refine VC.text ?_
  refine VO.c (.move rfl) ?_
  refine VO.c (.add rfl rfl (by omega)) ?_
  refine VO.c (.assign rfl) ?_
  refine VO.go ?_
  refine VC.block ?_
  refine VC.keep [(0, .raw w_l), (1, I a), (2, I b), (6, I ((1 : Nat) : Int))] ⟨rfl, rfl, rfl, slI rfl (by rw [ha] <;> rfl), trivial⟩ ?_
  refine VC.loop (I := fun kk ff ss => ∃ (i : Nat) (zs : List Int), kk = l.length - i ∧ ff = [(0, .raw w_l), (1, I a), (2, I b), (6, I ((i : Nat) : Int))] ∧ ss = [(w_l, .row 3 (.int .i64) zs)] ∧ (1 ≤ i ∧ (i ≤ l.length ∨ i = 1)) ∧ (zs.Perm l) ∧ (SortedTo zs i)) ?_ _ _ _ ⟨1, l, rfl, rfl, rfl, (by omega), (by exact .refl _), (by (intro p q h1 h2; omega))⟩
  rintro kk ff ss ⟨i, zs, hk0, rfl, rfl, hi, hp, hz⟩
  have hzl := hp.length_eq
  refine VC.seq ?_
  refine VC.seq ?_
  refine VC.text ?_
  refine VO.c (.move rfl) ?_
  refine VO.c (.move rfl) ?_
  refine VO.c (.lss) ?_
  refine VO.go ?_
  refine VC.condD rfl (fun c1 => ?_) (fun c1 => ?_)
  · refine VC.skip ?_
    show VC _ _ _ _ _ _ _ _
    refine VC.seq ?_
    refine VC.block ?_
    refine VC.seq ?_
    refine VC.text ?_
    refine VO.c (.move rfl) ?_
    refine VO.c (.assign rfl) ?_
    refine VO.go ?_
    refine VC.block ?_
    refine VC.keep [(0, .raw w_l), (1, I a), (2, I b), (6, I ((i : Nat) : Int)), (7, I ((i : Nat) : Int))] ⟨rfl, rfl, rfl, rfl, rfl, trivial⟩ ?_
    refine VC.loop (I := fun kk ff ss => ∃ (j : Nat) (ws : List Int), kk = j ∧ ff = [(0, .raw w_l), (1, I a), (2, I b), (6, I ((i : Nat) : Int)), (7, I ((j : Nat) : Int))] ∧ ss = [(w_l, .row 3 (.int .i64) ws)] ∧ (j ≤ i) ∧ (ws.Perm l) ∧ (InsInv ws i j)) ?_ _ _ _ ⟨i, zs, rfl, rfl, rfl, (by omega), (by exact hp), (by exact ins_init hz)⟩
    rintro kk ff ss ⟨j, ws, hk2, rfl, rfl, hj, hp2, hz2⟩
    have hwl := hp2.length_eq
    refine VC.seq ?_
    refine VC.seq ?_
    refine VC.drawn ?_
    refine VD.c (.move rfl) ?_
    refine VD.c (.move rfl) ?_
    refine VD.c (.gtr) ?_
    refine VD.c (.move rfl) ?_
    refine VD.splitD (x := 19) rfl (fun g4_3 => ?_) (fun g4_3 => ?_)
    · refine VD.c (.move rfl) ?_
      refine VD.nw [] ?_
      refine VD.c (.move rfl) ?_
      refine VD.co (.ixO (j := j) rfl rfl m0 el22 (by omega)) ?_
      refine VD.r [(w_l, .row 3 (.int .i64) ws)] (.ldO rfl m0 vt3 (by omega)) (.inr ⟨rfl, rfl⟩) ?_
      refine VD.c (.move rfl) ?_
      refine VD.c (.move rfl) ?_
      refine VD.c (.sub rfl rfl (by omega)) ?_
      refine VD.co (.ixOZ (k := (((j : Nat) : Int) - (1 : Int))) rfl rfl m0 el22 (by omega) (by omega)) ?_
      refine VD.nw [] ?_
      refine VD.r [(w_l, .row 3 (.int .i64) ws)] (.ldO rfl m0 vt3 (by omega)) (.inr ⟨rfl, rfl⟩) ?_
      refine VD.call rfl rfl (VF.call (cLess_ok )) ?_
      refine VD.c (.pickT rfl rfl) ?_
      refine VD.go ?_
      refine VC.condB rfl (fun c4 => ?_) (fun c4 => ?_)
      · try simp only [Bool.and_eq_true, Bool.or_eq_true, Bool.and_eq_false_iff, Bool.or_eq_false_iff, Bool.not_eq_true', Bool.not_eq_false', decide_eq_true_eq, decide_eq_false_iff_not] at c4
        refine VC.skip ?_
        show VC _ _ _ _ _ _ _ _
        refine VC.seq ?_
        refine VC.block ?_
        refine VC.drawn ?_
        refine VD.c (.move rfl) ?_
        refine VD.c (.move rfl) ?_
        refine VD.c (.move rfl) ?_
        refine VD.c (.move rfl) ?_
        refine VD.c (.sub rfl rfl (by omega)) ?_
        refine VD.c (.move rfl) ?_
        refine VD.nw [] ?_
        refine VD.c (.move rfl) ?_
        refine VD.c (.sub rfl rfl (by omega)) ?_
        refine VD.co (.ixOZ (k := (((j : Nat) : Int) - (1 : Int))) rfl rfl m0 el22 (by omega) (by omega)) ?_
        refine VD.r [(w_l, .row 3 (.int .i64) ws)] (.ldO rfl m0 vt3 (by omega)) (.inr ⟨rfl, rfl⟩) ?_
        refine VD.c (.move rfl) ?_
        refine VD.c (.move rfl) ?_
        refine VD.co (.ixO (j := j) rfl rfl m0 el22 (by omega)) ?_
        refine VD.nw [] ?_
        refine VD.r [(w_l, .row 3 (.int .i64) ws)] (.ldO rfl m0 vt3 (by omega)) (.inr ⟨rfl, rfl⟩) ?_
        refine VD.co (.ixO (j := j) rfl rfl m0 el22 (by omega)) ?_
        refine VD.mk0 (MakeV.setE (j := j) vt3 (by omega) rfl rfl) ?_
        rintro _ _ tl1 ⟨rfl, rfl⟩
        refine VD.co (.ixOZ (k := (((j : Nat) : Int) - (1 : Int))) rfl rfl m0 el22 (by omega) (by simp; omega)) ?_
        refine VD.mk0 (MakeV.setE (j := (Int.toNat (((j : Nat) : Int) - (1 : Int)))) vt3 (by simp; omega) rfl rfl) ?_
        rintro _ _ tl2 ⟨rfl, rfl⟩
        refine VD.nil ?_
        show VC _ _ _ _ _ _ _ _
        refine VC.keep [(0, .raw w_l), (1, I a), (2, I b), (6, I ((i : Nat) : Int)), (7, I ((j : Nat) : Int))] ⟨rfl, rfl, rfl, rfl, rfl, trivial⟩ ?_
        refine VC.text ?_
        refine VO.c (.move rfl) ?_
        refine VO.c (.sub rfl rfl (by omega)) ?_
        refine VO.c (.assign rfl) ?_
        refine VO.nil ?_
        refine ⟨_, [(0, .raw w_l), (1, I a), (2, I b), (6, I ((i : Nat) : Int)), (7, I (((j - 1) : Nat) : Int))], ?_, ⟨rfl, rfl, rfl, rfl, slI rfl (by exact (by omega)), trivial⟩, (j - 1), (swapE ws j), rfl, rfl, (by rw [← swap_mem (z := (j : Int) - 1) rfl (by omega) (by omega)] <;> rfl), (by omega), (by exact (swap_perm (by omega) (by omega)).trans hp2), (by exact ins_step hz2 (by omega) hj (by omega) ((ins_lt rfl (by omega) (by omega)).1 (c4)))⟩
        omega
      · try simp only [Bool.and_eq_true, Bool.or_eq_true, Bool.and_eq_false_iff, Bool.or_eq_false_iff, Bool.not_eq_true', Bool.not_eq_false', decide_eq_true_eq, decide_eq_false_iff_not] at c4
        refine VC.exit ?_
        show VC _ _ _ _ _ _ _ _
        refine VC.text ?_
        refine VO.c (.move rfl) ?_
        refine VO.c (.add rfl rfl (by omega)) ?_
        refine VO.c (.assign rfl) ?_
        refine VO.nil ?_
        refine ⟨_, [(0, .raw w_l), (1, I a), (2, I b), (6, I (((i + 1) : Nat) : Int))], ?_, ⟨rfl, rfl, rfl, rfl, trivial⟩, (i + 1), ws, rfl, rfl, (by simp), (by omega), (by exact hp2), (by exact ins_end hz2 hj (by first | (left; omega) | (right; have h9 := c4; rw [ins_lt rfl (by omega) (by omega)] at h9; omega)))⟩
        omega
    · refine VD.skip ?_
      refine VD.nw [] ?_
      refine VD.skip ?_
      refine VD.skip ?_
      refine VD.skip ?_
      refine VD.skip ?_
      refine VD.skip ?_
      refine VD.skip ?_
      refine VD.skip ?_
      refine VD.nw [] ?_
      refine VD.skip ?_
      refine VD.skip ?_
      refine VD.c (.pickF rfl rfl) ?_
      refine VD.go ?_
      refine VC.condF rfl ?_
      refine VC.exit ?_
      show VC _ _ _ _ _ _ _ _
      refine VC.text ?_
      refine VO.c (.move rfl) ?_
      refine VO.c (.add rfl rfl (by omega)) ?_
      refine VO.c (.assign rfl) ?_
      refine VO.nil ?_
      refine ⟨_, [(0, .raw w_l), (1, I a), (2, I b), (6, I (((i + 1) : Nat) : Int))], ?_, ⟨rfl, rfl, rfl, rfl, trivial⟩, (i + 1), ws, rfl, rfl, (by simp), (by omega), (by exact hp2), (by exact ins_end hz2 hj (by first | (left; omega) | (right; have h9 := c4; rw [ins_lt rfl (by omega) (by omega)] at h9; omega)))⟩
      omega
  · refine VC.exit ?_
    conv => whnf
    exact ⟨rfl, [], .nil, ⟨rfl, (by rw [show zs = sortE l from sortE_eq hp (sorted_end fun p q h1 h2 => hz p q h1 (by have := hp.length_eq; omega))])⟩, .inr (.inl ⟨rfl, List.all_eq_true.1 rfl⟩)⟩
theorem zPdq_ok {w_l : Value} {l : List Int} {a : Int} {b : Int} {k : Int} (ha : a = 0) (hb : b = (l.length : Nat)) (hl : l.length ≤ 12) : VFG Tryz.prog OA 164 [.raw w_l, I a, I b, I k] [(w_l, .row 3 (.int .i64) l)] (fun r g => r = .tup [] ∧ g = [(w_l, .row 3 (.int .i64) (sortE l))]) := by
  refine VFG.enter Tryz.func164 rfl (fun _ _ => rfl) rfl ?_
  show VC _ _ _ _ _ [(0, .raw w_l), (1, I a), (2, I b), (3, I k)] [(w_l, .row 3 (.int .i64) l)] _
  refine VC.seq ?_
  refine VC.text ?_
  refine VO.c (.assign rfl) ?_
  refine VO.go ?_
  refine VC.seq ?_
  refine VC.text ?_
  refine VO.c (.assign rfl) ?_
  refine VO.go ?_
  refine VC.block ?_
  refine VC.keep [(0, .raw w_l), (1, I a), (2, I b), (3, I k), (8, B true), (9, B true)] ⟨rfl, rfl, rfl, rfl, rfl, rfl, trivial⟩ ?_
  refine VC.loop (I := fun kk ff ss => kk = 0 ∧ ff = [(0, .raw w_l), (1, I a), (2, I b), (3, I k), (8, B true), (9, B true)] ∧ ss = [(w_l, .row 3 (.int .i64) l)]) ?_ _ _ _ ⟨rfl, rfl, rfl⟩
  rintro kk ff ss ⟨hk0, rfl, rfl⟩
  refine VC.block ?_
  refine VC.seq ?_
  refine VC.text ?_
  refine VO.c (.move rfl) ?_
  refine VO.c (.move rfl) ?_
  refine VO.c (.sub rfl rfl (by omega)) ?_
  refine VO.c (.assign rfl) ?_
  refine VO.go ?_
  refine VC.seq ?_
  refine VC.seq ?_
  refine VC.text ?_
  refine VO.c (.move rfl) ?_
  refine VO.c (.leq) ?_
  refine VO.go ?_
  refine VC.condD rfl (fun c3 => ?_) (fun c3 => ?_)
  · refine VC.seq ?_
    refine VC.text ?_
    refine VO.c (.move rfl) ?_
    refine VO.c (.move rfl) ?_
    refine VO.c (.move rfl) ?_
    refine VO.callG [(w_l, .row 3 (.int .i64) l)] rfl rfl rfl (VFG.call (zIns_ok ha hb (by omega))) ?_
    rintro _ _ ⟨rfl, rfl⟩
    show VO _ _ _ _ _ _ [(w_l, .row 3 (.int .i64) (sortE l))] _
    refine VO.go ?_
    refine VC.ret ?_
    conv => whnf
    exact ⟨rfl, [], .nil, ⟨rfl, (by rfl)⟩, .inr (.inl ⟨rfl, List.all_eq_true.1 rfl⟩)⟩
  · exact absurd (by omega) c3
def lenE (n : Int) : Int := ([0, 1, 2, 2, 3, 3, 3, 3, 4, 4, 4, 4, 4] : List Int).getD n.toNat 0
theorem bLenA_ok {x : Int} (hx : 0 ≤ x ∧ x ≤ 12) : VF Tryz.prog OA 200 [.v (.int .u64) x] (I (lenE x)) := by
  have : x = 0 ∨ x = 1 ∨ x = 2 ∨ x = 3 ∨ x = 4 ∨ x = 5 ∨ x = 6 ∨ x = 7 ∨ x = 8 ∨ x = 9 ∨ x = 10 ∨ x = 11 ∨ x = 12 := by omega
  rcases this with rfl | rfl | rfl | rfl | rfl | rfl | rfl | rfl | rfl | rfl | rfl | rfl | rfl
  · exact VF.run (v := .int .i64 0) 100 Tryz.func200 rfl (fun _ _ => rfl) rfl repl_int (fun nx objs => by kernel_rfl) rfl (fun _ _ => RepV.ofInt _ _)
  · exact VF.run (v := .int .i64 1) 100 Tryz.func200 rfl (fun _ _ => rfl) rfl repl_int (fun nx objs => by kernel_rfl) rfl (fun _ _ => RepV.ofInt _ _)
  · exact VF.run (v := .int .i64 2) 100 Tryz.func200 rfl (fun _ _ => rfl) rfl repl_int (fun nx objs => by kernel_rfl) rfl (fun _ _ => RepV.ofInt _ _)
  · exact VF.run (v := .int .i64 2) 100 Tryz.func200 rfl (fun _ _ => rfl) rfl repl_int (fun nx objs => by kernel_rfl) rfl (fun _ _ => RepV.ofInt _ _)
  · exact VF.run (v := .int .i64 3) 100 Tryz.func200 rfl (fun _ _ => rfl) rfl repl_int (fun nx objs => by kernel_rfl) rfl (fun _ _ => RepV.ofInt _ _)
  · exact VF.run (v := .int .i64 3) 100 Tryz.func200 rfl (fun _ _ => rfl) rfl repl_int (fun nx objs => by kernel_rfl) rfl (fun _ _ => RepV.ofInt _ _)
  · exact VF.run (v := .int .i64 3) 100 Tryz.func200 rfl (fun _ _ => rfl) rfl repl_int (fun nx objs => by kernel_rfl) rfl (fun _ _ => RepV.ofInt _ _)
  · exact VF.run (v := .int .i64 3) 100 Tryz.func200 rfl (fun _ _ => rfl) rfl repl_int (fun nx objs => by kernel_rfl) rfl (fun _ _ => RepV.ofInt _ _)
  · exact VF.run (v := .int .i64 4) 100 Tryz.func200 rfl (fun _ _ => rfl) rfl repl_int (fun nx objs => by kernel_rfl) rfl (fun _ _ => RepV.ofInt _ _)
  · exact VF.run (v := .int .i64 4) 100 Tryz.func200 rfl (fun _ _ => rfl) rfl repl_int (fun nx objs => by kernel_rfl) rfl (fun _ _ => RepV.ofInt _ _)
  · exact VF.run (v := .int .i64 4) 100 Tryz.func200 rfl (fun _ _ => rfl) rfl repl_int (fun nx objs => by kernel_rfl) rfl (fun _ _ => RepV.ofInt _ _)
  · exact VF.run (v := .int .i64 4) 100 Tryz.func200 rfl (fun _ _ => rfl) rfl repl_int (fun nx objs => by kernel_rfl) rfl (fun _ _ => RepV.ofInt _ _)
  · exact VF.run (v := .int .i64 4) 100 Tryz.func200 rfl (fun _ _ => rfl) rfl repl_int (fun nx objs => by kernel_rfl) rfl (fun _ _ => RepV.ofInt _ _)
theorem bLen_ok {x : Int} (hx : 0 ≤ x ∧ x ≤ 12) : VF Tryz.prog OA 165 [.v (.int .u64) x] (I (lenE x)) := by
  refine VF.enter Tryz.func165 rfl (fun _ _ => rfl) rfl ?_
  show VC _ _ _ _ _ [(0, .v (.int .u64) x)] [] _
  refine VC.seq ?_
  refine VC.text ?_
  refine VO.c (.assign rfl) ?_
  refine VO.go ?_
  refine VC.seq ?_
  refine VC.condF rfl ?_
  refine VC.skip ?_
  show VC _ _ _ _ _ _ _ _
  refine VC.seq ?_
  refine VC.text ?_
  refine VO.c (.move rfl) ?_
  refine VO.call rfl rfl (VF.call (bLenA_ok hx)) ?_
  refine VO.c (.assign rfl) ?_
  refine VO.go ?_
  refine VC.ret ?_
  exact VEnd.one rfl evT (pvI (by first | rfl | simp))
theorem zSort_ok {w_l : Value} {l : List Int} (hl : l.length ≤ 12) : VFG Tryz.prog OA 119 [.raw w_l] [(w_l, .row 3 (.int .i64) l)] (fun r g => r = .tup [] ∧ g = [(w_l, .row 3 (.int .i64) (sortE l))]) := by
  refine VFG.enter Tryz.func119 rfl (fun _ _ => rfl) rfl ?_
  show VC _ _ _ _ _ [(0, .raw w_l)] [(w_l, .row 3 (.int .i64) l)] _
  refine VC.seq ?_
  refine VC.text ?_
  refine VO.c (.move rfl) ?_
  refine VO.r (.lenO m0 el22) ?_
  refine VO.c (.assign rfl) ?_
  refine VO.go ?_
  refine VC.text ?_
  refine VO.c (.move rfl) ?_
  refine VO.c (.move rfl) ?_
  refine VO.c (.move rfl) ?_
  refine VO.c (.convI rfl .u64 (by exact wrapU64 (by omega))) ?_
  refine VO.call rfl rfl (VF.call (bLen_ok (by first | assumption | omega))) ?_
  refine VO.callG [(w_l, .row 3 (.int .i64) l)] rfl rfl rfl (VFG.call (zPdq_ok rfl rfl hl)) ?_
  rintro _ _ ⟨rfl, rfl⟩
  show VO _ _ _ _ _ _ [(w_l, .row 3 (.int .i64) (sortE l))] _
  refine VO.nil ?_
  conv => whnf
  exact ⟨rfl, [], .nil, ⟨rfl, (by rfl)⟩, .inr (.inl ⟨rfl, List.all_eq_true.1 rfl⟩)⟩
end Go.Proofs
