/- Parts of the proof: an evaluator of the model, what it is sound for, and contracts of functions. No condition. -/
import Derived.Test.YtgkcodkgcnbdeabGreatDoorP2
import Derived.Scope
import Derived.Lib.ItoaNum
import Derived.Lib.Join
import Derived.Sort.OwnSorted
import Derived.KernelRfl
set_option linter.all false
namespace Go
variable {P : Program}
theorem stepR_scopeFs {b : Frame} {a : Act} {k : List Item} {cs : List Frame} {w : World} {c : Code} : step P (lone (b.atR a (.code (.scope c) :: k)) cs w) = .next (lone (b.atR a (.code c :: .inScope c :: k)) cs w) :=
  step_lone_go (by simp [stepG, stepG.exec, Frame.atR])
theorem stepR_inScopeFs {b : Frame} {a : Act} {k : List Item} {cs : List Frame} {w : World} {c : Code} : step P (lone (b.atR a (.inScope c :: k)) cs w) = .next (lone (b.atR a k) cs w) :=
  step_lone_go (by simp [stepG, stepG.exec, Frame.atR])
theorem wpIn_scopeFs {F : Fence} {n : Nat} {Q : Exit → Act → World → Prop} {a : Act} {w : World} {c : Code} (h : c.wpIn F n P (Exit.noGoto Q) a w) : (Code.scope c).wpIn F n P Q a w := by
  intro b k cs hro hb hr; have h0 : (lone (b.atR a (.code (.scope c) :: k)) cs w).fenced P F := fenced_calm hb hr rfl; obtain ⟨e, a₁, w₁, hq, harr⟩ := h b (.inScope c :: k) cs hro hb hr
  cases e with
  | normal => exact ⟨.normal, a₁, w₁, hq, .head h0 stepR_scopeFs (StepsIn.trans harr (.one (fenced_calm hb hr rfl) stepR_inScopeFs))⟩
  | exit id =>
    have hx : exitTo id (.inScope c :: k) = exitTo id k := by simp [exitTo]
    exact ⟨.exit id, a₁, w₁, hq, fun k' hk => .head h0 stepR_scopeFs (harr.1 k' (by rw [hx]; exact hk)),
      fun hr' hk => let ⟨k₁, h1, h2⟩ := harr.2 hr' (by rw [hx]; exact hk); ⟨k₁, h1, .head h0 stepR_scopeFs h2⟩⟩
  | goto l => exact hq.elim
  | ret => exact ⟨_, a₁, w₁, hq, .of_steps (.one h0 stepR_scopeFs) harr⟩
  | panic ch => exact ⟨_, a₁, w₁, hq, .of_steps (.one h0 stepR_scopeFs) harr⟩
  | outgrown => exact ⟨_, a₁, w₁, hq, .of_steps (.one h0 stepR_scopeFs) harr⟩
end Go
namespace Go.Fs
open Go.RowKit (Below)
variable {P : Program} {ρ ρ' : Ren} {S S' : Nat → Prop} {B : Nat} {w0 w w' w1 w2 : World} {h h' h1 h2 : Heap}
theorem call_sound (hP : ProgOk P) {orc : FuncId → List Value → Heap → Option (Value × Heap)} (horc : CallSound P B w0 orc) {m : Nat} {rec : Rec} (hrec : SoundR P B w0 m rec) : CallSnd P B w0 (callOf P orc rec) := by
  intro f args h v h' hf; unfold callOf at hf; split at hf
  · rename_i r hr; simp only [Option.some.injEq] at hf; subst hf; exact .inl (horc _ _ _ _ _ hr)
  split at hf
  · rename_i r hr; simp only [Option.some.injEq] at hf; subst hf; refine .inr fun ρ S w args' hr2 ha => ?_; unfold fsExt at hr; split at hr
    · rename_i fn hfn; obtain ⟨hb, hr3⟩ := bif_some hr; obtain ⟨hb1, hb2⟩ := band hb; split at hr3
      · rename_i e h1 h2; obtain ⟨haf, hr4⟩ := bif_some hr3; obtain ⟨hp, rfl⟩ := map_pair hr4; obtain ⟨h3, h4⟩ := purely_ok hp w; have he : args' = args := ha.eq_of_af haf; subst he; refine ⟨w, v, ?_, ρ, Moved.same hr2, .of_af h4⟩; unfold callFunc
        have hb2' : (fn.name == "runtime.NumGoroutine") = false := by simpa using hb2
        simp only [Sem.run_bind, run_program, Result.andThen_ok, hfn, hb1, hb2', Bool.false_eq_true, if_false, if_true, h1, h2]; have hm : (mark (Mark.extern f)).run P w = .ok () w := rfl; rw [hm]; simp only [Result.andThen_ok, h3, Sem.run_pure]
      cases hr3
    cases hr
  exact .inl (enter_sound hP hrec _ _ _ _ _ hf)
theorem Post.same {fr : Fr} {a : Act} (hr : HR P ρ S B w0 h w) (ht : TrR ρ S fr.t fr.n a.tmps) (hm : MarksR ρ S fr.marks a.defers) : Post P B w0 ρ ρ S h w fr h w a :=
  ⟨Moved.same hr, ht.mono fun _ hb => ⟨.inl hb, rfl⟩, hm.mono fun _ hb => ⟨.inl hb, rfl⟩⟩
theorem step_sound (hP : ProgOk P) {orc : FuncId → List Value → Heap → Option (Value × Heap)} (horc : CallSound P B w0 orc) {m : Nat} {rec : Rec} (hrec : SoundR P B w0 m rec) : SoundR P B w0 (m + 1) (fsStep P orc rec) := by
  intro rnd c fr h e fr' h' hok hf ρ S w a nn Q hr ht hm hs k; have hcs : CallSnd P B w0 (callOf P orc rec) := call_sound hP horc hrec; have hys : YieldSound P B w0 (fsYield rec) := yield_sound hrec
  cases c with
  | skip =>
    simp only [fsStep, Option.some.injEq, Prod.mk.injEq] at hf; obtain ⟨rfl, rfl, rfl⟩ := hf
    exact wpIn_skip (k _ _ _ (Post.same hr ht hm))
  | label l =>
    simp only [fsStep, Option.some.injEq, Prod.mk.injEq] at hf; obtain ⟨rfl, rfl, rfl⟩ := hf
    exact wpIn_label (k _ _ _ (Post.same hr ht hm))
  | exit id =>
    simp only [fsStep, Option.some.injEq, Prod.mk.injEq] at hf; obtain ⟨rfl, rfl, rfl⟩ := hf
    exact wpIn_exit (k _ _ _ (Post.same hr ht hm))
  | ret =>
    simp only [fsStep, Option.some.injEq, Prod.mk.injEq] at hf; obtain ⟨rfl, rfl, rfl⟩ := hf
    exact wpIn_ret (k _ _ _ (Post.same hr ht hm))
  | goto l => simp only [fsStep] at hf; cases hf
  | refuse l => simp only [fsStep] at hf; cases hf
  | scope b =>
    simp only [fsStep] at hf; refine wpIn_scopeFs ?_; refine (hrec rnd b fr h e fr' h' hok hf ρ S w a nn _ hr ht hm hs fun ρ1 w1 a1 p1 => ?_).wpIn; have hq := k _ _ _ p1
    cases e with
    | normal => exact hq
    | exit id => exact hq
    | ret => exact hq
  | seq x y =>
    simp only [fsStep] at hf; obtain ⟨ok1, ok2⟩ := band (show (codeOk x && codeOk y) = true from hok); refine wpIn_seq ?_; split at hf
    · rename_i fr1 h1 hrun; refine (hrec rnd x fr h _ fr1 h1 ok1 hrun ρ S w a nn _ hr ht hm hs fun ρ1 w1 a1 p1 => ?_).wpIn; show y.wpIn (rndF ρ rnd) nn P Q a1 w1; rw [← rndF_eq hs p1.moved.agree]; exact (hrec rnd y fr1 h1 e fr' h' ok2 hf ρ1 _ w1 a1 nn Q p1.moved.hr p1.tmps p1.marks (fun l hl => .inl (hs l hl)) fun ρ2 w2 a2 p2 => k _ _ _ (Post.trans (fr1 := fr1) (a1 := a1) p1.moved p2)).wpIn
    rename_i hne; refine (hrec rnd x fr h e fr' h' ok1 hf ρ S w a nn _ hr ht hm hs fun ρ1 w1 a1 p1 => ?_).wpIn; have hq := k _ _ _ p1
    cases e with
    | normal => exact (hne _ _ hf).elim
    | exit id => exact hq
    | ret => exact hq
  | cond x y z =>
    simp only [fsStep] at hf; obtain ⟨ok1, ok2⟩ := band (show (codeOk y && codeOk z) = true from hok); have hev := ht.eval a.defers x; split at hf
    · rename_i hx; rw [hx] at hev; exact wpIn_cond_true hev.bool_inv (hrec rnd y fr h e fr' h' ok1 hf ρ S w a nn Q hr ht hm hs k).wpIn
    · rename_i hx; rw [hx] at hev; exact wpIn_cond_false hev.bool_inv (hrec rnd z fr h e fr' h' ok2 hf ρ S w a nn Q hr ht hm hs k).wpIn
    cases hf
  | block id b =>
    simp only [fsStep] at hf; refine wpIn_block ?_; split at hf
    · rename_i id' fr1 h1 hrun; refine (hrec rnd b fr h _ fr1 h1 hok hrun ρ S w a nn _ hr ht hm hs fun ρ1 w1 a1 p1 => ?_).wpIn
      cases hb : Nat.beq id' id with
      | true =>
        rw [hb] at hf; simp only [cond_true, Option.some.injEq, Prod.mk.injEq] at hf; obtain ⟨rfl, rfl, rfl⟩ := hf; have := k _ _ _ p1; simp only [exOf, Exit.inBlock, nbeq hb, if_true]
        exact this
      | false =>
        rw [hb] at hf; simp only [cond_false, Option.some.injEq, Prod.mk.injEq] at hf; obtain ⟨rfl, rfl, rfl⟩ := hf; have := k _ _ _ p1; simp only [exOf, Exit.inBlock, if_neg (ne_of_no hb)]; exact this
    rename_i hne; refine (hrec rnd b fr h e fr' h' hok hf ρ S w a nn _ hr ht hm hs fun ρ1 w1 a1 p1 => ?_).wpIn; have hq := k _ _ _ p1
    cases e with
    | normal => exact hq
    | exit id' => exact (hne _ _ _ hf).elim
    | ret => exact hq
  | loop b =>
    simp only [fsStep] at hf; show Code.roundsIn (rndF ρ rnd) nn P b Q (m + 1) a w; rw [roundsIn_succ]; split at hf
    · rename_i fr1 h1 hrun; refine (hrec rnd b fr h _ fr1 h1 hok hrun ρ S w a nn _ hr ht hm hs fun ρ1 w1 a1 p1 => ?_).wpIn; show Code.roundsIn (rndF ρ rnd) nn P b Q m a1 w1; rw [← rndF_eq hs p1.moved.agree]; exact hrec rnd (.loop b) fr1 h1 e fr' h' hok hf ρ1 _ w1 a1 nn Q p1.moved.hr p1.tmps p1.marks (fun l hl => .inl (hs l hl)) fun ρ2 w2 a2 p2 => k _ _ _ (Post.trans (fr1 := fr1) (a1 := a1) p1.moved p2)
    rename_i hne; refine (hrec rnd b fr h e fr' h' hok hf ρ S w a nn _ hr ht hm hs fun ρ1 w1 a1 p1 => ?_).wpIn; have hq := k _ _ _ p1
    cases e with
    | normal => exact (hne _ _ hf).elim
    | exit id => exact hq
    | ret => exact hq
  | region id ops draw =>
    cases draw with
    | false =>
      simp only [fsStep] at hf; split at hf
      · rename_i t h1 hrun; simp only [Option.some.injEq, Prod.mk.injEq] at hf; obtain ⟨rfl, rfl, rfl⟩ := hf; refine wpIn_region ?_; exact ops_wp (step := fsOpM P (callOf P orc rec) (fsYield rec)) rfl hcs hys _ _ ρ S w a fr.t h range_map hr ht hrun fun ρ1 w1 a1 m1 ht1 hd1 => k _ _ _ ⟨m1, ht1, by rw [hd1]; exact hm.mono fun b hb => ⟨.inl hb, m1.agree b hb⟩⟩
      cases hf
    | true =>
      simp only [fsStep] at hf
      cases hl : lateB ops with
      | false =>
        rw [hl] at hf; simp only [cond_false] at hf; split at hf
        · rename_i s hrun; simp only [Option.some.injEq, Prod.mk.injEq] at hf; obtain ⟨rfl, rfl, rfl⟩ := hf; refine wpIn_region_draw fun t => ?_; rw [hP.mixed]; exact drawn_wp (call := callOf P orc rec) (yield := fsYield rec) hcs hys hok hrun (hr.drew _) ht (fun ρ1 w1 a1 m1 ht1 hd1 => k _ _ _ ⟨Moved.ofDrew m1, ht1, by rw [hd1]; exact hm.mono fun b hb => ⟨.inl hb, m1.agree b hb⟩⟩) t
        cases hf
      | true =>
        rw [hl] at hf; simp only [cond_true] at hf; split at hf
        · rename_i s hrun; simp only [Option.some.injEq, Prod.mk.injEq] at hf; obtain ⟨rfl, rfl, rfl⟩ := hf; refine wpIn_region_draw fun t => ?_; rw [hP.mixed]; exact drawn_wpL (call := callOf P orc rec) (yield := fsYield rec) hcs hys hok hrun (hr.drew _) ht (fun ρ1 w1 a1 m1 ht1 hd1 => k _ _ _ ⟨Moved.ofDrew m1, ht1, by rw [hd1]; exact hm.mono fun b hb => ⟨.inl hb, m1.agree b hb⟩⟩) t
        cases hf
  | rangeFunc g ps assign body =>
    simp only [fsStep] at hf; obtain ⟨ok1, ok2⟩ := band (show (codeOk assign && codeOk body) = true from hok); exact rangeFunc_sound hP hrec ok1 ok2 hf hr ht hm hs k
theorem code_sound (hP : ProgOk P) {orc : FuncId → List Value → Heap → Option (Value × Heap)} (horc : CallSound P B w0 orc) : ∀ m, SoundR P B w0 m (fsCode P orc m)
  | 0 => fun rnd c fr h e fr' h' _ hf => by cases hf
  | m + 1 => step_sound hP horc (code_sound hP horc m)
end Go.Fs
namespace Go.Fs
open Go.RowKit (Below)
variable {P : Program}
theorem fs_open (hP : ProgOk P) {B : Nat} {w0 w : World} {orc : FuncId → List Value → Heap → Option (Value × Heap)} (horc : CallSound P B w0 orc) {ρ : Ren} {S : Nat → Prop} {h : Heap} {f : FuncId} {args args' : List Value} {v : Value}
    (hE : Enters P f) (hr : HR P ρ S B w0 h w) (ha : LR ρ S args args') (he : EvF P orc f args h fun u _ => u = v) (hv : af v = true) : Calls P f args'.toArray w fun | .returned v', w' => v' = v ∧ Below B w0 w' | _, _ => False := by
  obtain ⟨m, u, h', h1, rfl⟩ := he
  have hc : CallsIn Fence.wide 0 P f args'.toArray w (RetR P B w0 ρ S h w u h') := by
    rcases call_sound hP horc (code_sound hP horc m) f args h u h' h1 with h2 | h2
    · exact h2.2 ρ S w args' hr ha 0
    obtain ⟨w', v', h3, _⟩ := h2 ρ S w args' hr ha; rw [callFunc_run hE] at h3; simp at h3
  refine Calls.mono (callsIn_wide.1 hc) fun e w' he => ?_
  cases e with
  | returned v' =>
    obtain ⟨ρ', m1, hv1⟩ := he
    exact ⟨hv1.eq_of_af hv, m1.hr.below⟩
  | panicked c => exact he.elim
  | outgrown => exact he.elim
end Go.Fs
namespace Go.Fs
open Go.RowKit (Below)
variable {P : Program}
def strs : List Value → Option (List ByteArray)
  | [] => some []
  | .string s :: r => (strs r).map (s :: ·)
  | _ => none
variable {B : Nat} {w0 w w' : World} {ρ : Ren} {S : Nat → Prop} {h : Heap}
theorem strs_ok : ∀ (cs cs' : List Value) (ss : List ByteArray), LR ρ S cs cs' → strs cs = some ss → cs' = ss.map .string
  | [], cs', ss, hl, hs => by
    simp only [strs, Option.some.injEq] at hs; subst hs
    exact List.eq_nil_of_length_eq_zero hl.1.symm
  | v :: r, [], ss, hl, _ => by have := hl.1; simp at this
  | v :: r, v' :: r', ss, hl, hs => by
    unfold strs at hs; split at hs
    · rename_i he; cases he
    · rename_i s r0 he; simp only [List.cons.injEq] at he; obtain ⟨rfl, rfl⟩ := he; obtain ⟨ss0, h1, rfl⟩ := Option.map_eq_some_iff.1 hs; have hv : VR ρ S (.string s) v' := hl.2 0 (by simp); have hr : LR ρ S r r' := ⟨by have := hl.1; simpa using this, fun i hi => by have := hl.2 (i + 1) (by simp; omega); simpa using this⟩; rw [hv.string_inv, strs_ok r r' ss0 hr h1]; rfl
    cases hs
end Go.Fs
namespace Go.Fs
open Go.RowKit (Below)
variable {P : Program}
end Go.Fs
namespace Go.Fs
open Go.RowKit (Below)
open Go.Sort Go.Proofs
variable {P : Program}
def sortB (ss : List ByteArray) : List ByteArray := ((ss.map fun s => s.data.toList).mergeSort fun x y => decide (x ≤ y)).map fun d => ⟨d.toArray⟩
theorem sortB_length (ss : List ByteArray) : (sortB ss).length = ss.length := by simp [sortB]
def orcT (fs : FuncId) (O : FuncId → List Value → Heap → Option (Value × Heap)) : FuncId → List Value → Heap → Option (Value × Heap) := fun f xs h =>
  bif Nat.beq f fs then
    match xs with
    | [.slice (some ⟨b, 0, none⟩) n _] =>
      match h.get b with
      | some (.row e cs true more) =>
        bif Nat.ble n cs.length && Nat.ble n 1000000 then
          match strs (cs.take n) with
          | some ss => some (.tuple #[], h.set b (.row e (splice cs 0 ((sortB ss).map .string)) true more))
          | none => none
        else none
      | _ => none
    | [.slice none 0 0] => some (.tuple #[], h)
    | _ => none
  else O f xs h
variable {B : Nat} {w0 w w' : World} {ρ : Ren} {S : Nat → Prop} {h : Heap}
theorem orcT_sound {fs : FuncId} {O : FuncId → List Value → Heap → Option (Value × Heap)} (hz : w0.drawn = 0) (hO : CallSound P B w0 O) (hs : Enters P fs)
    (hN : ∀ w, Below B w0 w → Calls P fs #[.slice none 0 0] w fun | .returned v', w' => v' = .tuple #[] ∧ Below w.heap.size w w' | _, _ => False)
    (hT : ∀ (blk off cap : Nat) (ss : List (List UInt8)) (w : World), Holds encStr w blk off ss.toArray → blk < w.heap.size → ss.length < 4611686018427387904 → Calls P fs #[.slice (some ⟨blk, off, none⟩) ss.length cap] w fun e w' =>
      e = .returned (.tuple #[]) ∧ ∃ n os, w' = grow (putRow encStr (Sort.ahead w n) blk off (ss.mergeSort fun x y => decide (x ≤ y)).toArray) os) : CallSound P B w0 (orcT fs O) := by
  intro f xs h v h' hf; unfold orcT at hf
  cases hb : Nat.beq f fs with
  | false =>
    rw [hb] at hf
    exact hO f xs h v h' hf
  | true =>
    have := nbeq hb; subst this; rw [hb] at hf; simp only [cond_true] at hf; split at hf
    · rename_i b n mk; split at hf
      · rename_i e cs more hg; obtain ⟨hc, hf⟩ := bif_some hf; obtain ⟨hle, hn⟩ := band hc; have hle := nble hle; have hn := nble hn; split at hf
        · rename_i ss hss; simp only [Option.some.injEq, Prod.mk.injEq] at hf; obtain ⟨rfl, rfl⟩ := hf; refine ⟨hs, fun ρ S w args' hr ha nn => ?_⟩
          match args', ha with
          | [x'], ha =>
            have hx : VR ρ S (.slice (some ⟨b, 0, none⟩) n mk) x' := ha.2 0 (by simp); obtain ⟨A, c, rfl, hnc, _, _, hbb⟩ := hx.slice_inv; have hb0 : b ≠ 0 := (hr.ids b (hr.objs b _ hg).1).2; obtain ⟨_, rfl, _⟩ := hbb hb0; obtain ⟨_, cur, h1, h2, h3, h4, h5, h6, h7⟩ := hr.objs b _ hg; have hlt : (ρ b).block < w.heap.size := (Array.getElem?_eq_some_iff.1 h1).1
            have hlr : LR ρ S (cs.take n) (cur.take n) := by
              refine LR.of_get? (by simp; omega) fun i v v' hv hv' => ?_; rw [List.getElem?_take] at hv hv'; split at hv
              · rename_i hin; rw [if_pos hin] at hv'; have := h7 i (by omega); simpa [List.getD, hv, hv'] using this
              cases hv
            have heq := strs_ok _ _ ss hlr hss
            have hsl : ss.length = n := by
              have := congrArg List.length heq; simp at this; omega
            have hold : Holds encStr w (ρ b).block 0 (ss.map fun s => s.data.toList).toArray := by
              intro j hj
              have hj' : j < ss.length := by simpa using hj
              have h8 := congrArg (·[j]?) heq; simp [show j < n by omega, hj'] at h8; have h9 : cur[j]? = some (.string ss[j]) := h8
              have h10 : cur.toArray[0 + j]? = some (.string ss[j]) := by simpa using h9
              refine ⟨?_, ?_⟩
              · simp only [World.cell?, h1, Option.isSome_none, Bool.false_eq_true, if_false, h10]; simp [hj', encStr]
              rw [Nat.zero_add]; exact frozen_soft h1 (by omega)
            have hC : CallsIn Fence.wide nn P f #[.slice (some ⟨(ρ b).block, 0, none⟩) (ss.map fun s => s.data.toList).length c] w _ := callsIn_wide.2 (hT (ρ b).block 0 c _ w hold hlt (by simp; omega)); rw [List.length_map, hsl] at hC
            have hat : (ρ b).at 0 = ⟨(ρ b).block, 0, none⟩ := by simp [Loc.at, h2]
            rw [hat]; refine hC.mono fun e' w' hret => ?_; obtain ⟨rfl, k, os, rfl⟩ := hret
            have hput : (putCells encStr 0 ((ss.map fun s => s.data.toList).mergeSort fun x y => decide (x ≤ y)).toArray cur.toArray).toList = cur.take 0 ++ (sortB ss).map .string ++ cur.drop (0 + ((sortB ss).map Value.string).length) := by
              apply List.ext_getElem?; intro j; simp only [List.take_zero, List.nil_append, Nat.zero_add, List.length_map, sortB_length]; by_cases hj : j < ss.length
              · rw [List.getElem?_append_left (by simpa [sortB_length] using hj)]; simp [putCells, sortB, hj, show j < cur.length by omega, encStr]
              rw [List.getElem?_append_right (by simpa [sortB_length] using Nat.le_of_not_lt hj)]; simp [putCells, sortB_length, hj]; congr 1; omega
            have m1 : Moved P B w0 ρ ρ S h (h.set b (.row e (splice cs 0 ((sortB ss).map .string)) true more)) w (putRow encStr w (ρ b).block 0 ((ss.map fun s => s.data.toList).mergeSort fun x y => decide (x ≤ y)).toArray) := by
              refine Moved.set hr hg rfl rfl rfl rfl rfl (by simp [putRow, mapBlock]) (fun k hk => by simp [putRow, mapBlock, Array.getElem?_modify, Ne.symm hk]) ?_; refine ⟨_, ?_, h2, ?_, h4, ?_, ?_, LR.spliceCur h7 h5 (LR.map _ _ _ fun x _ => .lit rfl) (by simp [sortB_length]; omega)⟩
              · rw [← hput]; simp [putRow, mapBlock, Array.getElem?_modify, h1, onCells]
              · simp [sortB_length, h3]; omega
              · simp [splice, sortB_length]; omega
              intro hm; have := h6 hm; simp [splice, sortB_length]; omega
            have m2 := Moved.grewWorld m1.hr (w' := grow (putRow encStr (Sort.ahead w k) (ρ b).block 0 ((ss.map fun s => s.data.toList).mergeSort fun x y => decide (x ≤ y)).toArray) os)
              ⟨rfl, rfl, rfl, by simp [grow, putRow, mapBlock, Sort.ahead], fun j hj => by
                rw [heap_grow_old _ _ (by simpa [putRow, mapBlock, Sort.ahead] using hj)]; rfl⟩ (by rw [hz]; exact Nat.zero_le _)
            exact ⟨ρ, m1.trans m2, VR.undef⟩
        cases hf
      cases hf
    · simp only [Option.some.injEq, Prod.mk.injEq] at hf; obtain ⟨rfl, rfl⟩ := hf; refine ⟨hs, fun ρ S w args' hr har nn => ?_⟩; have he : args' = [.slice none 0 0] := har.eq_of_af (by rfl); subst he; have hC : CallsIn Fence.wide nn P f #[.slice none 0 0] w _ := callsIn_wide.2 (hN w hr.below); refine hC.mono fun e w' hret => ?_
      cases e with
      | returned v' =>
        obtain ⟨rfl, hb⟩ := hret
        exact ⟨ρ, Moved.grewWorld hr hb (by rw [hz]; exact Nat.zero_le _), VR.undef⟩
      | panicked c => exact hret.elim
      | outgrown => exact hret.elim
    cases hf
end Go.Fs
namespace Go.Fs
open Go.RowKit (Below)
open Go.Sort Go.Proofs
variable {P : Program}
structure SortV (srt : List Value → Option (List Value)) : Prop where
  len : ∀ vs vs', srt vs = some vs' → vs'.length = vs.length
  ino : ∀ vs vs', srt vs = some vs' → vs.all af0 = true
  out : ∀ vs vs', srt vs = some vs' → vs'.all af0 = true
def orcF (fs g : FuncId) (k : Nat) (srt : List Value → Option (List Value)) (O : FuncId → List Value → Heap → Option (Value × Heap)) : FuncId → List Value → Heap → Option (Value × Heap) := fun f xs h =>
  bif Nat.beq f fs then
    match xs with
    | [.slice (some ⟨b, 0, none⟩) n _, .func (.func g') fst cap] =>
      bif Nat.beq g' g && (Nat.beq fst.size 0 && Nat.beq cap.size 0) then
        match h.get b with
        | some (.row e cs true more) =>
          bif Nat.ble (n * k) cs.length && Nat.ble n 1000000 then
            match srt (cs.take (n * k)) with
            | some vs => some (.tuple #[], h.set b (.row e (splice cs 0 vs) true more))
            | none => none
          else none
        | _ => none
      else none
    | [.slice none 0 0, .func (.func g') fst cap] => bif Nat.beq g' g && (Nat.beq fst.size 0 && Nat.beq cap.size 0) then some (.tuple #[], h) else none
    | _ => none
  else O f xs h
variable {B : Nat} {w0 w w' : World} {ρ : Ren} {S : Nat → Prop} {h : Heap}
theorem LR.eq_af0 {l l' : List Value} (h : LR ρ S l l') (ha : l.all af0 = true) : l' = l := by
  refine (List.ext_getElem h.1 fun i h1 h2 => ?_).symm; have h3 := h.2 i h1; rw [List.getD_eq_getElem?_getD, List.getD_eq_getElem?_getD, List.getElem?_eq_getElem h1, List.getElem?_eq_getElem h2] at h3; exact (h3.eq_of_af0 (List.all_eq_true.1 ha _ (List.getElem_mem h1))).symm
theorem arr0 {a : Array Value} (h : Nat.beq a.size 0 = true) : a = #[] := Array.size_eq_zero_iff.1 (nbeq h)
theorem orcF_sound {fs g : FuncId} {k : Nat} {srt : List Value → Option (List Value)} {O : FuncId → List Value → Heap → Option (Value × Heap)} (hz : w0.drawn = 0) (hv : SortV srt) (hO : CallSound P B w0 O) (hs : Enters P fs)
    (hN : ∀ w, Below B w0 w → Calls P fs #[.slice none 0 0, .func (.func g) #[] #[]] w fun | .returned v', w' => v' = .tuple #[] ∧ Below w.heap.size w w' | _, _ => False)
    (hT : ∀ (blk cap n : Nat) (vs vs' : List Value) (w : World), vs.length = n * k → srt vs = some vs' → Below B w0 w → B ≤ blk → Holds id w blk 0 vs.toArray → blk < w.heap.size → n ≤ 1000000 → Calls P fs #[.slice (some ⟨blk, 0, none⟩) n cap, .func (.func g) #[] #[]] w fun e w' =>
      e = .returned (.tuple #[]) ∧ ∃ q os, w' = grow (putRow id (Sort.ahead w q) blk 0 vs'.toArray) os) : CallSound P B w0 (orcF fs g k srt O) := by
  intro f xs h v h' hf; unfold orcF at hf
  cases hb : Nat.beq f fs with
  | false =>
    rw [hb] at hf
    exact hO f xs h v h' hf
  | true =>
    have := nbeq hb; subst this; rw [hb] at hf; simp only [cond_true] at hf; split at hf
    · rename_i b n mk g' fst cap; obtain ⟨hgg, hq⟩ := bif_some hf; clear hf; have hf := hq; clear hq; obtain ⟨hg1, hg2⟩ := band hgg; obtain ⟨hg2, hg3⟩ := band hg2; obtain rfl := nbeq hg1; obtain rfl := arr0 hg2; obtain rfl := arr0 hg3; split at hf
      · rename_i e cs more hg; obtain ⟨hc, hf⟩ := bif_some hf; obtain ⟨hle, hn⟩ := band hc; have hle := nble hle; have hn := nble hn; split at hf
        · rename_i vs hss; simp only [Option.some.injEq, Prod.mk.injEq] at hf; obtain ⟨rfl, rfl⟩ := hf; refine ⟨hs, fun ρ S w args' hr ha nn => ?_⟩
          match args', ha with
          | [x', y'], ha =>
            have hx : VR ρ S (.slice (some ⟨b, 0, none⟩) n mk) x' := ha.2 0 (by simp); have hy : VR ρ S (.func (.func g') #[] #[]) y' := ha.2 1 (by simp); obtain ⟨a', c', rfl, hl1, hl2⟩ := hy.func_inv; obtain rfl : a' = #[] := Array.size_eq_zero_iff.1 (by have := hl1.1; simpa using this.symm); obtain rfl : c' = #[] := Array.size_eq_zero_iff.1 (by have := hl2.1; simpa using this.symm); obtain ⟨A, c, rfl, hnc, _, _, hbb⟩ := hx.slice_inv; have hb0 : b ≠ 0 := (hr.ids b (hr.objs b _ hg).1).2; obtain ⟨_, rfl, _⟩ := hbb hb0; obtain ⟨_, cur, h1, h2, h3, h4, h5, h6, h7⟩ := hr.objs b _ hg; have hlt : (ρ b).block < w.heap.size := (Array.getElem?_eq_some_iff.1 h1).1
            have hlr : LR ρ S (cs.take (n * k)) (cur.take (n * k)) := by
              refine LR.of_get? (by simp; omega) fun i v v' hv hv' => ?_; rw [List.getElem?_take] at hv hv'; split at hv
              · rename_i hin; rw [if_pos hin] at hv'; have := h7 i (by omega); simpa [List.getD, hv, hv'] using this
              cases hv
            have heq := hlr.eq_af0 (hv.ino _ _ hss); have hlen := hv.len _ _ hss
            have hl0 : (cs.take (n * k)).length = n * k := by rw [List.length_take]; omega
            have hold : Holds id w (ρ b).block 0 (cs.take (n * k)).toArray := by
              intro j hj
              have hj' : j < n * k := by simpa [hl0] using hj
              have h8 := congrArg (·[j]?) heq; simp only [List.getElem?_take, if_pos hj'] at h8
              have hcj : j < cs.length := by omega
              rw [List.getElem?_eq_getElem hcj] at h8
              have h10 : cur.toArray[0 + j]? = some cs[j] := by simpa using h8
              refine ⟨?_, ?_⟩
              · simp only [World.cell?, h1, Option.isSome_none, Bool.false_eq_true, if_false, h10]; simp [hj', hcj]
              rw [Nat.zero_add]; exact frozen_soft h1 (by omega)
            have hC : CallsIn Fence.wide nn P f #[.slice (some ⟨(ρ b).block, 0, none⟩) n c, .func (.func g') #[] #[]] w _ := callsIn_wide.2 (hT (ρ b).block c n (cs.take (n * k)) vs w hl0 hss hr.below (hr.base b _ hg rfl) hold hlt hn)
            have hat : (ρ b).at 0 = ⟨(ρ b).block, 0, none⟩ := by simp [Loc.at, h2]
            rw [hat]; refine hC.mono fun e' w' hret => ?_; obtain ⟨rfl, q, os, rfl⟩ := hret
            have hput : (putCells id 0 vs.toArray cur.toArray).toList = cur.take 0 ++ vs ++ cur.drop (0 + vs.length) := by
              apply List.ext_getElem?; intro j; simp only [List.take_zero, List.nil_append, Nat.zero_add]; by_cases hj : j < vs.length
              · rw [List.getElem?_append_left hj]; simp [putCells, hj, show j < cur.length by omega]
              rw [List.getElem?_append_right (by omega)]; simp [putCells, hj]; congr 1; omega
            have m1 : Moved P B w0 ρ ρ S h (h.set b (.row e (splice cs 0 vs) true more)) w (putRow id w (ρ b).block 0 vs.toArray) := by
              refine Moved.set hr hg rfl rfl rfl rfl rfl (by simp [putRow, mapBlock]) (fun k hk => by simp [putRow, mapBlock, Array.getElem?_modify, Ne.symm hk]) ?_; refine ⟨_, ?_, h2, ?_, h4, ?_, ?_, LR.spliceCur h7 h5 (LR.self_af0 (hv.out _ _ hss)) (by omega)⟩
              · rw [← hput]; simp [putRow, mapBlock, Array.getElem?_modify, h1, onCells]
              · simp [h3]; omega
              · simp [splice]; omega
              intro hm; have := h6 hm; simp [splice]; omega
            have m2 := Moved.grewWorld m1.hr (w' := grow (putRow id (Sort.ahead w q) (ρ b).block 0 vs.toArray) os)
              ⟨rfl, rfl, rfl, by simp [grow, putRow, mapBlock, Sort.ahead], fun j hj => by
                rw [heap_grow_old _ _ (by simpa [putRow, mapBlock, Sort.ahead] using hj)]; rfl⟩ (by rw [hz]; exact Nat.zero_le _)
            exact ⟨ρ, m1.trans m2, VR.undef⟩
        cases hf
      cases hf
    · rename_i g' fst cap; obtain ⟨hgg, hq⟩ := bif_some hf; clear hf; have hf := hq; clear hq; obtain ⟨hg1, hg2⟩ := band hgg; obtain ⟨hg2, hg3⟩ := band hg2; obtain rfl := nbeq hg1; obtain rfl := arr0 hg2; obtain rfl := arr0 hg3; simp only [Option.some.injEq, Prod.mk.injEq] at hf; obtain ⟨rfl, rfl⟩ := hf; refine ⟨hs, fun ρ S w args' hr har nn => ?_⟩
      match args', har with
      | [x', y'], har =>
        have hx : VR ρ S (.slice none 0 0) x' := har.2 0 (by simp); have hy : VR ρ S (.func (.func g') #[] #[]) y' := har.2 1 (by simp); obtain ⟨a', c', rfl, hl1, hl2⟩ := hy.func_inv; obtain rfl : a' = #[] := Array.size_eq_zero_iff.1 (by have := hl1.1; simpa using this.symm); obtain rfl : c' = #[] := Array.size_eq_zero_iff.1 (by have := hl2.1; simpa using this.symm); obtain rfl := hx.nilSlice_inv; have hC : CallsIn Fence.wide nn P f #[.slice none 0 0, .func (.func g') #[] #[]] w _ := callsIn_wide.2 (hN w hr.below); refine hC.mono fun e w' hret => ?_
        cases e with
        | returned v' =>
          obtain ⟨rfl, hb⟩ := hret
          exact ⟨ρ, Moved.grewWorld hr hb (by rw [hz]; exact Nat.zero_le _), VR.undef⟩
        | panicked c => exact hret.elim
        | outgrown => exact hret.elim
    cases hf
end Go.Fs
namespace Go.Fs
variable {P : Program} {h h' h0 h1 h2 : Heap} {S S' : List Nat}
inductive Ty where
  | int (k : IntKind)
  | bool
  | str
  | flt (k : FloatKind)
  | sl (e : Ty)
  | pair (a b : Ty)
  | unit
  | mp (a b : Ty)
  | fn
  | hnd
@[reducible] def Ty.den : Ty → Type
  | .int _ => Int
  | .bool => Bool
  | .str => ByteArray
  | .flt _ => Nat
  | .sl e => List e.den
  | .pair a b => a.den × b.den
  | .unit => Unit
  | .mp a b => List (a.den × b.den)
  | .fn => Option Nat
  | .hnd => Option (Nat × Nat)
def Ty.size : Ty → Nat
  | .pair a b => a.size + b.size
  | .unit => 0
  | _ => 1
def Ty.agg : Ty → Bool
  | .pair _ _ | .unit => true
  | _ => false
def SlC (h : Heap) (S : List Nat) {α : Type} (s : Nat) (R : List Value → α → Prop) (v : Value) (xs : List α) : Prop :=
  (v = .slice none 0 0 ∧ xs = []) ∨ ∃ b o mk, v = .slice (some ⟨b, o, none⟩) xs.length mk ∧
    (xs = [] ∨ (b ∉ S ∧ ∃ e' rs own more, h.get b = some (.row e' rs own more) ∧ o + xs.length * s ≤ rs.length ∧ ∀ i (hi : i < xs.length), R ((rs.drop (o + i * s)).take s) xs[i]))
def MpC (h : Heap) (S : List Nat) {α β : Type} (K : Value → α → Prop) (R : Value → β → Prop) (v : Value) (kvs : List (α × β)) : Prop :=
  (v = .map none ∧ kvs = []) ∨ ∃ b es clock, v = .map (some b) ∧ b ∉ S ∧ h.get b = some (.mapo es clock) ∧ es.length = kvs.length ∧ ∀ i (hi : i < kvs.length) (hj : i < es.length), K es[i].key kvs[i].1 ∧ R es[i].val kvs[i].2
def isAggV : Value → Bool
  | .agg _ => true
  | _ => false
def fnV : Option Nat → Value
  | none => .nilFunc
  | some f => .func (.func f) #[] #[]
def hndV : Option (Nat × Nat) → Value
  | none => .slice none 0 0
  | some (b, n) => .slice (some ⟨b, 0, none⟩) n 0
def RepC (h : Heap) (S : List Nat) : (τ : Ty) → List Value → τ.den → Prop
  | .int k, cs, x => cs = [.int k x]
  | .bool, cs, x => cs = [.bool x]
  | .str, cs, x => cs = [.string x]
  | .flt k, cs, x => cs = [.float k x]
  | .sl e, cs, xs => ∃ v, cs = [v] ∧ SlC h S e.size (RepC h S e) v xs
  | .pair a b, cs, x => RepC h S a (cs.take a.size) x.1 ∧ RepC h S b (cs.drop a.size) x.2
  | .unit, cs, _ => cs = []
  | .mp a b, cs, x => ∃ v, cs = [v] ∧ MpC h S (fun k y => isAggV k = a.agg ∧ RepC h S a k.cells.toList y) (fun u y => isAggV u = b.agg ∧ RepC h S b u.cells.toList y) v x
  | .fn, cs, f => cs = [fnV f]
  | .hnd, cs, f => cs = [hndV f]
def RepV (h : Heap) (S : List Nat) (τ : Ty) (v : Value) (x : τ.den) : Prop := isAggV v = τ.agg ∧ RepC h S τ v.cells.toList x
theorem cells_one {v : Value} (hv : isAggV v = false) : v.cells = #[v] := by
  cases v with
  | agg cs => cases hv
  | _ => rfl
theorem RepV.int {k : IntKind} {v : Value} {x : Int} (hv : RepV h S (.int k) v x) : v = .int k x := by
  obtain ⟨h1, h2⟩ := hv; rw [cells_one h1] at h2; simpa [RepC] using h2
theorem RepV.bool {v : Value} {x : Bool} (hv : RepV h S .bool v x) : v = .bool x := by
  obtain ⟨h1, h2⟩ := hv; rw [cells_one h1] at h2; simpa [RepC] using h2
theorem RepV.str {v : Value} {x : ByteArray} (hv : RepV h S .str v x) : v = .string x := by
  obtain ⟨h1, h2⟩ := hv; rw [cells_one h1] at h2; simpa [RepC] using h2
theorem RepV.ofInt (k : IntKind) (x : Int) : RepV h S (.int k) (.int k x) x := ⟨rfl, rfl⟩
theorem RepV.ofBool (x : Bool) : RepV h S .bool (.bool x) x := ⟨rfl, rfl⟩
theorem RepV.ofStr (x : ByteArray) : RepV h S .str (.string x) x := ⟨rfl, rfl⟩
theorem RepV.ofFlt (k : FloatKind) (x : Nat) : RepV h S (.flt k) (.float k x) x := ⟨rfl, rfl⟩
def SlV (h : Heap) (S : List Nat) (τ : Ty) (v : Value) (xs : List τ.den) : Prop := SlC h S τ.size (RepC h S τ) v xs
theorem RepV.sl {τ : Ty} {v : Value} {xs : List τ.den} (hv : RepV h S (.sl τ) v xs) : SlV h S τ v xs := by
  obtain ⟨h1, h2⟩ := hv; rw [cells_one h1] at h2; obtain ⟨u, h3, h4⟩ := h2; simp only [List.cons.injEq, and_true] at h3; subst h3; exact h4
theorem SlV.agg {τ : Ty} {v : Value} {xs : List τ.den} (hv : SlV h S τ v xs) : isAggV v = false := by
  rcases hv with ⟨rfl, _⟩ | ⟨b, o, mk, rfl, _⟩ <;> rfl
theorem SlV.rep {τ : Ty} {v : Value} {xs : List τ.den} (hv : SlV h S τ v xs) : RepV h S (.sl τ) v xs :=
  ⟨hv.agg, by rw [cells_one hv.agg]; exact ⟨v, rfl, hv⟩⟩
theorem SlV.nil {τ : Ty} : SlV h S τ (.slice none 0 0) [] := .inl ⟨rfl, rfl⟩
def Goes (h : Heap) (S : List Nat) (h' : Heap) (S' : List Nat) : Prop := ∀ b o, h.get b = some o → b ∉ S → h'.get b = some o ∧ b ∉ S'
theorem Goes.trans {S'' : List Nat} (a : Goes h S h1 S') (b : Goes h1 S' h2 S'') : Goes h S h2 S'' := fun i o h1 h2 => let ⟨h3, h4⟩ := a i o h1 h2; b i o h3 h4
theorem Goes.less (hs : ∀ b, b ∈ S' → b ∈ S) : Goes h S h S' := fun _ _ h1 h2 => ⟨h1, fun h3 => h2 (hs _ h3)⟩
theorem Goes.objs (hg : ∀ b, h'.get b = h.get b) : Goes h S h' S := fun b _ h1 h2 => ⟨by rw [hg]; exact h1, h2⟩
theorem After.nx (a : After h h') (hok : HOk h) : Goes h S h' S := fun b o h1 h2 => ⟨by rw [a.get b (hok b o h1)]; exact h1, h2⟩
theorem SlC.nx {α : Type} {s : Nat} {R R' : List Value → α → Prop} (hN : Goes h S h' S') (hR : ∀ cs x, R cs x → R' cs x) {v : Value} {xs : List α} (hv : SlC h S s R v xs) : SlC h' S' s R' v xs := by
  rcases hv with hv | ⟨b, o, mk, h1, h2⟩
  · exact .inl hv
  refine .inr ⟨b, o, mk, h1, ?_⟩; rcases h2 with h2 | ⟨h2, e', rs, own, more, h3, h4, h5⟩
  · exact .inl h2
  obtain ⟨h6, h7⟩ := hN b _ h3 h2; exact .inr ⟨h7, e', rs, own, more, h6, h4, fun i hi => hR _ _ (h5 i hi)⟩
theorem MpC.nx {α β : Type} {K K' : Value → α → Prop} {R R' : Value → β → Prop} (hN : Goes h S h' S') (hK : ∀ u x, K u x → K' u x) (hR : ∀ u x, R u x → R' u x) {v : Value} {kvs : List (α × β)} (hv : MpC h S K R v kvs) : MpC h' S' K' R' v kvs := by
  rcases hv with hv | ⟨b, es, c, h1, h2, h3, h4, h5⟩
  · exact .inl hv
  obtain ⟨h6, h7⟩ := hN b _ h3 h2; exact .inr ⟨b, es, c, h1, h7, h6, h4, fun i hi hj => ⟨hK _ _ (h5 i hi hj).1, hR _ _ (h5 i hi hj).2⟩⟩
theorem RepC.nx (hN : Goes h S h' S') : ∀ {τ : Ty} {cs : List Value} {x : τ.den}, RepC h S τ cs x → RepC h' S' τ cs x := by
  intro τ
  induction τ with
  | int k => exact fun hx => hx
  | bool => exact fun hx => hx
  | str => exact fun hx => hx
  | flt k => exact fun hx => hx
  | unit => exact fun hx => hx
  | pair a b iha ihb => exact fun hx => ⟨iha hx.1, ihb hx.2⟩
  | sl e ih =>
    rintro cs x ⟨v, h1, h2⟩
    exact ⟨v, h1, h2.nx hN fun cs x hx => ih hx⟩
  | fn => exact fun hx => hx
  | hnd => exact fun hx => hx
  | mp a b iha ihb =>
    rintro cs x ⟨v, h1, h2⟩; exact ⟨v, h1, h2.nx hN (fun u x hx => ⟨hx.1, iha hx.2⟩) fun u x hx => ⟨hx.1, ihb hx.2⟩⟩
theorem RepV.nx {τ : Ty} {v : Value} {x : τ.den} (hv : RepV h S τ v x) (hN : Goes h S h' S') : RepV h' S' τ v x := ⟨hv.1, hv.2.nx hN⟩
theorem RepC.len : ∀ {τ : Ty} {cs : List Value} {x : τ.den}, RepC h S τ cs x → cs.length = τ.size := by
  intro τ
  induction τ with
  | int k => rintro cs x rfl; rfl
  | bool => rintro cs x rfl; rfl
  | str => rintro cs x rfl; rfl
  | flt k => rintro cs x rfl; rfl
  | unit => rintro cs x rfl; rfl
  | sl e ih => rintro cs x ⟨v, rfl, _⟩; rfl
  | fn => rintro cs x rfl; rfl
  | hnd => rintro cs x rfl; rfl
  | mp a b _ _ => rintro cs x ⟨v, rfl, _⟩; rfl
  | pair a b iha ihb =>
    rintro cs x ⟨h1, h2⟩; have e1 := iha h1; have e2 := ihb h2; rw [List.length_take] at e1; rw [List.length_drop] at e2; show cs.length = a.size + b.size; omega
def MpV (h : Heap) (S : List Nat) (a b : Ty) (v : Value) (kvs : List (a.den × b.den)) : Prop := MpC h S (RepV h S a) (RepV h S b) v kvs
theorem MpC.agg {α β : Type} {K : Value → α → Prop} {R : Value → β → Prop} {v : Value} {kvs : List (α × β)} (hv : MpC h S K R v kvs) : isAggV v = false := by
  rcases hv with ⟨rfl, _⟩ | ⟨b, es, c, rfl, _⟩ <;> rfl
theorem MpV.rep {a b : Ty} {v : Value} {kvs : List (a.den × b.den)} (hv : MpV h S a b v kvs) : RepV h S (.mp a b) v kvs :=
  ⟨hv.agg, by rw [cells_one hv.agg]; exact ⟨v, rfl, hv⟩⟩
theorem fnV_agg (f : Option Nat) : isAggV (fnV f) = false := by cases f <;> rfl
theorem RepV.fn {v : Value} {f : Option Nat} (hv : RepV h S .fn v f) : v = fnV f := by
  obtain ⟨h1, h2⟩ := hv; rw [cells_one h1] at h2; simpa [RepC] using h2
theorem hndV_agg (f : Option (Nat × Nat)) : isAggV (hndV f) = false := by cases f <;> rfl
theorem RepV.ofHnd (f : Option (Nat × Nat)) : RepV h S .hnd (hndV f) f := ⟨hndV_agg f, by rw [cells_one (hndV_agg f)]; rfl⟩
theorem RepV.ofFn (f : Option Nat) : RepV h S .fn (fnV f) f := ⟨fnV_agg f, by rw [cells_one (fnV_agg f)]; rfl⟩
theorem RepC.one {τ : Ty} {cs : List Value} {x : τ.den} (ht : τ.agg = false) (hx : RepC h S τ cs x) : ∃ v, cs = [v] ∧ RepV h S τ v x := by
  cases τ with
  | int k => exact ⟨_, hx, rfl, rfl⟩
  | bool => exact ⟨_, hx, rfl, rfl⟩
  | str => exact ⟨_, hx, rfl, rfl⟩
  | flt k => exact ⟨_, hx, rfl, rfl⟩
  | sl e =>
    obtain ⟨v, h1, h2⟩ := hx
    exact ⟨v, h1, SlV.rep h2⟩
  | mp a b =>
    obtain ⟨v, h1, h2⟩ := hx
    exact ⟨v, h1, MpV.rep h2⟩
  | fn => exact ⟨_, hx, RepV.ofFn _⟩
  | hnd => exact ⟨_, hx, RepV.ofHnd _⟩
  | pair a b => cases ht
  | unit => cases ht
theorem Ty.size_one {τ : Ty} (ht : τ.agg = false) : τ.size = 1 := by
  cases τ <;> first | rfl | cases ht
theorem RepV.last {a : Ty} {u : Value} {x : a.den} (ht : a.agg = false) (h1 : RepV h S a u x) : RepC h S a [u] x := by
  have hu := h1.2; rw [cells_one (h1.1.trans ht)] at hu; exact hu
structure ElT (P : Program) (T e : TypeId) (τ : Ty) : Prop where
  sl : SlT P T e τ.size
  agg : ∃ d, P.underlying e = some d ∧ isAggD d = τ.agg
def elB (P : Program) (T e : TypeId) (τ : Ty) : Bool := slB P T e τ.size && (match P.underlying e with | some d => isAggD d == τ.agg | none => false)
theorem elT_of {T e : TypeId} {τ : Ty} (hb : elB P T e τ = true) : ElT P T e τ := by
  unfold elB at hb; obtain ⟨h1, h2⟩ := band hb; refine ⟨slT_of h1, ?_⟩; split at h2
  · rename_i d hd; exact ⟨d, hd, by simpa using h2⟩
  cases h2
theorem SlV.len {T e : TypeId} {τ : Ty} (hT : ElT P T e τ) {v : Value} {xs : List τ.den} (hv : SlV h S τ v xs) (h' : Heap) : fsLen P #[T] v h' = some (.int .i64 (xs.length : Nat)) := by
  rcases hv with ⟨rfl, rfl⟩ | ⟨b, o, mk, rfl, _⟩
  · simp [fsLen, hT.sl.sl]
  simp [fsLen, hT.sl.sl]
def ptrAt (v : Value) (s j : Nat) : Value :=
  match v with
  | .slice (some ⟨b, o, none⟩) _ _ => .pointer (some ⟨b, o + j * s, none⟩)
  | _ => undef
def RepP (h : Heap) (S : List Nat) (τ : Ty) (p : Value) (x : τ.den) : Prop :=
  ∃ b o e rs own more, p = .pointer (some ⟨b, o, none⟩) ∧ b ∉ S ∧ h.get b = some (.row e rs own more) ∧ o + τ.size ≤ rs.length ∧ RepC h S τ ((rs.drop o).take τ.size) x
theorem RepP.nx {τ : Ty} {p : Value} {x : τ.den} (hp : RepP h S τ p x) (hN : Goes h S h' S') : RepP h' S' τ p x := by
  obtain ⟨b, o, e, rs, own, more, h1, h2, h3, h4, h5⟩ := hp; obtain ⟨h6, h7⟩ := hN b _ h3 h2; exact ⟨b, o, e, rs, own, more, h1, h7, h6, h4, h5.nx hN⟩
theorem SlV.row {τ : Ty} {v : Value} {xs : List τ.den} (hv : SlV h S τ v xs) (hj : 0 < xs.length) : ∃ b o mk e' rs own more, v = .slice (some ⟨b, o, none⟩) xs.length mk ∧ b ∉ S ∧ h.get b = some (.row e' rs own more) ∧ o + xs.length * τ.size ≤ rs.length ∧
    ∀ i (hi : i < xs.length), RepC h S τ ((rs.drop (o + i * τ.size)).take τ.size) xs[i] := by
  rcases hv with ⟨rfl, rfl⟩ | ⟨b, o, mk, rfl, h2⟩
  · simp at hj
  rcases h2 with rfl | ⟨h2, e', rs, own, more, h3, h4, h5⟩
  · simp at hj
  exact ⟨b, o, mk, e', rs, own, more, rfl, h2, h3, h4, h5⟩
theorem SlV.at {τ : Ty} {v : Value} {xs : List τ.den} (hv : SlV h S τ v xs) {j : Nat} (hj : j < xs.length) : RepP h S τ (ptrAt v τ.size j) xs[j] := by
  obtain ⟨b, o, mk, e', rs, own, more, rfl, h2, h3, h4, h5⟩ := hv.row (by omega); refine ⟨b, o + j * τ.size, e', rs, own, more, rfl, h2, h3, ?_, h5 j hj⟩; have : (j + 1) * τ.size ≤ xs.length * τ.size := Nat.mul_le_mul_right _ hj; rw [Nat.add_mul] at this; omega
theorem SlV.ix {T e : TypeId} {τ : Ty} (hT : ElT P T e τ) {v : Value} {xs : List τ.den} (hv : SlV h S τ v xs) {j : Nat} (hj : j < xs.length) : runPure P (Instr.indexAt T v (.int .i64 (j : Nat))) = some (ptrAt v τ.size j) := by
  obtain ⟨b, o, mk, e', rs, own, more, rfl, h2, h3, h4, h5⟩ := hv.row (by omega); obtain ⟨i, z, hinf, hsz, _⟩ := hT.sl.info; unfold Instr.indexAt
  have h6 : (0 : Int) ≤ (j : Int) ∧ (j : Int) < (xs.length : Nat) := by omega
  simp only [runPure_bind, asIntOf, runPure_pure, Option.bind_some, runPure_underlying hT.sl.sl, if_pos h6, runPure_sizeOf hinf, hsz, add_none, Int.toNat_natCast, ptrAt]
structure ValT (P : Program) (e : TypeId) (τ : Ty) : Prop where
  info : ∃ i, P.info? e = some i ∧ i.size = τ.size
  agg : ∃ d, P.underlying e = some d ∧ isAggD d = τ.agg
def valB (P : Program) (e : TypeId) (τ : Ty) : Bool := (match P.info? e with | some i => Nat.beq i.size τ.size | none => false) && (match P.underlying e with | some d => isAggD d == τ.agg | none => false)
theorem valT_of {e : TypeId} {τ : Ty} (hb : valB P e τ = true) : ValT P e τ := by
  unfold valB at hb; obtain ⟨h1, h2⟩ := band hb; refine ⟨?_, ?_⟩
  · split at h1
    · rename_i i hi; exact ⟨i, hi, nbeq h1⟩
    cases h1
  split at h2
  · rename_i d hd; exact ⟨d, hd, by simpa using h2⟩
  cases h2
def valAt (h : Heap) (τ : Ty) (p : Value) : Value :=
  match p with
  | .pointer (some ⟨b, o, none⟩) =>
    match h.get b with
    | some (.row _ rs _ _) => if τ.agg then .agg ((rs.drop o).take τ.size).toArray else rs.getD o undef
    | _ => undef
  | _ => undef
theorem take_one {rs : List Value} {o : Nat} (ho : o < rs.length) : (rs.drop o).take 1 = [rs[o]] := by
  rw [List.drop_eq_getElem_cons ho]; rfl
theorem RepP.load' {e : TypeId} {τ : Ty} (hT : ValT P e τ) {p : Value} {x : τ.den} (hp : RepP h S τ p x) : fsLoad P e p h = some (valAt h τ p) ∧ RepV h S τ (valAt h τ p) x := by
  obtain ⟨b, o, e', rs, own, more, rfl, h2, h3, h4, h5⟩ := hp; obtain ⟨i, hi, hs⟩ := hT.info; obtain ⟨d, hd, ha⟩ := hT.agg; simp only [fsLoad, valAt, h3, hd, hi, ha, hs]
  cases hb : τ.agg with
  | true =>
    simp only [if_true, h4]
    refine ⟨trivial, by simpa [isAggV] using hb.symm, by simpa [Value.cells] using h5⟩
  | false =>
    have h1 := Ty.size_one hb; rw [h1] at h4 h5
    have ho : o < rs.length := by omega
    rw [take_one ho] at h5; obtain ⟨u, hu, hv⟩ := h5.one hb; simp only [List.cons.injEq, and_true] at hu; simp only [Bool.false_eq_true, if_false, List.getD_eq_getElem?_getD, List.getElem?_eq_getElem ho, Option.getD_some]; exact ⟨trivial, by rw [hu]; exact hv⟩
theorem RepP.val {τ : Ty} {p : Value} {x : τ.den} (hp : RepP h S τ p x) : RepV h S τ (valAt h τ p) x := by
  obtain ⟨b, o, e', rs, own, more, rfl, h2, h3, h4, h5⟩ := hp; simp only [valAt, h3]
  cases hb : τ.agg with
  | true =>
    simp only [if_true]
    refine ⟨by simpa [isAggV] using hb.symm, by simpa [Value.cells] using h5⟩
  | false =>
    have h1 := Ty.size_one hb; rw [h1] at h4 h5
    have ho : o < rs.length := by omega
    rw [take_one ho] at h5; obtain ⟨u, hu, hv⟩ := h5.one hb; simp only [List.cons.injEq, and_true] at hu; simp only [Bool.false_eq_true, if_false, List.getD_eq_getElem?_getD, List.getElem?_eq_getElem ho, Option.getD_some]; rw [hu]; exact hv
def padd (p : Value) (k : Nat) : Value :=
  match p with
  | .pointer (some ⟨b, o, none⟩) => .pointer (some ⟨b, o + k, none⟩)
  | _ => undef
def offB (P : Program) (s : TypeId) (f k : Nat) : Bool :=
  match P.underlying s with
  | some (.struct fs) => match fs[f]? with
    | some fd => Nat.beq fd.offset k && (match P.info? fd.type with | some i => Nat.blt 0 i.size | none => false)
    | none => false
  | _ => false
theorem RepP.fa {s : TypeId} {f k : Nat} {τ : Ty} {p : Value} {x : τ.den} (hp : RepP h S τ p x) (hb : offB P s f k = true) : runPure P (Instr.fieldAt s p f) = some (padd p k) := by
  obtain ⟨b', o, e', rs, own, more, rfl, h2, h3, h4, h5⟩ := hp; unfold offB at hb; split at hb
  · rename_i fs hfs; split at hb
    · rename_i fd hfd; obtain ⟨h6, h7⟩ := band hb; split at h7
      · rename_i i hi; have h8 := nblt h7; have h9 := nbeq h6; unfold Instr.fieldAt; simp only [runPure_bind, runPure_underlying hfs, Option.bind_some, hfd]; show (runPure P (Instr.sureAddr _)).bind _ = _; simp only [Instr.sureAddr, runPure_pure, Option.bind_some, runPure_bind, fieldPlace, runPure_sizeOf hi]; rw [if_neg (by omega)]; simp only [runPure_pure, Option.bind_some, add_none, h9, padd]
      cases h7
    cases hb
  cases hb
end Go.Fs
namespace Go.Fs
variable {P : Program} {h h' h0 h1 h2 : Heap} {S S' S0 : List Nat}
theorem fold_set (off : Nat) : ∀ (us : List Value) (j : Nat) (pre mid post : List Value), pre.length = off + j → mid.length = us.length →
    (us.zipIdx j).foldl (fun (cs : Array Value) (p : Value × Nat) => cs.setIfInBounds (off + p.2) p.1) (pre ++ mid ++ post).toArray = (pre ++ us ++ post).toArray
  | [], j, pre, mid, post, _, hm => by
    have : mid = [] := List.eq_nil_of_length_eq_zero hm; subst this
    rfl
  | u :: us, j, pre, [], post, _, hm => by simp at hm
  | u :: us, j, pre, m :: mid, post, hp, hm => by
    simp only [List.zipIdx_cons, List.foldl_cons]
    have h1 : (pre ++ (m :: mid) ++ post).toArray.setIfInBounds (off + j) u = ((pre ++ [u]) ++ mid ++ post).toArray := by
      rw [← hp]; simp
    rw [h1, fold_set off us (j + 1) (pre ++ [u]) mid post (by simp; omega) (by simpa using hm)]; simp
theorem fill_at (s off : Nat) (u : Value) (pre mid post : List Value) (hp : pre.length = off) (hm : mid.length = s) (hu : u.cells.size = s) :
    u.cells.zipIdx.foldl (fun (cs : Array Value) (p : Value × Nat) => cs.setIfInBounds (off + p.2) p.1) (pre ++ mid ++ post).toArray = (pre ++ u.cells.toList ++ post).toArray := by
  have := fold_set off u.cells.toList 0 pre mid post (by omega) (by simp; omega); rw [← this, ← Array.foldl_toList, Array.toList_zipIdx]
def flat (vs : List Value) : List Value := vs.flatMap fun v => v.cells.toList
theorem fill_all (s : Nat) : ∀ (vs : List Value) (k : Nat) (pre rest : List Value), (∀ v ∈ vs, v.cells.size = s) → pre.length = k * s → rest.length = vs.length * s →
    Instr.fill (fun i => some (i * s, s)) (pre ++ rest).toArray (numbered k vs) = some (pre ++ flat vs).toArray
  | [], k, pre, rest, _, _, hr => by
    have : rest = [] := List.eq_nil_of_length_eq_zero (by simpa using hr); subst this
    rfl
  | v :: vs, k, pre, rest, hc, hp, hr => by
    have hv := hc v List.mem_cons_self; simp only [numbered, Instr.fill, hv]
    have hr' : rest.length = vs.length * s + s := by rw [hr, List.length_cons, Nat.add_mul]; omega
    have h2 : (decide (s ≠ s) || decide (k * s + s > (pre ++ rest).toArray.size)) = false := by simp; omega
    rw [show (s ≠ s || k * s + s > (pre ++ rest).toArray.size) = false from h2]; simp only [Bool.false_eq_true, if_false]; have h3 := fill_at s (k * s) v pre (rest.take s) (rest.drop s) hp (by rw [List.length_take]; omega) hv; rw [List.append_assoc, List.take_append_drop] at h3; have h4 : v.cells.zipIdx.foldl (fun cs (c, j) => cs.setIfInBounds (k * s + j) c) (pre ++ rest).toArray = (pre ++ v.cells.toList ++ rest.drop s).toArray := h3; rw [h4, fill_all s vs (k + 1) (pre ++ v.cells.toList) (rest.drop s) (fun u hu => hc u (List.mem_cons_of_mem _ hu)) (by simp [hv, hp, Nat.add_mul]) (by rw [List.length_drop]; omega)]; simp [flat]
theorem RepV.cellsSize {τ : Ty} {u : Value} {x : τ.den} (hu : RepV h S τ u x) : u.cells.size = τ.size := by simpa using hu.2.len
theorem RepC.allOne : ∀ {τ : Ty} {cs : List Value} {x : τ.den}, RepC h S τ cs x → cs.all oneCell = true := by
  intro τ
  induction τ with
  | int k => rintro cs x rfl; rfl
  | bool => rintro cs x rfl; rfl
  | str => rintro cs x rfl; rfl
  | flt k => rintro cs x rfl; rfl
  | unit => rintro cs x rfl; rfl
  | sl e ih =>
    rintro cs x ⟨v, rfl, h2⟩
    rcases h2 with ⟨rfl, _⟩ | ⟨b, o, mk, rfl, _⟩ <;> rfl
  | fn => rintro cs x rfl; cases x <;> rfl
  | hnd => rintro cs x rfl; cases x <;> rfl
  | mp a b _ _ =>
    rintro cs x ⟨v, rfl, h2⟩
    rcases h2 with ⟨rfl, _⟩ | ⟨b, es, c, rfl, _⟩ <;> rfl
  | pair a b iha ihb =>
    rintro cs x ⟨h1, h2⟩; have e1 := iha h1; have e2 := ihb h2; rw [← List.take_append_drop a.size cs, List.all_append, e1, e2]; rfl
def Elems (h : Heap) (S : List Nat) (τ : Ty) (rs : List Value) (xs : List τ.den) : Prop := rs.length = xs.length * τ.size ∧ ∀ i (hi : i < xs.length), RepC h S τ ((rs.drop (i * τ.size)).take τ.size) xs[i]
theorem Elems.nx {τ : Ty} {rs : List Value} {xs : List τ.den} (he : Elems h S τ rs xs) (hN : Goes h S h' S') : Elems h' S' τ rs xs := ⟨he.1, fun i hi => (he.2 i hi).nx hN⟩
theorem Elems.nil {τ : Ty} : Elems h S τ [] [] := ⟨by simp, fun i hi => absurd hi (by simp)⟩
theorem Elems.append {τ : Ty} {rs rs' : List Value} {xs xs' : List τ.den} (he : Elems h S τ rs xs) (he' : Elems h S τ rs' xs') : Elems h S τ (rs ++ rs') (xs ++ xs') := by
  refine ⟨by rw [List.length_append, List.length_append, he.1, he'.1, Nat.add_mul], fun i hi => ?_⟩; by_cases h1 : i < xs.length
  · have h2 : (i + 1) * τ.size ≤ xs.length * τ.size := Nat.mul_le_mul_right _ h1; rw [Nat.add_mul] at h2
    have h3 : i * τ.size ≤ rs.length := by rw [he.1]; omega
    rw [List.getElem_append_left h1, List.drop_append_of_le_length h3, List.take_append_of_le_length (by rw [List.length_drop, he.1]; omega)]; exact he.2 i h1
  have h1' : xs.length ≤ i := by omega
  have h2 : i - xs.length < xs'.length := by rw [List.length_append] at hi; omega
  rw [List.getElem_append_right h1']
  have h3 : (rs ++ rs').drop (i * τ.size) = rs'.drop ((i - xs.length) * τ.size) := by
    have h4 : i * τ.size = rs.length + (i - xs.length) * τ.size := by rw [he.1, ← Nat.add_mul]; congr 1; omega
    rw [h4, List.drop_append, List.drop_eq_nil_of_le (by omega), Nat.add_sub_cancel_left, List.nil_append]
  rw [h3]; exact he'.2 _ h2
theorem Elems.one {τ : Ty} {u : Value} {x : τ.den} (hu : RepV h S τ u x) : Elems h S τ u.cells.toList [x] := by
  refine ⟨by simpa using hu.cellsSize, fun i hi => ?_⟩
  have : i = 0 := by simpa using hi
  subst this; simp only [Nat.zero_mul, List.drop_zero, List.getElem_cons_zero]; rw [List.take_of_length_le (by rw [Array.length_toList, hu.cellsSize]; exact Nat.le_refl _)]; exact hu.2
theorem Elems.allOne {τ : Ty} : ∀ (xs : List τ.den) (rs : List Value), Elems h S τ rs xs → rs.all oneCell = true := by
  intro xs
  induction xs with
  | nil => intro rs he; have := he.1; simp at this; subst this; rfl
  | cons x xs ih =>
    intro rs he; have h1 := he.2 0 (by simp); simp only [Nat.zero_mul, List.drop_zero, List.getElem_cons_zero] at h1
    have h2 : Elems h S τ (rs.drop τ.size) xs := by
      refine ⟨by rw [List.length_drop, he.1, List.length_cons, Nat.add_mul]; omega, fun i hi => ?_⟩; have := he.2 (i + 1) (by simpa using hi); rw [List.drop_drop]; rw [Nat.add_mul, Nat.one_mul, List.getElem_cons_succ] at this
      rwa [Nat.add_comm]
    rw [← List.take_append_drop τ.size rs, List.all_append, h1.allOne, ih _ h2]; rfl
theorem Elems.slv {τ : Ty} {e' : TypeId} {rs : List Value} {xs : List τ.den} {own more : Bool} {b mk : Nat} (he : Elems h S τ rs xs) (hg : h.get b = some (.row e' rs own more)) (hb : b ∉ S) : SlV h S τ (.slice (some ⟨b, 0, none⟩) xs.length mk) xs :=
  .inr ⟨b, 0, mk, rfl, .inr ⟨hb, e', rs, own, more, hg, by rw [he.1]; omega, fun i hi => by rw [Nat.zero_add]; exact he.2 i hi⟩⟩
theorem vs1 {τ : Ty} {u : Value} {x : τ.den} (h1 : RepV h S τ u x) : ∀ i (hi : i < [u].length) (hx : i < [x].length), RepV h S τ [u][i] [x][i] := by
  intro i hi hx
  match i, hi with
  | 0, _ => exact h1
theorem buildEl {T e : TypeId} {τ : Ty} (hT : ElT P T e τ) {vs : List Value} {xs : List τ.den} (hl : vs.length = xs.length) (hv : ∀ i (hi : i < vs.length) (hx : i < xs.length), RepV h S τ vs[i] xs[i]) (h0 : vs ≠ []) (hsz : vs.length ≤ 1000) (hτ : τ.size ≤ 100) (h2 : Heap) :
    fsBuildSlice P T vs.length (numbered 0 vs).toArray h2 = some (.slice (some ⟨h2.next, 0, none⟩) vs.length 0, h2.push (.row e (flat vs) true false)) := by
  obtain ⟨i, z, h1, h2', _, _, h3, h4, h5⟩ := hT.sl.info; have hpos : 0 < vs.length := List.length_pos_iff.2 h0
  have hc : ∀ v ∈ vs, v.cells.size = τ.size ∧ v.cells.toList.all oneCell = true := by
    intro v hm; obtain ⟨k, hk, rfl⟩ := List.getElem_of_mem hm; have := hv k hk (by omega); exact ⟨this.cellsSize, this.2.allOne⟩
  unfold fsBuildSlice; have hb : Nat.beq vs.length 0 = false := beq_no (by omega); simp only [hT.sl.sl, h1, hb, cond_false, h3, h2']
  have hall : ∀ (k : Nat) (l : List Value), (∀ v ∈ l, v.cells.size = τ.size ∧ v.cells.toList.all oneCell = true) → ((numbered k l).all fun p => p.2.cells.toList.all oneCell) = true := by
    intro k l
    induction l generalizing k with
    | nil => intro _; rfl
    | cons u l ih =>
      intro hl; have hu := hl u List.mem_cons_self; have hr := ih (k + 1) fun w hw => hl w (List.mem_cons_of_mem _ hw); simp only [numbered, List.all_cons, hu.2, Bool.true_and]; exact hr
  have hcc : (Nat.ble (vs.length * τ.size) 16777216 && Nat.blt 0 τ.size && z.cells.toList.all af0 && (numbered 0 vs).all fun p => p.2.cells.toList.all oneCell) = true := by
    have e1 : Nat.ble (vs.length * τ.size) 16777216 = true := by
      rw [Nat.ble_eq]; have := Nat.mul_le_mul hsz hτ; omega
    have e2 : Nat.blt 0 τ.size = true := by show Nat.ble 1 τ.size = true; rw [Nat.ble_eq]; exact hT.sl.pos
    rw [e1, e2, h5, hall 0 vs hc]; rfl
  rw [hcc]; simp only [cond_true]; have hf := fill_all τ.size vs 0 [] ((Array.range (vs.length * τ.size)).map (z.cells[· % z.cells.size]!)).toList (fun v hv' => (hc v hv').1) (by simp) (by simp); simp only [List.nil_append, Array.toArray_toList] at hf; rw [hf]
theorem Elems.flat {τ : Ty} : ∀ (vs : List Value) (xs : List τ.den), vs.length = xs.length → (∀ i (hi : i < vs.length) (hx : i < xs.length), RepV h S τ vs[i] xs[i]) → Elems h S τ (Fs.flat vs) xs
  | [], [], _, _ => Elems.nil
  | v :: vs, x :: xs, hl, hv => by
    have h1 : Elems h S τ v.cells.toList [x] := Elems.one (hv 0 (by simp) (by simp)); have h2 := Elems.flat vs xs (by simpa using hl) fun i hi hx => hv (i + 1) (by simpa using hi) (by simpa using hx)
    exact h1.append h2
  | [], x :: xs, hl, _ => by simp at hl
  | v :: vs, [], hl, _ => by simp at hl
def GrowR (h : Heap) (S : List Nat) (lo : Nat) (e : TypeId) (m : Bool) (τ : Ty) (v : Value) (xs : List τ.den) : Prop :=
  (v = .slice none 0 0 ∧ xs = []) ∨ ∃ b rs, b ∈ S ∧ lo ≤ b ∧ v = .slice (some ⟨b, 0, none⟩) xs.length 0 ∧ h.get b = some (.row e rs true m) ∧ Elems h S τ rs xs
theorem appended_row {i : TypeInfo} {z : Value} {k b o n m s : Nat} {e e2 : TypeId} {rs news : List Value} {own more : Bool} (his : i.size = s) (hk : k * s ≠ 0) (hb : h.get b = some (.row e rs own more)) (hn : k ≤ n) (ho : o + k * s ≤ rs.length) (hnews : (rs.drop o).take (k * s) = news) (hnk : n = k) :
    appended i z (isInt (.slice e2)) (.slice (some ⟨b, o, none⟩) n m) h = some (k, news) := by
  subst hnk; simp only [appended, isInt, cond_false, lenV, cellsOf, his, hb]
  have e1 : Nat.ble n n = true := by rw [Nat.ble_eq]; exact Nat.le_refl _
  have e2 : Nat.beq (n * s) 0 = false := beq_no hk
  have e3 : Nat.ble (o + n * s) rs.length = true := by rw [Nat.ble_eq]; omega
  simp only [e1, cond_true, e2, cond_false, e3, Option.map_some, hnews]
theorem GrowR.len {lo : Nat} {T e : TypeId} {m : Bool} {τ : Ty} {v : Value} {xs : List τ.den} (hg : GrowR h S lo e m τ v xs) (hT : ElT P T e τ) (h' : Heap) : fsLen P #[T] v h' = some (.int .i64 (xs.length : Nat)) := by
  rcases hg with ⟨rfl, rfl⟩ | ⟨b, rs, h1, h2, rfl, h4, h5⟩
  · simp [fsLen, hT.sl.sl]
  simp [fsLen, hT.sl.sl]
end Go.Fs
namespace Go.Fs
variable {P : Program} {orc : FuncId → List Value → Heap → Option (Value × Heap)} {rnd : Option Nat} {h h' h0 h1 h2 : Heap} {ops : Array Oper} {n i mem : Nat} {fl : FL} {K : FL → Heap → Prop} {l : List Oper} {bs : List Nat} {segs : List (Nat × Nat × Nat)} {tail : Bool}
  {d : Tmp} {ty : TypeId} {pos : String} {after : Array Edge} {op : Op} {v : Value} {S S' S0 : List Nat} {ms : List Nat} {Q : Ex → Fr → Heap → Prop}
theorem RepV.box {τ : Ty} {e : TypeId} {u : Value} {x : τ.den} (hok : HOk h) (hS : ∀ b ∈ S, b < h.next) (hx : RepV h S τ u x) : RepP (h.push (.row e u.cells.toList true false)) S τ (.pointer (some ⟨h.next, 0, none⟩)) x := by
  have hN : Goes h S (h.push (.row e u.cells.toList true false)) S := (After.push h _).nx hok; refine ⟨h.next, 0, e, u.cells.toList, true, false, rfl, fun hm => ?_, by rw [Heap.get_push, if_pos rfl], by rw [Array.length_toList, hx.cellsSize]; omega, ?_⟩
  · have := hS _ hm; omega
  rw [List.drop_zero, List.take_of_length_le (by rw [Array.length_toList, hx.cellsSize]; exact Nat.le_refl _)]; exact hx.2.nx hN
section
variable {fr : Fr} {id id' : Nat} {b : Code} {I : Nat → FL → Heap → Prop} {k : Nat}
end
theorem RepC.anyHeap : ∀ {τ : Ty} {cs : List Value} {x : τ.den}, cs.all af0 = true → RepC h S τ cs x → RepC h' S' τ cs x := by
  intro τ
  induction τ with
  | int k => exact fun _ hx => hx
  | bool => exact fun _ hx => hx
  | str => exact fun _ hx => hx
  | flt k => exact fun _ hx => hx
  | unit => exact fun _ hx => hx
  | pair a b iha ihb =>
    intro cs x ha hx; rw [← List.take_append_drop a.size cs, List.all_append] at ha; obtain ⟨h1, h2⟩ := band ha
    exact ⟨iha h1 hx.1, ihb h2 hx.2⟩
  | sl e ih =>
    rintro cs x ha ⟨v, rfl, h2⟩; rcases h2 with h2 | ⟨b, o, mk, rfl, _⟩
    · exact ⟨v, rfl, .inl h2⟩
    cases ha
  | fn => exact fun _ hx => hx
  | hnd => exact fun _ hx => hx
  | mp a b _ _ =>
    rintro cs x ha ⟨v, rfl, h2⟩; rcases h2 with h2 | ⟨b, es, c, rfl, _⟩
    · exact ⟨v, rfl, .inl h2⟩
    cases ha
theorem RepV.anyHeap {τ : Ty} {v : Value} {x : τ.den} (hv : RepV h S τ v x) (ha : af1 v = true) : RepV h' S' τ v x := by
  refine ⟨hv.1, hv.2.anyHeap ?_⟩
  cases v with
  | agg cs => exact ha
  | _ => simpa [Value.cells, af1] using ha
end Go.Fs
namespace Go.Fs
variable {P : Program} {orc : FuncId → List Value → Heap → Option (Value × Heap)} {rnd : Option Nat} {h h' h0 h1 h2 hs : Heap} {ops : Array Oper} {n i mem b : Nat} {fl : FL} {K : FL → Heap → Prop} {l : List Oper} {bs : List Nat} {segs : List (Nat × Nat × Nat)} {tail : Bool}
  {d : Tmp} {ty : TypeId} {pos : String} {after : Array Edge} {op : Op} {v : Value} {S S' S0 : List Nat}
def SegsOk (hs : Heap) (segs : List (Nat × Nat × Nat)) : Prop := ∀ s ∈ segs, hs.next ≤ s.2.1
theorem SegsOk.nil : SegsOk hs [] := fun _ h => by cases h
theorem SegsOk.cons {lo hi : Nat} (h1 : hs.next ≤ lo) (h2 : SegsOk hs segs) : SegsOk hs ((i, lo, hi) :: segs) := fun s hm => by
  rcases List.mem_cons.1 hm with rfl | hm
  · exact h1
  exact h2 s hm
theorem look_filter_all {p : Nat × AObj → Bool} {b : Nat} (hp : ∀ o, p (b, o) = true) : ∀ l : List (Nat × AObj), look (l.filter p) b = look l b
  | [] => rfl
  | (k, o) :: r => by
    rw [List.filter_cons]; by_cases hk : k = b
    · subst hk; rw [if_pos (hp o)]; simp [look]
    split
    · simp only [look, beq_no hk, cond_false, look_filter_all hp r]
    simp only [look, beq_no hk, cond_false, look_filter_all hp r]
theorem mask_old {m lo b : Nat} (hb : b < lo) : ∀ (segs : List (Nat × Nat × Nat)) (objs : List (Nat × AObj)), (∀ s ∈ segs, lo ≤ s.2.1) → look (mask m segs objs) b = look objs b
  | [], _, _ => rfl
  | (k, l, hi) :: segs, objs, hs => by
    simp only [mask]; rw [mask_old hb segs _ fun s hm => hs s (List.mem_cons_of_mem _ hm)]; split
    · rfl
    refine look_filter_all (fun o => ?_) objs; have := hs _ List.mem_cons_self; unfold outside; simp only [Bool.not_eq_true', Bool.and_eq_false_iff, decide_eq_false_iff_not]
    left; simp only at this; omega
theorem mask_sees {m b : Nat} {o : AObj} : ∀ (segs : List (Nat × Nat × Nat)) (objs : List (Nat × AObj)), look (mask m segs objs) b = some o → look objs b = some o
  | [], _, h => h
  | (k, l, hi) :: segs, objs, h => by
    simp only [mask] at h; have := mask_sees segs _ h; split at this
    · exact this
    exact (look_filter (outside l hi) (fun b => !(decide (l ≤ b) && decide (b < hi))) (fun _ _ => rfl) objs b o this).1
def msk (m : Nat) (segs : List (Nat × Nat × Nat)) (h : Heap) : Heap := { next := h.next, low := h.next, objs := mask m segs h.objs }
theorem msk_after {m : Nat} (hA : After hs h) (hsg : SegsOk hs segs) : After hs (msk m segs h) where
  next := hA.next
  get := fun b hb => (mask_old hb segs h.objs hsg).trans (hA.get b hb)
  ok := fun hok b o hg => hA.ok hok b o (mask_sees segs h.objs hg)
  low := fun e h1 h2 => Nat.le_trans h2 hA.next
theorem ble_refl' (a : Nat) : Nat.ble a a = true := by rw [Nat.ble_eq]; exact Nat.le_refl _
theorem blt_refl' (a : Nat) : Nat.blt a a = false := by
  cases hx : Nat.blt a a with
  | false => rfl
  | true => have := nblt hx; omega
theorem blt_of_le {a b : Nat} (hl : b ≤ a) : Nat.blt a b = false := by
  cases hx : Nat.blt a b with
  | false => rfl
  | true => have := nblt hx; omega
theorem newer_left {M : Heap} (hok : HOk h) (hM : ∀ b o, M.get b = some o → h.get b = some o) (hMn : M.next = h.next) (hA : After M h') (hMok : HOk M) :
    After h { next := h'.next, low := h.low, objs := newer h.next h'.next h'.objs ++ h.objs } ∧ ∀ S, Goes h' S { next := h'.next, low := h.low, objs := newer h.next h'.next h'.objs ++ h.objs } S := by
  have hold : ∀ b, b < h.next → look (newer h.next h'.next h'.objs ++ h.objs) b = look h.objs b := fun b hb => by
    rw [look_append]
    cases hl : look (newer h.next h'.next h'.objs) b with
    | none => rfl
    | some o => have := (newer_some _ _ _ hl).1; omega
  have hnew : ∀ b o, h.next ≤ b → look h'.objs b = some o → look (newer h.next h'.next h'.objs ++ h.objs) b = some o := fun b o hb hl => by
    rw [look_append]; have hlt : b < h'.next := hA.ok hMok b o hl; rw [newer_in _ _ hb hlt, hl]; rfl
  have hnx : h.next ≤ h'.next := by have := hA.next; omega
  refine ⟨⟨hnx, hold, fun _ b o hg => ?_, fun e h1 _ => h1⟩, fun S b o hg hS => ⟨?_, hS⟩⟩
  · by_cases hb : b < h.next
    · exact Nat.lt_of_lt_of_le hb hnx
    have hg' : look (newer h.next h'.next h'.objs ++ h.objs) b = some o := hg; rw [look_append] at hg'
    cases hl : look (newer h.next h'.next h'.objs) b with
    | some o' => exact (newer_some _ _ _ hl).1.2
    | none => rw [hl] at hg'; exact absurd (hok b o hg') hb
  by_cases hb : b < h.next
  · have h3 : M.get b = some o := by rw [← hA.get b (by omega)]; exact hg
    exact (hold b hb).trans (hM b o h3)
  exact hnew b o (by omega) hg
end Go.Fs
namespace Go.Fs
variable {P : Program} {orc : FuncId → List Value → Heap → Option (Value × Heap)} {rnd : Option Nat} {h h' h0 h1 h2 hs : Heap} {ops : Array Oper} {n i mem b : Nat} {fl : FL} {K : FL → Heap → Prop} {l : List Oper} {bs : List Nat} {segs : List (Nat × Nat × Nat)} {tail : Bool}
  {d : Tmp} {ty : TypeId} {pos : String} {after : Array Edge} {op : Op} {v : Value} {S S' S0 : List Nat} {ms : List Nat} {Q : Ex → Fr → Heap → Prop} {c : Code}
theorem wrap64 {n : Int} (h0 : -9223372036854775808 ≤ n) (h1 : n ≤ 9223372036854775807) : IntKind.i64.wrap n = n := by
  unfold IntKind.wrap; simp only [IntKind.bits, IntKind.signed, Bool.true_and]
  have e : (2 ^ 64 : Int) = 18446744073709551616 := by decide
  have e' : (2 ^ (64 - 1) : Int) = 9223372036854775808 := by decide
  simp only [e, e', decide_eq_true_eq, ge_iff_le]; split <;> omega
variable {T T' : TypeId} {x y : Operand} {p q : Int}
end Go.Fs
namespace Go.Fs
variable {P : Program} {orc : FuncId → List Value → Heap → Option (Value × Heap)} {rnd : Option Nat} {h h' h0 h1 h2 hs : Heap} {ops : Array Oper} {n i mem b : Nat} {fl : FL} {K : FL → Heap → Prop} {l : List Oper} {bs : List Nat} {segs : List (Nat × Nat × Nat)} {tail : Bool}
  {d : Tmp} {ty : TypeId} {pos : String} {after : Array Edge} {op : Op} {v : Value} {S S' S0 : List Nat} {ms : List Nat} {Q : Ex → Fr → Heap → Prop} {c : Code}
def BoxR (h : Heap) (lo : Nat) (p : Value) (cs : List Value) : Prop := ∃ b e, p = .pointer (some ⟨b, 0, none⟩) ∧ lo ≤ b ∧ h.get b = some (.row e cs true false)
theorem BoxR.ld1 {lo : Nat} {p u : Value} {e : TypeId} {cs : List Value} {k : Nat} {τ : Ty} (hb : BoxR h lo p cs) (hT : ValT P e τ) (ha : τ.agg = false) (hk : cs[k]? = some u) : fsLoad P e (padd p k) h = some u := by
  obtain ⟨b, e', rfl, h2, h3⟩ := hb; obtain ⟨i, hi, hs⟩ := hT.info; obtain ⟨d, hd, hag⟩ := hT.agg; have h4 : h.get b = some (.row e' cs true false) := h3; simp only [fsLoad, padd, h4, hd, hi, hag, ha, Nat.zero_add, hk]; rfl
theorem BoxR.ld0 {lo : Nat} {p u : Value} {e : TypeId} {cs : List Value} {τ : Ty} (hb : BoxR h lo p cs) (hT : ValT P e τ) (ha : τ.agg = false) (hk : cs[0]? = some u) : fsLoad P e p h = some u := by
  have := hb.ld1 (k := 0) hT ha hk; obtain ⟨b, e', rfl, h2, h3⟩ := hb; exact this
theorem BoxR.ldA {lo : Nat} {p : Value} {e : TypeId} {cs : List Value} {τ : Ty} (hb : BoxR h lo p cs) (hT : ValT P e τ) (ha : τ.agg = true) (hk : cs.length = τ.size) : fsLoad P e p h = some (.agg cs.toArray) := by
  obtain ⟨b, e', rfl, h2, h3⟩ := hb; obtain ⟨i, hi, hs⟩ := hT.info; obtain ⟨d, hd, hag⟩ := hT.agg; have h4 : h.get b = some (.row e' cs true false) := h3; simp only [fsLoad, h4, hd, hi, hag, ha, hs, if_true]; rw [if_pos (by omega), List.drop_zero, ← hk, List.take_length]
theorem BoxR.fa {lo : Nat} {p : Value} {cs : List Value} {s : TypeId} {f k : Nat} (hp : BoxR h lo p cs) (hb : offB P s f k = true) : runPure P (Instr.fieldAt s p f) = some (padd p k) := by
  obtain ⟨b', e', rfl, h2, h3⟩ := hp; unfold offB at hb; split at hb
  · rename_i fs hfs; split at hb
    · rename_i fd hfd; obtain ⟨h6, h7⟩ := band hb; split at h7
      · rename_i i hi; have h8 := nblt h7; have h9 := nbeq h6; unfold Instr.fieldAt; simp only [runPure_bind, runPure_underlying hfs, Option.bind_some, hfd]; show (runPure P (Instr.sureAddr _)).bind _ = _; simp only [Instr.sureAddr, runPure_pure, Option.bind_some, runPure_bind, fieldPlace, runPure_sizeOf hi]; rw [if_neg (by omega)]; simp only [runPure_pure, Option.bind_some, add_none, h9, padd]
      cases h7
    cases hb
  cases hb
end Go.Fs
namespace Go.Fs
variable {P : Program} {h h' : Heap} {fl : FL} {S : List Nat}
theorem runPure_build {T : TypeId} {parts : Array (Nat × Value)} {fields : Array Field} {places : Array (Nat × Nat)} {z : Value} (hu : P.underlying T = some (.struct fields)) (hz : runPure P (zeroValue T) = some z)
    (hp : runPure P (fields.mapM fun f => do pure (f.offset, ← sizeOf f.type)) = some places) {cs : Array Value} (hf : Instr.fill (places[·]?) z.cells parts.toList = some cs) : runPure P (Instr.build T parts) = some (.agg cs) := by
  unfold Instr.build; rw [runPure_bind, hz]; simp only [Option.bind_some]; rw [runPure_bind, runPure_underlying hu]; simp only [Option.bind_some]; rw [runPure_bind, hp]; simp only [Option.bind_some, hf]; rfl
end Go.Fs
namespace Go.Fs
variable {P : Program} {orc : FuncId → List Value → Heap → Option (Value × Heap)} {rnd : Option Nat} {h h' h0 h1 h2 hs : Heap} {ops : Array Oper} {n i mem b : Nat} {fl : FL} {K : FL → Heap → Prop} {l : List Oper} {bs : List Nat} {segs : List (Nat × Nat × Nat)} {tail : Bool}
  {d : Tmp} {ty : TypeId} {pos : String} {after : Array Edge} {op : Op} {v : Value} {S S' S0 : List Nat} {ms : List Nat} {Q : Ex → Fr → Heap → Prop} {c : Code}
theorem elems_set {τ : Ty} {rs us : List Value} {xs : List τ.den} {x : τ.den} {j : Nat} (he : Elems h S τ rs xs) (hj : j < xs.length) (hx : RepC h S τ us x) : Elems h S τ (splice rs (j * τ.size) us) (xs.set j x) := by
  have hul := hx.len; have hrl := he.1; have hjs : (j + 1) * τ.size ≤ xs.length * τ.size := Nat.mul_le_mul_right _ hj; rw [Nat.add_mul, Nat.one_mul] at hjs
  have hl1 : (rs.take (j * τ.size)).length = j * τ.size := by rw [List.length_take]; omega
  refine ⟨?_, fun i hi => ?_⟩
  · unfold splice; rw [List.length_append, List.length_append, hl1, List.length_drop, List.length_set]; omega
  rw [List.length_set] at hi; have hold := he.2 i hi; unfold splice; rw [List.append_assoc]; by_cases h1 : i < j
  · have h2 : (i + 1) * τ.size ≤ j * τ.size := Nat.mul_le_mul_right _ h1; rw [Nat.add_mul, Nat.one_mul] at h2; rw [List.getElem_set_ne (by omega), List.drop_append_of_le_length (by omega), List.take_append_of_le_length (by rw [List.length_drop]; omega), List.drop_take, List.take_take, Nat.min_eq_left (by omega)]; exact hold
  by_cases h2 : i = j
  · subst h2
    have e1 : (rs.take (i * τ.size) ++ (us ++ rs.drop (i * τ.size + us.length))).drop (i * τ.size) = us ++ rs.drop (i * τ.size + us.length) := by
      have := List.drop_left' (l₂ := us ++ rs.drop (i * τ.size + us.length)) hl1; exact this
    rw [e1, List.getElem_set_self, List.take_left' hul]; exact hx
  have h3 : (j + 1) * τ.size ≤ i * τ.size := Nat.mul_le_mul_right _ (by omega); rw [Nat.add_mul, Nat.one_mul] at h3
  have e1 : (rs.take (j * τ.size) ++ (us ++ rs.drop (j * τ.size + us.length))).drop (i * τ.size) = rs.drop (i * τ.size) := by
    rw [List.drop_append, List.drop_eq_nil_of_le (by omega), List.nil_append, hl1, List.drop_append, List.drop_eq_nil_of_le (by omega), List.nil_append, List.drop_drop]; congr 1; omega
  rw [e1, List.getElem_set_ne (by omega)]; exact hold
theorem GrowR.own {lo : Nat} {e : TypeId} {m : Bool} {τ : Ty} {v : Value} {xs : List τ.den} (hg : GrowR h S lo e m τ v xs) (h0 : 0 < xs.length) : ∃ b rs, b ∈ S ∧ lo ≤ b ∧ v = .slice (some ⟨b, 0, none⟩) xs.length 0 ∧ h.get b = some (.row e rs true m) ∧ Elems h S τ rs xs := by
  rcases hg with ⟨rfl, rfl⟩ | hg
  · simp at h0
  exact hg
theorem GrowR.ix {lo : Nat} {T e : TypeId} {m : Bool} {τ : Ty} {v : Value} {xs : List τ.den} (hg : GrowR h S lo e m τ v xs) (hT : ElT P T e τ) {j : Nat} (hj : j < xs.length) : runPure P (Instr.indexAt T v (.int .i64 (j : Nat))) = some (ptrAt v τ.size j) := by
  obtain ⟨b, rs, _, _, rfl, _, _⟩ := hg.own (by omega); obtain ⟨i, z, hinf, hsz, _⟩ := hT.sl.info; unfold Instr.indexAt
  have h6 : (0 : Int) ≤ (j : Int) ∧ (j : Int) < (xs.length : Nat) := by omega
  simp only [runPure_bind, asIntOf, runPure_pure, Option.bind_some, runPure_underlying hT.sl.sl, if_pos h6, runPure_sizeOf hinf, hsz, add_none, Int.toNat_natCast, ptrAt]
theorem GrowR.ld {lo : Nat} {e : TypeId} {m : Bool} {τ : Ty} {v : Value} {xs : List τ.den} (hg : GrowR h S lo e m τ v xs) (hT : ValT P e τ) {j : Nat} (hj : j < xs.length) : fsLoad P e (ptrAt v τ.size j) h = some (valAt h τ (ptrAt v τ.size j)) ∧ RepV h S τ (valAt h τ (ptrAt v τ.size j)) xs[j] := by
  obtain ⟨b, rs, _, _, rfl, h4, h5⟩ := hg.own (by omega); have hjs : (j + 1) * τ.size ≤ xs.length * τ.size := Nat.mul_le_mul_right _ hj; rw [Nat.add_mul, Nat.one_mul] at hjs; have hrl := h5.1; obtain ⟨i, hi, hs⟩ := hT.info; obtain ⟨d, hd, ha⟩ := hT.agg; have hx := h5.2 j hj; simp only [fsLoad, valAt, ptrAt, h4, hd, hi, ha, hs, Nat.zero_add]
  cases hb : τ.agg with
  | true =>
    simp only [if_true, show j * τ.size + τ.size ≤ rs.length by omega]
    exact ⟨trivial, by simpa [isAggV] using hb.symm, by simpa [Value.cells] using hx⟩
  | false =>
    have h1 := Ty.size_one hb; rw [h1] at hx hjs hrl ⊢
    have ho : j * 1 < rs.length := by omega
    rw [take_one ho] at hx; obtain ⟨u, hu, hv⟩ := hx.one hb; simp only [List.cons.injEq, and_true] at hu; simp only [Bool.false_eq_true, if_false, List.getD_eq_getElem?_getD, List.getElem?_eq_getElem ho, Option.getD_some]; exact ⟨trivial, by rw [hu]; exact hv⟩
theorem SlV.cut {T e : TypeId} {τ : Ty} (hT : ElT P T e τ) {v : Value} {xs : List τ.den} (hv : SlV h S τ v xs) {a b : Int} (h0 : 0 ≤ a ∧ a ≤ b ∧ b ≤ (xs.length : Nat)) :
    ∃ w, (∀ nn ll, fsSlice P T v (some (.int .i64 a)) (some (.int .i64 b)) none { next := nn, low := ll, objs := h.objs } = some w) ∧ SlV h S τ w ((xs.take b.toNat).drop a.toNat) := by
  obtain ⟨i, z, hinf, hsz, _⟩ := hT.sl.info; obtain ⟨a', rfl⟩ := Int.eq_ofNat_of_zero_le h0.1; obtain ⟨b', rfl⟩ := Int.eq_ofNat_of_zero_le (show 0 ≤ b by omega)
  have hb : b' ≤ xs.length := by omega
  have hab : a' ≤ b' := by omega
  simp only [Int.toNat_natCast]; rcases hv with ⟨rfl, rfl⟩ | ⟨bl, o, mk, rfl, h2⟩
  · have : a' = 0 ∧ b' = 0 := by simp at hb; omega
    obtain ⟨rfl, rfl⟩ := this; refine ⟨.slice none 0 0, fun nn ll => ?_, .inl ⟨rfl, rfl⟩⟩; simp [fsSlice, hT.sl.sl, boundOf, hinf]
  have e1 : Nat.ble a' b' = true := by rw [Nat.ble_eq]; exact hab
  have e2 : Nat.ble b' xs.length = true := by rw [Nat.ble_eq]; exact hb
  have hl : ((xs.take b').drop a').length = b' - a' := by simp; omega
  by_cases hab' : a' < b' ∨ a' = 0
  · refine ⟨.slice (some ⟨bl, o + a' * τ.size, none⟩) (b' - a') (bif Nat.beq mk 1 then (bif Nat.beq b' xs.length then 1 else 2) else markOf e bl a' mk h), fun nn ll => ?_, ?_⟩
    · have hmk : markOf e bl a' mk { next := nn, low := ll, objs := h.objs } = markOf e bl a' mk h := rfl
      have hcut : (Nat.blt a' b' || Nat.beq a' 0) = true := by
        rcases hab' with h3 | rfl
        · have : Nat.blt a' b' = true := by show Nat.ble (a' + 1) b' = true; rw [Nat.ble_eq]; exact h3
          rw [this]; rfl
        simp
      simp only [fsSlice, hT.sl.sl, hinf, boundOf, Int.natCast_nonneg, if_true, Int.toNat_natCast, e1, e2, Bool.and_self, cond_true, cutAt, hcut, hsz, hmk]
    refine .inr ⟨bl, o + a' * τ.size, _, by rw [hl], ?_⟩; by_cases hz : a' = b'
    · left; exact List.eq_nil_of_length_eq_zero (by omega)
    right; rcases h2 with rfl | ⟨h2, e', rs, own, more, h3, h4, h5⟩
    · simp at hb; omega
    have hbs : b' * τ.size ≤ xs.length * τ.size := Nat.mul_le_mul_right _ hb
    have habs : a' * τ.size + (b' - a') * τ.size = b' * τ.size := by rw [← Nat.add_mul]; congr 1; omega
    refine ⟨h2, e', rs, own, more, h3, by rw [hl]; omega, fun i hi => ?_⟩; rw [hl] at hi; have := h5 (a' + i) (by omega); rw [List.getElem_drop, List.getElem_take]
    rwa [Nat.add_mul, ← Nat.add_assoc] at this
  have hab2 : a' = b' := by omega
  subst hab2; refine ⟨.slice (some ⟨0, 0, none⟩) 0 2, fun nn ll => ?_, .inr ⟨0, 0, 2, by rw [hl]; simp, .inl (List.eq_nil_of_length_eq_zero (by omega))⟩⟩
  have hcut : (Nat.blt a' a' || Nat.beq a' 0) = false := by
    rw [blt_refl', beq_no (by omega)]; rfl
  simp only [fsSlice, hT.sl.sl, hinf, boundOf, Int.natCast_nonneg, if_true, Int.toNat_natCast, e1, e2, Bool.and_self, cond_true, cutAt, hcut, cond_false]
end Go.Fs
namespace Go.Fs
variable {P : Program} {fl : FL}
theorem runPure_program : runPure P program = some P := rfl
end Go.Fs
namespace Go.Fs
variable {P : Program} {orc : FuncId → List Value → Heap → Option (Value × Heap)} {h h' h0 : Heap} {fl : FL} {op : Op} {v : Value} {S S' S0 : List Nat} {ops : Array Oper} {n : Nat} {K : FL → Heap → Prop} {l : List Oper} {d : Tmp} {ty : TypeId} {pos : String} {after : Array Edge}
theorem apart {p q : List Nat} {m : Nat} (hp : ∀ b ∈ p, m ≤ b) (hq : ∀ b ∈ q, b < m) : ∀ b ∈ p, b ∉ q := fun b h1 h2 => by
  have := hp b h1; have := hq b h2; omega
theorem slice_nil0 {T e : TypeId} {τ : Ty} (hT : ElT P T e τ) (H : Heap) : fsSlice P T (.slice none 0 0) none (some (.int .i64 0)) none H = some (.slice none 0 0) := by
  obtain ⟨i, z, hi1, _⟩ := hT.sl.info; simp [fsSlice, hT.sl.sl, boundOf, hi1]
theorem slice_cut0 {T e : TypeId} {τ : Ty} (hT : ElT P T e τ) (H : Heap) (b n : Nat) : fsSlice P T (.slice (some ⟨b, 0, none⟩) n 0) none (some (.int .i64 0)) none H = some (.slice (some ⟨b, 0, none⟩) 0 0) := by
  obtain ⟨i, z, hi1, _⟩ := hT.sl.info
  have e1 : Nat.ble 0 n = true := by rw [Nat.ble_eq]; exact Nat.zero_le _
  have e2 : Nat.ble 0 0 = true := rfl; have e3 : Nat.beq 0 1 = false := rfl; simp only [fsSlice, hT.sl.sl, boundOf, hi1]; simp [e1, e2, e3, cutAt, markOf]
theorem zeros_len (z : Value) (n : Nat) : (zeros z n).length = n * z.cells.size := by simp [zeros]
theorem zeros_one {z : Value} (hz : z.cells.toList.all oneCell = true) (h0 : 0 < z.cells.size) (n : Nat) : (zeros z n).all oneCell = true := by
  rw [List.all_eq_true]; intro x hx; simp only [zeros, List.mem_map, List.mem_range] at hx; obtain ⟨k, _, rfl⟩ := hx; have hk : k % z.cells.size < z.cells.size := Nat.mod_lt _ h0; rw [getElem!_pos z.cells _ hk]; exact List.all_eq_true.1 hz _ (by rw [← Array.getElem_toList (h := by simpa using hk)]; exact List.getElem_mem _)
theorem af0_one {cs : List Value} (hc : cs.all af0 = true) : cs.all oneCell = true := by
  rw [List.all_eq_true] at hc ⊢; intro x hx; have := hc x hx; cases x <;> first | rfl | simp_all [af0, oneCell]
end Go.Fs
namespace Go.Fs
variable {P : Program} {orc : FuncId → List Value → Heap → Option (Value × Heap)} {h h' h0 : Heap} {fl : FL} {op : Op} {v : Value} {S S' S0 : List Nat} {ops : Array Oper} {n i mem : Nat} {K : FL → Heap → Prop} {l : List Oper} {d : Tmp} {ty : TypeId} {pos : String} {after : Array Edge} {bs : List Nat} {segs : List (Nat × Nat × Nat)} {tail : Bool}
end Go.Fs
namespace Go.Fs
def Ty.isFlat : Ty → Bool
  | .sl _ => false
  | .mp _ _ => false
  | .fn => false
  | .hnd => false
  | .pair a b => a.isFlat && b.isFlat
  | _ => true
def Ty.flatC : (τ : Ty) → τ.den → List Value
  | .int k, n => [.int k n]
  | .bool, b => [.bool b]
  | .str, s => [.string s]
  | .flt k, b => [.float k b]
  | .unit, _ => []
  | .sl _, _ => []
  | .mp _ _, _ => []
  | .fn, _ => []
  | .hnd, _ => []
  | .pair a b, x => a.flatC x.1 ++ b.flatC x.2
theorem flat_cells {h : Heap} {S : List Nat} : ∀ {τ : Ty} {cs : List Value} {x : τ.den}, RepC h S τ cs x → τ.isFlat = true → cs = τ.flatC x := by
  intro τ
  induction τ with
  | int k => intro cs x hx _; exact hx
  | bool => intro cs x hx _; exact hx
  | str => intro cs x hx _; exact hx
  | flt k => intro cs x hx _; exact hx
  | unit => intro cs x hx _; exact hx
  | sl e ih => intro cs x _ hf; cases hf
  | fn => intro cs x _ hf; cases hf
  | hnd => intro cs x _ hf; cases hf
  | mp a b _ _ => intro cs x _ hf; cases hf
  | pair a b iha ihb =>
    intro cs x hx hf
    have h1 : a.isFlat = true ∧ b.isFlat = true := by simpa [Ty.isFlat] using hf
    have e1 := iha hx.1 h1.1; have e2 := ihb hx.2 h1.2; show cs = a.flatC x.1 ++ b.flatC x.2; rw [← e1, ← e2, List.take_append_drop]
theorem flat_agg {h : Heap} {S : List Nat} {τ : Ty} {v : Value} {x : τ.den} (hv : RepV h S τ v x) (hf : τ.isFlat = true) (ha : τ.agg = true) : v = .agg (τ.flatC x).toArray := by
  obtain ⟨h1, h2⟩ := hv; have h3 := flat_cells h2 hf
  cases v with
  | agg cs =>
    have h4 : cs.toList = τ.flatC x := h3
    rw [← h4]
  | _ => rw [ha] at h1; cases h1
end Go.Fs
namespace Go.Fs
structure GVar where
  n : Nat
  e : TypeId
  τ : Ty
  x : τ.den
def gTab : List GVar := []
end Go.Fs
namespace Go.Fs
variable {h h' : Heap} {S S' : List Nat}
def GT (h : Heap) (S : List Nat) : Prop := ∀ v ∈ gTab, ∃ vs, h.get (v.n + 1) = some (.row v.e vs false true) ∧ v.n + 1 ∉ S ∧ vs.length = v.τ.size ∧ ∀ h' S', RepC h' S' v.τ vs v.x
theorem GT.nx (hs : GT h S) (hN : Goes h S h' S') : GT h' S' := fun v hv => by
  obtain ⟨vs, h1, h2, h3, h4⟩ := hs v hv; obtain ⟨h5, h6⟩ := hN _ _ h1 h2; exact ⟨vs, h5, h6, h3, h4⟩
def HOkG (h : Heap) : Prop := HOk h ∧ GT h []
end Go.Fs
namespace Go.Fs
variable {P : Program} {h h' h0 h1 h2 : Heap} {S S' S0 B G : List Nat}
inductive PV where
  | v (τ : Ty) (x : τ.den)
  | p (τ : Ty) (x : τ.den)
  | raw (u : Value)
  | clo (f : FuncId) (a c : List PV)
  | tup (l : List PV)
  | gd (b : Bool) (v : PV)
  | agg (l : List PV)
mutual
def RepPV (h : Heap) (S : List Nat) : PV → Value → Prop
  | .v τ x, u => RepV h S τ u x
  | .p τ x, u => RepP h S τ u x
  | .raw w, u => u = w
  | .clo f a c, u => ∃ va vc : List Value, u = .func (.func f) va.toArray vc.toArray ∧ RepL h S a va ∧ RepL h S c vc
  | .tup l, u => ∃ vs : List Value, u = .tuple vs.toArray ∧ RepL h S l vs
  | .gd b v, u => (b = true → RepPV h S v u) ∧ (b = false → u = undef)
  | .agg l, u => ∃ vs : List Value, u = .agg vs.toArray ∧ RepL h S l vs
def RepL (h : Heap) (S : List Nat) : List PV → List Value → Prop
  | [], us => us = []
  | p :: ps, us => ∃ u r, us = u :: r ∧ RepPV h S p u ∧ RepL h S ps r
end
def GoesR (h : Heap) (S : List Nat) (h' : Heap) (S' : List Nat) : Prop := ∀ b o, h.get b = some o → o ≠ .defd → b ∉ S → h'.get b = some o ∧ b ∉ S'
theorem Goes.r (hN : Goes h S h' S') : GoesR h S h' S' := fun b _ hg _ hb => hN b _ hg hb
theorem RepC.nxR (hN : GoesR h S h' S') : ∀ {τ : Ty} {cs : List Value} {x : τ.den}, RepC h S τ cs x → RepC h' S' τ cs x := by
  intro τ
  induction τ with
  | int k => exact fun hx => hx
  | bool => exact fun hx => hx
  | str => exact fun hx => hx
  | flt k => exact fun hx => hx
  | unit => exact fun hx => hx
  | pair a b iha ihb => exact fun hx => ⟨iha hx.1, ihb hx.2⟩
  | sl e ih =>
    rintro cs x ⟨v, h1, h2⟩; refine ⟨v, h1, ?_⟩; rcases h2 with h2 | ⟨b, o, mk, h2, h3⟩
    · exact .inl h2
    refine .inr ⟨b, o, mk, h2, ?_⟩; rcases h3 with h3 | ⟨h3, e', rs, own, more, h4, h5, h6⟩
    · exact .inl h3
    obtain ⟨h7, h8⟩ := hN b _ h4 (by simp) h3
    exact .inr ⟨h8, e', rs, own, more, h7, h5, fun i hi => ih (h6 i hi)⟩
  | fn => exact fun hx => hx
  | hnd => exact fun hx => hx
  | mp a b iha ihb =>
    rintro cs x ⟨v, h1, h2⟩; refine ⟨v, h1, ?_⟩; rcases h2 with h2 | ⟨b, es, c, h2, h3, h4, h5, h6⟩
    · exact .inl h2
    obtain ⟨h7, h8⟩ := hN b _ h4 (by simp) h3; exact .inr ⟨b, es, c, h2, h8, h7, h5, fun i hi hj => ⟨⟨(h6 i hi hj).1.1, iha (h6 i hi hj).1.2⟩, ⟨(h6 i hi hj).2.1, ihb (h6 i hi hj).2.2⟩⟩⟩
theorem RepP.nxR (hN : GoesR h S h' S') {τ : Ty} {p : Value} {x : τ.den} (hp : RepP h S τ p x) : RepP h' S' τ p x := by
  obtain ⟨b, o, e, rs, own, more, h1, h2, h3, h4, h5⟩ := hp; obtain ⟨h6, h7⟩ := hN b _ h3 (by simp) h2; exact ⟨b, o, e, rs, own, more, h1, h7, h6, h4, h5.nxR hN⟩
mutual
theorem RepPV.nxR (hN : GoesR h S h' S') : ∀ {pv : PV} {u : Value}, RepPV h S pv u → RepPV h' S' pv u
  | .v τ x, u, hx => ⟨hx.1, RepC.nxR hN hx.2⟩
  | .p τ x, u, hx => RepP.nxR hN hx
  | .raw w, u, hx => hx
  | .clo f a c, u, ⟨va, vc, h1, h2, h3⟩ => ⟨va, vc, h1, RepL.nxR hN h2, RepL.nxR hN h3⟩
  | .tup l, u, ⟨vs, h1, h2⟩ => ⟨vs, h1, RepL.nxR hN h2⟩
  | .gd b v, u, ⟨h1, h2⟩ => ⟨fun e => RepPV.nxR hN (h1 e), h2⟩
  | .agg l, u, ⟨vs, h1, h2⟩ => ⟨vs, h1, RepL.nxR hN h2⟩
theorem RepL.nxR (hN : GoesR h S h' S') : ∀ {l : List PV} {us : List Value}, RepL h S l us → RepL h' S' l us
  | [], us, hx => hx
  | p :: ps, us, ⟨u, r, h1, h2, h3⟩ => ⟨u, r, h1, RepPV.nxR hN h2, RepL.nxR hN h3⟩
end
theorem RepPV.nx (hN : Goes h S h' S') {pv : PV} {u : Value} (hx : RepPV h S pv u) : RepPV h' S' pv u := hx.nxR hN.r
theorem RepL.nx (hN : Goes h S h' S') {l : List PV} {us : List Value} (hx : RepL h S l us) : RepL h' S' l us := hx.nxR hN.r
theorem RepL.len : ∀ {l : List PV} {us : List Value}, RepL h S l us → us.length = l.length
  | [], us, hx => by rw [show us = [] from hx]; rfl
  | p :: ps, us, ⟨u, r, h1, _, h3⟩ => by rw [h1, List.length_cons, List.length_cons, RepL.len h3]
theorem RepL.append : ∀ {l l' : List PV} {us us' : List Value}, RepL h S l us → RepL h S l' us' → RepL h S (l ++ l') (us ++ us')
  | [], l', us, us', hx, hy => by rw [show us = [] from hx]; exact hy
  | p :: ps, l', us, us', ⟨u, r, h1, h2, h3⟩, hy => ⟨u, r ++ us', by rw [h1]; rfl, h2, RepL.append h3 hy⟩
def PV.flat0 : PV → Bool
  | .v τ _ => τ.isFlat
  | .raw u => af1 u
  | _ => false
def PV.flat : PV → Bool
  | .tup l => l.all PV.flat0
  | q => q.flat0
theorem flatC_af : ∀ (τ : Ty) (x : τ.den), (τ.flatC x).all af0 = true
  | .int _, _ => rfl
  | .bool, _ => rfl
  | .str, _ => rfl
  | .flt _, _ => rfl
  | .unit, _ => rfl
  | .sl _, _ => rfl
  | .mp _ _, _ => rfl
  | .fn, _ => rfl
  | .hnd, _ => rfl
  | .pair a b, x => by
    show (a.flatC x.1 ++ b.flatC x.2).all af0 = true; rw [List.all_append, flatC_af a, flatC_af b]; rfl
theorem repV_af1 {τ : Ty} {u : Value} {x : τ.den} (hf : τ.isFlat = true) (hx : RepV h S τ u x) : af1 u = true := by
  have hc := flat_cells hx.2 hf
  cases ha : isAggV u with
  | true =>
    cases u with
    | agg cs =>
      show cs.toList.all af0 = true; have : cs.toList = τ.flatC x := hc
      rw [this]; exact flatC_af τ x
    | _ => cases ha
  | false =>
    rw [cells_one ha] at hc; have h1 := flatC_af τ x; rw [← hc] at h1
    have h2 : af0 u = true := by simpa using h1
    cases u with
    | agg cs => cases ha
    | _ => exact h2
theorem RepPV.flat0 : ∀ {pv : PV} {u : Value}, pv.flat0 = true → RepPV h S pv u → af1 u = true ∧ ∀ h' S', RepPV h' S' pv u
  | .v τ x, u, hf, hx => ⟨repV_af1 hf hx, fun h' S' => RepV.anyHeap (τ := τ) hx (repV_af1 hf hx)⟩
  | .raw w, u, hf, hx => ⟨by rw [show u = w from hx]; exact hf, fun _ _ => hx⟩
  | .p _ _, _, hf, _ => by cases hf
  | .clo _ _ _, _, hf, _ => by cases hf
  | .tup _, _, hf, _ => by cases hf
  | .gd _ _, _, hf, _ => by cases hf
theorem RepL.flat0 : ∀ {l : List PV} {us : List Value}, l.all PV.flat0 = true → RepL h S l us → us.all af1 = true ∧ ∀ h' S', RepL h' S' l us
  | [], us, _, hx => ⟨by rw [show us = [] from hx]; rfl, fun _ _ => hx⟩
  | p :: ps, us, hf, ⟨u, r, h1, h2, h3⟩ => by
    rw [List.all_cons] at hf; obtain ⟨f1, f2⟩ := band hf; obtain ⟨a1, a2⟩ := h2.flat0 f1; obtain ⟨b1, b2⟩ := RepL.flat0 f2 h3; exact ⟨by rw [h1, List.all_cons, a1, b1]; rfl, fun h' S' => ⟨u, r, h1, a2 h' S', b2 h' S'⟩⟩
theorem af_of_af1 {u : Value} (hu : af1 u = true) : af u = true := by
  cases u with
  | tuple vs => cases hu
  | _ => exact hu
theorem RepPV.flat {pv : PV} {u : Value} (hf : pv.flat = true) (hx : RepPV h S pv u) : af u = true ∧ ∀ h' S', RepPV h' S' pv u := by
  cases pv with
  | tup l =>
    obtain ⟨vs, h1, h2⟩ := hx; obtain ⟨a1, a2⟩ := RepL.flat0 (l := l) hf h2; refine ⟨?_, fun h' S' => ⟨vs, h1, a2 h' S'⟩⟩; rw [h1]; show vs.toArray.toList.all af1 = true
    exact a1
  | v τ x => obtain ⟨a1, a2⟩ := RepPV.flat0 (pv := .v τ x) hf hx; exact ⟨af_of_af1 a1, a2⟩
  | p τ x => cases hf
  | raw w => obtain ⟨a1, a2⟩ := RepPV.flat0 (pv := .raw w) hf hx; exact ⟨af_of_af1 a1, a2⟩
  | clo f a c => cases hf
  | gd b v => cases hf
  | agg l => cases hf
structure Aft (h h' : Heap) (B : List Nat) : Prop where
  next : h.next ≤ h'.next
  get : ∀ b, b < h.next → b ∉ B → h'.get b = h.get b
  ok : HOk h → HOk h'
  low : ∀ e, e ≤ h.low → e ≤ h.next → (∀ b ∈ B, e ≤ b) → e ≤ h'.low
  chg : ∀ b, b < h.next → h'.get b = h.get b ∨ h'.low ≤ b
  lowle : h'.low ≤ h.low
theorem Aft.refl (h : Heap) (B : List Nat) : Aft h h B := ⟨Nat.le_refl _, fun _ _ _ => rfl, fun x => x, fun _ x _ _ => x, fun _ _ => .inl rfl, Nat.le_refl _⟩
theorem Aft.trans {B' : List Nat} (a : Aft h h1 B) (b : Aft h1 h2 B') (hB : ∀ i ∈ B', i ∈ B ∨ h.next ≤ i) : Aft h h2 B where
  next := Nat.le_trans a.next b.next
  get := fun i hi hn => by
    have := a.next; rw [b.get i (by omega) (fun hm => by rcases hB i hm with h3 | h3; exact hn h3; omega), a.get i hi hn]
  ok := fun x => b.ok (a.ok x)
  low := fun e h3 h4 h5 => b.low e (a.low e h3 h4 h5) (Nat.le_trans h4 a.next) fun i hi => by
    rcases hB i hi with h6 | h6
    · exact h5 i h6
    omega
  chg := fun i hi => by
    have := a.next; have := b.lowle; rcases b.chg i (by omega) with h3 | h3
    · rcases a.chg i hi with h4 | h4
      · exact .inl (h3.trans h4)
      exact .inr (by omega)
    exact .inr h3
  lowle := Nat.le_trans b.lowle a.lowle
theorem Aft.weak {B' : List Nat} (a : Aft h h1 B) (hB : ∀ i ∈ B, i ∈ B') : Aft h h1 B' where
  next := a.next
  get := fun i hi hn => a.get i hi fun hm => hn (hB i hm)
  ok := a.ok
  low := fun e h3 h4 h5 => a.low e h3 h4 fun i hi => h5 i (hB i hi)
  chg := a.chg
  lowle := a.lowle
theorem Aft.after (a : Aft h h1 []) : After h h1 := ⟨a.next, fun b hb => a.get b hb (by simp), a.ok, fun e h3 h4 => a.low e h3 h4 (by simp)⟩
theorem Aft.push (h : Heap) (o : AObj) (B : List Nat) : Aft h (h.push o) B where
  next := Nat.le_succ _
  get := fun b hb _ => by rw [Heap.get_push, if_neg (by omega)]
  ok := (After.push h o).ok
  low := fun e h3 _ _ => h3
  chg := fun b hb => .inl (by rw [Heap.get_push, if_neg (by omega)])
  lowle := Nat.le_refl _
theorem Aft.set {b : Nat} {o o' : AObj} (hg : h.get b = some o) (hb : b ∈ B) : Aft h (h.set b o') B where
  next := Nat.le_refl _
  get := fun i _ hi => by rw [Heap.get_set hg, if_neg (fun e => hi (by subst e; exact hb))]
  ok := fun x i oi hi => by
    rw [Heap.get_set hg] at hi; split at hi
    · rename_i e; rw [e]; exact x b o hg
    exact x i oi hi
  low := fun e h3 _ h5 => Nat.le_min.2 ⟨h3, h5 b hb⟩
  chg := fun i hi => by
    by_cases e : i = b
    · exact .inr (by subst e; exact Nat.min_le_right _ _)
    exact .inl (by rw [Heap.get_set hg, if_neg e])
  lowle := Nat.min_le_left _ _
theorem Aft.drop {b : Nat} (hb : b ∈ B) : Aft h (h.drop b) B where
  next := Nat.le_refl _
  get := fun i _ hi => by rw [Heap.get_drop, if_neg (fun e => hi (by subst e; exact hb))]
  ok := fun x i oi hi => by
    rw [Heap.get_drop] at hi; split at hi
    · cases hi
    exact x i oi hi
  low := fun e h3 _ h5 => Nat.le_min.2 ⟨h3, h5 b hb⟩
  chg := fun i hi => by
    by_cases e : i = b
    · exact .inr (by subst e; exact Nat.min_le_right _ _)
    exact .inl (by rw [Heap.get_drop, if_neg e])
  lowle := Nat.min_le_left _ _
theorem Aft.goes (a : Aft h h' B) (hok : HOk h) (hB : ∀ b ∈ B, b ∈ S) (hS : ∀ b ∈ S', b ∈ S ∨ h.next ≤ b) : Goes h S h' S' := fun b o hg hb => by
  have hlt := hok b o hg; refine ⟨by rw [a.get b hlt (fun hm => hb (hB b hm))]; exact hg, fun hm => ?_⟩; rcases hS b hm with h3 | h3
  · exact hb h3
  omega
inductive Cell where
  | row (e : TypeId) (τ : Ty) (xs : List τ.den)
  | var (cs : List PV)
  | cap (e : TypeId) (n : Nat) (τ : Ty) (xs : List τ.den)
  | mp (κ ν : Ty) (kvs : List (κ.den × ν.den))
  | it (s : ByteArray) (pos : Nat)
  | loop (st : LoopState) (jump : Option Code) (n : Nat) (fl : List (Nat × PV)) (ps : Array Tmp) (assign body : Code)
  | cel (e : TypeId) (n : Nat) (cs : List PV)
abbrev Sto := List (Value × Cell)
def blk : Value → List Nat
  | .slice (some a) _ _ => [a.block]
  | .pointer (some a) => [a.block]
  | .map (some b) => [b]
  | .func (.yield l) _ _ => [l]
  | _ => []
abbrev VL := List (Nat × PV)
def lkV : VL → Nat → Option PV
  | [], _ => none
  | (k, v) :: r, i => bif Nat.beq k i then some v else lkV r i
theorem GT.nxR (hs : GT h S) (hN : GoesR h S h' S') : GT h' S' := fun v hv => by
  obtain ⟨vs, h1, h2, h3, h4⟩ := hs v hv; obtain ⟨h5, h6⟩ := hN _ _ h1 (by simp) h2; exact ⟨vs, h5, h6, h3, h4⟩
def SLt (h : Heap) (S : List Nat) : Prop := (∀ b ∈ S, b < h.next) ∧ ∀ v ∈ gTab, v.n + 1 < h.next
instance : CoeFun (SLt h S) fun _ => ∀ b, b ∈ S → b < h.next := ⟨fun hs => hs.1⟩
theorem GT.slt (hs : GT h S) (hok : HOk h) (h0 : ∀ b ∈ S0, b < h.next) : SLt h S0 := ⟨h0, fun v hv => by
  obtain ⟨vs, h1, _⟩ := hs v hv
  exact hok _ _ h1⟩
theorem GT.seen {hs M : Heap} (hG : GT h S) (a1 : After hs h) (a2 : After hs M) (hl : SLt hs S0) : GT M S := fun v hv => by
  obtain ⟨vs, h1, h2, h3, h4⟩ := hG v hv; have hb := hl.2 v hv; exact ⟨vs, by rw [a2.get _ hb, ← a1.get _ hb]; exact h1, h2, h3, h4⟩
theorem GT.via {hs M : Heap} (hG : GT h S) (hl : SLt hs S0) (hk : ∀ k o, k < hs.next → h.get k = some o → M.get k = some o) : GT M S := fun v hv => by
  obtain ⟨vs, h1, h2, h3, h4⟩ := hG v hv; exact ⟨vs, hk _ _ (hl.2 v hv) h1, h2, h3, h4⟩
def SOk (h : Heap) (S : List Nat) : Prop := (∀ b ∈ S, b < h.next) ∧ GT h S
def Slots (h : Heap) (S : List Nat) (t : Tr) (fl : VL) : Prop := GT h S ∧ ∀ k v, lkV fl k = some v → RepPV h S v (t.get k)
theorem Slots.nx {t : Tr} {fl : VL} (hs : Slots h S t fl) (hN : Goes h S h' S') : Slots h' S' t fl := ⟨hs.1.nx hN, fun k v hk => (hs.2 k v hk).nx hN⟩
theorem Slots.nxR {t : Tr} {fl : VL} (hs : Slots h S t fl) (hN : GoesR h S h' S') : Slots h' S' t fl := ⟨hs.1.nxR hN, fun k v hk => (hs.2 k v hk).nxR hN⟩
instance {t : Tr} {fl : VL} : CoeFun (Slots h S t fl) fun _ => ∀ k v, lkV fl k = some v → RepPV h S v (t.get k) := ⟨fun hs => hs.2⟩
instance : CoeFun (SOk h S) fun _ => ∀ b, b ∈ S → b < h.next := ⟨fun hs => hs.1⟩
def own (σ : Sto) : List Nat := σ.flatMap fun c => blk c.1
def CellR (h : Heap) (S : List Nat) (w : Value) : Cell → Prop
  | .row e τ xs => (w = .slice none 0 0 ∧ xs = []) ∨ ∃ b rs m, w = .slice (some ⟨b, 0, none⟩) xs.length 0 ∧ b ∈ S ∧ h.get b = some (.row e rs true m) ∧ Elems h S τ rs xs
  | .var cs => ∃ b e vs, w = .pointer (some ⟨b, 0, none⟩) ∧ b ∈ S ∧ h.get b = some (.row e vs true false) ∧ RepL h S cs vs ∧ vs.all oneCell = true
  | .cap e n τ xs => ∃ b rs m, w = .slice (some ⟨b, 0, none⟩) xs.length 0 ∧ b ∈ S ∧ h.get b = some (.row e rs true m) ∧ rs.length = n * τ.size ∧ xs.length ≤ n ∧ Elems h S τ (rs.take (xs.length * τ.size)) xs
  | .mp κ ν kvs => ∃ b es clock, w = .map (some b) ∧ b ∈ S ∧ h.get b = some (.mapo es clock) ∧ es.length = kvs.length ∧ ∀ i (hi : i < kvs.length) (hj : i < es.length), RepV h S κ es[i].key kvs[i].1 ∧ RepV h S ν es[i].val kvs[i].2
  | .it s pos => ∃ b, w = .pointer (some ⟨b, 0, none⟩) ∧ b ∈ S ∧ h.get b = some (.iter s pos)
  | .loop st jump n fl ps assign body => ∃ l tmps d, w = .func (.yield l) #[] #[] ∧ l ∈ S ∧ h.get l = some (.loopo st jump tmps n ps assign body d) ∧ Slots h S tmps fl
  | .cel e n cs => (w = .slice none 0 0 ∧ n = 0 ∧ cs = []) ∨ ∃ b rs m, w = .slice (some ⟨b, 0, none⟩) n 0 ∧ b ∈ S ∧ h.get b = some (.row e rs true m) ∧ RepL h S cs rs ∧ rs.all oneCell = true ∧ (n = 0 → m = false)
theorem CellR.keep {w : Value} : ∀ {c : Cell}, CellR h S w c → (∀ b ∈ blk w, h'.get b = h.get b) → Goes h S h' S' → (∀ b ∈ blk w, b ∈ S') → CellR h' S' w c
  | .row e τ xs, hc, hg, hN, hs => by
    rcases hc with hc | ⟨b, rs, m, rfl, h2, h3, h4⟩
    · exact .inl hc
    exact .inr ⟨b, rs, m, rfl, hs b (by simp [blk]), by rw [hg b (by simp [blk])]; exact h3, h4.nx hN⟩
  | .var cs, ⟨b, e, vs, h1, h2, h3, h4, h5⟩, hg, hN, hs => by
    subst h1
    exact ⟨b, e, vs, rfl, hs b (by simp [blk]), by rw [hg b (by simp [blk])]; exact h3, h4.nx hN, h5⟩
  | .cap e n τ xs, ⟨b, rs, m, h1, h2, h3, h4, h5, h6⟩, hg, hN, hs => by
    subst h1
    exact ⟨b, rs, m, rfl, hs b (by simp [blk]), by rw [hg b (by simp [blk])]; exact h3, h4, h5, h6.nx hN⟩
  | .mp κ ν kvs, ⟨b, es, c, h1, h2, h3, h4, h5⟩, hg, hN, hs => by
    subst h1
    exact ⟨b, es, c, rfl, hs b (by simp [blk]), by rw [hg b (by simp [blk])]; exact h3, h4, fun i hi hj => ⟨(h5 i hi hj).1.nx hN, (h5 i hi hj).2.nx hN⟩⟩
  | .it s pos, ⟨b, h1, h2, h3⟩, hg, hN, hs => by
    subst h1
    exact ⟨b, rfl, hs b (by simp [blk]), by rw [hg b (by simp [blk])]; exact h3⟩
  | .loop st jump n fl ps assign body, ⟨l, tmps, d, h1, h2, h3, h4⟩, hg, hN, hs => by
    subst h1
    exact ⟨l, tmps, d, rfl, hs l (by simp [blk]), by rw [hg l (by simp [blk])]; exact h3, h4.nx hN⟩
  | .cel e n cs, hc, hg, hN, hs => by
    rcases hc with hc | ⟨b, rs, m, rfl, h2, h3, h4, h5⟩
    · exact .inl hc
    exact .inr ⟨b, rs, m, rfl, hs b (by simp [blk]), by rw [hg b (by simp [blk])]; exact h3, h4.nx hN, h5⟩
theorem CellR.isObj {w : Value} : ∀ {c : Cell}, CellR h S w c → ∀ b ∈ blk w, ∃ o, h.get b = some o ∧ o ≠ .defd
  | .row e τ xs, hc, b, hb => by
    rcases hc with ⟨rfl, _⟩ | ⟨b', rs, m, rfl, h2, h3, h4⟩
    · cases hb
    obtain rfl : b = b' := by simpa [blk] using hb
    exact ⟨_, h3, by simp⟩
  | .var cs, ⟨b', e, vs, h1, h2, h3, h4, h5⟩, b, hb => by
    subst h1
    obtain rfl : b = b' := by simpa [blk] using hb
    exact ⟨_, h3, by simp⟩
  | .cap e n τ xs, ⟨b', rs, m, h1, h2, h3, h4, h5, h6⟩, b, hb => by
    subst h1
    obtain rfl : b = b' := by simpa [blk] using hb
    exact ⟨_, h3, by simp⟩
  | .mp κ ν kvs, ⟨b', es, c, h1, h2, h3, h4, h5⟩, b, hb => by
    subst h1
    obtain rfl : b = b' := by simpa [blk] using hb
    exact ⟨_, h3, by simp⟩
  | .it s pos, ⟨b', h1, h2, h3⟩, b, hb => by
    subst h1
    obtain rfl : b = b' := by simpa [blk] using hb
    exact ⟨_, h3, by simp⟩
  | .loop st jump n fl ps assign body, ⟨l, tmps, d, h1, h2, h3, h4⟩, b, hb => by
    subst h1
    obtain rfl : b = l := by simpa [blk] using hb
    exact ⟨_, h3, by simp⟩
  | .cel e n cs, hc, b, hb => by
    rcases hc with ⟨rfl, _⟩ | ⟨b', rs, m, rfl, h2, h3, h4⟩
    · cases hb
    obtain rfl : b = b' := by simpa [blk] using hb
    exact ⟨_, h3, by simp⟩
theorem CellR.notG {w : Value} : ∀ {c : Cell}, CellR h S w c → ∀ b ∈ blk w, ∀ e vs, h.get b ≠ some (.row e vs false true)
  | .row e τ xs, hc, b, hb, e', vs', hg => by
    rcases hc with ⟨rfl, _⟩ | ⟨b', rs, m, rfl, h2, h3, h4⟩
    · cases hb
    obtain rfl : b = b' := by simpa [blk] using hb
    rw [h3] at hg; cases hg
  | .var cs, ⟨b', e, vs, h1, h2, h3, h4, h5⟩, b, hb, e', vs', hg => by
    subst h1
    obtain rfl : b = b' := by simpa [blk] using hb
    rw [h3] at hg; cases hg
  | .cap e n τ xs, ⟨b', rs, m, h1, h2, h3, h4, h5, h6⟩, b, hb, e', vs', hg => by
    subst h1
    obtain rfl : b = b' := by simpa [blk] using hb
    rw [h3] at hg; cases hg
  | .mp κ ν kvs, ⟨b', es, c, h1, h2, h3, h4, h5⟩, b, hb, e', vs', hg => by
    subst h1
    obtain rfl : b = b' := by simpa [blk] using hb
    rw [h3] at hg; cases hg
  | .it s pos, ⟨b', h1, h2, h3⟩, b, hb, e', vs', hg => by
    subst h1
    obtain rfl : b = b' := by simpa [blk] using hb
    rw [h3] at hg; cases hg
  | .loop st jump n fl ps assign body, ⟨l, tmps, d, h1, h2, h3, h4⟩, b, hb, e', vs', hg => by
    subst h1
    obtain rfl : b = l := by simpa [blk] using hb
    rw [h3] at hg; cases hg
  | .cel e n cs, hc, b, hb, e', vs', hg => by
    rcases hc with ⟨rfl, _⟩ | ⟨b', rs, m, rfl, h2, h3, h4⟩
    · cases hb
    obtain rfl : b = b' := by simpa [blk] using hb
    rw [h3] at hg; cases hg
theorem GT.own {γ : Sto} (hs : GT h S) (hc : ∀ c ∈ γ, CellR h S' c.1 c.2) : GT h (Go.Fs.own γ ++ S) := fun v hv => by
  obtain ⟨vs, h1, h2, h3, h4⟩ := hs v hv; refine ⟨vs, h1, fun hb => ?_, h3, h4⟩; rcases List.mem_append.1 hb with hb | hb
  · obtain ⟨c, hcm, hb⟩ := List.mem_flatMap.1 hb; exact (hc c hcm).notG _ hb _ _ h1
  exact h2 hb
theorem GT.ent {γ : Sto} (hs : GT h S) (hc : ∀ c ∈ γ, CellR h S' c.1 c.2) : GT (entry h) (Go.Fs.own γ ++ S) := (hs.own hc).nx (Goes.objs fun _ => rfl)
theorem Slots.set {t : Tr} {fl : VL} (hs : Slots h S t fl) {d : Nat} {v : PV} {u : Value} (hu : RepPV h S v u) (hd : d < 4000) : Slots h S (t.set depth d u) ((d, v) :: fl) := by
  refine ⟨hs.1, ?_⟩; intro k w hk; rw [get_setD t d u k hd]; simp only [lkV] at hk
  cases hb : Nat.beq d k with
  | true => rw [hb] at hk; simp only [cond_true, Option.some.injEq] at hk; subst hk; rw [if_pos (nbeq hb).symm]; exact hu
  | false => rw [hb] at hk; simp only [cond_false] at hk; rw [if_neg (Ne.symm (ne_of_no hb))]; exact hs.2 k w hk
theorem Slots.cons {t : Tr} {fl : VL} (hs : Slots h S t fl) {d : Nat} {v : PV} (hu : RepPV h S v (t.get d)) : Slots h S t ((d, v) :: fl) := by
  refine ⟨hs.1, ?_⟩; intro k w hk; simp only [lkV] at hk
  cases hb : Nat.beq d k with
  | true => rw [hb] at hk; simp only [cond_true, Option.some.injEq] at hk; subst hk; rw [← nbeq hb]; exact hu
  | false => rw [hb] at hk; exact hs.2 k w hk
theorem Slots.sub {t : Tr} {fl : VL} (hs : Slots h S t fl) (fl' : VL) (hf : ∀ p ∈ fl', lkV fl p.1 = some p.2) : Slots h S t fl' := by
  refine ⟨hs.1, ?_⟩; intro k v hk
  have : (k, v) ∈ fl' := by
    clear hf
    induction fl' with
    | nil => cases hk
    | cons p r ih =>
      obtain ⟨i, u⟩ := p; simp only [lkV] at hk
      cases hb : Nat.beq i k with
      | true => rw [hb] at hk; simp only [cond_true, Option.some.injEq] at hk; rw [nbeq hb, hk]; exact List.mem_cons_self
      | false => rw [hb] at hk; exact List.mem_cons_of_mem _ (ih hk)
  exact hs.2 k v (hf _ this)
def constV : Value → Option PV
  | .int k n => some (.v (.int k) n)
  | .bool b => some (.v .bool b)
  | .string s => some (.v .str s)
  | .float k b => some (.v (.flt k) b)
  | c => if af c then some (.raw c) else none
def evV (fl : VL) : Operand → Option PV
  | .tmp i => lkV fl i
  | .const c => constV c
  | .global _ => none
  | .func f => some (.clo f [] [])
theorem constV_ok {c : Value} {v : PV} (hc : constV c = some v) : af c = true ∧ ∀ h S, RepPV h S v c := by
  cases c with
  | int k n => obtain rfl := Option.some.inj hc; exact ⟨rfl, fun _ _ => RepV.ofInt _ _⟩
  | bool b => obtain rfl := Option.some.inj hc; exact ⟨rfl, fun _ _ => RepV.ofBool _⟩
  | string s => obtain rfl := Option.some.inj hc; exact ⟨rfl, fun _ _ => RepV.ofStr _⟩
  | float k b => obtain rfl := Option.some.inj hc; exact ⟨rfl, fun _ _ => RepV.ofFlt _ _⟩
  | _ =>
    simp only [constV] at hc; split at hc
    · rename_i ha; obtain rfl := Option.some.inj hc; exact ⟨ha, fun _ _ => rfl⟩
    cases hc
theorem evV_ok {fl : VL} {t : Tr} (hs : Slots h S t fl) {x : Operand} {v : PV} (hx : evV fl x = some v) : RepPV h S v (evalO t x) := by
  cases x with
  | tmp i => exact hs.2 i v hx
  | const c =>
    obtain ⟨h1, h2⟩ := constV_ok hx; show RepPV h S v (if af c then c else junk)
    rw [if_pos h1]; exact h2 h S
  | global g => cases hx
  | func f => obtain rfl := Option.some.inj hx; exact ⟨[], [], rfl, rfl, rfl⟩
def evVs (fl : VL) : List Operand → Option (List PV)
  | [] => some []
  | x :: r => match evV fl x, evVs fl r with
    | some v, some vs => some (v :: vs)
    | _, _ => none
theorem evVs_ok {fl : VL} {t : Tr} (hs : Slots h S t fl) : ∀ {l : List Operand} {vs : List PV}, evVs fl l = some vs → RepL h S vs (l.map (evalO t))
  | [], vs, hx => by obtain rfl := Option.some.inj hx; rfl
  | x :: r, vs, hx => by
    simp only [evVs] at hx; split at hx
    · rename_i v vs0 hv hvs; obtain rfl := Option.some.inj hx; exact ⟨_, _, rfl, evV_ok hs hv, evVs_ok hs hvs⟩
    cases hx
structure Iv (h0 : Heap) (G S0 : List Nat) (h : Heap) (σ : Sto) (t : Tr) (ms : List Nat) (fl : VL) : Prop where
  ok : HOk h
  s0 : ∀ b ∈ S0, b < h0.next
  aft : Aft h0 h G
  cells : ∀ c ∈ σ, CellR h (own σ ++ S0) c.1 c.2
  new : ∀ b ∈ own σ, (b ∈ G ∨ h0.next ≤ b) ∧ b ∉ S0
  apart : (own σ).Nodup
  mark : ∀ d ∈ ms, h0.next ≤ d ∧ h.get d = some .defd
  marks : ms.Nodup
  slots : Slots h (own σ ++ S0) t fl
variable {σ σ' : Sto} {t t' : Tr} {ms : List Nat} {fl : VL}
theorem own_lt (hc : ∀ c ∈ σ, CellR h S c.1 c.2) (hok : HOk h) : ∀ b ∈ own σ, b < h.next := fun b hb => by
  obtain ⟨c, hcm, hb⟩ := List.mem_flatMap.1 hb; obtain ⟨o, hg, _⟩ := (hc c hcm).isObj b hb; exact hok b _ hg
theorem Iv.goes (I : Iv h0 G S0 h σ t ms fl) (hB : ∀ b ∈ B, b ∈ own σ) (ha : Aft h h' B) (hn : ∀ b ∈ own σ', b ∈ own σ ∨ h.next ≤ b) : Goes h (own σ ++ S0) h' (own σ' ++ S0) :=
  ha.goes I.ok (fun b hb => List.mem_append_left _ (hB b hb)) fun b hb => by
    rcases List.mem_append.1 hb with hb | hb
    · rcases hn b hb with h3 | h3
      · exact .inl (List.mem_append_left _ h3)
      exact .inr h3
    exact .inl (List.mem_append_right _ hb)
theorem Iv.step (I : Iv h0 G S0 h σ t ms fl) (hB : ∀ b ∈ B, b ∈ own σ) (ha : Aft h h' B) (hn : ∀ b ∈ own σ', b ∈ own σ ∨ h.next ≤ b) (hd : (own σ').Nodup) (hc : ∀ c ∈ σ', CellR h' (own σ' ++ S0) c.1 c.2) : Iv h0 G S0 h' σ' t ms fl where
  ok := ha.ok I.ok
  s0 := I.s0
  aft := I.aft.trans ha fun b hb => (I.new b (hB b hb)).1
  cells := hc
  new := fun b hb => by
    have h1 := I.aft.next; rcases hn b hb with h3 | h3
    · exact I.new b h3
    exact ⟨.inr (by omega), fun hm => by have := I.s0 b hm; omega⟩
  apart := hd
  mark := fun d hdm => by
    obtain ⟨h1, h2⟩ := I.mark d hdm; refine ⟨h1, ?_⟩; rw [ha.get d (I.ok d _ h2) (fun hm => ?_)]
    · exact h2
    obtain ⟨c, hcm, hb⟩ := List.mem_flatMap.1 (hB d hm); obtain ⟨o, hg, hne⟩ := (I.cells c hcm).isObj d hb; rw [hg] at h2; exact absurd (Option.some.inj h2) hne
  marks := I.marks
  slots := I.slots.nx (I.goes hB ha hn)
theorem Iv.calm (I : Iv h0 G S0 h σ t ms fl) (ha : Aft h h' []) : Iv h0 G S0 h' σ t ms fl :=
  I.step (B := []) (fun b hb => by cases hb) ha (fun b hb => .inl hb) I.apart fun c hc => (I.cells c hc).keep
    (fun b hb => ha.get b (by obtain ⟨o, hg, _⟩ := (I.cells c hc).isObj b hb; exact I.ok b _ hg) (by simp)) (I.goes (fun b hb => by cases hb) ha fun b hb => .inl hb) fun b hb => List.mem_append_left _ (List.mem_flatMap.2 ⟨c, hc, hb⟩)
theorem Iv.set (I : Iv h0 G S0 h σ t ms fl) {d : Nat} {v : PV} {u : Value} (hu : RepPV h (own σ ++ S0) v u) (hd : d < 4000) : Iv h0 G S0 h σ (t.set depth d u) ms ((d, v) :: fl) := { I with slots := I.slots.set hu hd }
theorem Iv.sub (I : Iv h0 G S0 h σ t ms fl) (fl' : VL) (hf : ∀ p ∈ fl', lkV fl p.1 = some p.2) : Iv h0 G S0 h σ t ms fl' := { I with slots := I.slots.sub fl' hf }
end Go.Fs
namespace Go.Fs
variable {P : Program} {orc : FuncId → List Value → Heap → Option (Value × Heap)} {rnd : Option Nat} {h h' h0 h1 h2 : Heap} {S S' S0 B G : List Nat} {σ σ' : Sto} {t t' : Tr} {ms : List Nat} {fl : VL} {ops : Array Oper} {n : Nat} {l : List Oper}
section
variable (P orc)
def VC (rnd : Option Nat) (c : Code) (n : Nat) (fl : VL) (σ : Sto) (Q : Ex → VL → Sto → Prop) : Prop :=
  ∀ (h0 : Heap) (G S0 : List Nat) (t : Tr) (h : Heap) (ms : List Nat), Iv h0 G S0 h σ t ms fl → EvC P orc rnd c ⟨t, n, ms⟩ h fun e fr h' => fr.n = n ∧ ∃ fl' σ', Iv h0 G S0 h' σ' fr.t fr.marks fl' ∧ Q e fl' σ'
def VO (ops : Array Oper) (n : Nat) (l : List Oper) (fl : VL) (σ : Sto) (K : VL → Sto → Prop) : Prop :=
  ∀ (h0 : Heap) (G S0 : List Nat) (t : Tr) (h : Heap) (ms : List Nat), Iv h0 G S0 h σ t ms fl → EvO P orc ops n l t h fun t' h' => ∃ fl' σ', Iv h0 G S0 h' σ' t' ms fl' ∧ K fl' σ'
def thenV (rnd : Option Nat) (n : Nat) (b : Code) (Q : Ex → VL → Sto → Prop) : Ex → VL → Sto → Prop
  | .normal, fl, σ => VC P orc rnd b n fl σ Q
  | .exit i, fl, σ => Q (.exit i) fl σ
  | .ret, fl, σ => Q .ret fl σ
end
def inBlockV (id : Nat) (Q : Ex → VL → Sto → Prop) : Ex → VL → Sto → Prop
  | .exit i, fl, σ => bif Nat.beq i id then Q .normal fl σ else Q (.exit i) fl σ
  | .normal, fl, σ => Q .normal fl σ
  | .ret, fl, σ => Q .ret fl σ
def subV (fl : VL) : VL → Prop
  | [] => True
  | (k, v) :: r => lkV fl k = some v ∧ subV fl r
theorem subV_all {fl : VL} : ∀ {fl' : VL}, subV fl fl' → ∀ p ∈ fl', lkV fl p.1 = some p.2
  | [], _, _, hp => by cases hp
  | (k, v) :: r, h, p, hp => by
    rcases List.mem_cons.1 hp with rfl | hp
    · exact h.1
    exact subV_all h.2 p hp
def loopV (I : Nat → VL → Sto → Prop) (k : Nat) (Q : Ex → VL → Sto → Prop) : Ex → VL → Sto → Prop
  | .normal, fl, σ => ∃ k' fl', k' < k ∧ subV fl fl' ∧ I k' fl' σ
  | .exit i, fl, σ => Q (.exit i) fl σ
  | .ret, fl, σ => Q .ret fl σ
variable {Q : Ex → VL → Sto → Prop} {K : VL → Sto → Prop}
theorem VC.seq {a b : Code} (hx : VC P orc rnd a n fl σ (thenV P orc rnd n b Q)) : VC P orc rnd (.seq a b) n fl σ Q := fun h0 G S0 t h ms I => by
  refine EvC.seq ((hx h0 G S0 t h ms I).mono fun e fr h' hq => ?_); obtain ⟨hn, fl', σ', I', q⟩ := hq
  cases e with
  | normal =>
    obtain ⟨t', n', ms'⟩ := fr; obtain rfl : n' = n := hn
    exact q h0 G S0 t' h' ms' I'
  | exit i => exact ⟨hn, fl', σ', I', q⟩
  | ret => exact ⟨hn, fl', σ', I', q⟩
theorem VC.block {id : Nat} {b : Code} (hx : VC P orc rnd b n fl σ (inBlockV id Q)) : VC P orc rnd (.block id b) n fl σ Q := fun h0 G S0 t h ms I => by
  refine EvC.block ((hx h0 G S0 t h ms I).mono fun e fr h' hq => ?_); obtain ⟨hn, fl', σ', I', q⟩ := hq
  cases e with
  | normal => exact ⟨hn, fl', σ', I', q⟩
  | ret => exact ⟨hn, fl', σ', I', q⟩
  | exit i =>
    simp only [inBlockV] at q; simp only [inBlock]; by_cases hi : i = id
    · rw [if_pos hi]; subst hi; rw [Nat.beq_refl] at q; exact ⟨hn, fl', σ', I', q⟩
    rw [if_neg hi]; rw [beq_no hi] at q; exact ⟨hn, fl', σ', I', q⟩
theorem VC.skip (hq : Q .normal fl σ) : VC P orc rnd .skip n fl σ Q := fun _ _ _ _ _ _ I => EvC.skip ⟨rfl, fl, σ, I, hq⟩
theorem VC.exit {i : Nat} (hq : Q (.exit i) fl σ) : VC P orc rnd (.exit i) n fl σ Q := fun _ _ _ _ _ _ I => EvC.exit ⟨rfl, fl, σ, I, hq⟩
theorem VC.ret (hq : Q .ret fl σ) : VC P orc rnd .ret n fl σ Q := fun _ _ _ _ _ _ I => EvC.ret ⟨rfl, fl, σ, I, hq⟩
theorem VC.cond {x : Operand} {a b : Code} {c : Bool} (hc : evV fl x = some (.v .bool c)) (hx : VC P orc rnd (if c then a else b) n fl σ Q) : VC P orc rnd (.cond x a b) n fl σ Q := fun h0 G S0 t h ms I =>
  EvC.cond (evV_ok I.slots hc : RepPV _ _ (.v .bool c) _).bool (hx h0 G S0 t h ms I)
theorem VC.condB {x : Operand} {a b : Code} {c : Bool} (hc : evV fl x = some (.v .bool c)) (ht : c = true → VC P orc rnd a n fl σ Q) (hf : c = false → VC P orc rnd b n fl σ Q) : VC P orc rnd (.cond x a b) n fl σ Q := by
  refine VC.cond hc ?_
  cases c with
  | true => exact ht rfl
  | false => exact hf rfl
theorem VC.condD {x : Operand} {a b : Code} {p : Prop} {inst : Decidable p} (hc : evV fl x = some (.v .bool (@decide p inst))) (ht : p → VC P orc rnd a n fl σ Q) (hf : ¬ p → VC P orc rnd b n fl σ Q) : VC P orc rnd (.cond x a b) n fl σ Q :=
  VC.condB hc (fun h => ht (of_decide_eq_true h)) fun h => hf (of_decide_eq_false h)
theorem VC.condT {x : Operand} {a b : Code} (hc : evV fl x = some (.v .bool true)) (hx : VC P orc rnd a n fl σ Q) : VC P orc rnd (.cond x a b) n fl σ Q := VC.cond hc hx
theorem VC.condF {x : Operand} {a b : Code} (hc : evV fl x = some (.v .bool false)) (hx : VC P orc rnd b n fl σ Q) : VC P orc rnd (.cond x a b) n fl σ Q := VC.cond hc hx
theorem VC.keep {c : Code} (fl' : VL) (hs : subV fl fl') (hx : VC P orc rnd c n fl' σ Q) : VC P orc rnd c n fl σ Q := fun h0 G S0 t h ms I => hx h0 G S0 t h ms (I.sub fl' (subV_all hs))
theorem VC.loop {c : Code} {I : Nat → VL → Sto → Prop} (hs : ∀ k fl σ, I k fl σ → VC P orc rnd c n fl σ (loopV I k Q)) : ∀ k fl σ, I k fl σ → VC P orc rnd (.loop c) n fl σ Q := by
  intro k
  induction k using Nat.strongRecOn with
  | ind k ih =>
    intro fl σ hI h0 G S0 t h ms Iv; refine EvC.loop ((hs k fl σ hI h0 G S0 t h ms Iv).mono fun e fr h' hq => ?_); obtain ⟨hn, fl', σ', I', q⟩ := hq
    cases e with
    | normal =>
      obtain ⟨t', n', ms'⟩ := fr; obtain rfl : n' = n := hn; obtain ⟨k', fl2, hk, hsub, hI2⟩ := q
      exact ih k' hk fl2 σ' hI2 h0 G S0 t' h' ms' (I'.sub fl2 (subV_all hsub))
    | exit i => exact ⟨hn, fl', σ', I', q⟩
    | ret => exact ⟨hn, fl', σ', I', q⟩
theorem VC.text {id : Nat} {ops : Array Oper} (hx : VO P orc ops n ops.toList fl σ fun fl' σ' => Q .normal fl' σ') : VC P orc rnd (.region id ops false) n fl σ Q := fun h0 G S0 t h ms I =>
  EvC.text (by
    obtain ⟨m, t', h', h1, fl', σ', h2, h3⟩ := hx h0 G S0 t h ms I
    exact ⟨m, t', h', h1, rfl, fl', σ', h2, h3⟩)
theorem VO.nil (hk : K fl σ) : VO P orc ops n [] fl σ K := fun _ _ _ _ _ _ I => EvO.nil ⟨fl, σ, I, hk⟩
theorem own_perm (hp : σ.Perm σ') : (own σ).Perm (own σ') := hp.flatMap_right _
theorem Iv.perm (I : Iv h0 G S0 h σ t ms fl) (hp : σ.Perm σ') : Iv h0 G S0 h σ' t ms fl := by
  refine I.step (B := []) (fun b hb => by cases hb) (Aft.refl h []) (fun b hb => .inl ((own_perm hp).mem_iff.2 hb)) ((own_perm hp).nodup_iff.1 I.apart) fun c hc => ?_
  have hN : Goes h (own σ ++ S0) h (own σ' ++ S0) := Goes.less fun b hb => by
    rcases List.mem_append.1 hb with hb | hb
    · exact List.mem_append_left _ ((own_perm hp).mem_iff.2 hb)
    exact List.mem_append_right _ hb
  exact (I.cells c (hp.mem_iff.2 hc)).keep (fun _ _ => rfl) hN fun b hb => List.mem_append_left _ (List.mem_flatMap.2 ⟨c, hc, hb⟩)
theorem VO.perm (hp : σ.Perm σ') (hx : VO P orc ops n l fl σ' K) : VO P orc ops n l fl σ K := fun h0 G S0 t h ms I => hx h0 G S0 t h ms (I.perm hp)
end Go.Fs
namespace Go.Fs
variable {P : Program} {orc : FuncId → List Value → Heap → Option (Value × Heap)} {rnd : Option Nat} {h h' h0 h1 h2 : Heap} {S S' S0 B G : List Nat} {σ σ' : Sto} {t t' : Tr} {ms : List Nat} {fl : VL} {ops : Array Oper} {n : Nat} {l : List Oper} {K : VL → Sto → Prop} {Q : Ex → VL → Sto → Prop}
  {d : Tmp} {ty : TypeId} {pos : String} {after : Array Edge} {op : Op} {v : PV} {g : Option (Nat × Bool)}
structure Lc (S0 : List Nat) (h : Heap) (σ : Sto) (t : Tr) (fl : VL) : Prop where
  ok : HOk h
  s0 : ∀ b ∈ S0, b < h.next
  cells : ∀ c ∈ σ, CellR h (own σ ++ S0) c.1 c.2
  sep : ∀ b ∈ own σ, b ∉ S0
  apart : (own σ).Nodup
  slots : Slots h (own σ ++ S0) t fl
theorem Iv.lc (I : Iv h0 G S0 h σ t ms fl) : Lc S0 h σ t fl := ⟨I.ok, fun b hb => Nat.lt_of_lt_of_le (I.s0 b hb) I.aft.next, I.cells, fun b hb => (I.new b hb).2, I.apart, I.slots⟩
theorem Lc.objs (L : Lc S0 h σ t fl) (hg : ∀ b, h'.get b = h.get b) (hn : h'.next = h.next) : Lc S0 h' σ t fl :=
  ⟨fun b o hb => by rw [hn]; exact L.ok b o (by rw [← hg]; exact hb), fun b hb => by rw [hn]; exact L.s0 b hb, fun c hc => (L.cells c hc).keep (fun b _ => hg b) (Goes.objs hg) fun b hb => List.mem_append_left _ (List.mem_flatMap.2 ⟨c, hc, hb⟩), L.sep, L.apart, L.slots.nx (Goes.objs hg)⟩
theorem Lc.lt (L : Lc S0 h σ t fl) : ∀ b ∈ own σ ++ S0, b < h.next := fun b hb => by
  rcases List.mem_append.1 hb with hb | hb
  · exact own_lt L.cells L.ok b hb
  exact L.s0 b hb
theorem GT.less (hs : GT h S) (hb : ∀ b, b ∈ S' → b ∈ S) : GT h S' := hs.nx (Goes.less hb)
theorem Lc.sok (L : Lc S0 h σ t fl) : SOk h S0 := ⟨L.s0, L.slots.1.less fun b hb => List.mem_append_right _ hb⟩
theorem Lc.slt (L : Lc S0 h σ t fl) : SLt h S0 := L.slots.1.slt L.ok L.s0
theorem Lc.sokA (L : Lc S0 h σ t fl) : SOk h (own σ ++ S0) := ⟨L.lt, L.slots.1⟩
def Sees (h : Heap) (S : List Nat) (t : Tr) (fl : VL) (op : Op) : Prop := ∀ x ∈ op.operands.toList, ∀ pv, evV fl x = some pv → RepPV h S pv (evalO t x)
theorem Slots.sees (hs : Slots h S t fl) : Sees h S t fl op := fun _ _ _ hx => evV_ok hs hx
def CalmV (P : Program) (fl : VL) (σ : Sto) (op : Op) (v : PV) : Prop := calm op = true ∧ ∀ (h : Heap) (S : List Nat) (t : Tr), Sees h S t fl op → (∀ c ∈ σ, CellR h S c.1 c.2) →
  ∃ u, RepPV h S v u ∧ ∀ (d : Option Tmp) (ty : TypeId) (pos : String) (after : Array Edge) (g : Option (Nat × Bool)) (H : Heap), stepO P ⟨d, op, ty, pos, after, g⟩ (evalO t) H = some (u, H)
def ReadV (P : Program) (fl : VL) (σ : Sto) (op : Op) (v : PV) : Prop := calm op = false ∧ ∀ (h : Heap) (S : List Nat) (t : Tr), Sees h S t fl op → (∀ c ∈ σ, CellR h S c.1 c.2) →
  ∃ u, RepPV h S v u ∧ ∀ H : Heap, (∀ b o, h.get b = some o → H.get b = some o) → ∀ (d : Option Tmp) (ty : TypeId) (pos : String) (after : Array Edge) (g : Option (Nat × Bool)), stepO P ⟨d, op, ty, pos, after, g⟩ (evalO t) H = some (u, H)
structure Made (S0 : List Nat) (h h' : Heap) (σ σ' : Sto) : Prop where
  aft : Aft h h' (own σ)
  new : ∀ b ∈ own σ', b ∈ own σ ∨ h.next ≤ b
  apart : (own σ').Nodup
  cells : ∀ c ∈ σ', CellR h' (own σ' ++ S0) c.1 c.2
theorem Iv.made (I : Iv h0 G S0 h σ t ms fl) (m : Made S0 h h' σ σ') : Iv h0 G S0 h' σ' t ms fl := I.step (fun _ hb => hb) m.aft m.new m.apart m.cells
def MakeV (P : Program) (fl : VL) (σ : Sto) (op : Op) (T : PV → Sto → Prop) : Prop := calm op = false ∧ ∀ (S0 : List Nat) (h : Heap) (t : Tr), Lc S0 h σ t fl →
  ∃ u h' v σ', T v σ' ∧ Made S0 h h' σ σ' ∧ RepPV h' (own σ' ++ S0) v u ∧ ∀ (d : Option Tmp) (ty : TypeId) (pos : String) (after : Array Edge) (g : Option (Nat × Bool)), stepO P ⟨d, op, ty, pos, after, g⟩ (evalO t) h = some (u, h')
def isUndef : Value → Bool
  | .tuple ⟨[]⟩ => true
  | _ => false
def wantV (ops : Array Oper) (fl : VL) : Option (Nat × Bool) → Option Bool
  | none => some true
  | some (j, w) => match (ops[j]?).bind (·.dst) with
    | none => some false
    | some d => match lkV fl d with
      | some (.v .bool b) => some (b == w)
      | some (.raw u) => bif isUndef u then some false else none
      | _ => none
theorem want_ok (hs : Slots h S t fl) {o : Oper} {r : Bool} (hw : wantV ops fl o.guard = some r) : fsWanted ops t o = some r := by
  unfold wantV at hw; unfold fsWanted; split at hw
  · rename_i hg; rw [hg]; exact hw
  rename_i j w hg; rw [hg]; split at hw
  · rename_i hd; simp only [hd]; exact hw
  rename_i d hd; simp only [hd]; split at hw
  · rename_i b hb; have := (hs d _ hb : RepPV h S (.v .bool b) _).bool; rw [this]; exact hw
  · rename_i u hb; have h1 : t.get d = u := hs d _ hb; rw [h1]
    cases hu : isUndef u with
    | false => rw [hu] at hw; cases hw
    | true =>
      rw [hu] at hw; obtain rfl := Option.some.inj hw; unfold isUndef at hu; split at hu
      · rfl
      cases hu
  cases hw
theorem fits (hn : (Nat.blt d n && Nat.ble n 4000) = true) : Nat.blt d n = true ∧ d < 4000 := by
  obtain ⟨h1, h2⟩ := band hn; exact ⟨h1, Nat.lt_of_lt_of_le (nblt h1) (nble h2)⟩
theorem put_fits (hn : Nat.blt d n = true) (t : Tr) (u : Value) : put n t (some d) u = some (t.set depth d u) := by rw [put_set, hn]; rfl
theorem VO.c (hs : CalmV P fl σ op v) (hk : VO P orc ops n l ((d, v) :: fl) σ K) (hw : wantV ops fl g = some true := by rfl) (hn : (Nat.blt d n && Nat.ble n 4000) = true := by rfl) : VO P orc ops n (⟨some d, op, ty, pos, after, g⟩ :: l) fl σ K := fun h0 G S0 t h ms I => by
  obtain ⟨u, h1, h2⟩ := hs.2 h _ t I.slots.sees I.cells; obtain ⟨n1, n2⟩ := fits hn; exact EvO.op (want_ok I.slots hw) (h2 _ _ _ _ _ h) (put_fits n1 t u) (hk h0 G S0 _ h ms (I.set h1 n2))
theorem VO.r (hs : ReadV P fl σ op v) (hk : VO P orc ops n l ((d, v) :: fl) σ K) (hw : wantV ops fl g = some true := by rfl) (hn : (Nat.blt d n && Nat.ble n 4000) = true := by rfl) : VO P orc ops n (⟨some d, op, ty, pos, after, g⟩ :: l) fl σ K := fun h0 G S0 t h ms I => by
  obtain ⟨u, h1, h2⟩ := hs.2 h _ t I.slots.sees I.cells; obtain ⟨n1, n2⟩ := fits hn; exact EvO.op (want_ok I.slots hw) (h2 h (fun _ _ x => x) _ _ _ _ _) (put_fits n1 t u) (hk h0 G S0 _ h ms (I.set h1 n2))
theorem VO.mk {T : PV → Sto → Prop} (hs : MakeV P fl σ op T) (hk : ∀ v σ', T v σ' → VO P orc ops n l ((d, v) :: fl) σ' K) (hw : wantV ops fl g = some true := by rfl) (hn : (Nat.blt d n && Nat.ble n 4000) = true := by rfl) : VO P orc ops n (⟨some d, op, ty, pos, after, g⟩ :: l) fl σ K := fun h0 G S0 t h ms I => by
  obtain ⟨u, h', v, σ', h1, h2, h3, h4⟩ := hs.2 S0 h t I.lc; obtain ⟨n1, n2⟩ := fits hn; exact EvO.op (want_ok I.slots hw) (h4 _ _ _ _ _) (put_fits n1 t u) (hk v σ' h1 h0 G S0 _ h' ms ((I.made h2).set h3 n2))
theorem VO.mk0 {T : PV → Sto → Prop} (hs : MakeV P fl σ op T) (hk : ∀ v σ', T v σ' → VO P orc ops n l fl σ' K) (hw : wantV ops fl g = some true := by rfl) : VO P orc ops n (⟨none, op, ty, pos, after, g⟩ :: l) fl σ K := fun h0 G S0 t h ms I => by
  obtain ⟨u, h', v, σ', h1, h2, h3, h4⟩ := hs.2 S0 h t I.lc; exact EvO.op (want_ok I.slots hw) (h4 _ _ _ _ _) rfl (hk v σ' h1 h0 G S0 _ h' ms (I.made h2))
theorem VO.skip (hk : VO P orc ops n l ((d, .raw undef) :: fl) σ K) (hw : wantV ops fl g = some false := by rfl) (hn : (Nat.blt d n && Nat.ble n 4000) = true := by rfl) : VO P orc ops n (⟨some d, op, ty, pos, after, g⟩ :: l) fl σ K := fun h0 G S0 t h ms I => by
  obtain ⟨n1, n2⟩ := fits hn; exact EvO.skip (want_ok I.slots hw) (put_fits n1 t undef) (hk h0 G S0 _ h ms (I.set (show RepPV _ _ (.raw undef) undef from rfl) n2))
theorem VO.splitB {x : Tmp} {r : Bool} (hc : lkV fl x = some (.v .bool r)) (ht : r = true → VO P orc ops n l ((x, .v .bool true) :: fl) σ K) (hf : r = false → VO P orc ops n l ((x, .v .bool false) :: fl) σ K) : VO P orc ops n l fl σ K := fun h0 G S0 t h ms I => by
  have hx : Iv h0 G S0 h σ t ms ((x, .v .bool r) :: fl) := { I with slots := I.slots.cons (I.slots x _ hc) }
  cases r with
  | true => exact ht rfl h0 G S0 t h ms hx
  | false => exact hf rfl h0 G S0 t h ms hx
theorem VO.splitD {x : Tmp} {p : Prop} {inst : Decidable p} (hc : lkV fl x = some (.v .bool (@decide p inst))) (ht : p → VO P orc ops n l ((x, .v .bool true) :: fl) σ K) (hf : ¬ p → VO P orc ops n l ((x, .v .bool false) :: fl) σ K) : VO P orc ops n l fl σ K :=
  VO.splitB hc (fun h => ht (of_decide_eq_true h)) fun h => hf (of_decide_eq_false h)
theorem Iv.cell0 (I : Iv h0 G S0 h σ t ms fl) (e : TypeId) (τ : Ty) : Iv h0 G S0 h ((.slice none 0 0, .row e τ []) :: σ) t ms fl := by
  have ho : own ((.slice none 0 0, .row e τ []) :: σ) = own σ := rfl; refine I.step (B := []) (fun b hb => by cases hb) (Aft.refl h []) (fun b hb => .inl hb) I.apart fun c hc => ?_; rcases List.mem_cons.1 hc with rfl | hc
  · exact .inl ⟨rfl, rfl⟩
  exact I.cells c hc
theorem VC.cell0 {c : Code} (e : TypeId) (τ : Ty) (hx : VC P orc rnd c n fl ((.slice none 0 0, .row e τ []) :: σ) Q) : VC P orc rnd c n fl σ Q := fun h0 G S0 t h ms I => hx h0 G S0 t h ms (I.cell0 e τ)
theorem Iv.forget {c : Value × Cell} (I : Iv h0 G S0 h (c :: σ) t ms fl) : Iv h0 G S0 h σ t ms fl := by
  have ho : own (c :: σ) = blk c.1 ++ own σ := rfl
  have hsub : ∀ b ∈ own σ, b ∈ own (c :: σ) := fun b hb => by rw [ho]; exact List.mem_append_right _ hb
  refine I.step (B := []) (fun b hb => by cases hb) (Aft.refl h []) (fun b hb => .inl (hsub b hb)) ?_ fun d hd => ?_
  · have := I.apart; rw [ho] at this; exact (List.nodup_append.1 this).2.1
  refine (I.cells d (List.mem_cons_of_mem _ hd)).keep (fun _ _ => rfl) (Goes.less fun b hb => ?_) fun b hb => List.mem_append_left _ (List.mem_flatMap.2 ⟨d, hd, hb⟩); rcases List.mem_append.1 hb with hb | hb
  · exact List.mem_append_left _ (hsub b hb)
  exact List.mem_append_right _ hb
theorem VO.forget {c : Value × Cell} (hx : VO P orc ops n l fl σ K) : VO P orc ops n l fl (c :: σ) K := fun h0 G S0 t h ms I => hx h0 G S0 t h ms I.forget
def cellsPV : (τ : Ty) → τ.den → List PV
  | .pair a b, x => cellsPV a x.1 ++ cellsPV b x.2
  | .unit, _ => []
  | .int k, n => [.v (.int k) n]
  | .bool, b => [.v .bool b]
  | .str, s => [.v .str s]
  | .flt k, b => [.v (.flt k) b]
  | .sl e, xs => [.v (.sl e) xs]
  | .mp a b, xs => [.v (.mp a b) xs]
  | .fn, f => [.v .fn f]
  | .hnd, f => [.v .hnd f]
theorem RepL.split : ∀ {l l' : List PV} {us : List Value}, RepL h S (l ++ l') us → ∃ a b, us = a ++ b ∧ RepL h S l a ∧ RepL h S l' b
  | [], l', us, hx => ⟨[], us, rfl, rfl, hx⟩
  | p :: ps, l', us, ⟨u, r, h1, h2, h3⟩ => by
    obtain ⟨a, b, rfl, h5, h6⟩ := RepL.split h3; exact ⟨u :: a, b, by rw [h1]; rfl, ⟨u, a, rfl, h2, h5⟩, h6⟩
theorem repC_one {τ : Ty} {x : τ.den} {us : List Value} (ha : τ.agg = false) (hx : RepL h S [.v τ x] us) : RepC h S τ us x := by
  obtain ⟨u, r, rfl, h2, rfl⟩ := hx; exact RepV.last ha h2
theorem repC_cells : ∀ {τ : Ty} {x : τ.den} {us : List Value}, RepL h S (cellsPV τ x) us → RepC h S τ us x
  | .pair a b, x, us, hx => by
    obtain ⟨u1, u2, rfl, h1, h2⟩ := RepL.split hx; have e1 := repC_cells h1; have e2 := repC_cells h2; have hl := e1.len
    exact ⟨by rw [List.take_left' hl]; exact e1, by rw [List.drop_left' hl]; exact e2⟩
  | .unit, x, us, hx => hx
  | .int k, x, us, hx => repC_one rfl hx
  | .bool, x, us, hx => repC_one rfl hx
  | .str, x, us, hx => repC_one rfl hx
  | .flt k, x, us, hx => repC_one rfl hx
  | .sl e, x, us, hx => repC_one rfl hx
  | .mp a b, x, us, hx => repC_one rfl hx
  | .fn, x, us, hx => repC_one rfl hx
  | .hnd, x, us, hx => repC_one rfl hx
theorem cells_repC : ∀ {τ : Ty} {x : τ.den} {us : List Value}, RepC h S τ us x → RepL h S (cellsPV τ x) us
  | .pair a b, x, us, hx => by
    have e1 := cells_repC hx.1; have e2 := cells_repC hx.2; have := e1.append e2
    rwa [List.take_append_drop] at this
  | .unit, x, us, hx => hx
  | .int k, x, us, hx => let ⟨u, h1, h2⟩ := hx.one rfl; ⟨u, [], h1, h2, rfl⟩
  | .bool, x, us, hx => let ⟨u, h1, h2⟩ := hx.one rfl; ⟨u, [], h1, h2, rfl⟩
  | .str, x, us, hx => let ⟨u, h1, h2⟩ := hx.one rfl; ⟨u, [], h1, h2, rfl⟩
  | .flt k, x, us, hx => let ⟨u, h1, h2⟩ := hx.one rfl; ⟨u, [], h1, h2, rfl⟩
  | .sl e, x, us, hx => let ⟨u, h1, h2⟩ := hx.one rfl; ⟨u, [], h1, h2, rfl⟩
  | .mp a b, x, us, hx => let ⟨u, h1, h2⟩ := hx.one rfl; ⟨u, [], h1, h2, rfl⟩
  | .fn, x, us, hx => let ⟨u, h1, h2⟩ := hx.one rfl; ⟨u, [], h1, h2, rfl⟩
  | .hnd, x, us, hx => let ⟨u, h1, h2⟩ := hx.one rfl; ⟨u, [], h1, h2, rfl⟩
mutual
/-- What is told of a slot, with own cells told asl data. -/
inductive Co (σ : Sto) : PV → PV → Prop where
  | same {p : PV} : Co σ p p
  | row {w : Value} {e : TypeId} {τ : Ty} {xs : List τ.den} (hm : (w, Cell.row e τ xs) ∈ σ) : Co σ (.raw w) (.v (.sl τ) xs)
  | nil {τ : Ty} : Co σ (.raw (.slice none 0 0)) (.v (.sl τ) [])
  | cap {w : Value} {e : TypeId} {n : Nat} {τ : Ty} {xs : List τ.den} (hm : (w, Cell.cap e n τ xs) ∈ σ) : Co σ (.raw w) (.v (.sl τ) xs)
  | nilm {κ ν : Ty} : Co σ (.raw (.map none)) (.v (.mp κ ν) [])
  | mp {w : Value} {κ ν : Ty} {kvs : List (κ.den × ν.den)} (hm : (w, Cell.mp κ ν kvs) ∈ σ) : Co σ (.raw w) (.v (.mp κ ν) kvs)
  | var {p : Value} {cs : List PV} {τ : Ty} {x : τ.den} (hm : (p, Cell.var cs) ∈ σ) (hc : CoL σ cs (cellsPV τ x)) : Co σ (.raw p) (.p τ x)
  | clo {f : FuncId} {a a' c c' : List PV} (ha : CoL σ a a') (hc : CoL σ c c') : Co σ (.clo f a c) (.clo f a' c')
  | tup {l l' : List PV} (hl : CoL σ l l') : Co σ (.tup l) (.tup l')
  | sem {p p' : PV} (hs : ∀ (h : Heap) (S0 : List Nat) (u : Value), (∀ c ∈ σ, CellR h (own σ ++ S0) c.1 c.2) → (∀ b ∈ own σ, b ∉ S0) → RepPV h (own σ ++ S0) p u → RepPV h S0 p' u) : Co σ p p'
  | cel {w : Value} {e : TypeId} {n : Nat} {cs : List PV} {τ : Ty} {xs : List τ.den} (hm : (w, Cell.cel e n cs) ∈ σ) (hn : n = xs.length) (hc : CoL σ cs (xs.flatMap (cellsPV τ))) : Co σ (.raw w) (.v (.sl τ) xs)
inductive CoL (σ : Sto) : List PV → List PV → Prop where
  | nil : CoL σ [] []
  | cons {p p' : PV} {l l' : List PV} (hp : Co σ p p') (hl : CoL σ l l') : CoL σ (p :: l) (p' :: l')
end
theorem CoL.refl : ∀ {l : List PV}, CoL σ l l
  | [] => .nil
  | _ :: _ => .cons .same CoL.refl
theorem shut_row {w : Value} {e : TypeId} {τ : Ty} {xs : List τ.den} (hc : CellR h (S ++ S0) w (.row e τ xs)) (hs : ∀ b ∈ blk w, b ∉ S0) : SlV h S0 τ w xs := by
  rcases hc with ⟨rfl, rfl⟩ | ⟨b, rs, m, rfl, h2, h3, h4⟩
  · exact .inl ⟨rfl, rfl⟩
  exact (h4.nx (Goes.less fun c hc => List.mem_append_right _ hc)).slv h3 (hs b (by simp [blk]))
theorem shut_cap {w : Value} {e : TypeId} {n : Nat} {τ : Ty} {xs : List τ.den} (hc : CellR h (S ++ S0) w (.cap e n τ xs)) (hs : ∀ b ∈ blk w, b ∉ S0) : SlV h S0 τ w xs := by
  obtain ⟨b, rs, m, rfl, h2, h4, h5, h6, h7⟩ := hc; have hb : b ∉ S0 := hs b (by simp [blk]); have hle : xs.length * τ.size ≤ n * τ.size := Nat.mul_le_mul_right _ h6; refine .inr ⟨b, 0, 0, rfl, .inr ⟨hb, e, rs, true, m, h4, by omega, fun i hi => ?_⟩⟩; have h8 := (h7.nx (Goes.less (S' := S0) fun c hc => List.mem_append_right _ hc)).2 i hi; have h9 : (i + 1) * τ.size ≤ xs.length * τ.size := Nat.mul_le_mul_right _ hi; rw [Nat.add_mul, Nat.one_mul] at h9; rw [List.drop_take, List.take_take, Nat.min_eq_left (by omega)] at h8; rw [Nat.zero_add]; exact h8
theorem shut_mp {w : Value} {κ ν : Ty} {kvs : List (κ.den × ν.den)} (hc : CellR h (S ++ S0) w (.mp κ ν kvs)) (hs : ∀ b ∈ blk w, b ∉ S0) : MpV h S0 κ ν w kvs := by
  obtain ⟨b, es, c, rfl, h2, h3, h4, h5⟩ := hc; have hN : Goes h (S ++ S0) h S0 := Goes.less fun c hc => List.mem_append_right _ hc; exact .inr ⟨b, es, c, rfl, hs b (by simp [blk]), h3, h4, fun i hi hj => ⟨(h5 i hi hj).1.nx hN, (h5 i hi hj).2.nx hN⟩⟩
theorem elems_cells {τ : Ty} : ∀ {xs : List τ.den} {rs : List Value}, RepL h S (xs.flatMap (cellsPV τ)) rs → Elems h S τ rs xs
  | [], rs, hx => by
    obtain rfl : rs = [] := hx
    exact ⟨by simp, fun i hi => absurd hi (by simp)⟩
  | x :: xs, rs, hx => by
    rw [List.flatMap_cons] at hx; obtain ⟨a, b, rfl, h1, h2⟩ := RepL.split hx; have e1 := repC_cells h1; have e2 := elems_cells (xs := xs) h2; have hl := e1.len; refine ⟨by rw [List.length_append, hl, e2.1, List.length_cons, Nat.add_mul, Nat.one_mul, Nat.add_comm], fun i hi => ?_⟩
    cases i with
    | zero =>
      rw [Nat.zero_mul, List.drop_zero, List.take_left' hl]
      exact e1
    | succ i =>
      have h3 := e2.2 i (by simpa using hi); rw [show (i + 1) * τ.size = a.length + i * τ.size by rw [hl, Nat.add_mul, Nat.one_mul, Nat.add_comm], List.drop_append, List.drop_eq_nil_of_le (by omega), List.nil_append, Nat.add_sub_cancel_left]; exact h3
mutual
theorem Co.ok (hc : ∀ c ∈ σ, CellR h (own σ ++ S0) c.1 c.2) (hs : ∀ b ∈ own σ, b ∉ S0) : ∀ {p p' : PV} {u : Value}, Co σ p p' → RepPV h (own σ ++ S0) p u → RepPV h S0 p' u
  | _, _, u, .same, hu => hu.nx (Goes.less fun b hb => List.mem_append_right _ hb)
  | _, _, u, .row hm, hu => by
    obtain rfl := hu
    exact (shut_row (hc _ hm) fun b hb => hs b (List.mem_flatMap.2 ⟨_, hm, hb⟩)).rep
  | _, _, u, .nil, hu => by obtain rfl := hu; exact SlV.nil.rep
  | _, _, u, .nilm, hu => by obtain rfl := hu; exact MpV.rep (.inl ⟨rfl, rfl⟩)
  | _, _, u, .cap hm, hu => by
    obtain rfl := hu
    exact (shut_cap (hc _ hm) fun b hb => hs b (List.mem_flatMap.2 ⟨_, hm, hb⟩)).rep
  | _, _, u, .mp hm, hu => by
    obtain rfl := hu
    exact (shut_mp (hc _ hm) fun b hb => hs b (List.mem_flatMap.2 ⟨_, hm, hb⟩)).rep
  | _, _, u, .var hm hl, hu => by
    obtain rfl := hu; obtain ⟨b, e, vs, h1, h2, h3, h4, h5⟩ := hc _ hm; have hr := repC_cells (CoL.ok hc hs hl h4); have hlen := hr.len; refine ⟨b, 0, e, vs, true, false, h1, hs b (List.mem_flatMap.2 ⟨_, hm, by rw [show u = _ from h1]; simp [blk]⟩), h3, by omega, ?_⟩; rw [List.drop_zero, List.take_of_length_le (by omega)]
    exact hr
  | _, _, u, .clo ha hcc, ⟨va, vc, h1, h2, h3⟩ => ⟨va, vc, h1, CoL.ok hc hs ha h2, CoL.ok hc hs hcc h3⟩
  | _, _, u, .tup hl, ⟨vs, h1, h2⟩ => ⟨vs, h1, CoL.ok hc hs hl h2⟩
  | _, _, u, .sem hq, hu => hq _ _ _ hc hs hu
  | _, _, u, .cel hm hn hl, hu => by
    obtain rfl := hu; have hbs := fun b hb => hs b (List.mem_flatMap.2 ⟨_, hm, hb⟩); rcases hc _ hm with ⟨h1, h2, h3⟩ | ⟨b, rs, m, h1, h2, h3, h4, h5⟩
    · have hx := List.length_eq_zero_iff.1 (hn.symm.trans h2); subst hx; have h1' : u = _ := h1; rw [h1']; exact SlV.nil.rep
    have hr := elems_cells (CoL.ok hc hs hl h4); have h1' : u = _ := h1; subst h1'; rw [hn]; exact (hr.slv h3 (hbs b (by simp [blk]))).rep
theorem CoL.ok (hc : ∀ c ∈ σ, CellR h (own σ ++ S0) c.1 c.2) (hs : ∀ b ∈ own σ, b ∉ S0) : ∀ {l l' : List PV} {us : List Value}, CoL σ l l' → RepL h (own σ ++ S0) l us → RepL h S0 l' us
  | _, _, us, .nil, hu => hu
  | _, _, us, .cons hp hl, ⟨u, r, h1, h2, h3⟩ => ⟨u, r, h1, Co.ok hc hs hp h2, CoL.ok hc hs hl h3⟩
end
inductive Shut (fl : VL) (c : Value × Cell) : VL → Prop where
  | nil : Shut fl c []
  | cons {k : Nat} {p p' : PV} {r : VL} (hk : lkV fl k = some p) (hc : Co [c] p p') (hr : Shut fl c r) : Shut fl c ((k, p') :: r)
theorem Iv.shut {c : Value × Cell} {nw : VL} (I : Iv h0 G S0 h (c :: σ) t ms fl) (hs : Shut fl c nw) : Iv h0 G S0 h σ t ms (nw ++ fl) := by
  have I' := I.forget; have ho : own (c :: σ) = blk c.1 ++ own σ := rfl
  have ho1 : own [c] = blk c.1 := by show blk c.1 ++ [] = _; rw [List.append_nil]
  have hsl : Slots h (own σ ++ S0) t (nw ++ fl) := by
    clear I'
    induction hs with
    | nil => exact I.forget.slots
    | cons hk hc hr ih =>
      refine ih.cons (Co.ok (σ := [c]) (S0 := own σ ++ S0) (fun d hd => ?_) (fun b hb => ?_) hc ?_)
      · obtain rfl := List.mem_singleton.1 hd; have := I.cells d List.mem_cons_self; rw [ho1, ← List.append_assoc, ← ho]; exact this
      · rw [ho1] at hb; have h1 := I.apart; rw [ho] at h1; intro hm; rcases List.mem_append.1 hm with hm | hm
        · exact (List.nodup_append.1 h1).2.2 b hb b hm rfl
        exact (I.new b (by rw [ho]; exact List.mem_append_left _ hb)).2 hm
      rw [ho1, ← List.append_assoc, ← ho]; exact I.slots _ _ hk
  exact { I' with slots := hsl }
theorem VO.shut {c : Value × Cell} (nw : VL) (hs : Shut fl c nw) (hx : VO P orc ops n l (nw ++ fl) σ K) : VO P orc ops n l fl (c :: σ) K := fun h0 G S0 t h ms I => hx h0 G S0 t h ms (I.shut hs)
end Go.Fs
namespace Go.Fs
variable {P : Program} {orc : FuncId → List Value → Heap → Option (Value × Heap)} {rnd : Option Nat} {h h' h0 h1 h2 : Heap} {S S' S0 B G : List Nat} {σ σ' : Sto} {t t' : Tr} {ms : List Nat} {fl : VL} {ops : Array Oper} {n : Nat} {l : List Oper} {K : VL → Sto → Prop} {Q : Ex → VL → Sto → Prop}
  {d : Tmp} {ty : TypeId} {pos : String} {after : Array Edge} {op : Op} {v : PV} {g : Option (Nat × Bool)}
section
variable (P orc)
def VF (f : FuncId) (args : List PV) (r : PV) : Prop := ∀ (h : Heap) (S : List Nat) (us : List Value), HOk h → SOk h S → RepL h S args us → EvF P orc f us h fun u h' => Aft h h' [] ∧ RepPV h' S r u ∧ (r.flat = true → h' = h)
def VCall (F : PV) (args : List PV) (r : PV) : Prop := ∃ f a c, F = .clo f a c ∧ VF P orc f (a ++ args ++ c) r
end
theorem VF.call {f : FuncId} {args : List PV} {r : PV} (hf : VF P orc f args r) : VCall P orc (.clo f [] []) args r := ⟨f, [], [], rfl, by simpa using hf⟩
theorem VF.clo {f : FuncId} {a args c : List PV} {r : PV} (hf : VF P orc f (a ++ (args ++ c)) r) : VCall P orc (.clo f a c) args r := ⟨f, a, c, rfl, by rw [List.append_assoc]; exact hf⟩
theorem VCall.ev {F : PV} {args : List PV} {r : PV} (hc : VCall P orc F args r) {u : Value} {us : List Value} (hok : HOk h) (hS : SOk h S) (hF : RepPV h S F u) (ha : RepL h S args us) :
    ∃ f a c, u = .func (.func f) a c ∧ EvF P orc f (a.toList ++ us ++ c.toList) h fun u h' => Aft h h' [] ∧ RepPV h' S r u ∧ (r.flat = true → h' = h) := by
  obtain ⟨f, a, c, rfl, hv⟩ := hc; obtain ⟨va, vc, rfl, h1, h2⟩ := hF; exact ⟨f, va.toArray, vc.toArray, rfl, hv h S _ hok hS ((h1.append ha).append h2)⟩
theorem VO.call {f : Operand} {args : Array Operand} {ats : Array TypeId} {F r : PV} {asl : List PV} (hf : evV fl f = some F) (ha : evVs fl args.toList = some asl) (hc : VCall P orc F asl r) (hk : VO P orc ops n l ((d, r) :: fl) σ K)
    (hw : wantV ops fl g = some true := by rfl) (hn : (Nat.blt d n && Nat.ble n 4000) = true := by rfl) : VO P orc ops n (⟨some d, .call { callee := .value f, args := args, argTypes := ats }, ty, pos, after, g⟩ :: l) fl σ K := fun h0 G S0 t h ms I => by
  obtain ⟨n1, n2⟩ := fits hn; obtain ⟨fid, a, c, h1, h2⟩ := hc.ev I.ok (Lc.sokA I.lc) (evV_ok I.slots hf) (evVs_ok I.slots ha); refine EvO.call (want_ok I.slots hw) rfl rfl h1 (h2.mono fun u h' hq => ?_); obtain ⟨q1, q2, _⟩ := hq; exact ⟨_, put_fits n1 t u, hk h0 G S0 _ h' ms ((I.calm q1).set q2 n2)⟩
theorem VO.callC {f : Operand} {args : Array Operand} {ats : Array TypeId} {F F' r : PV} {asl as' : List PV} (hf : evV fl f = some F) (ha : evVs fl args.toList = some asl) (cF : Co σ F F') (ca : CoL σ asl as') (hr : r.flat = true) (hc : VCall P orc F' as' r) (hk : VO P orc ops n l ((d, r) :: fl) σ K)
    (hw : wantV ops fl g = some true := by rfl) (hn : (Nat.blt d n && Nat.ble n 4000) = true := by rfl) : VO P orc ops n (⟨some d, .call { callee := .value f, args := args, argTypes := ats }, ty, pos, after, g⟩ :: l) fl σ K := fun h0 G S0 t h ms I => by
  obtain ⟨n1, n2⟩ := fits hn; have L := I.lc; obtain ⟨fid, a, c, h1, h2⟩ := hc.ev I.ok L.sok (cF.ok L.cells L.sep (evV_ok I.slots hf)) (ca.ok L.cells L.sep (evVs_ok I.slots ha)); refine EvO.call (want_ok I.slots hw) rfl rfl h1 (h2.mono fun u h' hq => ?_); obtain ⟨_, q2, q3⟩ := hq; obtain rfl := q3 hr; exact ⟨_, put_fits n1 t u, hk h0 G S0 _ h' ms (I.set ((q2.flat hr).2 _ _) n2)⟩
def argVL : Nat → List PV → VL
  | _, [] => []
  | i, v :: r => (i, v) :: argVL (i + 1) r
theorem slots_args : ∀ {l : List PV} {us : List Value} {i : Nat} {t : Tr}, GT h S → RepL h S l us → i + us.length ≤ 4000 → Slots h S (fillTr t i us) (argVL i l)
  | [], us, i, t, hG, hx, _ => ⟨hG, fun k v hk => by cases hk⟩
  | p :: ps, us, i, t, hG, ⟨u, r, h1, h2, h3⟩, hl => by
    subst h1; rw [List.length_cons] at hl; show Slots h S (fillTr (t.set depth i u) (i + 1) r) ((i, p) :: argVL (i + 1) ps); refine (slots_args hG h3 (by omega)).cons ?_; rw [fill_get r (t.set depth i u) (i + 1) (by omega), if_pos (by omega), get_setD t i u i (by omega), if_pos rfl]; exact h2
theorem af10 {us : List Value} (h : us.all af0 = true) : us.all af1 = true := List.all_eq_true.2 fun u hu => by
  have h1 := List.all_eq_true.1 h u hu; cases u <;> first | exact h1 | cases h1
mutual
theorem RepPV.any1 : ∀ {pv : PV} {u : Value}, af1 u = true → RepPV h S pv u → RepPV h' S' pv u
  | .v τ x, u, ha, hx => RepV.anyHeap (τ := τ) hx ha
  | .raw w, u, _, hx => hx
  | .p τ x, u, ha, hx => by
    obtain ⟨b, o, e, rs, own, more, rfl, _⟩ := hx
    cases ha
  | .clo f a c, u, ha, hx => by
    obtain ⟨va, vc, rfl, _⟩ := hx
    cases ha
  | .tup l, u, ha, hx => by
    obtain ⟨vs, rfl, _⟩ := hx
    cases ha
  | .gd b v, u, ha, hx => ⟨fun e => RepPV.any1 ha (hx.1 e), hx.2⟩
  | .agg l, u, ha, hx => by
    obtain ⟨vs, rfl, h2⟩ := hx; exact ⟨vs, rfl, RepL.any1 (af10 ha) h2⟩
theorem RepL.any1 : ∀ {l : List PV} {us : List Value}, us.all af1 = true → RepL h S l us → RepL h' S' l us
  | [], us, _, hx => hx
  | p :: ps, us, ha, ⟨u, r, h1, h2, h3⟩ => by
    subst h1; rw [List.all_cons] at ha; obtain ⟨a1, a2⟩ := band ha; exact ⟨u, r, rfl, RepPV.any1 a1 h2, RepL.any1 a2 h3⟩
end
theorem not_rep_tuple {vs : Array Value} {τ : Ty} {x : τ.den} (hx : RepV h S τ (.tuple vs) x) : False := by
  have h1 := hx.1; have h2 := hx.2
  cases hτ : τ.agg with
  | true => rw [hτ] at h1; cases h1
  | false =>
    cases τ with
    | sl e => obtain ⟨v, h3, h4⟩ := h2; simp [Value.cells] at h3; subst h3; rcases h4 with ⟨h4, _⟩ | ⟨_, _, _, h4, _⟩ <;> cases h4
    | pair a b => cases hτ
    | unit => cases hτ
    | mp a b => obtain ⟨v, h3, h4⟩ := h2; simp [Value.cells] at h3; subst h3; rcases h4 with ⟨h4, _⟩ | ⟨_, _, _, h4, _⟩ <;> cases h4
    | fn => cases x <;> simp [RepC, Value.cells, fnV] at h2
    | hnd => cases x <;> simp [RepC, Value.cells, hndV] at h2
    | int k => simp [RepC, Value.cells] at h2
    | bool => simp [RepC, Value.cells] at h2
    | str => simp [RepC, Value.cells] at h2
    | flt k => simp [RepC, Value.cells] at h2
theorem RepPV.anyAf : ∀ {pv : PV} {u : Value}, af u = true → RepPV h S pv u → RepPV h' S' pv u
  | .tup l, u, ha, hx => by
    obtain ⟨vs, rfl, h2⟩ := hx
    exact ⟨vs, rfl, h2.any1 ha⟩
  | .v τ x, u, ha, hx => by
    cases u with
    | tuple vs => exact (not_rep_tuple hx).elim
    | _ => exact RepPV.any1 (pv := .v τ x) ha hx
  | .p τ x, u, ha, hx => by
    obtain ⟨b, o, e, rs, own, more, rfl, _⟩ := hx
    cases ha
  | .raw w, u, ha, hx => hx
  | .clo f a c, u, ha, hx => by
    obtain ⟨va, vc, rfl, _⟩ := hx
    cases ha
  | .gd b v, u, ha, hx => ⟨fun e => RepPV.anyAf ha (hx.1 e), hx.2⟩
  | .agg l, u, ha, hx => by
    have h1 := hx; obtain ⟨vs, rfl, _⟩ := hx; exact RepPV.any1 (pv := .agg l) ha h1
theorem drops_ok : ∀ {ms : List Nat} {h : Heap}, ms.Nodup → (∀ d ∈ ms, h.get d = some .defd) → ∃ h2, dropMarks ms h = some h2 ∧ Aft h h2 ms ∧ (∀ b, b ∉ ms → h2.get b = h.get b)
  | [], h, _, _ => ⟨h, rfl, Aft.refl _ _, fun _ _ => rfl⟩
  | d :: ms, h, hn, hd => by
    obtain ⟨hn1, hn2⟩ := List.nodup_cons.1 hn
    have hg : ∀ i ∈ ms, (h.drop d).get i = some .defd := fun i hi => by
      rw [Heap.get_drop, if_neg (fun e => hn1 (by subst e; exact hi))]; exact hd i (List.mem_cons_of_mem _ hi)
    obtain ⟨h2, e1, e2, e3⟩ := drops_ok hn2 hg; refine ⟨h2, ?_, (Aft.drop List.mem_cons_self).trans e2 fun i hi => .inl (List.mem_cons_of_mem _ hi), fun b hb => ?_⟩
    · simp only [dropMarks, hd d List.mem_cons_self]; exact e1
    rw [List.mem_cons, not_or] at hb; rw [e3 b hb.2, Heap.get_drop, if_neg hb.1]
inductive EndV (P : Program) (fl : VL) (σ : Sto) : ResultVar → PV → Prop where
  | tmp {i : Nat} {p p' : PV} (hi : lkV fl i = some p) (hc : Co σ p p') : EndV P fl σ (.tmp i) p'
  | cell {a : Nat} {ty : TypeId} {p : Value} {cs : List PV} {τ : Ty} {x : τ.den} (ha : lkV fl a = some (.raw p)) (hm : (p, Cell.var cs) ∈ σ) (hT : ValT P ty τ) (hc : CoL σ cs (cellsPV τ x)) : EndV P fl σ (.cell a ty) (.v τ x)
inductive EndL (P : Program) (fl : VL) (σ : Sto) : List ResultVar → List PV → Prop where
  | nil : EndL P fl σ [] []
  | cons {r : ResultVar} {p : PV} {rs : List ResultVar} {ps : List PV} (hr : EndV P fl σ r p) (hs : EndL P fl σ rs ps) : EndL P fl σ (r :: rs) (p :: ps)
def tupV : List PV → PV
  | [p] => p
  | l => .tup l
def VEnd (P : Program) (fn : Func) (r : PV) : Ex → VL → Sto → Prop := fun e fl σ => e.goes = true ∧ ∃ ps, EndL P fl σ fn.results.toList ps ∧ tupV ps = r
theorem EndV.ok (L : Lc S0 h σ t fl) (hg : ∀ b o, h.get b = some o → o ≠ .defd → h2.get b = some o) (hN : GoesR h S0 h2 S0) {r : ResultVar} {p : PV} (he : EndV P fl σ r p) : ∃ u, fsResult P t h2 r = some u ∧ RepPV h2 S0 p u := by
  cases he with
  | tmp hi hc => exact ⟨_, rfl, (hc.ok L.cells L.sep (L.slots _ _ hi)).nxR hN⟩
  | @cell a ty p cs τ x ha hm hT hc =>
    have hp : t.get a = p := L.slots _ _ ha; have hr : RepPV h S0 (.p τ x) p := Co.ok L.cells L.sep (.var hm hc) (show RepPV h _ (.raw p) p from rfl); have hr2 := (hr.nxR hN : RepP h2 S0 τ p x); obtain ⟨e1, e2⟩ := hr2.load' hT; exact ⟨_, by show fsLoad P ty (t.get a) h2 = _; rw [hp]; exact e1, e2⟩
theorem EndL.ok (L : Lc S0 h σ t fl) (hg : ∀ b o, h.get b = some o → o ≠ .defd → h2.get b = some o) (hN : GoesR h S0 h2 S0) : ∀ {rs : List ResultVar} {ps : List PV}, EndL P fl σ rs ps → ∃ us, fsResults P t h2 rs = some us ∧ RepL h2 S0 ps us
  | _, _, .nil => ⟨[], rfl, rfl⟩
  | _, _, .cons hr hs => by
    obtain ⟨u, e1, e2⟩ := hr.ok L hg hN; obtain ⟨us, e3, e4⟩ := EndL.ok L hg hN hs; exact ⟨u :: us, by simp only [fsResults, e1, e3], u, us, rfl, e2, e4⟩
theorem tup_rep : ∀ {ps : List PV} {us : List Value}, RepL h S ps us → RepPV h S (tupV ps) (tupled us)
  | [], us, hx => ⟨[], by rw [show us = [] from hx]; rfl, rfl⟩
  | [p], us, ⟨u, r, h1, h2, h3⟩ => by
    obtain rfl : r = [] := h3
    subst h1; exact h2
  | p :: q :: ps, us, hx => by
    obtain ⟨u, r, h1, h2, u2, r2, h3, h4, h5⟩ := hx; subst h1 h3; exact ⟨_, rfl, u, _, rfl, h2, u2, _, rfl, h4, h5⟩
theorem VF.enter {f : FuncId} {args : List PV} {fn : Func} {c : Code} {r : PV} (hfn : P.funcs[f]? = some fn) (hc : fn.body = some c) (ho : ∀ us h, orc f us h = none) (hn : (Nat.blt 4000 fn.ntmps || Nat.blt fn.ntmps args.length) = false)
    (hb : VC P orc none c fn.ntmps (argVL 0 args) [] (VEnd P fn r)) : VF P orc f args r := fun h S us hok hS ha => by
  have hl := ha.len
  have hn2 : Nat.blt 4000 fn.ntmps = false ∧ Nat.blt fn.ntmps args.length = false := by simpa using hn
  have n3 := nble_no hn2.1; have n4 := nble_no hn2.2; have ha' : RepL (entry h) S args us := RepL.nx (h := h) (h' := entry h) (Goes.objs fun _ => rfl) ha
  have I0 : Iv (entry h) [] S (entry h) [] (fillTr .leaf 0 us) [] (argVL 0 args) := {
    ok := hok
    s0 := hS.1
    aft := Aft.refl _ _
    cells := fun c hc => by cases hc
    new := fun b hb => by cases hb
    apart := List.nodup_nil
    mark := fun d hd => by cases hd
    marks := List.nodup_nil
    slots := slots_args (hS.2.nx (Goes.objs fun _ => rfl)) ha' (by omega) }
  refine EvF.enter hfn hc (ho us h) (by rw [hl]; exact hn) ((hb (entry h) [] S _ (entry h) [] I0).mono fun e fr h1 hq => ?_); obtain ⟨_, fl', σ', I, he, ps, hps, rfl⟩ := hq; obtain ⟨h2, d1, d2, d3⟩ := drops_ok I.marks fun d hd => (I.mark d hd).2
  have hgd : ∀ b o, h1.get b = some o → o ≠ .defd → h2.get b = some o := fun b o hg hne => by
    rw [d3 b (fun hm => hne (by have := (I.mark b hm).2; rw [hg] at this; exact Option.some.inj this))]; exact hg
  have a2 : Aft (entry h) h2 [] := I.aft.trans d2 fun i hi => .inr (I.mark i hi).1; have hN : GoesR h1 S h2 S := fun b _ hg hne hbS => ⟨hgd b _ hg hne, hbS⟩; obtain ⟨us', e1, e2⟩ := hps.ok I.lc hgd hN; have hrep := tup_rep e2; have hlow : h.next ≤ h2.low := a2.low h.next (Nat.le_refl _) (Nat.le_refl _) (by simp); refine ⟨he, h2, us', d1, e1, ?_⟩; unfold leftOf
  have hble : Nat.ble h.next h2.low = true := by rw [Nat.ble_eq]; exact hlow
  cases haf : af (tupled us') with
  | true =>
    rw [hble]
    exact ⟨Aft.refl _ _, hrep.anyAf haf, fun _ => rfl⟩
  | false =>
    refine ⟨⟨a2.next, fun b hb _ => a2.get b hb (by simp), fun x => a2.ok x, fun e h3 h4 _ => Nat.le_min.2 ⟨h3, Nat.le_trans h4 hlow⟩, fun b hb => .inl (a2.get b hb (by simp)), Nat.min_le_left _ _⟩, RepPV.nx (h := h2) (h' := { next := h2.next, low := min h.low h2.low, objs := h2.objs }) (fun _ _ a b => ⟨a, b⟩) hrep, fun hf => ?_⟩; rw [(hrep.flat hf).1] at haf; cases haf
end Go.Fs
namespace Go.Fs
variable {P : Program} {orc : FuncId → List Value → Heap → Option (Value × Heap)} {rnd : Option Nat} {h h' h0 h1 h2 hs : Heap} {S S' S0 B G : List Nat} {σ σ' : Sto} {t t' : Tr} {ms : List Nat} {fl : VL} {ops : Array Oper} {n i mem : Nat} {l : List Oper} {K : VL → Sto → Prop} {Q : Ex → VL → Sto → Prop}
  {d : Tmp} {ty : TypeId} {pos : String} {after : Array Edge} {op : Op} {v : PV} {g : Option (Nat × Bool)} {bs nw : List Nat} {segs : List (Nat × Nat × Nat)} {tail so : Bool}
def nwHas : List Nat → Nat → Bool
  | [], _ => false
  | k :: r, i => bif Nat.beq k i then true else nwHas r i
def nwSet (old : Bool) (d : Nat) (nw : List Nat) : List Nat := bif old then nw.filter (fun k => !Nat.beq k d) else d :: nw
def oldX (nw : List Nat) : Operand → Bool
  | .tmp i => !nwHas nw i
  | _ => true
theorem nwHas_filter {d k : Nat} (hk : k ≠ d) : ∀ {nw : List Nat}, nwHas (nw.filter fun k => !Nat.beq k d) k = nwHas nw k
  | [] => rfl
  | a :: r => by
    rw [List.filter_cons]; by_cases ha : a = d
    · subst ha; rw [Nat.beq_refl]; simp only [Bool.not_true, Bool.false_eq_true, if_false, nwHas]; rw [beq_no (Ne.symm hk)]; exact nwHas_filter hk
    rw [beq_no ha]; simp only [Bool.not_false, if_true, nwHas]; rw [nwHas_filter hk]
def Old (S0 : List Nat) (h : Heap) (σ : Sto) (t : Tr) (fl : VL) (nw : List Nat) (so : Bool) (segs : List (Nat × Nat × Nat)) : Prop := ∃ hs, HOk hs ∧ After hs h ∧ SegsOk hs segs ∧ SLt hs S0 ∧
  (∀ k pv, lkV fl k = some pv → nwHas nw k = false → RepPV hs (own σ ++ S0) pv (t.get k)) ∧ (so = true → ∀ c ∈ σ, CellR hs (own σ ++ S0) c.1 c.2)
section
variable (P orc)
def VD (ops : Array Oper) (n : Nat) (l : List Oper) (i : Nat) (fl : VL) (nw : List Nat) (σ : Sto) (so : Bool) (bs : List Nat) (mem : Nat) (tail : Bool) (K : VL → Sto → Prop) : Prop :=
  ∀ (h0 : Heap) (G S0 : List Nat) (t : Tr) (h : Heap) (ms : List Nat) (segs : List (Nat × Nat × Nat)), Iv h0 G S0 h σ t ms fl → (tail = false → Old S0 h σ t fl nw so segs) →
    EvD P orc ops n l i ⟨t, h, bs, segs, mem, tail⟩ fun s => ∃ fl' σ', Iv h0 G S0 s.h σ' s.t ms fl' ∧ K fl' σ'
end
theorem VC.drawn {id : Nat} {ops : Array Oper} (hx : VD P orc ops n ops.toList 0 fl [] σ true [] 0 false fun fl' σ' => Q .normal fl' σ') (hl : lateB ops = false := by kernel_rfl) : VC P orc rnd (.region id ops true) n fl σ Q := fun h0 G S0 t h ms I => by
  refine EvC.draw hl ?_; obtain ⟨m, s', h1, fl', σ', h2, h3⟩ := hx h0 G S0 t h ms [] I fun _ => ⟨h, I.ok, After.refl h, SegsOk.nil, I.lc.slt, fun k pv hk _ => I.slots k pv hk, fun _ => I.cells⟩; exact ⟨m, s', h1, rfl, fl', σ', h2, h3⟩
theorem VD.nil (hk : K fl σ) : VD P orc ops n [] i fl nw σ so bs mem tail K := fun _ _ _ _ _ _ _ I _ => EvD.nil ⟨fl, σ, I, hk⟩
theorem Old.set {u : Value} {old : Bool} (ho : Old S0 h σ t fl nw so segs) (hd : d < 4000) (hu : old = true → ∀ hs, HOk hs → After hs h → SLt hs S0 → (∀ k pv, lkV fl k = some pv → nwHas nw k = false → RepPV hs (own σ ++ S0) pv (t.get k)) → (so = true → ∀ c ∈ σ, CellR hs (own σ ++ S0) c.1 c.2) → RepPV hs (own σ ++ S0) v u) :
    Old S0 h σ (t.set depth d u) ((d, v) :: fl) (nwSet old d nw) so segs := by
  obtain ⟨hs, h1, h2, h3, h4, h5, h6⟩ := ho; refine ⟨hs, h1, h2, h3, h4, fun k pv hk hn => ?_, h6⟩; rw [get_setD t d u k hd]; simp only [lkV] at hk
  cases hb : Nat.beq d k with
  | true =>
    rw [hb] at hk; simp only [cond_true, Option.some.injEq] at hk; subst hk; rw [if_pos (nbeq hb).symm]
    cases old with
    | true => exact hu rfl hs h1 h2 h4 h5 h6
    | false =>
      simp only [nwSet, cond_false, nwHas, hb, cond_true] at hn
      cases hn
  | false =>
    rw [hb] at hk; simp only [cond_false] at hk; have hne := ne_of_no hb; rw [if_neg (Ne.symm hne)]; refine h5 k pv hk ?_
    cases old with
    | true => rw [nwSet, cond_true, nwHas_filter (Ne.symm hne)] at hn; exact hn
    | false => simpa only [nwSet, cond_false, nwHas, hb] using hn
theorem Old.next {lo hi : Nat} (ho : Old S0 h σ t fl nw so segs) (ha : After h h') (hl : h.next ≤ lo) : Old S0 h' σ t fl nw so ((i, lo, hi) :: segs) := by
  obtain ⟨hs, h1, h2, h3, h4, h5, h6⟩ := ho; exact ⟨hs, h1, h2.trans ha, SegsOk.cons (Nat.le_trans h2.next hl) h3, h4, h5, h6⟩
theorem Old.seg {lo hi : Nat} (ho : Old S0 h σ t fl nw so segs) (hl : h.next ≤ lo) : Old S0 h σ t fl nw so ((i, lo, hi) :: segs) := ho.next (After.refl h) hl
theorem old_sees {fl : VL} (h5 : ∀ k pv, lkV fl k = some pv → nwHas nw k = false → RepPV hs S pv (t.get k)) {x : Operand} {pv : PV} (hx : evV fl x = some pv) (ho : oldX nw x = true) : RepPV hs S pv (evalO t x) := by
  cases x with
  | tmp k => exact h5 k pv hx (by simpa [oldX] using ho)
  | const c =>
    obtain ⟨h1, h2⟩ := constV_ok hx; show RepPV hs S pv (if af c then c else junk)
    rw [if_pos h1]; exact h2 _ _
  | global g => cases hx
  | func f => obtain rfl := Option.some.inj hx; exact ⟨[], [], rfl, rfl, rfl⟩
def oldOp (nw : List Nat) (op : Op) : Bool := op.operands.toList.all (oldX nw)
theorem old_op {fl : VL} (h5 : ∀ k pv, lkV fl k = some pv → nwHas nw k = false → RepPV hs S pv (t.get k)) (ho : oldOp nw op = true) : Sees hs S t fl op := fun x hx pv hp => old_sees h5 hp (List.all_eq_true.1 ho x hx)
theorem VD.c {b : Nat} (hc : CalmV P fl [] op v) (hk : VD P orc ops n l (i + 1) ((d, v) :: fl) (nwSet (oldOp nw op || v.flat0) d nw) σ so (bs ++ [b]) mem tail K)
    (hb : beforeOf bs ⟨some d, op, ty, pos, after, g⟩ = b := by rfl) (hw : wantV ops fl g = some true := by rfl) (hn : (Nat.blt d n && Nat.ble n 4000) = true := by rfl) :
    VD P orc ops n (⟨some d, op, ty, pos, after, g⟩ :: l) i fl nw σ so bs mem tail K := fun h0 G S0 t h ms segs I ho => by
  obtain ⟨n1, n2⟩ := fits hn; obtain ⟨u, e1, e2⟩ := hc.2 h (own σ ++ S0) t I.slots.sees (fun _ hc => by cases hc); refine EvD.op (s' := ⟨t.set depth d u, h, bs ++ [b], segs, mem, tail⟩) ?_ (hk h0 G S0 _ h ms segs (I.set e1 n2) fun ht => (ho ht).set n2 fun hold hs a1 a2 a3 a4 a5 => ?_)
  · unfold fsDraw; have hwt : fsWanted ops t ⟨some d, op, ty, pos, after, g⟩ = some true := want_ok I.slots hw; simp only [hwt, hc.1, if_true, e2, Nat.beq_refl, cond_true, put_fits n1, Option.map_some, hb]
  rcases Bool.or_eq_true_iff.1 hold with hold | hold
  · obtain ⟨u', f1, f2⟩ := hc.2 hs (own σ ++ S0) t (old_op a4 hold) (fun _ hc => by cases hc)
    have : u' = u := by
      have g1 := e2 none 0 "" #[] none h; rw [f2 none 0 "" #[] none h] at g1; simpa using g1
    rw [← this]; exact f1
  exact (RepPV.flat0 hold e1).2 _ _
theorem seen_ok (I : Iv h0 G S0 h σ t ms fl) {o : Oper} {b : Nat} (hb : beforeOf bs o = b) (ho : tail = false → Old S0 h σ t fl nw so segs) :
    ∃ M, seenBy o ⟨t, h, bs, segs, mem, tail⟩ = M ∧ HOk M ∧ M.next = h.next ∧ M.low = h.next ∧ (∀ b o, M.get b = some o → h.get b = some o) ∧ (Nat.beq (mem &&& b) mem = true → M = entry h) ∧ (tail = false → ∃ hs, HOk hs ∧ After hs h ∧ After hs M ∧ SegsOk hs segs ∧ SLt hs S0 ∧
      (∀ k pv, lkV fl k = some pv → nwHas nw k = false → RepPV hs (own σ ++ S0) pv (t.get k)) ∧ (so = true → ∀ c ∈ σ, CellR hs (own σ ++ S0) c.1 c.2)) := by
  have hM4 : ∀ b o', (seenBy o ⟨t, h, bs, segs, mem, tail⟩).get b = some o' → h.get b = some o' := by
    unfold seenBy; simp only [hb]
    cases Nat.beq (mem &&& b) mem with
    | true => exact fun b o hg => hg
    | false => exact fun b o hg => mask_sees segs h.objs hg
  refine ⟨_, rfl, fun b o' hg => I.ok b o' (hM4 b o' hg), rfl, rfl, hM4, fun hord => ?_, fun ht => ?_⟩
  · unfold seenBy entry; simp only [hb, hord, cond_true]
  obtain ⟨hs, h1, h2, h3, h4, h5, h6⟩ := ho ht; refine ⟨hs, h1, h2, ?_, h3, h4, h5, h6⟩; unfold seenBy; simp only [hb]
  cases Nat.beq (mem &&& b) mem with
  | true => exact ⟨h2.next, h2.get, h2.ok, fun e h1 h3 => Nat.le_trans h3 h2.next⟩
  | false => exact msk_after h2 h3
theorem draw_read {b : Nat} {o : Oper} {u : Value} {M : Heap} (hM : seenBy o ⟨t, h, bs, segs, mem, tail⟩ = M) (hMn : M.next = h.next) (hMl : M.low = h.next) (hb : beforeOf bs o = b) (hd : o.dst = some d) (hcalm : calm o.op = false) (hw : fsWanted ops t o = some true) (htl : (tail && !Nat.beq (mem &&& b) mem) = false)
    (hst : stepO P o (evalO t) M = some (u, M)) (n1 : Nat.blt d n = true) : fsDraw (stepO P) ops n o i ⟨t, h, bs, segs, mem, tail⟩ = some ⟨t.set depth d u, h, bs ++ [b], (i, h.next, h.next) :: segs, mem ||| 2 ^ i, tail⟩ := by
  unfold fsDraw
  have hM' : ({ next := h.next, low := h.next, objs := bif Nat.beq (mem &&& b) mem then h.objs else mask b segs h.objs } : Heap) = M := by
    rw [← hM]; unfold seenBy; simp only [hb]
  simp only [hw, hcalm, Bool.false_eq_true, if_false, hb, htl, cond_false, hM', hst]; simp only [hMn, hMl, blt_refl', ble_refl', cond_false, hd, put_fits n1, cond_true, newer_same, List.nil_append]
theorem VD.r {b : Nat} (cs : Sto) (hc : ReadV P fl cs op v) (hcs : cs = [] ∨ (so = true ∧ cs = σ)) (hk : VD P orc ops n l (i + 1) ((d, v) :: fl) (nwSet true d nw) σ so (bs ++ [b]) (mem ||| 2 ^ i) false K)
    (hb : beforeOf bs ⟨some d, op, ty, pos, after, g⟩ = b := by rfl) (hold : oldOp nw op = true := by rfl) (hw : wantV ops fl g = some true := by rfl) (hn : (Nat.blt d n && Nat.ble n 4000) = true := by rfl) :
    VD P orc ops n (⟨some d, op, ty, pos, after, g⟩ :: l) i fl nw σ so bs mem false K := fun h0 G S0 t h ms segs I ho => by
  obtain ⟨n1, n2⟩ := fits hn; obtain ⟨M, m1, m2, m3, m4, m5, m6, m7⟩ := seen_ok (mem := mem) I hb ho; obtain ⟨hs, a1, a2, a3, a4, a5, a6, a7⟩ := m7 rfl
  have hcell : ∀ c ∈ cs, CellR hs (own σ ++ S0) c.1 c.2 := by
    rcases hcs with rfl | ⟨hso, hcs⟩
    · intro c hc; cases hc
    rw [hcs]; exact a7 hso
  obtain ⟨u, e1, e2⟩ := hc.2 hs (own σ ++ S0) t (old_op a6 hold) hcell; have hst := e2 M (fun b o hg => by rw [a3.get b (a1 b o hg)]; exact hg) (some d) ty pos after g; have hrep : RepPV h (own σ ++ S0) v u := e1.nx (a2.nx a1); refine EvD.op (draw_read m1 m3 m4 hb rfl hc.1 (want_ok I.slots hw) rfl hst n1) (hk h0 G S0 _ h ms _ (I.set hrep n2) fun _ => ?_); refine Old.seg ?_ (Nat.le_refl _); refine Old.set (old := true) ⟨hs, a1, a2, a4, a5, a6, a7⟩ n2 fun _ hs' b1 b2 b3 b4 b5 => ?_
  have hcell' : ∀ c ∈ cs, CellR hs' (own σ ++ S0) c.1 c.2 := by
    rcases hcs with rfl | ⟨hso, hcs⟩
    · intro c hc; cases hc
    rw [hcs]; exact b5 hso
  obtain ⟨u', f1, f2⟩ := hc.2 hs' (own σ ++ S0) t (old_op b4 hold) hcell'; have g1 := e2 h (fun b o hg => by rw [a2.get b (a1 b o hg)]; exact hg) (some d) ty pos after g; rw [f2 h (fun b o hg => by rw [b2.get b (b1 b o hg)]; exact hg) (some d) ty pos after g] at g1
  have : u' = u := by simpa using g1
  rw [← this]; exact f1
theorem VD.ro {b : Nat} (hc : ReadV P fl σ op v) (hk : VD P orc ops n l (i + 1) ((d, v) :: fl) (nwSet v.flat0 d nw) σ so (bs ++ [b]) (mem ||| 2 ^ i) tail K)
    (hb : beforeOf bs ⟨some d, op, ty, pos, after, g⟩ = b := by rfl) (hord : Nat.beq (mem &&& b) mem = true := by rfl) (hw : wantV ops fl g = some true := by rfl) (hn : (Nat.blt d n && Nat.ble n 4000) = true := by rfl) :
    VD P orc ops n (⟨some d, op, ty, pos, after, g⟩ :: l) i fl nw σ so bs mem tail K := fun h0 G S0 t h ms segs I ho => by
  obtain ⟨n1, n2⟩ := fits hn; obtain ⟨M, m1, m2, m3, m4, m5, m6, m7⟩ := seen_ok (mem := mem) I hb ho; have hMe := m6 hord; obtain ⟨u, e1, e2⟩ := hc.2 h (own σ ++ S0) t I.slots.sees I.cells; have hst := e2 M (fun b o hg => by rw [hMe]; exact hg) (some d) ty pos after g; refine EvD.op (draw_read m1 m3 m4 hb rfl hc.1 (want_ok I.slots hw) (by rw [hord]; simp) hst n1) (hk h0 G S0 _ h ms _ (I.set e1 n2) fun ht => ?_); exact Old.seg ((ho ht).set n2 fun hf _ _ _ _ _ _ => (RepPV.flat0 hf e1).2 _ _) (Nat.le_refl _)
theorem VD.skip {b : Nat} (hk : VD P orc ops n l (i + 1) ((d, .raw undef) :: fl) (nwSet true d nw) σ so (bs ++ [b]) mem tail K)
    (hb : beforeOf bs ⟨some d, op, ty, pos, after, g⟩ = b := by rfl) (hw : wantV ops fl g = some false := by rfl) (hn : (Nat.blt d n && Nat.ble n 4000) = true := by rfl) :
    VD P orc ops n (⟨some d, op, ty, pos, after, g⟩ :: l) i fl nw σ so bs mem tail K := fun h0 G S0 t h ms segs I ho => by
  obtain ⟨n1, n2⟩ := fits hn; have hwt : fsWanted ops t ⟨some d, op, ty, pos, after, g⟩ = some false := want_ok I.slots hw; refine EvD.op (s' := ⟨t.set depth d undef, h, bs ++ [b], segs, mem, tail⟩) ?_ (hk h0 G S0 _ h ms segs (I.set (show RepPV _ _ (.raw undef) undef from rfl) n2) fun ht => (ho ht).set n2 fun _ _ _ _ _ _ _ => (show RepPV _ _ (.raw undef) undef from rfl)); unfold fsDraw; simp only [hwt, put_fits n1, Option.map_some, hb]
theorem VD.splitB {x : Tmp} {r : Bool} (hc : lkV fl x = some (.v .bool r)) (ht : r = true → VD P orc ops n l i ((x, .v .bool true) :: fl) (nwSet true x nw) σ so bs mem tail K) (hf : r = false → VD P orc ops n l i ((x, .v .bool false) :: fl) (nwSet true x nw) σ so bs mem tail K) :
    VD P orc ops n l i fl nw σ so bs mem tail K := fun h0 G S0 t h ms segs I ho => by
  have hx : Iv h0 G S0 h σ t ms ((x, .v .bool r) :: fl) := { I with slots := I.slots.cons (I.slots x _ hc) }
  have hO : tail = false → Old S0 h σ t ((x, .v .bool r) :: fl) (nwSet true x nw) so segs := fun e => by
    obtain ⟨hs, h1, h2, h3, h4, h5, h6⟩ := ho e; refine ⟨hs, h1, h2, h3, h4, fun k pv hk hn => ?_, h6⟩; simp only [lkV] at hk
    cases hb : Nat.beq x k with
    | true =>
      rw [hb] at hk; simp only [cond_true, Option.some.injEq] at hk; subst hk; rw [← nbeq hb]
      exact (RepPV.flat0 (pv := .v .bool r) rfl (I.slots x _ hc)).2 _ _
    | false =>
      rw [hb] at hk; simp only [cond_false] at hk; refine h5 k pv hk ?_; rw [nwSet, cond_true, nwHas_filter (Ne.symm (ne_of_no hb))] at hn; exact hn
  cases r with
  | true => exact ht rfl h0 G S0 t h ms segs hx hO
  | false => exact hf rfl h0 G S0 t h ms segs hx hO
theorem VD.splitD {x : Tmp} {p : Prop} {inst : Decidable p} (hc : lkV fl x = some (.v .bool (@decide p inst))) (ht : p → VD P orc ops n l i ((x, .v .bool true) :: fl) (nwSet true x nw) σ so bs mem tail K) (hf : ¬ p → VD P orc ops n l i ((x, .v .bool false) :: fl) (nwSet true x nw) σ so bs mem tail K) :
    VD P orc ops n l i fl nw σ so bs mem tail K := VD.splitB hc (fun h => ht (of_decide_eq_true h)) fun h => hf (of_decide_eq_false h)
theorem VD.call {b : Nat} {f : Operand} {args : Array Operand} {ats : Array TypeId} {F r : PV} {asl : List PV} (hf : evV fl f = some F) (ha : evVs fl args.toList = some asl) (hc : VCall P orc F asl r) (hk : VD P orc ops n l (i + 1) ((d, r) :: fl) (nwSet r.flat d nw) σ so (bs ++ [b]) (mem ||| 2 ^ i) false K)
    (hb : beforeOf bs ⟨some d, .call { callee := .value f, args := args, argTypes := ats }, ty, pos, after, g⟩ = b := by rfl) (hold : (oldX nw f && args.toList.all (oldX nw)) = true := by rfl) (hw : wantV ops fl g = some true := by rfl) (hn : (Nat.blt d n && Nat.ble n 4000) = true := by rfl) :
    VD P orc ops n (⟨some d, .call { callee := .value f, args := args, argTypes := ats }, ty, pos, after, g⟩ :: l) i fl nw σ so bs mem false K := fun h0 G S0 t h ms segs I ho => by
  obtain ⟨n1, n2⟩ := fits hn; obtain ⟨o1, o2⟩ := band hold; obtain ⟨M, m1, m2, m3, m4, m5, m6, m7⟩ := seen_ok (mem := mem) I hb ho; obtain ⟨hs, a1, a2, a3, a4, a5, a6, a7⟩ := m7 rfl; have hN : Goes hs (own σ ++ S0) M (own σ ++ S0) := a3.nx a1
  have hargs : ∀ (l : List Operand) (asl : List PV), evVs fl l = some asl → l.all (oldX nw) = true → RepL M (own σ ++ S0) asl (l.map (evalO t)) := by
    intro l
    induction l with
    | nil => intro asl hx _; obtain rfl := Option.some.inj hx; rfl
    | cons x r ih =>
      intro asl hx hl; rw [List.all_cons] at hl; obtain ⟨l1, l2⟩ := band hl; simp only [evVs] at hx; split at hx
      · rename_i v vs0 hv hvs; obtain rfl := Option.some.inj hx; exact ⟨_, _, rfl, (old_sees a6 hv l1).nx hN, ih vs0 hvs l2⟩
      cases hx
  obtain ⟨fid, ca, cc, h1, h2⟩ := hc.ev m2 ⟨fun b hb => by rw [m3]; exact Lc.lt I.lc b hb, I.slots.1.seen a2 a3 a5⟩ ((old_sees a6 hf o1).nx hN) (hargs _ _ ha o2); refine EvD.call (o := ⟨some d, .call { callee := .value f, args := args, argTypes := ats }, ty, pos, after, g⟩) (want_ok I.slots hw) rfl rfl h1 rfl ?_; rw [m1]; refine h2.mono fun u h' hq => ?_; obtain ⟨q1, q2, q3⟩ := hq; have hA := q1.after; have hl : h.next ≤ h'.low := hA.low h.next (by omega) (by omega)
  have hlow : Nat.ble h.next h'.low = true := by rw [Nat.ble_eq]; exact hl
  have hnx : h.next ≤ h'.next := by have := hA.next; omega
  refine ⟨blt_of_le hnx, by simp only [hlow, Bool.true_or], _, put_fits n1 t u, ?_⟩
  have hd : drewOn ⟨some d, .call { callee := .value f, args := args, argTypes := ats }, ty, pos, after, g⟩ i ⟨t, h, bs, segs, mem, false⟩ (t.set depth d u) h' =
      ⟨t.set depth d u, { next := h'.next, low := h.low, objs := newer h.next h'.next h'.objs ++ h.objs }, bs ++ [b], (i, h.next, h'.next) :: segs, mem ||| 2 ^ i, false⟩ := by
    unfold drewOn; simp only [hlow, cond_true, hb]
  rw [hd]; obtain ⟨e1, e2⟩ := newer_left (h' := h') I.ok m5 m3 hA m2; have eA : Aft h { next := h'.next, low := h.low, objs := newer h.next h'.next h'.objs ++ h.objs } [] := ⟨e1.next, fun b hb _ => e1.get b hb, e1.ok, fun e h3 h4 _ => e1.low e h3 h4, fun b hb => .inl (e1.get b hb), Nat.le_refl _⟩; refine hk h0 G S0 _ _ ms _ ((I.calm eA).set (q2.nx (e2 _)) n2) fun _ => ?_; exact ((Old.set (old := r.flat) ⟨hs, a1, a2, a4, a5, a6, a7⟩ n2 fun hfl _ _ _ _ _ _ => (q2.flat hfl).2 _ _)).next e1 (Nat.le_refl _)
theorem VD.callO {b : Nat} {f : Operand} {args : Array Operand} {ats : Array TypeId} {F r : PV} {asl : List PV} (hf : evV fl f = some F) (ha : evVs fl args.toList = some asl) (hc : VCall P orc F asl r) (hk : VD P orc ops n l (i + 1) ((d, r) :: fl) (nwSet r.flat d nw) σ so (bs ++ [b]) (mem ||| 2 ^ i) tail K)
    (hb : beforeOf bs ⟨some d, .call { callee := .value f, args := args, argTypes := ats }, ty, pos, after, g⟩ = b := by rfl) (hord : Nat.beq (mem &&& b) mem = true := by rfl) (hw : wantV ops fl g = some true := by rfl) (hn : (Nat.blt d n && Nat.ble n 4000) = true := by rfl) :
    VD P orc ops n (⟨some d, .call { callee := .value f, args := args, argTypes := ats }, ty, pos, after, g⟩ :: l) i fl nw σ so bs mem tail K := fun h0 G S0 t h ms segs I ho => by
  obtain ⟨n1, n2⟩ := fits hn; obtain ⟨M, m1, m2, m3, m4, m5, m6, m7⟩ := seen_ok (mem := mem) I hb ho; obtain rfl := m6 hord; have Le := I.lc.objs (h' := entry h) (fun _ => rfl) rfl; obtain ⟨fid, ca, cc, h1, h2⟩ := hc.ev m2 Le.sokA (evV_ok Le.slots hf) (evVs_ok Le.slots ha); refine EvD.call (o := ⟨some d, .call { callee := .value f, args := args, argTypes := ats }, ty, pos, after, g⟩) (want_ok I.slots hw) rfl rfl h1 (by simp only [hb, hord]; simp) ?_; rw [m1]; refine h2.mono fun u h' hq => ?_; obtain ⟨q1, q2, q3⟩ := hq; have hA := q1.after; have hl : h.next ≤ h'.low := hA.low h.next (Nat.le_refl _) (Nat.le_refl _)
  have hlow : Nat.ble h.next h'.low = true := by rw [Nat.ble_eq]; exact hl
  have hnx : h.next ≤ h'.next := hA.next; refine ⟨blt_of_le hnx, by simp only [hlow, Bool.true_or], _, put_fits n1 t u, ?_⟩
  have hd : drewOn ⟨some d, .call { callee := .value f, args := args, argTypes := ats }, ty, pos, after, g⟩ i ⟨t, h, bs, segs, mem, tail⟩ (t.set depth d u) h' =
      ⟨t.set depth d u, { next := h'.next, low := h.low, objs := newer h.next h'.next h'.objs ++ h.objs }, bs ++ [b], (i, h.next, h'.next) :: segs, mem ||| 2 ^ i, tail⟩ := by
    unfold drewOn; simp only [hlow, cond_true, hb]
  rw [hd]; obtain ⟨e1, e2⟩ := newer_left (h' := h') I.ok m5 rfl hA m2; have eA : Aft h { next := h'.next, low := h.low, objs := newer h.next h'.next h'.objs ++ h.objs } [] := ⟨e1.next, fun b hb _ => e1.get b hb, e1.ok, fun e h3 h4 _ => e1.low e h3 h4, fun b hb => .inl (e1.get b hb), Nat.le_refl _⟩; refine hk h0 G S0 _ _ ms _ ((I.calm eA).set (q2.nx (e2 _)) n2) fun ht => ?_; exact ((ho ht).set n2 fun hfl _ _ _ _ _ _ => (q2.flat hfl).2 _ _).next e1 (Nat.le_refl _)
end Go.Fs
namespace Go.Fs
variable {P : Program} {orc : FuncId → List Value → Heap → Option (Value × Heap)} {h h' h0 : Heap} {fl : FL} {op : Op} {v : Value} {S S' S0 : List Nat}
theorem SlV.hiEnd {T e : TypeId} {τ : Ty} (hT : ElT P T e τ) {v : Value} {xs : List τ.den} (hv : SlV h S τ v xs) {lo : Option Value} (H : Heap) : fsSlice P T v lo none none H = fsSlice P T v lo (some (.int .i64 (xs.length : Nat))) none H := by
  rcases hv with ⟨rfl, rfl⟩ | ⟨b, o, mk, rfl, _⟩
  · simp only [fsSlice, hT.sl.sl, boundOf, List.length_nil]; rfl
  have h1 : boundOf (some (.int .i64 (xs.length : Nat))) xs.length = some xs.length := by
    simp only [boundOf, Int.natCast_nonneg, if_true, Int.toNat_natCast]
  simp only [fsSlice, hT.sl.sl, h1]; rfl
theorem SlV.cutL {T e : TypeId} {τ : Ty} (hT : ElT P T e τ) {v : Value} {xs : List τ.den} (hv : SlV h S τ v xs) {a : Int} (h0 : 0 ≤ a ∧ a ≤ (xs.length : Nat)) :
    ∃ w, (∀ nn ll, fsSlice P T v (some (.int .i64 a)) none none { next := nn, low := ll, objs := h.objs } = some w) ∧ SlV h S τ w (xs.drop a.toNat) := by
  obtain ⟨w, h1, h2⟩ := hv.cut hT (a := a) (b := (xs.length : Nat)) ⟨h0.1, h0.2, Int.le_refl _⟩; refine ⟨w, fun nn ll => by rw [hv.hiEnd hT]; exact h1 nn ll, ?_⟩
  rwa [Int.toNat_natCast, List.take_length] at h2
theorem max_if (p q : Int) : (if q > p then q else p) = max p q := by
  rw [Int.max_def]; split <;> split <;> omega
end Go.Fs
namespace Go.Fs
variable {P : Program} {orc : FuncId → List Value → Heap → Option (Value × Heap)} {rnd : Option Nat} {h h' h0 h1 h2 : Heap} {S S' S0 B G : List Nat} {σ σ' : Sto} {t t' : Tr} {ms : List Nat} {fl : VL} {ops : Array Oper} {n : Nat} {l : List Oper} {K : VL → Sto → Prop} {Q : Ex → VL → Sto → Prop}
  {d : Tmp} {ty : TypeId} {pos : String} {after : Array Edge} {op : Op} {v pv : PV} {g : Option (Nat × Bool)} {x y z : Operand} {T T' e : TypeId} {τ τ' : Ty}
theorem CalmV.move (hx : evV fl x = some pv) : CalmV P fl σ (.move x) pv := ⟨rfl, fun h S t hs _ => ⟨evalO t x, hs x (by simp [Op.operands]) _ hx, fun _ _ _ _ _ _ => rfl⟩⟩
theorem CalmV.assign (hx : evV fl x = some pv) : CalmV P fl σ (.assign x) pv := ⟨rfl, fun h S t hs _ => ⟨evalO t x, hs x (by simp [Op.operands]) _ hx, fun _ _ _ _ _ _ => rfl⟩⟩
theorem CalmV.pickT (hc : evV fl z = some (.v .bool true)) (hx : evV fl x = some pv) : CalmV P fl σ (.pick z x y) pv := ⟨rfl, fun h S t hs _ => ⟨evalO t x, hs x (by simp [Op.operands]) _ hx, fun _ _ _ _ _ H => by
  have := (hs z (by simp [Op.operands]) _ hc : RepPV h S (.v .bool true) _).bool; show (match evalO t z with | .bool true => some (evalO t x, H) | .bool false => some (evalO t y, H) | _ => none) = _
  rw [this]⟩⟩
theorem CalmV.pickF (hc : evV fl z = some (.v .bool false)) (hy : evV fl y = some pv) : CalmV P fl σ (.pick z x y) pv := ⟨rfl, fun h S t hs _ => ⟨evalO t y, hs y (by simp [Op.operands]) _ hy, fun _ _ _ _ _ H => by
  have := (hs z (by simp [Op.operands]) _ hc : RepPV h S (.v .bool false) _).bool; show (match evalO t z with | .bool true => some (evalO t x, H) | .bool false => some (evalO t y, H) | _ => none) = _
  rw [this]⟩⟩
theorem CalmV.bin {b : BinOp} {p q : PV} (hx : evV fl x = some p) (hy : evV fl y = some q) (hv : ∀ (h : Heap) (S : List Nat) (a c : Value), RepPV h S p a → RepPV h S q c → ∃ u, RepPV h S v u ∧ (af a && af c) = true ∧ purely P (do eqGuard b T x y a c; binOp b T a c) = some u) : CalmV P fl σ (.binOp b T x y T') v :=
  ⟨rfl, fun h S t hs _ => by
    obtain ⟨u, h1, h2, h3⟩ := hv h S _ _ (hs x (by simp [Op.operands]) _ hx) (hs y (by simp [Op.operands]) _ hy); refine ⟨u, h1, fun _ _ _ _ _ H => ?_⟩; show (if (af (evalO t x) && af (evalO t y)) = true then _ else _) = _
    rw [if_pos h2, h3]; rfl⟩
theorem CalmV.binI {b : BinOp} {k k' : IntKind} {p q : Int} {u : Value} (hx : evV fl x = some (.v (.int k) p)) (hy : evV fl y = some (.v (.int k') q)) (hu : purely P (do eqGuard b T x y (.int k p) (.int k' q); binOp b T (.int k p) (.int k' q)) = some u) (hv : ∀ h S, RepPV h S v u) : CalmV P fl σ (.binOp b T x y T') v :=
  .bin hx hy fun h S a c ha hc => by
    obtain rfl := RepV.int ha; obtain rfl := RepV.int hc; exact ⟨u, hv h S, rfl, hu⟩
section
variable {p q : Int}
abbrev fit (n : Int) : Prop := -9223372036854775808 ≤ n ∧ n ≤ 9223372036854775807
theorem CalmV.add (hx : evV fl x = some (.v (.int .i64) p)) (hy : evV fl y = some (.v (.int .i64) q)) (h0 : fit (p + q)) : CalmV P fl σ (.binOp .add T x y T') (.v (.int .i64) (p + q)) :=
  .binI hx hy (u := .int .i64 (IntKind.i64.wrap (p + q))) rfl fun h S => by rw [wrap64 h0.1 h0.2]; exact RepV.ofInt _ _
theorem CalmV.sub (hx : evV fl x = some (.v (.int .i64) p)) (hy : evV fl y = some (.v (.int .i64) q)) (h0 : fit (p - q)) : CalmV P fl σ (.binOp .sub T x y T') (.v (.int .i64) (p - q)) :=
  .binI hx hy (u := .int .i64 (IntKind.i64.wrap (p - q))) rfl fun h S => by rw [wrap64 h0.1 h0.2]; exact RepV.ofInt _ _
theorem CalmV.rem (hx : evV fl x = some (.v (.int .i64) p)) (hy : evV fl y = some (.v (.int .i64) q)) (hq : q ≠ 0) : CalmV P fl σ (.binOp .rem T x y T') (.v (.int .i64) (p.tmod q)) :=
  .binI hx hy (u := .int .i64 (p.tmod q)) (by show (runPure P (Op.intDiv .rem .i64 p q)).bind _ = _; unfold Op.intDiv; rw [if_neg hq]; rfl) fun h S => RepV.ofInt _ _
variable {k : IntKind}
theorem cmp_int (b : BinOp) (r : Bool) (hr : Op.intCmp b p q = pure (.bool r)) (ha : ∀ s : Sem Value, binOp b T (.int k p) (.int k q) = s → s = Op.intCmp b p q) (hg : eqGuard b T x y (.int k p) (.int k q) = pure ()) : purely P (do eqGuard b T x y (.int k p) (.int k q); binOp b T (.int k p) (.int k q)) = some (.bool r) := by
  rw [hg, ha _ rfl, hr]; rfl
theorem binCmp {b : BinOp} (hb : binOp b T (.int k p) (.int k q) = if k ≠ k then stuck "BinOp: operands of different kinds" else Op.intCmp b p q) : binOp b T (.int k p) (.int k q) = Op.intCmp b p q := by rw [hb, if_neg (by simp)]
theorem CalmV.lss (hx : evV fl x = some (.v (.int k) p) := by rfl) (hy : evV fl y = some (.v (.int k) q) := by rfl) : CalmV P fl σ (.binOp .lss T x y T') (.v .bool (decide (p < q))) :=
  .binI hx hy (u := .bool (decide (p < q))) (cmp_int .lss _ rfl (fun s hs => by rw [← hs]; exact binCmp rfl) rfl) fun h S => RepV.ofBool _
theorem CalmV.leq (hx : evV fl x = some (.v (.int k) p) := by rfl) (hy : evV fl y = some (.v (.int k) q) := by rfl) : CalmV P fl σ (.binOp .leq T x y T') (.v .bool (decide (p ≤ q))) :=
  .binI hx hy (u := .bool (decide (p ≤ q))) (cmp_int .leq _ rfl (fun s hs => by rw [← hs]; exact binCmp rfl) rfl) fun h S => RepV.ofBool _
theorem CalmV.gtr (hx : evV fl x = some (.v (.int k) p) := by rfl) (hy : evV fl y = some (.v (.int k) q) := by rfl) : CalmV P fl σ (.binOp .gtr T x y T') (.v .bool (decide (q < p))) :=
  .binI hx hy (u := .bool (decide (q < p))) (cmp_int .gtr _ rfl (fun s hs => by rw [← hs]; exact binCmp rfl) rfl) fun h S => RepV.ofBool _
theorem CalmV.geq (hx : evV fl x = some (.v (.int k) p) := by rfl) (hy : evV fl y = some (.v (.int k) q) := by rfl) : CalmV P fl σ (.binOp .geq T x y T') (.v .bool (decide (q ≤ p))) :=
  .binI hx hy (u := .bool (decide (q ≤ p))) (cmp_int .geq _ rfl (fun s hs => by rw [← hs]; exact binCmp rfl) rfl) fun h S => RepV.ofBool _
theorem CalmV.eql (hx : evV fl x = some (.v (.int k) p) := by rfl) (hy : evV fl y = some (.v (.int k) q) := by rfl) : CalmV P fl σ (.binOp .eql T x y T') (.v .bool (decide (p = q))) := by
  have e : (p == q) = decide (p = q) := by by_cases h : p = q <;> simp [h]
  exact .binI hx hy (u := .bool (p == q)) (cmp_int .eql _ rfl (fun s hs => by rw [← hs]; exact binCmp rfl) rfl) fun h S => by rw [e]; exact RepV.ofBool _
theorem CalmV.neq (hx : evV fl x = some (.v (.int k) p) := by rfl) (hy : evV fl y = some (.v (.int k) q) := by rfl) : CalmV P fl σ (.binOp .neq T x y T') (.v .bool (decide (p ≠ q))) := by
  have e : (p != q) = decide (p ≠ q) := by by_cases h : p = q <;> simp [h]
  exact .binI hx hy (u := .bool (p != q)) (cmp_int .neq _ rfl (fun s hs => by rw [← hs]; exact binCmp rfl) rfl) fun h S => by rw [e]; exact RepV.ofBool _
end
theorem CalmV.un {b : UnOp} {p : PV} (hx : evV fl x = some p) (hv : ∀ (h : Heap) (S : List Nat) (a : Value), RepPV h S p a → ∃ u, RepPV h S v u ∧ af a = true ∧ purely P (Op.unary b a) = some u) : CalmV P fl σ (.unOp b T x) v :=
  ⟨rfl, fun h S t hs _ => by
    obtain ⟨u, h1, h2, h3⟩ := hv h S _ (hs x (by simp [Op.operands]) _ hx); refine ⟨u, h1, fun _ _ _ _ _ H => ?_⟩; show (if af (evalO t x) = true then _ else _) = _
    rw [if_pos h2, h3]; rfl⟩
theorem CalmV.not {r : Bool} (hx : evV fl x = some (.v .bool r) := by rfl) : CalmV P fl σ (.unOp .not T x) (.v .bool (!r)) :=
  .un hx fun h S a ha => by
    obtain rfl := RepV.bool ha; exact ⟨_, RepV.ofBool _, rfl, rfl⟩
theorem CalmV.neg {p : Int} (hx : evV fl x = some (.v (.int .i64) p)) (h0 : fit (-p)) : CalmV P fl σ (.unOp .neg T x) (.v (.int .i64) (-p)) :=
  .un hx fun h S a ha => by
    obtain rfl := RepV.int ha; refine ⟨.int .i64 (IntKind.i64.wrap (0 - p)), ?_, rfl, rfl⟩; rw [Int.zero_sub, wrap64 h0.1 h0.2]; exact RepV.ofInt _ _
theorem CalmV.conv {p : PV} {s D : TypeId} (hx : evV fl x = some p) (hv : ∀ (h : Heap) (S : List Nat) (a : Value), RepPV h S p a → ∃ u, RepPV h S v u ∧ af a = true ∧ purely P (convert s D a) = some u) : CalmV P fl σ (.convert s D x) v :=
  ⟨rfl, fun h S t hs _ => by
    obtain ⟨u, h1, h2, h3⟩ := hv h S _ (hs x (by simp [Op.operands]) _ hx); refine ⟨u, h1, fun _ _ _ _ _ H => ?_⟩; show (if af (evalO t x) = true then _ else _) = _
    rw [if_pos h2, h3]; rfl⟩
def convB (P : Program) (s D : TypeId) (k2 : IntKind) : Bool := (P.underlying s).isSome && (match P.underlying D with | some (.int k) => decide (k = k2) | _ => false)
theorem CalmV.convI {p : Int} {s D : TypeId} {k : IntKind} (hx : evV fl x = some (.v (.int k) p)) (k2 : IntKind) (hw : k2.wrap p = p) (hb : convB P s D k2 = true := by kernel_rfl) : CalmV P fl σ (.convert s D x) (.v (.int k2) p) :=
  .conv hx fun h S a ha => by
    obtain rfl := RepV.int ha; unfold convB at hb; obtain ⟨b1, b2⟩ := band hb; obtain ⟨td, hs⟩ := Option.isSome_iff_exists.1 b1; split at b2
    · rename_i k3 hd; obtain rfl : k3 = k2 := of_decide_eq_true b2; refine ⟨.int k3 p, RepV.ofInt _ _, rfl, ?_⟩; unfold purely convert; simp only [runPure_bind, runPure_underlying hs, runPure_underlying hd, Option.bind_some]; show (runPure P (Conv.intToInt k3 p)).bind _ = _; simp only [Conv.intToInt, runPure_pure, Option.bind_some, hw]; rfl
    cases b2
theorem CalmV.func {f : FuncId} {a c : Array Operand} {us vs : List PV} (ha : evVs fl a.toList = some us := by rfl) (hc : evVs fl c.toList = some vs := by rfl) : CalmV P fl σ (.makeFunc (.func f) a c) (.clo f us vs) :=
  ⟨rfl, fun h S t hs _ => by
    have aux : ∀ (l : List Operand) (vs : List PV), (∀ x ∈ l, ∀ pv, evV fl x = some pv → RepPV h S pv (evalO t x)) → evVs fl l = some vs → RepL h S vs (l.map (evalO t)) := by
      intro l
      induction l with
      | nil => intro vs _ hx; obtain rfl := Option.some.inj hx; rfl
      | cons x r ih =>
        intro vs hq hx; simp only [evVs] at hx; split at hx
        · rename_i v vs0 hv hvs; obtain rfl := Option.some.inj hx; exact ⟨_, _, rfl, hq x List.mem_cons_self _ hv, ih vs0 (fun y hy => hq y (List.mem_cons_of_mem _ hy)) hvs⟩
        cases hx
    refine ⟨.func (.func f) (a.map (evalO t)) (c.map (evalO t)), ⟨a.toList.map (evalO t), c.toList.map (evalO t), by congr 1 <;> (apply Array.toList_inj.1; simp), aux _ _ (fun x hx => hs x (by simp [Op.operands]; left; simpa using hx)) ha, aux _ _ (fun x hx => hs x (by simp [Op.operands]; right; simpa using hx)) hc⟩, fun _ _ _ _ _ H => rfl⟩⟩
theorem RepL.get : ∀ {l : List PV} {us : List Value} {i : Nat} {p : PV}, RepL h S l us → l[i]? = some p → ∃ u, us[i]? = some u ∧ RepPV h S p u
  | [], us, i, p, _, hp => by simp at hp
  | q :: qs, us, i, p, ⟨u, r, h1, h2, h3⟩, hp => by
    subst h1
    cases i with
    | zero => simp only [List.getElem?_cons_zero, Option.some.injEq] at hp; subst hp; exact ⟨u, rfl, h2⟩
    | succ i =>
      obtain ⟨w, e1, e2⟩ := RepL.get (l := qs) (us := r) (i := i) h3 (by simpa using hp); exact ⟨w, by simpa using e1, e2⟩
theorem CalmV.extract {l : List PV} {i : Nat} (hx : evV fl x = some (.tup l) := by rfl) (hi : l[i]? = some pv := by rfl) (h2 : Nat.ble 2 l.length = true := by rfl) : CalmV P fl σ (.extract x i) pv :=
  ⟨rfl, fun h S t hs _ => by
    obtain ⟨us, h3, h4⟩ := hs x (by simp [Op.operands]) _ hx; obtain ⟨u, h5, h6⟩ := h4.get hi; have hlen := h4.len; refine ⟨u, h6, fun _ _ _ _ _ H => ?_⟩; show (bif isJunk (evalO t x) then none else (runPure P (Instr.extract (evalO t x) i)).map _) = _; rw [h3]
    have hj : isJunk (.tuple us.toArray) = false := by
      unfold isJunk; split
      · rename_i hh
        have : us = [.tuple ⟨[]⟩] := by simpa using congrArg (fun v => match v with | Value.tuple a => a.toList | _ => []) hh
        rw [this] at hlen; have := nble h2; simp at hlen; omega
      rfl
    rw [hj]; simp only [cond_false, Instr.extract]
    have : us.toArray[i]? = some u := by simpa using h5
    rw [this]
    rfl⟩
inductive Sub : (τ : Ty) → τ.den → Nat → (τ' : Ty) → τ'.den → Prop where
  | o {τ : Ty} {x : τ.den} : Sub τ x 0 τ x
  | l {a b : Ty} {x : (Ty.pair a b).den} {k : Nat} {τ' : Ty} {y : τ'.den} (hs : Sub a x.1 k τ' y) : Sub (.pair a b) x k τ' y
  | r {a b : Ty} {x : (Ty.pair a b).den} {k k' : Nat} {τ' : Ty} {y : τ'.den} (hs : Sub b x.2 k τ' y) (hk : k' = a.size + k := by rfl) : Sub (.pair a b) x k' τ' y
theorem Sub.repC {τ : Ty} {x : τ.den} {k : Nat} {τ' : Ty} {y : τ'.den} (hs : Sub τ x k τ' y) : ∀ {cs : List Value}, RepC h S τ cs x → k + τ'.size ≤ cs.length ∧ RepC h S τ' ((cs.drop k).take τ'.size) y := by
  induction hs with
  | o =>
    intro cs hx; have := hx.len
    exact ⟨by omega, by rw [List.drop_zero, List.take_of_length_le (by omega)]; exact hx⟩
  | @l a b x k τ' y hs ih =>
    intro cs hx; obtain ⟨h1, h2⟩ := ih hx.1; rw [List.length_take] at h1; refine ⟨by omega, ?_⟩; rw [List.drop_take, List.take_take, Nat.min_eq_left (by omega)] at h2
    exact h2
  | @r a b x k k' τ' y hs hk ih =>
    intro cs hx; obtain ⟨h1, h2⟩ := ih hx.2; rw [List.length_drop] at h1; have hl := hx.len; have hsz : (Ty.pair a b).size = a.size + b.size := rfl; subst hk; rw [List.drop_drop] at h2; refine ⟨?_, h2⟩; have := RepC.len h2; rw [List.length_take, List.length_drop] at this; by_cases h0 : τ'.size = 0
    · have hlb := hx.2.len; rw [List.length_drop] at hlb; omega
    omega
theorem CalmV.fa {s : TypeId} {f k : Nat} {dx : τ.den} {dy : τ'.den} (hs : Sub τ dx k τ' dy) (hb : offB P s f k = true := by kernel_rfl) (hx : evV fl x = some (.p τ dx) := by rfl) : CalmV P fl σ (.fieldAddr s x f) (.p τ' dy) :=
  ⟨rfl, fun h S t hq _ => by
    have hp : RepP h S τ (evalO t x) dx := hq x (by simp [Op.operands]) _ hx; refine ⟨padd (evalO t x) k, ?_, fun _ _ _ _ _ H => ?_⟩
    · obtain ⟨b', o, e', rs, own, more, h1, h2, h3, h4, h5⟩ := hp; obtain ⟨h6, h7⟩ := hs.repC h5; rw [List.length_take, List.length_drop] at h6; refine ⟨b', o + k, e', rs, own, more, by rw [h1]; rfl, h2, h3, by omega, ?_⟩; rw [List.drop_take, List.take_take, List.drop_drop, Nat.min_eq_left (by omega)] at h7; exact h7
    show (runPure P (Instr.fieldAt s (evalO t x) f)).map _ = _
    rw [hp.fa hb]; rfl⟩
theorem isAggD_run {t : TypeId} {dd : TypeDesc} (h : P.underlying t = some dd) : runPure P (isAgg t) = some (isAggD dd) := by
  unfold isAgg; rw [runPure_bind, runPure_underlying h]; cases dd <;> rfl
def fldB (P : Program) (s : TypeId) (f k : Nat) (τ' : Ty) : Bool :=
  match P.underlying s with
  | some (.struct fs) => match fs[f]? with
    | some fd => Nat.beq fd.offset k && (match P.info? fd.type, P.underlying fd.type with | some i, some dd => Nat.beq i.size τ'.size && (isAggD dd == τ'.agg) | _, _ => false)
    | none => false
  | _ => false
theorem CalmV.fld {f k : Nat} {dx : τ.den} {dy : τ'.den} (hs : Sub τ dx k τ' dy) (ha : τ.agg = true := by rfl) (hb : fldB P T f k τ' = true := by kernel_rfl) (hx : evV fl x = some (.v τ dx) := by rfl) : CalmV P fl σ (.field T x f) (.v τ' dy) :=
  ⟨rfl, fun h S t hq _ => by
    have hp : RepV h S τ (evalO t x) dx := hq x (by simp [Op.operands]) _ hx; unfold fldB at hb; split at hb
    · rename_i fs hfs; split at hb
      · rename_i fd hfd; obtain ⟨b1, b2⟩ := band hb; obtain rfl := nbeq b1; split at b2
        · rename_i i dd hi hdd; obtain ⟨b3, b4⟩ := band b2; have hsz := nbeq b3
          have hag : isAggD dd = τ'.agg := by simpa using b4
          have h1 := hp.1; rw [ha] at h1
          cases hev : evalO t x with
          | agg cs =>
            rw [hev] at hp; obtain ⟨k1, k2⟩ := hs.repC hp.2; have hcells : (Value.agg cs).cells.toList = cs.toList := rfl; rw [hcells] at k1 k2
            cases hta : τ'.agg with
            | true =>
              refine ⟨.agg (cs.extract fd.offset (fd.offset + i.size)), ⟨by rw [hta]; rfl, ?_⟩, fun _ _ _ _ _ H => ?_⟩
              · show RepC h S τ' (cs.extract fd.offset (fd.offset + i.size)).toList dy
                have e1 : (cs.extract fd.offset (fd.offset + i.size)).toList = (cs.toList.drop fd.offset).take τ'.size := by
                  rw [Array.toList_extract, List.extract_eq_take_drop, hsz]; congr 1; omega
                rw [e1]; exact k2
              show (runPure P (Instr.field T (evalO t x) f)).map _ = _; unfold Instr.field; rw [runPure_bind, runPure_underlying hfs]; simp only [Option.bind_some, hfd, hev]
              have hpt : runPure P (part fd.type cs fd.offset) = some (.agg (cs.extract fd.offset (fd.offset + i.size))) := by
                unfold part; rw [runPure_bind, isAggD_run hdd, hag, hta]; simp only [Option.bind_some, if_true, runPure_bind, runPure_sizeOf hi]; rfl
              show ((runPure P (asAgg (.agg cs) >>= fun c => part fd.type c fd.offset)).map _) = _; show ((runPure P (part fd.type cs fd.offset)).map _) = _
              rw [hpt]; rfl
            | false =>
              have h1s := Ty.size_one hta; rw [h1s] at k1 k2
              have ho : fd.offset < cs.toList.length := by omega
              rw [take_one ho] at k2; obtain ⟨u, hu, hv⟩ := RepC.one hta k2; simp only [List.cons.injEq, and_true] at hu; refine ⟨u, hv, fun _ _ _ _ _ H => ?_⟩; show (runPure P (Instr.field T (evalO t x) f)).map _ = _; unfold Instr.field; rw [runPure_bind, runPure_underlying hfs]; simp only [Option.bind_some, hfd, hev]
              have hg : cs[fd.offset]? = some u := by
                rw [← hu]
                have : fd.offset < cs.size := by simpa using ho
                simp [this]
              have hpt : runPure P (part fd.type cs fd.offset) = some u := by
                unfold part; rw [runPure_bind, isAggD_run hdd, hag, hta]; simp only [Option.bind_some, Bool.false_eq_true, if_false, hg]; rfl
              show ((runPure P (part fd.type cs fd.offset)).map _) = _
              rw [hpt]; rfl
          | _ => rw [hev] at h1; cases h1
        cases b2
      cases hb
    cases hb⟩
end Go.Fs
