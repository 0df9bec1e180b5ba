/- The tied card of the law that is named in the last theorem: the law answers true for every input, and each argument reads as before. No condition. -/
import Derived.Test.YtednnfllcafliaaGreatDoorCards
import Derived.Test.YtednnfllcafliaaGreatDoorTie
import Derived.Test.YtednnfllcafliaaGreatDoorP3
import Derived.Test.YtednnfllcafliaaGreatDoorP5TzBase
import Derived.Test.YtednnfllcafliaaGreatDoorP7Facts
import Derived.Test.YtednnfllcafliaaGreatDoorP8
import Derived.WalkKit
import Derived.ProofKit
import Derived.LaidMore
import Derived.Deep.DeepHandedRow
import Derived.Lib.LaidTab
import Derived.Stop.LaidErr
set_option linter.all false
namespace Go.Proofs.YtednnfllcafliaaGreatDoor
open Go.ChangeShapes Go.WideShapes Go.ChangeAt Go.RowKit Go.Fs

theorem own : ownKnob Tryz.prog.godebug = none := by kernel_rfl
theorem laidOut : laidOutB Tryz.prog = true := by kernel_rfl
theorem gPow : ∃ g : Nat, Tryz.prog.globalNamed "internal/strconv.uint64pow10" = some g ∧ (Tryz.prog.globals[g]?).map (·.type) = some 322 := ⟨2, by kernel_rfl, by kernel_rfl⟩
theorem powTab {W : World} {a b : String × DataW Unit} (h : laidMet Tryz.prog [a, b, ("internal/strconv.uint64pow10", Rows.laid_internal_strconv_uint64pow10)] W) : Lib.TabIs Tryz.prog W "internal/strconv.uint64pow10" .u64 Lib.pow10Tab := by
  obtain ⟨g, h1, h2⟩ := gPow
  exact Lib.tabIs_of_head (rest := []) h1 h2 Tryz.underlying322 Tryz.underlying291 (by kernel_rfl) (by kernel_rfl) (laidMet.tail (laidMet.tail h))
/-- The oracle is sound wherever the table of powers lies. -/
theorem orcOk {W : World} (ht : Lib.TabIs Tryz.prog W "internal/strconv.uint64pow10" .u64 Lib.pow10Tab) : CallSound Tryz.prog W.heap.size W OA := by
  have hS : ∀ w, Below W.heap.size W w → CallSound Tryz.prog w.heap.size w (orcS 211 154) := fun w hw =>
    tzOrc (Nat.le_refl _) fun w' hw' => (Lib.tabBelow_of_tabIs ht) w' (hw.trans (hw'.mono hw.size))
  exact orcA_sound (hS W (Below.refl _ _)) tzAwakeE fun w hw => awake_calls tzOk (fun w' hw' => hS w' hw') tzRun w hw

noncomputable def doorWorld (os : Os) : World := World.doorLaid Tryz.prog 24 os

theorem law1_E (h : Heap) (v0 v1 : Value) (x0 : (Ty.pair (.sl (.int .i64)) (.pair (.int .i64) (.int .i64))).den) (x1 : (Ty.sl (.int .i64)).den) (hok : HOk h) (r0 : RepV h [] (Ty.pair (.sl (.int .i64)) (.pair (.int .i64) (.int .i64))) v0 x0) (r1 : RepV h [] (.sl (.int .i64)) v1 x1)
    (_ : Wf (Ty.pair (.sl (.int .i64)) (.pair (.int .i64) (.int .i64))) x0) (_ : Wf (Ty.sl (.int .i64)) x1) : EvF Tryz.prog OA 3 [v0, v1] h fun r h' => r = .bool true ∧ h' = h :=
  law1_ok hok (fun b hb => by cases hb) r0 r1.sl
set_option maxRecDepth 100000 in
theorem contract1 (H : Type) (enc : TypeId × Value → H) (W : World) (base : Nat) (args : Array Value) (ds gs : List (DataW H)) (before : List MemPlace)
    (hval : ∀ (j : Nat) t v, Tryz.f3.params[j]? = some t → args[j]? = some v → Value.okWide Tryz.prog W .any base t v)
    (hW : DataW.Whole enc Tryz.prog Tryz.f3.params.toList Rows.surgeTransfersSpec.vars false W args.toList ds gs before) (hL : laidMet Tryz.prog Rows.surgeTransfersRow.laid W) :
    Calls Tryz.prog 3 args W fun e W' => ∃ v, e = .returned v ∧ Rows.surgeTransfersSpec.post enc Tryz.prog Tryz.f3 false true false false W args v W' := by
  obtain ⟨p0, q0, hA, _⟩ := id hW
  have hlen : ∃ d0 d1, ds = [d0, d1] := by
    have hA' := hA
    rw [Tryz.params3] at hA'
    obtain ⟨v0, vs0, d0, ds0, p0, q0, _, rfl, _, _, r0⟩ := trodAll_cons hA'
    obtain ⟨v1, vs1, d1, ds1, p1, q1, _, rfl, _, _, r1⟩ := trodAll_cons r0
    obtain ⟨_, rfl, _⟩ := trodAll_nil r1
    exact ⟨d0, d1, rfl⟩
  obtain ⟨d0, d1, rfl⟩ := hlen
  have hgs : gs = [] := by
    obtain ⟨p, q, _, hV, _⟩ := hW
    exact (trodVars_none hV).1
  subst hgs
  refine (law_calls2 (fn := Tryz.f3) (n := 9) (τ0 := Ty.pair (.sl (.int .i64)) (.pair (.int .i64) (.int .i64))) (τ1 := .sl (.int .i64)) tzOk (orcOk (powTab hL)) Tryz.params3 (by kernel_rfl) (by kernel_rfl) law1_E hval hA).mono fun e W' he => ?_
  cases e with
  | returned v =>
    obtain ⟨rfl, hb⟩ := he
    exact ⟨_, rfl, law_post (s := Rows.surgeTransfersSpec) laidOut (by kernel_rfl) (by kernel_rfl) Tryz.underlying4 rfl hW rfl rfl rfl hb⟩
  | panicked c => exact he.elim
  | outgrown => exact he.elim
theorem laid_met (os : Os) (args : Array Value) : laidMet Tryz.prog Rows.surgeTransfersRow.laid ((doorWorld os).forCall (fun _ _ => 0) ⟨#[], args, []⟩).memory := laidMet_of_run' 8 (by kernel_rfl) (by kernel_rfl)
theorem reads1 (os : Os) {H : Type} (enc : TypeId × Value → H) : ∃ places, DataW.whole enc Tryz.prog ((doorWorld os).forCall (fun _ _ => 0) ⟨#[], #[.agg #[.slice none 0 0, .int .i64 0, .int .i64 0], .slice none 0 0], []⟩).memory Tryz.f3.params.toList Rows.surgeTransfersSpec.vars false (#[.agg #[.slice none 0 0, .int .i64 0, .int .i64 0], .slice none 0 0] : Array Value).toList 8 = some ([.agg [.nil, .lit (.int .i64 0), .lit (.int .i64 0)], .nil], [], places) :=
  ⟨[], by kernel_rfl⟩
set_option maxRecDepth 100000 in
theorem lifted1 (os : Os) (started : os.Started) (H : Type) (enc : TypeId × Value → H) (F : Stop.Interp) :
    ReturnsInHanded {} Tryz.checked os 3 .any ((OpenSpec.ofChange Rows.surgeTransfersSpec).preRow enc Tryz.prog Tryz.f3 Rows.surgeTransfersRow.domain false Rows.surgeTransfersRow.laid) (((OpenSpec.ofChange Rows.surgeTransfersSpec).at F).post enc Tryz.prog Tryz.f3 false true false false) := by
  obtain ⟨places, hx⟩ := reads1 os enc
  refine returnsInHanded_of_row (C := Tryz.checked) (s := OpenSpec.ofChange Rows.surgeTransfersSpec) own started (by kernel_rfl) Tryz.func3
    (witness_row_at (enc := enc) (C := Tryz.checked) false (doorWorld os) #[.agg #[.slice none 0 0, .int .i64 0, .int .i64 0], .slice none 0 0] rfl (by kernel_rfl) (by kernel_rfl) (by kernel_rfl)
      (OpenSpec.preRow_of_cond 8 hx (by kernel_rfl) (fun k hk => by cases hk) (by kernel_rfl) (laid_met os _))) ?_
  intro W base args ds gs before hval hW _ _ _ hL _ _
  exact contract1 H enc W base args ds gs before hval hW hL
theorem said1 : Rows.SurgeTransfersSaid :=
  OpenClaim.holds_of_cond 3 Tryz.f3 rfl rfl rfl rfl rfl rfl rfl ⟨rfl, rfl, rfl, rfl, rfl⟩ rfl rfl rfl rfl rfl (by kernel_rfl) Tryz.func3 t1joined
    (of_decide_eq_true (by kernel_rfl)) (by unfold Func.isWrapper; first | (rw [if_pos (by decide +kernel)]; kernel_rfl) | (rw [if_neg (by decide +kernel)]; exact ⟨rfl, rfl⟩))
    (fun os started H enc _ F => by rw [OpenClaim.pre_eq_preRow]; exact lifted1 os started H enc F)
theorem plain1 (f : FuncId) (fn : Func) (hf : Tryz.pinned.checked.prog.funcNamed "tideway/tidewaylaw03.SurgeTransfers" = some f) (hfn : Tryz.pinned.checked.prog.funcs[f]? = some fn) :
    false = Tryz.pinned.checked.prog.looks [] ∧ ∀ (j : Nat) t, fn.params[j]? = some t → Tryz.pinned.checked.prog.wantsStandIn t = false := by
  obtain rfl : f = 3 := Option.some.inj ((show Tryz.prog.funcNamed "tideway/tidewaylaw03.SurgeTransfers" = some 3 by kernel_rfl).symm.trans hf) |>.symm
  obtain rfl : fn = Tryz.f3 := (Option.some.inj (Tryz.func3.symm.trans hfn)).symm
  refine ⟨by kernel_rfl, fun j t ht => ?_⟩
  have hall : (Tryz.f3.params.toList.all fun t => !Tryz.pinned.checked.prog.wantsStandIn t) = true := by kernel_rfl
  have := List.all_eq_true.1 hall t (by rw [Array.mem_toList_iff]; exact Array.mem_of_getElem? ht)
  simpa using this
theorem card1 : Rows.SurgeTransfersCardSaid :=
  Claim7.holds_tied_plain_at .later [] _ _ _ _ said1 (fun _ h => by cases h) (by kernel_rfl) (fun _ h => by cases h) surgeTransfers_row_tie rfl ⟨rfl, rfl⟩ (by kernel_rfl) rfl plain1 (by kernel_rfl)
#print axioms card1
end Go.Proofs.YtednnfllcafliaaGreatDoor
