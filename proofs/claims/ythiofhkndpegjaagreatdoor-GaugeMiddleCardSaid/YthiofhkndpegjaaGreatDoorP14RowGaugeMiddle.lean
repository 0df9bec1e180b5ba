/- The tied card of the law that is named in the last theorem: the law answers true for every input, and each argument reads as before. No condition. -/
import Derived.Test.YthiofhkndpegjaaGreatDoorCards
import Derived.Test.YthiofhkndpegjaaGreatDoorTie
import Derived.Test.YthiofhkndpegjaaGreatDoorP8
import Derived.Test.YthiofhkndpegjaaGreatDoorP11
import Derived.Test.YthiofhkndpegjaaGreatDoorP13FactsGaugeMiddle
import Derived.WalkKit
import Derived.ProofKit
import Derived.LaidMore
import Derived.Deep.DeepHandedRow
import Derived.Lib.LaidTab
set_option linter.all false
namespace Go.Proofs.YthiofhkndpegjaaGreatDoor.gaugeMiddle
open Go.ChangeShapes Go.WideShapes Go.ChangeAt Go.RowKit Go.Fs
abbrev wz0 : Array Value := #[.agg #[.string ByteArray.empty, .int .i64 0, .slice none 0 0, .slice none 0 0, .string ByteArray.empty, .int .i64 0, .slice none 0 0, .slice none 0 0, .string ByteArray.empty, .int .i64 0, .slice none 0 0, .slice none 0 0], .int .u8 0]
theorem law_E (h : Heap) (v0 v1 : Value) (x0 : (y84 : Ty).den) (x1 : ((.int .u8) : Ty).den) (hok : HOk h) (r0 : RepV h [] y84 v0 x0) (r1 : RepV h [] (.int .u8) v1 x1) (w0 : Wf y84 x0) (w1 : Wf (.int .u8) x1) : EvF Tryz.prog OA 11 [v0, v1] h fun r h' => r = .bool true ∧ h' = h :=
  (law12_ok (wf8u w1)).law hok ⟨v0, [v1], rfl, r0, v1, [], rfl, r1, rfl⟩
set_option maxRecDepth 100000 in
theorem contract (H : Type) (enc : TypeId × Value → H) (W : World) (base : Nat) (args : Array Value) (ds gs : List (DataW H)) (before : List MemPlace)
    (hval : ∀ (j : Nat) t v, Tryz.f11.params[j]? = some t → args[j]? = some v → Value.okWide Tryz.prog W .any base t v)
    (hW : DataW.Whole enc Tryz.prog Tryz.f11.params.toList Rows.gaugeMiddleSpec.vars false W args.toList ds gs before) (hL : laidMet Tryz.prog Rows.gaugeMiddleRow.laid W) :
    Calls Tryz.prog 11 args W fun e W' => ∃ v, e = .returned v ∧ Rows.gaugeMiddleSpec.post enc Tryz.prog Tryz.f11 false true false false W args v W' := by
  obtain ⟨p0, q0, hA, _⟩ := id hW
  have hlen : ∃ d0 d1, ds = [d0, d1] := by
    have hA' := hA; rw [Tryz.params11] at hA'; obtain ⟨v0, vs0, d0, ds0, p0, q0, _, rfl, _, _, r0⟩ := trodAll_cons hA'; obtain ⟨v1, vs1, d1, ds1, p1, q1, _, rfl, _, _, r1⟩ := trodAll_cons r0; obtain ⟨_, rfl, _⟩ := trodAll_nil r1; exact ⟨d0, d1, rfl⟩
  obtain ⟨d0, d1, rfl⟩ := hlen
  have hgs : gs = [] := by
    obtain ⟨p, q, _, hV, _⟩ := hW; exact (trodVars_none hV).1
  subst hgs; refine (law_calls2 (fn := Tryz.f11) (n := 12) (τ0 := y84) (τ1 := (.int .u8)) tzOk (orcOk (powTab hL)) ⟨_, Tryz.func11, rfl, by kernel_rfl⟩ Tryz.params11 (by kernel_rfl) (by kernel_rfl) law_E hval hA).mono fun e W' he => ?_
  cases e with
  | returned v =>
    obtain ⟨rfl, hb⟩ := he
    exact ⟨_, rfl, law_post (s := Rows.gaugeMiddleSpec) laidOut (by kernel_rfl) (by kernel_rfl) Tryz.underlying4 rfl hW rfl rfl rfl hb⟩
  | panicked c => exact he.elim
  | outgrown => exact he.elim
theorem met (os : Os) (args : Array Value) : laidMet Tryz.prog Rows.gaugeMiddleRow.laid ((doorWorld os).forCall (fun _ _ => 0) ⟨#[], args, []⟩).memory := laidMet_of_run' 8 (by kernel_rfl) (by kernel_rfl)
theorem reads (os : Os) {H : Type} (enc : TypeId × Value → H) : ∃ places, DataW.whole enc Tryz.prog ((doorWorld os).forCall (fun _ _ => 0) ⟨#[], wz0, []⟩).memory Tryz.f11.params.toList Rows.gaugeMiddleSpec.vars false (wz0 : Array Value).toList 8 = some ([.agg [.agg [.lit (.string []), .lit (.int .i64 0), .nil, .nil], .agg [.lit (.string []), .lit (.int .i64 0), .nil, .nil], .agg [.lit (.string []), .lit (.int .i64 0), .nil, .nil]], .lit (.int .u8 0)], [], places) :=
  ⟨[], by kernel_rfl⟩
set_option maxRecDepth 100000 in
theorem lifted (os : Os) (started : os.Started) (H : Type) (enc : TypeId × Value → H) (F : Stop.Interp) :
    ReturnsInHanded {} Tryz.checked os 11 .any ((OpenSpec.ofChange Rows.gaugeMiddleSpec).preRow enc Tryz.prog Tryz.f11 Rows.gaugeMiddleRow.domain false Rows.gaugeMiddleRow.laid) (((OpenSpec.ofChange Rows.gaugeMiddleSpec).at F).post enc Tryz.prog Tryz.f11 false true false false) := by
  obtain ⟨places, hx⟩ := reads os enc
  refine returnsInHanded_of_row (C := Tryz.checked) (s := OpenSpec.ofChange Rows.gaugeMiddleSpec) own started (by kernel_rfl) Tryz.func11
    (witness_row_at (enc := enc) (C := Tryz.checked) false (doorWorld os) wz0 rfl (by kernel_rfl) (by kernel_rfl) (by kernel_rfl)
      (OpenSpec.preRow_of_cond 8 hx (by kernel_rfl) (fun k hk => by cases hk) (by kernel_rfl) (met os _))) ?_
  intro W base args ds gs before hval hW _ _ _ hL _ _; exact contract H enc W base args ds gs before hval hW hL
theorem said : Rows.GaugeMiddleSaid :=
  OpenClaim.holds_of_cond 11 Tryz.f11 rfl rfl rfl rfl rfl rfl rfl ⟨rfl, rfl, rfl, rfl, rfl⟩ rfl rfl rfl rfl rfl (by kernel_rfl) Tryz.func11 gaugeMiddle_joined
    (of_decide_eq_true (by kernel_rfl)) (by unfold Func.isWrapper; first | (rw [if_pos (by decide +kernel)]; kernel_rfl) | (rw [if_neg (by decide +kernel)]; exact ⟨rfl, rfl⟩))
    (fun os started H enc _ F => by rw [OpenClaim.pre_eq_preRow]; exact lifted os started H enc F)
theorem plain (f : FuncId) (fn : Func) (hf : Tryz.pinned.checked.prog.funcNamed "tideway/tidewaylaw01.GaugeMiddle" = some f) (hfn : Tryz.pinned.checked.prog.funcs[f]? = some fn) :
    false = Tryz.pinned.checked.prog.looks [] ∧ ∀ (j : Nat) t, fn.params[j]? = some t → Tryz.pinned.checked.prog.wantsStandIn t = false := by
  obtain rfl : f = 11 := Option.some.inj ((show Tryz.prog.funcNamed "tideway/tidewaylaw01.GaugeMiddle" = some 11 by kernel_rfl).symm.trans hf) |>.symm; obtain rfl : fn = Tryz.f11 := (Option.some.inj (Tryz.func11.symm.trans hfn)).symm; refine ⟨by kernel_rfl, fun j t ht => ?_⟩
  have hall : (Tryz.f11.params.toList.all fun t => !Tryz.pinned.checked.prog.wantsStandIn t) = true := by kernel_rfl
  have := List.all_eq_true.1 hall t (by rw [Array.mem_toList_iff]; exact Array.mem_of_getElem? ht); simpa using this
theorem card : Rows.GaugeMiddleCardSaid :=
  Claim7.holds_tied_plain_at .later [] _ _ _ _ said (fun _ h => by cases h) (by kernel_rfl) (fun _ h => by cases h) gaugeMiddle_row_tie rfl ⟨rfl, rfl⟩ (by kernel_rfl) rfl plain (by kernel_rfl)
#print axioms card
end Go.Proofs.YthiofhkndpegjaaGreatDoor.gaugeMiddle
