/- The tied card of the law that is named in the last theorem: the law answers true for every input, and each argument reads as before. No condition. -/
import Derived.Test.YteooaaiacpcfoaaGreatDoorCards
import Derived.Test.YteooaaiacpcfoaaGreatDoorTie
import Derived.Test.YteooaaiacpcfoaaGreatDoorP8
import Derived.Test.YteooaaiacpcfoaaGreatDoorP10FactsGaugeTexts
import Derived.Test.YteooaaiacpcfoaaGreatDoorP6
import Derived.Test.YteooaaiacpcfoaaGreatDoorP2
import Derived.WalkKit
import Derived.ProofKit
import Derived.LaidMore
import Derived.Deep.DeepHandedRow
import Derived.Lib.LaidTab
set_option linter.all false
namespace Go.Proofs.YteooaaiacpcfoaaGreatDoor.gaugeTexts
open Go.ChangeShapes Go.WideShapes Go.ChangeAt Go.RowKit Go.Fs
theorem law_E (h : Heap) (v0 : Value) (v1 : Value) (x0 : ((.pair .str (.pair (.int .i64) (.pair (.sl (.flt .f32)) (.sl (.pair (.int .i64) (.int .i64)))))) : Ty).den) (x1 : (.str : Ty).den) (hok : HOkG h) (r0 : RepV h [] (.pair .str (.pair (.int .i64) (.pair (.sl (.flt .f32)) (.sl (.pair (.int .i64) (.int .i64)))))) v0 x0) (r1 : RepV h [] .str v1 x1) (w0 : Wf (.pair .str (.pair (.int .i64) (.pair (.sl (.flt .f32)) (.sl (.pair (.int .i64) (.int .i64)))))) x0) (w1 : Wf .str x1) : EvF Tryz.prog OA 4 [v0, v1] h fun r h' => r = .bool true ∧ h' = h :=
  (lawTexts_ok ).law hok ⟨v0, [v1], rfl, r0, v1, [], rfl, r1, rfl⟩
set_option maxRecDepth 100000 in
theorem contract (H : Type) (enc : TypeId × Value → H) (W : World) (base : Nat) (args : Array Value) (ds gs : List (DataW H)) (before : List MemPlace)
    (hval : ∀ (j : Nat) t v, Tryz.f4.params[j]? = some t → args[j]? = some v → Value.okWide Tryz.prog W .any base t v)
    (hW : DataW.Whole enc Tryz.prog Tryz.f4.params.toList Rows.gaugeTextsSpec.vars false W args.toList ds gs before) (hL : laidMet Tryz.prog Rows.gaugeTextsRow.laid W) :
    Calls Tryz.prog 4 args W fun e W' => ∃ v, e = .returned v ∧ Rows.gaugeTextsSpec.post enc Tryz.prog Tryz.f4 false true false false W args v W' := by
  obtain ⟨p0, q0, hA, _⟩ := id hW
  have hlen : ∃ d0 d1, ds = [d0, d1] := by
    have hA' := hA; rw [Tryz.params4] at hA'; obtain ⟨v0, vs0, d0, ds0, p0, q0, _, rfl, _, _, r0⟩ := trodAll_cons hA'; obtain ⟨v1, vs1, d1, ds1, p1, q1, _, rfl, _, _, r1⟩ := trodAll_cons r0; obtain ⟨_, rfl, _⟩ := trodAll_nil r1; exact ⟨d0, d1, rfl⟩
  obtain ⟨d0, d1, rfl⟩ := hlen
  have hgs : gs = [] := by
    obtain ⟨p, q, _, hV, _⟩ := hW; exact (trodVars_none hV).1
  subst hgs; refine (law_calls2 (fn := Tryz.f4) (n := 12) (τ0 := (.pair .str (.pair (.int .i64) (.pair (.sl (.flt .f32)) (.sl (.pair (.int .i64) (.int .i64))))))) (τ1 := .str) tzOk (orcOk hL) (seatHr hL) tzGT ⟨_, Tryz.func4, rfl, by kernel_rfl⟩ Tryz.params4 (by kernel_rfl) (by kernel_rfl) law_E hval hA).mono fun e W' he => ?_
  cases e with
  | returned v =>
    obtain ⟨rfl, hb⟩ := he
    exact ⟨_, rfl, law_post (s := Rows.gaugeTextsSpec) laidOut (by kernel_rfl) (by kernel_rfl) Tryz.underlying4 rfl hW rfl rfl rfl hb⟩
  | panicked c => exact he.elim
  | outgrown => exact he.elim
theorem met (os : Os) (args : Array Value) : laidMet Tryz.prog Rows.gaugeTextsRow.laid ((doorWorld os).forCall (fun _ _ => 0) ⟨#[], args, []⟩).memory := (LaidIn.of_run (List.range 60) 8 (by kernel_rfl) (by kernel_rfl) (by kernel_rfl) (by kernel_rfl)).met
theorem reads (os : Os) {H : Type} (enc : TypeId × Value → H) : ∃ places, DataW.whole enc Tryz.prog ((doorWorld os).forCall (fun _ _ => 0) ⟨#[], #[.agg #[.string ByteArray.empty, .int .i64 0, .slice none 0 0, .slice none 0 0], .string ByteArray.empty], []⟩).memory Tryz.f4.params.toList Rows.gaugeTextsSpec.vars false (#[.agg #[.string ByteArray.empty, .int .i64 0, .slice none 0 0, .slice none 0 0], .string ByteArray.empty] : Array Value).toList 8 = some ([.agg [.lit (.string []), .lit (.int .i64 0), .nil, .nil], .lit (.string [])], [], places) :=
  ⟨[], by kernel_rfl⟩
set_option maxRecDepth 100000 in
theorem lifted (os : Os) (started : os.Started) (H : Type) (enc : TypeId × Value → H) (F : Stop.Interp) :
    ReturnsInHanded {} Tryz.checked os 4 .any ((OpenSpec.ofChange Rows.gaugeTextsSpec).preRow enc Tryz.prog Tryz.f4 Rows.gaugeTextsRow.domain false Rows.gaugeTextsRow.laid) (((OpenSpec.ofChange Rows.gaugeTextsSpec).at F).post enc Tryz.prog Tryz.f4 false true false false) := by
  obtain ⟨places, hx⟩ := reads os enc
  refine returnsInHanded_of_row (C := Tryz.checked) (s := OpenSpec.ofChange Rows.gaugeTextsSpec) own started (by kernel_rfl) Tryz.func4
    (witness_row_at (enc := enc) (C := Tryz.checked) false (doorWorld os) #[.agg #[.string ByteArray.empty, .int .i64 0, .slice none 0 0, .slice none 0 0], .string ByteArray.empty] rfl (by kernel_rfl) (by kernel_rfl) (by kernel_rfl)
      (OpenSpec.preRow_of_cond 8 hx (by kernel_rfl) (fun k hk => by cases hk) (by kernel_rfl) (met os _))) ?_
  intro W base args ds gs before hval hW _ _ _ hL _ _; exact contract H enc W base args ds gs before hval hW hL
theorem said : Rows.GaugeTextsSaid :=
  OpenClaim.holds_of_cond 4 Tryz.f4 rfl rfl rfl rfl rfl rfl rfl ⟨rfl, rfl, rfl, rfl, rfl⟩ rfl rfl rfl rfl rfl (by kernel_rfl) Tryz.func4 gaugeTexts_joined
    (of_decide_eq_true (by kernel_rfl)) (by unfold Func.isWrapper; first | (rw [if_pos (by decide +kernel)]; kernel_rfl) | (rw [if_neg (by decide +kernel)]; exact ⟨rfl, rfl⟩))
    (fun os started H enc _ F => by rw [OpenClaim.pre_eq_preRow]; exact lifted os started H enc F)
theorem plain (f : FuncId) (fn : Func) (hf : Tryz.pinned.checked.prog.funcNamed "tideway/tidewaylaw01.GaugeTexts" = some f) (hfn : Tryz.pinned.checked.prog.funcs[f]? = some fn) :
    true = Tryz.pinned.checked.prog.looks [] ∧ ∀ (j : Nat) t, fn.params[j]? = some t → Tryz.pinned.checked.prog.wantsStandIn t = false := by
  obtain rfl : f = 4 := Option.some.inj ((show Tryz.prog.funcNamed "tideway/tidewaylaw01.GaugeTexts" = some 4 by kernel_rfl).symm.trans hf) |>.symm; obtain rfl : fn = Tryz.f4 := (Option.some.inj (Tryz.func4.symm.trans hfn)).symm; refine ⟨by kernel_rfl, fun j t ht => ?_⟩
  have hall : (Tryz.f4.params.toList.all fun t => !Tryz.pinned.checked.prog.wantsStandIn t) = true := by kernel_rfl
  have := List.all_eq_true.1 hall t (by rw [Array.mem_toList_iff]; exact Array.mem_of_getElem? ht); simpa using this
theorem card : Rows.GaugeTextsCardSaid :=
  Claim7.holds_tied_plain_at .later [] _ _ _ _ said (fun _ h => by cases h) (by kernel_rfl) (fun _ h => by cases h) gaugeTexts_row_tie rfl ⟨rfl, rfl⟩ (by kernel_rfl) rfl plain (by kernel_rfl)
#print axioms card
end Go.Proofs.YteooaaiacpcfoaaGreatDoor.gaugeTexts
