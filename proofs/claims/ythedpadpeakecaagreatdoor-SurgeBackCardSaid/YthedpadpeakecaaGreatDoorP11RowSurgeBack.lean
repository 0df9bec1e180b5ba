/- The tied card of the law that is named in the last theorem: the law answers true for every input, and each argument reads as before. No condition. -/
import Derived.Test.YthedpadpeakecaaGreatDoorCards
import Derived.Test.YthedpadpeakecaaGreatDoorTie
import Derived.Test.YthedpadpeakecaaGreatDoorP8
import Derived.Test.YthedpadpeakecaaGreatDoorP10FactsSurgeBack
import Derived.Test.YthedpadpeakecaaGreatDoorP2
import Derived.WalkKit
import Derived.ProofKit
import Derived.LaidMore
import Derived.Deep.DeepHandedRow
import Derived.Lib.LaidTab
set_option linter.all false
namespace Go.Proofs.YthedpadpeakecaaGreatDoor.surgeBack
open Go.ChangeShapes Go.WideShapes Go.ChangeAt Go.RowKit Go.Fs
theorem law_E (h : Heap) (v0 : Value) (v1 : Value) (v2 : Value) (x0 : ((.pair (.int .i64) (.pair (.int .i64) (.pair (.int .i64) (.sl (.pair .str (.int .i64)))))) : Ty).den) (x1 : ((.sl (.pair (.int .i64) (.pair .str (.pair (.int .i64) (.pair (.int .i64) (.sl (.flt .f32))))))) : Ty).den) (x2 : (.str : Ty).den) (hok : HOkG h) (r0 : RepV h [] (.pair (.int .i64) (.pair (.int .i64) (.pair (.int .i64) (.sl (.pair .str (.int .i64)))))) v0 x0) (r1 : RepV h [] (.sl (.pair (.int .i64) (.pair .str (.pair (.int .i64) (.pair (.int .i64) (.sl (.flt .f32))))))) v1 x1) (r2 : RepV h [] .str v2 x2) (w0 : Wf (.pair (.int .i64) (.pair (.int .i64) (.pair (.int .i64) (.sl (.pair .str (.int .i64)))))) x0) (w1 : Wf (.sl (.pair (.int .i64) (.pair .str (.pair (.int .i64) (.pair (.int .i64) (.sl (.flt .f32))))))) x1) (w2 : Wf .str x2) : EvF Tryz.prog OA 4 [v0, v1, v2] h fun r h' => r = .bool true ∧ h' = h :=
  (lawBack_ok (wfL w0.2.2.2) (wfL w1)).law hok ⟨v0, [v1, v2], rfl, r0, v1, [v2], rfl, r1, v2, [], rfl, r2, rfl⟩
set_option maxRecDepth 100000 in
theorem contract (H : Type) (enc : TypeId × Value → H) (W : World) (base : Nat) (args : Array Value) (ds gs : List (DataW H)) (before : List MemPlace)
    (hval : ∀ (j : Nat) t v, Tryz.f4.params[j]? = some t → args[j]? = some v → Value.okWide Tryz.prog W .any base t v)
    (hW : DataW.Whole enc Tryz.prog Tryz.f4.params.toList Rows.surgeBackSpec.vars false W args.toList ds gs before) (hL : laidMet Tryz.prog Rows.surgeBackRow.laid W) :
    Calls Tryz.prog 4 args W fun e W' => ∃ v, e = .returned v ∧ Rows.surgeBackSpec.post enc Tryz.prog Tryz.f4 false true false false W args v W' := by
  obtain ⟨p0, q0, hA, _⟩ := id hW
  have hlen : ∃ d0 d1 d2, ds = [d0, d1, d2] := by
    have hA' := hA; rw [Tryz.params4] at hA'; obtain ⟨v0, vs0, d0, ds0, p0, q0, _, rfl, _, _, r0⟩ := trodAll_cons hA'; obtain ⟨v1, vs1, d1, ds1, p1, q1, _, rfl, _, _, r1⟩ := trodAll_cons r0; obtain ⟨v2, vs2, d2, ds2, p2, q2, _, rfl, _, _, r2⟩ := trodAll_cons r1; obtain ⟨_, rfl, _⟩ := trodAll_nil r2; exact ⟨d0, d1, d2, rfl⟩
  obtain ⟨d0, d1, d2, rfl⟩ := hlen
  have hgs : gs = [] := by
    obtain ⟨p, q, _, hV, _⟩ := hW; exact (trodVars_none hV).1
  subst hgs; refine (law_calls3 (fn := Tryz.f4) (n := 12) (τ0 := (.pair (.int .i64) (.pair (.int .i64) (.pair (.int .i64) (.sl (.pair .str (.int .i64))))))) (τ1 := (.sl (.pair (.int .i64) (.pair .str (.pair (.int .i64) (.pair (.int .i64) (.sl (.flt .f32)))))))) (τ2 := .str) tzOk (orcOk hL) (seatHr hL) tzGT ⟨_, Tryz.func4, rfl, by kernel_rfl⟩ Tryz.params4 (by kernel_rfl) (by kernel_rfl) (by kernel_rfl) law_E hval hA).mono fun e W' he => ?_
  cases e with
  | returned v =>
    obtain ⟨rfl, hb⟩ := he
    exact ⟨_, rfl, law_post (s := Rows.surgeBackSpec) laidOut (by kernel_rfl) (by kernel_rfl) Tryz.underlying4 rfl hW rfl rfl rfl hb⟩
  | panicked c => exact he.elim
  | outgrown => exact he.elim
theorem met (os : Os) (args : Array Value) : laidMet Tryz.prog Rows.surgeBackRow.laid ((doorWorld os).forCall (fun _ _ => 0) ⟨#[], args, []⟩).memory := (LaidIn.of_run (List.range 60) 8 (by kernel_rfl) (by kernel_rfl) (by kernel_rfl) (by kernel_rfl)).met
theorem reads (os : Os) {H : Type} (enc : TypeId × Value → H) : ∃ places, DataW.whole enc Tryz.prog ((doorWorld os).forCall (fun _ _ => 0) ⟨#[], #[.agg #[.int .i64 0, .int .i64 0, .int .i64 0, .slice none 0 0], .slice none 0 0, .string ByteArray.empty], []⟩).memory Tryz.f4.params.toList Rows.surgeBackSpec.vars false (#[.agg #[.int .i64 0, .int .i64 0, .int .i64 0, .slice none 0 0], .slice none 0 0, .string ByteArray.empty] : Array Value).toList 8 = some ([.agg [.lit (.int .i64 0), .lit (.int .i64 0), .lit (.int .i64 0), .nil], .nil, .lit (.string [])], [], places) :=
  ⟨[], by kernel_rfl⟩
set_option maxRecDepth 100000 in
theorem lifted (os : Os) (started : os.Started) (H : Type) (enc : TypeId × Value → H) (F : Stop.Interp) :
    ReturnsInHanded {} Tryz.checked os 4 .any ((OpenSpec.ofChange Rows.surgeBackSpec).preRow enc Tryz.prog Tryz.f4 Rows.surgeBackRow.domain false Rows.surgeBackRow.laid) (((OpenSpec.ofChange Rows.surgeBackSpec).at F).post enc Tryz.prog Tryz.f4 false true false false) := by
  obtain ⟨places, hx⟩ := reads os enc
  refine returnsInHanded_of_row (C := Tryz.checked) (s := OpenSpec.ofChange Rows.surgeBackSpec) own started (by kernel_rfl) Tryz.func4
    (witness_row_at (enc := enc) (C := Tryz.checked) false (doorWorld os) #[.agg #[.int .i64 0, .int .i64 0, .int .i64 0, .slice none 0 0], .slice none 0 0, .string ByteArray.empty] rfl (by kernel_rfl) (by kernel_rfl) (by kernel_rfl)
      (OpenSpec.preRow_of_cond 8 hx (by kernel_rfl) (fun k hk => by cases hk) (by kernel_rfl) (met os _))) ?_
  intro W base args ds gs before hval hW _ _ _ hL _ _; exact contract H enc W base args ds gs before hval hW hL
theorem said : Rows.SurgeBackSaid :=
  OpenClaim.holds_of_cond 4 Tryz.f4 rfl rfl rfl rfl rfl rfl rfl ⟨rfl, rfl, rfl, rfl, rfl⟩ rfl rfl rfl rfl rfl (by kernel_rfl) Tryz.func4 surgeBack_joined
    (of_decide_eq_true (by kernel_rfl)) (by unfold Func.isWrapper; first | (rw [if_pos (by decide +kernel)]; kernel_rfl) | (rw [if_neg (by decide +kernel)]; exact ⟨rfl, rfl⟩))
    (fun os started H enc _ F => by rw [OpenClaim.pre_eq_preRow]; exact lifted os started H enc F)
theorem plain (f : FuncId) (fn : Func) (hf : Tryz.pinned.checked.prog.funcNamed "tideway/tidewaylaw03.SurgeBack" = some f) (hfn : Tryz.pinned.checked.prog.funcs[f]? = some fn) :
    true = Tryz.pinned.checked.prog.looks [] ∧ ∀ (j : Nat) t, fn.params[j]? = some t → Tryz.pinned.checked.prog.wantsStandIn t = false := by
  obtain rfl : f = 4 := Option.some.inj ((show Tryz.prog.funcNamed "tideway/tidewaylaw03.SurgeBack" = some 4 by kernel_rfl).symm.trans hf) |>.symm; obtain rfl : fn = Tryz.f4 := (Option.some.inj (Tryz.func4.symm.trans hfn)).symm; refine ⟨by kernel_rfl, fun j t ht => ?_⟩
  have hall : (Tryz.f4.params.toList.all fun t => !Tryz.pinned.checked.prog.wantsStandIn t) = true := by kernel_rfl
  have := List.all_eq_true.1 hall t (by rw [Array.mem_toList_iff]; exact Array.mem_of_getElem? ht); simpa using this
theorem card : Rows.SurgeBackCardSaid :=
  Claim7.holds_tied_plain_at .later [] _ _ _ _ said (fun _ h => by cases h) (by kernel_rfl) (fun _ h => by cases h) surgeBack_row_tie rfl ⟨rfl, rfl⟩ (by kernel_rfl) rfl plain (by kernel_rfl)
#print axioms card
end Go.Proofs.YthedpadpeakecaaGreatDoor.surgeBack
