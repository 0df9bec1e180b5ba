/- The tied card of the law that is named in the last theorem: the law answers true for every input, and each argument reads as before. No condition. -/
import Derived.Test.YtedakjflddcbbaaGreatDoorCards
import Derived.Test.YtedakjflddcbbaaGreatDoorTie
import Derived.Test.YtedakjflddcbbaaGreatDoorP8
import Derived.Test.YtedakjflddcbbaaGreatDoorP9
import Derived.Test.YtedakjflddcbbaaGreatDoorP11FactsSafetyTexts
import Derived.Test.YtedakjflddcbbaaGreatDoorP3
import Derived.WalkKit
import Derived.ProofKit
import Derived.LaidMore
import Derived.Deep.DeepHandedRow
import Derived.Lib.LaidTab
set_option linter.all false
namespace Go.Proofs.YtedakjflddcbbaaGreatDoor.safetyTexts
open Go.ChangeShapes Go.WideShapes Go.ChangeAt Go.RowKit Go.Fs
theorem alC (h : Heap) (v0 : Value) (v1 : Value) (x0 : ((.pair (.sl (.pair .str (.int .i64))) (.pair (.sl (.pair .str (.sl (.pair .str (.int .i64))))) (.sl (.pair .str (.pair .bool (.sl .str)))))) : Ty).den) (x1 : (.str : Ty).den) (bD : adI h) (r0 : aF h [] (.pair (.sl (.pair .str (.int .i64))) (.pair (.sl (.pair .str (.sl (.pair .str (.int .i64))))) (.sl (.pair .str (.pair .bool (.sl .str)))))) v0 x0) (r1 : aF h [] .str v1 x1) (w0 : Wf (.pair (.sl (.pair .str (.int .i64))) (.pair (.sl (.pair .str (.sl (.pair .str (.int .i64))))) (.sl (.pair .str (.pair .bool (.sl .str)))))) x0) (w1 : Wf .str x1) : oS Tryz.prog OA 3 [v0, v1] h fun r h' => r = .bool true /\ h' = h :=
  (OY ).law bD ⟨v0, [v1], rfl, r0, v1, [], rfl, r1, rfl⟩
set_option maxRecDepth 100000 in
theorem aaS (H : Type) (enc : TypeId × Value -> H) (W : World) (base : Nat) (args : Array Value) (ds gs : List (DataW H)) (before : List MemPlace)
    (jU : ∀ (j : Nat) t v, Tryz.f3.params[j]? = some t -> args[j]? = some v -> Value.okWide Tryz.prog W .any base t v)
    (hW : DataW.Whole enc Tryz.prog Tryz.f3.params.toList Rows.safetyTextsSpec.vars false W args.toList ds gs before) (hL : laidMet Tryz.prog Rows.safetyTextsRow.laid W) :
    Calls Tryz.prog 3 args W fun e W' => ∃ v, e = .returned v /\ Rows.safetyTextsSpec.post enc Tryz.prog Tryz.f3 false true false false W args v W' := by
  obtain ⟨p0, q0, hA, _⟩ := id hW
  have hlen : ∃ d0 d1, ds = [d0, d1] := by
    have hA' := hA; rw [Tryz.params3] at hA'; obtain ⟨v0, OZ, d0, ds0, p0, q0, _, rfl, _, _, r0⟩ := trodAll_cons hA'; obtain ⟨v1, vs1, d1, ds1, p1, q1, _, rfl, _, _, r1⟩ := trodAll_cons r0; obtain ⟨_, rfl, _⟩ := trodAll_nil r1; exact ⟨d0, d1, rfl⟩
  obtain ⟨d0, d1, rfl⟩ := hlen
  have hgs : gs = [] := by
    obtain ⟨p, q, _, hV, _⟩ := hW; exact (trodVars_none hV).1
  subst hgs; refine (RO (fn := Tryz.f3) (n := 12) (τ0 := (.pair (.sl (.pair .str (.int .i64))) (.pair (.sl (.pair .str (.sl (.pair .str (.int .i64))))) (.sl (.pair .str (.pair .bool (.sl .str))))))) (τ1 := .str) ak6 (alD (aiW hL)) (aiX hL) anY ⟨_, Tryz.func3, rfl, by kernel_rfl⟩ Tryz.params3 (by kernel_rfl) (by kernel_rfl) alC jU hA).mono fun e W' he => ?_
  cases e with
  | returned v =>
    obtain ⟨rfl, hb⟩ := he
    exact ⟨_, rfl, aaT (s := Rows.safetyTextsSpec) laidOut (by kernel_rfl) (by kernel_rfl) Tryz.underlying4 rfl hW rfl rfl rfl hb⟩
  | panicked c => exact he.elim
  | outgrown => exact he.elim
theorem met (os : Os) (args : Array Value) : laidMet Tryz.prog Rows.safetyTextsRow.laid ((B1 os).forCall (fun _ _ => 0) ⟨#[], args, []⟩).memory := (LaidIn.of_run [0, 1, 2, 3, 4, 5] 8 (by kernel_rfl) (by kernel_rfl) (by kernel_rfl) (by kernel_rfl)).met
theorem reads (os : Os) {H : Type} (enc : TypeId × Value -> H) : ∃ places, DataW.whole enc Tryz.prog ((B1 os).forCall (fun _ _ => 0) ⟨#[], #[.agg #[.slice none 0 0, .slice none 0 0, .slice none 0 0], .string ByteArray.empty], []⟩).memory Tryz.f3.params.toList Rows.safetyTextsSpec.vars false (#[.agg #[.slice none 0 0, .slice none 0 0, .slice none 0 0], .string ByteArray.empty] : Array Value).toList 8 = some ([.agg [.nil, .nil, .nil], .lit (.string [])], [], places) :=
  ⟨[], by kernel_rfl⟩
set_option maxRecDepth 100000 in
theorem lifted (os : Os) (started : os.Started) (H : Type) (enc : TypeId × Value -> H) (F : Stop.Interp) :
    ReturnsInHanded {} Tryz.checked os 3 .any ((OpenSpec.ofChange Rows.safetyTextsSpec).preRow enc Tryz.prog Tryz.f3 Rows.safetyTextsRow.domain false Rows.safetyTextsRow.laid) (((OpenSpec.ofChange Rows.safetyTextsSpec).at F).post enc Tryz.prog Tryz.f3 false true false false) := by
  obtain ⟨places, hx⟩ := reads os enc
  refine returnsInHanded_of_row (C := Tryz.checked) (s := OpenSpec.ofChange Rows.safetyTextsSpec) own started (by kernel_rfl) Tryz.func3
    (witness_row_at (enc := enc) (C := Tryz.checked) false (B1 os) #[.agg #[.slice none 0 0, .slice none 0 0, .slice none 0 0], .string ByteArray.empty] rfl (by kernel_rfl) (by kernel_rfl) (by kernel_rfl)
      (OpenSpec.preRow_of_cond 8 hx (by kernel_rfl) (fun k hk => by cases hk) (by kernel_rfl) (met os _))) ?_
  intro W base args ds gs before jU hW _ _ _ hL _ _; exact aaS H enc W base args ds gs before jU hW hL
theorem said : Rows.SafetyTextsSaid :=
  OpenClaim.holds_of_cond 3 Tryz.f3 rfl rfl rfl rfl rfl rfl rfl ⟨rfl, rfl, rfl, rfl, rfl⟩ rfl rfl rfl rfl rfl (by kernel_rfl) Tryz.func3 zW
    (of_decide_eq_true (by kernel_rfl)) (by unfold Func.isWrapper; first | (rw [if_pos (by decide +kernel)]; kernel_rfl) | (rw [if_neg (by decide +kernel)]; exact ⟨rfl, rfl⟩))
    (fun os started H enc _ F => by rw [OpenClaim.pre_eq_preRow]; exact lifted os started H enc F)
theorem plain (f : FuncId) (fn : Func) (hf : Tryz.pinned.checked.prog.funcNamed "tideway/tidewaylaw09.SafetyTexts" = some f) (lB : Tryz.pinned.checked.prog.funcs[f]? = some fn) :
    false = Tryz.pinned.checked.prog.looks [] /\ ∀ (j : Nat) t, fn.params[j]? = some t -> Tryz.pinned.checked.prog.wantsStandIn t = false := by
  obtain rfl : f = 3 := Option.some.inj ((show Tryz.prog.funcNamed "tideway/tidewaylaw09.SafetyTexts" = some 3 by kernel_rfl).symm.trans hf) |>.symm; obtain rfl : fn = Tryz.f3 := (Option.some.inj (Tryz.func3.symm.trans lB)).symm; refine ⟨by kernel_rfl, fun j t ht => ?_⟩
  have fU : (Tryz.f3.params.toList.all fun t => !Tryz.pinned.checked.prog.wantsStandIn t) = true := by kernel_rfl
  have := List.all_eq_true.1 fU t (by rw [Array.mem_toList_iff]; exact Array.mem_of_getElem? ht); simpa using this
theorem card : Rows.SafetyTextsCardSaid :=
  Claim7.holds_tied_plain_at .later [] _ _ _ _ said (fun _ h => by cases h) (by kernel_rfl) (fun _ h => by cases h) safetyTexts_row_tie rfl ⟨rfl, rfl⟩ (by kernel_rfl) rfl plain (by kernel_rfl)
#print axioms card
end Go.Proofs.YtedakjflddcbbaaGreatDoor.safetyTexts
