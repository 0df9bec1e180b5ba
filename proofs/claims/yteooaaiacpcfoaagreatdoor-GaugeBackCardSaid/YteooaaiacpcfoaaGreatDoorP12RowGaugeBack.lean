/- The tied card of the law that is named in the last theorem: the law answers true for every input, and each argument reads as before. No condition. -/
import Derived.Test.YteooaaiacpcfoaaGreatDoorCards
import Derived.Test.YteooaaiacpcfoaaGreatDoorTie
import Derived.Test.YteooaaiacpcfoaaGreatDoorP8
import Derived.Test.YteooaaiacpcfoaaGreatDoorP9
import Derived.Test.YteooaaiacpcfoaaGreatDoorP11FactsGaugeBack
import Derived.Test.YteooaaiacpcfoaaGreatDoorP6
import Derived.Test.YteooaaiacpcfoaaGreatDoorP2
import Derived.WalkKit
import Derived.ProofKit
import Derived.LaidMore
import Derived.Deep.DeepHandedRow
import Derived.Lib.LaidTab
set_option linter.all false
namespace Go.Proofs.YteooaaiacpcfoaaGreatDoor.gaugeBack
open Go.ChangeShapes Go.WideShapes Go.ChangeAt Go.RowKit Go.Fs
theorem anL (h : Heap) (v0 : Value) (v1 : Value) (x0 : ((.pair .str (.pair (.int .i64) (.pair (.sl (.bJ .f32)) (.sl (.pair (.int .i64) (.int .i64)))))) : Ty).den) (x1 : (.str : Ty).den) (aZ : afV h) (r0 : aE h [] (.pair .str (.pair (.int .i64) (.pair (.sl (.bJ .f32)) (.sl (.pair (.int .i64) (.int .i64)))))) v0 x0) (r1 : aE h [] .str v1 x1) (w0 : Wf (.pair .str (.pair (.int .i64) (.pair (.sl (.bJ .f32)) (.sl (.pair (.int .i64) (.int .i64)))))) x0) (w1 : Wf .str x1) : nP Tryz.prog OA 5 [v0, v1] h fun r h' => r = .bool true /\ h' = h :=
  (TN ).law aZ ⟨v0, [v1], rfl, r0, v1, [], rfl, r1, rfl⟩
set_option maxRecDepth 100000 in
theorem acD (H : Type) (enc : TypeId × Value -> H) (W : World) (base : Nat) (args : Array Value) (ds gs : List (DataW H)) (before : List MemPlace)
    (iK : ∀ (j : Nat) t v, Tryz.f5.params[j]? = some t -> args[j]? = some v -> Value.okWide Tryz.prog W .any base t v)
    (hW : DataW.Whole enc Tryz.prog Tryz.f5.params.toList Rows.gaugeBackSpec.vars false W args.toList ds gs before) (hL : laidMet Tryz.prog Rows.gaugeBackRow.laid W) :
    Calls Tryz.prog 5 args W fun e W' => ∃ v, e = .returned v /\ Rows.gaugeBackSpec.post enc Tryz.prog Tryz.f5 false true false false W args v W' := by
  obtain ⟨p0, q0, hA, _⟩ := id hW
  have hlen : ∃ d0 d1, ds = [d0, d1] := by
    have hA' := hA; rw [Tryz.params5] at hA'; obtain ⟨v0, QY, d0, ds0, p0, q0, _, rfl, _, _, r0⟩ := trodAll_cons hA'; obtain ⟨v1, vs1, d1, ds1, p1, q1, _, rfl, _, _, r1⟩ := trodAll_cons r0; obtain ⟨_, rfl, _⟩ := trodAll_nil r1; exact ⟨d0, d1, rfl⟩
  obtain ⟨d0, d1, rfl⟩ := hlen
  have hgs : gs = [] := by
    obtain ⟨p, q, _, hV, _⟩ := hW; exact (trodVars_none hV).1
  subst hgs; refine (TO (fn := Tryz.f5) (n := 12) (τ0 := (.pair .str (.pair (.int .i64) (.pair (.sl (.bJ .f32)) (.sl (.pair (.int .i64) (.int .i64))))))) (τ1 := .str) amB (anM hL) (akI hL) aqP ⟨_, Tryz.func5, rfl, by kernel_rfl⟩ Tryz.params5 (by kernel_rfl) (by kernel_rfl) anL iK hA).mono fun e W' he => ?_
  cases e with
  | returned v =>
    obtain ⟨rfl, hb⟩ := he
    exact ⟨_, rfl, acE (s := Rows.gaugeBackSpec) laidOut (by kernel_rfl) (by kernel_rfl) Tryz.underlying4 rfl hW rfl rfl rfl hb⟩
  | panicked c => exact he.elim
  | outgrown => exact he.elim
theorem met (os : Os) (args : Array Value) : laidMet Tryz.prog Rows.gaugeBackRow.laid ((B9 os).forCall (fun _ _ => 0) ⟨#[], args, []⟩).memory := (LaidIn.of_run (List.range 60) 8 (by kernel_rfl) (by kernel_rfl) (by kernel_rfl) (by kernel_rfl)).met
theorem reads (os : Os) {H : Type} (enc : TypeId × Value -> H) : ∃ places, DataW.whole enc Tryz.prog ((B9 os).forCall (fun _ _ => 0) ⟨#[], #[.agg #[.string ByteArray.empty, .int .i64 0, .slice none 0 0, .slice none 0 0], .string ByteArray.empty], []⟩).memory Tryz.f5.params.toList Rows.gaugeBackSpec.vars false (#[.agg #[.string ByteArray.empty, .int .i64 0, .slice none 0 0, .slice none 0 0], .string ByteArray.empty] : Array Value).toList 8 = some ([.agg [.lit (.string []), .lit (.int .i64 0), .nil, .nil], .lit (.string [])], [], places) :=
  ⟨[], by kernel_rfl⟩
set_option maxRecDepth 100000 in
theorem lifted (os : Os) (started : os.Started) (H : Type) (enc : TypeId × Value -> H) (F : Stop.Interp) :
    ReturnsInHanded {} Tryz.checked os 5 .any ((OpenSpec.ofChange Rows.gaugeBackSpec).preRow enc Tryz.prog Tryz.f5 Rows.gaugeBackRow.domain false Rows.gaugeBackRow.laid) (((OpenSpec.ofChange Rows.gaugeBackSpec).at F).post enc Tryz.prog Tryz.f5 false true false false) := by
  obtain ⟨places, hx⟩ := reads os enc
  refine returnsInHanded_of_row (C := Tryz.checked) (s := OpenSpec.ofChange Rows.gaugeBackSpec) own started (by kernel_rfl) Tryz.func5
    (witness_row_at (enc := enc) (C := Tryz.checked) false (B9 os) #[.agg #[.string ByteArray.empty, .int .i64 0, .slice none 0 0, .slice none 0 0], .string ByteArray.empty] rfl (by kernel_rfl) (by kernel_rfl) (by kernel_rfl)
      (OpenSpec.preRow_of_cond 8 hx (by kernel_rfl) (fun k hk => by cases hk) (by kernel_rfl) (met os _))) ?_
  intro W base args ds gs before iK hW _ _ _ hL _ _; exact acD H enc W base args ds gs before iK hW hL
theorem said : Rows.GaugeBackSaid :=
  OpenClaim.holds_of_cond 5 Tryz.f5 rfl rfl rfl rfl rfl rfl rfl ⟨rfl, rfl, rfl, rfl, rfl⟩ rfl rfl rfl rfl rfl (by kernel_rfl) Tryz.func5 CR
    (of_decide_eq_true (by kernel_rfl)) (by unfold Func.isWrapper; first | (rw [if_pos (by decide +kernel)]; kernel_rfl) | (rw [if_neg (by decide +kernel)]; exact ⟨rfl, rfl⟩))
    (fun os started H enc _ F => by rw [OpenClaim.pre_eq_preRow]; exact lifted os started H enc F)
theorem plain (f : FuncId) (fn : Func) (hf : Tryz.pinned.checked.prog.funcNamed "tideway/tidewaylaw01.GaugeBack" = some f) (kX : Tryz.pinned.checked.prog.funcs[f]? = some fn) :
    true = Tryz.pinned.checked.prog.looks [] /\ ∀ (j : Nat) t, fn.params[j]? = some t -> Tryz.pinned.checked.prog.wantsStandIn t = false := by
  obtain rfl : f = 5 := Option.some.inj ((show Tryz.prog.funcNamed "tideway/tidewaylaw01.GaugeBack" = some 5 by kernel_rfl).symm.trans hf) |>.symm; obtain rfl : fn = Tryz.f5 := (Option.some.inj (Tryz.func5.symm.trans kX)).symm; refine ⟨by kernel_rfl, fun j t ht => ?_⟩
  have iX : (Tryz.f5.params.toList.all fun t => !Tryz.pinned.checked.prog.wantsStandIn t) = true := by kernel_rfl
  have := List.all_eq_true.1 iX t (by rw [Array.mem_toList_iff]; exact Array.mem_of_getElem? ht); simpa using this
theorem card : Rows.GaugeBackCardSaid :=
  Claim7.holds_tied_plain_at .later [] _ _ _ _ said (fun _ h => by cases h) (by kernel_rfl) (fun _ h => by cases h) gaugeBack_row_tie rfl ⟨rfl, rfl⟩ (by kernel_rfl) rfl plain (by kernel_rfl)
#print axioms card
end Go.Proofs.YteooaaiacpcfoaaGreatDoor.gaugeBack
