/- The tied card of the law that is named in the last theorem: the law answers true for every input, and each argument reads as before. No condition. -/
import Derived.Test.YtgkcodkgcnbdeaaGreatP9
import Derived.Test.YtgkcodkgcnbdeaaGreatP11FactsTopLanternLate
import Derived.Test.YtgkcodkgcnbdeaaGreatP8
import Derived.Test.YtgkcodkgcnbdeaaGreatP2
import Derived.WalkKit
import Derived.ProofKit
import Derived.LaidMore
import Derived.Deep.DeepHandedRow
import Derived.Lib.LaidTab
set_option linter.all false
namespace Go.Proofs.YtgkcodkgcnbdeaaGreat.topLanternLate
open Go.ChangeShapes Go.WideShapes Go.ChangeAt Go.RowKit Go.Fs
theorem ajT (h : aA) (v0 : Value) (v1 : Value) (v2 : Value) (x0 : ((.pair (.int .i64) (.pair (.int .i64) (.pair (.int .i64) (.sl (.pair .str (.int .i64)))))) : Ty).den) (x1 : ((.sl (.pair (.int .i64) (.pair .str (.pair (.int .i64) (.pair (.int .i64) (.sl (.bQ .f32))))))) : Ty).den) (x2 : ((.int .u16) : Ty).den) (bW : adW h) (r0 : aG h [] (.pair (.int .i64) (.pair (.int .i64) (.pair (.int .i64) (.sl (.pair .str (.int .i64)))))) v0 x0) (r1 : aG h [] (.sl (.pair (.int .i64) (.pair .str (.pair (.int .i64) (.pair (.int .i64) (.sl (.bQ .f32))))))) v1 x1) (r2 : aG h [] (.int .u16) v2 x2) (w0 : Wf (.pair (.int .i64) (.pair (.int .i64) (.pair (.int .i64) (.sl (.pair .str (.int .i64)))))) x0) (w1 : Wf (.sl (.pair (.int .i64) (.pair .str (.pair (.int .i64) (.pair (.int .i64) (.sl (.bQ .f32))))))) x1) (w2 : Wf (.int .u16) x2) : rC Tryz.prog OA 3 [v0, v1, v2] h fun r h' => r = .bool true /\ h' = h :=
  (aaU (wfL w0.2.2.2) (wfL w1) (ajU w2)).law bW ⟨v0, [v1, v2], rfl, r0, v1, [v2], rfl, r1, v2, [], rfl, r2, rfl⟩
set_option maxRecDepth 100000 in
theorem aaV (H : Type) (enc : TypeId × Value -> H) (W : World) (base : Nat) (args : Array Value) (ds gs : List (DataW H)) (before : List MemPlace)
    (jD : ∀ (j : Nat) t v, Tryz.f3.params[j]? = some t -> args[j]? = some v -> Value.okWide Tryz.prog W .any base t v)
    (hW : DataW.Whole enc Tryz.prog Tryz.f3.params.toList Rows.topLanternLateSpec.vars false W args.toList ds gs before) (hL : laidMet Tryz.prog Rows.topLanternLateRow.laid W) :
    Calls Tryz.prog 3 args W fun e W' => ∃ v, e = .returned v /\ Rows.topLanternLateSpec.post enc Tryz.prog Tryz.f3 false true false false W args v W' := by
  obtain ⟨p0, q0, hA, _⟩ := id hW
  have hlen : ∃ d0 d1 d2, ds = [d0, d1, d2] := by
    have hA' := hA; rw [Tryz.params3] at hA'; obtain ⟨v0, Q8, d0, ds0, p0, q0, _, rfl, _, _, r0⟩ := trodAll_cons hA'; obtain ⟨v1, vs1, d1, ds1, p1, q1, _, rfl, _, _, r1⟩ := trodAll_cons r0; obtain ⟨v2, vs2, d2, ds2, p2, q2, _, rfl, _, _, r2⟩ := trodAll_cons r1; obtain ⟨_, rfl, _⟩ := trodAll_nil r2; exact ⟨d0, d1, d2, rfl⟩
  obtain ⟨d0, d1, d2, rfl⟩ := hlen
  have hgs : gs = [] := by
    obtain ⟨p, q, _, hV, _⟩ := hW; exact (trodVars_none hV).1
  subst hgs; refine (SN (fn := Tryz.f3) (n := 12) (τ0 := (.pair (.int .i64) (.pair (.int .i64) (.pair (.int .i64) (.sl (.pair .str (.int .i64))))))) (τ1 := (.sl (.pair (.int .i64) (.pair .str (.pair (.int .i64) (.pair (.int .i64) (.sl (.bQ .f32)))))))) (τ2 := (.int .u16)) aiI ajV ah5 alK ⟨_, Tryz.func3, rfl, by kernel_rfl⟩ Tryz.params3 (by kernel_rfl) (by kernel_rfl) (by kernel_rfl) ajT jD hA).mono fun e W' he => ?_
  cases e with
  | returned v =>
    obtain ⟨rfl, hb⟩ := he
    exact ⟨_, rfl, aaW (s := Rows.topLanternLateSpec) laidOut (by kernel_rfl) (by kernel_rfl) Tryz.underlying4 rfl hW rfl rfl rfl hb⟩
  | panicked c => exact he.elim
  | outgrown => exact he.elim
theorem met (os : Os) (args : Array Value) : laidMet Tryz.prog Rows.topLanternLateRow.laid ((CH os).forCall (fun _ _ => 0) ⟨#[], args, []⟩).memory := laidMet_of_run' 8 (by kernel_rfl) (by kernel_rfl)
theorem reads (os : Os) {H : Type} (enc : TypeId × Value -> H) : ∃ places, DataW.whole enc Tryz.prog ((CH os).forCall (fun _ _ => 0) ⟨#[], #[.agg #[.int .i64 0, .int .i64 0, .int .i64 0, .slice none 0 0], .slice none 0 0, .int .u16 0], []⟩).memory Tryz.f3.params.toList Rows.topLanternLateSpec.vars false (#[.agg #[.int .i64 0, .int .i64 0, .int .i64 0, .slice none 0 0], .slice none 0 0, .int .u16 0] : Array Value).toList 8 = some ([.agg [.lit (.int .i64 0), .lit (.int .i64 0), .lit (.int .i64 0), .nil], .nil, .lit (.int .u16 0)], [], places) :=
  ⟨[], by kernel_rfl⟩
set_option maxRecDepth 100000 in
theorem lifted (os : Os) (started : os.Started) (H : Type) (enc : TypeId × Value -> H) (F : Stop.Interp) :
    ReturnsInHanded {} Tryz.checked os 3 .any ((OpenSpec.ofChange Rows.topLanternLateSpec).preRow enc Tryz.prog Tryz.f3 Rows.topLanternLateRow.domain false Rows.topLanternLateRow.laid) (((OpenSpec.ofChange Rows.topLanternLateSpec).at F).post enc Tryz.prog Tryz.f3 false true false false) := by
  obtain ⟨places, hx⟩ := reads os enc
  refine returnsInHanded_of_row (C := Tryz.checked) (s := OpenSpec.ofChange Rows.topLanternLateSpec) own started (by kernel_rfl) Tryz.func3
    (witness_row_at (enc := enc) (C := Tryz.checked) false (CH os) #[.agg #[.int .i64 0, .int .i64 0, .int .i64 0, .slice none 0 0], .slice none 0 0, .int .u16 0] rfl (by kernel_rfl) (by kernel_rfl) (by kernel_rfl)
      (OpenSpec.preRow_of_cond 8 hx (by kernel_rfl) (fun k hk => by cases hk) (by kernel_rfl) (met os _))) ?_
  intro W base args ds gs before jD hW _ _ _ hL _ _; exact aaV H enc W base args ds gs before jD hW hL
theorem said : Rows.TopLanternLateSaid :=
  OpenClaim.holds_of_cond 3 Tryz.f3 rfl rfl rfl rfl rfl rfl rfl ⟨rfl, rfl, rfl, rfl, rfl⟩ rfl rfl rfl rfl rfl (by kernel_rfl) Tryz.func3 wN
    (of_decide_eq_true (by kernel_rfl)) (by unfold Func.isWrapper; first | (rw [if_pos (by decide +kernel)]; kernel_rfl) | (rw [if_neg (by decide +kernel)]; exact ⟨rfl, rfl⟩))
    (fun os started H enc _ F => by rw [OpenClaim.pre_eq_preRow]; exact lifted os started H enc F)
#print axioms said
end Go.Proofs.YtgkcodkgcnbdeaaGreat.topLanternLate
