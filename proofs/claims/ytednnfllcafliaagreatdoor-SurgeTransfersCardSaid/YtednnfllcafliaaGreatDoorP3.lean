/- Contracts of functions of the program, over the evaluator: what each answers. Conditions: those in each statement. -/
import Derived.Test.YtednnfllcafliaaGreatDoorP2
import Derived.Test.YtednnfllcafliaaGreatDoorChecked
set_option linter.all false
namespace Go.Proofs
open Go.Fs
set_option linter.unusedVariables false
def OA := orcA 211 154 16
def loops : Code → List Code
  | .seq a b => loops a ++ loops b
  | .cond _ a b => loops a ++ loops b
  | .block _ b | .scope b => loops b
  | .loop b => b :: loops b
  | .rangeFunc _ _ a b => loops a ++ loops b
  | _ => []
theorem vt3 : ValT Tryz.prog 3 (.int .i64) := valT_of (by kernel_rfl)
theorem vt26 : ValT Tryz.prog 26 (.int .i64) := valT_of (by kernel_rfl)
theorem el22 : ElT Tryz.prog 22 3 (.int .i64) := elT_of (by kernel_rfl)
theorem el179 : ElT Tryz.prog 179 26 (.int .i64) := elT_of (by kernel_rfl)
def whenE (c : Bool) (e : Int) : Int := bif c then e else 0
theorem sWhen_ok {h : Heap} {S : List Nat} {c : Bool} {e : Int} (hok : HOk h) (hS : ∀ b ∈ S, b < h.next) : EvF Tryz.prog OA 93 [.bool c, .int .i64 e] h fun r h' => r = .int .i64 (whenE c e) ∧ h' = h := by
  refine XF.enter Tryz.func93 rfl rfl rfl ?_
  have hok : HOk (entry h) := hok
  have hA := After.refl (entry h)
  show XC Tryz.prog OA none _ _ [] [(0, .bool c), (1, .int .i64 e)] (entry h) _
  refine XC.seq ?_
  refine XC.text ?_
  refine XO.c (.assign rfl) rfl rfl ?_
  refine XO.nil (thenC.go ?_)
  refine XC.seq ?_
  refine XC.seq ?_
  refine XC.text ?_
  refine XO.c (.move rfl) rfl rfl ?_
  refine XO.nil (thenC.go ?_)
  refine XC.condB rfl (fun c1 => ?_) (fun c1 => ?_)
  · subst c1
    refine XC.seq ?_
    refine XC.text ?_
    refine XO.c (.move rfl) rfl rfl ?_
    refine XO.c (.assign rfl) rfl rfl ?_
    refine XO.nil (thenC.go ?_)
    refine XC.ret fun tf htf => ?_
    refine thenC_ret ?_
    refine endF.one rfl rfl (htf 4 _ rfl) ?_
    exact ⟨congrArg (Value.int .i64) (by rfl), hA.leftAf rfl⟩
  · subst c1
    refine XC.skip (thenC.go ?_)
    refine XC.seq ?_
    refine XC.text ?_
    refine XO.c (.assign rfl) rfl rfl ?_
    refine XO.nil (thenC.go ?_)
    refine XC.ret fun tf htf => ?_
    refine endF.one rfl rfl (htf 4 _ rfl) ?_
    exact ⟨congrArg (Value.int .i64) (by rfl), hA.leftAf rfl⟩
def rangeE (n lo hi : Int) : Int := if n < lo ∨ hi < n then 3 else 0
theorem rCheckRange_ok {h : Heap} {S : List Nat} {n : Int} {lo : Int} {hi : Int} (hok : HOk h) (hS : ∀ b ∈ S, b < h.next) : EvF Tryz.prog OA 40 [.int .i64 n, .int .i64 lo, .int .i64 hi] h fun r h' => r = .int .i64 (rangeE n lo hi) ∧ h' = h := by
  refine XF.enter Tryz.func40 rfl rfl rfl ?_
  have hok : HOk (entry h) := hok
  have hA := After.refl (entry h)
  show XC Tryz.prog OA none _ _ [] [(0, .int .i64 n), (1, .int .i64 lo), (2, .int .i64 hi)] (entry h) _
  refine XC.seq ?_
  refine XC.text ?_
  refine XO.c (.assign rfl) rfl rfl ?_
  refine XO.nil (thenC.go ?_)
  refine XC.seq ?_
  refine XC.seq ?_
  refine XC.text ?_
  refine XO.c (.move rfl) rfl rfl ?_
  refine XO.c (.move rfl) rfl rfl ?_
  refine XO.c (.lss rfl rfl) rfl rfl ?_
  refine XO.c (.move rfl) rfl rfl ?_
  refine XO.splitD (x := 10) rfl (fun g1_3 => ?_) (fun g1_3 => ?_)
  · refine XO.skip rfl rfl rfl rfl rfl ?_
    refine XO.skip rfl rfl rfl rfl rfl ?_
    refine XO.skip rfl rfl rfl rfl rfl ?_
    refine XO.c (.pickT rfl rfl) rfl rfl ?_
    refine XO.nil (thenC.go ?_)
    refine XC.condT rfl ?_
    refine XC.seq ?_
    refine XC.text ?_
    refine XO.c (.assign rfl) rfl rfl ?_
    refine XO.nil (thenC.go ?_)
    refine XC.ret fun tf htf => ?_
    refine thenC_ret ?_
    refine endF.one rfl rfl (htf 6 _ rfl) ?_
    exact ⟨congrArg (Value.int .i64) (by simp [rangeE, *]), hA.leftAf rfl⟩
  · refine XO.gc rfl rfl rfl (.move rfl) rfl rfl ?_
    refine XO.gc rfl rfl rfl (.move rfl) rfl rfl ?_
    refine XO.gc rfl rfl rfl (.gtr rfl rfl) rfl rfl ?_
    refine XO.c (.pickF rfl rfl) rfl rfl ?_
    refine XO.nil (thenC.go ?_)
    refine XC.condD rfl (fun c1 => ?_) (fun c1 => ?_)
    · refine XC.seq ?_
      refine XC.text ?_
      refine XO.c (.assign rfl) rfl rfl ?_
      refine XO.nil (thenC.go ?_)
      refine XC.ret fun tf htf => ?_
      refine thenC_ret ?_
      refine endF.one rfl rfl (htf 6 _ rfl) ?_
      exact ⟨congrArg (Value.int .i64) (by simp [rangeE, *]), hA.leftAf rfl⟩
    · refine XC.skip (thenC.go ?_)
      refine XC.seq ?_
      refine XC.text ?_
      refine XO.c (.assign rfl) rfl rfl ?_
      refine XO.nil (thenC.go ?_)
      refine XC.ret fun tf htf => ?_
      refine endF.one rfl rfl (htf 6 _ rfl) ?_
      exact ⟨congrArg (Value.int .i64) (by simp [rangeE, *]), hA.leftAf rfl⟩
theorem sWithin_ok {h : Heap} {S : List Nat} {n : Int} {lo : Int} {hi : Int} (hok : HOk h) (hS : ∀ b ∈ S, b < h.next) : EvF Tryz.prog OA 101 [.int .i64 n, .int .i64 lo, .int .i64 hi] h fun r h' => r = .int .i64 (rangeE n lo hi) ∧ h' = h := by
  refine XF.enter Tryz.func101 rfl rfl rfl ?_
  have hok : HOk (entry h) := hok
  have hA := After.refl (entry h)
  show XC Tryz.prog OA none _ _ [] [(0, .int .i64 n), (1, .int .i64 lo), (2, .int .i64 hi)] (entry h) _
  refine XC.seq ?_
  refine XC.text ?_
  refine XO.c (.assign rfl) rfl rfl ?_
  refine XO.nil (thenC.go ?_)
  refine XC.seq ?_
  refine XC.text ?_
  refine XO.c (.move rfl) rfl rfl ?_
  refine XO.c (.move rfl) rfl rfl ?_
  refine XO.c (.lss rfl rfl) rfl rfl ?_
  refine XO.c (.move rfl) rfl rfl ?_
  refine XO.splitD (x := 10) rfl (fun g1_3 => ?_) (fun g1_3 => ?_)
  · refine XO.skip rfl rfl rfl rfl rfl ?_
    refine XO.skip rfl rfl rfl rfl rfl ?_
    refine XO.skip rfl rfl rfl rfl rfl ?_
    refine XO.c (.pickT rfl rfl) rfl rfl ?_
    refine XO.call rfl rfl rfl rfl ?_
    refine EvF.mono (sWhen_ok (hA.ok hok) (hA.inS hS)  ) ?_
    rintro _ _ ⟨rfl, hh⟩
    obtain rfl := hh.symm
    clear hh
    refine XO.c (.assign rfl) rfl rfl ?_
    refine XO.nil (thenC.go ?_)
    refine XC.ret fun tf htf => ?_
    refine endF.one rfl rfl (htf 6 _ rfl) ?_
    exact ⟨congrArg (Value.int .i64) (by simp [rangeE, whenE, *]), hA.leftAf rfl⟩
  · refine XO.gc rfl rfl rfl (.move rfl) rfl rfl ?_
    refine XO.gc rfl rfl rfl (.move rfl) rfl rfl ?_
    refine XO.gc rfl rfl rfl (.gtr rfl rfl) rfl rfl ?_
    refine XO.c (.pickF rfl rfl) rfl rfl ?_
    refine XO.call rfl rfl rfl rfl ?_
    refine EvF.mono (sWhen_ok (hA.ok hok) (hA.inS hS)  ) ?_
    rintro _ _ ⟨rfl, hh⟩
    obtain rfl := hh.symm
    clear hh
    refine XO.c (.assign rfl) rfl rfl ?_
    refine XO.nil (thenC.go ?_)
    refine XC.ret fun tf htf => ?_
    refine endF.one rfl rfl (htf 6 _ rfl) ?_
    exact ⟨congrArg (Value.int .i64) (by simp [rangeE, whenE, *]), hA.leftAf rfl⟩
def firstE : List Int → Int
  | [] => 0
  | x :: r => if x = 0 then firstE r else x
theorem firstE_drop {xs : List Int} {j : Nat} (hj : j < xs.length) : firstE (xs.drop j) = if xs[j] = 0 then firstE (xs.drop (j + 1)) else xs[j] := by
  rw [List.drop_eq_getElem_cons hj]; rfl
theorem firstE_end {xs : List Int} {j : Nat} (hj : xs.length ≤ j) : firstE (xs.drop j) = 0 := by rw [List.drop_eq_nil_of_le hj]; rfl
theorem sFirst_ok {h : Heap} {S : List Nat} {v0 : Value} {l : List Int} (hok : HOk h) (hS : ∀ b ∈ S, b < h.next) (ha0 : SlV h S (.int .i64) v0 l) (hl : l.length < 1000000) : EvF Tryz.prog OA 92 [v0] h fun r h' => r = .int .i64 (firstE l) ∧ h' = h := by
  refine XF.enter Tryz.func92 rfl rfl rfl ?_
  have hok : HOk (entry h) := hok
  have hA := After.refl (entry h)
  replace ha0 := ha0.entry
  show XC Tryz.prog OA none _ _ [] [(0, v0)] (entry h) _
  refine XC.seq ?_
  refine XC.text ?_
  refine XO.c (.assign rfl) rfl rfl ?_
  refine XO.nil (thenC.go ?_)
  refine XC.seq ?_
  refine XC.seq ?_
  refine XC.text ?_
  refine XO.c (.move rfl) rfl rfl ?_
  refine XO.a (.len rfl (ha0.len el179)) rfl rfl ?_
  refine XO.c (.move rfl) rfl rfl ?_
  refine XO.nil (thenC.go ?_)
  refine XC.block ?_
  have hAL103 := hA
  have hkL103 := hA.ok hok
  have hSL103 := (hA.inS hS)
  refine XC.keep [(5, v0), (6, .int .i64 ((l.length : Nat) : Int)), (7, .int .i64 ((0 : Nat) : Int))] ⟨rfl, rfl, rfl, trivial⟩ ?_
  refine XC.loopI (I := fun (kk : Nat) (ff : FL) (hh : Heap) => ∃ (j : Nat), kk = l.length - j ∧ ff = [(5, v0), (6, .int .i64 ((l.length : Nat) : Int)), (7, .int .i64 ((j : Nat) : Int))] ∧ After (entry h) hh ∧ After (entry h) hh ∧ Goes (entry h) S hh S ∧ j ≤ l.length ∧ firstE l = firstE (l.drop j)) ?_ _ _ _ ⟨0, rfl, rfl, hA, After.refl _, Goes.refl, (by omega), (by rfl)⟩
  clear hA
  rintro kk ff hh103 ⟨j, hk103, rfl, hA, aL103, nL103, hj, hf⟩
  replace ha0 := ha0.nx nL103
  refine XC.seq ?_
  refine XC.text ?_
  refine XO.c (.lss rfl rfl) rfl rfl ?_
  refine XO.nil (thenC.go ?_)
  refine XC.seq ?_
  refine XC.condD rfl (fun c2 => ?_) (fun c2 => ?_)
  · refine XC.skip (thenC.go ?_)
    refine XC.seq ?_
    refine XC.block ?_
    refine XC.seq ?_
    refine XC.text ?_
    refine XO.c (.indexAddr rfl rfl rfl (ha0.ix (j := j) el179 (by omega))) rfl rfl ?_
    refine XO.r (.load rfl (((ha0.at (j := j) (by omega))).ldInt vt26)) rfl rfl ?_
    refine XO.c (.assign rfl) rfl rfl ?_
    refine XO.nil (thenC.go ?_)
    refine XC.seq ?_
    refine XC.text ?_
    refine XO.c (.move rfl) rfl rfl ?_
    refine XO.c (.neq rfl rfl) rfl rfl ?_
    refine XO.nil (thenC.go ?_)
    refine XC.condD rfl (fun c4 => ?_) (fun c4 => ?_)
    · refine XC.seq ?_
      refine XC.text ?_
      refine XO.c (.move rfl) rfl rfl ?_
      refine XO.c (.assign rfl) rfl rfl ?_
      refine XO.nil (thenC.go ?_)
      refine XC.ret fun tf htf => ?_
      refine inBlock_ret ?_
      refine thenC_ret ?_
      refine loopQ_ret ?_
      refine inBlock_ret ?_
      refine thenC_ret ?_
      refine endF.one rfl rfl (htf 2 _ rfl) ?_
      exact ⟨congrArg (Value.int .i64) (by rw [hf, firstE_drop (by omega), if_neg c4]), hA.leftAf rfl⟩
    · refine XC.skip ?_
      intro tf htf
      refine inBlock_nrm ?_
      refine thenC.go ?_ tf htf
      refine XC.text ?_
      refine XO.c (.add rfl rfl (by omega)) rfl rfl ?_
      refine XO.c (.move rfl) rfl rfl ?_
      refine XO.nil ?_
      intro tf htf
      refine ⟨rfl, rfl, _, [(5, v0), (6, .int .i64 ((l.length : Nat) : Int)), (7, .int .i64 (((j + 1) : Nat) : Int))], ?_, htf.keep _ ⟨rfl, rfl, rfl, trivial⟩, (j + 1), rfl, rfl, hA, aL103, nL103, (by omega), (by rw [hf, firstE_drop (by omega), if_pos (by simpa using c4)])⟩
      omega
  · refine XC.exit ?_
    intro tf htf
    refine thenC_exit ?_
    refine loopQ_exit ?_
    refine inBlock_eq ?_
    refine thenC.go ?_ tf htf
    refine XC.seq ?_
    refine XC.text ?_
    refine XO.c (.assign rfl) rfl rfl ?_
    refine XO.nil (thenC.go ?_)
    refine XC.ret fun tf htf => ?_
    refine endF.one rfl rfl (htf 2 _ rfl) ?_
    exact ⟨congrArg (Value.int .i64) (by rw [hf, firstE_end (by omega)]), hA.leftAf rfl⟩
theorem rFirst_ok {h : Heap} {S : List Nat} {v0 : Value} {l : List Int} (hok : HOk h) (hS : ∀ b ∈ S, b < h.next) (ha0 : SlV h S (.int .i64) v0 l) (hl : l.length < 1000000) : EvF Tryz.prog OA 96 [v0] h fun r h' => r = .int .i64 (firstE l) ∧ h' = h := by
  refine XF.enter Tryz.func96 rfl rfl rfl ?_
  have hok : HOk (entry h) := hok
  have hA := After.refl (entry h)
  replace ha0 := ha0.entry
  show XC Tryz.prog OA none _ _ [] [(0, v0)] (entry h) _
  refine XC.seq ?_
  refine XC.text ?_
  refine XO.c (.assign rfl) rfl rfl ?_
  refine XO.nil (thenC.go ?_)
  refine XC.seq ?_
  refine XC.seq ?_
  refine XC.text ?_
  refine XO.c (.assign rfl) rfl rfl ?_
  refine XO.nil (thenC.go ?_)
  refine XC.block ?_
  have hAL104 := hA
  have hkL104 := hA.ok hok
  have hSL104 := (hA.inS hS)
  refine XC.keep [(0, v0), (3, .int .i64 ((0 : Nat) : Int))] ⟨rfl, rfl, trivial⟩ ?_
  refine XC.loopI (I := fun (kk : Nat) (ff : FL) (hh : Heap) => ∃ (j : Nat), kk = l.length - j ∧ ff = [(0, v0), (3, .int .i64 ((j : Nat) : Int))] ∧ After (entry h) hh ∧ After (entry h) hh ∧ Goes (entry h) S hh S ∧ j ≤ l.length ∧ firstE l = firstE (l.drop j)) ?_ _ _ _ ⟨0, rfl, rfl, hA, After.refl _, Goes.refl, (by omega), (by rfl)⟩
  clear hA
  rintro kk ff hh104 ⟨j, hk104, rfl, hA, aL104, nL104, hj, hf⟩
  replace ha0 := ha0.nx nL104
  refine XC.seq ?_
  refine XC.seq ?_
  refine XC.text ?_
  refine XO.c (.move rfl) rfl rfl ?_
  refine XO.c (.move rfl) rfl rfl ?_
  refine XO.a (.len rfl (ha0.len el22)) rfl rfl ?_
  refine XO.c (.lss rfl rfl) rfl rfl ?_
  refine XO.nil (thenC.go ?_)
  refine XC.condD rfl (fun c2 => ?_) (fun c2 => ?_)
  · refine XC.skip (thenC.go ?_)
    refine XC.seq ?_
    refine XC.block ?_
    refine XC.seq ?_
    refine XC.text ?_
    refine XO.c (.move rfl) rfl rfl ?_
    refine XO.c (.move rfl) rfl rfl ?_
    refine XO.c (.indexAddr rfl rfl rfl (ha0.ix (j := j) el22 (by omega))) rfl rfl ?_
    refine XO.r (.load rfl (((ha0.at (j := j) (by omega))).ldInt vt3)) rfl rfl ?_
    refine XO.c (.neq rfl rfl) rfl rfl ?_
    refine XO.nil (thenC.go ?_)
    refine XC.condD rfl (fun c4 => ?_) (fun c4 => ?_)
    · refine XC.seq ?_
      refine XC.text ?_
      refine XO.c (.move rfl) rfl rfl ?_
      refine XO.c (.move rfl) rfl rfl ?_
      refine XO.c (.indexAddr rfl rfl rfl (ha0.ix (j := j) el22 (by omega))) rfl rfl ?_
      refine XO.r (.load rfl (((ha0.at (j := j) (by omega))).ldInt vt3)) rfl rfl ?_
      refine XO.c (.assign rfl) rfl rfl ?_
      refine XO.nil (thenC.go ?_)
      refine XC.ret fun tf htf => ?_
      refine inBlock_ret ?_
      refine thenC_ret ?_
      refine loopQ_ret ?_
      refine inBlock_ret ?_
      refine thenC_ret ?_
      refine endF.one rfl rfl (htf 2 _ rfl) ?_
      exact ⟨congrArg (Value.int .i64) (by rw [hf, firstE_drop (by omega), if_neg c4]), hA.leftAf rfl⟩
    · refine XC.skip ?_
      intro tf htf
      refine inBlock_nrm ?_
      refine thenC.go ?_ tf htf
      refine XC.text ?_
      refine XO.c (.move rfl) rfl rfl ?_
      refine XO.c (.add rfl rfl (by omega)) rfl rfl ?_
      refine XO.c (.assign rfl) rfl rfl ?_
      refine XO.nil ?_
      intro tf htf
      refine ⟨rfl, rfl, _, [(0, v0), (3, .int .i64 (((j + 1) : Nat) : Int))], ?_, htf.keep _ ⟨rfl, rfl, trivial⟩, (j + 1), rfl, rfl, hA, aL104, nL104, (by omega), (by rw [hf, firstE_drop (by omega), if_pos (by simpa using c4)])⟩
      omega
  · refine XC.exit ?_
    intro tf htf
    refine thenC_exit ?_
    refine loopQ_exit ?_
    refine inBlock_eq ?_
    refine thenC.go ?_ tf htf
    refine XC.seq ?_
    refine XC.text ?_
    refine XO.c (.assign rfl) rfl rfl ?_
    refine XO.nil (thenC.go ?_)
    refine XC.ret fun tf htf => ?_
    refine endF.one rfl rfl (htf 2 _ rfl) ?_
    exact ⟨congrArg (Value.int .i64) (by rw [hf, firstE_end (by omega)]), hA.leftAf rfl⟩
theorem lFirst_ok {h : Heap} {S : List Nat} {v0 : Value} {l : List Int} (hok : HOk h) (hS : ∀ b ∈ S, b < h.next) (ha0 : SlV h S (.int .i64) v0 l) (hl : l.length < 1000000) : EvF Tryz.prog OA 21 [v0] h fun r h' => r = .int .i64 (firstE l) ∧ h' = h := by
  refine XF.enter Tryz.func21 rfl rfl rfl ?_
  have hok : HOk (entry h) := hok
  have hA := After.refl (entry h)
  replace ha0 := ha0.entry
  show XC Tryz.prog OA none _ _ [] [(0, v0)] (entry h) _
  refine XC.seq ?_
  refine XC.text ?_
  refine XO.c (.assign rfl) rfl rfl ?_
  refine XO.nil (thenC.go ?_)
  refine XC.seq ?_
  refine XC.text ?_
  refine XO.c (.move rfl) rfl rfl ?_
  refine XO.call rfl rfl rfl rfl ?_
  refine EvF.mono (rFirst_ok (hA.ok hok) (hA.inS hS) ha0 (by first | assumption | omega)) ?_
  rintro _ _ ⟨rfl, hh⟩
  obtain rfl := hh.symm
  clear hh
  refine XO.c (.assign rfl) rfl rfl ?_
  refine XO.nil (thenC.go ?_)
  refine XC.ret fun tf htf => ?_
  refine endF.one rfl rfl (htf 2 _ rfl) ?_
  exact ⟨congrArg (Value.int .i64) (by first | rfl | simp), hA.leftAf rfl⟩
theorem lInts_ok {h : Heap} {S : List Nat} {v0 : Value} {l : List Int} (hok : HOk h) (hS : ∀ b ∈ S, b < h.next) (ha0 : SlV h S (.int .i64) v0 l) (hl : l.length < 1000000) : EvF Tryz.prog OA 19 [v0] h fun r h' => After h h' ∧ SlV h' S (.int .i64) r l := by
  refine XF.enter Tryz.func19 rfl rfl rfl ?_
  have hok : HOk (entry h) := hok
  have hA := After.refl (entry h)
  replace ha0 := ha0.entry
  show XC Tryz.prog OA none _ _ [] [(0, v0)] (entry h) _
  refine XC.seq ?_
  refine XC.text ?_
  refine XO.c (.assign rfl) rfl rfl ?_
  refine XO.nil (thenC.go ?_)
  refine XC.seq ?_
  refine XC.text ?_
  obtain ⟨e106, g106, a106, n106⟩ := build0 (P := Tryz.prog) (h := (entry h)) (h0 := entry h) (S0 := S) el22 hA hok
  refine XO.mk (.buildSlice rfl e106) rfl rfl ?_
  generalize hw106 : Value.slice (some ⟨(entry h).next, 0, none⟩) 0 0 = w106 at g106 n106 ⊢
  generalize hp106 : ((entry h).push (.row 3 [] true false)) = h106 at g106 a106 n106 ⊢
  have ok107 := hA.ok hok
  have gg107 : Goes (entry h) S h106 (ownB w106 ++ S) := n106
  replace hA := hA.trans a106
  replace ha0 := ha0.nx gg107
  refine XO.c (.move rfl) rfl rfl ?_
  obtain ⟨m108, out108, h108, e108, g108, a108, n108, l108⟩ := GrowR.allE (S0 := S) (h0 := (entry h)) el22 el22 g106 ha0 hA hok (hA.inS hS) (by simp; omega)
  refine XO.mk (.append rfl rfl e108) rfl rfl ?_
  have ok109 := hA.ok hok
  have gg109 : Goes h106 (ownB w106 ++ S) h108 (ownB out108 ++ S) := n108
  replace hA := a108
  replace ha0 := ha0.nx gg109
  refine XO.c (.assign rfl) rfl rfl ?_
  refine XO.nil (thenC.go ?_)
  refine XC.ret fun tf htf => ?_
  have s110 := g108.shut hS
  have gg110 : Goes h108 (ownB out108 ++ S) h108 S := nx_own
  replace ha0 := ha0.nx gg110
  refine endF.one rfl rfl (htf 2 _ rfl) ?_
  refine ⟨hA.left _, ?_⟩
  have hw := (s110).ret hA
  exact hw
end Go.Proofs
namespace Go.Proofs
open Go.Fs
set_option linter.unusedVariables false
theorem vt22 : ValT Tryz.prog 22 (.sl (.int .i64)) := valT_of (by kernel_rfl)
theorem sMapIE_ok {h : Heap} {S : List Nat} {v0 : Value} {l : List Int} {f_f : FuncId} {f_a f_b : Array Value} {F : Int → Int} (hok : HOk h) (hS : ∀ b ∈ S, b < h.next) (ha0 : SlV h S (.int .i64) v0 l) (hl : l.length < 100000) (hf : ∀ {h2 : Heap} {S2 : List Nat} {x : Int}, HOk h2 → (∀ b ∈ S2, b < h2.next) → After h h2 → x ∈ l → EvF Tryz.prog OA f_f (f_a.toList ++ [.int .i64 x] ++ f_b.toList) h2 fun r h' => r = .int .i64 (F x) ∧ h' = h2) : EvF Tryz.prog OA 99 [v0, .func (.func f_f) f_a f_b] h fun r h' => After h h' ∧ SlV h' S (.int .i64) r (l.map F) := by
  refine XF.enter Tryz.func99 rfl rfl rfl ?_
  have hok : HOk (entry h) := hok
  have hA := After.refl (entry h)
  replace ha0 := ha0.entry
  show XC Tryz.prog OA none _ _ [] [(0, v0), (1, .func (.func f_f) f_a f_b)] (entry h) _
  refine XC.seq ?_
  refine XC.text ?_
  refine XO.c (.assign rfl) rfl rfl ?_
  refine XO.nil (thenC.go ?_)
  refine XC.seq ?_
  refine XC.text ?_
  refine XO.c (.assign rfl) rfl rfl ?_
  refine XO.nil (thenC.go ?_)
  refine XC.seq ?_
  refine XC.seq ?_
  refine XC.text ?_
  refine XO.c (.move rfl) rfl rfl ?_
  refine XO.a (.len rfl (ha0.len el22)) rfl rfl ?_
  refine XO.c (.move rfl) rfl rfl ?_
  refine XO.nil (thenC.go ?_)
  refine XC.block ?_
  have hAL101 := hA
  have hkL101 := hA.ok hok
  have hSL101 := (hA.inS hS)
  refine XC.keep [(1, .func (.func f_f) f_a f_b), (5, .slice none 0 0), (8, v0), (9, .int .i64 ((l.length : Nat) : Int)), (10, .int .i64 ((0 : Nat) : Int))] ⟨rfl, rfl, rfl, rfl, rfl, trivial⟩ ?_
  refine XC.loopI (I := fun (kk : Nat) (ff : FL) (hh : Heap) => ∃ (j : Nat) (out : Value), kk = l.length - j ∧ ff = [(1, .func (.func f_f) f_a f_b), (5, out), (8, v0), (9, .int .i64 ((l.length : Nat) : Int)), (10, .int .i64 ((j : Nat) : Int))] ∧ After (entry h) hh ∧ After (entry h) hh ∧ Goes (entry h) S hh (ownB out ++ S) ∧ GrowR hh (ownB out ++ S) (entry h).next 26 true (.int .i64) out ((l.take j).map F) ∧ j ≤ l.length) ?_ _ _ _ ⟨0, .slice none 0 0, rfl, rfl, hA, After.refl _, Goes.refl, (GrowR.nil), (by omega)⟩
  clear hA
  rintro kk ff hh101 ⟨j, out, hk101, rfl, hA, aL101, nL101, g_out101, hj⟩
  replace ha0 := ha0.nx nL101
  refine XC.seq ?_
  refine XC.text ?_
  refine XO.c (.lss rfl rfl) rfl rfl ?_
  refine XO.nil (thenC.go ?_)
  refine XC.seq ?_
  refine XC.condD rfl (fun c3 => ?_) (fun c3 => ?_)
  · refine XC.skip (thenC.go ?_)
    refine XC.seq ?_
    refine XC.block ?_
    refine XC.seq ?_
    refine XC.text ?_
    refine XO.c (.indexAddr rfl rfl rfl (ha0.ix (j := j) el22 (by omega))) rfl rfl ?_
    refine XO.r (.load rfl (((ha0.at (j := j) (by omega))).ldInt vt3)) rfl rfl ?_
    refine XO.c (.assign rfl) rfl rfl ?_
    refine XO.nil (thenC.go ?_)
    refine XC.text ?_
    refine XO.c (.move rfl) rfl rfl ?_
    refine XO.c (.move rfl) rfl rfl ?_
    refine XO.c (.move rfl) rfl rfl ?_
    refine XO.call rfl rfl rfl rfl ?_
    refine EvF.mono (hf (hA.ok hok) (g_out101.inS (hA.ok hok) (hA.inS hS))  hA.ofEntry (List.getElem_mem _)) ?_
    rintro _ _ ⟨rfl, hh⟩
    obtain rfl := hh.symm
    clear hh
    refine XO.pushR (S0 := S) (h0 := (entry h)) el179 el179 rfl rfl g_out101 (RepV.ofInt .i64 _) aL101 hkL101 (hA.inS hS) (by simp; omega) (by decide) rfl rfl rfl ?_
    intro out103 h103 g103 a103 n103 l103
    have ok104 := hA.ok hok
    have gg104 : Goes hh101 (ownB out ++ S) h103 (ownB out103 ++ S) := n103
    replace hA := hAL101.trans a103
    replace aL101 := a103
    replace nL101 := nL101.trans gg104
    replace ha0 := ha0.nx gg104
    refine XO.c (.assign rfl) rfl rfl ?_
    refine XO.nil ?_
    intro tf htf
    refine inBlock_nrm ?_
    refine thenC.go ?_ tf htf
    refine XC.text ?_
    refine XO.c (.add rfl rfl (by omega)) rfl rfl ?_
    refine XO.c (.move rfl) rfl rfl ?_
    refine XO.nil ?_
    intro tf htf
    refine ⟨rfl, rfl, _, [(1, .func (.func f_f) f_a f_b), (5, out103), (8, v0), (9, .int .i64 ((l.length : Nat) : Int)), (10, .int .i64 (((j + 1) : Nat) : Int))], ?_, htf.keep _ ⟨rfl, rfl, rfl, rfl, rfl, trivial⟩, (j + 1), out103, rfl, rfl, hA, aL101, nL101, (by rw [List.take_succ_eq_append_getElem (by omega), List.map_append]; exact g103), (by omega)⟩
    omega
  · refine XC.exit ?_
    intro tf htf
    refine thenC_exit ?_
    refine loopQ_exit ?_
    refine inBlock_eq ?_
    refine thenC.go ?_ tf htf
    refine XC.seq ?_
    refine XC.text ?_
    refine XO.c (.move rfl) rfl rfl ?_
    refine XO.c (.assign rfl) rfl rfl ?_
    refine XO.nil (thenC.go ?_)
    refine XC.ret fun tf htf => ?_
    have s105 := g_out101.shut hSL101
    have gg105 : Goes hh101 (ownB out ++ S) hh101 S := nx_own
    replace ha0 := ha0.nx gg105
    refine endF.one rfl rfl (htf 4 _ rfl) ?_
    refine ⟨hA.left _, ?_⟩
    have hw := (s105).ret hA
    rw [List.take_of_length_le (by omega)] at hw; exact hw
theorem sTap_ok {h : Heap} {S : List Nat} {n : Int} (hok : HOk h) (hS : ∀ b ∈ S, b < h.next) : EvF Tryz.prog OA 100 [.int .i64 n] h fun r h' => r = .int .i64 (rangeE n (-64) 64) ∧ h' = h := by
  refine XF.enter Tryz.func100 rfl rfl rfl ?_
  have hok : HOk (entry h) := hok
  have hA := After.refl (entry h)
  show XC Tryz.prog OA none _ _ [] [(0, .int .i64 n)] (entry h) _
  refine XC.seq ?_
  refine XC.text ?_
  refine XO.c (.assign rfl) rfl rfl ?_
  refine XO.nil (thenC.go ?_)
  refine XC.seq ?_
  refine XC.text ?_
  refine XO.c (.move rfl) rfl rfl ?_
  refine XO.call rfl rfl rfl rfl ?_
  refine EvF.mono (sWithin_ok (hA.ok hok) (hA.inS hS)  ) ?_
  rintro _ _ ⟨rfl, hh⟩
  obtain rfl := hh.symm
  clear hh
  refine XO.c (.assign rfl) rfl rfl ?_
  refine XO.nil (thenC.go ?_)
  refine XC.ret fun tf htf => ?_
  refine endF.one rfl rfl (htf 2 _ rfl) ?_
  exact ⟨congrArg (Value.int .i64) (by first | rfl | simp), hA.leftAf rfl⟩
theorem sHeight_ok {h : Heap} {S : List Nat} {n : Int} (hok : HOk h) (hS : ∀ b ∈ S, b < h.next) : EvF Tryz.prog OA 109 [.int .i64 n] h fun r h' => r = .int .i64 (rangeE n (-1048576) 1048576) ∧ h' = h := by
  refine XF.enter Tryz.func109 rfl rfl rfl ?_
  have hok : HOk (entry h) := hok
  have hA := After.refl (entry h)
  show XC Tryz.prog OA none _ _ [] [(0, .int .i64 n)] (entry h) _
  refine XC.seq ?_
  refine XC.text ?_
  refine XO.c (.assign rfl) rfl rfl ?_
  refine XO.nil (thenC.go ?_)
  refine XC.seq ?_
  refine XC.text ?_
  refine XO.c (.move rfl) rfl rfl ?_
  refine XO.call rfl rfl rfl rfl ?_
  refine EvF.mono (sWithin_ok (hA.ok hok) (hA.inS hS)  ) ?_
  rintro _ _ ⟨rfl, hh⟩
  obtain rfl := hh.symm
  clear hh
  refine XO.c (.assign rfl) rfl rfl ?_
  refine XO.nil (thenC.go ?_)
  refine XC.ret fun tf htf => ?_
  refine endF.one rfl rfl (htf 2 _ rfl) ?_
  exact ⟨congrArg (Value.int .i64) (by first | rfl | simp), hA.leftAf rfl⟩
def heightsE (l : List Int) : Int := firstE (l.map fun x => rangeE x (-1048576) 1048576)
theorem sHeights_ok {h : Heap} {S : List Nat} {v0 : Value} {l : List Int} (hok : HOk h) (hS : ∀ b ∈ S, b < h.next) (ha0 : SlV h S (.int .i64) v0 l) (hl : l.length < 100000) : EvF Tryz.prog OA 94 [v0] h fun r h' => r = .int .i64 (heightsE l) ∧ h' = h := by
  refine XF.enter Tryz.func94 rfl rfl rfl ?_
  have hok : HOk (entry h) := hok
  have hA := After.refl (entry h)
  replace ha0 := ha0.entry
  show XC Tryz.prog OA none _ _ [] [(0, v0)] (entry h) _
  refine XC.seq ?_
  refine XC.text ?_
  refine XO.c (.assign rfl) rfl rfl ?_
  refine XO.nil (thenC.go ?_)
  refine XC.seq ?_
  refine XC.text ?_
  refine XO.c (.move rfl) rfl rfl ?_
  refine XO.call rfl rfl rfl rfl ?_
  refine EvF.mono (sMapIE_ok (hA.ok hok) (hA.inS hS) ha0 (F := fun x => rangeE x (-1048576) 1048576) hl (fun a b _ _ => sHeight_ok a b)) ?_
  rintro u108 h108 ⟨a108, s108⟩
  have ok109 := hA.ok hok
  have gg109 : Goes (entry h) S h108 S := a108.nx ok109
  replace hA := hA.trans a108
  replace ha0 := ha0.nx gg109
  refine XO.call rfl rfl rfl rfl ?_
  refine EvF.mono (sFirst_ok (hA.ok hok) (hA.inS hS) s108 (by simpa using (by omega : l.length < 1000000))) ?_
  rintro _ _ ⟨rfl, hh⟩
  obtain rfl := hh.symm
  clear hh
  refine XO.c (.assign rfl) rfl rfl ?_
  refine XO.nil (thenC.go ?_)
  refine XC.ret fun tf htf => ?_
  refine endF.one rfl rfl (htf 2 _ rfl) ?_
  exact ⟨congrArg (Value.int .i64) (by first | rfl | simp), hA.leftAf rfl⟩
theorem heightsE_drop {l : List Int} {j : Nat} (hj : j < l.length) : heightsE (l.drop j) = if rangeE l[j] (-1048576) 1048576 = 0 then heightsE (l.drop (j + 1)) else rangeE l[j] (-1048576) 1048576 := by
  rw [heightsE, List.drop_eq_getElem_cons hj]; rfl
theorem heightsE_end {l : List Int} {j : Nat} (hj : l.length ≤ j) : heightsE (l.drop j) = 0 := by rw [List.drop_eq_nil_of_le hj]; rfl
theorem rHeights_ok {h : Heap} {S : List Nat} {v0 : Value} {l : List Int} (hok : HOk h) (hS : ∀ b ∈ S, b < h.next) (ha0 : SlV h S (.int .i64) v0 l) (hl : l.length < 1000000) : EvF Tryz.prog OA 97 [v0] h fun r h' => r = .int .i64 (heightsE l) ∧ h' = h := by
  refine XF.enter Tryz.func97 rfl rfl rfl ?_
  have hok : HOk (entry h) := hok
  have hA := After.refl (entry h)
  replace ha0 := ha0.entry
  show XC Tryz.prog OA none _ _ [] [(0, v0)] (entry h) _
  refine XC.seq ?_
  refine XC.text ?_
  refine XO.c (.assign rfl) rfl rfl ?_
  refine XO.nil (thenC.go ?_)
  refine XC.seq ?_
  refine XC.seq ?_
  refine XC.text ?_
  refine XO.c (.assign rfl) rfl rfl ?_
  refine XO.nil (thenC.go ?_)
  refine XC.block ?_
  have hAL111 := hA
  have hkL111 := hA.ok hok
  have hSL111 := (hA.inS hS)
  refine XC.keep [(0, v0), (3, .int .i64 ((0 : Nat) : Int))] ⟨rfl, rfl, trivial⟩ ?_
  refine XC.loopI (I := fun (kk : Nat) (ff : FL) (hh : Heap) => ∃ (j : Nat), kk = l.length - j ∧ ff = [(0, v0), (3, .int .i64 ((j : Nat) : Int))] ∧ After (entry h) hh ∧ After (entry h) hh ∧ Goes (entry h) S hh S ∧ j ≤ l.length ∧ heightsE l = heightsE (l.drop j)) ?_ _ _ _ ⟨0, rfl, rfl, hA, After.refl _, Goes.refl, (by omega), (by rfl)⟩
  clear hA
  rintro kk ff hh111 ⟨j, hk111, rfl, hA, aL111, nL111, hj, hf⟩
  replace ha0 := ha0.nx nL111
  refine XC.seq ?_
  refine XC.seq ?_
  refine XC.text ?_
  refine XO.c (.move rfl) rfl rfl ?_
  refine XO.c (.move rfl) rfl rfl ?_
  refine XO.a (.len rfl (ha0.len el22)) rfl rfl ?_
  refine XO.c (.lss rfl rfl) rfl rfl ?_
  refine XO.nil (thenC.go ?_)
  refine XC.condD rfl (fun c2 => ?_) (fun c2 => ?_)
  · refine XC.skip (thenC.go ?_)
    refine XC.seq ?_
    refine XC.block ?_
    refine XC.seq ?_
    refine XC.text ?_
    refine XO.c (.move rfl) rfl rfl ?_
    refine XO.c (.move rfl) rfl rfl ?_
    refine XO.c (.indexAddr rfl rfl rfl (ha0.ix (j := j) el22 (by omega))) rfl rfl ?_
    refine XO.r (.load rfl (((ha0.at (j := j) (by omega))).ldInt vt3)) rfl rfl ?_
    refine XO.call rfl rfl rfl rfl ?_
    refine EvF.mono (rCheckRange_ok (hA.ok hok) (hA.inS hS)  ) ?_
    rintro _ _ ⟨rfl, hh⟩
    obtain rfl := hh.symm
    clear hh
    refine XO.c (.assign rfl) rfl rfl ?_
    refine XO.nil (thenC.go ?_)
    refine XC.seq ?_
    refine XC.text ?_
    refine XO.c (.move rfl) rfl rfl ?_
    refine XO.c (.neq rfl rfl) rfl rfl ?_
    refine XO.nil (thenC.go ?_)
    refine XC.condD rfl (fun c5 => ?_) (fun c5 => ?_)
    · refine XC.seq ?_
      refine XC.text ?_
      refine XO.c (.move rfl) rfl rfl ?_
      refine XO.c (.assign rfl) rfl rfl ?_
      refine XO.nil (thenC.go ?_)
      refine XC.ret fun tf htf => ?_
      refine inBlock_ret ?_
      refine thenC_ret ?_
      refine loopQ_ret ?_
      refine inBlock_ret ?_
      refine thenC_ret ?_
      refine endF.one rfl rfl (htf 2 _ rfl) ?_
      exact ⟨congrArg (Value.int .i64) (by rw [hf, heightsE_drop (by omega), if_neg c5]), hA.leftAf rfl⟩
    · refine XC.skip ?_
      intro tf htf
      refine inBlock_nrm ?_
      refine thenC.go ?_ tf htf
      refine XC.text ?_
      refine XO.c (.move rfl) rfl rfl ?_
      refine XO.c (.add rfl rfl (by omega)) rfl rfl ?_
      refine XO.c (.assign rfl) rfl rfl ?_
      refine XO.nil ?_
      intro tf htf
      refine ⟨rfl, rfl, _, [(0, v0), (3, .int .i64 (((j + 1) : Nat) : Int))], ?_, htf.keep _ ⟨rfl, rfl, trivial⟩, (j + 1), rfl, rfl, hA, aL111, nL111, (by omega), (by rw [hf, heightsE_drop (by omega), if_pos (by simpa using c5)])⟩
      omega
  · refine XC.exit ?_
    intro tf htf
    refine thenC_exit ?_
    refine loopQ_exit ?_
    refine inBlock_eq ?_
    refine thenC.go ?_ tf htf
    refine XC.seq ?_
    refine XC.text ?_
    refine XO.c (.assign rfl) rfl rfl ?_
    refine XO.nil (thenC.go ?_)
    refine XC.ret fun tf htf => ?_
    refine endF.one rfl rfl (htf 2 _ rfl) ?_
    exact ⟨congrArg (Value.int .i64) (by rw [hf, heightsE_end (by omega)]), hA.leftAf rfl⟩
def numbersE (l : List Int) : Int := if (96 : Int) < l.length then 5 else heightsE l
theorem rNumbers_ok {h : Heap} {S : List Nat} {v0 : Value} {l : List Int} (hok : HOk h) (hS : ∀ b ∈ S, b < h.next) (ha0 : SlV h S (.int .i64) v0 l) (hl : l.length < 1000000) : EvF Tryz.prog OA 22 [v0] h fun r h' => r = .int .i64 (numbersE l) ∧ h' = h := by
  refine XF.enter Tryz.func22 rfl rfl rfl ?_
  have hok : HOk (entry h) := hok
  have hA := After.refl (entry h)
  replace ha0 := ha0.entry
  show XC Tryz.prog OA none _ _ [] [(0, v0)] (entry h) _
  refine XC.seq ?_
  refine XC.text ?_
  refine XO.c (.assign rfl) rfl rfl ?_
  refine XO.nil (thenC.go ?_)
  refine XC.seq ?_
  refine XC.seq ?_
  refine XC.text ?_
  refine XO.c (.move rfl) rfl rfl ?_
  refine XO.a (.len rfl (ha0.len el22)) rfl rfl ?_
  refine XO.c (.gtr rfl rfl) rfl rfl ?_
  refine XO.nil (thenC.go ?_)
  refine XC.condD rfl (fun c1 => ?_) (fun c1 => ?_)
  · refine XC.seq ?_
    refine XC.text ?_
    refine XO.c (.assign rfl) rfl rfl ?_
    refine XO.nil (thenC.go ?_)
    refine XC.ret fun tf htf => ?_
    refine thenC_ret ?_
    refine endF.one rfl rfl (htf 2 _ rfl) ?_
    exact ⟨congrArg (Value.int .i64) (by rw [numbersE, if_pos (by omega)]), hA.leftAf rfl⟩
  · refine XC.skip (thenC.go ?_)
    refine XC.seq ?_
    refine XC.text ?_
    refine XO.c (.move rfl) rfl rfl ?_
    refine XO.call rfl rfl rfl rfl ?_
    refine EvF.mono (rHeights_ok (hA.ok hok) (hA.inS hS) ha0 (by first | assumption | omega)) ?_
    rintro _ _ ⟨rfl, hh⟩
    obtain rfl := hh.symm
    clear hh
    refine XO.c (.assign rfl) rfl rfl ?_
    refine XO.nil (thenC.go ?_)
    refine XC.ret fun tf htf => ?_
    refine endF.one rfl rfl (htf 2 _ rfl) ?_
    exact ⟨congrArg (Value.int .i64) (by rw [numbersE, if_neg (by omega)]), hA.leftAf rfl⟩
theorem whenE_t {p : Prop} {inst : Decidable p} {e : Int} (h : p) : whenE (@decide p inst) e = e := by rw [decide_eq_true h]; rfl
theorem whenE_f {p : Prop} {inst : Decidable p} {e : Int} (h : ¬ p) : whenE (@decide p inst) e = 0 := by rw [decide_eq_false h]; rfl
def tapsE (l : List Int) : Int := firstE (l.map fun x => rangeE x (-64) 64)
def transferE (t : List Int × Int × Int) : Int := firstE [whenE (decide ((t.1.length : Int) = 0)) 12, whenE (decide ((8 : Int) < t.1.length)) 5, tapsE t.1, rangeE t.2.1 0 8, rangeE t.2.2 (-1024) 1024]
theorem sCheckTransfer_ok {h : Heap} {S : List Nat} {v0 : Value} {t : (List Int) × Int × Int} (hok : HOk h) (hS : ∀ b ∈ S, b < h.next) (ha0 : RepV h S (.pair (.sl (.int .i64)) (.pair (.int .i64) (.int .i64))) v0 t) (hl : t.1.length < 100000) : EvF Tryz.prog OA 24 [v0] h fun r h' => r = .int .i64 (transferE t) ∧ h' = h := by
  refine XF.enter Tryz.func24 rfl rfl rfl ?_
  have hok : HOk (entry h) := hok
  have hA := After.refl (entry h)
  replace ha0 := ha0.entry
  show XC Tryz.prog OA none _ _ [] [(0, v0)] (entry h) _
  refine XC.seq ?_
  refine XC.text ?_
  refine XO.boxR rfl ha0 (hA.ok hok) (hA.inS hS) rfl rfl ?_
  intro p114 h114 b114 a114
  have ok115 := hA.ok hok
  have gg115 : Goes (entry h) S h114 S := a114.nx ok115
  replace hA := hA.trans a114
  replace ha0 := ha0.nx gg115
  refine XO.c (.assign rfl) rfl rfl ?_
  refine XO.nil (thenC.go ?_)
  refine XC.seq ?_
  refine XC.text ?_
  refine XO.c (.fieldAddr rfl ((b114).fa (f := 0) (k := 0) (by kernel_rfl))) rfl rfl ?_
  obtain ⟨u116, e116, s116⟩ := ((b114).base.fst').ldSl vt22
  refine XO.r (.load rfl (e116)) rfl rfl ?_
  refine XO.call rfl rfl rfl rfl ?_
  refine EvF.mono (sMapIE_ok (hA.ok hok) (hA.inS hS) s116 (F := fun x => rangeE x (-64) 64) hl (fun a b _ _ => sTap_ok a b)) ?_
  rintro u117 h117 ⟨a117, s117⟩
  have ok118 := hA.ok hok
  have gg118 : Goes h114 S h117 S := a117.nx ok118
  replace hA := hA.trans a117
  replace ha0 := ha0.nx gg118
  replace b114 := b114.nx gg118
  replace s116 := s116.nx gg118
  refine XO.call rfl rfl rfl rfl ?_
  refine EvF.mono (sFirst_ok (hA.ok hok) (hA.inS hS) s117 (by simpa using (by omega : t.1.length < 1000000))) ?_
  rintro _ _ ⟨rfl, hh⟩
  obtain rfl := hh.symm
  clear hh
  refine XO.c (.assign rfl) rfl rfl ?_
  refine XO.nil (thenC.go ?_)
  refine XC.seq ?_
  refine XC.drawn ?_
  have hkr120 := hA.ok hok
  have hSr120 := (hA.inS hS)
  refine XD.c (b := 0) (.fieldAddr rfl ((b114).fa (f := 0) (k := 0) (by kernel_rfl))) rfl rfl rfl ?_
  obtain ⟨u121, e121, s121⟩ := ((b114).base.fst').ldSl vt22
  refine XD.ld (b := 1) (After.refl _) SegsOk.nil hkr120 rfl (e121) rfl rfl rfl rfl ?_
  refine XD.a (b := 3) rfl (.len rfl (s121.len el22)) rfl rfl rfl rfl ?_
  refine XD.c (b := 7) (.eql rfl rfl) rfl rfl rfl ?_
  refine XD.callV (bb := 15) (After.refl _) (SegsOk.cons ((After.refl _)).next (SegsOk.cons ((After.refl _)).next SegsOk.nil)) rfl rfl rfl rfl rfl rfl ?_
  intro M122 aM122 oM122
  refine EvF.mono (sWhen_ok (aM122.ok hkr120) (aM122.inS hSr120)  ) ?_
  rintro _ _ ⟨rfl, hh⟩
  refine ⟨hh, ?_⟩
  clear hh
  refine XD.c (b := 0) (.fieldAddr rfl ((b114).fa (f := 0) (k := 0) (by kernel_rfl))) rfl rfl rfl ?_
  obtain ⟨u123, e123, s123⟩ := ((b114).base.fst').ldSl vt22
  refine XD.ld (b := 32) (After.refl _) (SegsOk.cons ((After.refl _)).next (SegsOk.cons ((After.refl _)).next (SegsOk.cons ((After.refl _)).next SegsOk.nil))) hkr120 rfl (e123) rfl rfl rfl rfl ?_
  refine XD.a (b := 96) rfl (.len rfl (s123.len el22)) rfl rfl rfl rfl ?_
  refine XD.c (b := 224) (.gtr rfl rfl) rfl rfl rfl ?_
  refine XD.callV (bb := 511) (After.refl _) (SegsOk.cons ((After.refl _)).next (SegsOk.cons ((After.refl _)).next (SegsOk.cons ((After.refl _)).next (SegsOk.cons ((After.refl _)).next (SegsOk.cons ((After.refl _)).next SegsOk.nil))))) rfl rfl rfl rfl rfl rfl ?_
  intro M124 aM124 oM124
  refine EvF.mono (sWhen_ok (aM124.ok hkr120) (aM124.inS hSr120)  ) ?_
  rintro _ _ ⟨rfl, hh⟩
  refine ⟨hh, ?_⟩
  clear hh
  refine XD.c (b := 0) (.move rfl) rfl rfl rfl ?_
  refine XD.c (b := 0) (.fieldAddr rfl ((b114).fa (f := 1) (k := 1) (by kernel_rfl))) rfl rfl rfl ?_
  refine XD.ld (b := 2048) (After.refl _) (SegsOk.cons ((After.refl _)).next (SegsOk.cons ((After.refl _)).next (SegsOk.cons ((After.refl _)).next (SegsOk.cons ((After.refl _)).next (SegsOk.cons ((After.refl _)).next (SegsOk.cons ((After.refl _)).next SegsOk.nil)))))) hkr120 rfl ((((b114).base.snd' (m := 1) rfl (b114).isP).fst').ldInt vt3) rfl rfl rfl rfl ?_
  refine XD.callV (bb := 7167) (After.refl _) (SegsOk.cons ((After.refl _)).next (SegsOk.cons ((After.refl _)).next (SegsOk.cons ((After.refl _)).next (SegsOk.cons ((After.refl _)).next (SegsOk.cons ((After.refl _)).next (SegsOk.cons ((After.refl _)).next (SegsOk.cons ((After.refl _)).next SegsOk.nil))))))) rfl rfl rfl rfl rfl rfl ?_
  intro M125 aM125 oM125
  refine EvF.mono (sWithin_ok (aM125.ok hkr120) (aM125.inS hSr120)  ) ?_
  rintro _ _ ⟨rfl, hh⟩
  refine ⟨hh, ?_⟩
  clear hh
  refine XD.c (b := 0) (.fieldAddr rfl ((b114).fa (f := 2) (k := 2) (by kernel_rfl))) rfl rfl rfl ?_
  refine XD.ld (b := 16384) (After.refl _) (SegsOk.cons ((After.refl _)).next (SegsOk.cons ((After.refl _)).next (SegsOk.cons ((After.refl _)).next (SegsOk.cons ((After.refl _)).next (SegsOk.cons ((After.refl _)).next (SegsOk.cons ((After.refl _)).next (SegsOk.cons ((After.refl _)).next (SegsOk.cons ((After.refl _)).next SegsOk.nil)))))))) hkr120 rfl (((((b114).base.snd' (m := 1) rfl (b114).isP).snd' (m := 2) rfl (b114).isP)).ldInt vt3) rfl rfl rfl rfl ?_
  refine XD.callV (bb := 64511) (After.refl _) (SegsOk.cons ((After.refl _)).next (SegsOk.cons ((After.refl _)).next (SegsOk.cons ((After.refl _)).next (SegsOk.cons ((After.refl _)).next (SegsOk.cons ((After.refl _)).next (SegsOk.cons ((After.refl _)).next (SegsOk.cons ((After.refl _)).next (SegsOk.cons ((After.refl _)).next (SegsOk.cons ((After.refl _)).next SegsOk.nil))))))))) rfl rfl rfl rfl rfl rfl ?_
  intro M126 aM126 oM126
  refine EvF.mono (sWithin_ok (aM126.ok hkr120) (aM126.inS hSr120)  ) ?_
  rintro _ _ ⟨rfl, hh⟩
  refine ⟨hh, ?_⟩
  clear hh
  refine XD.lit (b := 131071) (h := h117) (S := S) (τ := (.int .i64)) (vsC (RepV.ofInt .i64 _) (vsC (RepV.ofInt .i64 _) (vsC (RepV.ofInt .i64 _) (vsC (RepV.ofInt .i64 _) (vs1 (RepV.ofInt .i64 _)))))) el179 rfl rfl rfl (by simp) (by simp) (by decide) (hA.ok hok) (hA.inS hS) rfl rfl rfl rfl ?_
  intro w127 h127 s127 a127
  have ha0o := ha0
  have b114o := b114
  have s116o := s116
  have s117o := s117
  have s121o := s121
  have s123o := s123
  have rg120 : Goes h117 S h117 S := Goes.refl
  have ra120 := After.refl h117
  have ok128 := hA.ok hok
  have gg128 : Goes h117 S h127 S := a127.nx ok128
  replace hA := hA.trans a127
  replace ha0 := ha0.nx gg128
  replace b114 := b114.nx gg128
  replace s116 := s116.nx gg128
  replace s117 := s117.nx gg128
  replace s121 := s121.nx gg128
  replace s123 := s123.nx gg128
  replace rg120 := rg120.trans gg128
  have ra120_127 := ra120.trans a127
  refine XD.callV (bb := 262143) ra120_127 (SegsOk.cons (ra120).next (SegsOk.cons ((After.refl _)).next (SegsOk.cons ((After.refl _)).next (SegsOk.cons ((After.refl _)).next (SegsOk.cons ((After.refl _)).next (SegsOk.cons ((After.refl _)).next (SegsOk.cons ((After.refl _)).next (SegsOk.cons ((After.refl _)).next (SegsOk.cons ((After.refl _)).next (SegsOk.cons ((After.refl _)).next (SegsOk.cons ((After.refl _)).next SegsOk.nil))))))))))) rfl rfl rfl rfl rfl rfl ?_
  intro M129 aM129 oM129
  obtain rfl := oM129 rfl
  refine EvF.mono (sFirst_ok (hA.ok hok) (hA.inS hS) (s127).entry (by simp)) ?_
  rintro _ _ ⟨rfl, hh⟩
  refine ⟨hh, ?_⟩
  clear hh
  refine XD.c (b := 524287) (.assign rfl) rfl rfl rfl ?_
  refine XD.nil (thenC.go ?_)
  refine XC.ret fun tf htf => ?_
  refine endF.one rfl rfl (htf 2 _ rfl) ?_
  exact ⟨congrArg (Value.int .i64) (by rfl), hA.leftAf rfl⟩
theorem tapsE_drop {l : List Int} {j : Nat} (hj : j < l.length) : tapsE (l.drop j) = if rangeE l[j] (-64) 64 = 0 then tapsE (l.drop (j + 1)) else rangeE l[j] (-64) 64 := by
  rw [tapsE, List.drop_eq_getElem_cons hj]; rfl
theorem tapsE_end {l : List Int} {j : Nat} (hj : l.length ≤ j) : tapsE (l.drop j) = 0 := by rw [List.drop_eq_nil_of_le hj]; rfl
theorem rangeE_or (n lo hi : Int) : rangeE n lo hi = 0 ∨ rangeE n lo hi = 3 := by unfold rangeE; split <;> simp
theorem tapsE_or (l : List Int) : tapsE l = 0 ∨ tapsE l = 3 := by
  unfold tapsE
  induction l with
  | nil => exact .inl rfl
  | cons x l ih => simp only [List.map_cons, firstE]; split
                   · exact ih
                   · exact rangeE_or ..
theorem rCheckTransfer_ok {h : Heap} {S : List Nat} {v0 : Value} {t : (List Int) × Int × Int} (hok : HOk h) (hS : ∀ b ∈ S, b < h.next) (ha0 : RepV h S (.pair (.sl (.int .i64)) (.pair (.int .i64) (.int .i64))) v0 t) (hl : t.1.length < 100000) : EvF Tryz.prog OA 20 [v0] h fun r h' => r = .int .i64 (transferE t) ∧ h' = h := by
  refine XF.enter Tryz.func20 rfl rfl rfl ?_
  have hok : HOk (entry h) := hok
  have hA := After.refl (entry h)
  replace ha0 := ha0.entry
  show XC Tryz.prog OA none _ _ [] [(0, v0)] (entry h) _
  refine XC.seq ?_
  refine XC.text ?_
  refine XO.boxR rfl ha0 (hA.ok hok) (hA.inS hS) rfl rfl ?_
  intro p130 h130 b130 a130
  have ok131 := hA.ok hok
  have gg131 : Goes (entry h) S h130 S := a130.nx ok131
  replace hA := hA.trans a130
  replace ha0 := ha0.nx gg131
  refine XO.c (.assign rfl) rfl rfl ?_
  refine XO.nil (thenC.go ?_)
  refine XC.seq ?_
  refine XC.seq ?_
  refine XC.text ?_
  refine XO.c (.fieldAddr rfl ((b130).fa (f := 0) (k := 0) (by kernel_rfl))) rfl rfl ?_
  obtain ⟨u132, e132, s132⟩ := ((b130).base.fst').ldSl vt22
  refine XO.r (.load rfl (e132)) rfl rfl ?_
  refine XO.a (.len rfl (s132.len el22)) rfl rfl ?_
  refine XO.c (.eql rfl rfl) rfl rfl ?_
  refine XO.nil (thenC.go ?_)
  refine XC.condD rfl (fun c1 => ?_) (fun c1 => ?_)
  · refine XC.seq ?_
    refine XC.text ?_
    refine XO.c (.assign rfl) rfl rfl ?_
    refine XO.nil (thenC.go ?_)
    refine XC.ret fun tf htf => ?_
    refine thenC_ret ?_
    refine endF.one rfl rfl (htf 2 _ rfl) ?_
    exact ⟨congrArg (Value.int .i64) (by simp only [transferE, whenE_t c1]; simp [firstE]), hA.leftAf rfl⟩
  · refine XC.skip (thenC.go ?_)
    refine XC.seq ?_
    refine XC.seq ?_
    refine XC.text ?_
    refine XO.c (.fieldAddr rfl ((b130).fa (f := 0) (k := 0) (by kernel_rfl))) rfl rfl ?_
    obtain ⟨u133, e133, s133⟩ := ((b130).base.fst').ldSl vt22
    refine XO.r (.load rfl (e133)) rfl rfl ?_
    refine XO.a (.len rfl (s133.len el22)) rfl rfl ?_
    refine XO.c (.gtr rfl rfl) rfl rfl ?_
    refine XO.nil (thenC.go ?_)
    refine XC.condD rfl (fun c3 => ?_) (fun c3 => ?_)
    · refine XC.seq ?_
      refine XC.text ?_
      refine XO.c (.assign rfl) rfl rfl ?_
      refine XO.nil (thenC.go ?_)
      refine XC.ret fun tf htf => ?_
      refine thenC_ret ?_
      refine endF.one rfl rfl (htf 2 _ rfl) ?_
      exact ⟨congrArg (Value.int .i64) (by simp only [transferE, whenE_f c1, whenE_t c3]; simp [firstE]), hA.leftAf rfl⟩
    · refine XC.skip (thenC.go ?_)
      refine XC.seq ?_
      refine XC.seq ?_
      refine XC.text ?_
      refine XO.c (.assign rfl) rfl rfl ?_
      refine XO.nil (thenC.go ?_)
      refine XC.block ?_
      have hAL134 := hA
      have hkL134 := hA.ok hok
      have hSL134 := (hA.inS hS)
      refine XC.keep [(1, p130), (3, .int .i64 ((0 : Nat) : Int))] ⟨rfl, rfl, trivial⟩ ?_
      refine XC.loopI (I := fun (kk : Nat) (ff : FL) (hh : Heap) => ∃ (j : Nat), kk = t.1.length - j ∧ ff = [(1, p130), (3, .int .i64 ((j : Nat) : Int))] ∧ After (entry h) hh ∧ After h130 hh ∧ Goes h130 S hh S ∧ j ≤ t.1.length ∧ tapsE t.1 = tapsE (t.1.drop j)) ?_ _ _ _ ⟨0, rfl, rfl, hA, After.refl _, Goes.refl, (by omega), (by rfl)⟩
      clear hA
      rintro kk ff hh134 ⟨j, hk134, rfl, hA, aL134, nL134, hj, hf⟩
      replace ha0 := ha0.nx nL134
      replace b130 := b130.nx nL134
      replace s132 := s132.nx nL134
      replace s133 := s133.nx nL134
      refine XC.seq ?_
      refine XC.seq ?_
      refine XC.text ?_
      refine XO.c (.move rfl) rfl rfl ?_
      refine XO.c (.fieldAddr rfl ((b130).fa (f := 0) (k := 0) (by kernel_rfl))) rfl rfl ?_
      obtain ⟨u135, e135, s135⟩ := ((b130).base.fst').ldSl vt22
      refine XO.r (.load rfl (e135)) rfl rfl ?_
      refine XO.a (.len rfl (s135.len el22)) rfl rfl ?_
      refine XO.c (.lss rfl rfl) rfl rfl ?_
      refine XO.nil (thenC.go ?_)
      refine XC.condD rfl (fun c6 => ?_) (fun c6 => ?_)
      · refine XC.skip (thenC.go ?_)
        refine XC.seq ?_
        refine XC.block ?_
        refine XC.seq ?_
        refine XC.text ?_
        refine XO.c (.fieldAddr rfl ((b130).fa (f := 0) (k := 0) (by kernel_rfl))) rfl rfl ?_
        obtain ⟨u136, e136, s136⟩ := ((b130).base.fst').ldSl vt22
        refine XO.r (.load rfl (e136)) rfl rfl ?_
        refine XO.c (.move rfl) rfl rfl ?_
        refine XO.c (.indexAddr rfl rfl rfl (s136.ix (j := j) el22 (by omega))) rfl rfl ?_
        refine XO.r (.load rfl (((s136.at (j := j) (by omega))).ldInt vt3)) rfl rfl ?_
        refine XO.call rfl rfl rfl rfl ?_
        refine EvF.mono (rCheckRange_ok (hA.ok hok) (hA.inS hS)  ) ?_
        rintro _ _ ⟨rfl, hh⟩
        obtain rfl := hh.symm
        clear hh
        refine XO.c (.assign rfl) rfl rfl ?_
        refine XO.nil (thenC.go ?_)
        refine XC.seq ?_
        refine XC.text ?_
        refine XO.c (.move rfl) rfl rfl ?_
        refine XO.c (.neq rfl rfl) rfl rfl ?_
        refine XO.nil (thenC.go ?_)
        refine XC.condD rfl (fun c9 => ?_) (fun c9 => ?_)
        · refine XC.seq ?_
          refine XC.text ?_
          refine XO.c (.move rfl) rfl rfl ?_
          refine XO.c (.assign rfl) rfl rfl ?_
          refine XO.nil (thenC.go ?_)
          refine XC.ret fun tf htf => ?_
          refine inBlock_ret ?_
          refine thenC_ret ?_
          refine loopQ_ret ?_
          refine inBlock_ret ?_
          refine thenC_ret ?_
          refine endF.one rfl rfl (htf 2 _ rfl) ?_
          exact ⟨congrArg (Value.int .i64) (by have h9 := hf; rw [tapsE_drop (by omega), if_neg c9] at h9; simp only [transferE, whenE_f c1, whenE_f c3]; simp [firstE, h9, c9]), hA.leftAf rfl⟩
        · refine XC.skip ?_
          intro tf htf
          refine inBlock_nrm ?_
          refine thenC.go ?_ tf htf
          refine XC.text ?_
          refine XO.c (.move rfl) rfl rfl ?_
          refine XO.c (.add rfl rfl (by omega)) rfl rfl ?_
          refine XO.c (.assign rfl) rfl rfl ?_
          refine XO.nil ?_
          intro tf htf
          refine ⟨rfl, rfl, _, [(1, p130), (3, .int .i64 (((j + 1) : Nat) : Int))], ?_, htf.keep _ ⟨rfl, rfl, trivial⟩, (j + 1), rfl, rfl, hA, aL134, nL134, (by omega), (by rw [hf, tapsE_drop (by omega), if_pos (by simpa using c9)])⟩
          omega
      · refine XC.exit ?_
        intro tf htf
        refine thenC_exit ?_
        refine loopQ_exit ?_
        refine inBlock_eq ?_
        refine thenC.go ?_ tf htf
        refine XC.seq ?_
        refine XC.drawn ?_
        have hkr138 := hA.ok hok
        have hSr138 := (hA.inS hS)
        refine XD.c (b := 0) (.fieldAddr rfl ((b130).fa (f := 1) (k := 1) (by kernel_rfl))) rfl rfl rfl ?_
        refine XD.ld (b := 1) (After.refl _) SegsOk.nil hkr138 rfl ((((b130).base.snd' (m := 1) rfl (b130).isP).fst').ldInt vt3) rfl rfl rfl rfl ?_
        refine XD.callV (bb := 3) (After.refl _) (SegsOk.cons ((After.refl _)).next SegsOk.nil) rfl rfl rfl rfl rfl rfl ?_
        intro M139 aM139 oM139
        refine EvF.mono (rCheckRange_ok (aM139.ok hkr138) (aM139.inS hSr138)  ) ?_
        rintro _ _ ⟨rfl, hh⟩
        refine ⟨hh, ?_⟩
        clear hh
        refine XD.c (b := 0) (.fieldAddr rfl ((b130).fa (f := 2) (k := 2) (by kernel_rfl))) rfl rfl rfl ?_
        refine XD.ld (b := 8) (After.refl _) (SegsOk.cons ((After.refl _)).next (SegsOk.cons ((After.refl _)).next SegsOk.nil)) hkr138 rfl (((((b130).base.snd' (m := 1) rfl (b130).isP).snd' (m := 2) rfl (b130).isP)).ldInt vt3) rfl rfl rfl rfl ?_
        refine XD.callV (bb := 31) (After.refl _) (SegsOk.cons ((After.refl _)).next (SegsOk.cons ((After.refl _)).next (SegsOk.cons ((After.refl _)).next SegsOk.nil))) rfl rfl rfl rfl rfl rfl ?_
        intro M140 aM140 oM140
        refine EvF.mono (rCheckRange_ok (aM140.ok hkr138) (aM140.inS hSr138)  ) ?_
        rintro _ _ ⟨rfl, hh⟩
        refine ⟨hh, ?_⟩
        clear hh
        refine XD.lit (b := 63) (h := hh134) (S := S) (τ := (.int .i64)) (vsC (RepV.ofInt .i64 _) (vs1 (RepV.ofInt .i64 _))) el22 rfl rfl rfl (by simp) (by simp) (by decide) (hA.ok hok) (hA.inS hS) rfl rfl rfl rfl ?_
        intro w141 h141 s141 a141
        have ha0o := ha0
        have b130o := b130
        have s132o := s132
        have s133o := s133
        have s135o := s135
        have rg138 : Goes hh134 S hh134 S := Goes.refl
        have ra138 := After.refl hh134
        have ok142 := hA.ok hok
        have gg142 : Goes hh134 S h141 S := a141.nx ok142
        replace hA := hA.trans a141
        replace ha0 := ha0.nx gg142
        replace b130 := b130.nx gg142
        replace s132 := s132.nx gg142
        replace s133 := s133.nx gg142
        replace s135 := s135.nx gg142
        replace rg138 := rg138.trans gg142
        have ra138_141 := ra138.trans a141
        refine XD.callV (bb := 127) ra138_141 (SegsOk.cons (ra138).next (SegsOk.cons ((After.refl _)).next (SegsOk.cons ((After.refl _)).next (SegsOk.cons ((After.refl _)).next (SegsOk.cons ((After.refl _)).next SegsOk.nil))))) rfl rfl rfl rfl rfl rfl ?_
        intro M143 aM143 oM143
        obtain rfl := oM143 rfl
        refine EvF.mono (rFirst_ok (hA.ok hok) (hA.inS hS) (s141).entry (by simp)) ?_
        rintro _ _ ⟨rfl, hh⟩
        refine ⟨hh, ?_⟩
        clear hh
        refine XD.c (b := 255) (.assign rfl) rfl rfl rfl ?_
        refine XD.nil (thenC.go ?_)
        refine XC.ret fun tf htf => ?_
        refine endF.one rfl rfl (htf 2 _ rfl) ?_
        exact ⟨congrArg (Value.int .i64) (by have h9 := hf; rw [tapsE_end (by omega)] at h9; simp only [transferE, whenE_f c1, whenE_f c3]; simp [firstE, h9]), hA.leftAf rfl⟩

/-! ## Transfers, applied -/
def tapSum (a l : List Int) (i : Nat) : Nat → Int
  | 0 => 0
  | k + 1 => tapSum a l i k + a.getD k 0 * l.getD (max 0 ((i : Int) - k)).toNat 0
def applyE (t : List Int × Int × Int) (l : List Int) : List Int := (List.range l.length).map fun i => (tapSum t.1 l i t.1.length).fdiv (2 ^ t.2.1.toNat) + t.2.2
structure OkT (t : List Int × Int × Int) : Prop where
  taps : ∀ x ∈ t.1, -64 ≤ x ∧ x ≤ 64
  len : t.1.length ≤ 8
  shift : 0 ≤ t.2.1 ∧ t.2.1 ≤ 8
  off : -1024 ≤ t.2.2 ∧ t.2.2 ≤ 1024
structure OkL (l : List Int) : Prop where
  all : ∀ x ∈ l, -1048576 ≤ x ∧ x ≤ 1048576
  len : l.length ≤ 96
theorem getD_mem_or {l : List Int} (i : Nat) : l.getD i 0 = 0 ∨ l.getD i 0 ∈ l := by
  by_cases h : i < l.length
  · right; simp [List.getD, h]
  · left; simp [List.getD, List.getElem?_eq_none (by omega : l.length ≤ i)]
theorem mul_bound {a b A B : Int} (h1 : -A ≤ a ∧ a ≤ A) (h2 : -B ≤ b ∧ b ≤ B) : -(A * B) ≤ a * b ∧ a * b ≤ A * B := by
  have hA : 0 ≤ A := by omega
  have hB : 0 ≤ B := by omega
  have e1 : 0 ≤ (A - a) * (B + b) := Int.mul_nonneg (by omega) (by omega)
  have e2 : 0 ≤ (A + a) * (B - b) := Int.mul_nonneg (by omega) (by omega)
  have e3 : 0 ≤ (A - a) * (B - b) := Int.mul_nonneg (by omega) (by omega)
  have e4 : 0 ≤ (A + a) * (B + b) := Int.mul_nonneg (by omega) (by omega)
  simp only [Int.sub_mul, Int.add_mul, Int.mul_sub, Int.mul_add] at e1 e2 e3 e4
  constructor <;> omega
theorem tap_bound {a l : List Int} (ha : ∀ x ∈ a, -64 ≤ x ∧ x ≤ 64) (hl : ∀ x ∈ l, -1048576 ≤ x ∧ x ≤ 1048576) (i j : Nat) : -67108864 ≤ a.getD i 0 * l.getD j 0 ∧ a.getD i 0 * l.getD j 0 ≤ 67108864 := by
  have h1 : -64 ≤ a.getD i 0 ∧ a.getD i 0 ≤ 64 := by
    rcases getD_mem_or (l := a) i with h | h
    · rw [h]; decide
    · exact ha _ h
  have h2 : -1048576 ≤ l.getD j 0 ∧ l.getD j 0 ≤ 1048576 := by
    rcases getD_mem_or (l := l) j with h | h
    · rw [h]; decide
    · exact hl _ h
  exact mul_bound (A := 64) (B := 1048576) h1 h2
theorem tapSum_bound {a l : List Int} (ha : ∀ x ∈ a, -64 ≤ x ∧ x ≤ 64) (hl : ∀ x ∈ l, -1048576 ≤ x ∧ x ≤ 1048576) (i : Nat) : ∀ k : Nat, -(67108864 * (k : Int)) ≤ tapSum a l i k ∧ tapSum a l i k ≤ 67108864 * (k : Int)
  | 0 => by simp [tapSum]
  | k + 1 => by
    have h1 := tapSum_bound ha hl i k
    have h2 := tap_bound ha hl k (max 0 ((i : Int) - k)).toNat
    simp only [tapSum]
    constructor <;> (push_cast; omega)
theorem getD_eq {l : List Int} {i : Nat} (h : i < l.length) : l[i] = l.getD i 0 := by simp [List.getD, h]
theorem fdiv_bound {n : Int} {s : Nat} (h : -1000000000 ≤ n ∧ n ≤ 1000000000) : -1000000000 ≤ n.fdiv (2 ^ s) ∧ n.fdiv (2 ^ s) ≤ 1000000000 := by
  have hp : (0 : Int) < 2 ^ s := Int.pow_pos (by decide)
  rw [Int.fdiv_eq_ediv_of_nonneg _ (Int.le_of_lt hp)]
  have h1 : (1 : Int) ≤ 2 ^ s := hp
  constructor
  · have : -1000000000 * 2 ^ s ≤ n := by
      have : (-1000000000 : Int) * 2 ^ s ≤ -1000000000 * 1 := Int.mul_le_mul_of_nonpos_left (by decide) h1
      omega
    exact (Int.le_ediv_iff_mul_le hp).2 this
  · refine Int.ediv_le_of_le_mul hp ?_
    have : (1000000000 : Int) * 1 ≤ 1000000000 * 2 ^ s := Int.mul_le_mul_of_nonneg_left h1 (by decide)
    omega
theorem sApplyT_ok {h : Heap} {S : List Nat} {v0 : Value} {t : (List Int) × Int × Int} {v1 : Value} {l : List Int} (hok : HOk h) (hS : ∀ b ∈ S, b < h.next) (ha0 : RepV h S (.pair (.sl (.int .i64)) (.pair (.int .i64) (.int .i64))) v0 t) (ha1 : SlV h S (.int .i64) v1 l) (ht : OkT t) (hl : OkL l) : EvF Tryz.prog OA 95 [v0, v1] h fun r h' => After h h' ∧ SlV h' S (.int .i64) r (applyE t l) := by
  refine XF.enter Tryz.func95 rfl rfl rfl ?_
  have hok : HOk (entry h) := hok
  have hA := After.refl (entry h)
  replace ha0 := ha0.entry
  replace ha1 := ha1.entry
  show XC Tryz.prog OA none _ _ [] [(0, v0), (1, v1)] (entry h) _
  refine XC.seq ?_
  refine XC.text ?_
  refine XO.boxR rfl ha0 (hA.ok hok) (hA.inS hS) rfl rfl ?_
  intro p144 h144 b144 a144
  have ok145 := hA.ok hok
  have gg145 : Goes (entry h) S h144 S := a144.nx ok145
  replace hA := hA.trans a144
  replace ha0 := ha0.nx gg145
  replace ha1 := ha1.nx gg145
  refine XO.c (.assign rfl) rfl rfl ?_
  refine XO.nil (thenC.go ?_)
  refine XC.seq ?_
  refine XC.text ?_
  refine XO.c (.assign rfl) rfl rfl ?_
  refine XO.nil (thenC.go ?_)
  refine XC.seq ?_
  refine XC.seq ?_
  refine XC.text ?_
  refine XO.c (.move rfl) rfl rfl ?_
  refine XO.a (.len rfl (ha1.len el22)) rfl rfl ?_
  refine XO.c (.move rfl) rfl rfl ?_
  refine XO.nil (thenC.go ?_)
  refine XC.block ?_
  have hAL146 := hA
  have hkL146 := hA.ok hok
  have hSL146 := (hA.inS hS)
  refine XC.keep [(1, v1), (2, p144), (5, .slice none 0 0), (11, .int .i64 ((l.length : Nat) : Int)), (12, .int .i64 ((0 : Nat) : Int))] ⟨rfl, rfl, rfl, rfl, rfl, trivial⟩ ?_
  refine XC.loopI (I := fun (kk : Nat) (ff : FL) (hh : Heap) => ∃ (j : Nat) (out : Value), kk = l.length - j ∧ ff = [(1, v1), (2, p144), (5, out), (11, .int .i64 ((l.length : Nat) : Int)), (12, .int .i64 ((j : Nat) : Int))] ∧ After (entry h) hh ∧ After h144 hh ∧ Goes h144 S hh (ownB out ++ S) ∧ GrowR hh (ownB out ++ S) h144.next 3 true (.int .i64) out ((List.range j).map fun i => (tapSum t.1 l i t.1.length).fdiv (2 ^ t.2.1.toNat) + t.2.2) ∧ j ≤ l.length) ?_ _ _ _ ⟨0, .slice none 0 0, rfl, rfl, hA, After.refl _, Goes.refl, (GrowR.nil), (by omega)⟩
  clear hA
  rintro kk ff hh146 ⟨j, out, hk146, rfl, hA, aL146, nL146, g_out146, hj⟩
  replace ha0 := ha0.nx nL146
  replace ha1 := ha1.nx nL146
  replace b144 := b144.nx nL146
  have h8 := hl.len
  have h9 := ht.len
  have h10 := ht.shift
  have h11 := ht.off
  refine XC.seq ?_
  refine XC.text ?_
  refine XO.c (.lss rfl rfl) rfl rfl ?_
  refine XO.nil (thenC.go ?_)
  refine XC.seq ?_
  refine XC.condD rfl (fun c3 => ?_) (fun c3 => ?_)
  · refine XC.skip (thenC.go ?_)
    refine XC.seq ?_
    refine XC.block ?_
    refine XC.seq ?_
    refine XC.text ?_
    refine XO.c (.move rfl) rfl rfl ?_
    refine XO.c (.assign rfl) rfl rfl ?_
    refine XO.nil (thenC.go ?_)
    refine XC.seq ?_
    refine XC.text ?_
    refine XO.c (.assign rfl) rfl rfl ?_
    refine XO.nil (thenC.go ?_)
    refine XC.seq ?_
    refine XC.seq ?_
    refine XC.text ?_
    refine XO.c (.fieldAddr rfl ((b144).fa (f := 0) (k := 0) (by kernel_rfl))) rfl rfl ?_
    obtain ⟨u147, e147, s147⟩ := ((b144).base.fst').ldSl vt22
    refine XO.r (.load rfl (e147)) rfl rfl ?_
    refine XO.a (.len rfl (s147.len el22)) rfl rfl ?_
    refine XO.c (.move rfl) rfl rfl ?_
    refine XO.nil (thenC.go ?_)
    refine XC.block ?_
    have hAL148 := hA
    have hkL148 := hA.ok hok
    have hSL148 := (g_out146.inS (hA.ok hok) (hA.inS hS))
    have g_out146L148 := g_out146
    have aL146o148 := aL146
    refine XC.keep [(1, v1), (2, p144), (5, out), (6, .int .i64 ((j : Nat) : Int)), (7, .int .i64 (tapSum t.1 l j 0)), (11, .int .i64 ((l.length : Nat) : Int)), (12, .int .i64 ((j : Nat) : Int)), (16, u147), (17, .int .i64 ((t.1.length : Nat) : Int)), (18, .int .i64 ((0 : Nat) : Int))] ⟨rfl, rfl, rfl, rfl, rfl, rfl, rfl, rfl, rfl, rfl, trivial⟩ ?_
    refine XC.loopI (I := fun (kk : Nat) (ff : FL) (hh : Heap) => ∃ (q : Nat), kk = t.1.length - q ∧ ff = [(1, v1), (2, p144), (5, out), (6, .int .i64 ((j : Nat) : Int)), (7, .int .i64 (tapSum t.1 l j q)), (11, .int .i64 ((l.length : Nat) : Int)), (12, .int .i64 ((j : Nat) : Int)), (16, u147), (17, .int .i64 ((t.1.length : Nat) : Int)), (18, .int .i64 ((q : Nat) : Int))] ∧ After (entry h) hh ∧ After hh146 hh ∧ Goes hh146 (ownB out ++ S) hh (ownB out ++ S) ∧ q ≤ t.1.length) ?_ _ _ _ ⟨0, rfl, rfl, hA, After.refl _, Goes.refl, (by omega)⟩
    clear hA
    rintro kk ff hh148 ⟨q, hk148, rfl, hA, aL148, nL148, hq⟩
    replace aL146 := aL146.trans aL148
    replace nL146 := nL146.trans nL148
    replace ha0 := ha0.nx nL148
    replace ha1 := ha1.nx nL148
    replace b144 := b144.nx nL148
    replace s147 := s147.nx nL148
    replace g_out146 := g_out146.keep aL148 hkL148
    refine XC.seq ?_
    refine XC.text ?_
    refine XO.c (.lss rfl rfl) rfl rfl ?_
    refine XO.nil (thenC.go ?_)
    refine XC.seq ?_
    refine XC.condD rfl (fun c7 => ?_) (fun c7 => ?_)
    · refine XC.skip (thenC.go ?_)
      refine XC.seq ?_
      refine XC.block ?_
      refine XC.seq ?_
      refine XC.text ?_
      refine XO.c (.move rfl) rfl rfl ?_
      refine XO.c (.indexAddr rfl rfl rfl (s147.ix (j := q) el22 (by omega))) rfl rfl ?_
      refine XO.r (.load rfl (((s147.at (j := q) (by omega))).ldInt vt3)) rfl rfl ?_
      refine XO.c (.assign rfl) rfl rfl ?_
      refine XO.c (.assign rfl) rfl rfl ?_
      refine XO.nil (thenC.go ?_)
      refine XC.text ?_
      refine XO.c (.move rfl) rfl rfl ?_
      refine XO.c (.move rfl) rfl rfl ?_
      refine XO.c (.move rfl) rfl rfl ?_
      refine XO.c (.move rfl) rfl rfl ?_
      refine XO.c (.move rfl) rfl rfl ?_
      refine XO.c (.sub rfl rfl (by omega)) rfl rfl ?_
      refine XO.a (.max rfl rfl) rfl rfl ?_
      refine XO.c (.indexAddr rfl rfl rfl (ha1.ixZ (n := (max (0 : Int) (((j : Nat) : Int) - ((q : Nat) : Int)))) el22 (by omega) (by omega))) rfl rfl ?_
      refine XO.r (.load rfl (((ha1.at (j := Int.toNat (max (0 : Int) (((j : Nat) : Int) - ((q : Nat) : Int)))) (by omega))).ldInt vt3)) rfl rfl ?_
      have b1 := tapSum_bound ht.taps hl.all j q
      have b2 : -67108864 ≤ t.1[q] * l[Int.toNat (max (0 : Int) (((j : Nat) : Int) - ((q : Nat) : Int)))] ∧ t.1[q] * l[Int.toNat (max (0 : Int) (((j : Nat) : Int) - ((q : Nat) : Int)))] ≤ 67108864 := by rw [getD_eq, getD_eq]; exact tap_bound ht.taps hl.all _ _
      refine XO.c (.mul rfl rfl (by omega)) rfl rfl ?_
      refine XO.c (.add rfl rfl (by omega)) rfl rfl ?_
      refine XO.c (.assign rfl) rfl rfl ?_
      refine XO.nil ?_
      intro tf htf
      refine inBlock_nrm ?_
      refine thenC.go ?_ tf htf
      refine XC.text ?_
      refine XO.c (.add rfl rfl (by omega)) rfl rfl ?_
      refine XO.c (.move rfl) rfl rfl ?_
      refine XO.nil ?_
      intro tf htf
      have eT : tapSum t.1 l j (q + 1) = tapSum t.1 l j q + t.1[q] * l[Int.toNat (max (0 : Int) (((j : Nat) : Int) - ((q : Nat) : Int)))] := by rw [tapSum, getD_eq, getD_eq]
      
      refine ⟨rfl, rfl, _, [(1, v1), (2, p144), (5, out), (6, .int .i64 ((j : Nat) : Int)), (7, .int .i64 (tapSum t.1 l j (q + 1))), (11, .int .i64 ((l.length : Nat) : Int)), (12, .int .i64 ((j : Nat) : Int)), (16, u147), (17, .int .i64 ((t.1.length : Nat) : Int)), (18, .int .i64 (((q + 1) : Nat) : Int))], ?_, htf.keep _ ⟨rfl, rfl, rfl, rfl, (congrArg (fun z => some z) (by exact congrArg _ eT.symm)), rfl, rfl, rfl, rfl, rfl, trivial⟩, (q + 1), rfl, rfl, hA, aL148, nL148, (by omega)⟩
      omega
    · refine XC.exit ?_
      intro tf htf
      refine thenC_exit ?_
      refine loopQ_exit ?_
      refine inBlock_eq ?_
      refine thenC.go ?_ tf htf
      refine XC.drawn ?_
      have hkr149 := hA.ok hok
      have hSr149 := (g_out146.inS (hA.ok hok) (hA.inS hS))
      refine XD.c (b := 0) (.move rfl) rfl rfl rfl ?_
      refine XD.c (b := 0) (.move rfl) rfl rfl rfl ?_
      refine XD.c (b := 0) (.fieldAddr rfl ((b144).fa (f := 1) (k := 1) (by kernel_rfl))) rfl rfl rfl ?_
      refine XD.ld (b := 4) (After.refl _) SegsOk.nil hkr149 rfl ((((b144).base.snd' (m := 1) rfl (b144).isP).fst').ldInt vt3) rfl rfl rfl rfl ?_
      have b3 := tapSum_bound ht.taps hl.all j q
      have b4 := fdiv_bound (n := tapSum t.1 l j q) (s := t.2.1.toNat) (by omega)
      refine XD.c (b := 14) (.shr rfl rfl (by omega)) rfl rfl rfl ?_
      refine XD.c (b := 0) (.fieldAddr rfl ((b144).fa (f := 2) (k := 2) (by kernel_rfl))) rfl rfl rfl ?_
      refine XD.ld (b := 32) (After.refl _) (SegsOk.cons ((After.refl _)).next SegsOk.nil) hkr149 rfl (((((b144).base.snd' (m := 1) rfl (b144).isP).snd' (m := 2) rfl (b144).isP)).ldInt vt3) rfl rfl rfl rfl ?_
      refine XD.c (b := 126) (.add rfl rfl (by omega)) rfl rfl rfl ?_
      refine XD.pushR (b := 254) (b2 := 511) (S0 := S) (h0 := h144) el22 el22 rfl (fun _ => rfl) g_out146 (RepV.ofInt .i64 _) aL146 hkL146 (hA.inS hS) (by simp; omega) (by decide) rfl rfl rfl rfl rfl rfl rfl ?_
      intro out150 h150 t150 g150 a150 n150 l150 w150 k150
      have ok151 := hA.ok hok
      have gg151 : Goes hh148 (ownB out ++ S) h150 (ownB out150 ++ S) := n150
      replace hA := hAL146.trans a150
      replace aL146 := a150
      replace nL146 := nL146.trans gg151
      replace ha0 := ha0.nx gg151
      replace ha1 := ha1.nx gg151
      replace b144 := b144.nx gg151
      replace s147 := s147.nx gg151
      refine XD.c (b := 1023) (.assign rfl) rfl rfl rfl ?_
      refine XD.nil ?_
      intro tf htf
      refine inBlock_nrm ?_
      refine thenC.go ?_ tf htf
      refine XC.text ?_
      refine XO.c (.add rfl rfl (by omega)) rfl rfl ?_
      refine XO.c (.move rfl) rfl rfl ?_
      refine XO.nil ?_
      intro tf htf
      refine ⟨rfl, rfl, _, [(1, v1), (2, p144), (5, out150), (11, .int .i64 ((l.length : Nat) : Int)), (12, .int .i64 (((j + 1) : Nat) : Int))], ?_, htf.keep _ ⟨rfl, rfl, rfl, rfl, rfl, trivial⟩, (j + 1), out150, rfl, rfl, hA, aL146, nL146, (by obtain rfl : q = t.1.length := (by omega); rw [List.range_succ, List.map_append]; exact g150), (by omega)⟩
      omega
  · refine XC.exit ?_
    intro tf htf
    refine thenC_exit ?_
    refine loopQ_exit ?_
    refine inBlock_eq ?_
    refine thenC.go ?_ tf htf
    refine XC.seq ?_
    refine XC.text ?_
    refine XO.c (.move rfl) rfl rfl ?_
    refine XO.c (.assign rfl) rfl rfl ?_
    refine XO.nil (thenC.go ?_)
    refine XC.ret fun tf htf => ?_
    have s152 := g_out146.shut hSL146
    have gg152 : Goes hh146 (ownB out ++ S) hh146 S := nx_own
    replace ha0 := ha0.nx gg152
    replace ha1 := ha1.nx gg152
    replace b144 := b144.nx gg152
    refine endF.one rfl rfl (htf 4 _ rfl) ?_
    refine ⟨hA.left _, ?_⟩
    have hw := (s152).ret hA
    rw [show j = l.length by omega] at hw; exact hw
end Go.Proofs
namespace Go.Proofs
open Go.Fs
set_option linter.unusedVariables false
theorem vt29 : ValT Tryz.prog 29 (.pair (.sl (.int .i64)) (.pair (.int .i64) (.int .i64))) := valT_of (by kernel_rfl)
theorem tdiv_fact (n d : Int) (h : 0 < d) : ∃ r, n.tdiv d * d + r = n ∧ -d < r ∧ r < d ∧ (0 ≤ n → 0 ≤ r) ∧ (n ≤ 0 → r ≤ 0) := by
  refine ⟨n.tmod d, ?_, ?_, ?_, ?_, ?_⟩
  · have := Int.tmod_add_mul_tdiv n d; rw [Int.mul_comm] at this; omega
  · exact Int.lt_tmod_of_pos n h
  · exact Int.tmod_lt_of_pos n h
  · exact fun hn => Int.tmod_nonneg d hn
  · intro hn
    have e : n = -(-n) := by omega
    rw [e, Int.neg_tmod]; have := Int.tmod_nonneg d (show 0 ≤ -n by omega); omega
theorem tdiv_bound {n d : Int} (h : 0 < d) {B : Int} (hB : -B ≤ n ∧ n ≤ B) : -B ≤ n.tdiv d ∧ n.tdiv d ≤ B := by
  by_cases hn : 0 ≤ n
  · rw [Int.tdiv_eq_ediv_of_nonneg hn]
    have h1 := Int.ediv_nonneg hn (Int.le_of_lt h)
    have h2 := Int.ediv_le_self d hn
    omega
  · have e : n = -(-n) := by omega
    rw [e, Int.neg_tdiv, Int.tdiv_eq_ediv_of_nonneg (show 0 ≤ -n by omega)]
    have h1 := Int.ediv_nonneg (show 0 ≤ -n by omega) (Int.le_of_lt h)
    have h2 := Int.ediv_le_self d (show 0 ≤ -n by omega)
    omega
theorem tdivm_bound {n d : Int} (h : 0 < d) {B : Int} (hB : -B ≤ n ∧ n ≤ B) : -(B + d) ≤ n.tdiv d * d ∧ n.tdiv d * d ≤ B + d := by
  obtain ⟨r, h1, h2, h3, _⟩ := tdiv_fact n d h
  omega
theorem floor_eq {n d : Int} (h : 0 < d) : n.fdiv d = if n < n.tdiv d * d then n.tdiv d - 1 else n.tdiv d := by
  obtain ⟨r, h1, h2, h3, h4, h5⟩ := tdiv_fact n d h
  rw [Int.fdiv_eq_ediv_of_nonneg _ (Int.le_of_lt h)]
  split
  · exact ((Int.ediv_emod_unique (r := r + d) h).2 ⟨by rw [Int.mul_sub, Int.mul_comm d]; omega, by omega, by omega⟩).1
  · exact ((Int.ediv_emod_unique (r := r) h).2 ⟨by rw [Int.mul_comm d]; omega, by omega, by omega⟩).1
theorem rFloor_ok {h : Heap} {S : List Nat} {num : Int} {den : Int} (hok : HOk h) (hS : ∀ b ∈ S, b < h.next) (hd : 0 < den ∧ den ≤ 1048576) (hn : -1000000000000 ≤ num ∧ num ≤ 1000000000000) : EvF Tryz.prog OA 98 [.int .i64 num, .int .i64 den] h fun r h' => r = .int .i64 (num.fdiv den) ∧ h' = h := by
  refine XF.enter Tryz.func98 rfl rfl rfl ?_
  have hok : HOk (entry h) := hok
  have hA := After.refl (entry h)
  show XC Tryz.prog OA none _ _ [] [(0, .int .i64 num), (1, .int .i64 den)] (entry h) _
  refine XC.seq ?_
  refine XC.text ?_
  refine XO.c (.assign rfl) rfl rfl ?_
  refine XO.nil (thenC.go ?_)
  refine XC.seq ?_
  refine XC.text ?_
  refine XO.c (.move rfl) rfl rfl ?_
  refine XO.c (.move rfl) rfl rfl ?_
  have b1 := tdiv_bound (n := num) (d := den) (by omega) (B := 1000000000000) hn
  refine XO.c (.quo rfl rfl (by omega) (by omega)) rfl rfl ?_
  refine XO.c (.assign rfl) rfl rfl ?_
  refine XO.nil (thenC.go ?_)
  refine XC.seq ?_
  refine XC.seq ?_
  refine XC.text ?_
  refine XO.c (.move rfl) rfl rfl ?_
  refine XO.c (.move rfl) rfl rfl ?_
  have b2 := tdivm_bound (n := num) (d := den) (by omega) (B := 1000000000000) hn
  refine XO.c (.mul rfl rfl (by omega)) rfl rfl ?_
  refine XO.c (.move rfl) rfl rfl ?_
  refine XO.c (.gtr rfl rfl) rfl rfl ?_
  refine XO.nil (thenC.go ?_)
  refine XC.condD rfl (fun c2 => ?_) (fun c2 => ?_)
  · refine XC.text ?_
    refine XO.c (.move rfl) rfl rfl ?_
    refine XO.c (.sub rfl rfl (by omega)) rfl rfl ?_
    refine XO.c (.assign rfl) rfl rfl ?_
    refine XO.nil (thenC.go ?_)
    refine XC.seq ?_
    refine XC.text ?_
    refine XO.c (.move rfl) rfl rfl ?_
    refine XO.c (.assign rfl) rfl rfl ?_
    refine XO.nil (thenC.go ?_)
    refine XC.ret fun tf htf => ?_
    refine endF.one rfl rfl (htf 4 _ rfl) ?_
    exact ⟨congrArg (Value.int .i64) (by rw [floor_eq (by omega)]; simp [c2]), hA.leftAf rfl⟩
  · refine XC.skip (thenC.go ?_)
    refine XC.seq ?_
    refine XC.text ?_
    refine XO.c (.move rfl) rfl rfl ?_
    refine XO.c (.assign rfl) rfl rfl ?_
    refine XO.nil (thenC.go ?_)
    refine XC.ret fun tf htf => ?_
    refine endF.one rfl rfl (htf 4 _ rfl) ?_
    exact ⟨congrArg (Value.int .i64) (by rw [floor_eq (by omega)]; simp [c2]), hA.leftAf rfl⟩
theorem pow_bound {q : Nat} (hq : q ≤ 8) : (1 : Int) ≤ 2 ^ q ∧ (2 : Int) ^ q ≤ 256 := by
  rcases (by omega : q = 0 ∨ q = 1 ∨ q = 2 ∨ q = 3 ∨ q = 4 ∨ q = 5 ∨ q = 6 ∨ q = 7 ∨ q = 8) with rfl | rfl | rfl | rfl | rfl | rfl | rfl | rfl | rfl <;> decide
theorem rApply_ok {h : Heap} {S : List Nat} {v0 : Value} {t : (List Int) × Int × Int} {v1 : Value} {l : List Int} (hok : HOk h) (hS : ∀ b ∈ S, b < h.next) (ha0 : RepV h S (.pair (.sl (.int .i64)) (.pair (.int .i64) (.int .i64))) v0 t) (ha1 : SlV h S (.int .i64) v1 l) (ht : OkT t) (hl : OkL l) : EvF Tryz.prog OA 23 [v0, v1] h fun r h' => After h h' ∧ SlV h' S (.int .i64) r (applyE t l) := by
  refine XF.enter Tryz.func23 rfl rfl rfl ?_
  have hok : HOk (entry h) := hok
  have hA := After.refl (entry h)
  replace ha0 := ha0.entry
  replace ha1 := ha1.entry
  have h8 := hl.len
  have h9 := ht.len
  have h10 := ht.shift
  have h11 := ht.off
  show XC Tryz.prog OA none _ _ [] [(0, v0), (1, v1)] (entry h) _
  refine XC.seq ?_
  refine XC.text ?_
  refine XO.boxR rfl ha0 (hA.ok hok) (hA.inS hS) rfl rfl ?_
  intro p101 h101 b101 a101
  have ok102 := hA.ok hok
  have gg102 : Goes (entry h) S h101 S := a101.nx ok102
  replace hA := hA.trans a101
  replace ha0 := ha0.nx gg102
  replace ha1 := ha1.nx gg102
  refine XO.c (.assign rfl) rfl rfl ?_
  refine XO.nil (thenC.go ?_)
  refine XC.seq ?_
  refine XC.text ?_
  refine XO.c (.assign rfl) rfl rfl ?_
  refine XO.nil (thenC.go ?_)
  refine XC.seq ?_
  refine XC.text ?_
  refine XO.c (.assign rfl) rfl rfl ?_
  refine XO.nil (thenC.go ?_)
  refine XC.seq ?_
  refine XC.seq ?_
  refine XC.text ?_
  refine XO.c (.assign rfl) rfl rfl ?_
  refine XO.nil (thenC.go ?_)
  refine XC.block ?_
  have hAL103 := hA
  have hkL103 := hA.ok hok
  have hSL103 := (hA.inS hS)
  refine XC.keep [(1, v1), (2, p101), (5, .slice none 0 0), (6, .int .i64 ((2 : Int) ^ 0)), (7, .int .i64 ((0 : Nat) : Int))] ⟨rfl, rfl, rfl, (congrArg (fun z => some z) (by rfl)), rfl, trivial⟩ ?_
  refine XC.loopI (I := fun (kk : Nat) (ff : FL) (hh : Heap) => ∃ (q : Nat), kk = t.2.1.toNat - q ∧ ff = [(1, v1), (2, p101), (5, .slice none 0 0), (6, .int .i64 ((2 : Int) ^ q)), (7, .int .i64 ((q : Nat) : Int))] ∧ After (entry h) hh ∧ After h101 hh ∧ Goes h101 S hh S ∧ q ≤ t.2.1.toNat) ?_ _ _ _ ⟨0, rfl, rfl, hA, After.refl _, Goes.refl, (by omega)⟩
  clear hA
  rintro kk ff hh103 ⟨q, hk103, rfl, hA, aL103, nL103, hq⟩
  replace ha0 := ha0.nx nL103
  replace ha1 := ha1.nx nL103
  replace b101 := b101.nx nL103
  refine XC.seq ?_
  refine XC.seq ?_
  refine XC.text ?_
  refine XO.c (.move rfl) rfl rfl ?_
  refine XO.c (.fieldAddr rfl ((b101).fa (f := 1) (k := 1) (by kernel_rfl))) rfl rfl ?_
  refine XO.r (.load rfl ((((b101).base.snd' (m := 1) rfl (b101).isP).fst').ldInt vt3)) rfl rfl ?_
  refine XO.c (.lss rfl rfl) rfl rfl ?_
  refine XO.nil (thenC.go ?_)
  refine XC.condD rfl (fun c4 => ?_) (fun c4 => ?_)
  · refine XC.skip (thenC.go ?_)
    refine XC.seq ?_
    refine XC.block ?_
    refine XC.text ?_
    refine XO.c (.move rfl) rfl rfl ?_
    have b0 := pow_bound (q := q) (by omega)
    refine XO.c (.mul rfl rfl (by omega)) rfl rfl ?_
    refine XO.c (.assign rfl) rfl rfl ?_
    refine XO.nil ?_
    intro tf htf
    refine inBlock_nrm ?_
    refine thenC.go ?_ tf htf
    refine XC.text ?_
    refine XO.c (.move rfl) rfl rfl ?_
    refine XO.c (.add rfl rfl (by omega)) rfl rfl ?_
    refine XO.c (.assign rfl) rfl rfl ?_
    refine XO.nil ?_
    intro tf htf
    refine ⟨rfl, rfl, _, [(1, v1), (2, p101), (5, .slice none 0 0), (6, .int .i64 ((2 : Int) ^ (q + 1))), (7, .int .i64 (((q + 1) : Nat) : Int))], ?_, htf.keep _ ⟨rfl, rfl, rfl, (congrArg (fun z => some z) (by rw [Int.pow_succ, Int.mul_comm])), rfl, trivial⟩, (q + 1), rfl, rfl, hA, aL103, nL103, (by omega)⟩
    omega
  · refine XC.exit ?_
    intro tf htf
    refine thenC_exit ?_
    refine loopQ_exit ?_
    refine inBlock_eq ?_
    refine thenC.go ?_ tf htf
    refine XC.seq ?_
    refine XC.seq ?_
    refine XC.text ?_
    refine XO.c (.assign rfl) rfl rfl ?_
    refine XO.nil (thenC.go ?_)
    refine XC.block ?_
    have hAL104 := hA
    have hkL104 := hA.ok hok
    have hSL104 := (hA.inS hS)
    refine XC.keep [(1, v1), (2, p101), (5, .slice none 0 0), (6, .int .i64 ((2 : Int) ^ q)), (8, .int .i64 ((0 : Nat) : Int))] ⟨rfl, rfl, rfl, rfl, rfl, trivial⟩ ?_
    refine XC.loopI (I := fun (kk : Nat) (ff : FL) (hh : Heap) => ∃ (j : Nat) (out : Value), kk = l.length - j ∧ ff = [(1, v1), (2, p101), (5, out), (6, .int .i64 ((2 : Int) ^ q)), (8, .int .i64 ((j : Nat) : Int))] ∧ After (entry h) hh ∧ After hh103 hh ∧ Goes hh103 S hh (ownB out ++ S) ∧ GrowR hh (ownB out ++ S) hh103.next 3 true (.int .i64) out ((List.range j).map fun i => (tapSum t.1 l i t.1.length).fdiv (2 ^ t.2.1.toNat) + t.2.2) ∧ j ≤ l.length) ?_ _ _ _ ⟨0, .slice none 0 0, rfl, rfl, hA, After.refl _, Goes.refl, (GrowR.nil), (by omega)⟩
    clear hA
    rintro kk ff hh104 ⟨j, out, hk104, rfl, hA, aL104, nL104, g_out104, hj⟩
    replace ha0 := ha0.nx nL104
    replace ha1 := ha1.nx nL104
    replace b101 := b101.nx nL104
    refine XC.seq ?_
    refine XC.seq ?_
    refine XC.text ?_
    refine XO.c (.move rfl) rfl rfl ?_
    refine XO.c (.move rfl) rfl rfl ?_
    refine XO.a (.len rfl (ha1.len el22)) rfl rfl ?_
    refine XO.c (.lss rfl rfl) rfl rfl ?_
    refine XO.nil (thenC.go ?_)
    refine XC.condD rfl (fun c8 => ?_) (fun c8 => ?_)
    · refine XC.skip (thenC.go ?_)
      refine XC.seq ?_
      refine XC.block ?_
      refine XC.seq ?_
      refine XC.text ?_
      refine XO.c (.assign rfl) rfl rfl ?_
      refine XO.nil (thenC.go ?_)
      refine XC.seq ?_
      refine XC.seq ?_
      refine XC.text ?_
      refine XO.c (.assign rfl) rfl rfl ?_
      refine XO.nil (thenC.go ?_)
      refine XC.block ?_
      have hAL105 := hA
      have hkL105 := hA.ok hok
      have hSL105 := (g_out104.inS (hA.ok hok) (hA.inS hS))
      have g_out104L105 := g_out104
      have aL104o105 := aL104
      refine XC.keep [(1, v1), (2, p101), (5, out), (6, .int .i64 ((2 : Int) ^ q)), (8, .int .i64 ((j : Nat) : Int)), (9, .int .i64 (tapSum t.1 l j 0)), (10, .int .i64 ((0 : Nat) : Int))] ⟨rfl, rfl, rfl, rfl, rfl, rfl, rfl, trivial⟩ ?_
      refine XC.loopI (I := fun (kk : Nat) (ff : FL) (hh : Heap) => ∃ (k : Nat), kk = t.1.length - k ∧ ff = [(1, v1), (2, p101), (5, out), (6, .int .i64 ((2 : Int) ^ q)), (8, .int .i64 ((j : Nat) : Int)), (9, .int .i64 (tapSum t.1 l j k)), (10, .int .i64 ((k : Nat) : Int))] ∧ After (entry h) hh ∧ After hh104 hh ∧ Goes hh104 (ownB out ++ S) hh (ownB out ++ S) ∧ k ≤ t.1.length) ?_ _ _ _ ⟨0, rfl, rfl, hA, After.refl _, Goes.refl, (by omega)⟩
      clear hA
      rintro kk ff hh105 ⟨k, hk105, rfl, hA, aL105, nL105, hk⟩
      replace aL104 := aL104.trans aL105
      replace nL104 := nL104.trans nL105
      replace ha0 := ha0.nx nL105
      replace ha1 := ha1.nx nL105
      replace b101 := b101.nx nL105
      replace g_out104 := g_out104.keep aL105 hkL105
      refine XC.seq ?_
      refine XC.seq ?_
      refine XC.text ?_
      refine XO.c (.move rfl) rfl rfl ?_
      refine XO.c (.fieldAddr rfl ((b101).fa (f := 0) (k := 0) (by kernel_rfl))) rfl rfl ?_
      obtain ⟨u106, e106, s106⟩ := ((b101).base.fst').ldSl vt22
      refine XO.r (.load rfl (e106)) rfl rfl ?_
      refine XO.a (.len rfl (s106.len el22)) rfl rfl ?_
      refine XO.c (.lss rfl rfl) rfl rfl ?_
      refine XO.nil (thenC.go ?_)
      refine XC.condD rfl (fun c12 => ?_) (fun c12 => ?_)
      · refine XC.skip (thenC.go ?_)
        refine XC.seq ?_
        refine XC.block ?_
        refine XC.drawn ?_
        have hkr107 := hA.ok hok
        have hSr107 := (g_out104.inS (hA.ok hok) (hA.inS hS))
        refine XD.c (b := 0) (.move rfl) rfl rfl rfl ?_
        refine XD.c (b := 0) (.fieldAddr rfl ((b101).fa (f := 0) (k := 0) (by kernel_rfl))) rfl rfl rfl ?_
        obtain ⟨u108, e108, s108⟩ := ((b101).base.fst').ldSl vt22
        refine XD.ld (b := 2) (After.refl _) SegsOk.nil hkr107 rfl (e108) rfl rfl rfl rfl ?_
        refine XD.c (b := 0) (.move rfl) rfl rfl rfl ?_
        refine XD.c (b := 14) (.indexAddr rfl rfl rfl (s108.ix (j := k) el22 (by omega))) rfl rfl rfl ?_
        refine XD.ld (b := 30) (After.refl _) (SegsOk.cons ((After.refl _)).next SegsOk.nil) hkr107 rfl (((s108.at (j := k) (by omega))).ldInt vt3) rfl rfl rfl rfl ?_
        refine XD.c (b := 0) (.move rfl) rfl rfl rfl ?_
        refine XD.c (b := 0) (.move rfl) rfl rfl rfl ?_
        refine XD.c (b := 0) (.move rfl) rfl rfl rfl ?_
        refine XD.c (b := 384) (.sub rfl rfl (by omega)) rfl rfl rfl ?_
        refine XD.a (b := 896) rfl (.max rfl rfl) rfl rfl rfl rfl ?_
        refine XD.c (b := 1984) (.indexAddr rfl rfl rfl (ha1.ixZ (n := (max (0 : Int) (((j : Nat) : Int) - ((k : Nat) : Int)))) el22 (by omega) (by omega))) rfl rfl rfl ?_
        refine XD.ld (b := 4032) (After.refl _) (SegsOk.cons ((After.refl _)).next (SegsOk.cons ((After.refl _)).next (SegsOk.cons ((After.refl _)).next SegsOk.nil))) hkr107 rfl (((ha1.at (j := Int.toNat (max (0 : Int) (((j : Nat) : Int) - ((k : Nat) : Int)))) (by omega))).ldInt vt3) rfl rfl rfl rfl ?_
        have b1 := tapSum_bound ht.taps hl.all j k
        have b2 : -67108864 ≤ t.1[k] * l[Int.toNat (max (0 : Int) (((j : Nat) : Int) - ((k : Nat) : Int)))] ∧ t.1[k] * l[Int.toNat (max (0 : Int) (((j : Nat) : Int) - ((k : Nat) : Int)))] ≤ 67108864 := by rw [getD_eq, getD_eq]; exact tap_bound ht.taps hl.all _ _
        refine XD.c (b := 8190) (.mul rfl rfl (by omega)) rfl rfl rfl ?_
        refine XD.c (b := 16383) (.add rfl rfl (by omega)) rfl rfl rfl ?_
        refine XD.c (b := 32767) (.assign rfl) rfl rfl rfl ?_
        refine XD.nil ?_
        intro tf htf
        refine inBlock_nrm ?_
        refine thenC.go ?_ tf htf
        refine XC.text ?_
        refine XO.c (.move rfl) rfl rfl ?_
        refine XO.c (.add rfl rfl (by omega)) rfl rfl ?_
        refine XO.c (.assign rfl) rfl rfl ?_
        refine XO.nil ?_
        intro tf htf
        have eT : tapSum t.1 l j (k + 1) = tapSum t.1 l j k + t.1[k] * l[Int.toNat (max (0 : Int) (((j : Nat) : Int) - ((k : Nat) : Int)))] := by rw [tapSum, getD_eq, getD_eq]
        refine ⟨rfl, rfl, _, [(1, v1), (2, p101), (5, out), (6, .int .i64 ((2 : Int) ^ q)), (8, .int .i64 ((j : Nat) : Int)), (9, .int .i64 (tapSum t.1 l j (k + 1))), (10, .int .i64 (((k + 1) : Nat) : Int))], ?_, htf.keep _ ⟨rfl, rfl, rfl, rfl, rfl, (congrArg (fun z => some z) (by exact congrArg _ eT.symm)), rfl, trivial⟩, (k + 1), rfl, rfl, hA, aL105, nL105, (by omega)⟩
        omega
      · refine XC.exit ?_
        intro tf htf
        refine thenC_exit ?_
        refine loopQ_exit ?_
        refine inBlock_eq ?_
        refine thenC.go ?_ tf htf
        refine XC.drawn ?_
        have hkr109 := hA.ok hok
        have hSr109 := (g_out104.inS (hA.ok hok) (hA.inS hS))
        refine XD.c (b := 0) (.move rfl) rfl rfl rfl ?_
        refine XD.c (b := 0) (.move rfl) rfl rfl rfl ?_
        refine XD.c (b := 0) (.move rfl) rfl rfl rfl ?_
        have hk2 : k = t.1.length := by omega
        have hq2 : q = t.2.1.toNat := by omega
        have b3 := tapSum_bound ht.taps hl.all j k
        have b5 := pow_bound (q := q) (by omega)
        have b4 := fdiv_bound (n := tapSum t.1 l j k) (s := q) (by omega)
        refine XD.callV (bb := 6) (After.refl _) SegsOk.nil rfl rfl rfl rfl rfl rfl ?_
        intro M110 aM110 oM110
        refine EvF.mono (rFloor_ok (aM110.ok hkr109) (aM110.inS hSr109)  (by first | assumption | omega) (by first | assumption | omega)) ?_
        rintro _ _ ⟨rfl, hh⟩
        refine ⟨hh, ?_⟩
        clear hh
        refine XD.c (b := 0) (.fieldAddr rfl ((b101).fa (f := 2) (k := 2) (by kernel_rfl))) rfl rfl rfl ?_
        refine XD.ld (b := 16) (After.refl _) (SegsOk.cons ((After.refl _)).next SegsOk.nil) hkr109 rfl (((((b101).base.snd' (m := 1) rfl (b101).isP).snd' (m := 2) rfl (b101).isP)).ldInt vt3) rfl rfl rfl rfl ?_
        refine XD.c (b := 62) (.add rfl rfl (by omega)) rfl rfl rfl ?_
        refine XD.pushR (b := 126) (b2 := 255) (S0 := S) (h0 := hh103) el22 el22 rfl (fun _ => rfl) g_out104 (RepV.ofInt .i64 _) aL104 hkL104 (hA.inS hS) (by simp; omega) (by decide) rfl rfl rfl rfl rfl rfl rfl ?_
        intro out111 h111 t111 g111 a111 n111 l111 w111 k111
        have ok112 := hA.ok hok
        have gg112 : Goes hh105 (ownB out ++ S) h111 (ownB out111 ++ S) := n111
        replace hA := hAL104.trans a111
        replace aL104 := a111
        replace nL104 := nL104.trans gg112
        replace ha0 := ha0.nx gg112
        replace ha1 := ha1.nx gg112
        replace b101 := b101.nx gg112
        replace s106 := s106.nx gg112
        refine XD.c (b := 511) (.assign rfl) rfl rfl rfl ?_
        refine XD.nil ?_
        intro tf htf
        refine inBlock_nrm ?_
        refine thenC.go ?_ tf htf
        refine XC.text ?_
        refine XO.c (.move rfl) rfl rfl ?_
        refine XO.c (.add rfl rfl (by omega)) rfl rfl ?_
        refine XO.c (.assign rfl) rfl rfl ?_
        refine XO.nil ?_
        intro tf htf
        refine ⟨rfl, rfl, _, [(1, v1), (2, p101), (5, out111), (6, .int .i64 ((2 : Int) ^ q)), (8, .int .i64 (((j + 1) : Nat) : Int))], ?_, htf.keep _ ⟨rfl, rfl, rfl, rfl, rfl, trivial⟩, (j + 1), out111, rfl, rfl, hA, aL104, nL104, (by have h7 := g111; rw [hk2, hq2] at h7; rw [List.range_succ, List.map_append]; exact h7), (by omega)⟩
        omega
    · refine XC.exit ?_
      intro tf htf
      refine thenC_exit ?_
      refine loopQ_exit ?_
      refine inBlock_eq ?_
      refine thenC.go ?_ tf htf
      refine XC.seq ?_
      refine XC.text ?_
      refine XO.c (.move rfl) rfl rfl ?_
      refine XO.c (.assign rfl) rfl rfl ?_
      refine XO.nil (thenC.go ?_)
      refine XC.ret fun tf htf => ?_
      have s113 := g_out104.shut hSL104
      have gg113 : Goes hh104 (ownB out ++ S) hh104 S := nx_own
      replace ha0 := ha0.nx gg113
      replace ha1 := ha1.nx gg113
      replace b101 := b101.nx gg113
      refine endF.one rfl rfl (htf 4 _ rfl) ?_
      refine ⟨hA.left _, ?_⟩
      have hw := (s113).ret hA
      rw [show j = l.length by omega] at hw; exact hw
theorem firstE_zero {l : List Int} : firstE l = 0 ↔ ∀ x ∈ l, x = 0 := by
  induction l with
  | nil => simp [firstE]
  | cons x l ih => by_cases h : x = 0 <;> simp [firstE, h, ih]
theorem rangeE_zero {n lo hi : Int} : rangeE n lo hi = 0 ↔ lo ≤ n ∧ n ≤ hi := by
  unfold rangeE; split <;> simp <;> omega
theorem transferE_ok {t : List Int × Int × Int} (h : transferE t = 0) : OkT t := by
  rw [transferE, firstE_zero] at h
  simp only [List.mem_cons, List.not_mem_nil, or_false, forall_eq_or_imp, forall_eq] at h
  obtain ⟨h1, h2, h3, h4, h5⟩ := h
  refine ⟨fun x hx => ?_, ?_, rangeE_zero.1 h4, rangeE_zero.1 h5⟩
  · rw [tapsE, firstE_zero] at h3
    exact rangeE_zero.1 (h3 _ (List.mem_map_of_mem hx))
  · by_cases hc : (8 : Int) < t.1.length
    · rw [whenE_t hc] at h2; simp at h2
    · omega
theorem heightsE_ok {l : List Int} (h : heightsE l = 0) : ∀ x ∈ l, -1048576 ≤ x ∧ x ≤ 1048576 := fun x hx => by
  rw [heightsE, firstE_zero] at h
  exact rangeE_zero.1 (h _ (List.mem_map_of_mem hx))
theorem numbersE_eq (l : List Int) : numbersE l = firstE [whenE (decide ((96 : Int) < l.length)) 5, heightsE l] := by
  unfold numbersE
  by_cases h : (96 : Int) < l.length
  · rw [if_pos h, whenE_t h]; simp [firstE]
  · rw [if_neg h, whenE_f h]; simp only [firstE, if_true]; split <;> simp [*]
theorem numbersE_ok {l : List Int} (h : numbersE l = 0) : OkL l := by
  unfold numbersE at h
  by_cases hc : (96 : Int) < l.length
  · rw [if_pos hc] at h; simp at h
  · rw [if_neg hc] at h; exact ⟨heightsE_ok h, by omega⟩
def applyB (t : List Int × Int × Int) (l : List Int) : Int := firstE [transferE t, numbersE l]
theorem firstE_app (a b : List Int) : firstE (a ++ b) = if firstE a = 0 then firstE b else firstE a := by
  induction a with
  | nil => simp [firstE]
  | cons x a ih => by_cases h : x = 0 <;> simp [firstE, h, ih]
theorem applyB_eq (t : List Int × Int × Int) (l : List Int) : firstE [transferE t, whenE (decide ((96 : Int) < l.length)) 5, heightsE l] = applyB t l := by
  rw [applyB, numbersE_eq]
  simp only [firstE]
  by_cases h1 : transferE t = 0 <;> simp [h1]
  by_cases h2 : whenE (decide ((96 : Int) < l.length)) 5 = 0 <;> simp [h2]
theorem applyB_ok {t : List Int × Int × Int} {l : List Int} (h : applyB t l = 0) : OkT t ∧ OkL l := by
  rw [applyB, firstE_zero] at h
  exact ⟨transferE_ok (h _ (by simp)), numbersE_ok (h _ (by simp))⟩
theorem sApply_ok {h : Heap} {S : List Nat} {v0 : Value} {t : (List Int) × Int × Int} {v1 : Value} {l : List Int} (hok : HOk h) (hS : ∀ b ∈ S, b < h.next) (ha0 : RepV h S (.pair (.sl (.int .i64)) (.pair (.int .i64) (.int .i64))) v0 t) (ha1 : SlV h S (.int .i64) v1 l) (hlt : t.1.length < 100000) (hll : l.length < 100000) : EvF Tryz.prog OA 17 [v0, v1] h fun r h' => After h h' ∧ ∃ r0, r = .tuple #[r0, .int .i64 (applyB t l)] ∧ SlV h' S (.int .i64) r0 (if applyB t l = 0 then applyE t l else []) := by
  refine XF.enter Tryz.func17 rfl rfl rfl ?_
  have hok : HOk (entry h) := hok
  have hA := After.refl (entry h)
  replace ha0 := ha0.entry
  replace ha1 := ha1.entry
  show XC Tryz.prog OA none _ _ [] [(0, v0), (1, v1)] (entry h) _
  refine XC.seq ?_
  refine XC.text ?_
  refine XO.boxR rfl ha0 (hA.ok hok) (hA.inS hS) rfl rfl ?_
  intro p114 h114 b114 a114
  have ok115 := hA.ok hok
  have gg115 : Goes (entry h) S h114 S := a114.nx ok115
  replace hA := hA.trans a114
  replace ha0 := ha0.nx gg115
  replace ha1 := ha1.nx gg115
  refine XO.c (.assign rfl) rfl rfl ?_
  refine XO.c (.assign rfl) rfl rfl ?_
  refine XO.nil (thenC.go ?_)
  refine XC.seq ?_
  refine XC.seq ?_
  refine XC.text ?_
  obtain ⟨u116, e116, r116⟩ := (b114).ldV vt29
  obtain ⟨c117_0, c117_1, c117_2, rfl, r117_0, r117_1, r117_2⟩ := r116.st3 rfl rfl rfl
  replace r117_0 := r117_0.sl
  obtain rfl := r117_1.int
  obtain rfl := r117_2.int
  refine XO.r (.load rfl (e116)) rfl rfl ?_
  refine XO.call rfl rfl rfl rfl ?_
  refine EvF.mono (sCheckTransfer_ok (hA.ok hok) (hA.inS hS) (RepV.mk3 (r117_0).rep (RepV.ofInt .i64 _) (RepV.ofInt .i64 _) rfl rfl rfl) (by first | assumption | omega)) ?_
  rintro _ _ ⟨rfl, hh⟩
  obtain rfl := hh.symm
  clear hh
  refine XO.c (.move rfl) rfl rfl ?_
  refine XO.a (.len rfl (ha1.len el22)) rfl rfl ?_
  refine XO.c (.gtr rfl rfl) rfl rfl ?_
  refine XO.call rfl rfl rfl rfl ?_
  refine EvF.mono (sWhen_ok (hA.ok hok) (hA.inS hS)  ) ?_
  rintro _ _ ⟨rfl, hh⟩
  obtain rfl := hh.symm
  clear hh
  refine XO.c (.move rfl) rfl rfl ?_
  refine XO.call rfl rfl rfl rfl ?_
  refine EvF.mono (sHeights_ok (hA.ok hok) (hA.inS hS) ha1 (by first | assumption | omega)) ?_
  rintro _ _ ⟨rfl, hh⟩
  obtain rfl := hh.symm
  clear hh
  refine XO.lit (h := h114) (S := S) (τ := (.int .i64)) (vsC (RepV.ofInt .i64 _) (vsC (RepV.ofInt .i64 _) (vs1 (RepV.ofInt .i64 _)))) el179 rfl rfl rfl (by simp) (by simp) (by decide) (hA.ok hok) (hA.inS hS) rfl rfl ?_
  intro w121 h121 s121 a121
  have ok122 := hA.ok hok
  have gg122 : Goes h114 S h121 S := a121.nx ok122
  replace hA := hA.trans a121
  replace ha0 := ha0.nx gg122
  replace ha1 := ha1.nx gg122
  replace b114 := b114.nx gg122
  replace r117_0 := r117_0.nx gg122
  refine XO.call rfl rfl rfl rfl ?_
  refine EvF.mono (sFirst_ok (hA.ok hok) (hA.inS hS) s121 (by simp)) ?_
  rintro _ _ ⟨rfl, hh⟩
  obtain rfl := hh.symm
  clear hh
  refine XO.c (.assign rfl) rfl rfl ?_
  refine XO.nil (thenC.go ?_)
  refine XC.seq ?_
  refine XC.text ?_
  refine XO.c (.move rfl) rfl rfl ?_
  refine XO.c (.neq rfl rfl) rfl rfl ?_
  refine XO.nil (thenC.go ?_)
  refine XC.condD rfl (fun c2 => ?_) (fun c2 => ?_)
  · rw [applyB_eq] at c2
    refine XC.seq ?_
    refine XC.text ?_
    refine XO.c (.move rfl) rfl rfl ?_
    refine XO.c (.assign rfl) rfl rfl ?_
    refine XO.c (.assign rfl) rfl rfl ?_
    refine XO.nil (thenC.go ?_)
    refine XC.ret fun tf htf => ?_
    refine thenC_ret ?_
    refine endF.two rfl rfl (htf 4 _ rfl) (htf 5 _ rfl) ?_
    have hw0 := ((SlV.nil (h := h121) (S := S) (τ := (.int .i64)))).retT (vs := #[(.slice none 0 0), (.int .i64 (firstE ([transferE t, whenE (decide ((96 : Int) < ((l.length : Nat) : Int))) (5 : Int), heightsE l])))]) hA (by simp)
    refine ⟨hA.left _, (.slice none 0 0), ?_, ?_⟩
    · refine congrArg Value.tuple ?_
      refine tup2 rfl (congrArg (Value.int .i64) (by exact applyB_eq t l))
    · exact if_neg c2 ▸ hw0
  · rw [applyB_eq] at c2
    have hB : applyB t l = 0 := by omega
    refine XC.skip (thenC.go ?_)
    refine XC.seq ?_
    refine XC.text ?_
    obtain ⟨u124, e124, r124⟩ := (b114).ldV vt29
    obtain ⟨c125_0, c125_1, c125_2, rfl, r125_0, r125_1, r125_2⟩ := r124.st3 rfl rfl rfl
    replace r125_0 := r125_0.sl
    obtain rfl := r125_1.int
    obtain rfl := r125_2.int
    refine XO.r (.load rfl (e124)) rfl rfl ?_
    refine XO.c (.move rfl) rfl rfl ?_
    refine XO.call rfl rfl rfl rfl ?_
    refine EvF.mono (sApplyT_ok (hA.ok hok) (hA.inS hS) (RepV.mk3 (r125_0).rep (RepV.ofInt .i64 _) (RepV.ofInt .i64 _) rfl rfl rfl) ha1 (applyB_ok hB).1 (applyB_ok hB).2) ?_
    rintro u126 h126 ⟨a126, s126⟩
    have ok127 := hA.ok hok
    have gg127 : Goes h121 S h126 S := a126.nx ok127
    replace hA := hA.trans a126
    replace ha0 := ha0.nx gg127
    replace ha1 := ha1.nx gg127
    replace b114 := b114.nx gg127
    replace r117_0 := r117_0.nx gg127
    replace s121 := s121.nx gg127
    replace r125_0 := r125_0.nx gg127
    refine XO.c (.assign rfl) rfl rfl ?_
    refine XO.c (.assign rfl) rfl rfl ?_
    refine XO.nil (thenC.go ?_)
    refine XC.ret fun tf htf => ?_
    refine endF.two rfl rfl (htf 4 _ rfl) (htf 5 _ rfl) ?_
    have hw0 := (s126).retT (vs := #[u126, (.int .i64 (0 : Int))]) hA (by simp)
    refine ⟨hA.left _, u126, ?_, ?_⟩
    · refine congrArg Value.tuple ?_
      refine tup2 rfl (congrArg (Value.int .i64) (by exact hB.symm))
    · exact if_pos hB ▸ hw0
theorem lTransfer_ok {h : Heap} {S : List Nat} {v0 : Value} {t : (List Int) × Int × Int} (hok : HOk h) (hS : ∀ b ∈ S, b < h.next) (ha0 : RepV h S (.pair (.sl (.int .i64)) (.pair (.int .i64) (.int .i64))) v0 t) (hl : t.1.length < 1000000) : EvF Tryz.prog OA 18 [v0] h fun r h' => After h h' ∧ RepV h' S (.pair (.sl (.int .i64)) (.pair (.int .i64) (.int .i64))) r t := by
  refine XF.enter Tryz.func18 rfl rfl rfl ?_
  have hok : HOk (entry h) := hok
  have hA := After.refl (entry h)
  replace ha0 := ha0.entry
  show XC Tryz.prog OA none _ _ [] [(0, v0)] (entry h) _
  refine XC.seq ?_
  refine XC.text ?_
  refine XO.boxR rfl ha0 (hA.ok hok) (hA.inS hS) rfl rfl ?_
  intro p128 h128 b128 a128
  have ok129 := hA.ok hok
  have gg129 : Goes (entry h) S h128 S := a128.nx ok129
  replace hA := hA.trans a128
  replace ha0 := ha0.nx gg129
  refine XO.allocB (z := .agg #[.slice none 0 0, .int .i64 0, .int .i64 0]) (by kernel_rfl) rfl rfl hA hok rfl rfl ?_
  intro p130 h130 b130 a130 gs130
  have ok131 := hA.ok hok
  have gg131 : Goes h128 S h130 (ownP p130 ++ S) := gs130 _
  replace hA := hA.trans a130
  replace ha0 := ha0.nx gg131
  replace b128 := b128.nx gg131
  refine XO.nil (thenC.go ?_)
  refine XC.seq ?_
  refine XC.drawn ?_
  have hkr132 := hA.ok hok
  have hSr132 := (b130.inS (hA.ok hok) (hA.inS hS))
  refine XD.c (b := 0) (.fieldAddr rfl ((b128).fa (f := 0) (k := 0) (by kernel_rfl))) rfl rfl rfl ?_
  obtain ⟨u133, e133, s133⟩ := ((b128).base.fst').ldSl vt22
  refine XD.ld (b := 1) (After.refl _) SegsOk.nil hkr132 rfl (e133) rfl rfl rfl rfl ?_
  refine XD.callU (bb := 3) (After.refl _) (SegsOk.cons ((After.refl _)).next SegsOk.nil) hkr132 rfl rfl rfl rfl rfl rfl ?_
  intro M134 aM134 kM134 nM134 sM134
  refine EvF.mono (lInts_ok kM134 (aM134.inS hSr132) (s133.nx (aM134.nx hkr132)) (by first | assumption | omega)) ?_
  rintro u134 hM134 ⟨a134, s134⟩
  refine ⟨a134, ?_⟩
  clear a134
  intro h134 a134 gM134
  replace s134 := s134.nx (gM134 _)
  have ha0o := ha0
  have b128o := b128
  have s133o := s133
  have rg132 : Goes h130 (ownP p130 ++ S) h130 (ownP p130 ++ S) := Goes.refl
  have ra132 := After.refl h130
  have ok135 := hA.ok hok
  have gg135 : Goes h130 (ownP p130 ++ S) h134 (ownP p130 ++ S) := a134.nx ok135
  replace hA := hA.trans a134
  replace ha0 := ha0.nx gg135
  replace b128 := b128.nx gg135
  replace s133 := s133.nx gg135
  replace b130 := b130.keep a134 ok135
  replace rg132 := rg132.trans gg135
  have ra132_134 := ra132.trans a134
  refine XD.c (b := 0) (.fieldAddr rfl ((b128).fa (f := 1) (k := 1) (by kernel_rfl))) rfl rfl rfl ?_
  refine XD.ld (b := 8) ra132_134 (SegsOk.cons (ra132).next (SegsOk.cons ((After.refl _)).next SegsOk.nil)) hkr132 rfl ((((b128o).base.snd' (m := 1) rfl (b128o).isP).fst').ldInt vt3) rfl rfl rfl rfl ?_
  refine XD.c (b := 0) (.fieldAddr rfl ((b128).fa (f := 2) (k := 2) (by kernel_rfl))) rfl rfl rfl ?_
  refine XD.ld (b := 32) ra132_134 (SegsOk.cons (ra132_134).next (SegsOk.cons (ra132).next (SegsOk.cons ((After.refl _)).next SegsOk.nil))) hkr132 rfl (((((b128o).base.snd' (m := 1) rfl (b128o).isP).snd' (m := 2) rfl (b128o).isP)).ldInt vt3) rfl rfl rfl rfl ?_
  refine XD.c (b := 127) (.buildS (vs := [u134, .int .i64 t.2.1, .int .i64 t.2.2]) ⟨(s134).one, ⟨⟨rfl, rfl⟩, ⟨⟨rfl, rfl⟩, trivial⟩⟩⟩ (by kernel_rfl) rfl) rfl rfl rfl ?_
  obtain ⟨h136, e136, b136, a136, n136, nn136, fr136, lw136⟩ := (b130.objs (h' := (entry h134)) fun _ => rfl).st0 (S := S) (h0 := entry h) (u := .agg #[u134, .int .i64 t.2.1, .int .i64 t.2.2]) vt29 rfl rfl (by decide) (One.oneAll ⟨(s134).one, ⟨⟨rfl, rfl⟩, ⟨⟨rfl, rfl⟩, trivial⟩⟩⟩) hA.toEntry (show HOk (entry h134) from hA.ok hok)
  refine XD.st (b := 255) rfl rfl e136 rfl rfl (hA.ok hok) nn136 (a136.ok hok) (fun hl => absurd hl (by have := lw136; simp only [entry] at this; omega)) ?_
  intro hh136 tt136 o136 nx136 la136
  have ah136 := la136 _ hA a136
  replace b136 := b136.objs o136
  have gh136 : Goes h134 (ownP p130 ++ S) hh136 (ownP p130 ++ S) := (show Goes h134 (ownP p130 ++ S) (entry h134) (ownP p130 ++ S) from Goes.objs fun _ => rfl).trans (n136.trans (Goes.objs o136))
  replace fr136 : ∀ b, b ∉ ownP p130 → hh136.get b = h134.get b := fun b hb => (o136 b).trans (fr136 b hb)
  have ok137 := hA.ok hok
  have gg137 : Goes h134 (ownP p130 ++ S) hh136 (ownP p130 ++ S) := gh136
  replace hA := ah136
  replace ha0 := ha0.nx gg137
  replace b128 := b128.nx gg137
  replace s133 := s133.nx gg137
  replace s134 := s134.nx gg137
  refine XD.nil (thenC.go ?_)
  refine XC.ret fun tf htf => ?_
  refine endF.cell rfl rfl (htf 2 _ rfl) (b136.ldA vt29 rfl rfl) ?_
  refine ⟨hA.left _, ?_⟩
  have hw := ((RepV.mk3 (s134).rep (RepV.ofInt .i64 _) (RepV.ofInt .i64 _) rfl rfl rfl)).ret hA
  replace hw := hw.nx (Goes.less fun _ hc => List.mem_append_right _ (hc))
  exact hw
theorem rSameInts_ok {h : Heap} {S : List Nat} {v0 : Value} {a : List Int} {v1 : Value} {b : List Int} (hok : HOk h) (hS : ∀ b ∈ S, b < h.next) (ha0 : SlV h S (.int .i64) v0 a) (ha1 : SlV h S (.int .i64) v1 b) (hla : a.length < 1000000) : EvF Tryz.prog OA 90 [v0, v1] h fun r h' => r = .bool (decide (a = b)) ∧ h' = h := by
  refine XF.enter Tryz.func90 rfl rfl rfl ?_
  have hok : HOk (entry h) := hok
  have hA := After.refl (entry h)
  replace ha0 := ha0.entry
  replace ha1 := ha1.entry
  show XC Tryz.prog OA none _ _ [] [(0, v0), (1, v1)] (entry h) _
  refine XC.seq ?_
  refine XC.text ?_
  refine XO.c (.assign rfl) rfl rfl ?_
  refine XO.nil (thenC.go ?_)
  refine XC.seq ?_
  refine XC.seq ?_
  refine XC.text ?_
  refine XO.c (.move rfl) rfl rfl ?_
  refine XO.a (.len rfl (ha0.len el22)) rfl rfl ?_
  refine XO.c (.move rfl) rfl rfl ?_
  refine XO.a (.len rfl (ha1.len el22)) rfl rfl ?_
  refine XO.c (.neq rfl rfl) rfl rfl ?_
  refine XO.nil (thenC.go ?_)
  refine XC.condD rfl (fun c1 => ?_) (fun c1 => ?_)
  · refine XC.seq ?_
    refine XC.text ?_
    refine XO.c (.assign rfl) rfl rfl ?_
    refine XO.nil (thenC.go ?_)
    refine XC.ret fun tf htf => ?_
    refine thenC_ret ?_
    refine endF.one rfl rfl (htf 4 _ rfl) ?_
    exact ⟨congrArg Value.bool (by refine (decide_eq_false fun he => ?_).symm; subst he; omega), hA.leftAf rfl⟩
  · refine XC.skip (thenC.go ?_)
    refine XC.seq ?_
    refine XC.seq ?_
    refine XC.text ?_
    refine XO.c (.assign rfl) rfl rfl ?_
    refine XO.nil (thenC.go ?_)
    refine XC.block ?_
    have hAL138 := hA
    have hkL138 := hA.ok hok
    have hSL138 := (hA.inS hS)
    refine XC.keep [(0, v0), (1, v1), (5, .int .i64 ((0 : Nat) : Int))] ⟨rfl, rfl, rfl, trivial⟩ ?_
    refine XC.loopI (I := fun (kk : Nat) (ff : FL) (hh : Heap) => ∃ (j : Nat), kk = a.length - j ∧ ff = [(0, v0), (1, v1), (5, .int .i64 ((j : Nat) : Int))] ∧ After (entry h) hh ∧ After (entry h) hh ∧ Goes (entry h) S hh S ∧ j ≤ a.length ∧ a.take j = b.take j) ?_ _ _ _ ⟨0, rfl, rfl, hA, After.refl _, Goes.refl, (by omega), (by simp)⟩
    clear hA
    rintro kk ff hh138 ⟨j, hk138, rfl, hA, aL138, nL138, hj, hf⟩
    replace ha0 := ha0.nx nL138
    replace ha1 := ha1.nx nL138
    refine XC.seq ?_
    refine XC.seq ?_
    refine XC.text ?_
    refine XO.c (.move rfl) rfl rfl ?_
    refine XO.c (.move rfl) rfl rfl ?_
    refine XO.a (.len rfl (ha0.len el22)) rfl rfl ?_
    refine XO.c (.lss rfl rfl) rfl rfl ?_
    refine XO.nil (thenC.go ?_)
    refine XC.condD rfl (fun c4 => ?_) (fun c4 => ?_)
    · refine XC.skip (thenC.go ?_)
      refine XC.seq ?_
      refine XC.block ?_
      refine XC.seq ?_
      refine XC.drawn ?_
      have hkr139 := hA.ok hok
      have hSr139 := (hA.inS hS)
      refine XD.c (b := 0) (.move rfl) rfl rfl rfl ?_
      refine XD.c (b := 0) (.move rfl) rfl rfl rfl ?_
      refine XD.c (b := 3) (.indexAddr rfl rfl rfl (ha0.ix (j := j) el22 (by omega))) rfl rfl rfl ?_
      refine XD.ld (b := 7) (After.refl _) SegsOk.nil hkr139 rfl (((ha0.at (j := j) (by omega))).ldInt vt3) rfl rfl rfl rfl ?_
      refine XD.c (b := 0) (.move rfl) rfl rfl rfl ?_
      refine XD.c (b := 0) (.move rfl) rfl rfl rfl ?_
      refine XD.c (b := 48) (.indexAddr rfl rfl rfl (ha1.ix (j := j) el22 (by omega))) rfl rfl rfl ?_
      refine XD.ld (b := 112) (After.refl _) (SegsOk.cons ((After.refl _)).next SegsOk.nil) hkr139 rfl (((ha1.at (j := j) (by omega))).ldInt vt3) rfl rfl rfl rfl ?_
      refine XD.c (b := 255) (.neq rfl rfl) rfl rfl rfl ?_
      refine XD.nil (thenC.go ?_)
      refine XC.condD rfl (fun c6 => ?_) (fun c6 => ?_)
      · refine XC.seq ?_
        refine XC.text ?_
        refine XO.c (.assign rfl) rfl rfl ?_
        refine XO.nil (thenC.go ?_)
        refine XC.ret fun tf htf => ?_
        refine inBlock_ret ?_
        refine thenC_ret ?_
        refine loopQ_ret ?_
        refine inBlock_ret ?_
        refine thenC_ret ?_
        refine endF.one rfl rfl (htf 4 _ rfl) ?_
        exact ⟨congrArg Value.bool (by refine (decide_eq_false fun he => ?_).symm; subst he; exact c6 rfl), hA.leftAf rfl⟩
      · refine XC.skip ?_
        intro tf htf
        refine inBlock_nrm ?_
        refine thenC.go ?_ tf htf
        refine XC.text ?_
        refine XO.c (.move rfl) rfl rfl ?_
        refine XO.c (.add rfl rfl (by omega)) rfl rfl ?_
        refine XO.c (.assign rfl) rfl rfl ?_
        refine XO.nil ?_
        intro tf htf
        refine ⟨rfl, rfl, _, [(0, v0), (1, v1), (5, .int .i64 (((j + 1) : Nat) : Int))], ?_, htf.keep _ ⟨rfl, rfl, rfl, trivial⟩, (j + 1), rfl, rfl, hA, aL138, nL138, (by omega), (by rw [List.take_succ_eq_append_getElem (by omega), List.take_succ_eq_append_getElem (by omega), hf, show a[j] = b[j] by omega])⟩
        omega
    · refine XC.exit ?_
      intro tf htf
      refine thenC_exit ?_
      refine loopQ_exit ?_
      refine inBlock_eq ?_
      refine thenC.go ?_ tf htf
      refine XC.seq ?_
      refine XC.text ?_
      refine XO.c (.assign rfl) rfl rfl ?_
      refine XO.nil (thenC.go ?_)
      refine XC.ret fun tf htf => ?_
      refine endF.one rfl rfl (htf 4 _ rfl) ?_
      exact ⟨congrArg Value.bool (by refine (decide_eq_true ?_).symm; rw [List.take_of_length_le (by omega), List.take_of_length_le (by omega)] at hf; exact hf), hA.leftAf rfl⟩
def listE (have_ : List Int) (e bad : Int) (want : List Int) : Bool := decide (e = bad ∧ have_ = if bad = 0 then want else [])
theorem lList_ok {h : Heap} {S : List Nat} {v0 : Value} {hv : List Int} {e : Int} {bad : Int} {v3 : Value} {want : List Int} (hok : HOk h) (hS : ∀ b ∈ S, b < h.next) (ha0 : SlV h S (.int .i64) v0 hv) (ha3 : SlV h S (.int .i64) v3 want) (hlv : hv.length < 1000000) : EvF Tryz.prog OA 25 [v0, .int .i64 e, .int .i64 bad, v3] h fun r h' => r = .bool (listE hv e bad want) ∧ h' = h := by
  refine XF.enter Tryz.func25 rfl rfl rfl ?_
  have hok : HOk (entry h) := hok
  have hA := After.refl (entry h)
  replace ha0 := ha0.entry
  replace ha3 := ha3.entry
  show XC Tryz.prog OA none _ _ [] [(0, v0), (1, .int .i64 e), (2, .int .i64 bad), (3, v3)] (entry h) _
  refine XC.seq ?_
  refine XC.text ?_
  refine XO.c (.assign rfl) rfl rfl ?_
  refine XO.nil (thenC.go ?_)
  refine XC.seq ?_
  refine XC.seq ?_
  refine XC.text ?_
  refine XO.c (.move rfl) rfl rfl ?_
  refine XO.c (.neq rfl rfl) rfl rfl ?_
  refine XO.nil (thenC.go ?_)
  refine XC.condD rfl (fun c1 => ?_) (fun c1 => ?_)
  · refine XC.text ?_
    refine XO.c (.assign rfl) rfl rfl ?_
    refine XO.nil (thenC.go ?_)
    refine XC.seq ?_
    refine XC.text ?_
    refine XO.c (.move rfl) rfl rfl ?_
    refine XO.c (.move rfl) rfl rfl ?_
    refine XO.c (.eql rfl rfl) rfl rfl ?_
    refine XO.c (.move rfl) rfl rfl ?_
    refine XO.splitD (x := 14) rfl (fun g3_3 => ?_) (fun g3_3 => ?_)
    · refine XO.gc rfl rfl rfl (.move rfl) rfl rfl ?_
      refine XO.gc rfl rfl rfl (.move rfl) rfl rfl ?_
      refine XO.gcall rfl rfl rfl rfl rfl rfl rfl ?_
      refine EvF.mono (rSameInts_ok (hA.ok hok) (hA.inS hS) ha0 SlV.nil (by first | assumption | omega)) ?_
      rintro _ _ ⟨rfl, hh⟩
      obtain rfl := hh.symm
      clear hh
      refine XO.c (.pickT rfl rfl) rfl rfl ?_
      refine XO.c (.assign rfl) rfl rfl ?_
      refine XO.nil (thenC.go ?_)
      refine XC.ret fun tf htf => ?_
      refine endF.one rfl rfl (htf 8 _ rfl) ?_
      exact ⟨congrArg Value.bool (by simp [listE, *] <;> (intros; omega)), hA.leftAf rfl⟩
    · refine XO.skip rfl rfl rfl rfl rfl ?_
      refine XO.skip rfl rfl rfl rfl rfl ?_
      refine XO.skip rfl rfl rfl rfl rfl ?_
      refine XO.c (.pickF rfl rfl) rfl rfl ?_
      refine XO.c (.assign rfl) rfl rfl ?_
      refine XO.nil (thenC.go ?_)
      refine XC.ret fun tf htf => ?_
      refine endF.one rfl rfl (htf 8 _ rfl) ?_
      exact ⟨congrArg Value.bool (by simp [listE, *] <;> (intros; omega)), hA.leftAf rfl⟩
  · have c1 : bad = 0 := by omega
    refine XC.skip (thenC.go ?_)
    refine XC.seq ?_
    refine XC.text ?_
    refine XO.c (.move rfl) rfl rfl ?_
    refine XO.c (.move rfl) rfl rfl ?_
    refine XO.c (.eql rfl rfl) rfl rfl ?_
    refine XO.c (.move rfl) rfl rfl ?_
    refine XO.splitD (x := 14) rfl (fun g3_3 => ?_) (fun g3_3 => ?_)
    · refine XO.gc rfl rfl rfl (.move rfl) rfl rfl ?_
      refine XO.gc rfl rfl rfl (.move rfl) rfl rfl ?_
      refine XO.gcall rfl rfl rfl rfl rfl rfl rfl ?_
      refine EvF.mono (rSameInts_ok (hA.ok hok) (hA.inS hS) ha0 ha3 (by first | assumption | omega)) ?_
      rintro _ _ ⟨rfl, hh⟩
      obtain rfl := hh.symm
      clear hh
      refine XO.c (.pickT rfl rfl) rfl rfl ?_
      refine XO.c (.assign rfl) rfl rfl ?_
      refine XO.nil (thenC.go ?_)
      refine XC.ret fun tf htf => ?_
      refine endF.one rfl rfl (htf 8 _ rfl) ?_
      exact ⟨congrArg Value.bool (by simp [listE, *] <;> (intros; omega)), hA.leftAf rfl⟩
    · refine XO.skip rfl rfl rfl rfl rfl ?_
      refine XO.skip rfl rfl rfl rfl rfl ?_
      refine XO.skip rfl rfl rfl rfl rfl ?_
      refine XO.c (.pickF rfl rfl) rfl rfl ?_
      refine XO.c (.assign rfl) rfl rfl ?_
      refine XO.nil (thenC.go ?_)
      refine XC.ret fun tf htf => ?_
      refine endF.one rfl rfl (htf 8 _ rfl) ?_
      exact ⟨congrArg Value.bool (by simp [listE, *] <;> (intros; omega)), hA.leftAf rfl⟩
end Go.Proofs
namespace Go.Proofs
open Go.Fs
set_option linter.unusedVariables false
theorem vt24 : ValT Tryz.prog 24 (.pair (.sl (.int .i64)) (.pair (.int .i64) (.int .i64))) := valT_of (by kernel_rfl)
theorem awake_ok {h : Heap} : EvF Tryz.prog OA 16 [] h fun r h' => r = .bool true ∧ h' = h := EvF.oracle rfl ⟨rfl, rfl⟩
theorem list_fin1 {t : List Int × Int × Int} {l : List Int} : listE (if applyB t l = 0 then applyE t l else []) (applyB t l) (firstE [transferE t, numbersE l]) (applyE t l) = true := decide_eq_true ⟨rfl, rfl⟩
theorem list_fin2 {t : List Int × Int × Int} {l : List Int} (h : ¬ firstE [transferE t, numbersE l] = 0) : listE (if applyB t l = 0 then applyE t l else []) (applyB t l) (firstE [transferE t, numbersE l]) [] = true :=
  decide_eq_true ⟨rfl, by rw [if_neg (show ¬ applyB t l = 0 from h), if_neg h]⟩
theorem law1_ok {h : Heap} {S : List Nat} {v0 : Value} {t : (List Int) × Int × Int} {v1 : Value} {l : List Int} (hok : HOk h) (hS : ∀ b ∈ S, b < h.next) (ha0 : RepV h S (.pair (.sl (.int .i64)) (.pair (.int .i64) (.int .i64))) v0 t) (ha1 : SlV h S (.int .i64) v1 l) : EvF Tryz.prog OA 3 [v0, v1] h fun r h' => r = .bool true ∧ h' = h := by
  refine XF.enter Tryz.func3 rfl rfl rfl ?_
  have hok : HOk (entry h) := hok
  have hA := After.refl (entry h)
  replace ha0 := ha0.entry
  replace ha1 := ha1.entry
  show XC Tryz.prog OA none _ _ [] [(0, v0), (1, v1)] (entry h) _
  refine XC.seq ?_
  refine XC.text ?_
  refine XO.boxR rfl ha0 (hA.ok hok) (hA.inS hS) rfl rfl ?_
  intro p101 h101 b101 a101
  have ok102 := hA.ok hok
  have gg102 : Goes (entry h) S h101 S := a101.nx ok102
  replace hA := hA.trans a101
  replace ha0 := ha0.nx gg102
  replace ha1 := ha1.nx gg102
  refine XO.c (.assign rfl) rfl rfl ?_
  refine XO.nil (thenC.go ?_)
  refine XC.seq ?_
  refine XC.seq ?_
  refine XC.text ?_
  refine XO.c (.fieldAddr rfl ((b101).fa (f := 0) (k := 0) (by kernel_rfl))) rfl rfl ?_
  obtain ⟨u103, e103, s103⟩ := ((b101).base.fst').ldSl vt22
  refine XO.r (.load rfl (e103)) rfl rfl ?_
  refine XO.a (.len rfl (s103.len el22)) rfl rfl ?_
  refine XO.c (.gtr rfl rfl) rfl rfl ?_
  refine XO.c (.move rfl) rfl rfl ?_
  refine XO.splitD (x := 14) rfl (fun g1_4 => ?_) (fun g1_4 => ?_)
  · refine XO.skip rfl rfl rfl rfl rfl ?_
    refine XO.skip rfl rfl rfl rfl rfl ?_
    refine XO.skip rfl rfl rfl rfl rfl ?_
    refine XO.skip rfl rfl rfl rfl rfl ?_
    refine XO.skipU rfl rfl rfl rfl ?_
    refine XO.skipU rfl rfl rfl rfl ?_
    refine XO.skipU rfl rfl rfl rfl ?_
    refine XO.skip rfl rfl rfl rfl rfl ?_
    refine XO.c (.pickT rfl rfl) rfl rfl ?_
    refine XO.nil (thenC.go ?_)
    refine XC.condT rfl ?_
    refine XC.seq ?_
    refine XC.text ?_
    refine XO.call rfl rfl rfl rfl ?_
    refine EvF.mono (awake_ok  ) ?_
    rintro _ _ ⟨rfl, hh⟩
    obtain rfl := hh.symm
    clear hh
    refine XO.c (.assign rfl) rfl rfl ?_
    refine XO.nil (thenC.go ?_)
    refine XC.ret fun tf htf => ?_
    refine thenC_ret ?_
    refine endF.one rfl rfl (htf 4 _ rfl) ?_
    exact ⟨congrArg Value.bool (by first | rfl | exact absurd rfl g9_5 | exact absurd (list_fin1.symm.trans g9_12) (by decide) | exact absurd ((list_fin2 c7).symm.trans g9_12) (by decide)), hA.leftAf rfl⟩
  · refine XO.gc rfl rfl rfl (.move rfl) rfl rfl ?_
    refine XO.ga rfl rfl rfl (.len rfl (ha1.len el22)) rfl rfl ?_
    refine XO.gc rfl rfl rfl (.gtr rfl rfl) rfl rfl ?_
    refine XO.gc rfl rfl rfl (.move rfl) rfl rfl ?_
    refine XO.splitD (x := 18) rfl (fun g1_8 => ?_) (fun g1_8 => ?_)
    · refine XO.gc rfl rfl rfl (.move rfl) rfl rfl ?_
      refine XO.ga rfl rfl rfl (.len rfl (ha1.len el22)) rfl rfl ?_
      refine XO.gc rfl rfl rfl (.neq rfl rfl) rfl rfl ?_
      refine XO.gc rfl rfl rfl (.pickT rfl rfl) rfl rfl ?_
      refine XO.c (.pickF rfl rfl) rfl rfl ?_
      refine XO.nil (thenC.go ?_)
      refine XC.condD rfl (fun c1 => ?_) (fun c1 => ?_)
      · refine XC.seq ?_
        refine XC.text ?_
        refine XO.call rfl rfl rfl rfl ?_
        refine EvF.mono (awake_ok  ) ?_
        rintro _ _ ⟨rfl, hh⟩
        obtain rfl := hh.symm
        clear hh
        refine XO.c (.assign rfl) rfl rfl ?_
        refine XO.nil (thenC.go ?_)
        refine XC.ret fun tf htf => ?_
        refine thenC_ret ?_
        refine endF.one rfl rfl (htf 4 _ rfl) ?_
        exact ⟨congrArg Value.bool (by first | rfl | exact absurd rfl g9_5 | exact absurd (list_fin1.symm.trans g9_12) (by decide) | exact absurd ((list_fin2 c7).symm.trans g9_12) (by decide)), hA.leftAf rfl⟩
      · refine XC.skip (thenC.go ?_)
        refine XC.seq ?_
        refine XC.text ?_
        obtain ⟨u106, e106, r106⟩ := (b101).ldV vt24
        obtain ⟨c107_0, c107_1, c107_2, rfl, r107_0, r107_1, r107_2⟩ := r106.st3 rfl rfl rfl
        replace r107_0 := r107_0.sl
        obtain rfl := r107_1.int
        obtain rfl := r107_2.int
        refine XO.r (.load rfl (e106)) rfl rfl ?_
        refine XO.call rfl rfl rfl rfl ?_
        refine EvF.mono (lTransfer_ok (hA.ok hok) (hA.inS hS) (RepV.mk3 (r107_0).rep (RepV.ofInt .i64 _) (RepV.ofInt .i64 _) rfl rfl rfl) (by first | assumption | omega)) ?_
        rintro u108 h108 ⟨a108, s108⟩
        have ok109 := hA.ok hok
        have gg109 : Goes h101 S h108 S := a108.nx ok109
        replace hA := hA.trans a108
        replace ha0 := ha0.nx gg109
        replace ha1 := ha1.nx gg109
        replace b101 := b101.nx gg109
        replace s103 := s103.nx gg109
        replace r107_0 := r107_0.nx gg109
        obtain ⟨c110_0, c110_1, c110_2, rfl, r110_0, r110_1, r110_2⟩ := s108.st3 rfl rfl rfl
        replace r110_0 := r110_0.sl
        obtain rfl := r110_1.int
        obtain rfl := r110_2.int
        refine XO.c (.move rfl) rfl rfl ?_
        refine XO.call rfl rfl rfl rfl ?_
        refine EvF.mono (lInts_ok (hA.ok hok) (hA.inS hS) ha1 (by first | assumption | omega)) ?_
        rintro u111 h111 ⟨a111, s111⟩
        have ok112 := hA.ok hok
        have gg112 : Goes h108 S h111 S := a111.nx ok112
        replace hA := hA.trans a111
        replace ha0 := ha0.nx gg112
        replace ha1 := ha1.nx gg112
        replace b101 := b101.nx gg112
        replace s103 := s103.nx gg112
        replace r107_0 := r107_0.nx gg112
        replace r110_0 := r110_0.nx gg112
        refine XO.call rfl rfl rfl rfl ?_
        refine EvF.mono (sApply_ok (hA.ok hok) (hA.inS hS) (RepV.mk3 (r110_0).rep (RepV.ofInt .i64 _) (RepV.ofInt .i64 _) rfl rfl rfl) s111 (by omega) (by omega)) ?_
        rintro _ h113 ⟨a113, u113_0, rfl, s113_0⟩
        have ok114 := hA.ok hok
        have gg114 : Goes h111 S h113 S := a113.nx ok114
        replace hA := hA.trans a113
        replace ha0 := ha0.nx gg114
        replace ha1 := ha1.nx gg114
        replace b101 := b101.nx gg114
        replace s103 := s103.nx gg114
        replace r107_0 := r107_0.nx gg114
        replace r110_0 := r110_0.nx gg114
        replace s111 := s111.nx gg114
        refine XO.c (.move rfl) rfl rfl ?_
        refine XO.c (.extract rfl (junk2 _ _) rfl) rfl rfl ?_
        refine XO.c (.extract rfl (junk2 _ _) rfl) rfl rfl ?_
        refine XO.c (.assign rfl) rfl rfl ?_
        refine XO.c (.assign rfl) rfl rfl ?_
        refine XO.nil (thenC.go ?_)
        refine XC.seq ?_
        refine XC.text ?_
        obtain ⟨u115, e115, r115⟩ := (b101).ldV vt24
        obtain ⟨c116_0, c116_1, c116_2, rfl, r116_0, r116_1, r116_2⟩ := r115.st3 rfl rfl rfl
        replace r116_0 := r116_0.sl
        obtain rfl := r116_1.int
        obtain rfl := r116_2.int
        refine XO.r (.load rfl (e115)) rfl rfl ?_
        refine XO.call rfl rfl rfl rfl ?_
        refine EvF.mono (rCheckTransfer_ok (hA.ok hok) (hA.inS hS) (RepV.mk3 (r116_0).rep (RepV.ofInt .i64 _) (RepV.ofInt .i64 _) rfl rfl rfl) (by first | assumption | omega)) ?_
        rintro _ _ ⟨rfl, hh⟩
        obtain rfl := hh.symm
        clear hh
        refine XO.c (.assign rfl) rfl rfl ?_
        refine XO.nil (thenC.go ?_)
        refine XC.seq ?_
        refine XC.text ?_
        refine XO.c (.move rfl) rfl rfl ?_
        refine XO.c (.move rfl) rfl rfl ?_
        refine XO.call rfl rfl rfl rfl ?_
        refine EvF.mono (rNumbers_ok (hA.ok hok) (hA.inS hS) ha1 (by first | assumption | omega)) ?_
        rintro _ _ ⟨rfl, hh⟩
        obtain rfl := hh.symm
        clear hh
        refine XO.lit (h := h113) (S := S) (τ := (.int .i64)) (vsC (RepV.ofInt .i64 _) (vs1 (RepV.ofInt .i64 _))) el22 rfl rfl rfl (by simp) (by simp) (by decide) (hA.ok hok) (hA.inS hS) rfl rfl ?_
        intro w119 h119 s119 a119
        have ok120 := hA.ok hok
        have gg120 : Goes h113 S h119 S := a119.nx ok120
        replace hA := hA.trans a119
        replace ha0 := ha0.nx gg120
        replace ha1 := ha1.nx gg120
        replace b101 := b101.nx gg120
        replace s103 := s103.nx gg120
        replace r107_0 := r107_0.nx gg120
        replace r110_0 := r110_0.nx gg120
        replace s111 := s111.nx gg120
        replace s113_0 := s113_0.nx gg120
        replace r116_0 := r116_0.nx gg120
        refine XO.call rfl rfl rfl rfl ?_
        refine EvF.mono (lFirst_ok (hA.ok hok) (hA.inS hS) s119 (by simp)) ?_
        rintro _ _ ⟨rfl, hh⟩
        obtain rfl := hh.symm
        clear hh
        refine XO.c (.assign rfl) rfl rfl ?_
        refine XO.nil (thenC.go ?_)
        refine XC.seq ?_
        refine XC.text ?_
        refine XO.c (.assign rfl) rfl rfl ?_
        refine XO.nil (thenC.go ?_)
        refine XC.seq ?_
        refine XC.seq ?_
        refine XC.text ?_
        refine XO.c (.move rfl) rfl rfl ?_
        refine XO.c (.eql rfl rfl) rfl rfl ?_
        refine XO.nil (thenC.go ?_)
        refine XC.condD rfl (fun c7 => ?_) (fun c7 => ?_)
        · refine XC.text ?_
          obtain ⟨u122, e122, r122⟩ := (b101).ldV vt24
          obtain ⟨c123_0, c123_1, c123_2, rfl, r123_0, r123_1, r123_2⟩ := r122.st3 rfl rfl rfl
          replace r123_0 := r123_0.sl
          obtain rfl := r123_1.int
          obtain rfl := r123_2.int
          refine XO.r (.load rfl (e122)) rfl rfl ?_
          refine XO.c (.move rfl) rfl rfl ?_
          refine XO.call rfl rfl rfl rfl ?_
          refine EvF.mono (rApply_ok (hA.ok hok) (hA.inS hS) (RepV.mk3 (r123_0).rep (RepV.ofInt .i64 _) (RepV.ofInt .i64 _) rfl rfl rfl) ha1 (applyB_ok (show applyB t l = 0 from c7)).1 (applyB_ok (show applyB t l = 0 from c7)).2) ?_
          rintro u124 h124 ⟨a124, s124⟩
          have ok125 := hA.ok hok
          have gg125 : Goes h119 S h124 S := a124.nx ok125
          replace hA := hA.trans a124
          replace ha0 := ha0.nx gg125
          replace ha1 := ha1.nx gg125
          replace b101 := b101.nx gg125
          replace s103 := s103.nx gg125
          replace r107_0 := r107_0.nx gg125
          replace r110_0 := r110_0.nx gg125
          replace s111 := s111.nx gg125
          replace s113_0 := s113_0.nx gg125
          replace r116_0 := r116_0.nx gg125
          replace s119 := s119.nx gg125
          replace r123_0 := r123_0.nx gg125
          refine XO.c (.assign rfl) rfl rfl ?_
          refine XO.nil (thenC.go ?_)
          refine XC.seq ?_
          refine XC.text ?_
          obtain ⟨u126, e126, r126⟩ := (b101).ldV vt24
          obtain ⟨c127_0, c127_1, c127_2, rfl, r127_0, r127_1, r127_2⟩ := r126.st3 rfl rfl rfl
          replace r127_0 := r127_0.sl
          obtain rfl := r127_1.int
          obtain rfl := r127_2.int
          refine XO.r (.load rfl (e126)) rfl rfl ?_
          refine XO.call rfl rfl rfl rfl ?_
          refine EvF.mono (lTransfer_ok (hA.ok hok) (hA.inS hS) (RepV.mk3 (r127_0).rep (RepV.ofInt .i64 _) (RepV.ofInt .i64 _) rfl rfl rfl) (by first | assumption | omega)) ?_
          rintro u128 h128 ⟨a128, s128⟩
          have ok129 := hA.ok hok
          have gg129 : Goes h124 S h128 S := a128.nx ok129
          replace hA := hA.trans a128
          replace ha0 := ha0.nx gg129
          replace ha1 := ha1.nx gg129
          replace b101 := b101.nx gg129
          replace s103 := s103.nx gg129
          replace r107_0 := r107_0.nx gg129
          replace r110_0 := r110_0.nx gg129
          replace s111 := s111.nx gg129
          replace s113_0 := s113_0.nx gg129
          replace r116_0 := r116_0.nx gg129
          replace s119 := s119.nx gg129
          replace r123_0 := r123_0.nx gg129
          replace s124 := s124.nx gg129
          replace r127_0 := r127_0.nx gg129
          obtain ⟨c130_0, c130_1, c130_2, rfl, r130_0, r130_1, r130_2⟩ := s128.st3 rfl rfl rfl
          replace r130_0 := r130_0.sl
          obtain rfl := r130_1.int
          obtain rfl := r130_2.int
          refine XO.call rfl rfl rfl rfl ?_
          refine EvF.mono (sCheckTransfer_ok (hA.ok hok) (hA.inS hS) (RepV.mk3 (r130_0).rep (RepV.ofInt .i64 _) (RepV.ofInt .i64 _) rfl rfl rfl) (by first | assumption | omega)) ?_
          rintro _ _ ⟨rfl, hh⟩
          obtain rfl := hh.symm
          clear hh
          refine XO.c (.move rfl) rfl rfl ?_
          refine XO.c (.eql rfl rfl) rfl rfl ?_
          refine XO.c (.move rfl) rfl rfl ?_
          refine XO.splitD (x := 50) rfl (fun g9_5 => ?_) (fun g9_5 => ?_)
          · refine XO.gc rfl rfl rfl (.move rfl) rfl rfl ?_
            refine XO.gc rfl rfl rfl (.move rfl) rfl rfl ?_
            refine XO.gc rfl rfl rfl (.move rfl) rfl rfl ?_
            refine XO.gc rfl rfl rfl (.move rfl) rfl rfl ?_
            have hlen : (if applyB t l = 0 then applyE t l else []).length < 1000000 := by split <;> simp [applyE]; omega
            refine XO.gcall rfl rfl rfl rfl rfl rfl rfl ?_
            refine EvF.mono (lList_ok (hA.ok hok) (hA.inS hS) s113_0 s124 (by first | assumption | omega)) ?_
            rintro _ _ ⟨rfl, hh⟩
            obtain rfl := hh.symm
            clear hh
            refine XO.c (.pickT rfl rfl) rfl rfl ?_
            refine XO.c (.move rfl) rfl rfl ?_
            refine XO.splitB (x := 57) rfl (fun g9_12 => ?_) (fun g9_12 => ?_)
            · refine XO.gcall rfl rfl rfl rfl rfl rfl rfl ?_
              refine EvF.mono (awake_ok  ) ?_
              rintro _ _ ⟨rfl, hh⟩
              obtain rfl := hh.symm
              clear hh
              refine XO.c (.pickT rfl rfl) rfl rfl ?_
              refine XO.c (.assign rfl) rfl rfl ?_
              refine XO.nil (thenC.go ?_)
              refine XC.ret fun tf htf => ?_
              refine endF.one rfl rfl (htf 4 _ rfl) ?_
              exact ⟨congrArg Value.bool (by first | rfl | exact absurd rfl g9_5 | exact absurd (list_fin1.symm.trans g9_12) (by decide) | exact absurd ((list_fin2 c7).symm.trans g9_12) (by decide)), hA.leftAf rfl⟩
            · refine XO.skip rfl rfl rfl rfl rfl ?_
              refine XO.c (.pickF rfl rfl) rfl rfl ?_
              refine XO.c (.assign rfl) rfl rfl ?_
              refine XO.nil (thenC.go ?_)
              refine XC.ret fun tf htf => ?_
              refine endF.one rfl rfl (htf 4 _ rfl) ?_
              exact ⟨congrArg Value.bool (by first | rfl | exact absurd rfl g9_5 | exact absurd (list_fin1.symm.trans g9_12) (by decide) | exact absurd ((list_fin2 c7).symm.trans g9_12) (by decide)), hA.leftAf rfl⟩
          · refine XO.skip rfl rfl rfl rfl rfl ?_
            refine XO.skip rfl rfl rfl rfl rfl ?_
            refine XO.skip rfl rfl rfl rfl rfl ?_
            refine XO.skip rfl rfl rfl rfl rfl ?_
            refine XO.skip rfl rfl rfl rfl rfl ?_
            refine XO.c (.pickF rfl rfl) rfl rfl ?_
            refine XO.c (.move rfl) rfl rfl ?_
            refine XO.skip rfl rfl rfl rfl rfl ?_
            refine XO.c (.pickF rfl rfl) rfl rfl ?_
            refine XO.c (.assign rfl) rfl rfl ?_
            refine XO.nil (thenC.go ?_)
            refine XC.ret fun tf htf => ?_
            refine endF.one rfl rfl (htf 4 _ rfl) ?_
            exact ⟨congrArg Value.bool (by first | rfl | exact absurd rfl g9_5 | exact absurd (list_fin1.symm.trans g9_12) (by decide) | exact absurd ((list_fin2 c7).symm.trans g9_12) (by decide)), hA.leftAf rfl⟩
        · refine XC.skip (thenC.go ?_)
          refine XC.seq ?_
          refine XC.text ?_
          obtain ⟨u134, e134, r134⟩ := (b101).ldV vt24
          obtain ⟨c135_0, c135_1, c135_2, rfl, r135_0, r135_1, r135_2⟩ := r134.st3 rfl rfl rfl
          replace r135_0 := r135_0.sl
          obtain rfl := r135_1.int
          obtain rfl := r135_2.int
          refine XO.r (.load rfl (e134)) rfl rfl ?_
          refine XO.call rfl rfl rfl rfl ?_
          refine EvF.mono (lTransfer_ok (hA.ok hok) (hA.inS hS) (RepV.mk3 (r135_0).rep (RepV.ofInt .i64 _) (RepV.ofInt .i64 _) rfl rfl rfl) (by first | assumption | omega)) ?_
          rintro u136 h136 ⟨a136, s136⟩
          have ok137 := hA.ok hok
          have gg137 : Goes h119 S h136 S := a136.nx ok137
          replace hA := hA.trans a136
          replace ha0 := ha0.nx gg137
          replace ha1 := ha1.nx gg137
          replace b101 := b101.nx gg137
          replace s103 := s103.nx gg137
          replace r107_0 := r107_0.nx gg137
          replace r110_0 := r110_0.nx gg137
          replace s111 := s111.nx gg137
          replace s113_0 := s113_0.nx gg137
          replace r116_0 := r116_0.nx gg137
          replace s119 := s119.nx gg137
          replace r135_0 := r135_0.nx gg137
          obtain ⟨c138_0, c138_1, c138_2, rfl, r138_0, r138_1, r138_2⟩ := s136.st3 rfl rfl rfl
          replace r138_0 := r138_0.sl
          obtain rfl := r138_1.int
          obtain rfl := r138_2.int
          refine XO.call rfl rfl rfl rfl ?_
          refine EvF.mono (sCheckTransfer_ok (hA.ok hok) (hA.inS hS) (RepV.mk3 (r138_0).rep (RepV.ofInt .i64 _) (RepV.ofInt .i64 _) rfl rfl rfl) (by first | assumption | omega)) ?_
          rintro _ _ ⟨rfl, hh⟩
          obtain rfl := hh.symm
          clear hh
          refine XO.c (.move rfl) rfl rfl ?_
          refine XO.c (.eql rfl rfl) rfl rfl ?_
          refine XO.c (.move rfl) rfl rfl ?_
          refine XO.splitD (x := 50) rfl (fun g9_5 => ?_) (fun g9_5 => ?_)
          · refine XO.gc rfl rfl rfl (.move rfl) rfl rfl ?_
            refine XO.gc rfl rfl rfl (.move rfl) rfl rfl ?_
            refine XO.gc rfl rfl rfl (.move rfl) rfl rfl ?_
            refine XO.gc rfl rfl rfl (.move rfl) rfl rfl ?_
            have hlen : (if applyB t l = 0 then applyE t l else []).length < 1000000 := by split <;> simp [applyE]; omega
            refine XO.gcall rfl rfl rfl rfl rfl rfl rfl ?_
            refine EvF.mono (lList_ok (hA.ok hok) (hA.inS hS) s113_0 SlV.nil (by first | assumption | omega)) ?_
            rintro _ _ ⟨rfl, hh⟩
            obtain rfl := hh.symm
            clear hh
            refine XO.c (.pickT rfl rfl) rfl rfl ?_
            refine XO.c (.move rfl) rfl rfl ?_
            refine XO.splitB (x := 57) rfl (fun g9_12 => ?_) (fun g9_12 => ?_)
            · refine XO.gcall rfl rfl rfl rfl rfl rfl rfl ?_
              refine EvF.mono (awake_ok  ) ?_
              rintro _ _ ⟨rfl, hh⟩
              obtain rfl := hh.symm
              clear hh
              refine XO.c (.pickT rfl rfl) rfl rfl ?_
              refine XO.c (.assign rfl) rfl rfl ?_
              refine XO.nil (thenC.go ?_)
              refine XC.ret fun tf htf => ?_
              refine endF.one rfl rfl (htf 4 _ rfl) ?_
              exact ⟨congrArg Value.bool (by first | rfl | exact absurd rfl g9_5 | exact absurd (list_fin1.symm.trans g9_12) (by decide) | exact absurd ((list_fin2 c7).symm.trans g9_12) (by decide)), hA.leftAf rfl⟩
            · refine XO.skip rfl rfl rfl rfl rfl ?_
              refine XO.c (.pickF rfl rfl) rfl rfl ?_
              refine XO.c (.assign rfl) rfl rfl ?_
              refine XO.nil (thenC.go ?_)
              refine XC.ret fun tf htf => ?_
              refine endF.one rfl rfl (htf 4 _ rfl) ?_
              exact ⟨congrArg Value.bool (by first | rfl | exact absurd rfl g9_5 | exact absurd (list_fin1.symm.trans g9_12) (by decide) | exact absurd ((list_fin2 c7).symm.trans g9_12) (by decide)), hA.leftAf rfl⟩
          · refine XO.skip rfl rfl rfl rfl rfl ?_
            refine XO.skip rfl rfl rfl rfl rfl ?_
            refine XO.skip rfl rfl rfl rfl rfl ?_
            refine XO.skip rfl rfl rfl rfl rfl ?_
            refine XO.skip rfl rfl rfl rfl rfl ?_
            refine XO.c (.pickF rfl rfl) rfl rfl ?_
            refine XO.c (.move rfl) rfl rfl ?_
            refine XO.skip rfl rfl rfl rfl rfl ?_
            refine XO.c (.pickF rfl rfl) rfl rfl ?_
            refine XO.c (.assign rfl) rfl rfl ?_
            refine XO.nil (thenC.go ?_)
            refine XC.ret fun tf htf => ?_
            refine endF.one rfl rfl (htf 4 _ rfl) ?_
            exact ⟨congrArg Value.bool (by first | rfl | exact absurd rfl g9_5 | exact absurd (list_fin1.symm.trans g9_12) (by decide) | exact absurd ((list_fin2 c7).symm.trans g9_12) (by decide)), hA.leftAf rfl⟩
    · refine XO.skip rfl rfl rfl rfl rfl ?_
      refine XO.skip rfl rfl rfl rfl rfl ?_
      refine XO.skip rfl rfl rfl rfl rfl ?_
      refine XO.gc rfl rfl rfl (.pickF rfl rfl) rfl rfl ?_
      refine XO.c (.pickF rfl rfl) rfl rfl ?_
      refine XO.nil (thenC.go ?_)
      refine XC.condF rfl ?_
      refine XC.skip (thenC.go ?_)
      refine XC.seq ?_
      refine XC.text ?_
      obtain ⟨u142, e142, r142⟩ := (b101).ldV vt24
      obtain ⟨c143_0, c143_1, c143_2, rfl, r143_0, r143_1, r143_2⟩ := r142.st3 rfl rfl rfl
      replace r143_0 := r143_0.sl
      obtain rfl := r143_1.int
      obtain rfl := r143_2.int
      refine XO.r (.load rfl (e142)) rfl rfl ?_
      refine XO.call rfl rfl rfl rfl ?_
      refine EvF.mono (lTransfer_ok (hA.ok hok) (hA.inS hS) (RepV.mk3 (r143_0).rep (RepV.ofInt .i64 _) (RepV.ofInt .i64 _) rfl rfl rfl) (by first | assumption | omega)) ?_
      rintro u144 h144 ⟨a144, s144⟩
      have ok145 := hA.ok hok
      have gg145 : Goes h101 S h144 S := a144.nx ok145
      replace hA := hA.trans a144
      replace ha0 := ha0.nx gg145
      replace ha1 := ha1.nx gg145
      replace b101 := b101.nx gg145
      replace s103 := s103.nx gg145
      replace r143_0 := r143_0.nx gg145
      obtain ⟨c146_0, c146_1, c146_2, rfl, r146_0, r146_1, r146_2⟩ := s144.st3 rfl rfl rfl
      replace r146_0 := r146_0.sl
      obtain rfl := r146_1.int
      obtain rfl := r146_2.int
      refine XO.c (.move rfl) rfl rfl ?_
      refine XO.call rfl rfl rfl rfl ?_
      refine EvF.mono (lInts_ok (hA.ok hok) (hA.inS hS) ha1 (by first | assumption | omega)) ?_
      rintro u147 h147 ⟨a147, s147⟩
      have ok148 := hA.ok hok
      have gg148 : Goes h144 S h147 S := a147.nx ok148
      replace hA := hA.trans a147
      replace ha0 := ha0.nx gg148
      replace ha1 := ha1.nx gg148
      replace b101 := b101.nx gg148
      replace s103 := s103.nx gg148
      replace r143_0 := r143_0.nx gg148
      replace r146_0 := r146_0.nx gg148
      refine XO.call rfl rfl rfl rfl ?_
      refine EvF.mono (sApply_ok (hA.ok hok) (hA.inS hS) (RepV.mk3 (r146_0).rep (RepV.ofInt .i64 _) (RepV.ofInt .i64 _) rfl rfl rfl) s147 (by omega) (by omega)) ?_
      rintro _ h149 ⟨a149, u149_0, rfl, s149_0⟩
      have ok150 := hA.ok hok
      have gg150 : Goes h147 S h149 S := a149.nx ok150
      replace hA := hA.trans a149
      replace ha0 := ha0.nx gg150
      replace ha1 := ha1.nx gg150
      replace b101 := b101.nx gg150
      replace s103 := s103.nx gg150
      replace r143_0 := r143_0.nx gg150
      replace r146_0 := r146_0.nx gg150
      replace s147 := s147.nx gg150
      refine XO.c (.move rfl) rfl rfl ?_
      refine XO.c (.extract rfl (junk2 _ _) rfl) rfl rfl ?_
      refine XO.c (.extract rfl (junk2 _ _) rfl) rfl rfl ?_
      refine XO.c (.assign rfl) rfl rfl ?_
      refine XO.c (.assign rfl) rfl rfl ?_
      refine XO.nil (thenC.go ?_)
      refine XC.seq ?_
      refine XC.text ?_
      obtain ⟨u151, e151, r151⟩ := (b101).ldV vt24
      obtain ⟨c152_0, c152_1, c152_2, rfl, r152_0, r152_1, r152_2⟩ := r151.st3 rfl rfl rfl
      replace r152_0 := r152_0.sl
      obtain rfl := r152_1.int
      obtain rfl := r152_2.int
      refine XO.r (.load rfl (e151)) rfl rfl ?_
      refine XO.call rfl rfl rfl rfl ?_
      refine EvF.mono (rCheckTransfer_ok (hA.ok hok) (hA.inS hS) (RepV.mk3 (r152_0).rep (RepV.ofInt .i64 _) (RepV.ofInt .i64 _) rfl rfl rfl) (by first | assumption | omega)) ?_
      rintro _ _ ⟨rfl, hh⟩
      obtain rfl := hh.symm
      clear hh
      refine XO.c (.assign rfl) rfl rfl ?_
      refine XO.nil (thenC.go ?_)
      refine XC.seq ?_
      refine XC.text ?_
      refine XO.c (.move rfl) rfl rfl ?_
      refine XO.c (.move rfl) rfl rfl ?_
      refine XO.call rfl rfl rfl rfl ?_
      refine EvF.mono (rNumbers_ok (hA.ok hok) (hA.inS hS) ha1 (by first | assumption | omega)) ?_
      rintro _ _ ⟨rfl, hh⟩
      obtain rfl := hh.symm
      clear hh
      refine XO.lit (h := h149) (S := S) (τ := (.int .i64)) (vsC (RepV.ofInt .i64 _) (vs1 (RepV.ofInt .i64 _))) el22 rfl rfl rfl (by simp) (by simp) (by decide) (hA.ok hok) (hA.inS hS) rfl rfl ?_
      intro w155 h155 s155 a155
      have ok156 := hA.ok hok
      have gg156 : Goes h149 S h155 S := a155.nx ok156
      replace hA := hA.trans a155
      replace ha0 := ha0.nx gg156
      replace ha1 := ha1.nx gg156
      replace b101 := b101.nx gg156
      replace s103 := s103.nx gg156
      replace r143_0 := r143_0.nx gg156
      replace r146_0 := r146_0.nx gg156
      replace s147 := s147.nx gg156
      replace s149_0 := s149_0.nx gg156
      replace r152_0 := r152_0.nx gg156
      refine XO.call rfl rfl rfl rfl ?_
      refine EvF.mono (lFirst_ok (hA.ok hok) (hA.inS hS) s155 (by simp)) ?_
      rintro _ _ ⟨rfl, hh⟩
      obtain rfl := hh.symm
      clear hh
      refine XO.c (.assign rfl) rfl rfl ?_
      refine XO.nil (thenC.go ?_)
      refine XC.seq ?_
      refine XC.text ?_
      refine XO.c (.assign rfl) rfl rfl ?_
      refine XO.nil (thenC.go ?_)
      refine XC.seq ?_
      refine XC.seq ?_
      refine XC.text ?_
      refine XO.c (.move rfl) rfl rfl ?_
      refine XO.c (.eql rfl rfl) rfl rfl ?_
      refine XO.nil (thenC.go ?_)
      refine XC.condD rfl (fun c7 => ?_) (fun c7 => ?_)
      · refine XC.text ?_
        obtain ⟨u158, e158, r158⟩ := (b101).ldV vt24
        obtain ⟨c159_0, c159_1, c159_2, rfl, r159_0, r159_1, r159_2⟩ := r158.st3 rfl rfl rfl
        replace r159_0 := r159_0.sl
        obtain rfl := r159_1.int
        obtain rfl := r159_2.int
        refine XO.r (.load rfl (e158)) rfl rfl ?_
        refine XO.c (.move rfl) rfl rfl ?_
        refine XO.call rfl rfl rfl rfl ?_
        refine EvF.mono (rApply_ok (hA.ok hok) (hA.inS hS) (RepV.mk3 (r159_0).rep (RepV.ofInt .i64 _) (RepV.ofInt .i64 _) rfl rfl rfl) ha1 (applyB_ok (show applyB t l = 0 from c7)).1 (applyB_ok (show applyB t l = 0 from c7)).2) ?_
        rintro u160 h160 ⟨a160, s160⟩
        have ok161 := hA.ok hok
        have gg161 : Goes h155 S h160 S := a160.nx ok161
        replace hA := hA.trans a160
        replace ha0 := ha0.nx gg161
        replace ha1 := ha1.nx gg161
        replace b101 := b101.nx gg161
        replace s103 := s103.nx gg161
        replace r143_0 := r143_0.nx gg161
        replace r146_0 := r146_0.nx gg161
        replace s147 := s147.nx gg161
        replace s149_0 := s149_0.nx gg161
        replace r152_0 := r152_0.nx gg161
        replace s155 := s155.nx gg161
        replace r159_0 := r159_0.nx gg161
        refine XO.c (.assign rfl) rfl rfl ?_
        refine XO.nil (thenC.go ?_)
        refine XC.seq ?_
        refine XC.text ?_
        obtain ⟨u162, e162, r162⟩ := (b101).ldV vt24
        obtain ⟨c163_0, c163_1, c163_2, rfl, r163_0, r163_1, r163_2⟩ := r162.st3 rfl rfl rfl
        replace r163_0 := r163_0.sl
        obtain rfl := r163_1.int
        obtain rfl := r163_2.int
        refine XO.r (.load rfl (e162)) rfl rfl ?_
        refine XO.call rfl rfl rfl rfl ?_
        refine EvF.mono (lTransfer_ok (hA.ok hok) (hA.inS hS) (RepV.mk3 (r163_0).rep (RepV.ofInt .i64 _) (RepV.ofInt .i64 _) rfl rfl rfl) (by first | assumption | omega)) ?_
        rintro u164 h164 ⟨a164, s164⟩
        have ok165 := hA.ok hok
        have gg165 : Goes h160 S h164 S := a164.nx ok165
        replace hA := hA.trans a164
        replace ha0 := ha0.nx gg165
        replace ha1 := ha1.nx gg165
        replace b101 := b101.nx gg165
        replace s103 := s103.nx gg165
        replace r143_0 := r143_0.nx gg165
        replace r146_0 := r146_0.nx gg165
        replace s147 := s147.nx gg165
        replace s149_0 := s149_0.nx gg165
        replace r152_0 := r152_0.nx gg165
        replace s155 := s155.nx gg165
        replace r159_0 := r159_0.nx gg165
        replace s160 := s160.nx gg165
        replace r163_0 := r163_0.nx gg165
        obtain ⟨c166_0, c166_1, c166_2, rfl, r166_0, r166_1, r166_2⟩ := s164.st3 rfl rfl rfl
        replace r166_0 := r166_0.sl
        obtain rfl := r166_1.int
        obtain rfl := r166_2.int
        refine XO.call rfl rfl rfl rfl ?_
        refine EvF.mono (sCheckTransfer_ok (hA.ok hok) (hA.inS hS) (RepV.mk3 (r166_0).rep (RepV.ofInt .i64 _) (RepV.ofInt .i64 _) rfl rfl rfl) (by first | assumption | omega)) ?_
        rintro _ _ ⟨rfl, hh⟩
        obtain rfl := hh.symm
        clear hh
        refine XO.c (.move rfl) rfl rfl ?_
        refine XO.c (.eql rfl rfl) rfl rfl ?_
        refine XO.c (.move rfl) rfl rfl ?_
        refine XO.splitD (x := 50) rfl (fun g9_5 => ?_) (fun g9_5 => ?_)
        · refine XO.gc rfl rfl rfl (.move rfl) rfl rfl ?_
          refine XO.gc rfl rfl rfl (.move rfl) rfl rfl ?_
          refine XO.gc rfl rfl rfl (.move rfl) rfl rfl ?_
          refine XO.gc rfl rfl rfl (.move rfl) rfl rfl ?_
          have hlen : (if applyB t l = 0 then applyE t l else []).length < 1000000 := by split <;> simp [applyE]; omega
          refine XO.gcall rfl rfl rfl rfl rfl rfl rfl ?_
          refine EvF.mono (lList_ok (hA.ok hok) (hA.inS hS) s149_0 s160 (by first | assumption | omega)) ?_
          rintro _ _ ⟨rfl, hh⟩
          obtain rfl := hh.symm
          clear hh
          refine XO.c (.pickT rfl rfl) rfl rfl ?_
          refine XO.c (.move rfl) rfl rfl ?_
          refine XO.splitB (x := 57) rfl (fun g9_12 => ?_) (fun g9_12 => ?_)
          · refine XO.gcall rfl rfl rfl rfl rfl rfl rfl ?_
            refine EvF.mono (awake_ok  ) ?_
            rintro _ _ ⟨rfl, hh⟩
            obtain rfl := hh.symm
            clear hh
            refine XO.c (.pickT rfl rfl) rfl rfl ?_
            refine XO.c (.assign rfl) rfl rfl ?_
            refine XO.nil (thenC.go ?_)
            refine XC.ret fun tf htf => ?_
            refine endF.one rfl rfl (htf 4 _ rfl) ?_
            exact ⟨congrArg Value.bool (by first | rfl | exact absurd rfl g9_5 | exact absurd (list_fin1.symm.trans g9_12) (by decide) | exact absurd ((list_fin2 c7).symm.trans g9_12) (by decide)), hA.leftAf rfl⟩
          · refine XO.skip rfl rfl rfl rfl rfl ?_
            refine XO.c (.pickF rfl rfl) rfl rfl ?_
            refine XO.c (.assign rfl) rfl rfl ?_
            refine XO.nil (thenC.go ?_)
            refine XC.ret fun tf htf => ?_
            refine endF.one rfl rfl (htf 4 _ rfl) ?_
            exact ⟨congrArg Value.bool (by first | rfl | exact absurd rfl g9_5 | exact absurd (list_fin1.symm.trans g9_12) (by decide) | exact absurd ((list_fin2 c7).symm.trans g9_12) (by decide)), hA.leftAf rfl⟩
        · refine XO.skip rfl rfl rfl rfl rfl ?_
          refine XO.skip rfl rfl rfl rfl rfl ?_
          refine XO.skip rfl rfl rfl rfl rfl ?_
          refine XO.skip rfl rfl rfl rfl rfl ?_
          refine XO.skip rfl rfl rfl rfl rfl ?_
          refine XO.c (.pickF rfl rfl) rfl rfl ?_
          refine XO.c (.move rfl) rfl rfl ?_
          refine XO.skip rfl rfl rfl rfl rfl ?_
          refine XO.c (.pickF rfl rfl) rfl rfl ?_
          refine XO.c (.assign rfl) rfl rfl ?_
          refine XO.nil (thenC.go ?_)
          refine XC.ret fun tf htf => ?_
          refine endF.one rfl rfl (htf 4 _ rfl) ?_
          exact ⟨congrArg Value.bool (by first | rfl | exact absurd rfl g9_5 | exact absurd (list_fin1.symm.trans g9_12) (by decide) | exact absurd ((list_fin2 c7).symm.trans g9_12) (by decide)), hA.leftAf rfl⟩
      · refine XC.skip (thenC.go ?_)
        refine XC.seq ?_
        refine XC.text ?_
        obtain ⟨u170, e170, r170⟩ := (b101).ldV vt24
        obtain ⟨c171_0, c171_1, c171_2, rfl, r171_0, r171_1, r171_2⟩ := r170.st3 rfl rfl rfl
        replace r171_0 := r171_0.sl
        obtain rfl := r171_1.int
        obtain rfl := r171_2.int
        refine XO.r (.load rfl (e170)) rfl rfl ?_
        refine XO.call rfl rfl rfl rfl ?_
        refine EvF.mono (lTransfer_ok (hA.ok hok) (hA.inS hS) (RepV.mk3 (r171_0).rep (RepV.ofInt .i64 _) (RepV.ofInt .i64 _) rfl rfl rfl) (by first | assumption | omega)) ?_
        rintro u172 h172 ⟨a172, s172⟩
        have ok173 := hA.ok hok
        have gg173 : Goes h155 S h172 S := a172.nx ok173
        replace hA := hA.trans a172
        replace ha0 := ha0.nx gg173
        replace ha1 := ha1.nx gg173
        replace b101 := b101.nx gg173
        replace s103 := s103.nx gg173
        replace r143_0 := r143_0.nx gg173
        replace r146_0 := r146_0.nx gg173
        replace s147 := s147.nx gg173
        replace s149_0 := s149_0.nx gg173
        replace r152_0 := r152_0.nx gg173
        replace s155 := s155.nx gg173
        replace r171_0 := r171_0.nx gg173
        obtain ⟨c174_0, c174_1, c174_2, rfl, r174_0, r174_1, r174_2⟩ := s172.st3 rfl rfl rfl
        replace r174_0 := r174_0.sl
        obtain rfl := r174_1.int
        obtain rfl := r174_2.int
        refine XO.call rfl rfl rfl rfl ?_
        refine EvF.mono (sCheckTransfer_ok (hA.ok hok) (hA.inS hS) (RepV.mk3 (r174_0).rep (RepV.ofInt .i64 _) (RepV.ofInt .i64 _) rfl rfl rfl) (by first | assumption | omega)) ?_
        rintro _ _ ⟨rfl, hh⟩
        obtain rfl := hh.symm
        clear hh
        refine XO.c (.move rfl) rfl rfl ?_
        refine XO.c (.eql rfl rfl) rfl rfl ?_
        refine XO.c (.move rfl) rfl rfl ?_
        refine XO.splitD (x := 50) rfl (fun g9_5 => ?_) (fun g9_5 => ?_)
        · refine XO.gc rfl rfl rfl (.move rfl) rfl rfl ?_
          refine XO.gc rfl rfl rfl (.move rfl) rfl rfl ?_
          refine XO.gc rfl rfl rfl (.move rfl) rfl rfl ?_
          refine XO.gc rfl rfl rfl (.move rfl) rfl rfl ?_
          have hlen : (if applyB t l = 0 then applyE t l else []).length < 1000000 := by split <;> simp [applyE]; omega
          refine XO.gcall rfl rfl rfl rfl rfl rfl rfl ?_
          refine EvF.mono (lList_ok (hA.ok hok) (hA.inS hS) s149_0 SlV.nil (by first | assumption | omega)) ?_
          rintro _ _ ⟨rfl, hh⟩
          obtain rfl := hh.symm
          clear hh
          refine XO.c (.pickT rfl rfl) rfl rfl ?_
          refine XO.c (.move rfl) rfl rfl ?_
          refine XO.splitB (x := 57) rfl (fun g9_12 => ?_) (fun g9_12 => ?_)
          · refine XO.gcall rfl rfl rfl rfl rfl rfl rfl ?_
            refine EvF.mono (awake_ok  ) ?_
            rintro _ _ ⟨rfl, hh⟩
            obtain rfl := hh.symm
            clear hh
            refine XO.c (.pickT rfl rfl) rfl rfl ?_
            refine XO.c (.assign rfl) rfl rfl ?_
            refine XO.nil (thenC.go ?_)
            refine XC.ret fun tf htf => ?_
            refine endF.one rfl rfl (htf 4 _ rfl) ?_
            exact ⟨congrArg Value.bool (by first | rfl | exact absurd rfl g9_5 | exact absurd (list_fin1.symm.trans g9_12) (by decide) | exact absurd ((list_fin2 c7).symm.trans g9_12) (by decide)), hA.leftAf rfl⟩
          · refine XO.skip rfl rfl rfl rfl rfl ?_
            refine XO.c (.pickF rfl rfl) rfl rfl ?_
            refine XO.c (.assign rfl) rfl rfl ?_
            refine XO.nil (thenC.go ?_)
            refine XC.ret fun tf htf => ?_
            refine endF.one rfl rfl (htf 4 _ rfl) ?_
            exact ⟨congrArg Value.bool (by first | rfl | exact absurd rfl g9_5 | exact absurd (list_fin1.symm.trans g9_12) (by decide) | exact absurd ((list_fin2 c7).symm.trans g9_12) (by decide)), hA.leftAf rfl⟩
        · refine XO.skip rfl rfl rfl rfl rfl ?_
          refine XO.skip rfl rfl rfl rfl rfl ?_
          refine XO.skip rfl rfl rfl rfl rfl ?_
          refine XO.skip rfl rfl rfl rfl rfl ?_
          refine XO.skip rfl rfl rfl rfl rfl ?_
          refine XO.c (.pickF rfl rfl) rfl rfl ?_
          refine XO.c (.move rfl) rfl rfl ?_
          refine XO.skip rfl rfl rfl rfl rfl ?_
          refine XO.c (.pickF rfl rfl) rfl rfl ?_
          refine XO.c (.assign rfl) rfl rfl ?_
          refine XO.nil (thenC.go ?_)
          refine XC.ret fun tf htf => ?_
          refine endF.one rfl rfl (htf 4 _ rfl) ?_
          exact ⟨congrArg Value.bool (by first | rfl | exact absurd rfl g9_5 | exact absurd (list_fin1.symm.trans g9_12) (by decide) | exact absurd ((list_fin2 c7).symm.trans g9_12) (by decide)), hA.leftAf rfl⟩
end Go.Proofs
