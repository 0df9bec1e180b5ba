/- The example that all statements of this seat ask for answers true: the evaluator's run, by the kernel. No condition. -/
import Derived.Test.YtlkhimnkbboedaaGreatDoorP10TmBase
import Derived.Test.YtlkhimnkbboedaaGreatDoorCards
import Derived.Test.YtlkhimnkbboedaaGreatDoorTie
import Derived.Test.YtlkhimnkbboedaaGreatDoorP5
import Derived.Test.YtlkhimnkbboedaaGreatDoorP8
import Derived.WalkKit
import Derived.ProofKit
import Derived.LaidMore
import Derived.Deep.DeepHandedRow
import Derived.Lib.LaidTab
import Derived.Stop.LaidErr
set_option linter.all false
namespace Go.Proofs
open Go.Fs
theorem tzRun : (fsEnter Tryz.prog (fsCodeX Tryz.prog OB 100000) 7 [] ⟨1, 1, []⟩).map (·.1) = some (.bool true) := by kernel_rfl
end Go.Proofs
namespace Go.Proofs.YtlkhimnkbboedaaGreatDoor
open Go.ChangeShapes Go.WideShapes Go.ChangeAt Go.RowKit Go.Fs
theorem own : ownKnob Tryz.prog.godebug = none := by kernel_rfl
theorem laidOut : laidOutB Tryz.prog = true := by kernel_rfl
theorem gPow : ∃ g : Nat, Tryz.prog.globalNamed "internal/strconv.uint64pow10" = some g ∧ (Tryz.prog.globals[g]?).map (·.type) = some 253 := ⟨2, by kernel_rfl, by kernel_rfl⟩
theorem powTab {W : World} {a b : String × DataW Unit} (h : laidMet Tryz.prog [a, b, ("internal/strconv.uint64pow10", Rows.laid_internal_strconv_uint64pow10)] W) : Lib.TabIs Tryz.prog W "internal/strconv.uint64pow10" .u64 Lib.pow10Tab := by
  obtain ⟨g, h1, h2⟩ := gPow; exact Lib.tabIs_of_head (rest := []) h1 h2 Tryz.underlying253 Tryz.underlying225 (by kernel_rfl) (by kernel_rfl) (laidMet.tail (laidMet.tail h))
/-- The oracle is sound wherever the table of powers lies. -/
theorem orcOk {W : World} (ht : Lib.TabIs Tryz.prog W "internal/strconv.uint64pow10" .u64 Lib.pow10Tab) : CallSound Tryz.prog W.heap.size (Go.Fs.wz W) OA := by
  have hT : ∀ w, Below W.heap.size W w → Lib.TabIs Tryz.prog w "internal/strconv.uint64pow10" .u64 Lib.pow10Tab := Lib.tabBelow_of_tabIs ht
  have hS : ∀ w, Below W.heap.size W w → CallSound Tryz.prog w.heap.size (Go.Fs.wz w) OB := fun w hw =>
    tzOrcB rfl (Nat.le_refl _) fun w' hw' => hT w' (hw.trans ((below_z hw').mono hw.size))
  exact orcA_sound rfl (tzOrc rfl (Nat.le_refl _) fun w' hw' => hT w' (below_z hw')) tzAwakeE fun w hw => awakeX_calls tzOk (fun w' hw' => hS w' (below_z hw')) tzRun w hw
noncomputable def doorWorld (os : Os) : World := World.doorLaid Tryz.prog 24 os
end Go.Proofs.YtlkhimnkbboedaaGreatDoor
