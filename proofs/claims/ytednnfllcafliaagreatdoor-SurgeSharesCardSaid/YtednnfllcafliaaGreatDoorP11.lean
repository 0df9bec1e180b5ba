/- Values without addresses: structures within structures. No condition. -/
import Derived.Test.YtednnfllcafliaaGreatDoorP2
set_option linter.all false
namespace Go.Fs
def Ty.isFlat : Ty → Bool
  | .sl _ => false
  | .pair a b => a.isFlat && b.isFlat
  | _ => true
def Ty.flatC : (τ : Ty) → τ.den → List Value
  | .int k, n => [.int k n]
  | .bool, b => [.bool b]
  | .str, s => [.string s]
  | .flt k, b => [.float k b]
  | .unit, _ => []
  | .sl _, _ => []
  | .pair a b, x => a.flatC x.1 ++ b.flatC x.2
theorem flat_cells {h : Heap} {S : List Nat} : ∀ {τ : Ty} {cs : List Value} {x : τ.den}, RepC h S τ cs x → τ.isFlat = true → cs = τ.flatC x := by
  intro τ
  induction τ with
  | int k => intro cs x hx _; exact hx
  | bool => intro cs x hx _; exact hx
  | str => intro cs x hx _; exact hx
  | flt k => intro cs x hx _; exact hx
  | unit => intro cs x hx _; exact hx
  | sl e ih => intro cs x _ hf; cases hf
  | pair a b iha ihb =>
    intro cs x hx hf
    have h1 : a.isFlat = true ∧ b.isFlat = true := by simpa [Ty.isFlat] using hf
    have e1 := iha hx.1 h1.1
    have e2 := ihb hx.2 h1.2
    show cs = a.flatC x.1 ++ b.flatC x.2
    rw [← e1, ← e2, List.take_append_drop]
theorem flat_agg {h : Heap} {S : List Nat} {τ : Ty} {v : Value} {x : τ.den} (hv : RepV h S τ v x) (hf : τ.isFlat = true) (ha : τ.agg = true) : v = .agg (τ.flatC x).toArray := by
  obtain ⟨h1, h2⟩ := hv
  have h3 := flat_cells h2 hf
  cases v with
  | agg cs =>
    have h4 : cs.toList = τ.flatC x := h3
    rw [← h4]
  | _ => rw [ha] at h1; cases h1
end Go.Fs
