/- From a law's run on the evaluator to its row: the arguments' data, whatever they are. No condition. -/
import Derived.Test.YtligdjefbiebjaaGreatDoorP9
import Derived.Test.YtligdjefbiebjaaGreatDoorP2
import Derived.Test.YtligdjefbiebjaaGreatDoorP5
import Derived.ChangeArms
import Derived.Carry
import Derived.RowKit
import Derived.OpenShut
import Derived.Test.YtligdjefbiebjaaGreatDoorCards
import Derived.Test.YtligdjefbiebjaaGreatDoorTie
import Derived.WalkKit
import Derived.ProofKit
import Derived.LaidMore
import Derived.Deep.DeepHandedRow
import Derived.Lib.LaidTab
import Derived.Stop.LaidErr
set_option linter.all false
namespace Go.Proofs
open Go.Fs
theorem tzP7 : runPre Tryz.prog OB 7 100000 (tzC) ⟨fillTr .leaf 0 [], Tryz.f16.ntmps, []⟩ ⟨1, 1, []⟩ = some (99993, sufx 7 tzC, tzF7, tzH7) := by kernel_rfl
end Go.Proofs
namespace Go.Proofs
open Go.Fs
theorem tzP11 : runPre Tryz.prog OB 4 99993 (sufx 7 tzC) tzF7 tzH7 = some (99989, sufx 11 tzC, tzF11, tzH11) := by kernel_rfl
end Go.Proofs
namespace Go.Proofs
open Go.Fs
theorem tzP14 : runPre Tryz.prog OB 3 99989 (sufx 11 tzC) tzF11 tzH11 = some (99986, sufx 14 tzC, tzF14, tzH14) := by kernel_rfl
end Go.Proofs
namespace Go.Proofs
open Go.Fs
theorem tzP16 : runPre Tryz.prog OB 2 99986 (sufx 14 tzC) tzF14 tzH14 = some (99984, sufx 16 tzC, tzF16, tzH16) := by kernel_rfl
end Go.Proofs
namespace Go.Proofs
open Go.Fs
theorem tzP18 : runPre Tryz.prog OB 2 99984 (sufx 16 tzC) tzF16 tzH16 = some (99982, sufx 18 tzC, tzF18, tzH18) := by kernel_rfl
end Go.Proofs
namespace Go.Proofs
open Go.Fs
theorem tzP21 : runPre Tryz.prog OB 3 99982 (sufx 18 tzC) tzF18 tzH18 = some (99979, sufx 21 tzC, tzF21, tzH21) := by kernel_rfl
end Go.Proofs
namespace Go.Proofs
open Go.Fs
theorem tzPe : (fsCodeX Tryz.prog OB 99979 none (sufx 21 tzC) tzF21 tzH21).bind (endV Tryz.prog Tryz.f16 ⟨1, 1, []⟩) = some (.bool true) := by kernel_rfl
end Go.Proofs
namespace Go.Proofs
open Go.Fs
theorem tzRun : (fsEnter Tryz.prog (fsCodeX Tryz.prog OB 100000) 16 [] ⟨1, 1, []⟩).map (·.1) = some (.bool true) := by
  rw [enter_map (c := tzC) Tryz.func16 rfl (by rfl)]
  show (fsCodeX Tryz.prog OB 100000 none tzC ⟨fillTr .leaf 0 [], Tryz.f16.ntmps, []⟩ ⟨1, 1, []⟩).bind _ = _
  rw [run_via tzP7]
  rw [run_via tzP11]
  rw [run_via tzP14]
  rw [run_via tzP16]
  rw [run_via tzP18]
  rw [run_via tzP21]
  exact tzPe
end Go.Proofs
namespace Go.Fs
open Go.RowKit (Below)
variable {P : Program} {H : Type} {enc : TypeId × Value → H} {w : World} {base : Nat} {sp : Nat → Bool} {held : Bool}

def fsB (P : Program) (ty : TypeId → Ty → Bool) : List Field → Nat → Ty → Bool
  | [f], off, .pair a .unit => Nat.beq f.offset off && Nat.beq (P.cellsOf f.type) a.size && ty f.type a
  | [f], off, τ => Nat.beq f.offset off && Nat.beq (P.cellsOf f.type) τ.size && ty f.type τ
  | f :: fs, off, .pair a b => Nat.beq f.offset off && Nat.beq (P.cellsOf f.type) a.size && ty f.type a && fsB P ty fs (off + a.size) b
  | _, _, _ => false
def kindB (k k' : IntKind) : Bool := decide (k = k')
def tyB (P : Program) : Nat → TypeId → Ty → Bool
  | 0, _, _ => false
  | n + 1, t, τ =>
    match P.underlying t, τ with
    | some (.int k), .int k' => decide (k = k')
    | some .bool, .bool => true
    | some .string, .str => true
    | some (.float k), .flt k' => decide (k = k')
    | some (.slice te), .sl e => Nat.beq (P.cellsOf te) e.size && Nat.blt 0 e.size && tyB P n te e
    | some (.struct fs), .pair a b => Nat.beq (P.cellsOf t) (Ty.pair a b).size && fsB P (tyB P n) fs.toList 0 (.pair a b)
    | _, _ => false

def Wf : (τ : Ty) → τ.den → Prop
  | .int k, n => (Lit.int k n).wf = true
  | .bool, _ => True
  | .str, s => s.size ≤ maxLen
  | .flt k, n => (Lit.float k n).wf = true
  | .sl e, xs => List.length xs ≤ maxLen ∧ ∀ x ∈ (xs : List e.den), Wf e x
  | .pair a b, x => Wf a x.1 ∧ Wf b x.2
  | .unit, _ => True
  | .mp _ _, _ => True
  | .fn, _ => True

structure Got (P : Program) (w : World) (ρ : Ren) (S : Nat → Prop) (h : Heap) (ρ' : Ren) (S' : Nat → Prop) (h' : Heap) : Prop where
  hr : HR P ρ' S' w.heap.size w h' w
  agree : ∀ b, S b → S' b ∧ ρ' b = ρ b
  aft : After h h'
theorem Got.refl {ρ : Ren} {S : Nat → Prop} {h : Heap} (hr : HR P ρ S w.heap.size w h w) : Got P w ρ S h ρ S h := ⟨hr, fun _ hb => ⟨hb, rfl⟩, After.refl h⟩
theorem Got.trans {ρ ρ1 ρ2 : Ren} {S S1 S2 : Nat → Prop} {h h1 h2 : Heap} (a : Got P w ρ S h ρ1 S1 h1) (b : Got P w ρ1 S1 h1 ρ2 S2 h2) : Got P w ρ S h ρ2 S2 h2 :=
  ⟨b.hr, fun i hi => let ⟨h3, h4⟩ := a.agree i hi; let ⟨h5, h6⟩ := b.agree i h3; ⟨h5, h6.trans h4⟩, a.aft.trans b.aft⟩
theorem Got.ok {ρ ρ1 : Ren} {S S1 : Nat → Prop} {h h1 : Heap} (a : Got P w ρ S h ρ1 S1 h1) : HOk h1 := fun b o hg => (a.hr.ids b (a.hr.objs b o hg).1).1
theorem Got.row {ρ : Ren} {S : Nat → Prop} {h : Heap} (hr : HR P ρ S w.heap.size w h w) {te : TypeId} {cs : List Value} {a : Addr} (ha : a.block < w.heap.size) (hc : ∀ i, i < cs.length → ∃ v, w.cell? ⟨a.block, a.off + i, none⟩ = some v ∧ VR ρ S (cs.getD i undef) v) :
    Got P w ρ S h (fun b => if b = h.next then ⟨a.block, a.off, 0, P.cellsOf te⟩ else ρ b) (fun b => S b ∨ b = h.next) (h.push (.row te cs false false)) := by
  have hag : ∀ b, S b → (S b ∨ b = h.next) ∧ (fun b => if b = h.next then (⟨a.block, a.off, 0, P.cellsOf te⟩ : Loc) else ρ b) b = ρ b := fun b hb => by
    have := (hr.ids b hb).1
    exact ⟨.inl hb, by simp only; rw [if_neg (by omega)]⟩
  have hold : ∀ i o, (h.push (.row te cs false false)).get i = some o → (i = h.next ∧ o = .row te cs false false) ∨ (i ≠ h.next ∧ h.get i = some o) := fun i o hg => by
    rw [Heap.get_push] at hg
    by_cases hi : i = h.next
    · rw [if_pos hi] at hg; exact .inl ⟨hi, (Option.some.inj hg).symm⟩
    · rw [if_neg hi] at hg; exact .inr ⟨hi, hg⟩
  refine ⟨⟨fun i o hg => ?_, fun i j oi oj hi hj oi1 oj1 he => ?_, fun i o hg ho => ?_, fun i o hg ho => ?_, fun b hb => ?_, Nat.succ_pos _, Below.refl _ _, Nat.le_refl _⟩, hag, After.push h _⟩
  · rcases hold i o hg with ⟨rfl, rfl⟩ | ⟨hi, hg'⟩
    · refine ⟨.inr rfl, ?_⟩
      simp only [if_true]
      refine ⟨rfl, fun i hi => ?_⟩
      obtain ⟨v, h1, h2⟩ := hc i hi
      exact ⟨v, h1, h2.mono hag⟩
    · obtain ⟨h1, h2⟩ := hr.objs i o hg'
      refine ⟨.inl h1, ?_⟩
      simp only [if_neg hi]
      exact h2.mono hag
  · rcases hold i oi hi with ⟨rfl, rfl⟩ | ⟨hi', hgi⟩
    · cases oi1
    · rcases hold j oj hj with ⟨rfl, rfl⟩ | ⟨hj', hgj⟩
      · cases oj1
      · simp only [if_neg hi', if_neg hj'] at he
        exact hr.inj i j oi oj hgi hgj oi1 oj1 he
  · rcases hold i o hg with ⟨rfl, rfl⟩ | ⟨hi, hg'⟩
    · cases ho
    · simp only [if_neg hi]; exact hr.base i o hg' ho
  · rcases hold i o hg with ⟨rfl, rfl⟩ | ⟨hi, hg'⟩
    · simp only [if_true]; exact ha
    · simp only [if_neg hi]; exact hr.ro i o hg' ho
  · have hn : (h.push (.row te cs false false)).next = h.next + 1 := rfl
    rw [hn]
    rcases hb with hb | rfl
    · have := hr.ids b hb; exact ⟨by omega, this.2⟩
    · have := hr.pos; exact ⟨by omega, by omega⟩

theorem trod_float {fuel : Nat} {t : TypeId} {cs : List Value} {x : DataW H × List MemPlace} {k : FloatKind} (ht : P.underlying t = some (.float k)) (h : DataW.trod enc P w base sp held fuel t cs = some x) : ∃ n, cs = [.float k n] ∧ (Lit.float k n).wf = true := by
  cases fuel with
  | zero => simp [DataW.trod] at h
  | succ n =>
    unfold DataW.trod at h
    rw [ht] at h
    split at h <;> simp_all

theorem mapM_all {α β : Type} (f : α → Option β) : ∀ (l : List α) (r : List β), l.mapM f = some r → l.length = r.length ∧ ∀ i (hi : i < l.length) (hr : i < r.length), f l[i] = some r[i]
  | [], r, h => by
    simp only [List.mapM_nil] at h
    obtain rfl := Option.some.inj h
    exact ⟨rfl, fun i hi => absurd hi (by simp)⟩
  | a :: l, r, h => by
    rw [List.mapM_cons] at h
    cases hf : f a with
    | none => rw [hf] at h; cases h
    | some b =>
      rw [hf] at h
      cases hl : l.mapM f with
      | none => rw [hl] at h; cases h
      | some bs =>
        rw [hl] at h
        obtain rfl := Option.some.inj h
        obtain ⟨h1, h2⟩ := mapM_all f l bs hl
        refine ⟨by simp [h1], fun i hi hr => ?_⟩
        cases i with
        | zero => exact hf
        | succ i => exact h2 i (by simpa using hi) (by simpa using hr)
theorem cells_some {a : Addr} {n : Nat} {cs : List Value} (h : w.cells? base a n = some cs) : cs.length = n ∧ ∀ i, i < n → w.cell? (a.add i) = some (cs.getD i undef) := by
  unfold World.cells? at h
  split at h
  · obtain ⟨h1, h2⟩ := mapM_all _ _ _ h
    rw [List.length_range] at h1
    refine ⟨h1.symm, fun i hi => ?_⟩
    have := h2 i (by simpa using hi) (by omega)
    rw [List.getElem_range] at this
    rw [this]
    simp [List.getD, show i < cs.length by omega]
  · cases h
theorem cell_some {a : Addr} {v : Value} (h : w.cell? a = some v) : a.spot = none ∧ a.block < w.heap.size := by
  unfold World.cell? at h
  split at h
  · rename_i c _ _ hb
    refine ⟨?_, (Array.getElem?_eq_some_iff.1 hb).1⟩
    cases hs : a.spot with
    | none => rfl
    | some s => rw [hs] at h; cases h
  · cases h

def Tells (P : Program) (w : World) (τ : Ty) (cs : List Value) : Prop := ∀ (ρ : Ren) (S : Nat → Prop) (h : Heap), HR P ρ S w.heap.size w h w →
  ∃ ρ' S' h' cs' x, Got P w ρ S h ρ' S' h' ∧ LR ρ' S' cs' cs ∧ RepC h' [] τ cs' x ∧ Wf τ x

theorem LR.one {ρ : Ren} {S : Nat → Prop} {v v' : Value} (h : VR ρ S v v') : LR ρ S [v] [v'] := LR.cons h LR.nil
theorem tells_elems {e : Ty} (a : Addr) (len : Nat) (hcs : ∀ i, i < len → ∃ cs, (∀ j, j < e.size → w.cell? (a.add (i * e.size + j)) = some (cs.getD j undef)) ∧ cs.length = e.size ∧ Tells P w e cs) :
    ∀ (ρ : Ren) (S : Nat → Prop) (h : Heap), HR P ρ S w.heap.size w h w → ∃ ρ' S' h' rs xs, Got P w ρ S h ρ' S' h' ∧ rs.length = len * e.size ∧ List.length xs = len ∧ (∀ i, i < len * e.size → ∃ v, w.cell? (a.add i) = some v ∧ VR ρ' S' (rs.getD i undef) v) ∧
      Elems h' [] e rs xs ∧ ∀ x ∈ (xs : List e.den), Wf e x := by
  induction len with
  | zero =>
    intro ρ S h hr
    exact ⟨ρ, S, h, [], [], Got.refl hr, by simp, rfl, fun i hi => by omega, Elems.nil, fun x hx => by cases hx⟩
  | succ n ih =>
    intro ρ S h hr
    obtain ⟨ρ1, S1, h1, rs, xs, g1, l1, l2, c1, e1, w1⟩ := ih (fun i hi => hcs i (by omega)) ρ S h hr
    obtain ⟨cs, k1, k2, k3⟩ := hcs n (by omega)
    obtain ⟨ρ2, S2, h2, cs', x, g2, lr, rc, wf⟩ := k3 ρ1 S1 h1 g1.hr
    have hN : Goes h1 [] h2 [] := g2.aft.nx g1.ok
    have hl : cs'.length = e.size := rc.len
    have hel : Elems h2 [] e cs' [x] := by
      refine ⟨by simpa using hl, fun i hi => ?_⟩
      obtain rfl : i = 0 := by simpa using hi
      simp only [Nat.zero_mul, List.drop_zero, List.getElem_cons_zero]
      rw [List.take_of_length_le (by omega)]
      exact rc
    refine ⟨ρ2, S2, h2, rs ++ cs', xs ++ [x], g1.trans g2, by rw [List.length_append, l1, hl, Nat.add_mul]; omega, by simp [l2], fun i hi => ?_, (e1.nx hN).append hel, fun y hy => ?_⟩
    · rw [Nat.add_mul, Nat.one_mul] at hi
      by_cases hin : i < n * e.size
      · obtain ⟨v, hv1, hv2⟩ := c1 i hin
        refine ⟨v, hv1, ?_⟩
        rw [List.getD_eq_getElem?_getD, List.getElem?_append_left (by omega), ← List.getD_eq_getElem?_getD]
        exact hv2.mono g2.agree
      · have hj : i - n * e.size < e.size := by omega
        refine ⟨cs.getD (i - n * e.size) undef, ?_, ?_⟩
        · have := k1 (i - n * e.size) hj
          rwa [show n * e.size + (i - n * e.size) = i by omega] at this
        · rw [List.getD_eq_getElem?_getD, List.getElem?_append_right (by omega), l1, ← List.getD_eq_getElem?_getD]
          exact lr.getD _
    · rcases List.mem_append.1 hy with hy | hy
      · exact w1 y hy
      · obtain rfl := List.mem_singleton.1 hy; exact wf
theorem Addr.add_spot {a : Addr} (h : a.spot = none) (n : Nat) : a.add n = ⟨a.block, a.off + n, none⟩ := by
  obtain ⟨b, o, s⟩ := a
  simp only at h
  subst h
  unfold Addr.add
  by_cases hn : n = 0
  · subst hn; simp
  · simp [hn]
theorem tells_fields {n : Nat} (ih : ∀ (t : TypeId) (τ : Ty), tyB P n t τ = true → ∀ (fuel : Nat) (cs : List Value) (x : DataW H × List MemPlace), DataW.trod enc P w base sp held fuel t cs = some x → Tells P w τ cs) :
    ∀ (fs : List Field) (off : Nat) (τ : Ty) (cs : List Value) (m : Nat), fsB P (tyB P n) fs off τ = true → cs.length = off + τ.size → (∀ f ∈ fs, ∃ x, DataW.trod enc P w base sp held m f.type ((cs.drop f.offset).take (P.cellsOf f.type)) = some x) → Tells P w τ (cs.drop off) := by
  have one : ∀ (f : Field) (off : Nat) (τ : Ty) (cs : List Value) (m : Nat), f.offset = off → P.cellsOf f.type = τ.size → tyB P n f.type τ = true → off + τ.size ≤ cs.length → (∃ x, DataW.trod enc P w base sp held m f.type ((cs.drop f.offset).take (P.cellsOf f.type)) = some x) → Tells P w τ ((cs.drop off).take τ.size) := by
    intro f off τ cs m h1 h2 h3 h4 ⟨x, hx⟩
    rw [h1, h2] at hx
    exact ih f.type τ h3 m _ x hx
  intro fs
  induction fs with
  | nil => intro off τ cs m hb; cases hb
  | cons f fs ihf =>
    intro off τ cs m hb hl hall
    have hf := hall f List.mem_cons_self
    cases fs with
    | nil =>
      by_cases hs : ∃ a, τ = .pair a .unit
      · obtain ⟨a, rfl⟩ := hs
        have hb' : (Nat.beq f.offset off && Nat.beq (P.cellsOf f.type) a.size && tyB P n f.type a) = true := hb
        obtain ⟨hb', h3⟩ := band hb'
        obtain ⟨h1, h2⟩ := band hb'
        have hs : (Ty.pair a .unit).size = a.size := by simp [Ty.size]
        rw [hs] at hl
        have := one f off a cs m (nbeq h1) (nbeq h2) h3 (by omega) hf
        intro ρ S h hr
        obtain ⟨ρ', S', h', cs', x, g, lr, rc, wf⟩ := this ρ S h hr
        have e1 : (cs.drop off).take a.size = cs.drop off := List.take_of_length_le (by rw [List.length_drop]; omega)
        rw [e1] at lr
        have hcl := rc.len
        exact ⟨ρ', S', h', cs', (x, ()), g, lr, ⟨by rw [List.take_of_length_le (by omega)]; exact rc, by rw [List.drop_eq_nil_of_le (by omega)]; rfl⟩, wf, trivial⟩
      · have hb' : (Nat.beq f.offset off && Nat.beq (P.cellsOf f.type) τ.size && tyB P n f.type τ) = true := by
          cases τ with
          | pair a b =>
            cases b with
            | unit => exact absurd ⟨a, rfl⟩ hs
            | _ => exact hb
          | _ => exact hb
        obtain ⟨hb', h3⟩ := band hb'
        obtain ⟨h1, h2⟩ := band hb'
        have := one f off τ cs m (nbeq h1) (nbeq h2) h3 (by omega) hf
        have e1 : (cs.drop off).take τ.size = cs.drop off := List.take_of_length_le (by rw [List.length_drop]; omega)
        rwa [e1] at this
    | cons g fs =>
      cases τ with
      | pair a b =>
        have hb' : (Nat.beq f.offset off && Nat.beq (P.cellsOf f.type) a.size && tyB P n f.type a && fsB P (tyB P n) (g :: fs) (off + a.size) b) = true := hb
        obtain ⟨hb', h4⟩ := band hb'
        obtain ⟨hb', h3⟩ := band hb'
        obtain ⟨h1, h2⟩ := band hb'
        have hs : (Ty.pair a b).size = a.size + b.size := rfl
        rw [hs] at hl
        have ha := one f off a cs m (nbeq h1) (nbeq h2) h3 (by omega) hf
        have hrest := ihf (off + a.size) b cs m h4 (by omega) (fun g hg => hall g (List.mem_cons_of_mem _ hg))
        intro ρ S h hr
        obtain ⟨ρ1, S1, h1', cs1, x1, g1, lr1, rc1, wf1⟩ := ha ρ S h hr
        obtain ⟨ρ2, S2, h2', cs2, x2, g2, lr2, rc2, wf2⟩ := hrest ρ1 S1 h1' g1.hr
        have hN : Goes h1' [] h2' [] := g2.aft.nx g1.ok
        have hc1 := rc1.len
        refine ⟨ρ2, S2, h2', cs1 ++ cs2, (x1, x2), g1.trans g2, ?_, ⟨?_, ?_⟩, wf1, wf2⟩
        · have := (lr1.mono g2.agree).append lr2
          rwa [show (cs.drop off).take a.size ++ cs.drop (off + a.size) = cs.drop off from by rw [← List.drop_drop, List.take_append_drop]] at this
        · rw [List.take_left' hc1]; exact rc1.nx hN
        · rw [List.drop_left' hc1]; exact rc2
      | _ => cases hb

theorem tells : ∀ (n : Nat) (t : TypeId) (τ : Ty), tyB P n t τ = true → ∀ (fuel : Nat) (cs : List Value) (x : DataW H × List MemPlace), DataW.trod enc P w base sp held fuel t cs = some x → Tells P w τ cs := by
  intro n
  induction n with
  | zero => intro t τ h; cases h
  | succ n ih =>
    intro t τ hb fuel cs x hx
    unfold tyB at hb
    split at hb
    · rename_i k k' hu
      obtain rfl : k = k' := of_decide_eq_true hb
      obtain ⟨m, rfl, _, hwf⟩ := DataW.trod_int hu hx
      exact fun ρ S h hr => ⟨ρ, S, h, _, m, Got.refl hr, LR.one (.lit rfl), rfl, hwf⟩
    · rename_i hu
      obtain ⟨b, rfl, _⟩ := DataW.trod_bool hu hx
      exact fun ρ S h hr => ⟨ρ, S, h, _, b, Got.refl hr, LR.one (.lit rfl), rfl, trivial⟩
    · rename_i hu
      obtain ⟨s, rfl, _, hs⟩ := DataW.trod_string hu hx
      exact fun ρ S h hr => ⟨ρ, S, h, _, s, Got.refl hr, LR.one (.lit rfl), rfl, hs⟩
    · rename_i k k' hu
      obtain rfl : k = k' := of_decide_eq_true hb
      obtain ⟨m, rfl, hwf⟩ := trod_float hu hx
      exact fun ρ S h hr => ⟨ρ, S, h, _, m, Got.refl hr, LR.one (.lit rfl), rfl, hwf⟩
    · rename_i te e hu
      obtain ⟨hb, h3⟩ := band hb
      obtain ⟨h1, h2⟩ := band hb
      have hce := nbeq h1
      have hpos := nblt h2
      rcases DataW.trod_slice hu hx with ⟨rfl, _⟩ | ⟨a, len, cap, elems, rest, m, _, rfl, _, hba, hlc, hcap, hlen, hel, _⟩
      · exact fun ρ S h hr => ⟨ρ, S, h, [.slice none 0 0], [], Got.refl hr, LR.one (.lit rfl), ⟨_, rfl, .inl ⟨rfl, rfl⟩⟩, Nat.zero_le _, fun x hx => by cases hx⟩
      · by_cases h0 : len = 0
        · subst h0
          exact fun ρ S h hr => ⟨ρ, S, h, [.slice (some ⟨0, 0, none⟩) 0 2], [], Got.refl hr, LR.one (.slice 0 0 0 2 cap a (Nat.zero_le _) (fun h => by cases h) (fun _ => rfl) (fun h => absurd rfl h)), ⟨_, rfl, .inr ⟨0, 0, 2, rfl, .inl rfl⟩⟩, Nat.zero_le _, fun x hx => by cases hx⟩
        · have hcs : ∀ i, i < len → ∃ cs, (∀ j, j < e.size → w.cell? (a.add (i * e.size + j)) = some (cs.getD j undef)) ∧ cs.length = e.size ∧ Tells P w e cs := by
            intro i hi
            have := hel i hi
            rw [List.getElem?_eq_getElem (by omega)] at this
            rw [hce] at this
            cases hc : w.cells? base (a.add (i * e.size)) e.size with
            | none => rw [hc] at this; cases this
            | some cs =>
              rw [hc] at this
              obtain ⟨k1, k2⟩ := cells_some hc
              refine ⟨cs, fun j hj => ?_, k1, ih te e h3 m cs _ this⟩
              rw [← k2 j hj]
              congr 1
              obtain ⟨b, o, s⟩ := a
              unfold Addr.add
              by_cases hx1 : i * e.size = 0
              · simp [hx1]
              · by_cases hx2 : j = 0
                · subst hx2; simp [hx1]
                · simp [hx1, hx2, Nat.add_assoc]
          have hfirst : a.spot = none ∧ a.block < w.heap.size := by
            obtain ⟨cs, k1, _⟩ := hcs 0 (by omega)
            have := k1 0 hpos
            rw [Nat.zero_mul, Nat.zero_add] at this
            have h4 := cell_some this
            simpa [Addr.add] using h4
          intro ρ S h hr
          obtain ⟨ρ1, S1, h1', rs, xs, g1, l1, l2, c1, e1, w1⟩ := tells_elems (P := P) a len hcs ρ S h hr
          have hrow := Got.row (te := te) g1.hr (cs := rs) (a := a) hfirst.2 (fun i hi => by
            have := c1 i (by omega)
            rwa [Addr.add_spot hfirst.1] at this)
          have hsl : SlV (h1'.push (.row te rs false false)) [] e (.slice (some ⟨h1'.next, 0, none⟩) (List.length xs) 2) xs := (e1.nx (hrow.aft.nx g1.ok)).slv (by rw [Heap.get_push, if_pos rfl]) (by simp)
          refine ⟨_, _, _, [.slice (some ⟨h1'.next, 0, none⟩) (List.length xs) 2], xs, g1.trans hrow, ?_, ⟨_, rfl, hsl⟩, by omega, w1⟩
          rw [l2]
          refine LR.one (.slice h1'.next 0 len 2 cap a hlc (fun h => by cases h) (fun h5 => by have := g1.hr.pos; omega) fun _ => ⟨.inr rfl, ?_, fun h => by cases h⟩)
          simp only [if_true, Loc.at, Nat.add_zero]
          obtain ⟨b, o, s⟩ := a
          simp only at hfirst
          rw [hfirst.1]
    · rename_i fs a b hu
      obtain ⟨h1, h2⟩ := band hb
      obtain ⟨xs, m, _, _, hl, hsz, hall⟩ := DataW.trod_struct hu hx
      have hcl : cs.length = (Ty.pair a b).size := by rw [hl, nbeq h1]
      have := tells_fields ih fs.toList 0 (.pair a b) cs m h2 (by omega) (fun f hf => by
        obtain ⟨i, hi, rfl⟩ := List.getElem_of_mem hf
        have hi' : i < fs.size := by simpa using hi
        have := hall i fs[i] (by simp [hi'])
        rw [List.getElem?_eq_getElem (by omega)] at this
        exact ⟨_, by simpa using this⟩)
      simpa using this
    · cases hb

theorem okWide_agg {n : Nat} {r : Reach} {b0 : Nat} {t : TypeId} {τ : Ty} {v : Value} (hb : tyB P n t τ = true) (hval : Value.okWide P w r b0 t v) : isAggV v = τ.agg := by
  cases n with
  | zero => cases hb
  | succ n =>
    unfold tyB at hb
    unfold Value.okWide at hval
    split at hb
    · rename_i k k' hu
      rw [hu] at hval
      simp only [Cell.okWide, hu, Cell.ok] at hval
      cases v <;> simp_all [isAggV, Ty.agg]
    · rename_i hu
      rw [hu] at hval
      simp only [Cell.okWide, hu, Cell.ok] at hval
      cases v <;> simp_all [isAggV, Ty.agg]
    · rename_i hu
      rw [hu] at hval
      simp only [Cell.okWide, hu, Cell.ok] at hval
      cases v <;> simp_all [isAggV, Ty.agg]
    · rename_i k k' hu
      rw [hu] at hval
      simp only [Cell.okWide, hu, Cell.ok] at hval
      cases v <;> simp_all [isAggV, Ty.agg]
    · rename_i te e hu
      rw [hu] at hval
      simp only [Cell.okWide, hu, Cell.ok] at hval
      cases v <;> simp_all [isAggV, Ty.agg]
    · rename_i fs a b hu
      rw [hu] at hval
      obtain ⟨cs, rfl, _⟩ := hval
      rfl
    · cases hb
theorem tell_arg {ρ : Ren} {S : Nat → Prop} {h : Heap} (hr : HR P ρ S w.heap.size w h w) {n : Nat} {r : Reach} {b0 : Nat} {t : TypeId} {τ : Ty} {v : Value} {d : DataW H} {ps : List MemPlace} (hb : tyB P n t τ = true) (hval : Value.okWide P w r b0 t v) (hd : DataW.Trod enc P w base sp held t v d ps) :
    ∃ ρ' S' h' v' x, Got P w ρ S h ρ' S' h' ∧ VR ρ' S' v' v ∧ RepV h' [] τ v' x ∧ Wf τ x := by
  have hag := okWide_agg hb hval
  obtain ⟨fuel, hf⟩ := hd
  obtain ⟨ρ', S', h', cs', x, g, lr, rc, wf⟩ := tells n t τ hb fuel _ _ hf ρ S h hr
  cases hτ : τ.agg with
  | true =>
    rw [hτ] at hag
    cases v with
    | agg cs =>
      refine ⟨ρ', S', h', .agg cs'.toArray, x, g, VR.agg' (by simpa [Value.cells] using lr), ⟨hτ.symm, by simpa [Value.cells] using rc⟩, wf⟩
    | _ => cases hag
  | false =>
    rw [hτ] at hag
    rw [cells_one hag] at lr
    obtain ⟨u, rfl, hu⟩ := rc.one hτ
    have := lr.2 0 (by simp)
    exact ⟨ρ', S', h', u, x, g, by simpa using this, hu, wf⟩
theorem hr_empty (hw : 0 ≤ w.heap.size) : HR P (fun _ => ⟨0, 0, 0, 0⟩) (fun _ => False) w.heap.size w ⟨1, 1, []⟩ w where
  objs := fun i o h => by cases h
  inj := fun i j oi oj h => by cases h
  base := fun i o h => by cases h
  ro := fun i o h => by cases h
  ids := fun b hb => hb.elim
  pos := Nat.one_pos
  below := Below.refl _ _
  size := Nat.le_refl _

section
open Go.WideElems Go.ChangeShapes
theorem trodAll_below (hl : laidOutB P = true) {W W' : World} (hb : Below W.heap.size W W') : ∀ {ts : List TypeId} {vs : List Value} {ds : List (DataW H)} {ps : List MemPlace}, (ts.all fun t => P.readableRec t && decide (t < P.types.size)) = true →
    DataW.TrodAll enc P W 0 (fun _ => true) true ts vs ds ps → (∀ x ∈ ps, x.block < W.heap.size) → DataW.TrodAll enc P W' 0 (fun b => decide (b < W.heap.size)) true ts vs ds ps
  | [], [], [], _, _, h, _ => h
  | [], _ :: _, _, _, _, h, _ => h.elim
  | [], [], _ :: _, _, _, h, _ => h.elim
  | _ :: _, [], _, _, _, h, _ => h.elim
  | _ :: _, _ :: _, [], _, _, h, _ => h.elim
  | t :: ts, v :: vs, d :: ds, ps, ha, h, hp => by
    obtain ⟨p, q, h1, h2, rfl⟩ := h
    simp only [List.all_cons, Bool.and_eq_true, decide_eq_true_eq] at ha
    exact ⟨p, q, Go.RowKit.Below.trod hl ha.1.1 ha.1.2 h1 hb (fun x hx => hp x (List.mem_append_left _ hx)), trodAll_below hl hb (by simpa using ha.2) h2 (fun x hx => hp x (List.mem_append_right _ hx)), rfl⟩
theorem law_post {f : Func} {s : ChangeSpec} {tb : TypeId} (hl : laidOutB P = true) (hrd : (f.params.toList.all fun t => P.readableRec t && decide (t < P.types.size)) = true) (hres : f.resultTypes = #[tb]) (htb : P.underlying tb = some .bool) (hvars : s.vars = []) {W W' : World} {args : Array Value} {ds gs : List (DataW H)}
    {before : List MemPlace} (hW : DataW.Whole enc P f.params.toList s.vars false W args.toList ds gs before) (hr : (s.fn H (ds ++ gs)).results = [.lit (.bool true)]) (ha : (s.fn H (ds ++ gs)).args = ds) (hv : (s.fn H (ds ++ gs)).vars = []) (hb : Below W.heap.size W W') :
    s.post enc P f false true false false W args (.bool true) W' := by
  have hlt := hW.lt
  have hW' := hW
  obtain ⟨p, q, hA, hV, rfl, _, _⟩ := hW
  rw [hvars] at hV
  have hV' : gs = [] ∧ q = [] := trodVars_none hV
  obtain ⟨rfl, rfl⟩ := hV'
  refine ⟨ds, [], p ++ [], [], p, [], hW', ?_, ?_, ?_, hb.frame _, fun h => by cases h⟩
  · rw [hr, hres]
    exact trodAll_mk1 (Go.RowKit.shut_bool htb _)
  · rw [ha]
    exact trodAll_below hl hb hrd hA fun x hx => hlt x (List.mem_append_left _ hx)
  · rw [hvars, hv]
    exact rfl
end
theorem law_calls2 (hP : ProgOk P) {orc : FuncId → List Value → Heap → Option (Value × Heap)} {W : World} (horc : CallSound P W.heap.size W orc) {f : FuncId} (hen : Enters P f) {fn : Func} {n : Nat} {t0 t1 : TypeId} {τ0 τ1 : Ty} (hp : fn.params = #[t0, t1]) (hb0 : tyB P n t0 τ0 = true) (hb1 : tyB P n t1 τ1 = true)
    (hE : ∀ (h : Heap) (v0 v1 : Value) (x0 : τ0.den) (x1 : τ1.den), HOk h → RepV h [] τ0 v0 x0 → RepV h [] τ1 v1 x1 → Wf τ0 x0 → Wf τ1 x1 → EvF P orc f [v0, v1] h fun r h' => r = .bool true ∧ h' = h)
    {args : Array Value} {ds : List (DataW H)} {ps : List MemPlace} (hval : ∀ (j : Nat) t v, fn.params[j]? = some t → args[j]? = some v → Value.okWide P W .any base t v) (hA : DataW.TrodAll enc P W 0 sp held fn.params.toList args.toList ds ps) :
    Calls P f args W fun | .returned v', w' => v' = .bool true ∧ Below W.heap.size W w' | _, _ => False := by
  rw [hp] at hA hval
  obtain ⟨v0, vs0, d0, ds0, p0, q0, ha, rfl, rfl, k0, r0⟩ := Go.ChangeShapes.trodAll_cons hA
  obtain ⟨v1, vs1, d1, ds1, p1, q1, rfl, rfl, rfl, k1, r1⟩ := Go.ChangeShapes.trodAll_cons r0
  obtain ⟨rfl, rfl, rfl⟩ := Go.ChangeShapes.trodAll_nil r1
  obtain rfl : args = #[v0, v1] := by cases args; simp_all
  obtain ⟨ρ0, S0, h0, u0, x0, g0, c0, e0, w0⟩ := tell_arg (hr_empty (P := P) (w := W) (Nat.zero_le _)) hb0 (hval 0 t0 v0 rfl rfl) k0
  obtain ⟨ρ1, S1, h1, u1, x1, g1, c1, e1, w1⟩ := tell_arg g0.hr hb1 (hval 1 t1 v1 rfl rfl) k1
  have hR := hE h1 u0 u1 x0 x1 g1.ok (e0.nx (g1.aft.nx g0.ok)) e1 w0 w1
  exact fs_open (args' := [v0, v1]) hP horc hen g1.hr (LR.cons (c0.mono g1.agree) (LR.one c1)) (EvF.mono hR fun v h' h => h.1) rfl
end Go.Fs
namespace Go.Proofs.YtligdjefbiebjaaGreatDoor
open Go.ChangeShapes Go.WideShapes Go.ChangeAt Go.RowKit Go.Fs

theorem own : ownKnob Tryz.prog.godebug = none := by kernel_rfl
theorem laidOut : laidOutB Tryz.prog = true := by kernel_rfl
theorem gPow : ∃ g : Nat, Tryz.prog.globalNamed "internal/strconv.uint64pow10" = some g ∧ (Tryz.prog.globals[g]?).map (·.type) = some 275 := ⟨1, by kernel_rfl, by kernel_rfl⟩
theorem powTab {W : World} {a b : String × DataW Unit} (h : laidMet Tryz.prog [a, b, ("internal/strconv.uint64pow10", Rows.laid_internal_strconv_uint64pow10)] W) : Lib.TabIs Tryz.prog W "internal/strconv.uint64pow10" .u64 Lib.pow10Tab := by
  obtain ⟨g, h1, h2⟩ := gPow
  exact Lib.tabIs_of_head (rest := []) h1 h2 Tryz.underlying275 Tryz.underlying246 (by kernel_rfl) (by kernel_rfl) (laidMet.tail (laidMet.tail h))
theorem tzSort : Fs.Enters Tryz.prog 178 := ⟨_, Tryz.func178, rfl, by kernel_rfl⟩
/-- The oracle is sound wherever the table of powers lies. -/
theorem orcOk {W : World} (ht : Lib.TabIs Tryz.prog W "internal/strconv.uint64pow10" .u64 Lib.pow10Tab) : CallSound Tryz.prog W.heap.size W OA := by
  have hS : ∀ w, Below W.heap.size W w → CallSound Tryz.prog w.heap.size w OB := fun w hw =>
    tzOrcB (Nat.le_refl _) fun w' hw' => (Lib.tabBelow_of_tabIs ht) w' (hw.trans (hw'.mono hw.size))
  refine orcT_sound ?_ tzSort (fun w hw => fsX_closed tzOk (hS w hw) (m := 300) (args := [.slice none 0 0]) rfl (by kernel_rfl) rfl) fun blk off cap ss w hH hblk hsz => Tryz.slices_Sort_string blk off cap ss w hH hblk hsz
  exact orcA_sound (tzOrc (Nat.le_refl _) fun w' hw' => (Lib.tabBelow_of_tabIs ht) w' hw') tzAwakeE fun w hw => awakeX_calls tzOk (fun w' hw' => hS w' hw') tzRun w hw

noncomputable def doorWorld (os : Os) : World := World.doorLaid Tryz.prog 24 os
end Go.Proofs.YtligdjefbiebjaaGreatDoor
