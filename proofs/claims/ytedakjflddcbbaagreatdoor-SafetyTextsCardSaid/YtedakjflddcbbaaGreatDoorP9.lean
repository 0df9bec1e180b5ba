/- From a law's run on the evaluator to its row: the arguments' data, whatever they are. No condition. -/
import Derived.Test.YtedakjflddcbbaaGreatDoorP3
import Derived.ChangeArms
import Derived.Carry
import Derived.RowKit
import Derived.OpenShut
import Derived.Test.YtedakjflddcbbaaGreatDoorCards
import Derived.Test.YtedakjflddcbbaaGreatDoorTie
import Derived.Test.YtedakjflddcbbaaGreatDoorP8
import Derived.Test.YtedakjflddcbbaaGreatDoorP5
import Derived.WalkKit
import Derived.ProofKit
import Derived.LaidMore
import Derived.Deep.DeepHandedRow
import Derived.Lib.LaidTab
import Derived.Stop.LaidErr
import Derived.Lib.LaidIn
set_option linter.all false
namespace Go.Fs
open Go.RowKit (Below)
variable {P : Program} {H : Type} {enc : TypeId × Value -> H} {w : World} {base : Nat} {sp : Nat -> Bool} {held : Bool}
def fsB (P : Program) (ty : TypeId -> Ty -> Bool) : List Field -> Nat -> Ty -> Bool
  | [f], off, .pair a .unit => Nat.beq f.offset off && Nat.beq (P.cellsOf f.type) a.size && ty f.type a
  | [f], off, τ => Nat.beq f.offset off && Nat.beq (P.cellsOf f.type) τ.size && ty f.type τ
  | f :: fs, off, .pair a b => Nat.beq f.offset off && Nat.beq (P.cellsOf f.type) a.size && ty f.type a && fsB P ty fs (off + a.size) b
  | _, _, _ => false
def aiJ (P : Program) (m : Nat) (e : TypeId) : List Field := (List.range m).map fun i => { name := "", type := e, offset := i * P.cellsOf e, embedded := false, tag := "", pkgPath := "", byteOffset := 0 }
def yU (P : Program) : Nat -> TypeId -> Ty -> Bool
  | 0, _, _ => false
  | n + 1, t, τ =>
    match P.underlying t, τ with
    | some (.int k), .int k' => decide (k = k')
    | some .bool, .bool => true
    | some .string, .str => true
    | some (.float k), .rV k' => decide (k = k')
    | some (.slice te), .sl e => Nat.beq (P.cellsOf te) e.size && Nat.blt 0 e.size && yU P n te e
    | some (.struct fs), .pair a b => Nat.beq (P.cellsOf t) (Ty.pair a b).size && fsB P (yU P n) fs.toList 0 (.pair a b)
    | some (.array m e), .pair a b => Nat.beq (P.cellsOf t) (Ty.pair a b).size && fsB P (yU P n) (aiJ P m e) 0 (.pair a b)
    | _, _ => false
def Wf : (τ : Ty) -> τ.den -> Prop
  | .int k, n => (Lit.int k n).wf = true
  | .bool, _ => True
  | .str, s => s.size <= maxLen
  | .rV k, n => (Lit.float k n).wf = true
  | .sl e, xs => List.length xs <= maxLen /\ ∀ x ∈ (xs : List e.den), Wf e x
  | .pair a b, x => Wf a x.1 /\ Wf b x.2
  | .unit, _ => True
  | .mp _ _, _ => True
  | .fn, _ => True
  | .kP, _ => True
structure uN (P : Program) (w : World) (ρ : Ren) (S : Nat -> Prop) (h : Heap) (bN : Ren) (S' : Nat -> Prop) (h' : Heap) : Prop where
  hr : HR P bN S' w.heap.size (wz w) h' w
  agree : ∀ b, S b -> S' b /\ bN b = ρ b
  gC : eU h h'
theorem uN.refl {ρ : Ren} {S : Nat -> Prop} {h : Heap} (hr : HR P ρ S w.heap.size (wz w) h w) : uN P w ρ S h ρ S h := ⟨hr, fun _ hb => ⟨hb, rfl⟩, eU.refl h⟩
theorem uN.trans {ρ cQ j8 : Ren} {S S1 S2 : Nat -> Prop} {h h1 h2 : Heap} (a : uN P w ρ S h cQ S1 h1) (b : uN P w cQ S1 h1 j8 S2 h2) : uN P w ρ S h j8 S2 h2 :=
  ⟨b.hr, fun i hi => let ⟨h3, h4⟩ := a.agree i hi; let ⟨h5, h6⟩ := b.agree i h3; ⟨h5, h6.trans h4⟩, a.gC.trans b.gC⟩
theorem uN.ok {ρ cQ : Ren} {S S1 : Nat -> Prop} {h h1 : Heap} (a : uN P w ρ S h cQ S1 h1) : mU h1 := fun b o hg => (a.hr.ids b (a.hr.aA b o hg).1).1
theorem ajW {ρ : Ren} {S : Nat -> Prop} {h : Heap} (hr : HR P ρ S w.heap.size (wz w) h w) : mU h := fun b o hg => (hr.ids b (hr.aA b o hg).1).1
theorem uN.row {ρ : Ren} {S : Nat -> Prop} {h : Heap} (hr : HR P ρ S w.heap.size (wz w) h w) {te : TypeId} {cs : List Value} {a : Addr} (ha : a.block < w.heap.size) (hc : ∀ i, i < cs.length -> ∃ v, w.cell? ⟨a.block, a.off + i, none⟩ = some v /\ VR ρ S (cs.getD i undef) v) :
    uN P w ρ S h (fun b => if b = h.next then (.clean a.block a.off 0 (P.cellsOf te)) else ρ b) (fun b => S b \/ b = h.next) (h.push (.row te cs false false)) := by
  have fC : ∀ b, S b -> (S b \/ b = h.next) /\ (fun b => if b = h.next then (Loc.clean a.block a.off 0 (P.cellsOf te)) else ρ b) b = ρ b := fun b hb => by
    have := (hr.ids b hb).1; exact ⟨.inl hb, by simp only; rw [if_neg (by omega)]⟩
  have hold : ∀ i o, (h.push (.row te cs false false)).get i = some o -> (i = h.next /\ o = .row te cs false false) \/ (i ≠ h.next /\ h.get i = some o) := fun i o hg => by
    rw [Heap.bE] at hg; by_cases hi : i = h.next
    . rw [if_pos hi] at hg; exact .inl ⟨hi, (Option.some.inj hg).symm⟩
    rw [if_neg hi] at hg; exact .inr ⟨hi, hg⟩
  refine ⟨⟨fun i o hg => ?_, fun i j oi oj hi hj oi1 oj1 he => ?_, fun i o hg ho => ?_, fun i o hg ho => ?_, fun b hb => ?_, Nat.succ_pos _, I8 (Below.refl _ _), Nat.zero_le _, Nat.le_refl _⟩, fC, eU.push h _⟩
  . rcases hold i o hg with ⟨rfl, rfl⟩ | ⟨hi, iN⟩
    . refine ⟨.inr rfl, ?_⟩; simp only [if_true]; refine ⟨rfl, fun i hi => ?_, fun hx => by cases hx⟩; obtain ⟨v, h1, h2⟩ := hc i hi; exact ⟨v, h1, h2.mono fC⟩
    obtain ⟨h1, h2⟩ := hr.aA i o iN; refine ⟨.inl h1, ?_⟩; simp only [if_neg hi]; exact h2.mono fC
  . rcases hold i oi hi with ⟨rfl, rfl⟩ | ⟨qU, hgi⟩
    . cases oi1
    rcases hold j oj hj with ⟨rfl, rfl⟩ | ⟨OE, hgj⟩
    . cases oj1
    simp only [if_neg qU, if_neg OE] at he; exact hr.inj i j oi oj hgi hgj oi1 oj1 he
  . rcases hold i o hg with ⟨rfl, rfl⟩ | ⟨hi, iN⟩
    . cases ho
    simp only [if_neg hi]; exact hr.base i o iN ho
  . rcases hold i o hg with ⟨rfl, rfl⟩ | ⟨hi, iN⟩
    . simp only [if_true]; exact ha
    simp only [if_neg hi]; exact hr.ro i o iN ho
  have hn : (h.push (.row te cs false false)).next = h.next + 1 := rfl; rw [hn]; rcases hb with hb | rfl
  . have := hr.ids b hb; exact ⟨by omega, this.2⟩
  have := hr.pos; exact ⟨by omega, by omega⟩
theorem UK {fuel : Nat} {t : TypeId} {cs : List Value} {x : DataW H × List MemPlace} {k : FloatKind} (ht : P.underlying t = some (.float k)) (h : DataW.trod enc P w base sp held fuel t cs = some x) : ∃ n, cs = [.float k n] /\ (Lit.float k n).wf = true := by
  cases fuel with
  | zero => simp [DataW.trod] at h
  | succ n =>
    unfold DataW.trod at h; rw [ht] at h; split at h <;> simp_all
theorem NX {α β : Type} (f : α -> Option β) : ∀ (l : List α) (r : List β), l.mapM f = some r -> l.length = r.length /\ ∀ i (hi : i < l.length) (hr : i < r.length), f l[i] = some r[i]
  | [], r, h => by
    simp only [List.mapM_nil] at h; obtain rfl := Option.some.inj h
    exact ⟨rfl, fun i hi => absurd hi (by simp)⟩
  | a :: l, r, h => by
    rw [List.mapM_cons] at h
    cases hf : f a with
    | none => rw [hf] at h; cases h
    | some b =>
      rw [hf] at h
      cases hl : l.mapM f with
      | none => rw [hl] at h; cases h
      | some bs =>
        rw [hl] at h; obtain rfl := Option.some.inj h; obtain ⟨h1, h2⟩ := NX f l bs hl; refine ⟨by simp [h1], fun i hi hr => ?_⟩
        cases i with
        | zero => exact hf
        | succ i => exact h2 i (by simpa using hi) (by simpa using hr)
theorem UL {a : Addr} {n : Nat} {cs : List Value} (h : w.cells? base a n = some cs) : cs.length = n /\ ∀ i, i < n -> w.cell? (a.add i) = some (cs.getD i undef) := by
  unfold World.cells? at h; split at h
  . obtain ⟨h1, h2⟩ := NX _ _ _ h; rw [List.length_range] at h1; refine ⟨h1.symm, fun i hi => ?_⟩; have := h2 i (by simpa using hi) (by omega); rw [List.getElem_range] at this; rw [this]; simp [List.getD, show i < cs.length by omega]
  cases h
theorem Y2 {a : Addr} {v : Value} (h : w.cell? a = some v) : a.spot = none /\ a.block < w.heap.size := by
  unfold World.cell? at h; split at h
  . rename_i c _ _ hb; refine ⟨?_, (Array.getElem?_eq_some_iff.1 hb).1⟩
    cases hs : a.spot with
    | none => rfl
    | some s => rw [hs] at h; cases h
  cases h
def FP (P : Program) (w : World) (τ : Ty) (cs : List Value) : Prop := ∀ (ρ : Ren) (S : Nat -> Prop) (h : Heap), HR P ρ S w.heap.size (wz w) h w ->
  ∃ bN S' h' cs' x, uN P w ρ S h bN S' h' /\ LR bN S' cs' cs /\ cR h' [] τ cs' x /\ Wf τ x
theorem LR.one {ρ : Ren} {S : Nat -> Prop} {v v' : Value} (h : VR ρ S v v') : LR ρ S [v] [v'] := LR.cons h LR.nil
theorem QU {e : Ty} (a : Addr) (len : Nat) (iJ : ∀ i, i < len -> ∃ cs, (∀ j, j < e.size -> w.cell? (a.add (i * e.size + j)) = some (cs.getD j undef)) /\ cs.length = e.size /\ FP P w e cs) :
    ∀ (ρ : Ren) (S : Nat -> Prop) (h : Heap), HR P ρ S w.heap.size (wz w) h w -> ∃ bN S' h' rs xs, uN P w ρ S h bN S' h' /\ rs.length = len * e.size /\ List.length xs = len /\ (∀ i, i < len * e.size -> ∃ v, w.cell? (a.add i) = some v /\ VR bN S' (rs.getD i undef) v) /\
      cV h' [] e rs xs /\ ∀ x ∈ (xs : List e.den), Wf e x := by
  induction len with
  | zero =>
    intro ρ S h hr
    exact ⟨ρ, S, h, [], [], uN.refl hr, by simp, rfl, fun i hi => by omega, cV.nil, fun x hx => by cases hx⟩
  | succ n ih =>
    intro ρ S h hr; obtain ⟨cQ, S1, h1, rs, xs, g1, l1, l2, c1, e1, w1⟩ := ih (fun i hi => iJ i (by omega)) ρ S h hr; obtain ⟨cs, k1, k2, k3⟩ := iJ n (by omega); obtain ⟨j8, S2, h2, cs', x, g2, lr, rc, wf⟩ := k3 cQ S1 h1 g1.hr; have hN : cH h1 [] h2 [] := g2.gC.nx g1.ok; have hl : cs'.length = e.size := rc.len
    have wG : cV h2 [] e cs' [x] := by
      refine ⟨by simpa using hl, fun i hi => ?_⟩
      obtain rfl : i = 0 := by simpa using hi
      simp only [Nat.zero_mul, List.drop_zero, List.getElem_cons_zero]; rw [List.take_of_length_le (by omega)]; exact rc
    refine ⟨j8, S2, h2, rs ++ cs', xs ++ [x], g1.trans g2, by rw [List.length_append, l1, hl, Nat.add_mul]; omega, by simp [l2], fun i hi => ?_, (e1.nx hN).append wG, fun y hy => ?_⟩
    . rw [Nat.add_mul, Nat.one_mul] at hi; by_cases uD : i < n * e.size
      . obtain ⟨v, B2, xA⟩ := c1 i uD; refine ⟨v, B2, ?_⟩; rw [List.getD_eq_getElem?_getD, List.getElem?_append_left (by omega), <- List.getD_eq_getElem?_getD]; exact xA.mono g2.agree
      have hj : i - n * e.size < e.size := by omega
      refine ⟨cs.getD (i - n * e.size) undef, ?_, ?_⟩
      . have := k1 (i - n * e.size) hj
        rwa [show n * e.size + (i - n * e.size) = i by omega] at this
      rw [List.getD_eq_getElem?_getD, List.getElem?_append_right (by omega), l1, <- List.getD_eq_getElem?_getD]; exact lr.getD _
    rcases List.mem_append.1 hy with hy | hy
    . exact w1 y hy
    obtain rfl := List.mem_singleton.1 hy; exact wf
theorem Addr.acG {a : Addr} (h : a.spot = none) (n : Nat) : a.add n = ⟨a.block, a.off + n, none⟩ := by
  obtain ⟨b, o, s⟩ := a; simp only at h; subst h; unfold Addr.add; by_cases hn : n = 0
  . subst hn; simp
  simp [hn]
theorem AN {n : Nat} (ih : ∀ (t : TypeId) (τ : Ty), yU P n t τ = true -> ∀ (fuel : Nat) (cs : List Value) (x : DataW H × List MemPlace), DataW.trod enc P w base sp held fuel t cs = some x -> FP P w τ cs) :
    ∀ (fs : List Field) (off : Nat) (τ : Ty) (cs : List Value) (m : Nat), fsB P (yU P n) fs off τ = true -> cs.length = off + τ.size -> (∀ f ∈ fs, ∃ x, DataW.trod enc P w base sp held m f.type ((cs.drop f.offset).take (P.cellsOf f.type)) = some x) -> FP P w τ (cs.drop off) := by
  have one : ∀ (f : Field) (off : Nat) (τ : Ty) (cs : List Value) (m : Nat), f.offset = off -> P.cellsOf f.type = τ.size -> yU P n f.type τ = true -> off + τ.size <= cs.length -> (∃ x, DataW.trod enc P w base sp held m f.type ((cs.drop f.offset).take (P.cellsOf f.type)) = some x) -> FP P w τ ((cs.drop off).take τ.size) := by
    intro f off τ cs m h1 h2 h3 h4 ⟨x, hx⟩; rw [h1, h2] at hx; exact ih f.type τ h3 m _ x hx
  intro fs
  induction fs with
  | nil => intro off τ cs m hb; cases hb
  | cons f fs ihf =>
    intro off τ cs m hb hl fU; have hf := fU f List.mem_cons_self
    cases fs with
    | nil =>
      by_cases hs : ∃ a, τ = .pair a .unit
      . obtain ⟨a, rfl⟩ := hs; have w6 : (Nat.beq f.offset off && Nat.beq (P.cellsOf f.type) a.size && yU P n f.type a) = true := hb; obtain ⟨w6, h3⟩ := aY w6; obtain ⟨h1, h2⟩ := aY w6
        have hs : (Ty.pair a .unit).size = a.size := by simp [Ty.size]
        rw [hs] at hl; have := one f off a cs m (bI h1) (bI h2) h3 (by omega) hf; intro ρ S h hr; obtain ⟨bN, S', h', cs', x, g, lr, rc, wf⟩ := this ρ S h hr; have e1 : (cs.drop off).take a.size = cs.drop off := List.take_of_length_le (by rw [List.length_drop]; omega); rw [e1] at lr; have rQ := rc.len; exact ⟨bN, S', h', cs', (x, ()), g, lr, ⟨by rw [List.take_of_length_le (by omega)]; exact rc, by rw [List.drop_eq_nil_of_le (by omega)]; rfl⟩, wf, trivial⟩
      have w6 : (Nat.beq f.offset off && Nat.beq (P.cellsOf f.type) τ.size && yU P n f.type τ) = true := by
        cases τ with
        | pair a b =>
          cases b with
          | unit => exact absurd ⟨a, rfl⟩ hs
          | _ => exact hb
        | _ => exact hb
      obtain ⟨w6, h3⟩ := aY w6; obtain ⟨h1, h2⟩ := aY w6; have := one f off τ cs m (bI h1) (bI h2) h3 (by omega) hf; have e1 : (cs.drop off).take τ.size = cs.drop off := List.take_of_length_le (by rw [List.length_drop]; omega)
      rwa [e1] at this
    | cons g fs =>
      cases τ with
      | pair a b =>
        have w6 : (Nat.beq f.offset off && Nat.beq (P.cellsOf f.type) a.size && yU P n f.type a && fsB P (yU P n) (g :: fs) (off + a.size) b) = true := hb; obtain ⟨w6, h4⟩ := aY w6; obtain ⟨w6, h3⟩ := aY w6; obtain ⟨h1, h2⟩ := aY w6; have hs : (Ty.pair a b).size = a.size + b.size := rfl; rw [hs] at hl; have ha := one f off a cs m (bI h1) (bI h2) h3 (by omega) hf; have VS := ihf (off + a.size) b cs m h4 (by omega) (fun g hg => fU g (List.mem_cons_of_mem _ hg)); intro ρ S h hr; obtain ⟨cQ, S1, rD, cs1, x1, g1, lr1, rc1, wf1⟩ := ha ρ S h hr; obtain ⟨j8, S2, CA, cs2, x2, g2, lr2, rc2, wf2⟩ := VS cQ S1 rD g1.hr; have hN : cH rD [] CA [] := g2.gC.nx g1.ok; have uS := rc1.len; refine ⟨j8, S2, CA, cs1 ++ cs2, (x1, x2), g1.trans g2, ?_, ⟨?_, ?_⟩, wf1, wf2⟩
        . have := (lr1.mono g2.agree).append lr2
          rwa [show (cs.drop off).take a.size ++ cs.drop (off + a.size) = cs.drop off from by rw [<- List.drop_drop, List.take_append_drop]] at this
        . rw [List.take_left' uS]; exact rc1.nx hN
        rw [List.drop_left' uS]; exact rc2
      | _ => cases hb
theorem anG : ∀ (n : Nat) (t : TypeId) (τ : Ty), yU P n t τ = true -> ∀ (fuel : Nat) (cs : List Value) (x : DataW H × List MemPlace), DataW.trod enc P w base sp held fuel t cs = some x -> FP P w τ cs := by
  intro n
  induction n with
  | zero => intro t τ h; cases h
  | succ n ih =>
    intro t τ hb fuel cs x hx; unfold yU at hb; split at hb
    . rename_i k k' hu; obtain rfl : k = k' := of_decide_eq_true hb; obtain ⟨m, rfl, _, hwf⟩ := DataW.trod_int hu hx; exact fun ρ S h hr => ⟨ρ, S, h, _, m, uN.refl hr, LR.one (.lit rfl), rfl, hwf⟩
    . rename_i hu; obtain ⟨b, rfl, _⟩ := DataW.trod_bool hu hx; exact fun ρ S h hr => ⟨ρ, S, h, _, b, uN.refl hr, LR.one (.lit rfl), rfl, trivial⟩
    . rename_i hu; obtain ⟨s, rfl, _, hs⟩ := DataW.trod_string hu hx; exact fun ρ S h hr => ⟨ρ, S, h, _, s, uN.refl hr, LR.one (.lit rfl), rfl, hs⟩
    . rename_i k k' hu; obtain rfl : k = k' := of_decide_eq_true hb; obtain ⟨m, rfl, hwf⟩ := UK hu hx; exact fun ρ S h hr => ⟨ρ, S, h, _, m, uN.refl hr, LR.one (.lit rfl), rfl, hwf⟩
    . rename_i te e hu; obtain ⟨hb, h3⟩ := aY hb; obtain ⟨h1, h2⟩ := aY hb; have hce := bI h1; have wX := jB h2; rcases DataW.trod_slice hu hx with ⟨rfl, _⟩ | ⟨a, len, cap, elems, rest, m, _, rfl, _, hba, hlc, lG, hlen, wG, _⟩
      . exact fun ρ S h hr => ⟨ρ, S, h, [.slice none 0 0], [], uN.refl hr, LR.one (.lit rfl), ⟨_, rfl, .inl ⟨rfl, rfl⟩⟩, Nat.zero_le _, fun x hx => by cases hx⟩
      by_cases h0 : len = 0
      . subst h0; exact fun ρ S h hr => ⟨ρ, S, h, [.slice (some ⟨0, 0, none⟩) 0 2], [], uN.refl hr, LR.one (.slice 0 0 0 2 cap a (Nat.zero_le _) (fun h => by cases h) (fun _ => rfl) (fun h => absurd rfl h)), ⟨_, rfl, .inr ⟨0, 0, 2, rfl, .inl rfl⟩⟩, Nat.zero_le _, fun x hx => by cases hx⟩
      have iJ : ∀ i, i < len -> ∃ cs, (∀ j, j < e.size -> w.cell? (a.add (i * e.size + j)) = some (cs.getD j undef)) /\ cs.length = e.size /\ FP P w e cs := by
        intro i hi; have := wG i hi; rw [List.getElem?_eq_getElem (by omega)] at this; rw [hce] at this
        cases hc : w.cells? base (a.add (i * e.size)) e.size with
        | none => rw [hc] at this; cases this
        | some cs =>
          rw [hc] at this; obtain ⟨k1, k2⟩ := UL hc; refine ⟨cs, fun j hj => ?_, k1, ih te e h3 m cs _ this⟩; rw [<- k2 j hj]; congr 1; obtain ⟨b, o, s⟩ := a; unfold Addr.add; by_cases P5 : i * e.size = 0
          . simp [P5]
          by_cases RE : j = 0
          . subst RE; simp [P5]
          simp [P5, RE, Nat.add_assoc]
      have vY : a.spot = none /\ a.block < w.heap.size := by
        obtain ⟨cs, k1, _⟩ := iJ 0 (by omega); have := k1 0 wX; rw [Nat.zero_mul, Nat.zero_add] at this; have h4 := Y2 this; simpa [Addr.add] using h4
      intro ρ S h hr; obtain ⟨cQ, S1, rD, rs, xs, g1, l1, l2, c1, e1, w1⟩ := QU (P := P) a len iJ ρ S h hr
      have n8 := uN.row (te := te) g1.hr (cs := rs) (a := a) vY.2 (fun i hi => by
        have := c1 i (by omega)
        rwa [Addr.acG vY.1] at this)
      have zX : lW (rD.push (.row te rs false false)) [] e (.slice (some ⟨rD.next, 0, none⟩) (List.length xs) 2) xs := (e1.nx (n8.gC.nx g1.ok)).slv (by rw [Heap.bE, if_pos rfl]) (by simp); refine ⟨_, _, _, [.slice (some ⟨rD.next, 0, none⟩) (List.length xs) 2], xs, g1.trans n8, ?_, ⟨_, rfl, zX⟩, by omega, w1⟩; rw [l2]; refine LR.one (.slice rD.next 0 len 2 cap a hlc (fun h => by cases h) (fun h5 => by have := g1.hr.pos; omega) fun _ => ⟨.inr rfl, ?_, fun h => by cases h⟩); simp only [if_true, Loc.at, Nat.add_zero]; obtain ⟨b, o, s⟩ := a; simp only at vY; rw [vY.1]
    . rename_i fs a b hu; obtain ⟨h1, h2⟩ := aY hb; obtain ⟨xs, m, _, _, hl, cX, fU⟩ := DataW.trod_struct hu hx
      have rQ : cs.length = (Ty.pair a b).size := by rw [hl, bI h1]
      have := AN ih fs.toList 0 (.pair a b) cs m h2 (by omega) (fun f hf => by
        obtain ⟨i, hi, rfl⟩ := List.getElem_of_mem hf
        have qU : i < fs.size := by simpa using hi
        have := fU i fs[i] (by simp [qU]); rw [List.getElem?_eq_getElem (by omega)] at this
        exact ⟨_, by simpa using this⟩)
      simpa using this
    . rename_i m e a b hu; obtain ⟨h1, h2⟩ := aY hb; obtain ⟨xs, m', _, _, hl, cX, fU⟩ := DataW.trod_array hu hx
      have rQ : cs.length = (Ty.pair a b).size := by rw [hl, bI h1]
      have := AN ih (aiJ P m e) 0 (.pair a b) cs m' h2 (by omega) (fun f hf => by
        obtain ⟨i, hi, rfl⟩ := List.mem_map.1 hf; have qU : i < m := List.mem_range.1 hi; have := fU i qU; rw [List.getElem?_eq_getElem (by omega)] at this
        exact ⟨_, this⟩)
      simpa using this
    cases hb
theorem UM {n : Nat} {r : Reach} {b0 : Nat} {t : TypeId} {τ : Ty} {v : Value} (hb : yU P n t τ = true) (jU : Value.okWide P w r b0 t v) : gO v = τ.agg := by
  cases n with
  | zero => cases hb
  | succ n =>
    unfold yU at hb; unfold Value.okWide at jU; split at hb
    . rename_i k k' hu; rw [hu] at jU; simp only [Cell.okWide, hu, Cell.ok] at jU; cases v <;> simp_all [gO, Ty.agg]
    . rename_i hu; rw [hu] at jU; simp only [Cell.okWide, hu, Cell.ok] at jU; cases v <;> simp_all [gO, Ty.agg]
    . rename_i hu; rw [hu] at jU; simp only [Cell.okWide, hu, Cell.ok] at jU; cases v <;> simp_all [gO, Ty.agg]
    . rename_i k k' hu; rw [hu] at jU; simp only [Cell.okWide, hu, Cell.ok] at jU; cases v <;> simp_all [gO, Ty.agg]
    . rename_i te e hu; rw [hu] at jU; simp only [Cell.okWide, hu, Cell.ok] at jU; cases v <;> simp_all [gO, Ty.agg]
    . rename_i fs a b hu; rw [hu] at jU; obtain ⟨cs, rfl, _⟩ := jU; rfl
    . rename_i m e a b hu; rw [hu] at jU; obtain ⟨cs, rfl, _⟩ := jU; rfl
    cases hb
theorem NY {ρ : Ren} {S : Nat -> Prop} {h : Heap} (hr : HR P ρ S w.heap.size (wz w) h w) {n : Nat} {r : Reach} {b0 : Nat} {t : TypeId} {τ : Ty} {v : Value} {d : DataW H} {ps : List MemPlace} (hb : yU P n t τ = true) (jU : Value.okWide P w r b0 t v) (hd : DataW.Trod enc P w base sp held t v d ps) :
    ∃ bN S' h' v' x, uN P w ρ S h bN S' h' /\ VR bN S' v' v /\ aF h' [] τ v' x /\ Wf τ x := by
  have fC := UM hb jU; obtain ⟨fuel, hf⟩ := hd; obtain ⟨bN, S', h', cs', x, g, lr, rc, wf⟩ := anG n t τ hb fuel _ _ hf ρ S h hr
  cases HJ : τ.agg with
  | true =>
    rw [HJ] at fC
    cases v with
    | agg cs =>
      refine ⟨bN, S', h', .agg cs'.toArray, x, g, VR.R1 (by simpa [Value.cells] using lr), ⟨HJ.symm, by simpa [Value.cells] using rc⟩, wf⟩
    | _ => cases fC
  | false =>
    rw [HJ] at fC; rw [eJ fC] at lr; obtain ⟨u, rfl, hu⟩ := rc.one HJ; have := lr.2 0 (by simp); exact ⟨bN, S', h', u, x, g, by simpa using this, hu, wf⟩
theorem acH (hw : 0 <= w.heap.size) : HR P (fun _ => Loc.clean 0 0 0 0) (fun _ => False) w.heap.size (wz w) ⟨1, 1, []⟩ w where
  aA := fun i o h => by cases h
  inj := fun i j oi oj h => by cases h
  base := fun i o h => by cases h
  ro := fun i o h => by cases h
  ids := fun b hb => hb.elim
  pos := Nat.one_pos
  below := I8 (Below.refl _ _)
  drawn := Nat.zero_le _
  size := Nat.le_refl _
section
open Go.WideElems Go.ChangeShapes
theorem yV (hl : laidOutB P = true) {W W' : World} (hb : Below W.heap.size W W') : ∀ {ts : List TypeId} {vs : List Value} {ds : List (DataW H)} {ps : List MemPlace}, (ts.all fun t => P.readableRec t && decide (t < P.types.size)) = true ->
    DataW.TrodAll enc P W 0 (fun _ => true) true ts vs ds ps -> (∀ x ∈ ps, x.block < W.heap.size) -> DataW.TrodAll enc P W' 0 (fun b => decide (b < W.heap.size)) true ts vs ds ps
  | [], [], [], _, _, h, _ => h
  | [], _ :: _, _, _, _, h, _ => h.elim
  | [], [], _ :: _, _, _, h, _ => h.elim
  | _ :: _, [], _, _, _, h, _ => h.elim
  | _ :: _, _ :: _, [], _, _, h, _ => h.elim
  | t :: ts, v :: vs, d :: ds, ps, ha, h, hp => by
    obtain ⟨p, q, h1, h2, rfl⟩ := h; simp only [List.all_cons, Bool.and_eq_true, decide_eq_true_eq] at ha; exact ⟨p, q, Go.RowKit.Below.trod hl ha.1.1 ha.1.2 h1 hb (fun x hx => hp x (List.mem_append_left _ hx)), yV hl hb (by simpa using ha.2) h2 (fun x hx => hp x (List.mem_append_right _ hx)), rfl⟩
theorem aaT {f : Func} {s : ChangeSpec} {tb : TypeId} (hl : laidOutB P = true) (pN : (f.params.toList.all fun t => P.readableRec t && decide (t < P.types.size)) = true) (FW : f.resultTypes = #[tb]) (htb : P.underlying tb = some .bool) (aiK : s.vars = []) {W W' : World} {args : Array Value} {ds gs : List (DataW H)}
    {before : List MemPlace} (hW : DataW.Whole enc P f.params.toList s.vars false W args.toList ds gs before) (hr : (s.fn H (ds ++ gs)).results = [.lit (.bool true)]) (ha : (s.fn H (ds ++ gs)).args = ds) (hv : (s.fn H (ds ++ gs)).vars = []) (hb : Below W.heap.size W W') :
    s.post enc P f false true false false W args (.bool true) W' := by
  have b7 := hW.lt; have hW' := hW; obtain ⟨p, q, hA, hV, rfl, _, _⟩ := hW; rw [aiK] at hV; have hV' : gs = [] /\ q = [] := trodVars_none hV; obtain ⟨rfl, rfl⟩ := hV'; refine ⟨ds, [], p ++ [], [], p, [], hW', ?_, ?_, ?_, hb.frame _, fun h => by cases h⟩
  . rw [hr, FW]; exact trodAll_mk1 (Go.RowKit.shut_bool htb _)
  . rw [ha]; exact yV hl hb pN hA fun x hx => b7 x (List.mem_append_left _ hx)
  rw [aiK, hv]; exact rfl
end
theorem RO (hP : kK P) {orc : FuncId -> List Value -> Heap -> Option (Value × Heap)} {W : World} (kG : bX P W.heap.size (wz W) orc) {ρz : Ren} {Sz : Nat -> Prop} {hz : Heap} (hrz : HR P ρz Sz W.heap.size (wz W) hz W) (hGz : GT hz []) {f : FuncId} (hen : Enters P f) {fn : Func} {n : Nat} {t0 t1 : TypeId} {τ0 τ1 : Ty} (hp : fn.params = #[t0, t1]) (jI : yU P n t0 τ0 = true) (H5 : yU P n t1 τ1 = true)
    (hE : ∀ (h : Heap) (v0 v1 : Value) (x0 : τ0.den) (x1 : τ1.den), adI h -> aF h [] τ0 v0 x0 -> aF h [] τ1 v1 x1 -> Wf τ0 x0 -> Wf τ1 x1 -> oS P orc f [v0, v1] h fun r h' => r = .bool true /\ h' = h)
    {args : Array Value} {ds : List (DataW H)} {ps : List MemPlace} (jU : ∀ (j : Nat) t v, fn.params[j]? = some t -> args[j]? = some v -> Value.okWide P W .any base t v) (hA : DataW.TrodAll enc P W 0 sp held fn.params.toList args.toList ds ps) :
    Calls P f args W fun | .returned v', w' => v' = .bool true /\ Below W.heap.size W w' | _, _ => False := by
  rw [hp] at hA jU; obtain ⟨v0, OZ, d0, ds0, p0, q0, ha, rfl, rfl, k0, r0⟩ := Go.ChangeShapes.trodAll_cons hA; obtain ⟨v1, vs1, d1, ds1, p1, q1, rfl, rfl, rfl, k1, r1⟩ := Go.ChangeShapes.trodAll_cons r0; obtain ⟨rfl, rfl, rfl⟩ := Go.ChangeShapes.trodAll_nil r1
  obtain rfl : args = #[v0, v1] := by cases args; simp_all
  obtain ⟨ρ0, S0, h0, u0, x0, g0, c0, e0, w0⟩ := NY hrz jI (jU 0 t0 v0 rfl rfl) k0; obtain ⟨cQ, S1, h1, u1, x1, g1, c1, e1, w1⟩ := NY g0.hr H5 (jU 1 t1 v1 rfl rfl) k1; have hR := hE h1 u0 u1 x0 x1 ⟨g1.ok, (hGz.nx (g0.gC.nx (ajW hrz))).nx (g1.gC.nx g0.ok)⟩ (e0.nx (g1.gC.nx g0.ok)) e1 w0 w1; refine (adQ (args' := [v0, v1]) hP kG hen g1.hr (LR.cons (c0.mono g1.agree) (LR.one c1)) (oS.mono hR fun v h' h => h.1) rfl).mono fun e w' he => ?_
  cases e with
  | returned v => exact ⟨he.1, xK he.2⟩
  | panicked c => exact he
  | outgrown => exact he
end Go.Fs
namespace Go.Proofs.YtedakjflddcbbaaGreatDoor
open Go.ChangeShapes Go.WideShapes Go.ChangeAt Go.RowKit Go.Fs
theorem own : ownKnob Tryz.prog.godebug = none := by kernel_rfl
theorem laidOut : laidOutB Tryz.prog = true := by kernel_rfl
def aiL : List (String × DataW Unit) := [("math/bits.deBruijn32tab", Rows.laid_math_bits_deBruijn32tab), ("math/bits.deBruijn64tab", Rows.laid_math_bits_deBruijn64tab), ("internal/strconv.uint64pow10", Rows.laid_internal_strconv_uint64pow10), ("unicode/utf8.acceptRanges", Rows.laid_unicode_utf8_acceptRanges), ("unicode/utf8.first", Rows.laid_unicode_utf8_first)]
theorem apO : ∃ g : Nat, Tryz.prog.globalNamed "internal/strconv.uint64pow10" = some g /\ (Tryz.prog.globals[g]?).map (·.type) = some 228 := ⟨1, by kernel_rfl, by kernel_rfl⟩
theorem aiW {W : World} (h : laidMet Tryz.prog aiL W) : Lib.TabIs Tryz.prog W "internal/strconv.uint64pow10" .u64 Lib.pow10Tab := by
  obtain ⟨g, h1, h2⟩ := apO; exact Lib.tabIs_of_head h1 h2 Tryz.underlying228 Tryz.underlying207 (by kernel_rfl) (by kernel_rfl) (laidMet.tail (laidMet.tail h))
theorem ajX {W : World} : ∀ x ∈ tzG, FO Tryz.prog W.heap.size W x := fun x hx => by cases hx
theorem anY : GT (⟨1, 1, []⟩ : Heap) [] := fun v hv => by cases hv
theorem aiX {W : World} (h : laidMet Tryz.prog aiL W) : HR Tryz.prog (fun _ => Loc.clean 0 0 0 0) (fun _ => False) W.heap.size (Go.Fs.wz W) ⟨1, 1, []⟩ W := acH (Nat.zero_le _)
/-- The oracle is sound wherever the table of powers lies. -/
theorem alD {W : World} (ht : Lib.TabIs Tryz.prog W "internal/strconv.uint64pow10" .u64 Lib.pow10Tab) : bX Tryz.prog W.heap.size (Go.Fs.wz W) OA := by
  have hT : ∀ w, Below W.heap.size W w -> Lib.TabIs Tryz.prog w "internal/strconv.uint64pow10" .u64 Lib.pow10Tab := Lib.tabBelow_of_tabIs ht
  have hS : ∀ w, Below W.heap.size W w -> bX Tryz.prog w.heap.size (Go.Fs.wz w) OB := fun w hw =>
    ajO rfl (Nat.le_refl _) fun w' QJ => hT w' (hw.trans ((xK QJ).mono hw.size))
  refine S6 ?_ UJ (fun b w h0 h1 h2 => Any.Builder_copyCheck_fresh HX QI b w h0 h1 h2) (fun b w h0 => Any.Builder_copyCheck_used HX QI b w h0); refine S5 rfl (Z4 rfl (Nat.le_refl _) fun w' QJ => hT w' (xK QJ)) acF fun w hw => ?_; exact KW ak6 (n := 1) (L := tzG) (fun x hx => by cases hx) (by decide) ajX (fun w hw => hw.size) (fun w' QJ => hS w' QJ) anF w (xK hw)
/-- The door's heap, with the table of first bytes, which the kit pins. -/
def aiM : List Value := match Rows.laid_unicode_utf8_first with
  | .agg ds => ds.map fun | .lit (.int k n) => .int k n | _ => .nilIface
  | _ => []
def Y3 (o : Obj) : Obj := match o with
  | .cells _ t fr => .cells aiM.toArray t fr
  | o => o
noncomputable def B1 (os : Os) : World := { World.doorLaid Tryz.prog 200 os with heap := (World.doorLaid Tryz.prog 200 os).heap.modify 2 Y3 }
end Go.Proofs.YtedakjflddcbbaaGreatDoor
