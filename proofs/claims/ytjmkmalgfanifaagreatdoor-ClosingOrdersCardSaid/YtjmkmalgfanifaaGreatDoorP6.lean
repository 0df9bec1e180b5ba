/- Parts of the proof: an evaluator of the model, what it is sound for, and contracts of functions. No condition. -/
import Derived.Test.YtjmkmalgfanifaaGreatDoorP3
import Derived.ChangeArms
import Derived.Carry
import Derived.RowKit
import Derived.OpenShut
import Derived.Test.YtjmkmalgfanifaaGreatDoorP5
import Derived.Test.YtjmkmalgfanifaaGreatDoorP4
set_option linter.all false
namespace Go.Fs
open Go.RowKit (Below)
variable {P : Program} {H : Type} {enc : TypeId × Value → H} {w : World} {base : Nat} {sp : Nat → Bool} {held : Bool}
def fsB (P : Program) (ty : TypeId → Ty → Bool) : List Field → Nat → Ty → Bool
  | [f], off, .pair a .unit => Nat.beq f.offset off && Nat.beq (P.cellsOf f.type) a.size && ty f.type a
  | [f], off, τ => Nat.beq f.offset off && Nat.beq (P.cellsOf f.type) τ.size && ty f.type τ
  | f :: fs, off, .pair a b => Nat.beq f.offset off && Nat.beq (P.cellsOf f.type) a.size && ty f.type a && fsB P ty fs (off + a.size) b
  | _, _, _ => false
def arrFs (P : Program) (m : Nat) (e : TypeId) : List Field := (List.range m).map fun i => { name := "", type := e, offset := i * P.cellsOf e, embedded := false, tag := "", pkgPath := "", byteOffset := 0 }
def tyB (P : Program) : Nat → TypeId → Ty → Bool
  | 0, _, _ => false
  | n + 1, t, τ =>
    match P.underlying t, τ with
    | some (.int k), .int k' => decide (k = k')
    | some .bool, .bool => true
    | some .string, .str => true
    | some (.float k), .flt k' => decide (k = k')
    | some (.slice te), .sl e => Nat.beq (P.cellsOf te) e.size && Nat.blt 0 e.size && tyB P n te e
    | some (.struct fs), .pair a b => Nat.beq (P.cellsOf t) (Ty.pair a b).size && fsB P (tyB P n) fs.toList 0 (.pair a b)
    | some (.array m e), .pair a b => Nat.beq (P.cellsOf t) (Ty.pair a b).size && fsB P (tyB P n) (arrFs P m e) 0 (.pair a b)
    | _, _ => false
def Wf : (τ : Ty) → τ.den → Prop
  | .int k, n => (Lit.int k n).wf = true
  | .bool, _ => True
  | .str, s => s.size ≤ maxLen
  | .flt k, n => (Lit.float k n).wf = true
  | .sl e, xs => List.length xs ≤ maxLen ∧ ∀ x ∈ (xs : List e.den), Wf e x
  | .pair a b, x => Wf a x.1 ∧ Wf b x.2
  | .unit, _ => True
  | .mp _ _, _ => True
  | .fn, _ => True
  | .hnd, _ => True
structure Got (P : Program) (w : World) (ρ : Ren) (S : Nat → Prop) (h : Heap) (ρ' : Ren) (S' : Nat → Prop) (h' : Heap) : Prop where
  hr : HR P ρ' S' w.heap.size (wz w) h' w
  agree : ∀ b, S b → S' b ∧ ρ' b = ρ b
  aft : After h h'
theorem Got.refl {ρ : Ren} {S : Nat → Prop} {h : Heap} (hr : HR P ρ S w.heap.size (wz w) h w) : Got P w ρ S h ρ S h := ⟨hr, fun _ hb => ⟨hb, rfl⟩, After.refl h⟩
theorem Got.trans {ρ ρ1 ρ2 : Ren} {S S1 S2 : Nat → Prop} {h h1 h2 : Heap} (a : Got P w ρ S h ρ1 S1 h1) (b : Got P w ρ1 S1 h1 ρ2 S2 h2) : Got P w ρ S h ρ2 S2 h2 :=
  ⟨b.hr, fun i hi => let ⟨h3, h4⟩ := a.agree i hi; let ⟨h5, h6⟩ := b.agree i h3; ⟨h5, h6.trans h4⟩, a.aft.trans b.aft⟩
theorem Got.ok {ρ ρ1 : Ren} {S S1 : Nat → Prop} {h h1 : Heap} (a : Got P w ρ S h ρ1 S1 h1) : HOk h1 := fun b o hg => (a.hr.ids b (a.hr.objs b o hg).1).1
theorem hok_of {ρ : Ren} {S : Nat → Prop} {h : Heap} (hr : HR P ρ S w.heap.size (wz w) h w) : HOk h := fun b o hg => (hr.ids b (hr.objs b o hg).1).1
theorem Got.row {ρ : Ren} {S : Nat → Prop} {h : Heap} (hr : HR P ρ S w.heap.size (wz w) h w) {te : TypeId} {cs : List Value} {a : Addr} (ha : a.block < w.heap.size) (hc : ∀ i, i < cs.length → ∃ v, w.cell? ⟨a.block, a.off + i, none⟩ = some v ∧ VR ρ S (cs.getD i undef) v) :
    Got P w ρ S h (fun b => if b = h.next then (.clean a.block a.off 0 (P.cellsOf te)) else ρ b) (fun b => S b ∨ b = h.next) (h.push (.row te cs false false)) := by
  have hag : ∀ b, S b → (S b ∨ b = h.next) ∧ (fun b => if b = h.next then (Loc.clean a.block a.off 0 (P.cellsOf te)) else ρ b) b = ρ b := fun b hb => by
    have := (hr.ids b hb).1; exact ⟨.inl hb, by simp only; rw [if_neg (by omega)]⟩
  have hold : ∀ i o, (h.push (.row te cs false false)).get i = some o → (i = h.next ∧ o = .row te cs false false) ∨ (i ≠ h.next ∧ h.get i = some o) := fun i o hg => by
    rw [Heap.get_push] at hg; by_cases hi : i = h.next
    · rw [if_pos hi] at hg; exact .inl ⟨hi, (Option.some.inj hg).symm⟩
    rw [if_neg hi] at hg; exact .inr ⟨hi, hg⟩
  refine ⟨⟨fun i o hg => ?_, fun i j oi oj hi hj oi1 oj1 he => ?_, fun i o hg ho => ?_, fun i o hg ho => ?_, fun b hb => ?_, Nat.succ_pos _, z_below (Below.refl _ _), Nat.zero_le _, Nat.le_refl _⟩, hag, After.push h _⟩
  · rcases hold i o hg with ⟨rfl, rfl⟩ | ⟨hi, hg'⟩
    · refine ⟨.inr rfl, ?_⟩; simp only [if_true]; refine ⟨rfl, fun i hi => ?_, fun hx => by cases hx⟩; obtain ⟨v, h1, h2⟩ := hc i hi; exact ⟨v, h1, h2.mono hag⟩
    obtain ⟨h1, h2⟩ := hr.objs i o hg'; refine ⟨.inl h1, ?_⟩; simp only [if_neg hi]; exact h2.mono hag
  · rcases hold i oi hi with ⟨rfl, rfl⟩ | ⟨hi', hgi⟩
    · cases oi1
    rcases hold j oj hj with ⟨rfl, rfl⟩ | ⟨hj', hgj⟩
    · cases oj1
    simp only [if_neg hi', if_neg hj'] at he; exact hr.inj i j oi oj hgi hgj oi1 oj1 he
  · rcases hold i o hg with ⟨rfl, rfl⟩ | ⟨hi, hg'⟩
    · cases ho
    simp only [if_neg hi]; exact hr.base i o hg' ho
  · rcases hold i o hg with ⟨rfl, rfl⟩ | ⟨hi, hg'⟩
    · simp only [if_true]; exact ha
    simp only [if_neg hi]; exact hr.ro i o hg' ho
  have hn : (h.push (.row te cs false false)).next = h.next + 1 := rfl; rw [hn]; rcases hb with hb | rfl
  · have := hr.ids b hb; exact ⟨by omega, this.2⟩
  have := hr.pos; exact ⟨by omega, by omega⟩
theorem trod_float {fuel : Nat} {t : TypeId} {cs : List Value} {x : DataW H × List MemPlace} {k : FloatKind} (ht : P.underlying t = some (.float k)) (h : DataW.trod enc P w base sp held fuel t cs = some x) : ∃ n, cs = [.float k n] ∧ (Lit.float k n).wf = true := by
  cases fuel with
  | zero => simp [DataW.trod] at h
  | succ n =>
    unfold DataW.trod at h; rw [ht] at h; split at h <;> simp_all
theorem mapM_all {α β : Type} (f : α → Option β) : ∀ (l : List α) (r : List β), l.mapM f = some r → l.length = r.length ∧ ∀ i (hi : i < l.length) (hr : i < r.length), f l[i] = some r[i]
  | [], r, h => by
    simp only [List.mapM_nil] at h; obtain rfl := Option.some.inj h
    exact ⟨rfl, fun i hi => absurd hi (by simp)⟩
  | a :: l, r, h => by
    rw [List.mapM_cons] at h
    cases hf : f a with
    | none => rw [hf] at h; cases h
    | some b =>
      rw [hf] at h
      cases hl : l.mapM f with
      | none => rw [hl] at h; cases h
      | some bs =>
        rw [hl] at h; obtain rfl := Option.some.inj h; obtain ⟨h1, h2⟩ := mapM_all f l bs hl; refine ⟨by simp [h1], fun i hi hr => ?_⟩
        cases i with
        | zero => exact hf
        | succ i => exact h2 i (by simpa using hi) (by simpa using hr)
theorem cells_some {a : Addr} {n : Nat} {cs : List Value} (h : w.cells? base a n = some cs) : cs.length = n ∧ ∀ i, i < n → w.cell? (a.add i) = some (cs.getD i undef) := by
  unfold World.cells? at h; split at h
  · obtain ⟨h1, h2⟩ := mapM_all _ _ _ h; rw [List.length_range] at h1; refine ⟨h1.symm, fun i hi => ?_⟩; have := h2 i (by simpa using hi) (by omega); rw [List.getElem_range] at this; rw [this]; simp [List.getD, show i < cs.length by omega]
  cases h
theorem cell_some {a : Addr} {v : Value} (h : w.cell? a = some v) : a.spot = none ∧ a.block < w.heap.size := by
  unfold World.cell? at h; split at h
  · rename_i c _ _ hb; refine ⟨?_, (Array.getElem?_eq_some_iff.1 hb).1⟩
    cases hs : a.spot with
    | none => rfl
    | some s => rw [hs] at h; cases h
  cases h
def Tells (P : Program) (w : World) (τ : Ty) (cs : List Value) : Prop := ∀ (ρ : Ren) (S : Nat → Prop) (h : Heap), HR P ρ S w.heap.size (wz w) h w →
  ∃ ρ' S' h' cs' x, Got P w ρ S h ρ' S' h' ∧ LR ρ' S' cs' cs ∧ RepC h' [] τ cs' x ∧ Wf τ x
theorem LR.one {ρ : Ren} {S : Nat → Prop} {v v' : Value} (h : VR ρ S v v') : LR ρ S [v] [v'] := LR.cons h LR.nil
theorem tells_elems {e : Ty} (a : Addr) (len : Nat) (hcs : ∀ i, i < len → ∃ cs, (∀ j, j < e.size → w.cell? (a.add (i * e.size + j)) = some (cs.getD j undef)) ∧ cs.length = e.size ∧ Tells P w e cs) :
    ∀ (ρ : Ren) (S : Nat → Prop) (h : Heap), HR P ρ S w.heap.size (wz w) h w → ∃ ρ' S' h' rs xs, Got P w ρ S h ρ' S' h' ∧ rs.length = len * e.size ∧ List.length xs = len ∧ (∀ i, i < len * e.size → ∃ v, w.cell? (a.add i) = some v ∧ VR ρ' S' (rs.getD i undef) v) ∧
      Elems h' [] e rs xs ∧ ∀ x ∈ (xs : List e.den), Wf e x := by
  induction len with
  | zero =>
    intro ρ S h hr
    exact ⟨ρ, S, h, [], [], Got.refl hr, by simp, rfl, fun i hi => by omega, Elems.nil, fun x hx => by cases hx⟩
  | succ n ih =>
    intro ρ S h hr; obtain ⟨ρ1, S1, h1, rs, xs, g1, l1, l2, c1, e1, w1⟩ := ih (fun i hi => hcs i (by omega)) ρ S h hr; obtain ⟨cs, k1, k2, k3⟩ := hcs n (by omega); obtain ⟨ρ2, S2, h2, cs', x, g2, lr, rc, wf⟩ := k3 ρ1 S1 h1 g1.hr; have hN : Goes h1 [] h2 [] := g2.aft.nx g1.ok; have hl : cs'.length = e.size := rc.len
    have hel : Elems h2 [] e cs' [x] := by
      refine ⟨by simpa using hl, fun i hi => ?_⟩
      obtain rfl : i = 0 := by simpa using hi
      simp only [Nat.zero_mul, List.drop_zero, List.getElem_cons_zero]; rw [List.take_of_length_le (by omega)]; exact rc
    refine ⟨ρ2, S2, h2, rs ++ cs', xs ++ [x], g1.trans g2, by rw [List.length_append, l1, hl, Nat.add_mul]; omega, by simp [l2], fun i hi => ?_, (e1.nx hN).append hel, fun y hy => ?_⟩
    · rw [Nat.add_mul, Nat.one_mul] at hi; by_cases hin : i < n * e.size
      · obtain ⟨v, hv1, hv2⟩ := c1 i hin; refine ⟨v, hv1, ?_⟩; rw [List.getD_eq_getElem?_getD, List.getElem?_append_left (by omega), ← List.getD_eq_getElem?_getD]; exact hv2.mono g2.agree
      have hj : i - n * e.size < e.size := by omega
      refine ⟨cs.getD (i - n * e.size) undef, ?_, ?_⟩
      · have := k1 (i - n * e.size) hj
        rwa [show n * e.size + (i - n * e.size) = i by omega] at this
      rw [List.getD_eq_getElem?_getD, List.getElem?_append_right (by omega), l1, ← List.getD_eq_getElem?_getD]; exact lr.getD _
    rcases List.mem_append.1 hy with hy | hy
    · exact w1 y hy
    obtain rfl := List.mem_singleton.1 hy; exact wf
theorem Addr.add_spot {a : Addr} (h : a.spot = none) (n : Nat) : a.add n = ⟨a.block, a.off + n, none⟩ := by
  obtain ⟨b, o, s⟩ := a; simp only at h; subst h; unfold Addr.add; by_cases hn : n = 0
  · subst hn; simp
  simp [hn]
theorem tells_fields {n : Nat} (ih : ∀ (t : TypeId) (τ : Ty), tyB P n t τ = true → ∀ (fuel : Nat) (cs : List Value) (x : DataW H × List MemPlace), DataW.trod enc P w base sp held fuel t cs = some x → Tells P w τ cs) :
    ∀ (fs : List Field) (off : Nat) (τ : Ty) (cs : List Value) (m : Nat), fsB P (tyB P n) fs off τ = true → cs.length = off + τ.size → (∀ f ∈ fs, ∃ x, DataW.trod enc P w base sp held m f.type ((cs.drop f.offset).take (P.cellsOf f.type)) = some x) → Tells P w τ (cs.drop off) := by
  have one : ∀ (f : Field) (off : Nat) (τ : Ty) (cs : List Value) (m : Nat), f.offset = off → P.cellsOf f.type = τ.size → tyB P n f.type τ = true → off + τ.size ≤ cs.length → (∃ x, DataW.trod enc P w base sp held m f.type ((cs.drop f.offset).take (P.cellsOf f.type)) = some x) → Tells P w τ ((cs.drop off).take τ.size) := by
    intro f off τ cs m h1 h2 h3 h4 ⟨x, hx⟩; rw [h1, h2] at hx; exact ih f.type τ h3 m _ x hx
  intro fs
  induction fs with
  | nil => intro off τ cs m hb; cases hb
  | cons f fs ihf =>
    intro off τ cs m hb hl hall; have hf := hall f List.mem_cons_self
    cases fs with
    | nil =>
      by_cases hs : ∃ a, τ = .pair a .unit
      · obtain ⟨a, rfl⟩ := hs; have hb' : (Nat.beq f.offset off && Nat.beq (P.cellsOf f.type) a.size && tyB P n f.type a) = true := hb; obtain ⟨hb', h3⟩ := band hb'; obtain ⟨h1, h2⟩ := band hb'
        have hs : (Ty.pair a .unit).size = a.size := by simp [Ty.size]
        rw [hs] at hl; have := one f off a cs m (nbeq h1) (nbeq h2) h3 (by omega) hf; intro ρ S h hr; obtain ⟨ρ', S', h', cs', x, g, lr, rc, wf⟩ := this ρ S h hr; have e1 : (cs.drop off).take a.size = cs.drop off := List.take_of_length_le (by rw [List.length_drop]; omega); rw [e1] at lr; have hcl := rc.len; exact ⟨ρ', S', h', cs', (x, ()), g, lr, ⟨by rw [List.take_of_length_le (by omega)]; exact rc, by rw [List.drop_eq_nil_of_le (by omega)]; rfl⟩, wf, trivial⟩
      have hb' : (Nat.beq f.offset off && Nat.beq (P.cellsOf f.type) τ.size && tyB P n f.type τ) = true := by
        cases τ with
        | pair a b =>
          cases b with
          | unit => exact absurd ⟨a, rfl⟩ hs
          | _ => exact hb
        | _ => exact hb
      obtain ⟨hb', h3⟩ := band hb'; obtain ⟨h1, h2⟩ := band hb'; have := one f off τ cs m (nbeq h1) (nbeq h2) h3 (by omega) hf; have e1 : (cs.drop off).take τ.size = cs.drop off := List.take_of_length_le (by rw [List.length_drop]; omega)
      rwa [e1] at this
    | cons g fs =>
      cases τ with
      | pair a b =>
        have hb' : (Nat.beq f.offset off && Nat.beq (P.cellsOf f.type) a.size && tyB P n f.type a && fsB P (tyB P n) (g :: fs) (off + a.size) b) = true := hb; obtain ⟨hb', h4⟩ := band hb'; obtain ⟨hb', h3⟩ := band hb'; obtain ⟨h1, h2⟩ := band hb'; have hs : (Ty.pair a b).size = a.size + b.size := rfl; rw [hs] at hl; have ha := one f off a cs m (nbeq h1) (nbeq h2) h3 (by omega) hf; have hrest := ihf (off + a.size) b cs m h4 (by omega) (fun g hg => hall g (List.mem_cons_of_mem _ hg)); intro ρ S h hr; obtain ⟨ρ1, S1, h1', cs1, x1, g1, lr1, rc1, wf1⟩ := ha ρ S h hr; obtain ⟨ρ2, S2, h2', cs2, x2, g2, lr2, rc2, wf2⟩ := hrest ρ1 S1 h1' g1.hr; have hN : Goes h1' [] h2' [] := g2.aft.nx g1.ok; have hc1 := rc1.len; refine ⟨ρ2, S2, h2', cs1 ++ cs2, (x1, x2), g1.trans g2, ?_, ⟨?_, ?_⟩, wf1, wf2⟩
        · have := (lr1.mono g2.agree).append lr2
          rwa [show (cs.drop off).take a.size ++ cs.drop (off + a.size) = cs.drop off from by rw [← List.drop_drop, List.take_append_drop]] at this
        · rw [List.take_left' hc1]; exact rc1.nx hN
        rw [List.drop_left' hc1]; exact rc2
      | _ => cases hb
theorem tells : ∀ (n : Nat) (t : TypeId) (τ : Ty), tyB P n t τ = true → ∀ (fuel : Nat) (cs : List Value) (x : DataW H × List MemPlace), DataW.trod enc P w base sp held fuel t cs = some x → Tells P w τ cs := by
  intro n
  induction n with
  | zero => intro t τ h; cases h
  | succ n ih =>
    intro t τ hb fuel cs x hx; unfold tyB at hb; split at hb
    · rename_i k k' hu; obtain rfl : k = k' := of_decide_eq_true hb; obtain ⟨m, rfl, _, hwf⟩ := DataW.trod_int hu hx; exact fun ρ S h hr => ⟨ρ, S, h, _, m, Got.refl hr, LR.one (.lit rfl), rfl, hwf⟩
    · rename_i hu; obtain ⟨b, rfl, _⟩ := DataW.trod_bool hu hx; exact fun ρ S h hr => ⟨ρ, S, h, _, b, Got.refl hr, LR.one (.lit rfl), rfl, trivial⟩
    · rename_i hu; obtain ⟨s, rfl, _, hs⟩ := DataW.trod_string hu hx; exact fun ρ S h hr => ⟨ρ, S, h, _, s, Got.refl hr, LR.one (.lit rfl), rfl, hs⟩
    · rename_i k k' hu; obtain rfl : k = k' := of_decide_eq_true hb; obtain ⟨m, rfl, hwf⟩ := trod_float hu hx; exact fun ρ S h hr => ⟨ρ, S, h, _, m, Got.refl hr, LR.one (.lit rfl), rfl, hwf⟩
    · rename_i te e hu; obtain ⟨hb, h3⟩ := band hb; obtain ⟨h1, h2⟩ := band hb; have hce := nbeq h1; have hpos := nblt h2; rcases DataW.trod_slice hu hx with ⟨rfl, _⟩ | ⟨a, len, cap, elems, rest, m, _, rfl, _, hba, hlc, hcap, hlen, hel, _⟩
      · exact fun ρ S h hr => ⟨ρ, S, h, [.slice none 0 0], [], Got.refl hr, LR.one (.lit rfl), ⟨_, rfl, .inl ⟨rfl, rfl⟩⟩, Nat.zero_le _, fun x hx => by cases hx⟩
      by_cases h0 : len = 0
      · subst h0; exact fun ρ S h hr => ⟨ρ, S, h, [.slice (some ⟨0, 0, none⟩) 0 2], [], Got.refl hr, LR.one (.slice 0 0 0 2 cap a (Nat.zero_le _) (fun h => by cases h) (fun _ => rfl) (fun h => absurd rfl h)), ⟨_, rfl, .inr ⟨0, 0, 2, rfl, .inl rfl⟩⟩, Nat.zero_le _, fun x hx => by cases hx⟩
      have hcs : ∀ i, i < len → ∃ cs, (∀ j, j < e.size → w.cell? (a.add (i * e.size + j)) = some (cs.getD j undef)) ∧ cs.length = e.size ∧ Tells P w e cs := by
        intro i hi; have := hel i hi; rw [List.getElem?_eq_getElem (by omega)] at this; rw [hce] at this
        cases hc : w.cells? base (a.add (i * e.size)) e.size with
        | none => rw [hc] at this; cases this
        | some cs =>
          rw [hc] at this; obtain ⟨k1, k2⟩ := cells_some hc; refine ⟨cs, fun j hj => ?_, k1, ih te e h3 m cs _ this⟩; rw [← k2 j hj]; congr 1; obtain ⟨b, o, s⟩ := a; unfold Addr.add; by_cases hx1 : i * e.size = 0
          · simp [hx1]
          by_cases hx2 : j = 0
          · subst hx2; simp [hx1]
          simp [hx1, hx2, Nat.add_assoc]
      have hfirst : a.spot = none ∧ a.block < w.heap.size := by
        obtain ⟨cs, k1, _⟩ := hcs 0 (by omega); have := k1 0 hpos; rw [Nat.zero_mul, Nat.zero_add] at this; have h4 := cell_some this; simpa [Addr.add] using h4
      intro ρ S h hr; obtain ⟨ρ1, S1, h1', rs, xs, g1, l1, l2, c1, e1, w1⟩ := tells_elems (P := P) a len hcs ρ S h hr
      have hrow := Got.row (te := te) g1.hr (cs := rs) (a := a) hfirst.2 (fun i hi => by
        have := c1 i (by omega)
        rwa [Addr.add_spot hfirst.1] at this)
      have hsl : SlV (h1'.push (.row te rs false false)) [] e (.slice (some ⟨h1'.next, 0, none⟩) (List.length xs) 2) xs := (e1.nx (hrow.aft.nx g1.ok)).slv (by rw [Heap.get_push, if_pos rfl]) (by simp); refine ⟨_, _, _, [.slice (some ⟨h1'.next, 0, none⟩) (List.length xs) 2], xs, g1.trans hrow, ?_, ⟨_, rfl, hsl⟩, by omega, w1⟩; rw [l2]; refine LR.one (.slice h1'.next 0 len 2 cap a hlc (fun h => by cases h) (fun h5 => by have := g1.hr.pos; omega) fun _ => ⟨.inr rfl, ?_, fun h => by cases h⟩); simp only [if_true, Loc.at, Nat.add_zero]; obtain ⟨b, o, s⟩ := a; simp only at hfirst; rw [hfirst.1]
    · rename_i fs a b hu; obtain ⟨h1, h2⟩ := band hb; obtain ⟨xs, m, _, _, hl, hsz, hall⟩ := DataW.trod_struct hu hx
      have hcl : cs.length = (Ty.pair a b).size := by rw [hl, nbeq h1]
      have := tells_fields ih fs.toList 0 (.pair a b) cs m h2 (by omega) (fun f hf => by
        obtain ⟨i, hi, rfl⟩ := List.getElem_of_mem hf
        have hi' : i < fs.size := by simpa using hi
        have := hall i fs[i] (by simp [hi']); rw [List.getElem?_eq_getElem (by omega)] at this
        exact ⟨_, by simpa using this⟩)
      simpa using this
    · rename_i m e a b hu; obtain ⟨h1, h2⟩ := band hb; obtain ⟨xs, m', _, _, hl, hsz, hall⟩ := DataW.trod_array hu hx
      have hcl : cs.length = (Ty.pair a b).size := by rw [hl, nbeq h1]
      have := tells_fields ih (arrFs P m e) 0 (.pair a b) cs m' h2 (by omega) (fun f hf => by
        obtain ⟨i, hi, rfl⟩ := List.mem_map.1 hf; have hi' : i < m := List.mem_range.1 hi; have := hall i hi'; rw [List.getElem?_eq_getElem (by omega)] at this
        exact ⟨_, this⟩)
      simpa using this
    cases hb
theorem okWide_agg {n : Nat} {r : Reach} {b0 : Nat} {t : TypeId} {τ : Ty} {v : Value} (hb : tyB P n t τ = true) (hval : Value.okWide P w r b0 t v) : isAggV v = τ.agg := by
  cases n with
  | zero => cases hb
  | succ n =>
    unfold tyB at hb; unfold Value.okWide at hval; split at hb
    · rename_i k k' hu; rw [hu] at hval; simp only [Cell.okWide, hu, Cell.ok] at hval; cases v <;> simp_all [isAggV, Ty.agg]
    · rename_i hu; rw [hu] at hval; simp only [Cell.okWide, hu, Cell.ok] at hval; cases v <;> simp_all [isAggV, Ty.agg]
    · rename_i hu; rw [hu] at hval; simp only [Cell.okWide, hu, Cell.ok] at hval; cases v <;> simp_all [isAggV, Ty.agg]
    · rename_i k k' hu; rw [hu] at hval; simp only [Cell.okWide, hu, Cell.ok] at hval; cases v <;> simp_all [isAggV, Ty.agg]
    · rename_i te e hu; rw [hu] at hval; simp only [Cell.okWide, hu, Cell.ok] at hval; cases v <;> simp_all [isAggV, Ty.agg]
    · rename_i fs a b hu; rw [hu] at hval; obtain ⟨cs, rfl, _⟩ := hval; rfl
    · rename_i m e a b hu; rw [hu] at hval; obtain ⟨cs, rfl, _⟩ := hval; rfl
    cases hb
theorem tell_arg {ρ : Ren} {S : Nat → Prop} {h : Heap} (hr : HR P ρ S w.heap.size (wz w) h w) {n : Nat} {r : Reach} {b0 : Nat} {t : TypeId} {τ : Ty} {v : Value} {d : DataW H} {ps : List MemPlace} (hb : tyB P n t τ = true) (hval : Value.okWide P w r b0 t v) (hd : DataW.Trod enc P w base sp held t v d ps) :
    ∃ ρ' S' h' v' x, Got P w ρ S h ρ' S' h' ∧ VR ρ' S' v' v ∧ RepV h' [] τ v' x ∧ Wf τ x := by
  have hag := okWide_agg hb hval; obtain ⟨fuel, hf⟩ := hd; obtain ⟨ρ', S', h', cs', x, g, lr, rc, wf⟩ := tells n t τ hb fuel _ _ hf ρ S h hr
  cases hτ : τ.agg with
  | true =>
    rw [hτ] at hag
    cases v with
    | agg cs =>
      refine ⟨ρ', S', h', .agg cs'.toArray, x, g, VR.agg' (by simpa [Value.cells] using lr), ⟨hτ.symm, by simpa [Value.cells] using rc⟩, wf⟩
    | _ => cases hag
  | false =>
    rw [hτ] at hag; rw [cells_one hag] at lr; obtain ⟨u, rfl, hu⟩ := rc.one hτ; have := lr.2 0 (by simp); exact ⟨ρ', S', h', u, x, g, by simpa using this, hu, wf⟩
section
open Go.WideElems Go.ChangeShapes
theorem trodAll_below (hl : laidOutB P = true) {W W' : World} (hb : Below W.heap.size W W') : ∀ {ts : List TypeId} {vs : List Value} {ds : List (DataW H)} {ps : List MemPlace}, (ts.all fun t => P.readableRec t && decide (t < P.types.size)) = true →
    DataW.TrodAll enc P W 0 (fun _ => true) true ts vs ds ps → (∀ x ∈ ps, x.block < W.heap.size) → DataW.TrodAll enc P W' 0 (fun b => decide (b < W.heap.size)) true ts vs ds ps
  | [], [], [], _, _, h, _ => h
  | [], _ :: _, _, _, _, h, _ => h.elim
  | [], [], _ :: _, _, _, h, _ => h.elim
  | _ :: _, [], _, _, _, h, _ => h.elim
  | _ :: _, _ :: _, [], _, _, h, _ => h.elim
  | t :: ts, v :: vs, d :: ds, ps, ha, h, hp => by
    obtain ⟨p, q, h1, h2, rfl⟩ := h; simp only [List.all_cons, Bool.and_eq_true, decide_eq_true_eq] at ha; exact ⟨p, q, Go.RowKit.Below.trod hl ha.1.1 ha.1.2 h1 hb (fun x hx => hp x (List.mem_append_left _ hx)), trodAll_below hl hb (by simpa using ha.2) h2 (fun x hx => hp x (List.mem_append_right _ hx)), rfl⟩
theorem law_post {f : Func} {s : ChangeSpec} {tb : TypeId} (hl : laidOutB P = true) (hrd : (f.params.toList.all fun t => P.readableRec t && decide (t < P.types.size)) = true) (hres : f.resultTypes = #[tb]) (htb : P.underlying tb = some .bool) (hvars : s.vars = []) {W W' : World} {args : Array Value} {ds gs : List (DataW H)}
    {before : List MemPlace} (hW : DataW.Whole enc P f.params.toList s.vars false W args.toList ds gs before) (hr : (s.fn H (ds ++ gs)).results = [.lit (.bool true)]) (ha : (s.fn H (ds ++ gs)).args = ds) (hv : (s.fn H (ds ++ gs)).vars = []) (hb : Below W.heap.size W W') :
    s.post enc P f false true false false W args (.bool true) W' := by
  have hlt := hW.lt; have hW' := hW; obtain ⟨p, q, hA, hV, rfl, _, _⟩ := hW; rw [hvars] at hV; have hV' : gs = [] ∧ q = [] := trodVars_none hV; obtain ⟨rfl, rfl⟩ := hV'; refine ⟨ds, [], p ++ [], [], p, [], hW', ?_, ?_, ?_, hb.frame _, fun h => by cases h⟩
  · rw [hr, hres]; exact trodAll_mk1 (Go.RowKit.shut_bool htb _)
  · rw [ha]; exact trodAll_below hl hb hrd hA fun x hx => hlt x (List.mem_append_left _ hx)
  rw [hvars, hv]; exact rfl
end
theorem law_calls3 (hP : ProgOk P) {orc : FuncId → List Value → Heap → Option (Value × Heap)} {W : World} (horc : CallSound P W.heap.size (wz W) orc) {ρz : Ren} {Sz : Nat → Prop} {hz : Heap} (hrz : HR P ρz Sz W.heap.size (wz W) hz W) (hGz : GT hz []) {f : FuncId} (hen : Enters P f) {fn : Func} {n : Nat} {t0 t1 t2 : TypeId} {τ0 τ1 τ2 : Ty} (hp : fn.params = #[t0, t1, t2]) (hb0 : tyB P n t0 τ0 = true) (hb1 : tyB P n t1 τ1 = true) (hb2 : tyB P n t2 τ2 = true)
    (hE : ∀ (h : Heap) (v0 v1 v2 : Value) (x0 : τ0.den) (x1 : τ1.den) (x2 : τ2.den), HOkG h → RepV h [] τ0 v0 x0 → RepV h [] τ1 v1 x1 → RepV h [] τ2 v2 x2 → Wf τ0 x0 → Wf τ1 x1 → Wf τ2 x2 → EvF P orc f [v0, v1, v2] h fun r h' => r = .bool true ∧ h' = h)
    {args : Array Value} {ds : List (DataW H)} {ps : List MemPlace} (hval : ∀ (j : Nat) t v, fn.params[j]? = some t → args[j]? = some v → Value.okWide P W .any base t v) (hA : DataW.TrodAll enc P W 0 sp held fn.params.toList args.toList ds ps) :
    Calls P f args W fun | .returned v', w' => v' = .bool true ∧ Below W.heap.size W w' | _, _ => False := by
  rw [hp] at hA hval; obtain ⟨v0, vs0, d0, ds0, p0, q0, ha, rfl, rfl, k0, r0⟩ := Go.ChangeShapes.trodAll_cons hA; obtain ⟨v1, vs1, d1, ds1, p1, q1, rfl, rfl, rfl, k1, r1⟩ := Go.ChangeShapes.trodAll_cons r0; obtain ⟨v2, vs2, d2, ds2, p2, q2, rfl, rfl, rfl, k2, r2⟩ := Go.ChangeShapes.trodAll_cons r1; obtain ⟨rfl, rfl, rfl⟩ := Go.ChangeShapes.trodAll_nil r2
  obtain rfl : args = #[v0, v1, v2] := by cases args; simp_all
  obtain ⟨ρ0, S0, h0, u0, x0, g0, c0, e0, w0⟩ := tell_arg hrz hb0 (hval 0 t0 v0 rfl rfl) k0; obtain ⟨ρ1, S1, h1, u1, x1, g1, c1, e1, w1⟩ := tell_arg g0.hr hb1 (hval 1 t1 v1 rfl rfl) k1; obtain ⟨ρ2, S2, h2, u2, x2, g2, c2, e2, w2⟩ := tell_arg g1.hr hb2 (hval 2 t2 v2 rfl rfl) k2; have hR := hE h2 u0 u1 u2 x0 x1 x2 ⟨g2.ok, ((hGz.nx (g0.aft.nx (hok_of hrz))).nx (g1.aft.nx g0.ok)).nx (g2.aft.nx g1.ok)⟩ ((e0.nx (g1.aft.nx g0.ok)).nx (g2.aft.nx g1.ok)) (e1.nx (g2.aft.nx g1.ok)) e2 w0 w1 w2; refine (fs_open (args' := [v0, v1, v2]) hP horc hen g2.hr (LR.cons ((c0.mono g1.agree).mono g2.agree) (LR.cons (c1.mono g2.agree) (LR.one c2))) (EvF.mono hR fun v h' h => h.1) rfl).mono fun e w' he => ?_
  cases e with
  | returned v => exact ⟨he.1, below_z he.2⟩
  | panicked c => exact he
  | outgrown => exact he
end Go.Fs
namespace Go.Proofs
open Go.Fs
set_option maxHeartbeats 1000000
theorem zt92 : ZerT Tryz.prog 92 y92 := zerT_of (z := .agg #[.slice none 0 0, .slice none 0 0, .slice none 0 0]) (by kernel_rfl) rfl rfl
theorem bt92 : BldT Tryz.prog 92 y92 [(0, 1), (1, 1), (2, 1)] := bldT_of zt92 rfl (by kernel_rfl)
theorem wfL {e : Ty} {xs : List e.den} (h : Wf (.sl e) xs) : xs.length ≤ 9223372036854775807 := Nat.le_trans h.1 (by decide)
theorem lInts_ok {l : List Int} (hl : l.length < 1000000) : VF Tryz.prog OA 36 [.v y25 l] (.v y25 l) := by
  refine VF.enter Tryz.func36 rfl (fun _ _ => rfl) rfl ?_; show VC _ _ _ _ _ [(0, .v y25 l)] [] _; refine VC.seq (VC.text ?_); refine VO.c (.assign rfl) ?_; refine VO.go (VC.seq (VC.text ?_)); refine VO.cell (.lit0 el25) ?_; intro ww1; refine VO.c (.move rfl) ?_; refine VO.app rfl rfl el25 el25 (by simp; omega) ?_; intro ww2; refine VO.c (.assign rfl) (VO.go ?_); refine VC.ret ?_; exact VEnd.one rfl (evC (.row m0)) (pvE (by rfl))
theorem lGates_ok {g : (List Int) × (List Int) × (List (List Int))} (h1 : g.1.length < 100000) (h2 : g.2.1.length < 100000) (h3 : g.2.2.length < 100000) (hr : ∀ row ∈ g.2.2, row.length < 1000) : VF Tryz.prog OA 56 [.v y88 g] (.v y92 g) := by
  refine VF.enter Tryz.func56 rfl (fun _ _ => rfl) rfl ?_; show VC _ _ _ _ _ [(0, .v y88 g)] [] _; refine VC.seq (VC.text ?_); refine VO.new (.box) ?_; refine VO.cell (.alloc zt92) ?_; intro ww3; refine VO.go (VC.seq (VC.drawn ?_)); refine VD.c (.fa (.l .o)) ?_; refine VD.r [] (.ld vt25) (.inl rfl) ?_; refine VD.call rfl rfl (VF.call (lInts_ok (by first | assumption | omega | simp))) ?_; refine VD.c (.fa (.r (.l .o))) ?_; refine VD.r [] (.ld vt25) (.inl rfl) ?_; refine VD.call rfl rfl (VF.call (lInts_ok (by first | assumption | omega | simp))) ?_; refine VD.nw [11, 8] (VD.c (.buildA (cs := [.v y25 g.1, .v y25 g.2.1, nilV]) bt92 rfl) ?_); refine VD.cell (.alloc zt92) ?_; intro ww4; refine VD.mk0 (MakeV.setF (k := 0) vt92 (.aggs rfl rfl) (Nat.le_of_ble_eq_true rfl) (.inr ⟨rfl, rfl⟩) rfl rfl) ?_; rintro _ _ tl5 ⟨rfl, rfl⟩; refine VD.go (VC.seq (VC.seq (VC.text ?_))); refine VO.c (.fa (.r (.r .o))) ?_; refine VO.r (.ld vt86) ?_; refine VO.r (.len el86) ?_; refine VO.c (.move rfl) ?_; refine VO.go (VC.block ?_); refine VC.cell0 25 y25 ?_; refine VC.keep [(2, .raw ww3), (3, .raw ww4), (14, .v y86 g.2.2), (15, I ((g.2.2.length : Nat) : Int)), (16, I ((0 : Nat) : Int))] ⟨rfl, rfl, rfl, rfl, rfl, trivial⟩ ?_; refine VC.loop (I := fun kk ff ss => ∃ (i : Nat) (w : Value), kk = g.2.2.length - i ∧ ff = [(2, .raw ww3), (3, .raw ww4), (14, .v y86 g.2.2), (15, I ((g.2.2.length : Nat) : Int)), (16, I ((i : Nat) : Int))] ∧ ss = [(w, .row 25 y25 (g.2.2.take i)), (ww4, .var [.v y25 g.1, .v y25 g.2.1, .raw w]), (ww3, .var [.v y25 [], .v y25 [], .v y86 []])] ∧ (i ≤ g.2.2.length)) ?_ _ _ _ ⟨0, (.slice none 0 0), rfl, rfl, rfl, Nat.zero_le _⟩; rintro kk ff ss ⟨i, w, hk0, rfl, rfl, hi⟩; refine VC.seq (VC.text ?_); refine VO.c (.lss) ?_; refine VO.go (VC.seq ?_); refine VC.condD rfl (fun c3 => ?_) (fun c3 => ?_)
  · have hrr := hr _ (List.getElem_mem (show i < g.2.2.length by omega)); refine VC.skip (VC.seq (VC.block (VC.seq (VC.text ?_)))); refine VO.c (.ix (j := i) rfl rfl el86 (by omega)) ?_; refine VO.r (.ld vt25) ?_; refine VO.c (.assign rfl) ?_; refine VO.go (VC.drawn ?_); refine VD.co (.faO (k := 2) m1) ?_; refine VD.r [(w, .row 25 y25 (g.2.2.take i)), (ww4, .var [.v y25 g.1, .v y25 g.2.1, .raw w]), (ww3, .var [.v y25 [], .v y25 [], .v y86 []])] (.ldF (k := 2) m1 vt86) (.inr ⟨rfl, rfl⟩) ?_; refine VD.c (.move rfl) ?_; refine VD.call rfl rfl (VF.call (lInts_ok (by omega))) ?_; refine VD.new (.lit [(g.2.2[i])] el86) ?_; refine VD.mk (MakeV.app el86 el86 rfl rfl (by simp; omega)) ?_; rintro _ _ tl6 ⟨ww6, rfl, rfl⟩; refine VD.nw [25, 24, 23] ?_; refine VD.co (.faO (k := 2) m1) ?_; refine VD.perm swap1 ?_; refine VD.one m1 fun ho7 => ?_; refine VD.mk0 (MakeV.setF (k := 2) vt86 (.raw rfl (agg_one ho7) ho7) (Nat.le_of_ble_eq_true rfl) (.inl rfl) rfl rfl) ?_; rintro _ _ tl8 ⟨rfl, rfl⟩; refine VD.nil ?_; refine VC.text ?_; refine VO.c (.add rfl rfl (by omega)) (VO.c (.move rfl) ?_); refine VO.perm swap2 ?_; refine VO.perm swap1 ?_; refine VO.perm swap2 ?_; refine VO.nil ?_; refine ⟨_, [(2, .raw ww3), (3, .raw ww4), (14, .v y86 g.2.2), (15, I ((g.2.2.length : Nat) : Int)), (16, I (((i + 1) : Nat) : Int))], ?_, ⟨rfl, rfl, rfl, rfl, rfl, trivial⟩, (i + 1), ww6, rfl, rfl, (by rw [List.take_succ_eq_append_getElem (by omega)] <;> rfl), (by omega)⟩; omega
  refine VC.exit (VC.seq ?_); refine VC.perm swap1 ?_; refine VC.perm swap1 ?_; refine VC.shutL [(w, .row 25 y25 (g.2.2.take i)), (ww4, .var [.v y25 g.1, .v y25 g.2.1, .raw w])] [(3, .p y92 (g.1, g.2.1, (g.2.2.take i)))] rfl (.cons rfl (.var m1 (.cons .same (.cons .same (.cons (.row m0) .nil)))) .nil) ?_; refine VC.text ?_; refine VO.r (.ld vt92) ?_; refine VO.setV (cs' := [.v y25 g.1, .v y25 g.2.1, .v y86 (g.2.2.take i)]) vt92 .v ?_; refine VO.go ?_; refine VC.ret ?_; exact VEnd.one rfl (.cell (x := (g.1, g.2.1, (g.2.2.take i))) rfl m0 vt92 .refl) (pvE (by rw [List.take_of_length_le (by omega)]))
def shortG (g : Gat) : Bool := decide ((∀ row ∈ g.2.2, row.length ≤ 9) ∧ g.1.length ≤ 9 ∧ g.2.1.length ≤ 9 ∧ g.2.2.length ≤ 9)
theorem shortG_f {g : Gat} {i : Nat} (hi : i < g.2.2.length) (h : (9 : Int) < ((g.2.2[i].length : Nat) : Int)) : false = shortG g := (decide_eq_false fun hh => by have := hh.1 _ (List.getElem_mem hi); omega).symm
theorem rShortG_ok {g : (List Int) × (List Int) × (List (List Int))} (hl : g.2.2.length ≤ 9223372036854775807) : VF Tryz.prog OA 54 [.v y88 g] (B (shortG g)) := by
  refine VF.enter Tryz.func54 rfl (fun _ _ => rfl) rfl ?_; show VC _ _ _ _ _ [(0, .v y88 g)] [] _; refine VC.seq (VC.text ?_); refine VO.new (.box) ?_; refine VO.c (.assign rfl) ?_; refine VO.go (VC.seq (VC.seq (VC.text ?_))); refine VO.c (.assign rfl) ?_; refine VO.go (VC.block ?_); refine VC.keep [(1, .p y88 g), (3, I ((0 : Nat) : Int))] ⟨rfl, rfl, trivial⟩ ?_; refine VC.loop (I := fun kk ff ss => ∃ (i : Nat), kk = g.2.2.length - i ∧ ff = [(1, .p y88 g), (3, I ((i : Nat) : Int))] ∧ ss = [] ∧ (i ≤ g.2.2.length) ∧ (∀ j (hj : j < g.2.2.length), j < i → g.2.2[j].length ≤ 9)) ?_ _ _ _ ⟨0, rfl, rfl, rfl, Nat.zero_le _, (by intro j hj h; omega)⟩; rintro kk ff ss ⟨i, hk0, rfl, rfl, hi, hn⟩; refine VC.seq (VC.seq (VC.text ?_)); refine VO.c (.move rfl) (VO.c (.fa (.r (.r .o))) ?_); refine VO.r (.ld vt86) ?_; refine VO.r (.len el86) ?_; refine VO.c (.lss) (VO.go ?_); refine VC.condD rfl (fun c2 => ?_) (fun c2 => ?_)
  · refine VC.skip (VC.seq (VC.block (VC.seq (VC.text ?_)))); refine VO.c (.fa (.r (.r .o))) ?_; refine VO.r (.ld vt86) ?_; refine VO.c (.move rfl) (VO.c (.ix (j := i) rfl rfl el86 (by omega)) ?_); refine VO.r (.ld vt25) ?_; refine VO.r (.len el25) ?_; refine VO.c (.gtr) (VO.go ?_); refine VC.condD rfl (fun c4 => ?_) (fun c4 => ?_)
    · refine VC.seq (VC.text ?_); refine VO.c (.assign rfl) (VO.go ?_); refine VC.ret ?_; exact VEnd.one rfl evT (pvE (by exact shortG_f (by omega) c4))
    refine VC.skip (VC.text ?_); refine VO.c (.move rfl) (VO.c (.add rfl rfl (by omega)) (VO.c (.assign rfl) ?_)); refine VO.nil ?_; refine ⟨_, [(1, .p y88 g), (3, I (((i + 1) : Nat) : Int))], ?_, ⟨rfl, rfl, trivial⟩, (i + 1), rfl, rfl, rfl, (by omega), (by intro j hj h; rcases Nat.lt_succ_iff_lt_or_eq.1 h with h | h; exact hn j hj h; subst h; omega)⟩; omega
  refine VC.exit (VC.seq (VC.text ?_)); refine VO.c (.fa (.l .o)) ?_; refine VO.r (.ld vt25) ?_; refine VO.r (.len el25) ?_; refine VO.c (.leq) (VO.c (.move rfl) ?_); refine VO.cg (r := decide (((g.1.length : Nat) : Int) ≤ (9 : Int))) (w := true) [] trivial (fun _ => (.fa (.r (.l .o)))) ?_; refine VO.rg (r := decide (((g.1.length : Nat) : Int) ≤ (9 : Int))) (w := true) [(23, .p y25 g.2.1)] ⟨rfl, trivial⟩ (fun _ => (.ld vt25)) ?_; refine VO.rg (r := decide (((g.1.length : Nat) : Int) ≤ (9 : Int))) (w := true) [(24, .v y25 g.2.1)] ⟨rfl, trivial⟩ (fun _ => (.len el25)) ?_; refine VO.cg (r := decide (((g.1.length : Nat) : Int) ≤ (9 : Int))) (w := true) [(25, I ((g.2.1.length : Nat) : Int))] ⟨rfl, trivial⟩ (fun _ => (.leq)) ?_; refine VO.c (.and) (VO.c (.move rfl) ?_); refine VO.cg (r := ((decide (((g.1.length : Nat) : Int) ≤ (9 : Int))) && (decide (((g.2.1.length : Nat) : Int) ≤ (9 : Int))))) (w := true) [] trivial (fun _ => (.fa (.r (.r (k := 0) .o)))) ?_; refine VO.rg (r := ((decide (((g.1.length : Nat) : Int) ≤ (9 : Int))) && (decide (((g.2.1.length : Nat) : Int) ≤ (9 : Int))))) (w := true) [(29, .p y86 g.2.2)] ⟨rfl, trivial⟩ (fun _ => (.ld vt86)) ?_; refine VO.rg (r := ((decide (((g.1.length : Nat) : Int) ≤ (9 : Int))) && (decide (((g.2.1.length : Nat) : Int) ≤ (9 : Int))))) (w := true) [(30, .v y86 g.2.2)] ⟨rfl, trivial⟩ (fun _ => (.len el86)) ?_; refine VO.cg (r := ((decide (((g.1.length : Nat) : Int) ≤ (9 : Int))) && (decide (((g.2.1.length : Nat) : Int) ≤ (9 : Int))))) (w := true) [(31, I ((g.2.2.length : Nat) : Int))] ⟨rfl, trivial⟩ (fun _ => (.leq)) ?_; refine VO.c (.and) (VO.c (.assign rfl) (VO.go ?_)); refine VC.ret ?_; exact VEnd.one rfl evT (pvE (by rw [shortG, ← Bool.decide_and, ← Bool.decide_and]; refine decide_eq_decide.2 ⟨fun hh => ⟨fun row hrow => ?_, by omega, by omega, by omega⟩, fun hh => by omega⟩; obtain ⟨j, hj, rfl⟩ := List.getElem_of_mem hrow; exact hn j hj (by omega)))
end Go.Proofs
namespace Go.Proofs
open Go.Fs
set_option maxHeartbeats 1000000
theorem shortG_t {g : Gat} (h : shortG g = true) : (∀ row ∈ g.2.2, row.length ≤ 9) ∧ g.1.length ≤ 9 ∧ g.2.1.length ≤ 9 ∧ g.2.2.length ≤ 9 := of_decide_eq_true h
end Go.Proofs
namespace Go.Proofs
open Go.Fs
set_option maxHeartbeats 1000000
theorem zt4 : ZerT Tryz.prog 4 .bool := zerT_of (z := .bool false) (by kernel_rfl) rfl rfl
def firstR (f : Nat → Int) (i n : Nat) : Int := firstE ((List.range' i (n - i)).map f)
theorem firstR_step {f : Nat → Int} {i n : Nat} (h : i < n) : firstR f i n = if f i = 0 then firstR f (i + 1) n else f i := by
  unfold firstR; rw [show n - i = (n - (i + 1)) + 1 by omega, List.range'_succ]; rfl
theorem firstR_end {f : Nat → Int} {i n : Nat} (h : n ≤ i) : firstR f i n = 0 := by
  unfold firstR; rw [show n - i = 0 by omega] <;> rfl
theorem mget_mset {α β : Type} [DecidableEq α] : ∀ (m : List (α × β)) (x z : α) (y : β), mget (mset m x y) z = if z = x then some y else mget m z
  | [], x, z, y => by simp [mset, mget]
  | (a, b) :: r, x, z, y => by
    by_cases h : x = a
    · subst h; simp only [mset, if_pos, mget]; by_cases h2 : z = x <;> simp [h2]
    simp only [mset, if_neg h, mget, mget_mset r x z y]; by_cases h2 : z = a
    · subst h2; have : ¬ z = x := fun e => h e.symm; simp [this]
    simp [h2]
abbrev Pha := ByteArray × Int × Int × List Int
def phA (l : List Pha) (i : Nat) : Pha := l.getD i (ByteArray.empty, 0, 0, [])
def lastB (b : List Int) : Nat → Int
  | 0 => -1
  | k + 1 => b.getD k 0
end Go.Proofs
namespace Go.Proofs
open Go.Fs
set_option maxHeartbeats 1000000
theorem wrap_nat {n : Nat} (h : n < 2 ^ 63) : IntKind.i64.wrap ((n : Nat) : Int) = ((n : Nat) : Int) := by
  have e : (2 : Nat) ^ 63 = 9223372036854775808 := by decide
  exact wrap64 (by omega) (by omega)
theorem ofI_nat {a : Nat} (h : a < 2 ^ 63) : (BitVec.ofInt IntKind.i64.bits ((a : Nat) : Int)).toNat = a := by
  show (BitVec.ofInt 64 ((a : Nat) : Int)).toNat = a; rw [BitVec.ofInt_natCast, BitVec.toNat_ofNat]; exact Nat.mod_eq_of_lt (Nat.lt_trans h (by decide))
theorem orI_nat {a b : Nat} (ha : a < 2 ^ 63) (hb : b < 2 ^ 63) : Fs.orI ((a : Nat) : Int) ((b : Nat) : Int) = ((a ||| b : Nat) : Int) := by
  unfold Fs.orI; rw [BitVec.toNat_or, ofI_nat ha, ofI_nat hb]; exact wrap_nat (Nat.or_lt_two_pow ha hb)
theorem andI_nat {a b : Nat} (ha : a < 2 ^ 63) (hb : b < 2 ^ 63) : Fs.andI ((a : Nat) : Int) ((b : Nat) : Int) = ((a &&& b : Nat) : Int) := by
  unfold Fs.andI; rw [BitVec.toNat_and, ofI_nat ha, ofI_nat hb]; exact wrap_nat (Nat.and_lt_two_pow _ hb)
structure SetOk (n : Nat) (s : Int) : Prop where
  n9 : n ≤ 9
  lo : 0 ≤ s
  hi : s.toNat < 2 ^ n
theorem SetOk.big {n : Nat} {s : Int} (h : SetOk n s) : s.toNat < 512 := Nat.lt_of_lt_of_le h.hi (Nat.pow_le_pow_right (by decide) (show n ≤ 9 from h.n9))
theorem set_of {n : Nat} {s : Int} (hn : n ≤ 9) (h0 : 0 ≤ s) (h1 : s < (1 : Int) * 2 ^ ((n : Nat) : Int).toNat) : SetOk n s := ⟨hn, h0, by
  rw [Int.toNat_natCast, Int.one_mul] at h1
  have : ((s.toNat : Nat) : Int) < ((2 ^ n : Nat) : Int) := by rw [Int.toNat_of_nonneg h0]; simpa using h1
  omega⟩
theorem hasI_bit {s : Int} {i : Nat} (h0 : 0 ≤ s) (h1 : s.toNat < 2 ^ 63) : hasI s ((i : Nat) : Int) = s.toNat.testBit i := by
  obtain ⟨a, rfl⟩ : ∃ a : Nat, s = ((a : Nat) : Int) := ⟨s.toNat, (Int.toNat_of_nonneg h0).symm⟩; rw [Int.toNat_natCast] at h1 ⊢; unfold hasI
  rw [Int.toNat_natCast, show ((a : Nat) : Int).fdiv (2 ^ i) = ((a / 2 ^ i : Nat) : Int) by
    rw [Int.fdiv_eq_ediv_of_nonneg _ (by exact_mod_cast Nat.zero_le (2 ^ i))]; simp]
  rw [show (1 : Int) = ((1 : Nat) : Int) from rfl, andI_nat (Nat.lt_of_le_of_lt (Nat.div_le_self _ _) h1) (by decide)]; rw [Nat.and_one_is_mod, Nat.testBit_eq_decide_div_mod_eq]; exact decide_eq_decide.2 ⟨fun h => by omega, fun h => by omega⟩
def nxtI (s : Int) (i : Nat) : Int := ((s.toNat ||| 2 ^ i : Nat) : Int)
theorem pow_63 {i : Nat} (h : i ≤ 9) : (2 : Nat) ^ i < 2 ^ 63 := Nat.pow_lt_pow_right (by decide) (by omega)
theorem orI_nxt {n : Nat} {s : Int} (h : SetOk n s) {i : Nat} (hi : i ≤ 9) : Fs.orI s ((1 : Int) * 2 ^ (((i : Nat) : Int)).toNat) = nxtI s i := by
  have hb := h.big; obtain ⟨a, rfl⟩ : ∃ a : Nat, s = ((a : Nat) : Int) := ⟨s.toNat, (Int.toNat_of_nonneg h.lo).symm⟩; rw [Int.toNat_natCast] at hb; rw [Int.toNat_natCast, Int.one_mul, show (2 : Int) ^ i = ((2 ^ i : Nat) : Int) by simp]; exact orI_nat (Nat.lt_trans hb (by decide)) (pow_63 hi)
theorem nxt_nat {s : Int} {i : Nat} : (nxtI s i).toNat = s.toNat ||| 2 ^ i := Int.toNat_natCast _
theorem nxt_bit {s : Int} {i k : Nat} : (nxtI s i).toNat.testBit k = (s.toNat.testBit k || decide (i = k)) := by
  rw [nxt_nat, Nat.testBit_or, Nat.testBit_two_pow]
theorem nxt_ok {n : Nat} {s : Int} (h : SetOk n s) {i : Nat} (hi : i < n) : SetOk n (nxtI s i) := ⟨h.n9, Int.natCast_nonneg _, by
  rw [nxt_nat]; exact Nat.or_lt_two_pow h.hi (Nat.pow_lt_pow_right (by decide) hi)⟩
theorem nat_ext {a b : Nat} (h : ∀ k, a.testBit k = b.testBit k) : a = b := Nat.eq_of_testBit_eq h
theorem bit_hi {n a : Nat} (h : a < 2 ^ n) {k : Nat} (hk : n ≤ k) : a.testBit k = false := Nat.testBit_lt_two_pow (Nat.lt_of_lt_of_le h (Nat.pow_le_pow_right (by decide) hk))
theorem set_ext {n : Nat} {s t : Int} (h : SetOk n s) (h2 : SetOk n t) (hb : ∀ k, k < n → s.toNat.testBit k = t.toNat.testBit k) : s = t := by
  have : s.toNat = t.toNat := nat_ext fun k => by
    by_cases hk : k < n
    · exact hb k hk
    rw [bit_hi h.hi (by omega), bit_hi h2.hi (by omega)]
  have := h.lo; have := h2.lo; omega
theorem nxt_self {n : Nat} {s : Int} (h : SetOk n s) {i : Nat} (hi : i < n) (hb : s.toNat.testBit i = true) : nxtI s i = s := set_ext (nxt_ok h hi) h fun k hk => by
  rw [nxt_bit]; by_cases e : i = k
  · subst e; rw [hb] <;> rfl
  rw [decide_eq_false e, Bool.or_false]
theorem nxt_lt {s : Int} {i : Nat} (h0 : 0 ≤ s) (hb : s.toNat.testBit i = false) : s < nxtI s i := by
  have h1 : s.toNat ≤ s.toNat ||| 2 ^ i := Nat.left_le_or
  have h2 : s.toNat ≠ s.toNat ||| 2 ^ i := fun e => by
    have := congrArg (fun a => a.testBit i) e; simp only [Nat.testBit_or, Nat.testBit_two_pow_self, Bool.or_true, hb] at this; cases this
  unfold nxtI; omega
theorem zero_bit {k : Nat} : (0 : Int).toNat.testBit k = false := Nat.zero_testBit k
theorem zero_ok {n : Nat} (h : n ≤ 9) : SetOk n 0 := ⟨h, Int.le_refl _, Nat.two_pow_pos n⟩
def fulI (n : Nat) : Int := ((2 ^ n - 1 : Nat) : Int)
theorem ful_ok {n : Nat} (h : n ≤ 9) : SetOk n (fulI n) := ⟨h, Int.natCast_nonneg _, by unfold fulI; rw [Int.toNat_natCast]; have := Nat.two_pow_pos n; omega⟩
theorem ful_bit {n k : Nat} (h : k < n) : (fulI n).toNat.testBit k = true := by
  unfold fulI; rw [Int.toNat_natCast, Nat.testBit_two_pow_sub_one]; exact decide_eq_true h
theorem ful_eq {n : Nat} : (1 : Int) * 2 ^ ((n : Nat) : Int).toNat - 1 = fulI n := by
  unfold fulI; have := Nat.two_pow_pos n; rw [Int.toNat_natCast, Int.one_mul, show (2 : Int) ^ n = ((2 ^ n : Nat) : Int) by simp]; omega
def misN (n : Nat) (s : Int) : Nat := ((List.range n).filter fun i => !s.toNat.testBit i).length
theorem mis_full {n : Nat} {s : Int} (h : SetOk n s) : misN n s = 0 ↔ s = fulI n := by
  unfold misN; rw [List.length_eq_zero_iff, List.filter_eq_nil_iff]; constructor
  · intro h1; refine set_ext h (ful_ok h.n9) fun k hk => ?_; rw [ful_bit hk]; simpa using h1 k (List.mem_range.2 hk)
  rintro rfl k hk; rw [ful_bit (List.mem_range.1 hk)]; simp
theorem filter_less {P Q : Nat → Bool} {x : Nat} : ∀ {l : List Nat}, l.Nodup → x ∈ l → P x = true → Q x = false → (∀ y, y ≠ x → P y = Q y) → (l.filter Q).length + 1 = (l.filter P).length
  | [], _, h, _, _, _ => by cases h
  | y :: l, hn, h, hp, hq, he => by
    obtain ⟨h1, h2⟩ := List.nodup_cons.1 hn; rw [List.filter_cons, List.filter_cons]; by_cases e : y = x
    · subst e; rw [if_neg (by rw [hq]; decide), if_pos hp, List.length_cons]; congr 2; exact List.filter_congr fun z hz => (he z (fun e => h1 (e ▸ hz))).symm
    have ih := filter_less h2 ((List.mem_cons.1 h).resolve_left (fun e2 => e e2.symm)) hp hq he; rw [he y e]; split
    · rw [List.length_cons, List.length_cons]; omega
    exact ih
theorem mis_next {n : Nat} {s : Int} {i : Nat} (hi : i < n) (hb : s.toNat.testBit i = false) : misN n (nxtI s i) + 1 = misN n s := by
  unfold misN; refine filter_less List.nodup_range (List.mem_range.2 hi) (by rw [hb]; rfl) (by rw [nxt_bit]; simp) fun y hy => ?_; rw [nxt_bit, decide_eq_false (fun e => hy e.symm), Bool.or_false]
theorem mis_zero {n : Nat} : misN n 0 = n := by
  unfold misN; rw [List.filter_eq_self.2 fun k _ => by rw [zero_bit]; rfl]; simp
def mayB (g : Gat) (s : Int) (i : Nat) : Bool := !s.toNat.testBit i && permE g (nxtI s i) g.1.length
def moreL (g : Gat) (s : Int) : List (Int × Int) := ((List.range g.1.length).filter (mayB g s)).map fun i => (((i : Nat) : Int), nxtI s i)
theorem more_mem {g : Gat} {s : Int} {x : Int × Int} : x ∈ moreL g s ↔ ∃ i, i < g.1.length ∧ mayB g s i = true ∧ x = (((i : Nat) : Int), nxtI s i) := by
  unfold moreL; simp only [List.mem_map, List.mem_filter, List.mem_range]; constructor
  · rintro ⟨i, ⟨h1, h2⟩, rfl⟩; exact ⟨i, h1, h2, rfl⟩
  rintro ⟨i, h1, h2, rfl⟩; exact ⟨i, ⟨h1, h2⟩, rfl⟩
theorem may_2 {g : Gat} {s : Int} {i : Nat} (h : mayB g s i = true) : s.toNat.testBit i = false ∧ permE g (nxtI s i) g.1.length = true := by
  obtain ⟨h1, h2⟩ := band h; exact ⟨by simpa using h1, h2⟩
theorem more_ok {g : Gat} {s : Int} (h : SetOk g.1.length s) {x : Int × Int} (hx : x ∈ moreL g s) : SetOk g.1.length x.2 ∧ misN g.1.length x.2 + 1 = misN g.1.length s ∧ 0 ≤ x.1 ∧ x.1 < ((g.1.length : Nat) : Int) ∧ s < x.2 ∧ permE g x.2 g.1.length = true := by
  obtain ⟨i, hi, hm, rfl⟩ := more_mem.1 hx; obtain ⟨h1, h2⟩ := may_2 hm; exact ⟨nxt_ok h hi, mis_next hi h1, Int.natCast_nonneg _, by show ((i : Nat) : Int) < _; omega, nxt_lt h.lo h1, h2⟩
def moreD (g : Gat) (s : Int) (i : Nat) : List (Int × Int) := ((List.range' i (g.1.length - i)).filter (mayB g s)).map fun i => (((i : Nat) : Int), nxtI s i)
theorem moreD_0 {g : Gat} {s : Int} : moreL g s = moreD g s 0 := by
  unfold moreL moreD; rw [List.range_eq_range'] <;> rfl
theorem moreD_t {g : Gat} {s : Int} {i : Nat} (hi : i < g.1.length) (h : mayB g s i = true) : moreD g s i = (((i : Nat) : Int), nxtI s i) :: moreD g s (i + 1) := by
  unfold moreD; rw [show g.1.length - i = (g.1.length - (i + 1)) + 1 by omega, List.range'_succ, List.filter_cons, if_pos h] <;> rfl
theorem moreD_f {g : Gat} {s : Int} {i : Nat} (hi : i < g.1.length) (h : mayB g s i = false) : moreD g s i = moreD g s (i + 1) := by
  unfold moreD; rw [show g.1.length - i = (g.1.length - (i + 1)) + 1 by omega, List.range'_succ, List.filter_cons, if_neg (by rw [h]; decide)]
theorem moreD_end {g : Gat} {s : Int} {i : Nat} (hi : g.1.length ≤ i) : moreD g s i = [] := by
  unfold moreD; rw [show g.1.length - i = 0 by omega] <;> rfl
abbrev Dead := List (Int × Bool)
def deadB (m : Dead) (s : Int) : Bool := (mget m s).getD false
def goM (R : Int → Dead → Option (List Int) × Dead) : List (Int × Int) → Dead → Option (List Int) × Dead
  | [], m => (none, m)
  | x :: r, m => if deadB m x.2 = true then goM R r m else
    match (R x.2 m).1 with
    | some o => (some (x.1 :: o), (R x.2 m).2)
    | none => goM R r (R x.2 m).2
def ordM (g : Gat) : Nat → Int → Dead → Option (List Int) × Dead
  | 0, _, m => (some [], m)
  | f + 1, s, m => ((goM (ordM g f) (moreL g s) m).1, if (goM (ordM g f) (moreL g s) m).1.isSome = true then (goM (ordM g f) (moreL g s) m).2 else mset (goM (ordM g f) (moreL g s) m).2 s true)
def ordF (g : Gat) : Nat → Int → Option (List Int)
  | 0, _ => some []
  | f + 1, s => (moreL g s).findSome? fun x => (ordF g f x.2).map fun o => x.1 :: o
def ordN (g : Gat) (s : Int) : Option (List Int) := ordF g (misN g.1.length s) s
def DeadOk (g : Gat) (m : Dead) : Prop := ∀ s, deadB m s = true → ordN g s = none
theorem goM_ok {g : Gat} {f : Nat} {R : Int → Dead → Option (List Int) × Dead} (hR : ∀ s m, SetOk g.1.length s → misN g.1.length s = f → DeadOk g m → (R s m).1 = ordF g f s ∧ DeadOk g (R s m).2) : ∀ (r : List (Int × Int)) (m : Dead), (∀ x ∈ r, SetOk g.1.length x.2 ∧ misN g.1.length x.2 = f) → DeadOk g m →
    (goM R r m).1 = (r.findSome? fun x => (ordF g f x.2).map fun o => x.1 :: o) ∧ DeadOk g (goM R r m).2
  | [], m, _, hm => ⟨rfl, hm⟩
  | x :: r, m, hr, hm => by
    have hx := hr x List.mem_cons_self; have hr2 : ∀ y ∈ r, SetOk g.1.length y.2 ∧ misN g.1.length y.2 = f := fun y hy => hr y (List.mem_cons_of_mem _ hy); rw [List.findSome?_cons]; unfold goM; by_cases hd : deadB m x.2 = true
    · rw [if_pos hd]; have h1 := hm _ hd; unfold ordN at h1; rw [hx.2] at h1; rw [h1]; exact goM_ok hR r m hr2 hm
    rw [if_neg hd]; obtain ⟨h1, h2⟩ := hR x.2 m hx.1 hx.2 hm; rw [h1]
    cases ho : ordF g f x.2 with
    | some o => exact ⟨rfl, h2⟩
    | none => exact goM_ok hR r _ hr2 h2
theorem ordM_ok {g : Gat} : ∀ (f : Nat) (s : Int) (m : Dead), SetOk g.1.length s → misN g.1.length s = f → DeadOk g m → (ordM g f s m).1 = ordF g f s ∧ DeadOk g (ordM g f s m).2
  | 0, s, m, _, _, hm => ⟨rfl, hm⟩
  | f + 1, s, m, hs, hf, hm => by
    obtain ⟨h1, h2⟩ := goM_ok (fun s m a b c => ordM_ok f s m a b c) (moreL g s) m (fun x hx => by have := more_ok hs hx; exact ⟨this.1, by omega⟩) hm; refine ⟨h1, ?_⟩; show DeadOk g (if _ then _ else _); split
    · exact h2
    rename_i hn; intro t ht; unfold deadB at ht; rw [mget_mset] at ht; by_cases e : t = s
    · subst e; rw [h1] at hn; unfold ordN; rw [hf]; simpa [ordF] using hn
    rw [if_neg e] at ht; exact h2 t ht
theorem dead_nil {g : Gat} : DeadOk g [] := fun s hs => by cases hs
end Go.Proofs
namespace Go.Proofs
open Go.Fs
set_option maxHeartbeats 1000000
structure PlanOk (l : List Pha) : Prop where
  len : l.length ≤ 16
  dur : ∀ i, i < l.length → 0 ≤ (phA l i).2.1 ∧ (phA l i).2.1 ≤ (phA l i).2.2.1 ∧ (phA l i).2.2.1 ≤ 1000
  bef : ∀ i, i < l.length → ∀ k, k < (phA l i).2.2.2.length → 0 ≤ (phA l i).2.2.2.getD k 0 ∧ (phA l i).2.2.2.getD k 0 < ((i : Nat) : Int) ∧ ∀ j, j < k → (phA l i).2.2.2.getD j 0 < (phA l i).2.2.2.getD k 0
def fillL (A : List Int) (n : Nat) : List Int := A ++ List.replicate (n - A.length) 0
theorem fill_get {A : List Int} {n p : Nat} (h : p < A.length) : (fillL A n).getD p 0 = A.getD p 0 := by
  unfold fillL; rw [List.getD_eq_getElem?_getD, List.getElem?_append_left h, ← List.getD_eq_getElem?_getD]
end Go.Proofs
namespace Go.Fs
variable {P : Program} {orc : FuncId → List Value → Heap → Option (Value × Heap)} {rnd : Option Nat} {h h' h0 h1 h2 hs : Heap} {S S' S0 B G : List Nat} {σ σ' : Sto} {t t' : Tr} {ms : List Nat} {fl : VL} {ops : Array Oper} {n i mem : Nat} {l : List Oper} {K : VL → Sto → Prop} {Q : Ex → VL → Sto → Prop}
  {d d1 d2 : Tmp} {ty ty1 ty2 : TypeId} {pos pos1 pos2 : String} {after after1 after2 : Array Edge} {op : Op} {v v1 : PV} {g g1 g2 : Option (Nat × Bool)} {bs nw : List Nat} {segs : List (Nat × Nat × Nat)} {tail so : Bool}
section
variable (P orc)
end
end Go.Fs
namespace Go.Fs
variable {P : Program} {orc : FuncId → List Value → Heap → Option (Value × Heap)} {rnd : Option Nat} {h h' h0 h1 h2 : Heap} {S S' S0 B G : List Nat} {σ σ' : Sto} {t t' : Tr} {ms : List Nat} {fl : VL} {ops : Array Oper} {n i mem : Nat} {l : List Oper} {K : VL → Sto → Prop} {Q : Ex → VL → Sto → Prop}
  {d : Tmp} {ty : TypeId} {pos : String} {after : Array Edge} {op : Op} {v pv : PV} {g : Option (Nat × Bool)} {bs nw : List Nat} {segs : List (Nat × Nat × Nat)} {so : Bool}
end Go.Fs
namespace Go.Fs
variable {P : Program} {orc : FuncId → List Value → Heap → Option (Value × Heap)} {rnd : Option Nat} {h h' h0 h1 h2 : Heap} {S S' S0 B G : List Nat} {σ σ' σr : Sto} {t t' : Tr} {ms : List Nat} {fl : VL} {ops : Array Oper} {n i mem : Nat} {l : List Oper} {K : VL → Sto → Prop} {Q : Ex → VL → Sto → Prop}
  {d : Tmp} {ty : TypeId} {pos : String} {after : Array Edge} {op : Op} {v pv : PV} {g : Option (Nat × Bool)} {x y z : Operand} {T T' e e' : TypeId} {τ τ' : Ty} {w w' : Value} {c c' : Cell}
end Go.Fs
namespace Go.Fs
variable {P : Program} {orc : FuncId → List Value → Heap → Option (Value × Heap)} {τ : Ty}
theorem VF.args {f : FuncId} {a a' : List PV} {r : PV} (h : ∀ h S us, RepL h S a' us → RepL h S a us) (hf : VF P orc f a r) : VF P orc f a' r := fun H S us hok hS hu => hf H S us hok hS (h H S us hu)
theorem repL_nil {h : Heap} {S : List Nat} {us : List Value} {q : List PV} : ∀ {p : List PV} {us : List Value}, RepL h S (p ++ nilV :: q) us → RepL h S (p ++ .v (.sl τ) [] :: q) us
  | [], us, ⟨u, r, h1, h2, h3⟩ => ⟨u, r, h1, by rw [show u = _ from h2]; exact SlV.nil.rep, h3⟩
  | x :: p, us, ⟨u, r, h1, h2, h3⟩ => ⟨u, r, h1, h2, repL_nil (us := us) h3⟩
theorem VF.nilA {f : FuncId} (p q : List PV) {r : PV} (hf : VF P orc f (p ++ .v (.sl τ) [] :: q) r) : VF P orc f (p ++ nilV :: q) r := hf.args fun _ _ us hu => repL_nil (us := us) hu
end Go.Fs
namespace Go.Fs
variable {P : Program} {fl : VL} {σ γ : Sto} {Q : PV → Sto → Prop} {fn : Func} {τ : Ty}
end Go.Fs
namespace Go.Fs
variable {P : Program} {fl : VL} {σ γ : Sto} {Q : PV → Sto → Prop} {fn : Func}
theorem VEndG.two {r r' : ResultVar} {p q : PV} (hr : fn.results = #[r, r']) (h1 : EndV P fl [] r p) (h2 : EndV P fl [] r' q) (hQ : Q (.tup [p, q]) σ) (ho : own σ = own γ) (hf : (σ.all fun c => c.2.flat) = true) : VEndG P fn γ Q .ret fl σ :=
  ⟨rfl, [p, q], by rw [hr]; exact .cons h1 (.cons h2 .nil), hQ, .inr (.inl ⟨ho, fun c hc => List.all_eq_true.1 hf c hc⟩)⟩
theorem mp_end {w : Value} {κ ν τ τ' : Ty} {m m' : List (κ.den × ν.den)} {x x' : τ.den} {y y' : τ'.den} (h1 : x = x') (h2 : y = y') (h3 : m = m') : PV.tup [.v τ x, .v τ' y] = PV.tup [.v τ x', .v τ' y'] ∧ [(w, Cell.mp κ ν m)] = [(w, Cell.mp κ ν m')] := by
  subst h1 h2 h3; exact ⟨rfl, rfl⟩
end Go.Fs
namespace Go.Fs
variable {P : Program} {orc : FuncId → List Value → Heap → Option (Value × Heap)} {rnd : Option Nat} {h h' h0 h1 h2 : Heap} {S S' S0 B G : List Nat} {σ σ' : Sto} {t t' : Tr} {ms : List Nat} {fl : VL} {ops : Array Oper} {n : Nat} {l : List Oper} {K : VL → Sto → Prop} {Q : Ex → VL → Sto → Prop}
  {d : Tmp} {ty : TypeId} {pos : String} {after : Array Edge} {op : Op} {v : PV} {g : Option (Nat × Bool)}
end Go.Fs
namespace Go.Fs
variable {P : Program} {fl : VL} {σ : Sto} {T : TypeId} {τ : Ty} {h : Heap} {S : List Nat}
inductive PartP : PV → List PV → Prop where
  | v {τ : Ty} {x : τ.den} : PartP (.v τ x) (cellsPV τ x)
  | w {w : Value} (ho : oneCell w = true) : PartP (.raw w) [.raw w]
inductive BldR (pl : List (Nat × Nat)) : List PV → List Nat → List PV → List PV → Prop where
  | nil {L L' : List PV} (h : L = L') : BldR pl L [] [] L'
  | cons {L L' : List PV} {i o : Nat} {is : List Nat} {p : PV} {ps qs : List PV} (hp : PartP p qs) (hpl : pl[i]? = some (o, qs.length)) (ho : Nat.ble (o + qs.length) L.length = true) (r : BldR pl (spl L o qs) is ps L') : BldR pl L (i :: is) (p :: ps) L'
end Go.Fs
namespace Go.Fs
variable {P : Program} {fl : VL} {σ : Sto} {T T' : TypeId} {x y : Operand} {p q : Int}
end Go.Fs
namespace Go.Fs
variable {P : Program} {orc : FuncId → List Value → Heap → Option (Value × Heap)} {h : Heap} {σ ρ : Sto} {fl : VL} {ops : Array Oper} {n i mem : Nat} {l : List Oper} {K : VL → Sto → Prop} {nw bs : List Nat} {tl : Bool} {hr : Heap} {S0 A : List Nat} {t : Tr} {rd chg : List Nat}
def keysNew : VL → List Nat → List Nat
  | [], nw => nw
  | (k, _) :: r, nw => k :: keysNew r nw
theorem keysNew_no : ∀ {nl : VL} {nw : List Nat} {k : Nat}, nwHas (keysNew nl nw) k = false → (∀ pv, lkV (nl ++ fl) k = some pv → lkV fl k = some pv) ∧ nwHas nw k = false
  | [], nw, k, h => ⟨fun _ h => h, h⟩
  | (j, v) :: r, nw, k, h => by
    simp only [keysNew, nwHas] at h
    cases hb : Nat.beq j k with
    | true => rw [hb] at h; cases h
    | false =>
      rw [hb] at h; obtain ⟨h1, h2⟩ := keysNew_no (nl := r) h; refine ⟨fun pv hp => h1 pv ?_, h2⟩; simp only [List.cons_append, lkV, hb, cond_false] at hp; exact hp
theorem VLt.shut {c : Value × Cell} (nl : VL) (hs : Shut fl c nl) (hk : VLt P orc ops n l i (nl ++ fl) (keysNew nl nw) σ ρ bs mem tl K) (hf : ∃ σ1, σ = σ1 ++ ρ) : VLt P orc ops n l i fl nw (c :: σ) ρ bs mem tl K := fun hr h0 G S0 A t h ms rd chg segs tail ht I L =>
  have ho : own (c :: σ) = blk c.1 ++ own σ := rfl
  hk hr h0 G S0 A t h ms rd chg segs tail ht (I.shut hs) { L with
    goes := fun b o hg hb => by
      obtain ⟨g1, g2⟩ := L.goes b o hg hb; refine ⟨g1, fun hm => g2 ?_⟩; rw [ho]; rcases List.mem_append.1 hm with hm | hm
      · exact List.mem_append_left _ (List.mem_append_right _ hm)
      exact List.mem_append_right _ hm
    slots := fun k pv hp hn => by
      obtain ⟨h1, h2⟩ := keysNew_no (fl := fl) hn; exact L.slots k pv (h1 pv hp) h2
    suf := hf
    new := fun b hb => L.new b (by rw [ho]; exact List.mem_append_right _ hb) }
end Go.Fs
namespace Go.Fs
variable {P : Program} {orc : FuncId → List Value → Heap → Option (Value × Heap)} {rnd : Option Nat} {h h' h0 h1 h2 : Heap} {S S' S0 B G : List Nat} {σ σ' : Sto} {t t' : Tr} {ms : List Nat} {fl : VL} {ops : Array Oper} {n i mem : Nat} {l : List Oper} {K : VL → Sto → Prop} {Q : Ex → VL → Sto → Prop}
  {d : Tmp} {ty : TypeId} {pos : String} {after : Array Edge} {op : Op} {v pv : PV} {g : Option (Nat × Bool)} {bs nw : List Nat} {segs : List (Nat × Nat × Nat)} {so : Bool} {mk : Nat} {nw0 : List Nat}
section
variable (P orc)
end
end Go.Fs
namespace Go.Proofs
open Go.Fs
set_option maxHeartbeats 1000000
abbrev y109 : Ty := (.mp (.int .i64) .bool)
theorem vt4CH : ValT Tryz.prog 4 .bool := valT_of (by kernel_rfl)
theorem vt109 : ValT Tryz.prog 109 y109 := valT_of (by kernel_rfl)
theorem zt25CH : ZerT Tryz.prog 25 y25 := zerT_of (z := .slice none 0 0) (by kernel_rfl) rfl rfl
theorem mt109CH : MapT Tryz.prog 109 (.int .i64) .bool := ⟨3, 4, by kernel_rfl, keyInt (by kernel_rfl), zt4⟩
theorem cMore1_ok {g : (List Int) × (List Int) × (List (List Int))} {s : Int} (hg : gatesE g = 0) (hs : SetOk g.1.length s) : IterC Tryz.prog OA 156 [] [.p y92 g, .p (.int .i64) s] (fun x : Int × Int => [I x.1, I x.2]) (moreL g s) := by
  refine IterC.enter Tryz.func156 rfl rfl (fun _ => rfl) fun yv II EE γ hy hI => ?_; show VC _ _ _ _ _ [(0, .raw yv), (1, .p y92 g), (2, .p (.int .i64) s)] γ _; refine VC.seq (VC.text ?_); have hd := head_ok (gates_ok hg).1; refine VO.c (.fa (.l .o)) ?_; refine VO.r (.ld vt25) ?_; refine VO.r (.len el25) ?_; refine VO.c (.move rfl) ?_; refine VO.go (VC.block ?_); refine VC.keep [(0, .raw yv), (1, .p y92 g), (2, .p (.int .i64) s), (8, I ((g.1.length : Nat) : Int)), (9, I ((0 : Nat) : Int))] ⟨rfl, rfl, rfl, rfl, rfl, trivial⟩ ?_; refine VC.loop (I := fun kk ff ss => ∃ (i : Nat), kk = g.1.length - i ∧ ff = [(0, .raw yv), (1, .p y92 g), (2, .p (.int .i64) s), (8, I ((g.1.length : Nat) : Int)), (9, I ((i : Nat) : Int))] ∧ (i ≤ g.1.length) ∧ II (moreD g s i) ss) ?_ _ _ _ ⟨0, rfl, rfl, Nat.zero_le _, (by rw [← moreD_0]; exact hI)⟩; rintro kk ff ss ⟨i, hk0, rfl, hi, hI⟩; refine VC.seq (VC.text ?_); refine VO.c (.lss) ?_; refine VO.go (VC.seq ?_); refine VC.condD rfl (fun c1 => ?_) (fun c1 => ?_)
  · have hlt : i < g.1.length := by omega
    have hbit := hasI_bit (s := s) (i := i) hs.lo (Nat.lt_trans hs.big (by decide)); have hp9 := pow9 (n := i) (by omega); refine VC.skip (VC.seq (VC.block (VC.seq (VC.text ?_)))); refine VO.c (.move rfl) (VO.c (.assign rfl) ?_); refine VO.go (VC.seq (VC.drawn ?_)); refine VD.r [] (.ld vt3) (.inl rfl) ?_; refine VD.c (.move rfl) (VD.c (.shl rfl rfl (by omega) (by omega)) (VD.c ((.orI rfl rfl)) ?_)); rw [orI_nxt hs (show i ≤ 9 by omega)]; refine VD.c (.assign rfl) ?_; refine VD.go (VC.seq (VC.text ?_)); refine VO.r (.ld vt3) ?_; refine VO.c (.move rfl) ?_; refine VO.call rfl rfl (VF.call (cHas_ok (by first | assumption | omega | simp))) ?_; refine VO.c (.not) (VO.c (.move rfl) ?_); refine VO.splitB (x := 20) rfl (fun g4_4 => ?_) (fun g4_4 => ?_)
    · try simp only [Bool.and_eq_true, Bool.or_eq_true, Bool.and_eq_false_iff, Bool.or_eq_false_iff, Bool.not_eq_true', Bool.not_eq_false', decide_eq_true_eq, decide_eq_false_iff_not] at g4_4
      refine VO.r (.ld vt92) ?_; refine VO.c (.move rfl) ?_; refine VO.call rfl rfl (VF.call (cPerm_ok (by first | assumption | omega | simp))) ?_; refine VO.c (.pickT rfl rfl) (VO.c (.move rfl) ?_); refine VO.splitB (x := 25) rfl (fun g4_9 => ?_) (fun g4_9 => ?_)
      · have hmt : mayB g s i = true := by unfold mayB; rw [← hbit, g4_4, g4_9] <;> rfl
        refine VO.c (.move rfl) (VO.c (.move rfl) (VO.c (.move rfl) ?_)); refine VO.callY0 rfl rfl (hy (((i : Nat) : Int), nxtI s i) (moreD g s (i + 1)) _ (by rw [moreD_t hlt hmt] at hI; exact hI)) ?_; rintro _ ss (⟨rfl, hI⟩ | ⟨rfl, hE⟩)
        · refine VO.c (.not) (VO.c (.pickT rfl rfl) (VO.go ?_)); refine VC.condF rfl ?_; refine VC.skip (VC.text ?_); refine VO.c (.add rfl rfl (by omega)) (VO.c (.move rfl) ?_); refine VO.nil ?_; refine ⟨_, [(0, .raw yv), (1, .p y92 g), (2, .p (.int .i64) s), (8, I ((g.1.length : Nat) : Int)), (9, I (((i + 1) : Nat) : Int))], ?_, ⟨rfl, rfl, rfl, rfl, rfl, trivial⟩, (i + 1), rfl, rfl, (by omega), (by first | exact hI | (rw [moreD_f hlt hmf] at hI; exact hI))⟩; omega
        refine VO.c (.not) (VO.c (.pickT rfl rfl) (VO.go ?_)); refine VC.condT rfl ?_; refine VC.ret ?_; exact ⟨rfl, .inr hE⟩
      have hmf : mayB g s i = false := by unfold mayB; rw [g4_9, Bool.and_false]
      refine VO.skip (VO.skip (VO.skip (VO.skip ?_))); refine VO.skip (VO.c (.pickF rfl rfl) (VO.go ?_)); refine VC.condF rfl ?_; refine VC.skip (VC.text ?_); refine VO.c (.add rfl rfl (by omega)) (VO.c (.move rfl) ?_); refine VO.nil ?_; refine ⟨_, [(0, .raw yv), (1, .p y92 g), (2, .p (.int .i64) s), (8, I ((g.1.length : Nat) : Int)), (9, I (((i + 1) : Nat) : Int))], ?_, ⟨rfl, rfl, rfl, rfl, rfl, trivial⟩, (i + 1), rfl, rfl, (by omega), (by first | exact hI | (rw [moreD_f hlt hmf] at hI; exact hI))⟩; omega
    try simp only [Bool.and_eq_true, Bool.or_eq_true, Bool.and_eq_false_iff, Bool.or_eq_false_iff, Bool.not_eq_true', Bool.not_eq_false', decide_eq_true_eq, decide_eq_false_iff_not] at g4_4
    have hmf : mayB g s i = false := by unfold mayB; rw [← hbit, g4_4] <;> rfl
    refine VO.skip (VO.skip (VO.skip (VO.c (.pickF rfl rfl) ?_))); refine VO.c (.move rfl) (VO.skip (VO.skip (VO.skip ?_))); refine VO.skip (VO.skip (VO.c (.pickF rfl rfl) (VO.go ?_))); refine VC.condF rfl ?_; refine VC.skip (VC.text ?_); refine VO.c (.add rfl rfl (by omega)) (VO.c (.move rfl) ?_); refine VO.nil ?_; refine ⟨_, [(0, .raw yv), (1, .p y92 g), (2, .p (.int .i64) s), (8, I ((g.1.length : Nat) : Int)), (9, I (((i + 1) : Nat) : Int))], ?_, ⟨rfl, rfl, rfl, rfl, rfl, trivial⟩, (i + 1), rfl, rfl, (by omega), (by first | exact hI | (rw [moreD_f hlt hmf] at hI; exact hI))⟩; omega
  refine VC.exit ?_; exact ⟨rfl, .inl (by rw [moreD_end (by omega)] at hI; exact hI)⟩
theorem cMore_ok {g : (List Int) × (List Int) × (List (List Int))} {s : Int} : VF Tryz.prog OA 137 [.v y92 g, I s] (.clo 156 [] [.p y92 g, .p (.int .i64) s]) := by
  refine VF.enter Tryz.func137 rfl (fun _ _ => rfl) rfl ?_; show VC _ _ _ _ _ [(0, .v y92 g), (1, I s)] [] _; refine VC.seq (VC.text ?_); refine VO.new (.box) ?_; refine VO.new (.box) ?_; refine VO.c (.assign rfl) ?_; refine VO.go (VC.seq (VC.text ?_)); refine VO.c (.func) (VO.c (.assign rfl) (VO.go ?_)); refine VC.ret ?_; exact VEnd.one rfl evT rfl
theorem goM_dead {R : Int → Dead → Option (List Int) × Dead} {x : Int × Int} {r : List (Int × Int)} {m : Dead} (h : (mget m x.2).getD false = true) : goM R (x :: r) m = goM R r m := if_pos h
theorem goM_some {R : Int → Dead → Option (List Int) × Dead} {x : Int × Int} {r : List (Int × Int)} {m : Dead} (h : (mget m x.2).getD false = false) (h2 : (R x.2 m).1.isSome = true) : goM R (x :: r) m = (some (x.1 :: (R x.2 m).1.getD []), (R x.2 m).2) := by
  unfold goM; rw [if_neg (by unfold deadB; rw [h]; decide)]
  cases ho : (R x.2 m).1 with
  | none => rw [ho] at h2; cases h2
  | some o => rfl
theorem goM_none {R : Int → Dead → Option (List Int) × Dead} {x : Int × Int} {r : List (Int × Int)} {m : Dead} (h : (mget m x.2).getD false = false) (h2 : (R x.2 m).1.isSome = false) : goM R (x :: r) m = goM R r (R x.2 m).2 := by
  show (if _ then _ else _) = _; rw [if_neg (by unfold deadB; rw [h]; decide)]
  cases ho : (R x.2 m).1 with
  | none => rfl
  | some o => rw [ho] at h2; cases h2
def nxM (R : Int → Dead → Option (List Int) × Dead) (m : Dead) (x : Int × Int) : Dead := if deadB m x.2 = true then m else (R x.2 m).2
theorem goM_len {R : Int → Dead → Option (List Int) × Dead} {f : Nat} (hR : ∀ s m, ((R s m).1.getD []).length ≤ f) : ∀ (r : List (Int × Int)) (m : Dead), ((goM R r m).1.getD []).length ≤ f + 1
  | [], m => Nat.zero_le _
  | x :: r, m => by
    unfold goM; split
    · exact goM_len hR r m
    have h1 := hR x.2 m
    cases ho : (R x.2 m).1 with
    | some o => rw [ho] at h1; exact Nat.succ_le_succ h1
    | none => exact goM_len hR r _
theorem ordM_len {g : Gat} : ∀ (f : Nat) (s : Int) (m : Dead), ((ordM g f s m).1.getD []).length ≤ f
  | 0, s, m => Nat.le_refl _
  | f + 1, s, m => goM_len (fun s m => ordM_len f s m) _ _
theorem mis_le {n : Nat} {s : Int} : misN n s ≤ n := by
  unfold misN; exact Nat.le_trans (List.length_filter_le _ _) (by simp)
theorem cOrdS_ok {f : Nat} {g : (List Int) × (List Int) × (List (List Int))} {s : Int} {w_dead : Value} {dead : List (Int × Bool)} (hg : gatesE g = 0) (hs : SetOk g.1.length s) (hf : misN g.1.length s = f) (ih : ∀ {s' : Int} {m' : Dead} {w' : Value} {f' : Nat}, f' < f → SetOk g.1.length s' → misN g.1.length s' = f' → VFG Tryz.prog OA 135 [.v y92 g, I s', .raw w'] [(w', .mp (.int .i64) .bool m')] (fun r g' => r = .tup [.v y25 ((ordM g f' s' m').1.getD []), B ((ordM g f' s' m').1.isSome)] ∧ g' = [(w', .mp (.int .i64) .bool (ordM g f' s' m').2)])) : VFG Tryz.prog OA 135 [.v y92 g, I s, .raw w_dead] [(w_dead, .mp (.int .i64) .bool dead)] (fun rr gg => rr = .tup [.v y25 ((ordM g f s dead).1.getD []), B ((ordM g f s dead).1.isSome)] ∧ gg = [(w_dead, .mp (.int .i64) .bool ((ordM g f s dead).2))]) := by
  refine VFG.enter Tryz.func135 rfl (fun _ _ => rfl) rfl ?_; show VC _ _ _ _ _ [(0, .v y92 g), (1, I s), (2, .raw w_dead)] [(w_dead, .mp (.int .i64) .bool dead)] _; refine VC.seq (VC.text ?_); have hd := head_ok (gates_ok hg).1; have hp9 := pow9 (n := g.1.length) (by omega); refine VO.new (.box) ?_; refine VO.oneM m0 fun ho1 => ?_; refine VO.cell (.box (τ := y109) (.raw rfl (agg_one ho1) ho1)) ?_; intro ww2; refine VO.c (.assign rfl) (VO.c (.assign rfl) (VO.go ?_)); refine VC.scope ?_; refine VC.seq (VC.seq (VC.text ?_)); refine VO.c (.move rfl) (VO.c (.fa (.l .o)) ?_); refine VO.r (.ld vt25) ?_; refine VO.r (.len el25) ?_; refine VO.c (.shl rfl rfl (by omega) (by omega)) (VO.c (.sub rfl rfl (by omega)) (VO.c (.eql) (VO.go ?_))); refine VC.condD rfl (fun c1 => ?_) (fun c1 => ?_)
  · have h0 : f = 0 := by rw [← hf]; exact (mis_full hs).2 (c1.trans ful_eq)
    refine VC.seq (VC.text ?_); refine VO.c (.assign rfl) (VO.c (.assign rfl) (VO.go ?_)); refine VC.shutL [(ww2, .var [.raw w_dead])] [] rfl .nil ?_; refine VC.ret ?_; exact VEndG.two (P := Tryz.prog) (fn := Tryz.f135) (γ := [(w_dead, .mp (.int .i64) .bool dead)]) (Q := fun rr gg => rr = .tup [.v y25 ((ordM g f s dead).1.getD []), B ((ordM g f s dead).1.isSome)] ∧ gg = [(w_dead, .mp (.int .i64) .bool ((ordM g f s dead).2))]) rfl (evC .nil) evT (mp_end (by rw [h0]; rfl) (by rw [h0]; rfl) (by rw [h0] <;> rfl)) rfl rfl
  obtain ⟨f0, hf0⟩ : ∃ f0, f = f0 + 1 := ⟨f - 1, by have : f ≠ 0 := fun e => c1 (((mis_full hs).1 (hf.trans e)).trans ful_eq.symm); omega⟩
  have hoM : ordM g f s dead = ((goM (ordM g f0) (moreL g s) dead).1, if (goM (ordM g f0) (moreL g s) dead).1.isSome = true then (goM (ordM g f0) (moreL g s) dead).2 else mset (goM (ordM g f0) (moreL g s) dead).2 s true) := by rw [hf0] <;> rfl
  refine VC.skip (VC.seq (VC.text ?_)); refine VO.cell (.alloc zt25CH) ?_; intro ww3; refine VO.go (VC.seq (VC.text ?_)); refine VO.cell (.alloc zt4) ?_; intro ww4; refine VO.setV (cs' := [B false]) vt4CH .v ?_; refine VO.go (VC.seq ?_); refine VC.label ?_; refine VC.seq (VC.seq (VC.text ?_)); refine VO.r (.ld vt92) ?_; refine VO.c (.move rfl) ?_; refine VO.call rfl rfl (VF.call (cMore_ok )) ?_; refine VO.go (VC.block ?_); refine VC.keep [(1, I s), (3, .p y92 g), (5, .raw ww2), (8, .raw ww3), (9, .raw ww4), (23, .clo 156 [] [.p y92 g, .p (.int .i64) s])] ⟨rfl, rfl, rfl, rfl, rfl, rfl, trivial⟩ ?_; refine VC.rangeFunc rfl (cMore1_ok hg hs) (fun _ => rfl) rfl rfl (fun rest ss => ∃ (ma : Dead), ss = [(ww4, .var [B false]), (ww3, .var [.v y25 []]), (ww2, .var [.raw w_dead]), (w_dead, .mp (.int .i64) .bool ma)] ∧ (goM (ordM g f0) (moreL g s) dead = goM (ordM g f0) rest ma) ∧ (∀ y ∈ rest, y ∈ moreL g s)) (fun ee ss => (ee = .exit 0 ∧ ∃ (o : List Int), ∃ (mz : Dead), ss = [(ww4, .var [B true]), (ww3, .var [.v y25 o]), (ww2, .var [.raw w_dead]), (w_dead, .mp (.int .i64) .bool mz)] ∧ (goM (ordM g f0) (moreL g s) dead = (some o, mz)))) ⟨dead, rfl, (by rfl), (by exact fun y hy => hy)⟩ ?_ ?_ ?_
  · rintro jj x rest _ ⟨ma, rfl, hq, hsub⟩; show VC _ _ _ _ _ [(25, I x.2), (24, I x.1), (1, I s), (3, .p y92 g), (5, .raw ww2), (8, .raw ww3), (9, .raw ww4), (23, .clo 156 [] [.p y92 g, .p (.int .i64) s])] [(ww4, .var [B false]), (ww3, .var [.v y25 []]), (ww2, .var [.raw w_dead]), (w_dead, .mp (.int .i64) .bool ma)] _; refine VC.seq (VC.text ?_); have hxo := more_ok hs (hsub x List.mem_cons_self); refine VO.c (.assign rfl) ?_; refine VO.go (VC.text ?_); refine VO.c (.assign rfl) ?_; refine VO.nil ?_; refine ⟨rfl, ?_⟩; refine VC.block (VC.seq (VC.seq (VC.text ?_))); refine VO.r (.ldV m2 vt109) ?_; refine VO.c (.move rfl) ?_; refine VO.r (.lookO mt109CH m3) ?_; refine VO.go ?_; refine VC.condB rfl (fun c8 => ?_) (fun c8 => ?_)
    · have c8 : (mget ma x.2).getD false = true := c8; have hnm : nxM (ordM g f0) ma x = ma := if_pos c8
      have hnx : goM (ordM g f0) (x :: rest) ma = goM (ordM g f0) rest (nxM (ordM g f0) ma x) := by rw [hnm]; exact goM_dead c8
      refine VC.exit ?_; exact .inl ⟨rfl, nxM (ordM g f0) ma x, (by rw [hnm]), (by rw [hq, hnx]), (by exact fun y hy => hsub y (List.mem_cons_of_mem _ hy))⟩
    have c8 : (mget ma x.2).getD false = false := c8; have hol := ordM_len (g := g) f0 x.2 ma; have hmn := mis_le (n := g.1.length) (s := s); refine VC.skip (VC.seq (VC.text ?_)); refine VO.r (.ld vt92) ?_; refine VO.c (.move rfl) ?_; refine VO.r (.ldV m2 vt109) ?_; refine VO.perm swap3 ?_; refine VO.callG [(w_dead, .mp (.int .i64) .bool ma)] rfl rfl rfl (VFG.call (ih (s' := x.2) (m' := ma) (f' := f0) (by omega) hxo.1 (by omega))) ?_; rintro _ _ ⟨rfl, rfl⟩; show VO _ _ _ _ _ _ [(w_dead, .mp (.int .i64) .bool ((ordM g f0 x.2 ma).2)), (ww4, .var [B false]), (ww3, .var [.v y25 []]), (ww2, .var [.raw w_dead])] _; refine VO.c (.move rfl) (VO.c (.extract) (VO.c (.extract) (VO.c (.assign rfl) ?_))); refine VO.c (.assign rfl) ?_; refine VO.go (VC.seq (VC.text ?_)); refine VO.c (.move rfl) (VO.go ?_); refine VC.condB rfl (fun c10 => ?_) (fun c10 => ?_)
    · refine VC.seq ?_; refine VC.keep [(8, .raw ww3), (9, .raw ww4), (10, I x.1), (12, .v y25 ((ordM g f0 x.2 ma).1.getD []))] ⟨rfl, rfl, rfl, rfl, trivial⟩ ?_; refine VC.text ?_; refine VO.c (.move rfl) ?_; refine VO.cell (.lit [x.1] el25) ?_; intro ww5; refine VO.c (.move rfl) ?_; refine VO.app rfl rfl el25 el25 (by simp; omega) ?_; intro ww6; refine VO.perm swap3 ?_; refine VO.perm swap1 ?_; refine VO.shut [(40, .v y25 ([x.1] ++ (ordM g f0 x.2 ma).1.getD []))] (.cons rfl (.row m0) .nil) ?_; refine VO.setV (cs' := [.v y25 ([x.1] ++ (ordM g f0 x.2 ma).1.getD [])]) vt25 .v ?_; refine VO.perm swap2 ?_; refine VO.setV (cs' := [B true]) vt4CH .v ?_; refine VO.go ?_; refine VC.perm swap2 ?_; refine VC.perm swap3 ?_; refine VC.perm swap3 ?_; refine VC.perm swap3 ?_; refine VC.exit ?_; exact .inr ⟨(by intro h; cases h), ⟨rfl, x.1 :: (ordM g f0 x.2 ma).1.getD [], (ordM g f0 x.2 ma).2, rfl, (by rw [hq, goM_some c8 c10])⟩⟩
    have hnm : nxM (ordM g f0) ma x = (ordM g f0 x.2 ma).2 := if_neg (by unfold deadB; rw [c8]; decide)
    have hnx : goM (ordM g f0) (x :: rest) ma = goM (ordM g f0) rest (nxM (ordM g f0) ma x) := by rw [hnm]; exact goM_none c8 c10
    refine VC.perm swap3 ?_; refine VC.perm swap3 ?_; refine VC.perm swap3 ?_; refine VC.skip ?_; exact .inl ⟨rfl, nxM (ordM g f0) ma x, (by rw [hnm]), (by rw [hq, hnx]), (by exact fun y hy => hsub y (List.mem_cons_of_mem _ hy))⟩
  · rintro _ ⟨ma, rfl, hq, hsub⟩; refine VC.seq (VC.seq (VC.text ?_)); refine VO.r (.ldV m0 vt4CH) ?_; refine VO.c (.not) (VO.go ?_); refine VC.condT rfl ?_; refine VC.text ?_; refine VO.r (.ldV m2 vt109) ?_; refine VO.c (.move rfl) ?_; refine VO.perm swap3 ?_; refine VO.mput mt109CH ?_; refine VO.go (VC.seq (VC.drawn ?_)); refine VD.r [(w_dead, .mp (.int .i64) .bool (mset ma s true)), (ww4, .var [B false]), (ww3, .var [.v y25 []]), (ww2, .var [.raw w_dead])] (.ldV m2 vt25) (.inr ⟨rfl, rfl⟩) ?_; refine VD.r [(w_dead, .mp (.int .i64) .bool (mset ma s true)), (ww4, .var [B false]), (ww3, .var [.v y25 []]), (ww2, .var [.raw w_dead])] (.ldV m1 vt4CH) (.inr ⟨rfl, rfl⟩) ?_; refine VD.c (.assign rfl) (VD.c (.assign rfl) (VD.go ?_)); refine VC.perm swap3 ?_; refine VC.perm swap3 ?_; refine VC.perm swap3 ?_; refine VC.shutL [(ww4, .var [B false]), (ww3, .var [.v y25 []]), (ww2, .var [.raw w_dead])] [] rfl .nil ?_; refine VC.ret ?_; exact VEndG.two (P := Tryz.prog) (fn := Tryz.f135) (γ := [(w_dead, .mp (.int .i64) .bool dead)]) (Q := fun rr gg => rr = .tup [.v y25 ((ordM g f s dead).1.getD []), B ((ordM g f s dead).1.isSome)] ∧ gg = [(w_dead, .mp (.int .i64) .bool ((ordM g f s dead).2))]) rfl evT evT (mp_end (by rw [hoM, hq]; rfl) (by rw [hoM, hq]; rfl) (by rw [hoM, hq] <;> rfl)) rfl rfl
  rintro _ _ _ (⟨rfl, o, mz, rfl, he⟩)
  · show VC _ _ _ _ _ _ _ _; refine VC.seq (VC.seq (VC.text ?_)); refine VO.r (.ldV m0 vt4CH) ?_; refine VO.c (.not) (VO.go ?_); refine VC.condB rfl (fun c12 => ?_) (fun c12 => ?_)
    · try simp only [Bool.and_eq_true, Bool.or_eq_true, Bool.and_eq_false_iff, Bool.or_eq_false_iff, Bool.not_eq_true', Bool.not_eq_false', decide_eq_true_eq, decide_eq_false_iff_not] at c12
      cases c12
    try simp only [Bool.and_eq_true, Bool.or_eq_true, Bool.and_eq_false_iff, Bool.or_eq_false_iff, Bool.not_eq_true', Bool.not_eq_false', decide_eq_true_eq, decide_eq_false_iff_not] at c12
    refine VC.skip (VC.seq (VC.drawn ?_)); refine VD.r [(ww4, .var [B true]), (ww3, .var [.v y25 o]), (ww2, .var [.raw w_dead]), (w_dead, .mp (.int .i64) .bool mz)] (.ldV m1 vt25) (.inr ⟨rfl, rfl⟩) ?_; refine VD.r [(ww4, .var [B true]), (ww3, .var [.v y25 o]), (ww2, .var [.raw w_dead]), (w_dead, .mp (.int .i64) .bool mz)] (.ldV m0 vt4CH) (.inr ⟨rfl, rfl⟩) ?_; refine VD.c (.assign rfl) (VD.c (.assign rfl) (VD.go ?_)); refine VC.shutL [(ww4, .var [B true]), (ww3, .var [.v y25 o]), (ww2, .var [.raw w_dead])] [] rfl .nil ?_; refine VC.ret ?_; exact VEndG.two (P := Tryz.prog) (fn := Tryz.f135) (γ := [(w_dead, .mp (.int .i64) .bool dead)]) (Q := fun rr gg => rr = .tup [.v y25 ((ordM g f s dead).1.getD []), B ((ordM g f s dead).1.isSome)] ∧ gg = [(w_dead, .mp (.int .i64) .bool ((ordM g f s dead).2))]) rfl evT evT (mp_end (by rw [hoM, he]; rfl) (by rw [hoM, he]; rfl) (by rw [hoM, he] <;> rfl)) rfl rfl
theorem cOrdN {g : Gat} (hg : gatesE g = 0) : ∀ (n f : Nat), f < n → ∀ {s : Int} {dead : Dead} {w : Value}, SetOk g.1.length s → misN g.1.length s = f → VFG Tryz.prog OA 135 [.v y92 g, I s, .raw w] [(w, .mp (.int .i64) .bool dead)] (fun r g' => r = .tup [.v y25 ((ordM g f s dead).1.getD []), B ((ordM g f s dead).1.isSome)] ∧ g' = [(w, .mp (.int .i64) .bool (ordM g f s dead).2)])
  | 0, f, h, _, _, _, _, _ => by omega
  | n + 1, f, h, s, dead, w, hs, hf => cOrdS_ok hg hs hf fun {s' m' w' f'} hlt h1 h2 => cOrdN hg n f' (by omega) h1 h2
theorem cOrd_ok {g : Gat} (hg : gatesE g = 0) {s : Int} {dead : Dead} {w : Value} (hs : SetOk g.1.length s) : VFG Tryz.prog OA 135 [.v y92 g, I s, .raw w] [(w, .mp (.int .i64) .bool dead)] (fun r g' => r = .tup [.v y25 ((ordM g (misN g.1.length s) s dead).1.getD []), B ((ordM g (misN g.1.length s) s dead).1.isSome)] ∧ g' = [(w, .mp (.int .i64) .bool (ordM g (misN g.1.length s) s dead).2)]) := cOrdN hg _ _ (Nat.lt_succ_self _) hs rfl
def ordR (g : Gat) : List Int := if gatesE g = 0 then (ordN g 0).getD [] else []
def ordE (g : Gat) : Int := if gatesE g = 0 then whenE (!(ordN g 0).isSome) 24 else gatesE g
theorem ordM_0 {g : Gat} (hg : gatesE g = 0) : (ordM g (misN g.1.length 0) 0 []).1 = ordN g 0 := by
  have hd := head_ok (gates_ok hg).1; exact (ordM_ok _ 0 [] (zero_ok (by omega)) rfl dead_nil).1
theorem cOrder_ok {g : (List Int) × (List Int) × (List (List Int))} (hl : g.1.length < 1000) (hr : ∀ row ∈ g.2.2, row.length < 1000) : VF Tryz.prog OA 68 [.v y92 g] (.tup [.v y25 (ordR g), I (ordE g)]) := by
  refine VF.enter Tryz.func68 rfl (fun _ _ => rfl) rfl ?_; show VC _ _ _ _ _ [(0, .v y92 g)] [] _; refine VC.seq (VC.text ?_); refine VO.new (.box) ?_; refine VO.c (.assign rfl) (VO.c (.assign rfl) ?_); refine VO.go (VC.seq (VC.seq (VC.text ?_))); refine VO.r (.ld vt92) ?_; refine VO.call rfl rfl (VF.call (cGates_ok hl hr)) ?_; refine VO.c (.assign rfl) ?_; refine VO.go (VC.seq (VC.text ?_)); refine VO.c (.move rfl) (VO.c (.neq) (VO.go ?_)); refine VC.condD rfl (fun c2 => ?_) (fun c2 => ?_)
  · refine VC.seq (VC.text ?_); refine VO.c (.move rfl) (VO.c (.assign rfl) (VO.c (.assign rfl) (VO.go ?_))); refine VC.ret ?_; exact VEnd.two rfl (evC .nil) evT (pvE (by rw [ordR, if_neg c2])) (pvI (by rw [ordE, if_neg c2]))
  have hz : gatesE g = 0 := Classical.not_not.1 c2; have hd := head_ok (gates_ok hz).1; have hm := ordM_0 hz; refine VC.skip (VC.seq (VC.text ?_)); refine VO.r (.ld vt92) ?_; refine VO.cell (.mkMap (.int .i64) .bool) ?_; intro ww7; refine VO.callG [(ww7, .mp (.int .i64) .bool [])] rfl rfl rfl (VFG.call (cOrd_ok hz (zero_ok (by omega)))) ?_; rintro _ _ ⟨rfl, rfl⟩; show VO _ _ _ _ _ _ [(ww7, .mp (.int .i64) .bool ((ordM g (misN g.1.length 0) 0 []).2))] _; refine VO.c (.move rfl) (VO.c (.extract) (VO.c (.extract) (VO.c (.assign rfl) ?_))); refine VO.c (.assign rfl) ?_; refine VO.go (VC.seq (VC.text ?_)); refine VO.c (.move rfl) (VO.c (.move rfl) (VO.c (.not) ?_)); refine VO.call rfl rfl (VF.call (cWhen_ok )) ?_; refine VO.c (.assign rfl) (VO.c (.assign rfl) (VO.go ?_)); refine VC.ret ?_; exact VEnd.two rfl evT evT (pvE (by rw [ordR, if_pos hz, hm])) (pvI (by rw [ordE, if_pos hz, hm]))
end Go.Proofs
namespace Go.Proofs
open Go.Fs
set_option maxHeartbeats 1000000
def maxL (l : List Int) : Int := l.foldl max 0
theorem rSameI_ok {a : List Int} {b : List Int} (ha : a.length < 1000000) : VF Tryz.prog OA 78 [.v y25 a, .v y25 b] (B (decide (a = b))) := by
  refine VF.enter Tryz.func78 rfl (fun _ _ => rfl) rfl ?_; show VC _ _ _ _ _ [(0, .v y25 a), (1, .v y25 b)] [] _; refine VC.seq (VC.text ?_); refine VO.c (.assign rfl) ?_; refine VO.go (VC.seq (VC.seq (VC.text ?_))); refine VO.c (.move rfl) ?_; refine VO.r (.len el25) ?_; refine VO.c (.move rfl) ?_; refine VO.r (.len el25) ?_; refine VO.c (.neq) (VO.go ?_); refine VC.condD rfl (fun c1 => ?_) (fun c1 => ?_)
  · refine VC.seq (VC.text ?_); refine VO.c (.assign rfl) (VO.go ?_); refine VC.ret ?_; exact VEnd.one rfl evT (pvE (by exact (decide_eq_false fun e => c1 (by rw [e])).symm))
  refine VC.skip (VC.seq (VC.seq (VC.text ?_))); refine VO.c (.assign rfl) ?_; refine VO.go (VC.block ?_); refine VC.keep [(0, .v y25 a), (1, .v y25 b), (5, I ((0 : Nat) : Int))] ⟨rfl, rfl, rfl, trivial⟩ ?_; refine VC.loop (I := fun kk ff ss => ∃ (i : Nat), kk = a.length - i ∧ ff = [(0, .v y25 a), (1, .v y25 b), (5, I ((i : Nat) : Int))] ∧ ss = [] ∧ (i ≤ a.length) ∧ (∀ j (h1 : j < a.length) (h2 : j < b.length), j < i → a[j] = b[j])) ?_ _ _ _ ⟨0, rfl, rfl, rfl, Nat.zero_le _, (by intro j h1 h2 h3; omega)⟩; rintro kk ff ss ⟨i, hk0, rfl, rfl, hi, hq⟩; refine VC.seq (VC.seq (VC.text ?_)); refine VO.c (.move rfl) (VO.c (.move rfl) ?_); refine VO.r (.len el25) ?_; refine VO.c (.lss) (VO.go ?_); refine VC.condD rfl (fun c4 => ?_) (fun c4 => ?_)
  · refine VC.skip (VC.seq (VC.block (VC.seq (VC.drawn ?_)))); refine VD.c (.move rfl) (VD.c (.move rfl) (VD.c (.ix (j := i) rfl rfl el25 (by omega)) ?_)); refine VD.r [] (.ld vt3) (.inl rfl) ?_; refine VD.c (.move rfl) (VD.c (.move rfl) (VD.nw [] (VD.c (.ix (j := i) rfl rfl el25 (by omega)) ?_))); refine VD.r [] (.ld vt3) (.inl rfl) ?_; refine VD.c (.neq) (VD.go ?_); refine VC.condD rfl (fun c6 => ?_) (fun c6 => ?_)
    · refine VC.seq (VC.text ?_); refine VO.c (.assign rfl) (VO.go ?_); refine VC.ret ?_; exact VEnd.one rfl evT (pvE (by exact (decide_eq_false fun e => c6 (by subst e; rfl)).symm))
    refine VC.skip (VC.text ?_); refine VO.c (.move rfl) (VO.c (.add rfl rfl (by omega)) (VO.c (.assign rfl) ?_)); refine VO.nil ?_; refine ⟨_, [(0, .v y25 a), (1, .v y25 b), (5, I (((i + 1) : Nat) : Int))], ?_, ⟨rfl, rfl, rfl, trivial⟩, (i + 1), rfl, rfl, rfl, (by omega), (by intro j h1 h2 h3; rcases Nat.lt_succ_iff_lt_or_eq.1 h3 with h | h; exact hq j h1 h2 h; subst h; simpa using c6)⟩; omega
  refine VC.exit (VC.seq (VC.text ?_)); refine VO.c (.assign rfl) (VO.go ?_); refine VC.ret ?_; exact VEnd.one rfl evT (pvE (by exact (decide_eq_true (List.ext_getElem (by omega) fun j h1 h2 => hq j h1 h2 (by omega))).symm))
def listB (have_ : List Int) (e bad : Int) (want : List Int) : Bool := if bad ≠ 0 then decide (((have_.length : Nat) : Int) = 0) && decide (e = bad) else decide (e = 0) && decide (have_ = want)
theorem lListed_ok {a : List Int} {e : Int} {bad : Int} {want : List Int} (ha : a.length < 1000000) : VF Tryz.prog OA 25 [.v y25 a, I e, I bad, .v y25 want] (B (listB a e bad want)) := by
  refine VF.enter Tryz.func25 rfl (fun _ _ => rfl) rfl ?_; show VC _ _ _ _ _ [(0, .v y25 a), (1, I e), (2, I bad), (3, .v y25 want)] [] _; refine VC.seq (VC.text ?_); refine VO.c (.assign rfl) ?_; refine VO.go (VC.seq (VC.seq (VC.text ?_))); refine VO.c (.move rfl) (VO.c (.neq) (VO.go ?_)); refine VC.condD rfl (fun c1 => ?_) (fun c1 => ?_)
  · refine VC.seq (VC.text ?_); refine VO.c (.move rfl) ?_; refine VO.r (.len el25) ?_; refine VO.c (.eql) (VO.c (.move rfl) ?_); refine VO.cg (r := decide (((a.length : Nat) : Int) = (0 : Int))) (w := true) [] trivial (fun _ => (.move rfl)) ?_; refine VO.cg (r := decide (((a.length : Nat) : Int) = (0 : Int))) (w := true) [] trivial (fun _ => (.move rfl)) ?_; refine VO.cg (r := decide (((a.length : Nat) : Int) = (0 : Int))) (w := true) [(15, I e), (16, I bad)] ⟨rfl, rfl, trivial⟩ (fun _ => (.eql)) ?_; refine VO.c (.and) (VO.c (.assign rfl) (VO.go ?_)); refine VC.ret ?_; exact VEnd.one rfl evT (pvE (by rw [listB, if_pos c1]))
  refine VC.skip (VC.seq (VC.text ?_)); refine VO.c (.move rfl) (VO.c (.eql) (VO.c (.move rfl) ?_)); refine VO.cg (r := decide (e = (0 : Int))) (w := true) [] trivial (fun _ => (.move rfl)) ?_; refine VO.cg (r := decide (e = (0 : Int))) (w := true) [] trivial (fun _ => (.move rfl)) ?_; refine VO.callg (r0 := decide (e = (0 : Int))) (w := true) [(22, .v y25 a), (23, .v y25 want)] ⟨rfl, rfl, trivial⟩ rfl rfl .same .refl rfl (fun hgd => have g3_2 : e = (0 : Int) := (by simpa using hgd); VF.call (rSameI_ok (by first | assumption | omega | simp))) ?_; refine VO.c (.and) (VO.c (.assign rfl) (VO.go ?_)); refine VC.ret ?_; exact VEnd.one rfl evT (pvE (by rw [listB, if_neg c1]))
end Go.Proofs
namespace Go.Proofs
open Go.Fs
set_option maxHeartbeats 1000000
theorem zt25 : ZerT Tryz.prog 25 y25 := zerT_of (z := .slice none 0 0) (by kernel_rfl) rfl rfl
def behF (l : List Pha) (n k : Nat) : List Int := ((List.range n).filter fun q => (phA l q).2.2.2.contains ((k : Nat) : Int)).map fun q => ((q : Nat) : Int)
end Go.Proofs
namespace Go.Proofs
open Go.Fs
set_option maxHeartbeats 1000000
def aftG (d : Pha → Int) (l : List Pha) : Nat → Nat → Int
  | 0, _ => 0
  | f + 1, p => maxL ((behF l l.length p).map fun x => d (phA l x.toNat) + aftG d l f x.toNat)
def aftF (d : Pha → Int) (l : List Pha) (p : Nat) : Int := aftG d l (l.length - p) p
def chnF (d : Pha → Int) (l : List Pha) (p : Nat) : Int := d (phA l p) + aftF d l p
end Go.Proofs
namespace Go.Proofs
open Go.Fs
set_option maxHeartbeats 1000000
def rfL (b : List Int) : Option (List Int) → List Int
  | some o => b ++ o
  | none => []
def stF (g : Gat) (f : Nat) (x : Int × Int) : Option (List Int) := (ordF g f x.2).map fun o => x.1 :: o
theorem ordF_s {g : Gat} {f : Nat} {s : Int} : ordF g (f + 1) s = (moreL g s).findSome? (stF g f) := rfl
theorem rOrdS_ok {f : Nat} {g : (List Int) × (List Int) × (List (List Int))} {b : List Int} {s : Int} (hg : gatesE g = 0) (hs : SetOk g.1.length s) (hf : misN g.1.length s = f) (hb : b.length + f = g.1.length) (ih : ∀ {f0 i : Nat}, f = f0 + 1 → i < g.1.length → mayB g s i = true → VF Tryz.prog OA 140 [.v y88 g, .v y25 (b ++ [((i : Nat) : Int)]), I (nxtI s i)] (.tup [.v y25 (rfL (b ++ [((i : Nat) : Int)]) (ordF g f0 (nxtI s i))), B (ordF g f0 (nxtI s i)).isSome])) : VF Tryz.prog OA 140 [.v y88 g, .v y25 b, I s] (.tup [.v y25 (rfL b (ordF g f s)), B ((ordF g f s).isSome)]) := by
  refine VF.enter Tryz.func140 rfl (fun _ _ => rfl) rfl ?_; show VC _ _ _ _ _ [(0, .v y88 g), (1, .v y25 b), (2, I s)] [] _; refine VC.seq (VC.text ?_); have hd := head_ok (gates_ok hg).1; refine VO.new (.box) ?_; refine VO.c (.assign rfl) (VO.c (.assign rfl) ?_); refine VO.go (VC.seq (VC.seq (VC.text ?_))); refine VO.c (.move rfl) ?_; refine VO.r (.len el25) ?_; refine VO.c (.fa (.r (.l .o))) ?_; refine VO.r (.ld vt25) ?_; refine VO.r (.len el25) ?_; refine VO.c (.eql) (VO.go ?_); refine VC.condD rfl (fun c1 => ?_) (fun c1 => ?_)
  · have h0 : f = 0 := by omega
    refine VC.seq (VC.text ?_); refine VO.c (.move rfl) (VO.c (.assign rfl) (VO.c (.assign rfl) (VO.go ?_))); refine VC.ret ?_; exact VEnd.two rfl evT evT (pvE (by rw [h0]; exact (List.append_nil b).symm)) (pvE (by rw [h0] <;> rfl))
  obtain ⟨f0, hf0⟩ : ∃ f0, f = f0 + 1 := ⟨f - 1, by omega⟩; refine VC.skip (VC.seq (VC.seq (VC.text ?_))); refine VO.c (.assign rfl) ?_; refine VO.go (VC.block ?_); refine VC.keep [(1, .v y25 b), (2, I s), (3, .p y88 g), (8, I ((0 : Nat) : Int))] ⟨rfl, rfl, rfl, rfl, trivial⟩ ?_; refine VC.loop (I := fun kk ff ss => ∃ (i : Nat), kk = g.2.1.length - i ∧ ff = [(1, .v y25 b), (2, I s), (3, .p y88 g), (8, I ((i : Nat) : Int))] ∧ ss = [] ∧ (i ≤ g.2.1.length) ∧ (ordF g f s = (moreD g s i).findSome? (stF g f0))) ?_ _ _ _ ⟨0, rfl, rfl, rfl, Nat.zero_le _, (by rw [hf0, ordF_s, moreD_0])⟩; rintro kk ff ss ⟨i, hk0, rfl, rfl, hi, hq⟩; refine VC.seq (VC.seq (VC.text ?_)); refine VO.c (.move rfl) (VO.c (.fa (.r (.l .o))) ?_); refine VO.r (.ld vt25) ?_; refine VO.r (.len el25) ?_; refine VO.c (.lss) (VO.go ?_); refine VC.condD rfl (fun c4 => ?_) (fun c4 => ?_)
  · have hlt : i < g.1.length := by omega
    have hbit := hasI_bit (s := s) (i := i) hs.lo (Nat.lt_trans hs.big (by decide)); have hp9 := pow9 (n := i) (by omega); have horI := orI_nxt hs (show i ≤ 9 by omega); refine VC.skip (VC.seq (VC.block (VC.seq (VC.seq (VC.drawn ?_))))); refine VD.c (.move rfl) (VD.c (.move rfl) (VD.c (.shr rfl rfl (by omega)) (VD.c ((.andI rfl rfl)) ?_))); refine VD.c (.eql) (VD.c (.move rfl) (VD.nw [] ?_)); refine VD.splitD (x := 30) rfl (fun g6_5 => ?_) (fun g6_5 => ?_)
    · have hmf : mayB g s i = false := by unfold mayB; rw [← hbit, show hasI s ((i : Nat) : Int) = true from decide_eq_true g6_5] <;> rfl
      refine VD.skip (VD.skip (VD.skip (VD.skip ?_))); refine VD.skip (VD.skip (VD.nw [] (VD.skip ?_))); refine VD.c (.pickT rfl rfl) (VD.go ?_); refine VC.condT rfl ?_; refine VC.exit (VC.text ?_); refine VO.c (.move rfl) (VO.c (.add rfl rfl (by omega)) (VO.c (.assign rfl) ?_)); refine VO.nil ?_; refine ⟨_, [(1, .v y25 b), (2, I s), (3, .p y88 g), (8, I (((i + 1) : Nat) : Int))], ?_, ⟨rfl, rfl, rfl, rfl, trivial⟩, (i + 1), rfl, rfl, rfl, (by omega), (by first | (rw [hq, moreD_f hlt hmf]; done) | (rw [hq, moreD_t hlt hmt, List.findSome?_cons, hno]))⟩; omega
    have hbf : s.toNat.testBit i = false := by rw [← hbit]; exact decide_eq_false g6_5
    refine VD.r [] (.ld vt88) (.inl rfl) ?_; refine VD.c (.move rfl) (VD.c (.move rfl) (VD.c (.shl rfl rfl (by omega) (by omega)) (VD.c ((.orI rfl rfl)) ?_))); rw [horI]; refine VD.call rfl rfl (VF.call (rPerm_ok (by first | assumption | omega | simp))) ?_; refine VD.nw [] (VD.c (.not) (VD.c (.pickF rfl rfl) (VD.go ?_))); refine VC.condB rfl (fun c6 => ?_) (fun c6 => ?_)
    · try simp only [Bool.and_eq_true, Bool.or_eq_true, Bool.and_eq_false_iff, Bool.or_eq_false_iff, Bool.not_eq_true', Bool.not_eq_false', decide_eq_true_eq, decide_eq_false_iff_not] at c6
      have hmf : mayB g s i = false := by unfold mayB; rw [show permE g (nxtI s i) g.1.length = false by simpa using c6, Bool.and_false]
      refine VC.exit (VC.text ?_); refine VO.c (.move rfl) (VO.c (.add rfl rfl (by omega)) (VO.c (.assign rfl) ?_)); refine VO.nil ?_; refine ⟨_, [(1, .v y25 b), (2, I s), (3, .p y88 g), (8, I (((i + 1) : Nat) : Int))], ?_, ⟨rfl, rfl, rfl, rfl, trivial⟩, (i + 1), rfl, rfl, rfl, (by omega), (by first | (rw [hq, moreD_f hlt hmf]; done) | (rw [hq, moreD_t hlt hmt, List.findSome?_cons, hno]))⟩; omega
    try simp only [Bool.and_eq_true, Bool.or_eq_true, Bool.and_eq_false_iff, Bool.or_eq_false_iff, Bool.not_eq_true', Bool.not_eq_false', decide_eq_true_eq, decide_eq_false_iff_not] at c6
    have hmt : mayB g s i = true := by unfold mayB; rw [hbf, show permE g (nxtI s i) g.1.length = true by simpa using c6] <;> rfl
    refine VC.skip (VC.seq ?_); refine VC.late [] ⟨[], rfl⟩ ?_; refine VLt.q rfl (.ld vt88) ?_; refine VLt.litapp (τ := (.int .i64)) (ys := b) el25 el25 (by simp; omega) ?_; intro wv1 ww1; refine VLt.c (.move rfl) ?_; refine VLt.newU (.lit [((i : Nat) : Int)] el25) ?_; refine VLt.mk (MakeV.app el25 el25 rfl rfl (by simp; omega)) (TurnV.app rfl) ⟨[], rfl⟩ ?_; rintro _ _ ⟨ww2, rfl, rfl⟩; refine ⟨⟨[(ww2, .row 3 (.int .i64) (b ++ [((i : Nat) : Int)]))], rfl⟩, ?_⟩; refine VLt.c (.move rfl) ?_; refine VLt.nws [46, 45, 43, 41] ?_; refine VLt.c (.move rfl) ?_; refine VLt.c (.shl rfl rfl (by omega) (by omega)) ?_; refine VLt.c ((.orI rfl rfl)) ?_; rw [horI]; refine VLt.shut [(46, .v y25 (b ++ [((i : Nat) : Int)]))] (.cons rfl (.row m0) .nil) ?_ ⟨[], rfl⟩; refine VLt.callO rfl rfl (VF.call (ih hf0 hlt hmt)) ?_; refine VLt.c (.move rfl) ?_; refine VLt.c (.extract) ?_; refine VLt.c (.extract) ?_; refine VLt.nws [52, 39, 51, 46, 46, 45, 43, 41] ?_; refine VLt.c (.assign rfl) ?_; refine VLt.c (.assign rfl) ?_; refine VLt.go ?_; refine VC.seq ?_; refine VC.keep [(1, .v y25 b), (2, I s), (3, .p y88 g), (8, I ((i : Nat) : Int)), (9, .v y25 (rfL (b ++ [((i : Nat) : Int)]) (ordF g f0 (nxtI s i)))), (10, B ((ordF g f0 (nxtI s i)).isSome))] ⟨rfl, rfl, rfl, rfl, rfl, rfl, trivial⟩ ?_; refine VC.text ?_; refine VO.c (.move rfl) (VO.go ?_); refine VC.condB rfl (fun c8 => ?_) (fun c8 => ?_)
    · obtain ⟨o, ho⟩ : ∃ o, ordF g f0 (nxtI s i) = some o := Option.isSome_iff_exists.1 c8
      have hF : ordF g f s = some (((i : Nat) : Int) :: o) := by rw [hq, moreD_t hlt hmt, List.findSome?_cons, show stF g f0 (((i : Nat) : Int), nxtI s i) = some (((i : Nat) : Int) :: o) by unfold stF; rw [ho]; rfl]
      refine VC.seq (VC.text ?_); refine VO.c (.move rfl) (VO.c (.assign rfl) (VO.c (.assign rfl) (VO.go ?_))); refine VC.ret ?_; exact VEnd.two rfl evT evT (pvE (by rw [hF, ho]; simp [rfL])) (pvE (by rw [hF] <;> rfl))
    have hno : stF g f0 (((i : Nat) : Int), nxtI s i) = none := by unfold stF; rw [show ordF g f0 (nxtI s i) = none by simpa using c8] <;> rfl
    refine VC.skip (VC.text ?_); refine VO.c (.move rfl) (VO.c (.add rfl rfl (by omega)) (VO.c (.assign rfl) ?_)); refine VO.nil ?_; refine ⟨_, [(1, .v y25 b), (2, I s), (3, .p y88 g), (8, I (((i + 1) : Nat) : Int))], ?_, ⟨rfl, rfl, rfl, rfl, trivial⟩, (i + 1), rfl, rfl, rfl, (by omega), (by first | (rw [hq, moreD_f hlt hmf]; done) | (rw [hq, moreD_t hlt hmt, List.findSome?_cons, hno]))⟩; omega
  have hF : ordF g f s = none := by rw [hq, moreD_end (by omega)] <;> rfl
  refine VC.exit (VC.seq (VC.text ?_)); refine VO.c (.assign rfl) (VO.c (.assign rfl) (VO.go ?_)); refine VC.ret ?_; exact VEnd.two rfl (evC .nil) evT (pvE (by rw [hF]; rfl)) (pvE (by rw [hF] <;> rfl))
theorem rOrdN {g : Gat} (hg : gatesE g = 0) : ∀ (f : Nat) {b : List Int} {s : Int}, SetOk g.1.length s → misN g.1.length s = f → b.length + f = g.1.length → VF Tryz.prog OA 140 [.v y88 g, .v y25 b, I s] (.tup [.v y25 (rfL b (ordF g f s)), B (ordF g f s).isSome])
  | 0, b, s, hs, hf, hb => rOrdS_ok hg hs hf hb fun {f0 i} h => by omega
  | f + 1, b, s, hs, hf, hb => rOrdS_ok hg hs hf hb fun {f0 i} h hi hm => by
    obtain rfl : f = f0 := by omega
    have h1 := mis_next hi (may_2 hm).1; exact rOrdN hg f (nxt_ok hs hi) (by omega) (by rw [List.length_append]; simp; omega)
theorem rOrd_ok {g : Gat} {b : List Int} {s : Int} (hg : gatesE g = 0) (hs : s = 0) (hb : b = []) : VF Tryz.prog OA 140 [.v y88 g, .v y25 b, I s] (.tup [.v y25 ((ordN g 0).getD []), B (ordN g 0).isSome]) := by
  subst hs hb; have hd := head_ok (gates_ok hg).1; have := rOrdN hg (misN g.1.length 0) (b := []) (zero_ok (by omega)) rfl (by rw [mis_zero]; simp)
  have e : rfL [] (ordF g (misN g.1.length 0) 0) = (ordN g 0).getD [] := by
    unfold ordN; cases ordF g (misN g.1.length 0) 0 <;> rfl
  rw [e] at this; exact this
theorem rOrdZ_ok {g : Gat} (hg : gatesE g = 0) : VF Tryz.prog OA 140 [.v y88 g, nilV, I (0 : Int)] (.tup [.v y25 ((ordN g 0).getD []), B (ordN g 0).isSome]) := VF.nilA [.v y88 g] [I (0 : Int)] (rOrd_ok hg rfl rfl)
theorem rOrder_ok {g : (List Int) × (List Int) × (List (List Int))} (hg : gatesE g = 0) : VF Tryz.prog OA 72 [.v y88 g] (.tup [.v y25 ((ordN g 0).getD []), B ((ordN g 0).isSome)]) := by
  refine VF.enter Tryz.func72 rfl (fun _ _ => rfl) rfl ?_; show VC _ _ _ _ _ [(0, .v y88 g)] [] _; refine VC.seq (VC.text ?_); refine VO.new (.box) ?_; refine VO.c (.assign rfl) (VO.c (.assign rfl) ?_); refine VO.go (VC.seq (VC.text ?_)); refine VO.r (.ld vt88) ?_; refine VO.call rfl rfl (VF.call (rOrdZ_ok hg)) ?_; refine VO.c (.extract) (VO.c (.extract) (VO.c (.assign rfl) (VO.c (.assign rfl) ?_))); refine VO.go ?_; refine VC.ret ?_; exact VEnd.two rfl evT evT (pvE (by rfl)) (pvE (by first | rfl | simp))
end Go.Proofs
namespace Go.Proofs
open Go.Fs
set_option maxHeartbeats 1000000
def idxG {α : Type} (F : α → Bool) : List α → Int → Int
  | [], _ => -1
  | x :: l, k => if F x = true then k else idxG F l (k + 1)
theorem idxG_drop {α : Type} {F : α → Bool} {l : List α} {j : Nat} (hj : j < l.length) : idxG F (l.drop j) (j : Nat) = if F l[j] = true then ((j : Nat) : Int) else idxG F (l.drop (j + 1)) ((j + 1 : Nat) : Int) := by
  rw [List.drop_eq_getElem_cons hj] <;> rfl
theorem idxG_end {α : Type} {F : α → Bool} {l : List α} {j : Nat} {k : Int} (hj : l.length ≤ j) : idxG F (l.drop j) k = -1 := by rw [List.drop_eq_nil_of_le hj] <;> rfl
structure CritI (d : Pha → Int) (l : List Pha) (f : Nat) (fr : List Int) (left : Int) : Prop where
  mx : left = maxL (fr.map fun x => chnF d l x.toNat)
  rng : ∀ x ∈ fr, 0 ≤ x ∧ x < ((l.length : Nat) : Int) ∧ ((l.length : Nat) : Int) - x ≤ ((f : Nat) : Int)
  len : fr.length ≤ l.length
end Go.Proofs
namespace Go.Proofs
open Go.Fs
set_option maxHeartbeats 1000000
theorem rHasInt_ok {l : List Int} {x : Int} (hl : l.length < 1000000) : VF Tryz.prog OA 53 [.v y25 l, I x] (B (l.contains x)) := by
  refine VF.enter Tryz.func53 rfl (fun _ _ => rfl) rfl ?_; show VC _ _ _ _ _ [(0, .v y25 l), (1, I x)] [] _; refine VC.seq (VC.text ?_); refine VO.c (.assign rfl) ?_; refine VO.go (VC.seq (VC.seq (VC.text ?_))); refine VO.c (.assign rfl) ?_; refine VO.go (VC.block ?_); refine VC.keep [(0, .v y25 l), (1, I x), (5, I ((0 : Nat) : Int))] ⟨rfl, rfl, rfl, trivial⟩ ?_; refine VC.loop (I := fun kk ff ss => ∃ (i : Nat), kk = l.length - i ∧ ff = [(0, .v y25 l), (1, I x), (5, I ((i : Nat) : Int))] ∧ ss = [] ∧ (i ≤ l.length) ∧ (∀ j (hj : j < l.length), j < i → l[j] ≠ x)) ?_ _ _ _ ⟨0, rfl, rfl, rfl, Nat.zero_le _, (by intro j hj h; omega)⟩; rintro kk ff ss ⟨i, hk0, rfl, rfl, hi, hq⟩; refine VC.seq (VC.seq (VC.text ?_)); refine VO.c (.move rfl) (VO.c (.move rfl) ?_); refine VO.r (.len el25) ?_; refine VO.c (.lss) (VO.go ?_); refine VC.condD rfl (fun c2 => ?_) (fun c2 => ?_)
  · refine VC.skip (VC.seq (VC.block (VC.seq (VC.text ?_)))); refine VO.c (.move rfl) (VO.c (.move rfl) (VO.c (.ix (j := i) rfl rfl el25 (by omega)) ?_)); refine VO.r (.ld vt3) ?_; refine VO.c (.move rfl) (VO.c (.eql) (VO.go ?_)); refine VC.condD rfl (fun c4 => ?_) (fun c4 => ?_)
    · refine VC.seq (VC.text ?_); refine VO.c (.assign rfl) (VO.go ?_); refine VC.ret ?_; exact VEnd.one rfl evT (pvE (by exact (List.contains_iff_mem.2 (c4 ▸ List.getElem_mem _)).symm))
    refine VC.skip (VC.text ?_); refine VO.c (.move rfl) (VO.c (.add rfl rfl (by omega)) (VO.c (.assign rfl) ?_)); refine VO.nil ?_; refine ⟨_, [(0, .v y25 l), (1, I x), (5, I (((i + 1) : Nat) : Int))], ?_, ⟨rfl, rfl, rfl, trivial⟩, (i + 1), rfl, rfl, rfl, (by omega), (by intro j hj h; rcases Nat.lt_succ_iff_lt_or_eq.1 h with h | h; exact hq j hj h; subst h; exact c4)⟩; omega
  refine VC.exit (VC.seq (VC.text ?_)); refine VO.c (.assign rfl) (VO.go ?_); refine VC.ret ?_; exact VEnd.one rfl evT (pvE (by refine (Bool.eq_false_iff.2 fun h => ?_).symm; obtain ⟨j, hj, he⟩ := List.mem_iff_getElem.1 (List.contains_iff_mem.1 h); exact hq j hj (by omega) he))
end Go.Proofs
namespace Go.Proofs
open Go.Fs
set_option maxHeartbeats 1000000
def setQ (l : List Int) : Nat → Int
  | 0 => 0
  | k + 1 => nxtI (setQ l k) (l.getD k 0).toNat
def ocE (n : Nat) (l : List Int) (k : Nat) : Int := if l.getD k 0 < 0 ∨ ((n : Nat) : Int) ≤ l.getD k 0 then 10 else if (setQ l k).toNat.testBit (l.getD k 0).toNat = true then 9 else 0
def opE (g : Gat) (l : List Int) (k : Nat) : Int := if permE g (setQ l (k + 1)) g.1.length = true then 0 else 31
def ordC (g : Gat) (l : List Int) : Int := if ((l.length : Nat) : Int) ≠ ((g.1.length : Nat) : Int) then 2 else if firstR (ocE g.1.length l) 0 l.length ≠ 0 then firstR (ocE g.1.length l) 0 l.length else firstR (opE g l) 0 l.length
def ckoE (g : Gat) (l : List Int) : Int := if gatesE g = 0 then ordC g l else gatesE g
theorem setQ_ok {n : Nat} {l : List Int} (hn : n ≤ 9) : ∀ {k : Nat}, (∀ j, j < k → 0 ≤ l.getD j 0 ∧ l.getD j 0 < ((n : Nat) : Int)) → SetOk n (setQ l k)
  | 0, _ => zero_ok hn
  | k + 1, h => nxt_ok (setQ_ok hn fun j hj => h j (by omega)) (by have := h k (by omega); omega)
theorem setQ_bit {n : Nat} {l : List Int} : ∀ {k : Nat}, k ≤ l.length → (∀ j, j < k → 0 ≤ l.getD j 0 ∧ l.getD j 0 < ((n : Nat) : Int)) → ∀ {x : Int}, 0 ≤ x → (setQ l k).toNat.testBit x.toNat = (l.take k).contains x
  | 0, _, _, x, _ => by rw [List.take_zero]; exact zero_bit
  | k + 1, hk, h, x, hx => by
    have ih := setQ_bit (n := n) (k := k) (by omega) (fun j hj => h j (by omega)) hx; have h0 := h k (by omega); show (nxtI (setQ l k) (l.getD k 0).toNat).toNat.testBit x.toNat = _; rw [nxt_bit, ih, List.take_succ_eq_append_getElem (show k < l.length by omega), Bool.eq_iff_iff, Bool.or_eq_true, decide_eq_true_eq, List.contains_iff_mem, List.contains_iff_mem, List.mem_append, List.mem_singleton]; rw [getDg (show k < l.length by omega)] at h0 ⊢; constructor
    · rintro (h | h)
      · exact .inl h
      exact .inr (by omega)
    rintro (h | h)
    · exact .inl h
    exact .inr (by rw [h])
theorem orI_set {n : Nat} {s x : Int} (h : SetOk n s) (h0 : 0 ≤ x ∧ x ≤ 9) : Fs.orI s ((1 : Int) * 2 ^ (x).toNat) = nxtI s x.toNat := by
  have := orI_nxt h (i := x.toNat) (by omega); rw [Int.toNat_natCast] at this; exact this
theorem pow9i {x : Int} (h : x ≤ 9) : (1 : Int) ≤ 2 ^ (x).toNat ∧ (2 : Int) ^ (x).toNat ≤ 512 := by
  have := pow9 (n := x.toNat) (by omega); rw [Int.toNat_natCast] at this; exact this
theorem oc_t {n : Nat} {l : List Int} {k : Nat} (h : firstR (ocE n l) 0 l.length = firstR (ocE n l) k l.length) (hk : k < l.length) (hz : ocE n l k ≠ 0) : firstR (ocE n l) 0 l.length = ocE n l k := by rw [h, firstR_step hk, if_neg hz]
theorem oc_10 {n : Nat} {l : List Int} {k : Nat} (hk : k < l.length) (h : l[k] < 0 ∨ ((n : Nat) : Int) ≤ l[k]) : ocE n l k = 10 := by rw [ocE, getDg hk, if_pos h]
theorem oc_9 {n : Nat} {l : List Int} {k : Nat} (hk : k < l.length) (h : ¬ (l[k] < 0 ∨ ((n : Nat) : Int) ≤ l[k])) (h2 : (setQ l k).toNat.testBit (l[k]).toNat = true) : ocE n l k = 9 := by rw [ocE, getDg hk, if_neg h, if_pos h2]
theorem oc_0 {n : Nat} {l : List Int} {k : Nat} (hk : k < l.length) (h : ¬ (l[k] < 0 ∨ ((n : Nat) : Int) ≤ l[k])) (h2 : (setQ l k).toNat.testBit (l[k]).toNat = false) : ocE n l k = 0 := by rw [ocE, getDg hk, if_neg h, if_neg (by rw [h2]; decide)]
theorem oc_ok {n : Nat} {l : List Int} {k : Nat} (h : ocE n l k = 0) : 0 ≤ l.getD k 0 ∧ l.getD k 0 < ((n : Nat) : Int) := by
  unfold ocE at h; by_cases h1 : l.getD k 0 < 0 ∨ ((n : Nat) : Int) ≤ l.getD k 0
  · rw [if_pos h1] at h; cases h
  omega
theorem ord_1 {g : Gat} {l : List Int} (hlen : ((l.length : Nat) : Int) = ((g.1.length : Nat) : Int)) {e : Int} (h : firstR (ocE g.1.length l) 0 l.length = e) (he : e ≠ 0) : ordC g l = e := by rw [ordC, if_neg (fun h => h hlen), h, if_pos he]
theorem ord_2 {g : Gat} {l : List Int} (hlen : ((l.length : Nat) : Int) = ((g.1.length : Nat) : Int)) (h : firstR (ocE g.1.length l) 0 l.length = 0) : ordC g l = firstR (opE g l) 0 l.length := by rw [ordC, if_neg (fun h => h hlen), if_neg (fun e => e h)]
theorem cChkO_ok {g : (List Int) × (List Int) × (List (List Int))} {l : List Int} (hl : g.1.length < 1000) (hr : ∀ row ∈ g.2.2, row.length < 1000) : VF Tryz.prog OA 69 [.v y92 g, .v y25 l] (I (ckoE g l)) := by
  refine VF.enter Tryz.func69 rfl (fun _ _ => rfl) rfl ?_; show VC _ _ _ _ _ [(0, .v y92 g), (1, .v y25 l)] [] _; refine VC.seq (VC.text ?_); refine VO.new (.box) ?_; refine VO.c (.assign rfl) ?_; refine VO.go (VC.seq (VC.seq (VC.drawn ?_))); refine VD.r [] (.ld vt92) (.inl rfl) ?_; refine VD.call rfl rfl (VF.call (cGates_ok hl hr)) ?_; refine VD.c (.move rfl) ?_; refine VD.r [] (.len el25) (.inl rfl) ?_; refine VD.c (.fa (.l .o)) ?_; refine VD.r [] (.ld vt25) (.inl rfl) ?_; refine VD.nw [] ?_; refine VD.r [] (.len el25) (.inl rfl) ?_; refine VD.c (.neq) ?_; refine VD.call rfl rfl (VF.call (cWhen_ok )) ?_; refine VD.new (.lit [gatesE g, whenE (decide (((l.length : Nat) : Int) ≠ ((g.1.length : Nat) : Int))) (2 : Int)] el154) ?_; refine VD.callO rfl rfl (VF.call (cFirst_ok (by simp))) ?_; refine VD.c (.assign rfl) ?_; refine VD.go (VC.seq (VC.text ?_)); refine VO.c (.move rfl) (VO.c (.neq) (VO.go ?_)); refine VC.condD rfl (fun c2 => ?_) (fun c2 => ?_)
  · have hce : firstE [gatesE g, whenE (decide (((l.length : Nat) : Int) ≠ ((g.1.length : Nat) : Int))) 2] = ckoE g l := by
      unfold ckoE; by_cases h : gatesE g = 0
      · rw [if_pos h, h]; by_cases h2 : ((l.length : Nat) : Int) ≠ ((g.1.length : Nat) : Int)
        · rw [decide_eq_true h2, ordC, if_pos h2] <;> rfl
        rw [h, decide_eq_false h2] at c2; exact absurd rfl c2
      rw [if_neg h]; exact if_neg h
    refine VC.seq (VC.text ?_); refine VO.c (.move rfl) (VO.c (.assign rfl) (VO.go ?_)); refine VC.ret ?_; exact VEnd.one rfl evT (pvI (by exact hce))
  have c2 := firstE_zero.1 (Classical.not_not.1 c2); have hz : gatesE g = 0 := c2 _ List.mem_cons_self; have hd := head_ok (gates_ok hz).1
  have hlen : ((l.length : Nat) : Int) = ((g.1.length : Nat) : Int) := by
    have := of_decide_eq_false ((whenE_zero (by decide)).1 (c2 _ (List.mem_cons_of_mem _ List.mem_cons_self))); omega
  have hck : ckoE g l = ordC g l := if_pos hz; refine VC.skip (VC.seq (VC.text ?_)); refine VO.c (.assign rfl) ?_; refine VO.go (VC.seq (VC.seq (VC.text ?_))); refine VO.c (.move rfl) ?_; refine VO.r (.len el25) ?_; refine VO.c (.move rfl) ?_; refine VO.go (VC.block ?_); refine VC.keep [(1, .v y25 l), (2, .p y92 g), (6, I (setQ l 0)), (25, .v y25 l), (26, I ((l.length : Nat) : Int)), (27, I ((0 : Nat) : Int))] ⟨rfl, rfl, rfl, rfl, rfl, rfl, trivial⟩ ?_; refine VC.loop (I := fun kk ff ss => ∃ (i : Nat), kk = l.length - i ∧ ff = [(1, .v y25 l), (2, .p y92 g), (6, I (setQ l i)), (25, .v y25 l), (26, I ((l.length : Nat) : Int)), (27, I ((i : Nat) : Int))] ∧ ss = [] ∧ (i ≤ l.length) ∧ (firstR (ocE g.1.length l) 0 l.length = firstR (ocE g.1.length l) i l.length) ∧ (∀ j, j < i → 0 ≤ l.getD j 0 ∧ l.getD j 0 < ((g.1.length : Nat) : Int))) ?_ _ _ _ ⟨0, rfl, rfl, rfl, Nat.zero_le _, (by rfl), (by intro j hj; omega)⟩; rintro kk ff ss ⟨i, hk0, rfl, rfl, hi, hq, hok⟩; refine VC.seq (VC.text ?_); refine VO.c (.lss) ?_; refine VO.go (VC.seq ?_); refine VC.condD rfl (fun c6 => ?_) (fun c6 => ?_)
  · have hlt : i < l.length := by omega
    have hset := setQ_ok (n := g.1.length) (by omega) hok; refine VC.skip (VC.seq (VC.block (VC.seq (VC.text ?_)))); refine VO.c (.ix (j := i) rfl rfl el25 (by omega)) ?_; refine VO.r (.ld vt3) ?_; refine VO.c (.assign rfl) ?_; refine VO.go (VC.seq (VC.seq (VC.text ?_))); refine VO.c (.move rfl) (VO.c (.lss) (VO.c (.move rfl) ?_)); refine VO.cg (r := decide (l[i] < (0 : Int))) (w := false) [] trivial (fun _ => (.move rfl)) ?_; refine VO.cg (r := decide (l[i] < (0 : Int))) (w := false) [] trivial (fun _ => (.fa (.l .o))) ?_; refine VO.rg (r := decide (l[i] < (0 : Int))) (w := false) [(35, .p y25 g.1)] ⟨rfl, trivial⟩ (fun _ => (.ld vt25)) ?_; refine VO.rg (r := decide (l[i] < (0 : Int))) (w := false) [(36, .v y25 g.1)] ⟨rfl, trivial⟩ (fun _ => (.len el25)) ?_; refine VO.cg (r := decide (l[i] < (0 : Int))) (w := false) [(34, I (l[i])), (37, I ((g.1.length : Nat) : Int))] ⟨rfl, rfl, trivial⟩ (fun _ => (.geq)) ?_; refine VO.c (.or) (VO.go ?_); refine VC.condB rfl (fun c8 => ?_) (fun c8 => ?_)
    · try simp only [Bool.and_eq_true, Bool.or_eq_true, Bool.and_eq_false_iff, Bool.or_eq_false_iff, Bool.not_eq_true', Bool.not_eq_false', decide_eq_true_eq, decide_eq_false_iff_not] at c8
      refine VC.seq (VC.text ?_); refine VO.c (.assign rfl) (VO.go ?_); refine VC.ret ?_; exact VEnd.one rfl evT (pvI (by rw [hck, ord_1 hlen (oc_t hq hlt (by rw [oc_10 hlt c8]; decide)) (by rw [oc_10 hlt c8]; decide), oc_10 hlt c8]))
    try simp only [Bool.and_eq_true, Bool.or_eq_true, Bool.and_eq_false_iff, Bool.or_eq_false_iff, Bool.not_eq_true', Bool.not_eq_false', decide_eq_true_eq, decide_eq_false_iff_not] at c8
    have c8 : ¬ (l[i] < 0 ∨ ((g.1.length : Nat) : Int) ≤ l[i]) := by omega
    have hp9 := pow9i (x := l[i]) (by omega); have horI := orI_set hset (x := l[i]) (by omega)
    have hbit : hasI (setQ l i) l[i] = (setQ l i).toNat.testBit (l[i]).toNat := by
      have := hasI_bit (s := setQ l i) (i := (l[i]).toNat) hset.lo (Nat.lt_trans hset.big (by decide)); rw [Int.toNat_of_nonneg (by omega)] at this; exact this
    refine VC.skip (VC.seq (VC.seq (VC.text ?_))); refine VO.c (.move rfl) (VO.c (.move rfl) ?_); refine VO.call rfl rfl (VF.call (cHas_ok (by first | assumption | omega | simp))) ?_; refine VO.go ?_; refine VC.condB rfl (fun c10 => ?_) (fun c10 => ?_)
    · have h9 := oc_9 hlt c8 (hbit.symm.trans c10); refine VC.seq (VC.text ?_); refine VO.c (.assign rfl) (VO.go ?_); refine VC.ret ?_; exact VEnd.one rfl evT (pvI (by rw [hck, ord_1 hlen (oc_t hq hlt (by rw [h9]; decide)) (by rw [h9]; decide), h9]))
    have hoc := oc_0 hlt c8 (hbit.symm.trans c10)
    have hsn : nxtI (setQ l i) (l[i]).toNat = setQ l (i + 1) := by show _ = nxtI _ _; rw [getDg hlt]
    refine VC.skip (VC.text ?_); refine VO.c (.move rfl) (VO.c (.move rfl) (VO.c (.shl rfl rfl (by omega) (by omega)) (VO.c ((.orI rfl rfl)) ?_))); rw [horI, hsn]; refine VO.c (.assign rfl) ?_; refine VO.nil (VC.text ?_); refine VO.c (.add rfl rfl (by omega)) (VO.c (.move rfl) ?_); refine VO.nil ?_; refine ⟨_, [(1, .v y25 l), (2, .p y92 g), (6, I (setQ l (i + 1))), (25, .v y25 l), (26, I ((l.length : Nat) : Int)), (27, I (((i + 1) : Nat) : Int))], ?_, ⟨rfl, rfl, slI rfl (by first | rfl | simp | omega), rfl, rfl, rfl, trivial⟩, (i + 1), rfl, rfl, rfl, (by omega), (by rw [hq, firstR_step hlt, if_pos hoc]), (by intro j hj; rcases Nat.lt_succ_iff_lt_or_eq.1 hj with h | h; exact hok j h; subst h; exact oc_ok hoc)⟩; omega
  have ho2 : ordC g l = firstR (opE g l) 0 l.length := ord_2 hlen (by rw [hq, firstR_end (by omega)])
  have hil : i = l.length := by omega
  refine VC.exit (VC.seq (VC.text ?_)); refine VO.c (.assign rfl) ?_; refine VO.go (VC.seq (VC.seq (VC.text ?_))); refine VO.c (.move rfl) ?_; refine VO.r (.len el25) ?_; refine VO.c (.move rfl) ?_; refine VO.go (VC.block ?_); refine VC.keep [(2, .p y92 g), (6, I (setQ l 0)), (48, .v y25 l), (49, I ((l.length : Nat) : Int)), (50, I ((0 : Nat) : Int))] ⟨rfl, rfl, rfl, rfl, rfl, trivial⟩ ?_; refine VC.loop (I := fun kk ff ss => ∃ (k : Nat), kk = l.length - k ∧ ff = [(2, .p y92 g), (6, I (setQ l k)), (48, .v y25 l), (49, I ((l.length : Nat) : Int)), (50, I ((k : Nat) : Int))] ∧ ss = [] ∧ (k ≤ l.length) ∧ (firstR (opE g l) 0 l.length = firstR (opE g l) k l.length)) ?_ _ _ _ ⟨0, rfl, rfl, rfl, Nat.zero_le _, (by rfl)⟩; rintro kk ff ss ⟨k, hk2, rfl, rfl, hk, hq2⟩; refine VC.seq (VC.text ?_); refine VO.c (.lss) ?_; refine VO.go (VC.seq ?_); refine VC.condD rfl (fun c16 => ?_) (fun c16 => ?_)
  · have hkt : k < l.length := by omega
    have hok2 : ∀ j, j < k + 1 → 0 ≤ l.getD j 0 ∧ l.getD j 0 < ((g.1.length : Nat) : Int) := fun j hj => hok j (by omega); have hset := setQ_ok (n := g.1.length) (k := k) (by omega) fun j hj => hok2 j (by omega); have hx := hok2 k (by omega); rw [getDg hkt] at hx; have hp9 := pow9i (x := l[k]) (by omega); have horI := orI_set hset (x := l[k]) (by omega)
    have hsn : nxtI (setQ l k) (l[k]).toNat = setQ l (k + 1) := by show _ = nxtI _ _; rw [getDg hkt]
    refine VC.skip (VC.seq (VC.block (VC.seq (VC.text ?_)))); refine VO.c (.ix (j := k) rfl rfl el25 (by omega)) ?_; refine VO.r (.ld vt3) ?_; refine VO.c (.assign rfl) ?_; refine VO.go (VC.seq (VC.text ?_)); refine VO.c (.move rfl) (VO.c (.move rfl) (VO.c (.shl rfl rfl (by omega) (by omega)) (VO.c ((.orI rfl rfl)) ?_))); rw [horI, hsn]; refine VO.c (.assign rfl) ?_; refine VO.go (VC.seq (VC.text ?_)); refine VO.r (.ld vt92) ?_; refine VO.c (.move rfl) ?_; refine VO.call rfl rfl (VF.call (cPerm_ok (by first | assumption | omega | simp))) ?_; refine VO.c (.not) (VO.go ?_); refine VC.condB rfl (fun c19 => ?_) (fun c19 => ?_)
    · try simp only [Bool.and_eq_true, Bool.or_eq_true, Bool.and_eq_false_iff, Bool.or_eq_false_iff, Bool.not_eq_true', Bool.not_eq_false', decide_eq_true_eq, decide_eq_false_iff_not] at c19
      have hop : opE g l k = 31 := if_neg (by simpa using c19); refine VC.seq (VC.text ?_); refine VO.c (.assign rfl) (VO.go ?_); refine VC.ret ?_; exact VEnd.one rfl evT (pvI (by rw [hck, ho2, hq2, firstR_step hkt, hop, if_neg (by decide)]))
    try simp only [Bool.and_eq_true, Bool.or_eq_true, Bool.and_eq_false_iff, Bool.or_eq_false_iff, Bool.not_eq_true', Bool.not_eq_false', decide_eq_true_eq, decide_eq_false_iff_not] at c19
    have hop : opE g l k = 0 := if_pos (by simpa using c19); refine VC.skip (VC.text ?_); refine VO.c (.add rfl rfl (by omega)) (VO.c (.move rfl) ?_); refine VO.nil ?_; refine ⟨_, [(2, .p y92 g), (6, I (setQ l (k + 1))), (48, .v y25 l), (49, I ((l.length : Nat) : Int)), (50, I (((k + 1) : Nat) : Int))], ?_, ⟨rfl, slI rfl (by first | rfl | simp | omega), rfl, rfl, rfl, trivial⟩, (k + 1), rfl, rfl, rfl, (by omega), (by rw [hq2, firstR_step hkt, if_pos hop])⟩; omega
  refine VC.exit (VC.seq (VC.text ?_)); refine VO.c (.assign rfl) (VO.go ?_); refine VC.ret ?_; exact VEnd.one rfl evT (pvI (by rw [hck, ho2, hq2, firstR_end (by omega)]))
theorem rChkO_ok {g : (List Int) × (List Int) × (List (List Int))} {l : List Int} (hz : gatesE g = 0) (hl : l.length < 1000) : VF Tryz.prog OA 74 [.v y88 g, .v y25 l] (I (ordC g l)) := by
  refine VF.enter Tryz.func74 rfl (fun _ _ => rfl) rfl ?_; show VC _ _ _ _ _ [(0, .v y88 g), (1, .v y25 l)] [] _; refine VC.seq (VC.text ?_); have hd := head_ok (gates_ok hz).1; refine VO.new (.box) ?_; refine VO.c (.assign rfl) ?_; refine VO.go (VC.seq (VC.seq (VC.text ?_))); refine VO.c (.move rfl) ?_; refine VO.r (.len el25) ?_; refine VO.c (.fa (.r (.l .o))) ?_; refine VO.r (.ld vt25) ?_; refine VO.r (.len el25) ?_; refine VO.c (.neq) (VO.go ?_); refine VC.condD rfl (fun c1 => ?_) (fun c1 => ?_)
  · refine VC.seq (VC.text ?_); refine VO.c (.assign rfl) (VO.go ?_); refine VC.ret ?_; exact VEnd.one rfl evT (pvI (by rw [ordC, if_pos (by omega)]))
  have hlen : ((l.length : Nat) : Int) = ((g.1.length : Nat) : Int) := by omega
  refine VC.skip (VC.seq (VC.seq (VC.text ?_))); refine VO.c (.assign rfl) ?_; refine VO.go (VC.block ?_); refine VC.keep [(1, .v y25 l), (2, .p y88 g), (5, I ((0 : Nat) : Int))] ⟨rfl, rfl, rfl, trivial⟩ ?_; refine VC.loop (I := fun kk ff ss => ∃ (i : Nat), kk = l.length - i ∧ ff = [(1, .v y25 l), (2, .p y88 g), (5, I ((i : Nat) : Int))] ∧ ss = [] ∧ (i ≤ l.length) ∧ (firstR (ocE g.1.length l) 0 l.length = firstR (ocE g.1.length l) i l.length) ∧ (∀ j, j < i → 0 ≤ l.getD j 0 ∧ l.getD j 0 < ((g.1.length : Nat) : Int))) ?_ _ _ _ ⟨0, rfl, rfl, rfl, Nat.zero_le _, (by rfl), (by intro j hj; omega)⟩; rintro kk ff ss ⟨i, hk0, rfl, rfl, hi, hq, hok⟩; refine VC.seq (VC.seq (VC.text ?_)); refine VO.c (.move rfl) (VO.c (.move rfl) ?_); refine VO.r (.len el25) ?_; refine VO.c (.lss) (VO.go ?_); refine VC.condD rfl (fun c4 => ?_) (fun c4 => ?_)
  · have hlt : i < l.length := by omega
    have hset := setQ_ok (n := g.1.length) (by omega) hok; refine VC.skip (VC.seq (VC.block (VC.seq (VC.seq (VC.text ?_))))); refine VO.c (.move rfl) (VO.c (.move rfl) (VO.c (.ix (j := i) rfl rfl el25 (by omega)) ?_)); refine VO.r (.ld vt3) ?_; refine VO.c (.lss) (VO.c (.move rfl) ?_); refine VO.cg (r := decide (l[i] < (0 : Int))) (w := false) [] trivial (fun _ => (.move rfl)) ?_; refine VO.cg (r := decide (l[i] < (0 : Int))) (w := false) [] trivial (fun _ => (.move rfl)) ?_; refine VO.cg (r := decide (l[i] < (0 : Int))) (w := false) [(26, .v y25 l), (27, I ((i : Nat) : Int))] ⟨rfl, rfl, trivial⟩ (fun hgd => have g6_5 : ¬ (l[i] < (0 : Int)) := (by simpa using hgd); (.ixD (j := i) rfl rfl 0 el25 (by omega))) ?_; refine VO.rg (r := decide (l[i] < (0 : Int))) (w := false) [(28, .p (.int .i64) (l.getD i 0))] ⟨rfl, trivial⟩ (fun _ => (.ld vt3)) ?_; refine VO.cg (r := decide (l[i] < (0 : Int))) (w := false) [] trivial (fun _ => (.move rfl)) ?_; refine VO.rg (r := decide (l[i] < (0 : Int))) (w := false) [(30, .v y25 l)] ⟨rfl, trivial⟩ (fun _ => (.len el25)) ?_; refine VO.cg (r := decide (l[i] < (0 : Int))) (w := false) [(29, I (l.getD i 0)), (31, I ((l.length : Nat) : Int))] ⟨rfl, rfl, trivial⟩ (fun _ => (.geq)) ?_; refine VO.c (.or) (VO.go ?_); refine VC.condB rfl (fun c6 => ?_) (fun c6 => ?_)
    · try simp only [Bool.and_eq_true, Bool.or_eq_true, Bool.and_eq_false_iff, Bool.or_eq_false_iff, Bool.not_eq_true', Bool.not_eq_false', decide_eq_true_eq, decide_eq_false_iff_not] at c6
      rw [getDg hlt] at c6; have h10 := oc_10 (n := g.1.length) hlt (by omega); refine VC.seq (VC.text ?_); refine VO.c (.assign rfl) (VO.go ?_); refine VC.ret ?_; exact VEnd.one rfl evT (pvI (by rw [ord_1 hlen (oc_t hq hlt (by rw [h10]; decide)) (by rw [h10]; decide), h10]))
    try simp only [Bool.and_eq_true, Bool.or_eq_true, Bool.and_eq_false_iff, Bool.or_eq_false_iff, Bool.not_eq_true', Bool.not_eq_false', decide_eq_true_eq, decide_eq_false_iff_not] at c6
    rw [getDg hlt] at c6
    have c6 : ¬ (l[i] < 0 ∨ ((g.1.length : Nat) : Int) ≤ l[i]) := by omega
    have hbt := setQ_bit (n := g.1.length) (by omega) hok (x := l[i]) (by omega); refine VC.skip (VC.seq (VC.drawn ?_)); refine VD.c (.move rfl) (VD.c (.move rfl) ?_); refine VD.r [] (.cutH rfl rfl el25 (by omega)) (.inl rfl) ?_; refine VD.c (.move rfl) (VD.c (.move rfl) (VD.c (.ix (j := i) rfl rfl el25 (by omega)) (VD.nw [] ?_))); refine VD.r [] (.ld vt3) (.inl rfl) ?_; refine VD.call rfl rfl (VF.call (rHasInt_ok (by simp; omega))) ?_; refine VD.go ?_; refine VC.condB rfl (fun c8 => ?_) (fun c8 => ?_)
    · have h9 := oc_9 hlt c6 (hbt.trans c8); refine VC.seq (VC.text ?_); refine VO.c (.assign rfl) (VO.go ?_); refine VC.ret ?_; exact VEnd.one rfl evT (pvI (by rw [ord_1 hlen (oc_t hq hlt (by rw [h9]; decide)) (by rw [h9]; decide), h9]))
    have hoc := oc_0 hlt c6 (hbt.trans c8); refine VC.skip (VC.text ?_); refine VO.c (.move rfl) (VO.c (.add rfl rfl (by omega)) (VO.c (.assign rfl) ?_)); refine VO.nil ?_; refine ⟨_, [(1, .v y25 l), (2, .p y88 g), (5, I (((i + 1) : Nat) : Int))], ?_, ⟨rfl, rfl, rfl, trivial⟩, (i + 1), rfl, rfl, rfl, (by omega), (by rw [hq, firstR_step hlt, if_pos hoc]), (by intro j hj; rcases Nat.lt_succ_iff_lt_or_eq.1 hj with h | h; exact hok j h; subst h; exact oc_ok hoc)⟩; omega
  have ho2 : ordC g l = firstR (opE g l) 0 l.length := ord_2 hlen (by rw [hq, firstR_end (by omega)])
  have hil : i = l.length := by omega
  refine VC.exit (VC.seq (VC.text ?_)); refine VO.c (.assign rfl) ?_; refine VO.go (VC.seq (VC.seq (VC.text ?_))); refine VO.c (.assign rfl) ?_; refine VO.go (VC.block ?_); refine VC.keep [(1, .v y25 l), (2, .p y88 g), (6, I (setQ l 0)), (7, I ((0 : Nat) : Int))] ⟨rfl, rfl, rfl, rfl, trivial⟩ ?_; refine VC.loop (I := fun kk ff ss => ∃ (k : Nat), kk = l.length - k ∧ ff = [(1, .v y25 l), (2, .p y88 g), (6, I (setQ l k)), (7, I ((k : Nat) : Int))] ∧ ss = [] ∧ (k ≤ l.length) ∧ (firstR (opE g l) 0 l.length = firstR (opE g l) k l.length)) ?_ _ _ _ ⟨0, rfl, rfl, rfl, Nat.zero_le _, (by rfl)⟩; rintro kk ff ss ⟨k, hk2, rfl, rfl, hk, hq2⟩; refine VC.seq (VC.seq (VC.text ?_)); refine VO.c (.move rfl) (VO.c (.move rfl) ?_); refine VO.r (.len el25) ?_; refine VO.c (.lss) (VO.go ?_); refine VC.condD rfl (fun c12 => ?_) (fun c12 => ?_)
  · have hkt : k < l.length := by omega
    have hok2 : ∀ j, j < k + 1 → 0 ≤ l.getD j 0 ∧ l.getD j 0 < ((g.1.length : Nat) : Int) := fun j hj => hok j (by omega); have hset := setQ_ok (n := g.1.length) (k := k) (by omega) fun j hj => hok2 j (by omega); have hx := hok2 k (by omega); rw [getDg hkt] at hx; have hp9 := pow9i (x := l[k]) (by omega); have horI := orI_set hset (x := l[k]) (by omega)
    have hsn : nxtI (setQ l k) (l[k]).toNat = setQ l (k + 1) := by show _ = nxtI _ _; rw [getDg hkt]
    refine VC.skip (VC.seq (VC.block (VC.seq (VC.text ?_)))); refine VO.c (.move rfl) (VO.c (.move rfl) (VO.c (.move rfl) (VO.c (.ix (j := k) rfl rfl el25 (by omega)) ?_))); refine VO.r (.ld vt3) ?_; refine VO.c (.shl rfl rfl (by omega) (by omega)) (VO.c ((.orI rfl rfl)) ?_); rw [horI, hsn]; refine VO.c (.assign rfl) ?_; refine VO.go (VC.seq (VC.text ?_)); refine VO.r (.ld vt88) ?_; refine VO.c (.move rfl) ?_; refine VO.call rfl rfl (VF.call (rPerm_ok (by first | assumption | omega | simp))) ?_; refine VO.c (.not) (VO.go ?_); refine VC.condB rfl (fun c15 => ?_) (fun c15 => ?_)
    · try simp only [Bool.and_eq_true, Bool.or_eq_true, Bool.and_eq_false_iff, Bool.or_eq_false_iff, Bool.not_eq_true', Bool.not_eq_false', decide_eq_true_eq, decide_eq_false_iff_not] at c15
      have hop : opE g l k = 31 := if_neg (by simpa using c15); refine VC.seq (VC.text ?_); refine VO.c (.assign rfl) (VO.go ?_); refine VC.ret ?_; exact VEnd.one rfl evT (pvI (by rw [ho2, hq2, firstR_step hkt, hop, if_neg (by decide)]))
    try simp only [Bool.and_eq_true, Bool.or_eq_true, Bool.and_eq_false_iff, Bool.or_eq_false_iff, Bool.not_eq_true', Bool.not_eq_false', decide_eq_true_eq, decide_eq_false_iff_not] at c15
    have hop : opE g l k = 0 := if_pos (by simpa using c15); refine VC.skip (VC.text ?_); refine VO.c (.move rfl) (VO.c (.add rfl rfl (by omega)) (VO.c (.assign rfl) ?_)); refine VO.nil ?_; refine ⟨_, [(1, .v y25 l), (2, .p y88 g), (6, I (setQ l (k + 1))), (7, I (((k + 1) : Nat) : Int))], ?_, ⟨rfl, rfl, slI rfl (by first | rfl | simp | omega), rfl, trivial⟩, (k + 1), rfl, rfl, rfl, (by omega), (by rw [hq2, firstR_step hkt, if_pos hop])⟩; omega
  refine VC.exit (VC.seq (VC.text ?_)); refine VO.c (.assign rfl) (VO.go ?_); refine VC.ret ?_; exact VEnd.one rfl evT (pvI (by rw [ho2, hq2, firstR_end (by omega)]))
end Go.Proofs
namespace Go.Proofs
open Go.Fs
set_option maxHeartbeats 1000000
end Go.Proofs
namespace Go.Proofs
open Go.Fs
set_option maxHeartbeats 1000000
end Go.Proofs
namespace Go.Proofs
open Go.Fs
set_option maxHeartbeats 1000000
end Go.Proofs
namespace Go.Proofs
open Go.Fs
set_option maxHeartbeats 1000000
theorem idxG_any {α : Type} {F : α → Bool} : ∀ {l : List α} {k : Int}, 0 ≤ k → ((0 ≤ idxG F l k) ↔ l.any F = true)
  | [], k, _ => by simp [idxG]
  | x :: l, k, h => by
    unfold idxG; rw [List.any_cons]; by_cases hx : F x = true
    · rw [if_pos hx, hx]; simp [h]
    rw [if_neg hx, idxG_any (l := l) (by omega)]; simp [hx]
end Go.Proofs
namespace Go.Proofs
open Go.Fs
set_option maxHeartbeats 1000000
theorem zt26 : ZerT Tryz.prog 26 (.int .i64) := zerT_of (z := .int .i64 0) (by kernel_rfl) rfl rfl
theorem zIndexI_ok {l : List Int} {v : Int} (hl : l.length < 1000000) : VF Tryz.prog OA 157 [.v y25 l, I v] (I (idxG (fun x => decide (v = x)) l 0)) := by
  refine VF.enter Tryz.func157 rfl (fun _ _ => rfl) rfl ?_; show VC _ _ _ _ _ [(0, .v y25 l), (1, I v)] [] _; refine VC.seq (VC.text ?_); refine VO.c (.assign rfl) ?_; refine VO.go (VC.seq (VC.seq (VC.text ?_))); refine VO.c (.move rfl) ?_; refine VO.r (.len el25) ?_; refine VO.c (.move rfl) ?_; refine VO.go (VC.block ?_); refine VC.keep [(0, .v y25 l), (1, I v), (7, I ((l.length : Nat) : Int)), (8, I ((0 : Nat) : Int))] ⟨rfl, rfl, rfl, rfl, trivial⟩ ?_; refine VC.loop (I := fun kk ff ss => ∃ (j : Nat), kk = l.length - j ∧ ff = [(0, .v y25 l), (1, I v), (7, I ((l.length : Nat) : Int)), (8, I ((j : Nat) : Int))] ∧ ss = [] ∧ (j ≤ l.length) ∧ (idxG (fun x => decide (v = x)) l 0 = idxG (fun x => decide (v = x)) (l.drop j) (j : Nat))) ?_ _ _ _ ⟨0, rfl, rfl, rfl, Nat.zero_le _, (by rfl)⟩; rintro kk ff ss ⟨j, hk0, rfl, rfl, hj, hi⟩; refine VC.seq (VC.text ?_); refine VO.c (.lss) ?_; refine VO.go (VC.seq ?_); refine VC.condD rfl (fun c2 => ?_) (fun c2 => ?_)
  · refine VC.skip (VC.seq (VC.block (VC.seq (VC.text ?_)))); refine VO.c (.move rfl) (VO.c (.assign rfl) ?_); refine VO.go (VC.seq (VC.text ?_)); refine VO.c (.move rfl) (VO.c (.move rfl) (VO.c (.move rfl) (VO.c (.ix (j := j) rfl rfl el25 (by omega)) ?_))); refine VO.r (.ld vt3) ?_; refine VO.c (.eql) (VO.go ?_); refine VC.condD rfl (fun c4 => ?_) (fun c4 => ?_)
    · refine VC.seq (VC.text ?_); refine VO.c (.move rfl) (VO.c (.assign rfl) (VO.go ?_)); refine VC.ret ?_; exact VEnd.one rfl evT (pvI (by rw [hi, idxG_drop (by omega), if_pos (by simpa using c4)]))
    refine VC.skip (VC.text ?_); refine VO.c (.add rfl rfl (by omega)) (VO.c (.move rfl) ?_); refine VO.nil ?_; refine ⟨_, [(0, .v y25 l), (1, I v), (7, I ((l.length : Nat) : Int)), (8, I (((j + 1) : Nat) : Int))], ?_, ⟨rfl, rfl, rfl, rfl, trivial⟩, (j + 1), rfl, rfl, rfl, (by omega), (by rw [hi, idxG_drop (by omega), if_neg (by simpa using c4)])⟩; omega
  refine VC.exit (VC.seq (VC.text ?_)); refine VO.c (.assign rfl) (VO.go ?_); refine VC.ret ?_; exact VEnd.one rfl evT (pvI (by rw [hi, idxG_end (by omega)]))
theorem idx_has {l : List Int} {v : Int} : decide ((0 : Int) ≤ idxG (fun x => decide (v = x)) l 0) = l.contains v := by
  rw [Bool.eq_iff_iff, decide_eq_true_eq, idxG_any (F := fun x => decide (v = x)) (l := l) (k := 0) (by omega), List.any_eq_true, List.contains_iff_mem]; constructor
  · rintro ⟨x, hx, he⟩; have := of_decide_eq_true he; subst this; exact hx
  intro h; exact ⟨v, h, decide_eq_true rfl⟩
theorem zContI_ok {l : List Int} {v : Int} (hl : l.length < 1000000) : VF Tryz.prog OA 138 [.v y25 l, I v] (B (l.contains v)) := by
  refine VF.enter Tryz.func138 rfl (fun _ _ => rfl) rfl ?_; show VC _ _ _ _ _ [(0, .v y25 l), (1, I v)] [] _; refine VC.seq (VC.text ?_); refine VO.c (.assign rfl) ?_; refine VO.go (VC.seq (VC.text ?_)); refine VO.c (.move rfl) (VO.c (.move rfl) ?_); refine VO.call rfl rfl (VF.call (zIndexI_ok (by first | assumption | omega | simp))) ?_; refine VO.c (.geq) (VO.c (.assign rfl) (VO.go ?_)); refine VC.ret ?_; exact VEnd.one rfl evT (pvE (by exact idx_has))
def skE (g : Gat) (l : List Int) (k : Nat) : Int := firstE [setE g (l.getD k 0), whenE (decide (l.getD k 0 ≤ lastB l k)) 11]
def closB (g : Gat) (l : List Int) : Bool := decide (∀ k, k < l.length → ∀ y ∈ moreL g (l.getD k 0), l.contains y.2 = true)
def stkC (g : Gat) (l : List Int) : Int := if firstR (skE g l) 0 l.length ≠ 0 then firstR (skE g l) 0 l.length else if l.contains 0 = true ∧ l.contains (fulI g.1.length) = false ∧ closB g l = true then 0 else 22
def stkE (g : Gat) (l : List Int) : Int := if gatesE g = 0 then stkC g l else gatesE g
theorem sk_ok {g : Gat} {l : List Int} {k : Nat} (h9 : g.1.length ≤ 9) (h : skE g l k = 0) : SetOk g.1.length (l.getD k 0) ∧ lastB l k < l.getD k 0 := by
  have h := firstE_zero.1 h; have h1 := (whenE_zero (by decide)).1 (h _ List.mem_cons_self); have h2 := of_decide_eq_false ((whenE_zero (by decide)).1 (h _ (List.mem_cons_of_mem _ List.mem_cons_self))); obtain ⟨h3, h4⟩ := Bool.or_eq_false_iff.1 h1; have h3 := of_decide_eq_false h3; have h4 := of_decide_eq_false h4; exact ⟨set_of h9 (by omega) (by omega), by omega⟩
theorem stk_1 {g : Gat} {l : List Int} {k : Nat} (h : firstR (skE g l) 0 l.length = firstR (skE g l) k l.length) (hk : k < l.length) (hz : skE g l k ≠ 0) : stkC g l = skE g l k := by
  rw [stkC, h, firstR_step hk, if_neg hz, if_pos hz]
theorem asc_all {l : List Int} (h : ∀ k, k < l.length → lastB l k < l.getD k 0) : ∀ k, k < l.length → ∀ j, j < k → l.getD j 0 < l.getD k 0
  | 0, _, j, hj => by omega
  | k + 1, hk, j, hj => by
    have h1 : l.getD k 0 < l.getD (k + 1) 0 := h (k + 1) hk; by_cases e : j = k
    · subst e; exact h1
    have := asc_all h k (by omega) j (by omega); omega
theorem has_get {l : List Int} {v : Int} : l.contains v = true ↔ ∃ k, k < l.length ∧ l.getD k 0 = v := by
  rw [List.contains_iff_mem, List.mem_iff_getElem]; constructor
  · rintro ⟨k, hk, rfl⟩; exact ⟨k, hk, getDg hk⟩
  rintro ⟨k, hk, rfl⟩; exact ⟨k, hk, (getDg hk).symm⟩
structure AscS (g : Gat) (l : List Int) : Prop where
  n9 : g.1.length ≤ 9
  ok : ∀ k, k < l.length → SetOk g.1.length (l.getD k 0)
  asc : ∀ k, k < l.length → lastB l k < l.getD k 0
theorem AscS.first {g : Gat} {l : List Int} (h : AscS g l) : l.contains 0 = decide (¬ (l.length = 0 ∨ l.getD 0 0 ≠ 0)) := by
  rw [Bool.eq_iff_iff, has_get, decide_eq_true_eq]; constructor
  · rintro ⟨k, hk, he⟩ hh; rcases hh with hh | hh
    · omega
    cases k with
    | zero => exact hh he
    | succ k =>
      have h1 := asc_all h.asc (k + 1) hk 0 (by omega); have h2 := (h.ok 0 (by omega)).lo; omega
  intro hh; exact ⟨0, by omega, by omega⟩
theorem ful_max {n : Nat} {s : Int} (h : SetOk n s) : s ≤ fulI n := by
  have := h.hi; have := h.lo; unfold fulI; omega
theorem AscS.last {g : Gat} {l : List Int} (h : AscS g l) (h0 : 0 < g.1.length) : l.contains (fulI g.1.length) = decide (lastB l l.length = fulI g.1.length) := by
  rw [Bool.eq_iff_iff, has_get, decide_eq_true_eq]
  have hf : fulI g.1.length ≠ -1 := by have := (ful_ok h.n9).lo; omega
  constructor
  · rintro ⟨k, hk, he⟩; obtain ⟨m, hm⟩ : ∃ m, l.length = m + 1 := ⟨l.length - 1, by omega⟩; rw [hm]; show l.getD m 0 = _; by_cases e : k = m
    · subst e; exact he
    have h1 := asc_all h.asc m (by omega) k (by omega); have h2 := ful_max (h.ok m (by omega)); omega
  intro he
  cases hl : l.length with
  | zero => rw [hl] at he; exact absurd he.symm hf
  | succ m => rw [hl] at he; exact ⟨m, by omega, he⟩
theorem AscS.res {g : Gat} {l : List Int} (h : AscS g l) (hz : firstR (skE g l) 0 l.length = 0) (h0 : 0 < g.1.length) : stkC g l = if (l.length = 0 ∨ l.getD 0 0 ≠ 0) ∨ lastB l l.length = fulI g.1.length then 22 else if closB g l = true then 0 else 22 := by
  unfold stkC; rw [if_neg (fun e => e hz), h.first, h.last h0]; by_cases h1 : l.length = 0 ∨ l.getD 0 0 ≠ 0
  · rw [if_neg (by rintro ⟨a, _⟩; exact absurd h1 (of_decide_eq_true a)), if_pos (.inl h1)]
  by_cases h2 : lastB l l.length = fulI g.1.length
  · rw [if_neg (by rintro ⟨_, a, _⟩; exact absurd h2 (of_decide_eq_false a)), if_pos (.inr h2)]
  rw [if_neg (c := _ ∨ _) (fun h => h.elim h1 h2)]; by_cases h3 : closB g l = true
  · rw [if_pos h3, if_pos ⟨decide_eq_true h1, decide_eq_false h2, h3⟩]
  rw [if_neg h3, if_neg (fun h => h3 h.2.2)]
theorem clos_t {g : Gat} {l : List Int} (h : ∀ k, k < l.length → ∀ y ∈ moreL g (l.getD k 0), l.contains y.2 = true) : closB g l = true := decide_eq_true h
theorem clos_f {g : Gat} {l : List Int} {k : Nat} (hk : k < l.length) {y : Int × Int} (hy : y ∈ moreL g (l.getD k 0)) (h : l.contains y.2 = false) : closB g l = false := decide_eq_false fun hh => by rw [hh k hk y hy] at h; cases h
theorem cChkS_ok {g : (List Int) × (List Int) × (List (List Int))} {l : List Int} (hl : g.1.length < 1000) (hr : ∀ row ∈ g.2.2, row.length < 1000) (hll : l.length < 1000000) : VF Tryz.prog OA 71 [.v y92 g, .v y25 l] (I (stkE g l)) := by
  refine VF.enter Tryz.func71 rfl (fun _ _ => rfl) rfl ?_; show VC _ _ _ _ _ [(0, .v y92 g), (1, .v y25 l)] [] _; refine VC.seq (VC.text ?_); refine VO.new (.box) ?_; refine VO.new (.box) ?_; refine VO.cell (.alloc zt26) ?_; intro ww1; refine VO.go (VC.seq (VC.seq (VC.text ?_))); refine VO.r (.ld vt92) ?_; refine VO.call rfl rfl (VF.call (cGates_ok hl hr)) ?_; refine VO.c (.assign rfl) ?_; refine VO.go (VC.seq (VC.text ?_)); refine VO.c (.move rfl) (VO.c (.neq) (VO.go ?_)); refine VC.condD rfl (fun c2 => ?_) (fun c2 => ?_)
  · refine VC.seq (VC.text ?_); refine VO.c (.move rfl) ?_; refine VO.setV (cs' := [I (gatesE g)]) vt26 .v ?_; refine VO.go ?_; refine VC.ret ?_; exact VEnd.one rfl (.cell (x := gatesE g) rfl m0 vt26 .refl) (pvI (by rw [stkE, if_neg c2]))
  have hz : gatesE g = 0 := Classical.not_not.1 c2; have hd := head_ok (gates_ok hz).1; have hst : stkE g l = stkC g l := if_pos hz; have hp9 := pow9 (n := g.1.length) (by omega); have hfe := ful_eq (n := g.1.length); refine VC.skip (VC.seq (VC.text ?_)); refine VO.c (.assign rfl) ?_; refine VO.go (VC.seq (VC.seq (VC.text ?_))); refine VO.r (.ld vt25) ?_; refine VO.r (.len el25) ?_; refine VO.c (.move rfl) ?_; refine VO.go (VC.block ?_); refine VC.keep [(2, .p y92 g), (3, .p y25 l), (4, .raw ww1), (6, I (lastB l 0)), (19, .v y25 l), (20, I ((l.length : Nat) : Int)), (21, I ((0 : Nat) : Int))] ⟨rfl, rfl, rfl, rfl, rfl, rfl, rfl, trivial⟩ ?_; refine VC.loop (I := fun kk ff ss => ∃ (i : Nat), kk = l.length - i ∧ ff = [(2, .p y92 g), (3, .p y25 l), (4, .raw ww1), (6, I (lastB l i)), (19, .v y25 l), (20, I ((l.length : Nat) : Int)), (21, I ((i : Nat) : Int))] ∧ ss = [(ww1, .var [I (0 : Int)])] ∧ (i ≤ l.length) ∧ (firstR (skE g l) 0 l.length = firstR (skE g l) i l.length) ∧ (∀ j, j < i → skE g l j = 0)) ?_ _ _ _ ⟨0, rfl, rfl, rfl, Nat.zero_le _, (by rfl), (by intro j hj; omega)⟩; rintro kk ff ss ⟨i, hk0, rfl, rfl, hi, hq, hok⟩; refine VC.seq (VC.text ?_); refine VO.c (.lss) ?_; refine VO.go (VC.seq ?_); refine VC.condD rfl (fun c6 => ?_) (fun c6 => ?_)
  · have hlt : i < l.length := by omega
    have hsk : firstE [setE g (l[i]), whenE (decide (l[i] ≤ lastB l i)) 11] = skE g l i := by rw [skE, getDg hlt]
    refine VC.skip (VC.seq (VC.block (VC.seq (VC.text ?_)))); refine VO.c (.ix (j := i) rfl rfl el25 (by omega)) ?_; refine VO.r (.ld vt3) ?_; refine VO.c (.assign rfl) ?_; refine VO.go (VC.seq (VC.seq (VC.text ?_))); refine VO.r (.ld vt92) ?_; refine VO.c (.move rfl) ?_; refine VO.call rfl rfl (VF.call (cCheckSet_ok (by omega))) ?_; refine VO.c (.move rfl) (VO.c (.move rfl) (VO.c (.leq) ?_)); refine VO.call rfl rfl (VF.call (cWhen_ok )) ?_; refine VO.new (.lit [setE g (l[i]), whenE (decide (l[i] ≤ (lastB l i))) (11 : Int)] el154) ?_; refine VO.call rfl rfl (VF.call (cFirst_ok (by simp))) ?_; refine VO.c (.assign rfl) ?_; refine VO.go (VC.seq (VC.text ?_)); refine VO.c (.move rfl) (VO.c (.neq) (VO.go ?_)); refine VC.condD rfl (fun c9 => ?_) (fun c9 => ?_)
    · have hsn : skE g l i ≠ 0 := by rw [← hsk]; exact c9
      refine VC.seq (VC.text ?_); refine VO.c (.move rfl) ?_; refine VO.setV (cs' := [I (firstE [setE g (l[i]), whenE (decide (l[i] ≤ (lastB l i))) (11 : Int)])]) vt26 .v ?_; refine VO.go ?_; refine VC.ret ?_; exact VEnd.one rfl (.cell (x := firstE [setE g (l[i]), whenE (decide (l[i] ≤ (lastB l i))) (11 : Int)]) rfl m0 vt26 .refl) (pvI (by rw [hst, stk_1 hq hlt hsn, ← hsk]))
    have hsz : skE g l i = 0 := by rw [← hsk]; exact Classical.not_not.1 c9
    refine VC.skip (VC.text ?_); refine VO.c (.move rfl) (VO.c (.assign rfl) ?_); refine VO.nil (VC.text ?_); refine VO.c (.add rfl rfl (by omega)) (VO.c (.move rfl) ?_); refine VO.nil ?_; refine ⟨_, [(2, .p y92 g), (3, .p y25 l), (4, .raw ww1), (6, I (lastB l (i + 1))), (19, .v y25 l), (20, I ((l.length : Nat) : Int)), (21, I (((i + 1) : Nat) : Int))], ?_, ⟨rfl, rfl, rfl, slI rfl (by exact (getDg hlt).symm), rfl, rfl, rfl, trivial⟩, (i + 1), rfl, rfl, rfl, (by omega), (by rw [hq, firstR_step hlt, if_pos hsz]), (by intro j hj; rcases Nat.lt_succ_iff_lt_or_eq.1 hj with h | h; exact hok j h; subst h; exact hsz)⟩; omega
  have hil : i = l.length := by omega
  have hfz : firstR (skE g l) 0 l.length = 0 := by rw [hq, firstR_end (by omega)]
  have hA : AscS g l := ⟨by omega, fun k hk => (sk_ok (by omega) (hok k (by omega))).1, fun k hk => (sk_ok (by omega) (hok k (by omega))).2⟩; have hres := hA.res hfz (by omega); refine VC.exit (VC.seq (VC.seq (VC.text ?_))); refine VO.r (.ld vt25) ?_; refine VO.r (.len el25) ?_; refine VO.c (.eql) (VO.c (.move rfl) ?_); refine VO.rg (r := decide (((l.length : Nat) : Int) = (0 : Int))) (w := false) [] trivial (fun _ => (.ld vt25)) ?_; refine VO.cg (r := decide (((l.length : Nat) : Int) = (0 : Int))) (w := false) [(43, .v y25 l)] ⟨rfl, trivial⟩ (fun hgd => have g13_3 : ¬ (((l.length : Nat) : Int) = (0 : Int)) := (by simpa using hgd); (.ixD (j := 0) rfl rfl 0 el25 (by omega))) ?_; refine VO.rg (r := decide (((l.length : Nat) : Int) = (0 : Int))) (w := false) [(44, .p (.int .i64) (l.getD 0 0))] ⟨rfl, trivial⟩ (fun _ => (.ld vt3)) ?_; refine VO.cg (r := decide (((l.length : Nat) : Int) = (0 : Int))) (w := false) [(45, I (l.getD 0 0))] ⟨rfl, trivial⟩ (fun _ => (.neq)) ?_; refine VO.c (.or) (VO.c (.move rfl) ?_); refine VO.cg (r := ((decide (((l.length : Nat) : Int) = (0 : Int))) || (decide ((l.getD 0 0) ≠ (0 : Int))))) (w := false) [] trivial (fun _ => (.move rfl)) ?_; refine VO.cg (r := ((decide (((l.length : Nat) : Int) = (0 : Int))) || (decide ((l.getD 0 0) ≠ (0 : Int))))) (w := false) [] trivial (fun _ => (.fa (.l .o))) ?_; refine VO.rg (r := ((decide (((l.length : Nat) : Int) = (0 : Int))) || (decide ((l.getD 0 0) ≠ (0 : Int))))) (w := false) [(50, .p y25 g.1)] ⟨rfl, trivial⟩ (fun _ => (.ld vt25)) ?_; refine VO.rg (r := ((decide (((l.length : Nat) : Int) = (0 : Int))) || (decide ((l.getD 0 0) ≠ (0 : Int))))) (w := false) [(51, .v y25 g.1)] ⟨rfl, trivial⟩ (fun _ => (.len el25)) ?_; refine VO.cg (r := ((decide (((l.length : Nat) : Int) = (0 : Int))) || (decide ((l.getD 0 0) ≠ (0 : Int))))) (w := false) [(52, I ((g.1.length : Nat) : Int))] ⟨rfl, trivial⟩ (fun hgd => have g13_9 : ((decide (((l.length : Nat) : Int) = (0 : Int))) || (decide ((l.getD 0 0) ≠ (0 : Int)))) = false := (by simpa using hgd); (.shl rfl rfl (by omega) (by omega))) ?_; refine VO.cg (r := ((decide (((l.length : Nat) : Int) = (0 : Int))) || (decide ((l.getD 0 0) ≠ (0 : Int))))) (w := false) [(53, I ((1 : Int) * 2 ^ (((g.1.length : Nat) : Int)).toNat))] ⟨rfl, trivial⟩ (fun hgd => have g13_9 : ((decide (((l.length : Nat) : Int) = (0 : Int))) || (decide ((l.getD 0 0) ≠ (0 : Int)))) = false := (by simpa using hgd); (.sub rfl rfl (by omega))) ?_; refine VO.cg (r := ((decide (((l.length : Nat) : Int) = (0 : Int))) || (decide ((l.getD 0 0) ≠ (0 : Int))))) (w := false) [(49, I (lastB l i)), (54, I (((1 : Int) * 2 ^ (((g.1.length : Nat) : Int)).toNat) - (1 : Int)))] ⟨rfl, rfl, trivial⟩ (fun _ => (.eql)) ?_; refine VO.c (.or) (VO.go ?_); refine VC.condB rfl (fun c13 => ?_) (fun c13 => ?_)
  · try simp only [Bool.and_eq_true, Bool.or_eq_true, Bool.and_eq_false_iff, Bool.or_eq_false_iff, Bool.not_eq_true', Bool.not_eq_false', decide_eq_true_eq, decide_eq_false_iff_not] at c13
    rw [hfe, hil] at c13
    have hr0 : stkC g l = 22 := by rw [hres, if_pos (by omega)]
    refine VC.seq (VC.text ?_); refine VO.setV (cs' := [I (22 : Int)]) vt26 .v ?_; refine VO.go ?_; refine VC.ret ?_; exact VEnd.one rfl (.cell (x := (22 : Int)) rfl m0 vt26 .refl) (pvI (by rw [hst, hr0]))
  try simp only [Bool.and_eq_true, Bool.or_eq_true, Bool.and_eq_false_iff, Bool.or_eq_false_iff, Bool.not_eq_true', Bool.not_eq_false', decide_eq_true_eq, decide_eq_false_iff_not] at c13
  rw [hfe, hil] at c13
  have hr1 : stkC g l = if closB g l = true then 0 else 22 := by rw [hres, if_neg (by omega)]
  refine VC.skip (VC.seq (VC.seq (VC.text ?_))); refine VO.r (.ld vt25) ?_; refine VO.r (.len el25) ?_; refine VO.c (.move rfl) ?_; refine VO.go (VC.block ?_); refine VC.keep [(2, .p y92 g), (3, .p y25 l), (4, .raw ww1), (57, .v y25 l), (58, I ((l.length : Nat) : Int)), (59, I ((0 : Nat) : Int))] ⟨rfl, rfl, rfl, rfl, rfl, rfl, trivial⟩ ?_; refine VC.loop (I := fun kk ff ss => ∃ (k : Nat), kk = l.length - k ∧ ff = [(2, .p y92 g), (3, .p y25 l), (4, .raw ww1), (57, .v y25 l), (58, I ((l.length : Nat) : Int)), (59, I ((k : Nat) : Int))] ∧ ss = [(ww1, .var [I (0 : Int)])] ∧ (k ≤ l.length) ∧ (∀ j, j < k → ∀ y ∈ moreL g (l.getD j 0), l.contains y.2 = true)) ?_ _ _ _ ⟨0, rfl, rfl, rfl, Nat.zero_le _, (by intro j hj; omega)⟩; rintro kk ff ss ⟨k, hk2, rfl, rfl, hk, hcl⟩; refine VC.seq (VC.text ?_); refine VO.c (.lss) ?_; refine VO.go (VC.seq ?_); refine VC.condD rfl (fun c16 => ?_) (fun c16 => ?_)
  · have hkt : k < l.length := by omega
    have hsok := hA.ok k hkt; rw [getDg hkt] at hsok; refine VC.skip (VC.seq (VC.block (VC.seq (VC.text ?_)))); refine VO.c (.ix (j := k) rfl rfl el25 (by omega)) ?_; refine VO.r (.ld vt3) ?_; refine VO.c (.assign rfl) ?_; refine VO.go (VC.seq (VC.text ?_)); refine VO.r (.ld vt92) ?_; refine VO.c (.move rfl) ?_; refine VO.call rfl rfl (VF.call (cMore_ok )) ?_; refine VO.go (VC.block ?_); refine VC.keep [(2, .p y92 g), (3, .p y25 l), (4, .raw ww1), (57, .v y25 l), (58, I ((l.length : Nat) : Int)), (59, I ((k : Nat) : Int)), (65, .clo 156 [] [.p y92 g, .p (.int .i64) (l[k])])] ⟨rfl, rfl, rfl, rfl, rfl, rfl, rfl, trivial⟩ ?_; refine VC.rangeFunc rfl (cMore1_ok hz hsok) (fun _ => rfl) rfl rfl (fun rest ss => ss = [(ww1, .var [I (0 : Int)])] ∧ (∀ y ∈ moreL g (l[k]), y ∈ rest ∨ l.contains y.2 = true) ∧ (∀ y ∈ rest, y ∈ moreL g (l[k]))) (fun ee ss => (ee = .ret ∧ ss = [(ww1, .var [I (22 : Int)])] ∧ (closB g l = false))) ⟨rfl, (by exact fun y hy => .inl hy), (by exact fun y hy => hy)⟩ ?_ ?_ ?_
    · rintro jj x rest _ ⟨rfl, hcr, hsu⟩; show VC _ _ _ _ _ [(67, I x.2), (66, I x.1), (2, .p y92 g), (3, .p y25 l), (4, .raw ww1), (57, .v y25 l), (58, I ((l.length : Nat) : Int)), (59, I ((k : Nat) : Int)), (65, .clo 156 [] [.p y92 g, .p (.int .i64) (l[k])])] [(ww1, .var [I (0 : Int)])] _; refine VC.text ?_; refine VO.c (.assign rfl) ?_; refine VO.nil ?_; refine ⟨rfl, ?_⟩; refine VC.block (VC.seq (VC.text ?_)); refine VO.r (.ld vt25) ?_; refine VO.c (.move rfl) ?_; refine VO.call rfl rfl (VF.call (zContI_ok (by first | assumption | omega | simp))) ?_; refine VO.c (.not) (VO.go ?_); refine VC.condB rfl (fun c20 => ?_) (fun c20 => ?_)
      · try simp only [Bool.and_eq_true, Bool.or_eq_true, Bool.and_eq_false_iff, Bool.or_eq_false_iff, Bool.not_eq_true', Bool.not_eq_false', decide_eq_true_eq, decide_eq_false_iff_not] at c20
        refine VC.seq (VC.text ?_); refine VO.setV (cs' := [I (22 : Int)]) vt26 .v ?_; refine VO.go ?_; refine VC.ret ?_; exact .inr ⟨(by intro h; cases h), ⟨rfl, rfl, (by exact clos_f hkt (by rw [getDg hkt]; exact hsu x List.mem_cons_self) (by simpa using c20))⟩⟩
      try simp only [Bool.and_eq_true, Bool.or_eq_true, Bool.and_eq_false_iff, Bool.or_eq_false_iff, Bool.not_eq_true', Bool.not_eq_false', decide_eq_true_eq, decide_eq_false_iff_not] at c20
      refine VC.skip ?_; exact .inl ⟨rfl, rfl, (by exact fun y hy => (hcr y hy).elim (fun h => (List.mem_cons.1 h).elim (fun e => .inr (by rw [e]; simpa using c20)) .inl) .inr), (by exact fun y hy => hsu y (List.mem_cons_of_mem _ hy))⟩
    · rintro _ ⟨rfl, hcr, hsu⟩; refine VC.text ?_; refine VO.c (.add rfl rfl (by omega)) (VO.c (.move rfl) ?_); refine VO.nil ?_; refine ⟨_, [(2, .p y92 g), (3, .p y25 l), (4, .raw ww1), (57, .v y25 l), (58, I ((l.length : Nat) : Int)), (59, I (((k + 1) : Nat) : Int))], ?_, ⟨rfl, rfl, rfl, rfl, rfl, rfl, trivial⟩, (k + 1), rfl, rfl, rfl, (by omega), (by intro j hj; rcases Nat.lt_succ_iff_lt_or_eq.1 hj with h | h; exact hcl j h; subst h; exact fun y hy => (hcr y (by rw [← getDg hkt]; exact hy)).elim (fun h => by cases h) id)⟩; omega
    rintro _ _ _ (⟨rfl, rfl, he⟩)
    · exact VEnd.one rfl (.cell (x := (22 : Int)) rfl m0 vt26 .refl) (pvI (by rw [hst, hr1, he] <;> rfl))
  have hct := clos_t (g := g) (l := l) fun j hj => hcl j (by omega); refine VC.exit (VC.seq (VC.text ?_)); refine VO.setV (cs' := [I (0 : Int)]) vt26 .v ?_; refine VO.go ?_; refine VC.ret ?_; exact VEnd.one rfl (.cell (x := (0 : Int)) rfl m0 vt26 .refl) (pvI (by rw [hst, hr1, hct] <;> rfl))
end Go.Proofs
namespace Go.Proofs
open Go.Fs
set_option maxHeartbeats 1000000
theorem sk_set {g : Gat} {l : List Int} {k : Nat} (h : setE g (l.getD k 0) ≠ 0) : skE g l k = setE g (l.getD k 0) := if_neg h
theorem sk_11 {g : Gat} {l : List Int} {k : Nat} (h : setE g (l.getD k 0) = 0) (h2 : l.getD k 0 ≤ lastB l k) : skE g l k = 11 := by
  rw [skE, h, decide_eq_true h2] <;> rfl
theorem sk_0 {g : Gat} {l : List Int} {k : Nat} (h : setE g (l.getD k 0) = 0) (h2 : ¬ l.getD k 0 ≤ lastB l k) : skE g l k = 0 := by
  rw [skE, h, decide_eq_false h2] <;> rfl
theorem setE_nn {g : Gat} {s : Int} (h : setE g s = 0) : 0 ≤ s := by
  have h1 := (whenE_zero (by decide)).1 h; have := of_decide_eq_false (Bool.or_eq_false_iff.1 h1).1; omega
theorem last_at {l : List Int} {i : Nat} (h : 0 < i) (hi : i < l.length) : lastB l i = l[i - 1]'(by omega) := by
  cases i with
  | zero => omega
  | succ i => exact getDg (by omega)
theorem AscS.res2 {g : Gat} {l : List Int} (hz : firstR (skE g l) 0 l.length = 0) : stkC g l = if l.contains 0 = true ∧ l.contains (fulI g.1.length) = false ∧ closB g l = true then 0 else 22 := by
  unfold stkC; rw [if_neg (fun e => e hz)]
theorem clos_r {g : Gat} {l : List Int} (h : ∀ j, j < l.length → ∀ q, q < g.1.length → permE g (nxtI (l.getD j 0) q) g.1.length = true → l.contains (nxtI (l.getD j 0) q) = true) : closB g l = true := clos_t fun k hk y hy => by
  obtain ⟨q, hq, hm, rfl⟩ := more_mem.1 hy; exact h k hk q hq (may_2 hm).2
theorem clos_n {g : Gat} {l : List Int} {j q : Nat} (hs : SetOk g.1.length (l.getD j 0)) (hj : j < l.length) (hq : q < g.1.length) (hp : permE g (nxtI (l.getD j 0) q) g.1.length = true) (h : l.contains (nxtI (l.getD j 0) q) = false) : closB g l = false := by
  refine clos_f (y := (((q : Nat) : Int), nxtI (l.getD j 0) q)) hj (more_mem.2 ⟨q, hq, ?_, rfl⟩) h; unfold mayB
  cases hb : (l.getD j 0).toNat.testBit q with
  | false => rw [hp] <;> rfl
  | true =>
    rw [nxt_self hs hq hb] at h; have := has_get.2 ⟨j, hj, rfl⟩; rw [h] at this; cases this
theorem rChkS_ok {g : (List Int) × (List Int) × (List (List Int))} {l : List Int} (hz : gatesE g = 0) (hll : l.length < 100000) : VF Tryz.prog OA 75 [.v y88 g, .v y25 l] (I (stkC g l)) := by
  refine VF.enter Tryz.func75 rfl (fun _ _ => rfl) rfl ?_; show VC _ _ _ _ _ [(0, .v y88 g), (1, .v y25 l)] [] _; refine VC.seq (VC.text ?_); have hd := head_ok (gates_ok hz).1; have hp9 := pow9 (n := g.2.1.length) (by omega)
  have hfe : (1 : Int) * 2 ^ ((g.2.1.length : Nat) : Int).toNat - 1 = fulI g.1.length := by rw [hd.2.1]; exact ful_eq
  refine VO.new (.box) ?_; refine VO.c (.assign rfl) ?_; refine VO.go (VC.seq (VC.seq (VC.text ?_))); refine VO.c (.assign rfl) ?_; refine VO.go (VC.block ?_); refine VC.keep [(1, .v y25 l), (2, .p y88 g), (5, I ((0 : Nat) : Int))] ⟨rfl, rfl, rfl, trivial⟩ ?_; refine VC.loop (I := fun kk ff ss => ∃ (i : Nat), kk = l.length - i ∧ ff = [(1, .v y25 l), (2, .p y88 g), (5, I ((i : Nat) : Int))] ∧ ss = [] ∧ (i ≤ l.length) ∧ (firstR (skE g l) 0 l.length = firstR (skE g l) i l.length) ∧ (∀ j, j < i → skE g l j = 0)) ?_ _ _ _ ⟨0, rfl, rfl, rfl, Nat.zero_le _, (by rfl), (by intro j hj; omega)⟩; rintro kk ff ss ⟨i, hk0, rfl, rfl, hi, hq, hok⟩; refine VC.seq (VC.seq (VC.text ?_)); refine VO.c (.move rfl) (VO.c (.move rfl) ?_); refine VO.r (.len el25) ?_; refine VO.c (.lss) (VO.go ?_); refine VC.condD rfl (fun c2 => ?_) (fun c2 => ?_)
  · have hlt : i < l.length := by omega
    have hge : l.getD i 0 = l[i] := getDg hlt; refine VC.skip (VC.seq (VC.block (VC.seq (VC.seq (VC.drawn ?_))))); refine VD.r [] (.ld vt88) (.inl rfl) ?_; refine VD.c (.move rfl) (VD.c (.move rfl) (VD.c (.ix (j := i) rfl rfl el25 (by omega)) ?_)); refine VD.r [] (.ld vt3) (.inl rfl) ?_; refine VD.call rfl rfl (VF.call (rCheckSet_ok (by omega))) ?_; refine VD.nw [] (VD.c (.assign rfl) ?_); refine VD.go (VC.seq (VC.text ?_)); refine VO.c (.move rfl) (VO.c (.neq) (VO.go ?_)); refine VC.condD rfl (fun c5 => ?_) (fun c5 => ?_)
    · have hse : skE g l i = setE g l[i] := by rw [sk_set (by rw [hge]; exact c5), hge]
      refine VC.seq (VC.text ?_); refine VO.c (.move rfl) (VO.c (.assign rfl) (VO.go ?_)); refine VC.ret ?_; exact VEnd.one rfl evT (pvI (by rw [stk_1 hq hlt (by rw [hse]; exact c5), hse]))
    have hs0 : setE g (l.getD i 0) = 0 := by rw [hge]; exact Classical.not_not.1 c5
    have hsn := setE_nn hs0; refine VC.skip (VC.seq ?_); refine VC.join [(1, .v y25 l), (2, .p y88 g), (5, I ((i : Nat) : Int)), (39, B (decide (l.getD i 0 ≤ lastB l i)))] [] ?_ ?_
    · skip
      refine VC.drawn ?_; refine VD.c (.move rfl) (VD.c (.gtr) (VD.c (.move rfl) ?_)); refine VD.splitD (x := 28) rfl (fun g7_2 => ?_) (fun g7_2 => ?_)
      · have hla := last_at (l := l) (i := i) (by omega) hlt
        have hi1 : (((i : Nat) : Int) - 1).toNat = i - 1 := by omega
        refine VD.c (.move rfl) (VD.c (.move rfl) (VD.nw [] (VD.c (.ix (j := i) rfl rfl el25 (by omega)) ?_))); refine VD.r [] (.ld vt3) (.inl rfl) ?_; refine VD.c (.move rfl) (VD.c (.move rfl) (VD.c (.sub rfl rfl (by omega)) (VD.c (.ixZ (k := (((i : Nat) : Int) - (1 : Int))) rfl rfl el25 (by omega) (by omega)) ?_))); refine VD.r [] (.ld vt3) (.inl rfl) ?_; refine VD.nw [] (VD.c (.leq) (VD.c (.pickT rfl rfl) ?_)); refine VD.nil ?_; exact ⟨⟨rfl, rfl, rfl, slE rfl (by first | (rw [hla, hge]; exact (decide_eq_false (by omega)).symm) | (simp only [hla, hge, hi1]; done) | (simp [hla, hge, hi1])), trivial⟩, rfl⟩
      have hla : lastB l i = -1 := by rw [show i = 0 by omega] <;> rfl
      refine VD.skip (VD.skip (VD.nw [] (VD.skip ?_))); refine VD.skip (VD.skip (VD.skip (VD.skip ?_))); refine VD.skip (VD.skip (VD.nw [] (VD.skip ?_))); refine VD.c (.pickF rfl rfl) ?_; refine VD.nil ?_; exact ⟨⟨rfl, rfl, rfl, slE rfl (by first | (rw [hla, hge]; exact (decide_eq_false (by omega)).symm) | (simp only [hla, hge, hi1]; done) | (simp [hla, hge, hi1])), trivial⟩, rfl⟩
    refine VC.condB rfl (fun c7 => ?_) (fun c7 => ?_)
    · try simp only [Bool.and_eq_true, Bool.or_eq_true, Bool.and_eq_false_iff, Bool.or_eq_false_iff, Bool.not_eq_true', Bool.not_eq_false', decide_eq_true_eq, decide_eq_false_iff_not] at c7
      have h11 := sk_11 hs0 c7; refine VC.seq (VC.text ?_); refine VO.c (.assign rfl) (VO.go ?_); refine VC.ret ?_; exact VEnd.one rfl evT (pvI (by rw [stk_1 hq hlt (by rw [h11]; decide), h11]))
    try simp only [Bool.and_eq_true, Bool.or_eq_true, Bool.and_eq_false_iff, Bool.or_eq_false_iff, Bool.not_eq_true', Bool.not_eq_false', decide_eq_true_eq, decide_eq_false_iff_not] at c7
    have hsz := sk_0 hs0 c7; refine VC.skip (VC.text ?_); refine VO.c (.move rfl) (VO.c (.add rfl rfl (by omega)) (VO.c (.assign rfl) ?_)); refine VO.nil ?_; refine ⟨_, [(1, .v y25 l), (2, .p y88 g), (5, I (((i + 1) : Nat) : Int))], ?_, ⟨rfl, rfl, rfl, trivial⟩, (i + 1), rfl, rfl, rfl, (by omega), (by rw [hq, firstR_step hlt, if_pos hsz]), (by intro j hj; rcases Nat.lt_succ_iff_lt_or_eq.1 hj with h | h; exact hok j h; subst h; exact hsz)⟩; omega
  have hil : i = l.length := by omega
  have hfz : firstR (skE g l) 0 l.length = 0 := by rw [hq, firstR_end (by omega)]
  have hres := AscS.res2 hfz; have hsk : ∀ k, k < l.length → SetOk g.1.length (l.getD k 0) := fun k hk => (sk_ok (by omega) (hok k (by omega))).1; refine VC.exit (VC.seq (VC.text ?_)); refine VO.c (.fa (.r (.l .o))) ?_; refine VO.r (.ld vt25) ?_; refine VO.r (.len el25) ?_; refine VO.c (.assign rfl) ?_; refine VO.go (VC.seq (VC.seq (VC.text ?_))); refine VO.c (.move rfl) ?_; refine VO.call rfl rfl (VF.call (rHasInt_ok (by omega))) ?_; refine VO.c (.not) (VO.c (.move rfl) ?_); refine VO.cg (r := (!(l.contains (0 : Int)))) (w := false) [] trivial (fun _ => (.move rfl)) ?_; refine VO.cg (r := (!(l.contains (0 : Int)))) (w := false) [] trivial (fun _ => (.move rfl)) ?_; refine VO.cg (r := (!(l.contains (0 : Int)))) (w := false) [(48, I ((g.2.1.length : Nat) : Int))] ⟨rfl, trivial⟩ (fun hgd => have g10_3 : (!(l.contains (0 : Int))) = false := (by simpa using hgd); (.shl rfl rfl (by omega) (by omega))) ?_; refine VO.cg (r := (!(l.contains (0 : Int)))) (w := false) [(49, I ((1 : Int) * 2 ^ (((g.2.1.length : Nat) : Int)).toNat))] ⟨rfl, trivial⟩ (fun hgd => have g10_3 : (!(l.contains (0 : Int))) = false := (by simpa using hgd); (.sub rfl rfl (by omega))) ?_; refine VO.callg (r0 := (!(l.contains (0 : Int)))) (w := false) [(47, .v y25 l), (50, I (((1 : Int) * 2 ^ (((g.2.1.length : Nat) : Int)).toNat) - (1 : Int)))] ⟨rfl, rfl, trivial⟩ rfl rfl .same .refl rfl (fun hgd => have g10_3 : (!(l.contains (0 : Int))) = false := (by simpa using hgd); VF.call (rHasInt_ok (by omega))) ?_; refine VO.c (.or) (VO.go ?_); refine VC.condB rfl (fun c10 => ?_) (fun c10 => ?_)
  · try simp only [Bool.and_eq_true, Bool.or_eq_true, Bool.and_eq_false_iff, Bool.or_eq_false_iff, Bool.not_eq_true', Bool.not_eq_false', decide_eq_true_eq, decide_eq_false_iff_not] at c10
    rw [hfe] at c10
    have hr0 : stkC g l = 22 := by rw [hres, if_neg]; rintro ⟨a, b, _⟩; rcases c10 with h | h; rw [a] at h; cases h; rw [b] at h; cases h
    refine VC.seq (VC.text ?_); refine VO.c (.assign rfl) (VO.go ?_); refine VC.ret ?_; exact VEnd.one rfl evT (pvI (by rw [hr0]))
  try simp only [Bool.and_eq_true, Bool.or_eq_true, Bool.and_eq_false_iff, Bool.or_eq_false_iff, Bool.not_eq_true', Bool.not_eq_false', decide_eq_true_eq, decide_eq_false_iff_not] at c10
  rw [hfe] at c10
  have hr1 : stkC g l = if closB g l = true then 0 else 22 := by
    rw [hres]; by_cases hc : closB g l = true
    · rw [if_pos ⟨c10.1, c10.2, hc⟩, if_pos hc]
    rw [if_neg (fun h => hc h.2.2), if_neg hc]
  refine VC.skip (VC.seq (VC.seq (VC.text ?_))); refine VO.c (.assign rfl) ?_; refine VO.go (VC.block ?_); refine VC.keep [(1, .v y25 l), (2, .p y88 g), (7, I ((g.2.1.length : Nat) : Int)), (8, I ((0 : Nat) : Int))] ⟨rfl, rfl, rfl, rfl, trivial⟩ ?_; refine VC.loop (I := fun kk ff ss => ∃ (j : Nat), kk = l.length - j ∧ ff = [(1, .v y25 l), (2, .p y88 g), (7, I ((g.2.1.length : Nat) : Int)), (8, I ((j : Nat) : Int))] ∧ ss = [] ∧ (j ≤ l.length) ∧ (∀ p, p < j → ∀ q, q < g.1.length → permE g (nxtI (l.getD p 0) q) g.1.length = true → l.contains (nxtI (l.getD p 0) q) = true)) ?_ _ _ _ ⟨0, rfl, rfl, rfl, Nat.zero_le _, (by intro p hp; omega)⟩; rintro kk ff ss ⟨j, hk2, rfl, rfl, hj, hcl⟩; refine VC.seq (VC.seq (VC.text ?_)); refine VO.c (.move rfl) (VO.c (.move rfl) ?_); refine VO.r (.len el25) ?_; refine VO.c (.lss) (VO.go ?_); refine VC.condD rfl (fun c13 => ?_) (fun c13 => ?_)
  · have hjt : j < l.length := by omega
    have hso := hsk j hjt; have hgj : l.getD j 0 = l[j] := getDg hjt; refine VC.skip (VC.seq (VC.block (VC.seq (VC.text ?_)))); refine VO.c (.assign rfl) ?_; refine VO.go (VC.block ?_); refine VC.keep [(1, .v y25 l), (2, .p y88 g), (7, I ((g.2.1.length : Nat) : Int)), (8, I ((j : Nat) : Int)), (9, I ((0 : Nat) : Int))] ⟨rfl, rfl, rfl, rfl, rfl, trivial⟩ ?_; refine VC.loop (I := fun kk ff ss => ∃ (q : Nat), kk = g.2.1.length - q ∧ ff = [(1, .v y25 l), (2, .p y88 g), (7, I ((g.2.1.length : Nat) : Int)), (8, I ((j : Nat) : Int)), (9, I ((q : Nat) : Int))] ∧ ss = [] ∧ (q ≤ g.2.1.length) ∧ (∀ p, p < q → permE g (nxtI (l.getD j 0) p) g.1.length = true → l.contains (nxtI (l.getD j 0) p) = true)) ?_ _ _ _ ⟨0, rfl, rfl, rfl, Nat.zero_le _, (by intro p hp; omega)⟩; rintro kk ff ss ⟨q, hk4, rfl, rfl, hqn, hcq⟩; refine VC.seq (VC.seq (VC.text ?_)); refine VO.c (.move rfl) (VO.c (.move rfl) (VO.c (.lss) (VO.go ?_))); refine VC.condD rfl (fun c16 => ?_) (fun c16 => ?_)
    · have hqt : q < g.1.length := by omega
      have hp9q := pow9 (n := q) (by omega); have horI := orI_nxt hso (i := q) (by omega); rw [hgj] at horI; refine VC.skip (VC.seq (VC.block (VC.seq (VC.drawn ?_)))); refine VD.c (.move rfl) (VD.c (.move rfl) (VD.c (.ix (j := j) rfl rfl el25 (by omega)) ?_)); refine VD.r [] (.ld vt3) (.inl rfl) ?_; refine VD.c (.move rfl) (VD.c (.shl rfl rfl (by omega) (by omega)) (VD.nw [] (VD.c ((.orI rfl rfl)) ?_))); rw [horI]; refine VD.c (.assign rfl) ?_; refine VD.go (VC.seq (VC.text ?_)); refine VO.r (.ld vt88) ?_; refine VO.c (.move rfl) ?_; refine VO.call rfl rfl (VF.call (rPerm_ok hz)) ?_; refine VO.c (.move rfl) ?_; refine VO.cg (r := permE g (nxtI (l[j]) q) g.1.length) (w := true) [] trivial (fun _ => (.move rfl)) ?_; refine VO.cg (r := permE g (nxtI (l[j]) q) g.1.length) (w := true) [] trivial (fun _ => (.move rfl)) ?_; refine VO.callg (r0 := permE g (nxtI (l[j]) q) g.1.length) (w := true) [(75, .v y25 l), (76, I (nxtI (l[j]) q))] ⟨rfl, rfl, trivial⟩ rfl rfl .same .refl rfl (fun hgd => have g19_3 : permE g (nxtI (l[j]) q) g.1.length = true := (by simpa using hgd); VF.call (rHasInt_ok (by omega))) ?_; refine VO.cg (r := permE g (nxtI (l[j]) q) g.1.length) (w := true) [(77, B (l.contains (nxtI (l[j]) q)))] ⟨rfl, trivial⟩ (fun _ => (.not)) ?_; refine VO.c (.and) (VO.go ?_); refine VC.condB rfl (fun c19 => ?_) (fun c19 => ?_)
      · try simp only [Bool.and_eq_true, Bool.or_eq_true, Bool.and_eq_false_iff, Bool.or_eq_false_iff, Bool.not_eq_true', Bool.not_eq_false', decide_eq_true_eq, decide_eq_false_iff_not] at c19
        have hcf : closB g l = false := clos_n (j := j) (q := q) hso hjt hqt (by rw [hgj]; exact c19.1) (by rw [hgj]; exact c19.2); refine VC.seq (VC.text ?_); refine VO.c (.assign rfl) (VO.go ?_); refine VC.ret ?_; exact VEnd.one rfl evT (pvI (by rw [hr1, hcf] <;> rfl))
      try simp only [Bool.and_eq_true, Bool.or_eq_true, Bool.and_eq_false_iff, Bool.or_eq_false_iff, Bool.not_eq_true', Bool.not_eq_false', decide_eq_true_eq, decide_eq_false_iff_not] at c19
      have hcx : permE g (nxtI (l.getD j 0) q) g.1.length = true → l.contains (nxtI (l.getD j 0) q) = true := by
        rw [hgj]; intro hp; rcases c19 with h | h
        · rw [hp] at h; cases h
        exact h
      refine VC.skip (VC.text ?_); refine VO.c (.move rfl) (VO.c (.add rfl rfl (by omega)) (VO.c (.assign rfl) ?_)); refine VO.nil ?_; refine ⟨_, [(1, .v y25 l), (2, .p y88 g), (7, I ((g.2.1.length : Nat) : Int)), (8, I ((j : Nat) : Int)), (9, I (((q + 1) : Nat) : Int))], ?_, ⟨rfl, rfl, rfl, rfl, rfl, trivial⟩, (q + 1), rfl, rfl, rfl, (by omega), (by intro p hp; rcases Nat.lt_succ_iff_lt_or_eq.1 hp with h | h; exact hcq p h; subst h; exact hcx)⟩; omega
    refine VC.exit (VC.text ?_); refine VO.c (.move rfl) (VO.c (.add rfl rfl (by omega)) (VO.c (.assign rfl) ?_)); refine VO.nil ?_; refine ⟨_, [(1, .v y25 l), (2, .p y88 g), (7, I ((g.2.1.length : Nat) : Int)), (8, I (((j + 1) : Nat) : Int))], ?_, ⟨rfl, rfl, rfl, rfl, trivial⟩, (j + 1), rfl, rfl, rfl, (by omega), (by intro p hp; rcases Nat.lt_succ_iff_lt_or_eq.1 hp with h | h; exact hcl p h; subst h; exact fun q hq' => hcq q (by omega))⟩; omega
  have hct := clos_r (g := g) (l := l) fun p hp => hcl p (by omega); refine VC.exit (VC.seq (VC.text ?_)); refine VO.c (.assign rfl) (VO.go ?_); refine VC.ret ?_; exact VEnd.one rfl evT (pvI (by rw [hr1, hct] <;> rfl))
end Go.Proofs
namespace Go.Fs
variable {P : Program} {O : FuncId → List Value → Heap → Option (Value × Heap)} {h : Heap} {S : List Nat}
theorem elems_int {rs : List Value} {xs : List Int} (he : Elems h S (.int .i64) rs xs) : rs = xs.map (.int .i64) := by
  have := elems_L (τ := .int .i64) rfl he; rw [this]; show xs.flatMap (fun x => [Value.int .i64 x]) = _; clear this he
  induction xs with
  | nil => rfl
  | cons x r ih => simp [ih]
theorem int_elems {xs : List Int} : Elems h S (.int .i64) (xs.map (.int .i64)) xs := ⟨by simp [Ty.size], fun i hi => by
  show (((xs.map (Value.int .i64)).drop (i * 1)).take 1) = [.int .i64 xs[i]]; rw [Nat.mul_one, List.drop_eq_getElem_cons (by simpa using hi)]
  simp⟩
theorem VFG.sortI {O2 : FuncId → List Value → Heap → Option (Value × Heap)} {fs : FuncId} {e : TypeId} {w : Value} {xs : List Int} (hn : xs.length ≤ 1000000) (hE : ∀ us h, O2 fs us h = orcJ fs O fs us h) :
    VFG P O2 fs [.raw w] [(w, .row e (.int .i64) xs)] fun r γ' => r = .tup [] ∧ γ' = [(w, .row e (.int .i64) (Fs.sortI xs))] := fun h S us hok hS hcells hnd hsep ha => by
  obtain ⟨u, r, rfl, h1, h2⟩ := ha; obtain rfl : r = [] := h2; obtain rfl : u = w := h1; rcases hcells _ List.mem_cons_self with ⟨hw, hx⟩ | ⟨b, rs, m, hw, h3, h4, h5⟩
  · have hw : u = .slice none 0 0 := hw; have hx : xs = [] := hx; subst hw hx; refine EvF.oracle (v := .tuple #[]) (h' := h) (by rw [hE]; simp only [orcJ, Nat.beq_refl, cond_true]) ?_; refine ⟨_, _, ⟨rfl, rfl⟩, ⟨Aft.refl _ _, fun b hb => (by cases hb), List.nodup_nil, fun c hc => ?_⟩, ⟨[], rfl, rfl⟩⟩
    obtain rfl : c = _ := by simpa using hc
    exact .inl ⟨rfl, by simp [Fs.sortI]⟩
  have hw : u = .slice (some ⟨b, 0, none⟩) xs.length 0 := hw; have hrs := elems_int h5; subst hw hrs
  have ho : orcJ fs O fs [.slice (some ⟨b, 0, none⟩) xs.length 0] h = some (.tuple #[], h.set b (.row e ((Fs.sortI xs).map (.int .i64)) true m)) := by
    have e1 : Nat.ble xs.length (xs.map (Value.int .i64)).length = true := by rw [Nat.ble_eq]; simp
    have e2 : Nat.ble xs.length 1000000 = true := by rw [Nat.ble_eq]; exact hn
    have e3 : (xs.map (Value.int .i64)).take xs.length = xs.map (.int .i64) := List.take_of_length_le (by simp)
    have e4 : splice (xs.map (Value.int .i64)) 0 ((Fs.sortI xs).map (.int .i64)) = (Fs.sortI xs).map (.int .i64) := by
      unfold splice; rw [List.take_zero, List.nil_append, List.drop_of_length_le (by simp [sortI_length]), List.append_nil]
    simp only [orcJ, Nat.beq_refl, cond_true, h4, e1, e2, Bool.and_self, e3, ints_map, e4]
  refine EvF.oracle ((hE _ _).trans ho) ⟨_, _, ⟨rfl, rfl⟩, ⟨Aft.set h4 (by simp [own, blk]), fun b' hb' => .inl (by simpa [own, blk] using hb'), by simp [own, blk], fun c hc => ?_⟩, ⟨[], rfl, rfl⟩⟩
  obtain rfl : c = _ := by simpa using hc
  refine .inr ⟨b, _, m, by rw [sortI_length], by simp [own, blk], by rw [Heap.get_set h4, if_pos rfl], int_elems⟩
end Go.Fs
namespace Go.Proofs
open Go.Fs
set_option maxHeartbeats 1000000
inductive Reach (g : Gat) : Int → Prop where
  | zero : Reach g 0
  | step {s : Int} {y : Int × Int} (h : Reach g s) (hy : y ∈ moreL g s) : Reach g y.2
theorem Reach.ok {g : Gat} (h9 : g.1.length ≤ 9) {s : Int} (h : Reach g s) : SetOk g.1.length s := by
  induction h with
  | zero => exact zero_ok h9
  | step _ hy ih => exact (more_ok ih hy).1
theorem ord_back {g : Gat} (h9 : g.1.length ≤ 9) {s : Int} (h : Reach g s) : (ordN g s).isSome = true → (ordN g 0).isSome = true := by
  induction h with
  | zero => exact id
  | @step s y hs hy ih =>
    intro h2; refine ih ?_; have h3 := more_ok (hs.ok h9) hy; unfold ordN at h2 ⊢; rw [← h3.2.1, ordF_s, List.findSome?_isSome_iff]; refine ⟨y, hy, ?_⟩; unfold stF; rw [Option.isSome_map]; exact h2
theorem ord_fwd {g : Gat} (h9 : g.1.length ≤ 9) : ∀ (f : Nat) {s : Int}, Reach g s → misN g.1.length s = f → (ordF g f s).isSome = true → Reach g (fulI g.1.length)
  | 0, s, h, hf, _ => by rw [← (mis_full (h.ok h9)).1 hf]; exact h
  | f + 1, s, h, hf, ho => by
    rw [ordF_s, List.findSome?_isSome_iff] at ho; obtain ⟨y, hy, hs⟩ := ho; unfold stF at hs; rw [Option.isSome_map] at hs; have h3 := more_ok (h.ok h9) hy; exact ord_fwd h9 f (h.step hy) (by omega) hs
theorem ord_reach {g : Gat} (h9 : g.1.length ≤ 9) : (ordN g 0).isSome = true ↔ Reach g (fulI g.1.length) := by
  constructor
  · exact fun h => ord_fwd h9 _ .zero rfl h
  intro h; refine ord_back h9 h ?_; unfold ordN; rw [(mis_full (ful_ok h9)).2 rfl] <;> rfl
open Classical in
noncomputable def reaL (g : Gat) : List Int := ((List.range (2 ^ g.1.length)).filter fun a => decide (Reach g ((a : Nat) : Int))).map fun a => ((a : Nat) : Int)
theorem reaL_mem {g : Gat} (h9 : g.1.length ≤ 9) {s : Int} : s ∈ reaL g ↔ Reach g s := by
  unfold reaL; simp only [List.mem_map, List.mem_filter, List.mem_range, decide_eq_true_eq]; constructor
  · rintro ⟨a, ⟨_, h⟩, rfl⟩; exact h
  intro h; have h1 := h.ok h9; refine ⟨s.toNat, ⟨h1.hi, ?_⟩, ?_⟩
  · rw [Int.toNat_of_nonneg h1.lo]; exact h
  exact Int.toNat_of_nonneg h1.lo
theorem reaL_asc {g : Gat} : (reaL g).Pairwise (· < ·) := by
  unfold reaL; rw [List.pairwise_map]
  exact (List.pairwise_lt_range.filter _).imp fun h => by omega
def addM (L : List Int) (ys : List (Int × Int)) : List Int := ys.foldl (fun L y => if L.contains y.2 = true then L else L ++ [y.2]) L
theorem addM_cons {L : List Int} {y : Int × Int} {ys : List (Int × Int)} : addM L (y :: ys) = addM (addM L [y]) ys := rfl
theorem addM_t {L : List Int} {y : Int × Int} (h : L.contains y.2 = true) : addM L [y] = L := if_pos h
theorem addM_f {L : List Int} {y : Int × Int} (h : L.contains y.2 = false) : addM L [y] = L ++ [y.2] := if_neg (by rw [h]; decide)
def bfsL (g : Gat) : Nat → List Int
  | 0 => [0]
  | k + 1 => addM (bfsL g k) (moreL g ((bfsL g k).getD k 0))
structure Fnd (g : Gat) (L : List Int) : Prop where
  nd : L.Nodup
  z : (0 : Int) ∈ L
  r : ∀ s ∈ L, Reach g s
theorem Fnd.one {g : Gat} {L : List Int} (h : Fnd g L) {y : Int × Int} (hy : Reach g y.2) : Fnd g (addM L [y]) ∧ (∀ s ∈ L, s ∈ addM L [y]) ∧ y.2 ∈ addM L [y] ∧ ∃ z, addM L [y] = L ++ z := by
  cases hc : L.contains y.2 with
  | true => rw [addM_t hc]; exact ⟨h, fun s hs => hs, List.contains_iff_mem.1 hc, [], by simp⟩
  | false =>
    rw [addM_f hc]
    have hn : y.2 ∉ L := fun hm => by rw [List.contains_iff_mem.2 hm] at hc; cases hc
    refine ⟨⟨?_, List.mem_append_left _ h.z, fun s hs => ?_⟩, fun s hs => List.mem_append_left _ hs, List.mem_append_right _ (List.mem_singleton.2 rfl), [y.2], rfl⟩
    · refine List.nodup_append.2 ⟨h.nd, List.nodup_cons.2 ⟨by simp, List.nodup_nil⟩, fun a ha b hb e => ?_⟩; rw [List.mem_singleton.1 hb] at e; exact hn (e ▸ ha)
    rcases List.mem_append.1 hs with hs | hs
    · exact h.r s hs
    rw [List.mem_singleton.1 hs]; exact hy
theorem Fnd.add {g : Gat} : ∀ {ys : List (Int × Int)} {L : List Int}, Fnd g L → (∀ y ∈ ys, Reach g y.2) → Fnd g (addM L ys) ∧ (∀ s ∈ L, s ∈ addM L ys) ∧ (∀ y ∈ ys, y.2 ∈ addM L ys) ∧ ∃ z, addM L ys = L ++ z
  | [], L, h, _ => ⟨h, fun s hs => hs, fun y hy => (by cases hy), [], by simp [addM]⟩
  | y :: ys, L, h, hy => by
    obtain ⟨h1, h2, h3, z1, h4⟩ := h.one (hy y List.mem_cons_self); obtain ⟨k1, k2, k3, z2, k4⟩ := h1.add fun w hw => hy w (List.mem_cons_of_mem _ hw); rw [addM_cons]; refine ⟨k1, fun s hs => k2 _ (h2 s hs), fun w hw => ?_, z1 ++ z2, by rw [k4, h4, List.append_assoc]⟩; rcases List.mem_cons.1 hw with rfl | hw
    · exact k2 _ h3
    exact k3 w hw
theorem Fnd.len {g : Gat} (h9 : g.1.length ≤ 9) {L : List Int} (h : Fnd g L) : L.length ≤ 2 ^ g.1.length := by
  have h1 : (L.map Int.toNat).Nodup := by
    rw [List.Nodup, List.pairwise_map]; refine h.nd.imp_of_mem fun {a b} ha hb hne e => hne ?_; have := ((h.r a ha).ok h9).lo; have := ((h.r b hb).ok h9).lo; omega
  have h2 : (L.map Int.toNat) ⊆ List.range (2 ^ g.1.length) := fun x hx => by
    obtain ⟨s, hs, rfl⟩ := List.mem_map.1 hx; exact List.mem_range.2 ((h.r s hs).ok h9).hi
  have hp : (L.map Int.toNat).Perm ((List.range (2 ^ g.1.length)).filter fun x => (L.map Int.toNat).contains x) := (List.perm_ext_iff_of_nodup h1 (List.nodup_range.filter _)).2 fun x => by
    rw [List.mem_filter, List.contains_iff_mem]; exact ⟨fun hx => ⟨h2 hx, hx⟩, fun hx => hx.2⟩
  have h3 := hp.length_eq; rw [List.length_map] at h3; have h4 := List.length_filter_le (fun x => (L.map Int.toNat).contains x) (List.range (2 ^ g.1.length)); rw [List.length_range] at h4; omega
theorem Fnd.all {g : Gat} {L : List Int} (h : Fnd g L) (hc : ∀ k, k < L.length → ∀ y ∈ moreL g (L.getD k 0), y.2 ∈ L) {s : Int} (hs : Reach g s) : s ∈ L := by
  induction hs with
  | zero => exact h.z
  | step _ hy ih =>
    obtain ⟨k, hk, rfl⟩ := List.mem_iff_getElem.1 ih; exact hc k hk _ (by rw [getDg hk]; exact hy)
theorem sort_same {L M : List Int} (h1 : L.Pairwise (· < ·)) (h2 : M.Pairwise (· < ·)) (h : ∀ s, s ∈ L ↔ s ∈ M) : L = M := by
  have hp : L.Perm M := (List.perm_ext_iff_of_nodup (h1.imp fun h => by omega) (h2.imp fun h => by omega)).2 h; exact hp.eq_of_pairwise (fun a b _ _ hab hba => absurd hab (by omega)) h1 h2
theorem sortI_mem {L : List Int} {s : Int} : s ∈ Fs.sortI L ↔ s ∈ L := by
  unfold Fs.sortI; exact (List.mergeSort_perm L _).mem_iff
theorem sortI_asc {L : List Int} (h : L.Nodup) : (Fs.sortI L).Pairwise (· < ·) := by
  have h1 : (Fs.sortI L).Pairwise fun a b => decide (a ≤ b) = true := List.pairwise_mergeSort (fun a b c h1 h2 => by simp at *; omega) (fun a b => by simp; omega) L; have h2 : (Fs.sortI L).Nodup := (List.mergeSort_perm L _).nodup_iff.2 h
  exact (h1.and h2).imp fun h => by
    have := of_decide_eq_true h.1; have := h.2; omega
theorem Fnd.sorted {g : Gat} (h9 : g.1.length ≤ 9) {L : List Int} (h : Fnd g L) (hc : ∀ k, k < L.length → ∀ y ∈ moreL g (L.getD k 0), y.2 ∈ L) : Fs.sortI L = reaL g :=
  sort_same (sortI_asc h.nd) reaL_asc fun s => by
    rw [sortI_mem, reaL_mem h9]; exact ⟨h.r s, h.all hc⟩
structure Bfs (g : Gat) (k : Nat) : Prop where
  f : Fnd g (bfsL g k)
  le : k ≤ (bfsL g k).length
  cl : ∀ j, j < k → ∀ y ∈ moreL g ((bfsL g k).getD j 0), y.2 ∈ bfsL g k
theorem bfs_0 {g : Gat} : Bfs g 0 := ⟨⟨List.nodup_cons.2 ⟨by simp, List.nodup_nil⟩, List.mem_singleton.2 rfl, fun s hs => by rw [List.mem_singleton.1 hs]; exact .zero⟩, Nat.zero_le _, fun j hj => by omega⟩
theorem bfs_s {g : Gat} {k : Nat} (h : Bfs g k) (hk : k < (bfsL g k).length) : Bfs g (k + 1) := by
  have hr : Reach g ((bfsL g k).getD k 0) := by rw [getDg hk]; exact h.f.r _ (List.getElem_mem hk)
  obtain ⟨h1, h2, h3, z, h4⟩ := h.f.add (ys := moreL g ((bfsL g k).getD k 0)) fun y hy => hr.step hy; have e : bfsL g (k + 1) = bfsL g k ++ z := h4
  have hg : ∀ j, j < k + 1 → (bfsL g (k + 1)).getD j 0 = (bfsL g k).getD j 0 := fun j hj => by
    rw [e, List.getD_eq_getElem?_getD, List.getElem?_append_left (by omega), ← List.getD_eq_getElem?_getD]
  refine ⟨h1, by rw [e, List.length_append]; omega, fun j hj y hy => ?_⟩; rw [hg j hj] at hy; by_cases ej : j = k
  · subst ej; exact h3 y hy
  exact h2 _ (h.cl j (by omega) y hy)
theorem pow_le9 {n : Nat} (h : n ≤ 9) : 2 ^ n ≤ 512 := Nat.pow_le_pow_right (by decide) (show n ≤ 9 from h)
theorem last_full {g : Gat} (h9 : g.1.length ≤ 9) (h : (reaL g).length - 1 < (reaL g).length) : (reaL g)[(reaL g).length - 1] = fulI g.1.length ↔ Reach g (fulI g.1.length) := by
  constructor
  · intro e; rw [← e]; exact (reaL_mem h9).1 (List.getElem_mem h)
  intro hr; obtain ⟨k, hk, he⟩ := List.mem_iff_getElem.1 ((reaL_mem h9).2 hr); have h1 := ful_max (((reaL_mem h9).1 (List.getElem_mem h)).ok h9); by_cases e : k = (reaL g).length - 1
  · subst e; exact he
  have := List.pairwise_iff_getElem.1 reaL_asc k ((reaL g).length - 1) hk h (by omega); rw [he] at this; omega
theorem zSortI_ok {w_l : Value} {l : List Int} (hl : l.length ≤ 1000000) : VFG Tryz.prog OA 139 [.raw w_l] [(w_l, .row 3 (.int .i64) l)] (fun r g => r = .tup [] ∧ g = [(w_l, .row 3 (.int .i64) (Fs.sortI l))]) := VFG.sortI (O := Fs.orcA 160 160 14) hl fun _ _ => rfl
open Classical in
noncomputable def stuR (g : Gat) : List Int := if gatesE g = 0 ∧ ¬ Reach g (fulI g.1.length) then reaL g else []
open Classical in
noncomputable def stuE (g : Gat) : Int := if gatesE g = 0 then (if Reach g (fulI g.1.length) then 7 else 0) else gatesE g
theorem cStuck_ok {g : (List Int) × (List Int) × (List (List Int))} (hl : g.1.length < 1000) (hr : ∀ row ∈ g.2.2, row.length < 1000) : VF Tryz.prog OA 70 [.v y92 g] (.tup [.v y25 (stuR g), I (stuE g)]) := by
  refine VF.enter Tryz.func70 rfl (fun _ _ => rfl) rfl ?_; show VC _ _ _ _ _ [(0, .v y92 g)] [] _; refine VC.seq (VC.text ?_); refine VO.new (.box) ?_; refine VO.c (.assign rfl) (VO.c (.assign rfl) ?_); refine VO.go (VC.seq (VC.seq (VC.text ?_))); refine VO.r (.ld vt92) ?_; refine VO.call rfl rfl (VF.call (cGates_ok hl hr)) ?_; refine VO.c (.assign rfl) ?_; refine VO.go (VC.seq (VC.text ?_)); refine VO.c (.move rfl) (VO.c (.neq) (VO.go ?_)); refine VC.condD rfl (fun c2 => ?_) (fun c2 => ?_)
  · refine VC.seq (VC.text ?_); refine VO.c (.move rfl) (VO.c (.assign rfl) (VO.c (.assign rfl) (VO.go ?_))); refine VC.ret ?_; exact VEnd.two rfl (evC .nil) evT (pvE (by rw [stuR, if_neg (fun h => c2 h.1)])) (pvI (by rw [stuE, if_neg c2]))
  have hz : gatesE g = 0 := Classical.not_not.1 c2; have hd := head_ok (gates_ok hz).1
  have h9 : g.1.length ≤ 9 := by omega
  have hp9 := pow9 (n := g.1.length) h9; have hfe := ful_eq (n := g.1.length); have hpw := pow_le9 h9; refine VC.skip (VC.seq (VC.text ?_)); refine VO.cell (.lit [(0 : Int)] el25) ?_; intro ww1; refine VO.cell (.alloc zt25) ?_; intro ww2; refine VO.one m1 fun ho3 => ?_; refine VO.setV (cs' := [.raw ww1]) vt25 (.raw rfl (agg_one ho3) ho3) ?_; refine VO.go (VC.seq (VC.seq (VC.text ?_))); refine VO.c (.assign rfl) ?_; refine VO.go (VC.block ?_); refine VC.keep [(1, .p y92 g), (5, .raw ww2), (6, I ((0 : Nat) : Int))] ⟨rfl, rfl, rfl, trivial⟩ ?_; refine VC.loop (I := fun kk ff ss => ∃ (a : Nat) (wq : Value), kk = 2 ^ g.1.length - a ∧ ff = [(1, .p y92 g), (5, .raw ww2), (6, I ((a : Nat) : Int))] ∧ ss = [(ww2, .var [.raw wq]), (wq, .row 3 (.int .i64) (bfsL g a))] ∧ (Bfs g a)) ?_ _ _ _ ⟨0, ww1, rfl, rfl, rfl, (by exact bfs_0)⟩; rintro kk ff ss ⟨a, wq, hk0, rfl, rfl, hb⟩; have hfl := hb.f.len h9; have hale := hb.le; refine VC.seq (VC.seq (VC.text ?_)); refine VO.c (.move rfl) ?_; refine VO.r (.ldV m0 vt25) ?_; refine VO.r (.lenO m1 el25) ?_; refine VO.c (.lss) (VO.go ?_); refine VC.condD rfl (fun c6 => ?_) (fun c6 => ?_)
  · have hal : a < (bfsL g a).length := by omega
    have hso : SetOk g.1.length ((bfsL g a)[a]) := (hb.f.r _ (List.getElem_mem hal)).ok h9; have hrc : Reach g ((bfsL g a)[a]) := hb.f.r _ (List.getElem_mem hal); have hgd : (bfsL g a).getD a 0 = (bfsL g a)[a] := getDg hal; refine VC.skip (VC.seq (VC.block (VC.seq (VC.drawn ?_)))); refine VD.r [] (.ld vt92) (.inl rfl) ?_; refine VD.r [(ww2, .var [.raw wq]), (wq, .row 3 (.int .i64) (bfsL g a))] (.ldV m0 vt25) (.inr ⟨rfl, rfl⟩) ?_; refine VD.c (.move rfl) ?_; refine VD.co (.ixO (j := a) rfl rfl m1 el25 (by omega)) ?_; refine VD.r [(ww2, .var [.raw wq]), (wq, .row 3 (.int .i64) (bfsL g a))] (.ldO rfl m1 vt3 (by omega)) (.inr ⟨rfl, rfl⟩) ?_; refine VD.call rfl rfl (VF.call (cMore_ok )) ?_; refine VD.go (VC.block ?_); refine VC.keep [(1, .p y92 g), (5, .raw ww2), (6, I ((a : Nat) : Int)), (26, .clo 156 [] [.p y92 g, .p (.int .i64) ((bfsL g a)[a])])] ⟨rfl, rfl, rfl, rfl, trivial⟩ ?_; refine VC.rangeFunc rfl (cMore1_ok hz hso) (fun _ => rfl) rfl rfl (fun rest ss => ∃ (M : List Int), ∃ (wz : Value), ss = [(ww2, .var [.raw wz]), (wz, .row 3 (.int .i64) M)] ∧ (addM M rest = bfsL g (a + 1)) ∧ (Fnd g M) ∧ (∀ y ∈ rest, y ∈ moreL g (bfsL g a)[a])) (fun ee ss => False) ⟨bfsL g a, wq, rfl, (by show _ = addM _ _; rw [hgd]), (by exact hb.f), (by exact fun y hy => hy)⟩ ?_ ?_ ?_
    · rintro jj x rest _ ⟨M, wz, rfl, hM, hF, hsu⟩; show VC _ _ _ _ _ [(28, I x.2), (27, I x.1), (1, .p y92 g), (5, .raw ww2), (6, I ((a : Nat) : Int)), (26, .clo 156 [] [.p y92 g, .p (.int .i64) ((bfsL g a)[a])])] [(ww2, .var [.raw wz]), (wz, .row 3 (.int .i64) M)] _; refine VC.text ?_; have hml := hF.len h9; refine VO.c (.assign rfl) ?_; refine VO.nil ?_; refine ⟨rfl, ?_⟩; refine VC.block (VC.seq (VC.text ?_)); refine VO.r (.ldV m0 vt25) ?_; refine VO.c (.move rfl) ?_; refine VO.callC rfl rfl .same (.cons (.row m1) (.cons .same .nil)) rfl (VF.call (zContI_ok (by omega))) ?_; refine VO.c (.not) (VO.go ?_); refine VC.condB rfl (fun c10 => ?_) (fun c10 => ?_)
      · try simp only [Bool.and_eq_true, Bool.or_eq_true, Bool.and_eq_false_iff, Bool.or_eq_false_iff, Bool.not_eq_true', Bool.not_eq_false', decide_eq_true_eq, decide_eq_false_iff_not] at c10
        have hax : addM M [x] = M ++ [x.2] := addM_f (by simpa using c10); refine VC.text ?_; refine VO.r (.ldV m0 vt25) ?_; refine VO.c (.move rfl) ?_; refine VO.new (.lit [x.2] el25) ?_; refine VO.perm swap1 ?_; refine VO.app rfl rfl el25 el25 (by simp; omega) ?_; intro ww4; refine VO.perm swap1 ?_; refine VO.one m1 fun ho5 => ?_; refine VO.setV (cs' := [.raw ww4]) vt25 (.raw rfl (agg_one ho5) ho5) ?_; refine VO.nil ?_; exact .inl ⟨rfl, addM M [x], ww4, (by rw [hax]), (by rw [← hM] <;> rfl), (by exact (hF.one (hrc.step (hsu x List.mem_cons_self))).1), (by exact fun y hy => hsu y (List.mem_cons_of_mem _ hy))⟩
      try simp only [Bool.and_eq_true, Bool.or_eq_true, Bool.and_eq_false_iff, Bool.or_eq_false_iff, Bool.not_eq_true', Bool.not_eq_false', decide_eq_true_eq, decide_eq_false_iff_not] at c10
      have hax : addM M [x] = M := addM_t (by simpa using c10); refine VC.skip ?_; exact .inl ⟨rfl, addM M [x], wz, (by rw [hax]), (by rw [← hM] <;> rfl), (by exact (hF.one (hrc.step (hsu x List.mem_cons_self))).1), (by exact fun y hy => hsu y (List.mem_cons_of_mem _ hy))⟩
    · rintro _ ⟨M, wz, rfl, hM, hF, hsu⟩; refine VC.text ?_; refine VO.c (.move rfl) (VO.c (.add rfl rfl (by omega)) (VO.c (.assign rfl) ?_)); refine VO.nil ?_; refine ⟨_, [(1, .p y92 g), (5, .raw ww2), (6, I (((a + 1) : Nat) : Int))], ?_, ⟨rfl, rfl, rfl, trivial⟩, (a + 1), wz, rfl, rfl, (by rw [show M = bfsL g (a + 1) from hM]), (by exact bfs_s hb hal)⟩; omega
    rintro _ _ _ ⟨⟩
  have hae : a = (bfsL g a).length := by omega
  have hsr : Fs.sortI (bfsL g a) = reaL g := hb.f.sorted h9 fun k hk => hb.cl k (by omega); have hre : 0 < (reaL g).length := List.length_pos_of_mem ((reaL_mem h9).2 .zero)
  have hrl : (reaL g).length ≤ 512 := by rw [← hsr, sortI_length]; omega
  refine VC.exit (VC.seq (VC.text ?_)); refine VO.r (.ldV m0 vt25) ?_; refine VO.perm swap1 ?_; refine VO.callG [(wq, .row 3 (.int .i64) (bfsL g a))] rfl rfl rfl (VFG.call (zSortI_ok (by first | assumption | omega | simp))) ?_; rintro _ _ ⟨rfl, rfl⟩; show VO _ _ _ _ _ _ [(wq, .row 3 (.int .i64) (Fs.sortI (bfsL g a))), (ww2, .var [.raw wq])] _; rw [hsr]; refine VO.go (VC.seq (VC.seq (VC.drawn ?_))); refine VD.r [(wq, .row 3 (.int .i64) (reaL g)), (ww2, .var [.raw wq])] (.ldV m1 vt25) (.inr ⟨rfl, rfl⟩) ?_; refine VD.r [(wq, .row 3 (.int .i64) (reaL g)), (ww2, .var [.raw wq])] (.ldV m1 vt25) (.inr ⟨rfl, rfl⟩) ?_; refine VD.r [(wq, .row 3 (.int .i64) (reaL g)), (ww2, .var [.raw wq])] (.lenO m0 el25) (.inr ⟨rfl, rfl⟩) ?_; refine VD.c (.sub rfl rfl (by omega)) ?_; refine VD.co (.ixO (j := (reaL g).length - 1) rfl (congrArg (fun z : Int => some (PV.v (.int .i64) z)) (show ((((reaL g).length : Nat) : Int) - (1 : Int)) = (((reaL g).length - 1 : Nat) : Int) by omega)) m0 el25 (by omega)) ?_; refine VD.r [(wq, .row 3 (.int .i64) (reaL g)), (ww2, .var [.raw wq])] (.ldO rfl m0 vt3 (by omega)) (.inr ⟨rfl, rfl⟩) ?_; refine VD.nw [] (VD.c (.fa (.l .o)) ?_); refine VD.r [] (.ld vt25) (.inl rfl) ?_; refine VD.r [] (.len el25) (.inl rfl) ?_; refine VD.c (.shl rfl rfl (by omega) (by omega)) (VD.c (.sub rfl rfl (by omega)) (VD.c (.eql) (VD.go ?_))); refine VC.condD rfl (fun c13 => ?_) (fun c13 => ?_)
  · have hR : Reach g (fulI g.1.length) := (last_full h9 (by omega)).1 (c13.trans hfe); refine VC.seq (VC.text ?_); refine VO.c (.assign rfl) (VO.c (.assign rfl) (VO.go ?_)); refine VC.ret ?_; exact VEnd.two rfl (evC .nil) evT (pvE (by rw [stuR, if_neg (fun h => h.2 hR)])) (pvI (by rw [stuE, if_pos hz, if_pos hR]))
  have hR : ¬ Reach g (fulI g.1.length) := fun h => c13 (((last_full h9 (by omega)).2 h).trans hfe.symm); refine VC.skip (VC.seq (VC.text ?_)); refine VO.r (.ldV m1 vt25) ?_; refine VO.c (.assign rfl) (VO.c (.assign rfl) (VO.go ?_)); refine VC.ret ?_; exact VEnd.two rfl (evC (.row m0)) evT (pvE (by rw [stuR, if_pos ⟨hz, hR⟩])) (pvI (by rw [stuE, if_pos hz, if_neg hR]))
end Go.Proofs
