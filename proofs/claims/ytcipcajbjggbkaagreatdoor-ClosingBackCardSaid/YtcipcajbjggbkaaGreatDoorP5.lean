/- Parts of the proof: an evaluator of the model, what it is sound for, and contracts of functions. No condition. -/
import Derived.Test.YtcipcajbjggbkaaGreatDoorP4
import Derived.Test.YtcipcajbjggbkaaGreatDoorP3
import Derived.Laws.Strings
import Derived.Test.YtcipcajbjggbkaaGreatDoorP2
import Ieee.Arith
import Derived.Test.YtcipcajbjggbkaaGreatDoorChecked
import Derived.ChangeArms
import Derived.Carry
import Derived.RowKit
import Derived.OpenShut
set_option linter.all false
namespace Go.Fs
variable {P : Program} {orc : FuncId → List Value → Heap → Option (Value × Heap)} {h : Heap} {σ : Sto} {fl : VL} {n i mem : Nat} {l : List Oper} {K : VL → Sto → Prop} {ops : Array Oper} {bs nw0 : List Nat} {tail so : Bool}
theorem VD.nw (nw1 : List Nat) (hk : VD P orc ops n l i fl nw1 σ so bs mem tail K) (he : nw0 = nw1 := by rfl) : VD P orc ops n l i fl nw0 σ so bs mem tail K := he ▸ hk
theorem VF.oracle {f : FuncId} {τ : Ty} {dv : τ.den} {v : Value} (ho : ∀ h : Heap, orc f [] h = some (v, h)) (hv : ∀ (h : Heap) (S : List Nat), RepPV h S (.v τ dv) v) : VF P orc f [] (.v τ dv) := fun h S us hok hS hr => by
  obtain rfl : us = [] := by
    cases us with
    | nil => rfl
    | cons a r => cases hr
  exact EvF.oracle (ho h) ⟨Aft.refl _ _, hv h S, fun _ => rfl⟩
end Go.Fs
namespace Go.Fs
variable {P : Program} {h : Heap} {S : List Nat}
def eqF (E : Ty → TypeId → Bool) : List Field → Nat → Ty → Bool
  | [], _, .unit => true
  | f :: r, o, .pair a b => (!(f.name == "_") && Nat.beq f.offset o && E a f.type && eqF E r (o + a.size) b) || (r.isEmpty && !(f.name == "_") && Nat.beq f.offset o && E (.pair a b) f.type)
  | [f], o, τ => !(f.name == "_") && Nat.beq f.offset o && E τ f.type
  | _, _, _ => false
def eqV (P : Program) : Nat → Ty → TypeId → Bool
  | 0, _, _ => false
  | d + 1, τ, T => valB P T τ && match P.underlying T, τ with
    | some (.int k), .int k' => k == k'
    | some .bool, .bool => true
    | some .string, .str => true
    | some (.struct fs), .pair a b => !P.stoodInHeld T && eqF (eqV P d) fs.toList 0 (.pair a b)
    | _, _ => false
theorem bytes_beq_t {x y : ByteArray} (he : x = y) : (x == y) = true := by
  subst he; show (x.data == x.data) = true; simp
theorem bytes_beq_f {x y : ByteArray} (he : ¬ x = y) : (x == y) = false := by
  show (x.data == y.data) = false; simp only [beq_eq_false_iff_ne, ne_eq]; exact fun hd => he (ByteArray.ext hd)
structure EqT (P : Program) (T : TypeId) (τ : Ty) : Prop where
  eq : eqV P 40 τ T = true
  guard : P.eqGuardType P.depth T = false
  agg : τ.agg = true
  flat : τ.isFlat = true
variable {fl : VL} {σ : Sto} {x y : Operand} {T T' : TypeId} {τ : Ty}
theorem bytes_list {a b : ByteArray} : (a.toList == b.toList) = decide (a = b) := by
  rw [ByteArray.toList_eq, ByteArray.toList_eq]; by_cases h : a = b
  · subst h; simp
  rw [decide_eq_false h, beq_eq_false_iff_ne]; exact fun he => h (ByteArray.ext (Array.toList_inj.1 he))
variable {p q : ByteArray}
theorem CalmV.binS (b : BinOp) {u : Value} {v : PV} (hx : evV fl x = some (.v .str p)) (hy : evV fl y = some (.v .str q)) (hu : runPure P (Op.stringOp b p q) = some u) (hf : af u = true) (hb : ∀ T : TypeId, (do eqGuard b T x y (.string p) (.string q); binOp b T (.string p) (.string q)) = Op.stringOp b p q) (hv : ∀ h S, RepPV h S v u) : CalmV P fl σ (.binOp b T x y T') v :=
  .bin hx hy fun h S a c ha hc => by
    obtain rfl := RepV.str ha; obtain rfl := RepV.str hc; refine ⟨u, hv h S, rfl, ?_⟩; unfold purely; rw [hb, hu]; simp only [Option.bind_some, hf, if_true]
theorem CalmV.seql (hx : evV fl x = some (.v .str p) := by rfl) (hy : evV fl y = some (.v .str q) := by rfl) : CalmV P fl σ (.binOp .eql T x y T') (.v .bool (decide (p = q))) :=
  .binS .eql hx hy (u := .bool (decide (p = q))) (by rw [← bytes_list]; rfl) rfl (fun _ => rfl) fun h S => RepV.ofBool _
theorem CalmV.sneq (hx : evV fl x = some (.v .str p) := by rfl) (hy : evV fl y = some (.v .str q) := by rfl) : CalmV P fl σ (.binOp .neq T x y T') (.v .bool (decide (p ≠ q))) :=
  .binS .neq hx hy (u := .bool (decide (p ≠ q))) (by rw [decide_not, ← bytes_list]; rfl) rfl (fun _ => rfl) fun h S => RepV.ofBool _
theorem CalmV.sadd (hb : p.size + q.size ≤ 1000000) (hx : evV fl x = some (.v .str p) := by rfl) (hy : evV fl y = some (.v .str q) := by rfl) : CalmV P fl σ (.binOp .add T x y T') (.v .str (p ++ q)) :=
  .binS .add hx hy (u := .string (p ++ q)) (by
    unfold Op.stringOp
    have h1 : IntKind.i64.max = 9223372036854775807 := by decide
    simp only []
    rw [if_neg (by omega)]; rfl) rfl (fun _ => rfl) fun h S => RepV.ofStr _
end Go.Fs
namespace Go.Fs
variable {P : Program} {fl : VL} {σ γ : Sto} {Q : PV → Sto → Prop} {fn : Func}
end Go.Fs
namespace Go.Fs
variable {P : Program} {orc : FuncId → List Value → Heap → Option (Value × Heap)}
theorem slI {fl : VL} {k : Nat} {κ : IntKind} {a b : Int} (hk : lkV fl k = some (.v (.int κ) a)) (h : a = b) : lkV fl k = some (.v (.int κ) b) := by rw [hk, h]
theorem pvI {κ : IntKind} {a b : Int} (h : a = b) : PV.v (.int κ) a = PV.v (.int κ) b := by rw [h]
section
variable {h0 : Heap} {S0 : List Nat} {σ : Sto} {ms : List Nat} {fl : VL} {ops : Array Oper} {n i mem : Nat} {l : List Oper} {K : VL → Sto → Prop}
  {d : Tmp} {ty : TypeId} {pos : String} {after : Array Edge} {op : Op} {v : PV} {g : Option (Nat × Bool)} {bs nw : List Nat} {tail so : Bool}
theorem VD.co {b : Nat} (hc : CalmV P fl σ op v) (hk : VD P orc ops n l (i + 1) ((d, v) :: fl) (nwSet ((so && oldOp nw op) || v.flat0) d nw) σ so (bs ++ [b]) mem tail K)
    (hb : beforeOf bs ⟨some d, op, ty, pos, after, g⟩ = b := by rfl) (hw : wantV ops fl g = some true := by rfl) (hn : (Nat.blt d n && Nat.ble n 4000) = true := by rfl) :
    VD P orc ops n (⟨some d, op, ty, pos, after, g⟩ :: l) i fl nw σ so bs mem tail K := fun h0 G S0 t h ms segs I ho => by
  obtain ⟨n1, n2⟩ := fits hn; obtain ⟨u, e1, e2⟩ := hc.2 h (own σ ++ S0) t I.slots.sees I.cells; refine EvD.op (s' := ⟨t.set depth d u, h, bs ++ [b], segs, mem, tail⟩) ?_ (hk h0 G S0 _ h ms segs (I.set e1 n2) fun ht => (ho ht).set n2 fun hold hs a1 a2 a3 a4 a5 => ?_)
  · unfold fsDraw; have hwt : fsWanted ops t ⟨some d, op, ty, pos, after, g⟩ = some true := want_ok I.slots hw; simp only [hwt, hc.1, if_true, e2, Nat.beq_refl, cond_true, put_fits n1, Option.map_some, hb]
  rcases Bool.or_eq_true_iff.1 hold with hold | hold
  · obtain ⟨o1, o2⟩ := band hold; obtain ⟨u', f1, f2⟩ := hc.2 hs (own σ ++ S0) t (old_op a4 o2) (a5 o1)
    have : u' = u := by
      have g1 := e2 none 0 "" #[] none h; rw [f2 none 0 "" #[] none h] at g1; simpa using g1
    rw [← this]; exact f1
  exact (RepPV.flat0 hold e1).2 _ _
end
end Go.Fs
namespace Go.Fs
variable {P : Program} {orc : FuncId → List Value → Heap → Option (Value × Heap)} {rnd : Option Nat} {h h' h0 h1 h2 : Heap} {S S' S0 G : List Nat} {σ σ' σr γ γ' : Sto} {t t' : Tr} {ms : List Nat} {fl nw : VL} {ops : Array Oper} {n i mem : Nat} {l : List Oper} {K : VL → Sto → Prop} {Q : Ex → VL → Sto → Prop}
  {d : Tmp} {ty : TypeId} {pos : String} {after : Array Edge} {op : Op} {v pv : PV} {g : Option (Nat × Bool)} {bs nw0 : List Nat} {tail so : Bool}
inductive ShutL (fl : VL) (γ : Sto) : VL → Prop where
  | nil : ShutL fl γ []
  | cons {k : Nat} {p p' : PV} {r : VL} (hk : lkV fl k = some p) (hc : Co γ p p') (hr : ShutL fl γ r) : ShutL fl γ ((k, p') :: r)
theorem Iv.forgetL : ∀ {γ : Sto}, Iv h0 G S0 h (γ ++ σ) t ms fl → Iv h0 G S0 h σ t ms (fl)
  | [], I => I
  | _ :: γ, I => Iv.forgetL (γ := γ) I.forget
theorem Iv.shutL (I : Iv h0 G S0 h (γ ++ σ) t ms fl) (hs : ShutL fl γ nw) : Iv h0 G S0 h σ t ms (nw ++ fl) := by
  have I' := I.forgetL
  have hsl : Slots h (own σ ++ S0) t (nw ++ fl) := by
    induction hs with
    | nil => exact I'.slots
    | cons hk hc hr ih =>
      refine ih.cons (Co.ok (σ := γ) (S0 := own σ ++ S0) (fun c hd => ?_) (fun b hb => ?_) hc ?_)
      · have := I.cells c (List.mem_append_left _ hd); rw [own_app, List.append_assoc] at this; exact this
      · have h1 := I.apart; rw [own_app] at h1; intro hm; rcases List.mem_append.1 hm with hm | hm
        · exact (List.nodup_append.1 h1).2.2 b hb b hm rfl
        exact (I.new b (by rw [own_app]; exact List.mem_append_left _ hb)).2 hm
      have := I.slots _ _ hk; rw [own_app, List.append_assoc] at this; exact this
  exact { I' with slots := hsl }
theorem VC.shutL {a : Code} (γ : Sto) (nw : VL) (hσ : γ ++ σ = σr) (hs : ShutL fl γ nw) (hx : VC P orc rnd a n (nw ++ fl) σ Q) : VC P orc rnd a n fl σr Q := fun h0 G S0 t h ms I => by
  subst hσ; exact hx h0 G S0 t h ms (I.shutL hs)
end Go.Fs
namespace Go.Fs
variable {P : Program} {orc : FuncId → List Value → Heap → Option (Value × Heap)} {fl : VL} {σ γ : Sto} {T : TypeId} {τ : Ty}
theorem row_one {h : Heap} {S : List Nat} {w : Value} {e : TypeId} {xs : List τ.den} (hc : CellR h S w (.row e τ xs)) : oneCell w = true := by
  rcases hc with ⟨h1, _⟩ | ⟨b, rs, m, h1, _⟩
  · rw [show w = _ from h1]; rfl
  rw [show w = _ from h1]; rfl
theorem VO.one {orc : FuncId → List Value → Heap → Option (Value × Heap)} {ops : Array Oper} {n : Nat} {l : List Oper} {K : VL → Sto → Prop} {w : Value} {e : TypeId} {xs : List τ.den} (hm : (w, Cell.row e τ xs) ∈ σ) (hk : oneCell w = true → VO P orc ops n l fl σ K) : VO P orc ops n l fl σ K := fun h0 G S0 t h ms I => hk (row_one (I.cells _ hm)) h0 G S0 t h ms I
theorem VD.perm {orc : FuncId → List Value → Heap → Option (Value × Heap)} {ops : Array Oper} {n i mem : Nat} {l : List Oper} {K : VL → Sto → Prop} {nw bs : List Nat} {so tail : Bool} {σ' : Sto} (hp : σ.Perm σ') (hx : VD P orc ops n l i fl nw σ' false bs mem tail K) : VD P orc ops n l i fl nw σ so bs mem tail K := fun h0 G S0 t h ms segs I ho => hx h0 G S0 t h ms segs (I.perm hp) fun ht => by
  obtain ⟨hs, a1, a2, a3, a4, a5, a6⟩ := ho ht; refine ⟨hs, a1, a2, a3, a4, fun k pv hk hn => (a5 k pv hk hn).nx (h := hs) fun b ob hg hb => ⟨hg, fun hm => hb ?_⟩, fun e => by cases e⟩; rcases List.mem_append.1 hm with hm | hm
  · obtain ⟨c, hc, hb⟩ := List.mem_flatMap.1 hm; exact List.mem_append_left _ (List.mem_flatMap.2 ⟨c, hp.mem_iff.2 hc, hb⟩)
  exact List.mem_append_right _ hm
end Go.Fs
namespace Go.Fs
variable {P : Program} {fl : VL} {σ γ : Sto} {Q : PV → Sto → Prop} {fn : Func}
variable {p q r : ByteArray}
variable {x y : Operand} {T T' : TypeId}
end Go.Fs
namespace Go.Fs
variable {P : Program} {orc : FuncId → List Value → Heap → Option (Value × Heap)} {rnd : Option Nat} {h h' h0 h1 h2 : Heap} {S S' S0 : List Nat} {σ σ' : Sto} {t t' : Tr} {ms : List Nat} {fl : VL} {ops : Array Oper} {n i mem : Nat} {l : List Oper} {K : VL → Sto → Prop}
  {d : Tmp} {ty : TypeId} {pos : String} {after : Array Edge} {op : Op} {v pv : PV} {g : Option (Nat × Bool)} {x y z : Operand} {T T' e : TypeId} {τ τ' : Ty}
inductive FnL : List PV → List PV → Prop where
  | nil : FnL [] []
  | same {p : PV} {l l' : List PV} (hl : FnL l l') : FnL (p :: l) (p :: l')
  | fn {f : FuncId} {l l' : List PV} (hl : FnL l l') : FnL (.clo f [] [] :: l) (.v .fn (some f) :: l')
end Go.Fs
namespace Go.Fs
variable {P : Program} {orc : FuncId → List Value → Heap → Option (Value × Heap)} {rnd : Option Nat} {h h' h0 h1 h2 hr : Heap} {S S' S0 B G A : List Nat} {σ σ' σr ρ : Sto} {t t' : Tr} {ms : List Nat} {fl : VL} {ops : Array Oper} {n i mem : Nat} {l : List Oper} {K : VL → Sto → Prop} {Q : Ex → VL → Sto → Prop}
  {d : Tmp} {ty : TypeId} {pos : String} {after : Array Edge} {op : Op} {v pv : PV} {g : Option (Nat × Bool)} {x y z : Operand} {T T' e : TypeId} {τ τ' : Ty} {bs nw rd chg : List Nat} {segs : List (Nat × Nat × Nat)} {tail tl : Bool} {w w' : Value}
section
variable (P orc)
def EvL (hr : Heap) (ops : Array Oper) (n : Nat) (l : List Oper) (i : Nat) (x : LSt) (Q : LSt → Prop) : Prop := ∃ m x', lateDrawn P hr (stepAt P orc m) ops n l i x = some x' ∧ Q x'
end
theorem EvL.nil {x : LSt} {QL : LSt → Prop} (hq : QL x) : EvL P orc hr ops n [] i x QL := ⟨0, x, rfl, hq⟩
theorem EvL.opr {o : Oper} {x x' : LSt} {QL : LSt → Prop} (hs : lateDraw P hr (stepO P) ops n o i x = some x') (hl : EvL P orc hr ops n l (i + 1) x' QL) : EvL P orc hr ops n (o :: l) i x QL := by
  obtain ⟨m, s2, hf, hq⟩ := hl; refine ⟨m, s2, ?_, hq⟩; simp only [lateDrawn, lateDraw_mono (stepO_le m) hs]; exact hf
def quietOp : Op → Bool
  | .load .. => true
  | .call { callee := .builtin .len, .. } => true
  | .slice .. => true
  | _ => false
theorem quiet_no {ev : Operand → Value} {nx : Nat} (hq : quietOp op = false) : quietV P hr op ev nx = none := by
  unfold quietV; split
  · cases hq
  · cases hq
  · cases hq
  rfl
theorem EvC.late {id : Nat} {fr : Fr} {QC : Ex → Fr → Heap → Prop} (hl : lateB ops = true) (ho : EvL P orc h ops fr.n ops.toList 0 (⟨fr.t, h, [], [], 0, false⟩, [], []) fun x => apartB x = true ∧ QC .normal { t := x.1.t, n := fr.n, marks := fr.marks } x.1.h) : EvC P orc rnd (.region id ops true) fr h QC := by
  obtain ⟨m, x, hf, ha, hq⟩ := ho; refine ⟨m + 1, .normal, _, _, ?_, hq⟩; show fsStep P orc (fsCode P orc m) rnd (.region id ops true) fr h = _; unfold stepAt at hf; simp only [fsStep, hl, cond_true, drawnL, hf, ha]
structure Late (hr h : Heap) (S0 A : List Nat) (σ ρ : Sto) (t : Tr) (fl : VL) (nw rd chg : List Nat) : Prop where
  ok : HOk hr
  lt : SLt hr (A ++ S0)
  next : hr.next ≤ h.next
  goes : Goes hr (A ++ S0) h (own σ ++ S0)
  slots : ∀ k pv, lkV fl k = some pv → nwHas nw k = false → RepPV hr (A ++ S0) pv (t.get k)
  suf : ∃ σ1, σ = σ1 ++ ρ
  cells : ∀ c ∈ ρ, CellR hr (A ++ S0) c.1 c.2
  fix : ∀ b ∈ own ρ, b ∈ A
  new : ∀ b ∈ own σ, b ∈ A ∨ hr.next ≤ b
  rd : ∀ b ∈ rd, b < hr.next ∧ (b ∈ own ρ ∨ b ∉ A)
  chg : ∀ k ∈ chg, k ∉ own ρ ∧ (k ∈ A ∨ hr.next ≤ k)
section
variable (P orc)
def VLt (ops : Array Oper) (n : Nat) (l : List Oper) (i : Nat) (fl : VL) (nw : List Nat) (σ ρ : Sto) (bs : List Nat) (mem : Nat) (tl : Bool) (K : VL → Sto → Prop) : Prop :=
  ∀ (hr h0 : Heap) (G S0 A : List Nat) (t : Tr) (h : Heap) (ms rd chg : List Nat) (segs : List (Nat × Nat × Nat)) (tail : Bool), (tl = false → tail = false) → Iv h0 G S0 h σ t ms fl → Late hr h S0 A σ ρ t fl nw rd chg →
    EvL P orc hr ops n l i (⟨t, h, bs, segs, mem, tail⟩, rd, chg) fun x => apartB x = true ∧ ∃ fl' σ', Iv h0 G S0 x.1.h σ' x.1.t ms fl' ∧ K fl' σ'
end
theorem VC.late {id : Nat} {ops : Array Oper} (ρ : Sto) (hs : ∃ σ1, σ = σ1 ++ ρ) (hx : VLt P orc ops n ops.toList 0 fl [] σ ρ [] 0 false fun fl' σ' => Q .normal fl' σ') (hl : lateB ops = true := by kernel_rfl) : VC P orc rnd (.region id ops true) n fl σ Q := fun h0 G S0 t h ms I => by
  refine EvC.late hl ?_; have hA := I.lc.lt
  have hfix : ∀ b ∈ own ρ, b ∈ own σ := fun b hb => by
    obtain ⟨σ1, rfl⟩ := hs; rw [own_app]; exact List.mem_append_right _ hb
  obtain ⟨m, x, h1, ha, fl', σ', h2, h3⟩ := hx h h0 G S0 (own σ) t h ms [] [] [] false (fun _ => rfl) I
    { ok := I.ok, lt := I.slots.1.slt I.ok hA, next := Nat.le_refl _, goes := fun b o hg hb => ⟨hg, hb⟩, slots := fun k pv hk _ => I.slots k pv hk, suf := hs,
      cells := fun c hc => I.cells c (by obtain ⟨σ1, rfl⟩ := hs; exact List.mem_append_right _ hc), fix := hfix, new := fun b hb => .inl hb, rd := fun b hb => (by cases hb), chg := fun k hk => (by cases hk) }
  exact ⟨m, x, h1, ha, rfl, fl', σ', h2, h3⟩
theorem VLt.nil (hk : K fl σ) : VLt P orc ops n [] i fl nw σ ρ bs mem tl K := fun hr h0 G S0 A t h ms rd chg segs tail ht I L => by
  refine EvL.nil ⟨?_, fl, σ, I, hk⟩; refine List.all_eq_true.2 fun b hb => List.all_eq_true.2 fun k hk => ?_; obtain ⟨r1, r2⟩ := L.rd b hb; obtain ⟨c1, c2⟩ := L.chg k hk
  have hne : b ≠ k := by
    intro e; subst e; rcases r2 with r2 | r2
    · exact c1 r2
    rcases c2 with c2 | c2
    · exact r2 c2
    omega
  rw [beq_no hne]; rfl
theorem VLt.go {b : Code} (hx : VC P orc rnd b n fl σ Q) : VLt P orc ops n [] i fl nw σ ρ bs mem tl fun fl σ => thenV P orc rnd n b Q .normal fl σ := VLt.nil hx
theorem Late.set {u : Value} {old : Bool} (L : Late hr h S0 A σ ρ t fl nw rd chg) (hd : d < 4000) (hu : old = true → RepPV hr (A ++ S0) v u) : Late hr h S0 A σ ρ (t.set depth d u) ((d, v) :: fl) (nwSet old d nw) rd chg :=
  { L with
    slots := fun k pv hk hn => by
      rw [get_setD t d u k hd]; simp only [lkV] at hk
      cases hb : Nat.beq d k with
      | true =>
        rw [hb] at hk; simp only [cond_true, Option.some.injEq] at hk; subst hk; rw [if_pos (nbeq hb).symm]
        cases old with
        | true => exact hu rfl
        | false =>
          simp only [nwSet, cond_false, nwHas, hb, cond_true] at hn
          cases hn
      | false =>
        rw [hb] at hk; simp only [cond_false] at hk; have hne := ne_of_no hb; rw [if_neg (Ne.symm hne)]; refine L.slots k pv hk ?_
        cases old with
        | true => rw [nwSet, cond_true, nwHas_filter (Ne.symm hne)] at hn; exact hn
        | false => simpa only [nwSet, cond_false, nwHas, hb] using hn }
theorem Late.read (L : Late hr h S0 A σ ρ t fl nw rd chg) {b : Nat} (hb : b < hr.next ∧ (b ∈ own ρ ∨ b ∉ A)) : Late hr h S0 A σ ρ t fl nw (b :: rd) chg :=
  { L with
    rd := fun k hk => by
      rcases List.mem_cons.1 hk with rfl | hk
      · exact hb
      exact L.rd k hk }
theorem Late.made (L : Late hr h S0 A σ ρ t fl nw rd chg) (I : Iv h0 G S0 h σ t ms fl) (m : Made S0 h h' σ σ') (hs : ∃ σ1, σ' = σ1 ++ ρ) : Late hr h' S0 A σ' ρ t fl nw rd chg :=
  { L with
    next := Nat.le_trans L.next m.aft.next
    goes := L.goes.trans (I.goes (fun _ hb => hb) m.aft m.new)
    suf := hs
    new := fun b hb => by
      rcases m.new b hb with h3 | h3
      · exact L.new b h3
      have := L.next
      exact .inr (by omega) }
theorem VLt.c {b : Nat} (hc : CalmV P fl [] op v) (hk : VLt P orc ops n l (i + 1) ((d, v) :: fl) (nwSet (oldOp nw op || v.flat0) d nw) σ ρ (bs ++ [b]) mem tl K)
    (hb : beforeOf bs ⟨some d, op, ty, pos, after, g⟩ = b := by rfl) (hw : wantV ops fl g = some true := by rfl) (hn : (Nat.blt d n && Nat.ble n 4000) = true := by rfl) :
    VLt P orc ops n (⟨some d, op, ty, pos, after, g⟩ :: l) i fl nw σ ρ bs mem tl K := fun hr h0 G S0 A t h ms rd chg segs tail ht I L => by
  obtain ⟨n1, n2⟩ := fits hn; obtain ⟨u, e1, e2⟩ := hc.2 h (own σ ++ S0) t I.slots.sees (fun _ hc => by cases hc); refine EvL.opr (x' := (⟨t.set depth d u, h, bs ++ [b], segs, mem, tail⟩, rd, chg)) ?_ (hk hr h0 G S0 A _ h ms rd chg segs tail ht (I.set e1 n2) (L.set n2 fun hold => ?_))
  · unfold lateDraw; have hwt : fsWanted ops t ⟨some d, op, ty, pos, after, g⟩ = some true := want_ok I.slots hw; simp only [hwt, hc.1, if_true, e2, Nat.beq_refl, cond_true, put_fits n1, Option.map_some, hb]
  rcases Bool.or_eq_true_iff.1 hold with hold | hold
  · obtain ⟨u', f1, f2⟩ := hc.2 hr (A ++ S0) t (old_op L.slots hold) (fun _ hc => by cases hc)
    have : u' = u := by
      have g1 := e2 none 0 "" #[] none h; rw [f2 none 0 "" #[] none h] at g1; simpa using g1
    rw [← this]; exact f1
  exact (RepPV.flat0 hold e1).2 _ _
theorem VLt.skip {b : Nat} (hk : VLt P orc ops n l (i + 1) ((d, .raw undef) :: fl) (nwSet true d nw) σ ρ (bs ++ [b]) mem tl K)
    (hb : beforeOf bs ⟨some d, op, ty, pos, after, g⟩ = b := by rfl) (hw : wantV ops fl g = some false := by rfl) (hn : (Nat.blt d n && Nat.ble n 4000) = true := by rfl) :
    VLt P orc ops n (⟨some d, op, ty, pos, after, g⟩ :: l) i fl nw σ ρ bs mem tl K := fun hr h0 G S0 A t h ms rd chg segs tail ht I L => by
  obtain ⟨n1, n2⟩ := fits hn; have hwt : fsWanted ops t ⟨some d, op, ty, pos, after, g⟩ = some false := want_ok I.slots hw; refine EvL.opr (x' := (⟨t.set depth d undef, h, bs ++ [b], segs, mem, tail⟩, rd, chg)) ?_ (hk hr h0 G S0 A _ h ms rd chg segs tail ht (I.set (show RepPV _ _ (.raw undef) undef from rfl) n2) (L.set n2 fun _ => (show RepPV _ _ (.raw undef) undef from rfl))); unfold lateDraw; simp only [hwt, put_fits n1, Option.map_some, hb]
theorem fsLoad_at {b o : Nat} {ob : AObj} {H : Heap} {nx : Nat} {u : Value} (hg : H.get b = some ob) (hv : fsLoad P T (.pointer (some ⟨b, o, none⟩)) H = some u) : fsLoad P T (.pointer (some ⟨b, o, none⟩)) { next := nx, low := nx, objs := [(b, ob)] } = some u := by
  unfold fsLoad at hv ⊢; simp only at hv ⊢
  have : Heap.get { next := nx, low := nx, objs := [(b, ob)] } b = some ob := by
    show look [(b, ob)] b = some ob; simp [look]
  rw [this]; rw [hg] at hv; exact hv
theorem late_quiet {b b0 o0 : Nat} {ob : AObj} {u : Value} (hx : evalO t x = .pointer (some ⟨b0, o0, none⟩)) (hg : hr.get b0 = some ob) (hlt : b0 < hr.next) (hv : fsLoad P T (.pointer (some ⟨b0, o0, none⟩)) hr = some u)
    (hb : beforeOf bs ⟨some d, .load T x, ty, pos, after, g⟩ = b) (hw : fsWanted ops t ⟨some d, .load T x, ty, pos, after, g⟩ = some true) (n1 : Nat.blt d n = true) :
    lateDraw P hr (stepO P) ops n ⟨some d, .load T x, ty, pos, after, g⟩ i (⟨t, h, bs, segs, mem, tail⟩, rd, chg) = some (⟨t.set depth d u, h, bs ++ [b], segs, mem, tail⟩, b0 :: rd, chg) := by
  have hq : quietV P hr (.load T x) (evalO t) h.next = some (u, [b0]) := by
    have hbl : Nat.blt b0 hr.next = true := by rw [Nat.blt_eq]; exact hlt
    simp only [quietV, hx, hg, hbl, cond_true, fsLoad_at (nx := h.next) hg hv, Option.map_some]
  unfold lateDraw; simp only [hw, show calm (Op.load T x) = false from rfl, Bool.false_eq_true, if_false, hq, put_fits n1, Option.map_some, hb]; rfl
theorem VLt.q {b : Nat} {dx : τ.den} (hx : evV fl x = some (.p τ dx)) (hc : ReadV P fl [] (.load T x) v) (hk : VLt P orc ops n l (i + 1) ((d, v) :: fl) (nwSet true d nw) σ ρ (bs ++ [b]) mem tl K)
    (hb : beforeOf bs ⟨some d, .load T x, ty, pos, after, g⟩ = b := by rfl) (hold : oldX nw x = true := by rfl) (hw : wantV ops fl g = some true := by rfl) (hn : (Nat.blt d n && Nat.ble n 4000) = true := by rfl) :
    VLt P orc ops n (⟨some d, .load T x, ty, pos, after, g⟩ :: l) i fl nw σ ρ bs mem tl K := fun hr h0 G S0 A t h ms rd chg segs tail ht I L => by
  obtain ⟨n1, n2⟩ := fits hn; obtain ⟨b0, o0, e', rs, own', more, h1, h2, h3, h4⟩ := (old_sees L.slots hx hold : RepP hr (A ++ S0) τ (evalO t x) dx)
  obtain ⟨u, e1, e2⟩ := hc.2 hr (A ++ S0) t (fun z hz pv hp => by
    obtain rfl : z = x := by simpa [Op.operands] using hz
    exact old_sees L.slots hp hold) (fun _ hc => by cases hc)
  have hst := e2 hr (fun _ _ hg => hg) none 0 "" #[] none
  have hv : fsLoad P T (.pointer (some ⟨b0, o0, none⟩)) hr = some u := by
    have h5 : (fsLoad P T (evalO t x) hr).map (fun v => (v, hr)) = some (u, hr) := hst; obtain ⟨v', h6, h7⟩ := Option.map_eq_some_iff.1 h5; simp only [Prod.mk.injEq, and_true] at h7; rw [← h1, h6, h7]
  have hlt := L.ok b0 _ h3; refine EvL.opr (late_quiet h1 h3 hlt hv hb (want_ok I.slots hw) n1) (hk hr h0 G S0 A _ h ms _ chg segs tail ht (I.set (e1.nx L.goes) n2) ((L.set (old := true) n2 fun _ => e1).read ⟨hlt, .inr fun hm => h2 (List.mem_append_left _ hm)⟩))
theorem VLt.qo {b : Nat} {q : Value} {cs : List PV} (hx : evV fl x = some (.raw q)) (hm : (w, Cell.var cs) ∈ ρ) (hq : q = w ∨ ∃ k, q = padd w k) (hc : ReadV P fl ρ (.load T x) v) (hk : VLt P orc ops n l (i + 1) ((d, v) :: fl) (nwSet true d nw) σ ρ (bs ++ [b]) mem tl K)
    (hb : beforeOf bs ⟨some d, .load T x, ty, pos, after, g⟩ = b := by rfl) (hw : wantV ops fl g = some true := by rfl) (hn : (Nat.blt d n && Nat.ble n 4000) = true := by rfl) :
    VLt P orc ops n (⟨some d, .load T x, ty, pos, after, g⟩ :: l) i fl nw σ ρ bs mem tl K := fun hr h0 G S0 A t h ms rd chg segs tail ht I L => by
  obtain ⟨n1, n2⟩ := fits hn; have hxq : evalO t x = q := (evV_ok I.slots hx : RepPV _ _ (.raw q) _); obtain ⟨b0, e', vs, h1, h2, h3, h4, h5⟩ := L.cells _ hm
  obtain ⟨o0, hqb⟩ : ∃ o0, q = .pointer (some ⟨b0, o0, none⟩) := by
    simp only at h1; rcases hq with hq | ⟨k, hq⟩
    · exact ⟨0, hq.trans h1⟩
    exact ⟨0 + k, by rw [hq, h1]; rfl⟩
  obtain ⟨u, e1, e2⟩ := hc.2 hr (A ++ S0) t (fun z hz pv hp => by
    obtain rfl : z = x := by simpa [Op.operands] using hz
    rw [hx] at hp; obtain rfl := Option.some.inj hp
    exact hxq) L.cells
  have hst := e2 hr (fun _ _ hg => hg) none 0 "" #[] none
  have hv : fsLoad P T (.pointer (some ⟨b0, o0, none⟩)) hr = some u := by
    have h5 : (fsLoad P T (evalO t x) hr).map (fun v => (v, hr)) = some (u, hr) := hst; obtain ⟨v', h6, h7⟩ := Option.map_eq_some_iff.1 h5; simp only [Prod.mk.injEq, and_true] at h7; rw [← hqb, ← hxq, h6, h7]
  have hlt := L.ok b0 _ h3; have hbo : b0 ∈ own ρ := List.mem_flatMap.2 ⟨_, hm, by simp only at h1; rw [h1]; exact List.mem_cons_self⟩; exact EvL.opr (late_quiet (hxq.trans hqb) h3 hlt hv hb (want_ok I.slots hw) n1) (hk hr h0 G S0 A _ h ms _ chg segs tail ht (I.set (e1.nx L.goes) n2) ((L.set (old := true) n2 fun _ => e1).read ⟨hlt, .inl hbo⟩))
theorem late_make {b : Nat} {o : Oper} {u : Value} {t2 : Tr} (hb : beforeOf bs o = b) (hp : put n t o.dst u = some t2) (hcalm : calm o.op = false) (hqo : quietOp o.op = false) (hw : fsWanted ops t o = some true) (hord : Nat.beq (mem &&& b) mem = true) (hok : HOk h) (hst : stepO P o (evalO t) (entry h) = some (u, h')) (hB : Aft (entry h) h' B)
    (htu : h.next ≤ h'.low ∨ ∃ k, turned o.op (evalO t) = some k) :
    ∃ h2 tail' chg', lateDraw P hr (stepO P) ops n o i (⟨t, h, bs, segs, mem, tail⟩, rd, chg) = some (⟨t2, h2, bs ++ [b], (i, h.next, h'.next) :: segs, mem ||| 2 ^ i, tail'⟩, rd, chg') ∧ (∀ b, h2.get b = h'.get b) ∧ h2.next = h'.next ∧ Aft h h2 B ∧ ((chg' = chg ∧ tail' = tail) ∨ ∃ k, turned o.op (evalO t) = some k ∧ ¬ h.next ≤ h'.low ∧ chg' = k :: chg) := by
  have hnx := hB.next; have hnx' : Nat.blt h'.next h.next = false := blt_of_le hnx; unfold lateDraw; simp only [hw, hcalm, Bool.false_eq_true, if_false, quiet_no hqo]; unfold lateMem; simp only [hb, hord, Bool.not_true, Bool.and_false, cond_false, cond_true]; unfold entry at hst; rw [hst]; simp only [hnx', cond_false, hp]
  cases hlow : Nat.ble h.next h'.low with
  | true =>
    have hl := nble hlow
    have hsame : ∀ b, b < h.next → h'.get b = h.get b := fun b hb => by
      rcases hB.chg b hb with h3 | h3
      · exact h3
      omega
    have hget : ∀ b, look (newer h.next h'.next h'.objs ++ h.objs) b = h'.get b := fun b => by
      rw [look_append]; by_cases hb : b < h.next
      · cases hl2 : look (newer h.next h'.next h'.objs) b with
        | some o => have := (newer_some _ _ _ hl2).1; omega
        | none => exact (hsame b hb).symm
      have hold : look h.objs b = none := by
        cases hl2 : look h.objs b with
        | none => rfl
        | some o => exact absurd (hok b o hl2) hb
      rw [hold, Option.or_none]
      cases hl2 : look h'.objs b with
      | some o =>
        have : b < h'.next := hB.ok hok b o hl2; rw [newer_in _ _ (by omega) this, hl2]
        exact hl2.symm
      | none =>
        cases hl3 : look (newer h.next h'.next h'.objs) b with
        | none => exact hl2.symm
        | some o => rw [(newer_some _ _ _ hl3).2] at hl2; cases hl2
    refine ⟨_, _, _, rfl, hget, rfl, ⟨hnx, fun b hb hn => (hget b).trans (hB.get b hb hn), fun _ b o hg => ?_, fun e h3 _ _ => h3, fun b hb => .inl ((hget b).trans (hsame b hb)), Nat.le_refl _⟩, .inl ⟨rfl, rfl⟩⟩
    exact hB.ok hok b o ((hget b).symm.trans hg)
  | false =>
    rcases htu with htu | ⟨k, htu⟩
    · have : Nat.ble h.next h'.low = true := by rw [Nat.ble_eq]; exact htu
      rw [this] at hlow; cases hlow
    simp only [htu, cond_false, cond_true]; refine ⟨_, _, _, rfl, fun _ => rfl, rfl, ⟨hnx, hB.get, fun _ => hB.ok hok, fun e h3 h4 h5 => Nat.le_min.2 ⟨h3, hB.low e h4 h4 h5⟩, fun b hb => ?_, Nat.min_le_left _ _⟩, .inr ⟨k, rfl, fun hle => (by have e : Nat.ble h.next h'.low = true := (by rw [Nat.ble_eq]; exact hle); rw [e] at hlow; cases hlow), rfl⟩⟩; rcases hB.chg b hb with h3 | h3
    · exact .inl h3
    exact .inr (Nat.le_trans (Nat.min_le_right _ _) h3)
def TurnV (P : Program) (fl : VL) (op : Op) (w : Value) (c : Cell) : Prop := quietOp op = false ∧ ∀ (h h' : Heap) (S : List Nat) (t : Tr) (u : Value) (d : Option Tmp) (ty : TypeId) (pos : String) (after : Array Edge) (g : Option (Nat × Bool)), Sees h S t fl op → CellR h S w c → stepO P ⟨d, op, ty, pos, after, g⟩ (evalO t) h = some (u, h') →
  (∀ k, turned op (evalO t) = some k → k ∈ blk w) ∧ (h.low ≤ h'.low ∨ ∃ k, turned op (evalO t) = some k)
theorem TurnV.store {q : Value} {cs : List PV} (hx : evV fl x = some (.raw q)) (hq : q = w ∨ ∃ k, q = padd w k) : TurnV P fl (.store T x y) w (.var cs) := ⟨rfl, fun h h' S t u d ty pos after g hs hc _ => by
  have hxq : evalO t x = q := (hs x (by simp [Op.operands]) _ hx : RepPV _ _ (.raw q) _); obtain ⟨b0, e', vs, h1, h2, h3, h4, h5⟩ := hc
  obtain ⟨o0, hqb⟩ : ∃ o0, q = .pointer (some ⟨b0, o0, none⟩) := by
    rcases hq with hq | ⟨k, hq⟩
    · exact ⟨0, hq.trans h1⟩
    exact ⟨0 + k, by rw [hq, h1]; rfl⟩
  have ht : turned (.store T x y) (evalO t) = some b0 := by simp only [turned, hxq, hqb]
  refine ⟨fun k hk => ?_, .inr ⟨b0, ht⟩⟩; rw [ht] at hk; obtain rfl := Option.some.inj hk
  rw [h1]; exact List.mem_cons_self⟩
theorem Late.turn {c : Cell} (L : Late hr h S0 A ((w, c) :: σr) ρ t fl nw rd chg) (hap : (own ((w, c) :: σr)).Nodup) (hs : ∃ σ1, σr = σ1 ++ ρ) {k : Nat} (hk : k ∈ blk w) : Late hr h S0 A ((w, c) :: σr) ρ t fl nw rd (k :: chg) :=
  { L with
    chg := fun j hj => by
      rcases List.mem_cons.1 hj with rfl | hj
      · rw [own_cons] at hap; refine ⟨fun hm => (List.nodup_append.1 hap).2.2 j hk j ?_ rfl, L.new j (by rw [own_cons]; exact List.mem_append_left _ hk)⟩; obtain ⟨σ1, rfl⟩ := hs; rw [own_app]; exact List.mem_append_right _ hm
      exact L.chg j hj }
theorem VLt.mk0 {c : Cell} {b : Nat} {Tt : PV → Sto → Prop} (hs : MakeV P fl ((w, c) :: σr) op Tt) (hT : TurnV P fl op w c) (hρ : ∃ σ1, σr = σ1 ++ ρ) (hk : ∀ v σ', Tt v σ' → (∃ σ1, σ' = σ1 ++ ρ) ∧ VLt P orc ops n l (i + 1) fl nw σ' ρ (bs ++ [b]) (mem ||| 2 ^ i) true K)
    (hb : beforeOf bs ⟨none, op, ty, pos, after, g⟩ = b := by rfl) (hord : Nat.beq (mem &&& b) mem = true := by rfl) (hw : wantV ops fl g = some true := by rfl) :
    VLt P orc ops n (⟨none, op, ty, pos, after, g⟩ :: l) i fl nw ((w, c) :: σr) ρ bs mem tl K := fun hr h0 G S0 A t h ms rd chg segs tail ht I L => by
  have Le := I.lc.objs (h' := entry h) (fun _ => rfl) rfl; obtain ⟨u, h', v, σ', e1, e2, e3, e4⟩ := hs.2 S0 (entry h) t Le; have hst := e4 none ty pos after g; obtain ⟨t1, t2⟩ := hT.2 (entry h) h' _ t u _ _ _ _ _ Le.slots.sees (Le.cells _ List.mem_cons_self) hst; obtain ⟨h2, tail', chg', f1, f2, f3, f4, f5⟩ := late_make (n := n) (hr := hr) (rd := rd) (chg := chg) (i := i) (segs := segs) (tail := tail) (o := ⟨none, op, ty, pos, after, g⟩) hb (put_none n t u) hs.1 hT.1 (want_ok I.slots hw) hord I.ok hst e2.aft t2; have m2 := made_objs e2 f2 f4; obtain ⟨hσ, hk⟩ := hk v σ' e1
  have L2 : Late hr h S0 A ((w, c) :: σr) ρ t fl nw rd chg' := by
    rcases f5 with ⟨rfl, _⟩ | ⟨k, g1, _, rfl⟩
    · exact L
    exact L.turn I.apart hρ (t1 k g1)
  exact EvL.opr f1 (hk hr h0 G S0 A _ _ ms rd chg' _ tail' (fun e => by cases e) (I.made m2) (L2.made I m2 hσ))
end Go.Fs
namespace Ieee
namespace Format
variable (f : Format)
end Format
end Ieee
namespace Ieee
def sg (s : Bool) (r : Nat) : Int := if s then -(r : Int) else r
namespace Format
variable (f : Format)
def units (x : Nat) : Option Int := match f.read x with
  | .number s m p => some (sg s (m * 2 ^ (p - f.leastPlace).toNat))
  | _ => none
variable {f}
end Format
end Ieee
namespace Ieee
namespace Format
variable {f g : Format}
end Format
end Ieee
namespace Ieee
open Format
end Ieee
namespace Ieee
open Format
end Ieee
namespace Go.Fs
variable {P : Program} {h : Heap} {S : List Nat} {σ : Sto} {t : Tr} {fl : VL} {x y : Operand} {T T' : TypeId} {v pv : PV} {k k' : FloatKind} {p q : Nat}
end Go.Fs
namespace Go.Fs
variable {P : Program} {orc : FuncId → List Value → Heap → Option (Value × Heap)} {rnd : Option Nat} {h h' h0 h1 h2 : Heap} {S S' S0 B G : List Nat} {σ σ' : Sto} {t t' : Tr} {ms : List Nat} {fl : VL} {ops : Array Oper} {n : Nat} {l : List Oper} {K : VL → Sto → Prop} {Q : Ex → VL → Sto → Prop}
  {d : Tmp} {ty : TypeId} {pos : String} {after : Array Edge} {op : Op} {v pv : PV} {g : Option (Nat × Bool)} {x y z : Operand} {T T' e : TypeId} {κ ν : Ty} {w : Value}
section
variable {α β : Type} [DecidableEq α]
def mget : List (α × β) → α → Option β
  | [], _ => none
  | (k, v) :: r, x => if x = k then some v else mget r x
def mset : List (α × β) → α → β → List (α × β)
  | [], x, y => [(x, y)]
  | (k, v) :: r, x, y => if x = k then (x, y) :: r else (k, v) :: mset r x y
def mix : List (α × β) → α → Nat → Option Nat
  | [], _, _ => none
  | (k, _) :: r, x, i => if x = k then some i else mix r x (i + 1)
theorem mix_get : ∀ {l : List (α × β)} {x : α} {i : Nat}, match mix l x i with
    | none => mget l x = none
    | some j => i ≤ j ∧ ∃ (hj : j - i < l.length), (l[j - i]).1 = x ∧ mget l x = some (l[j - i]).2
  | [], _, _ => rfl
  | (k, v) :: r, x, i => by
    unfold mix mget; by_cases hk : x = k
    · rw [if_pos hk, if_pos hk]
      have e0 : i - i = 0 := by omega
      refine ⟨Nat.le_refl _, by rw [e0]; simp, ?_, ?_⟩
      · simp only [e0]; exact hk.symm
      simp only [e0]; rfl
    rw [if_neg hk, if_neg hk]; have := mix_get (l := r) (x := x) (i := i + 1); split at this
    · exact this
    rename_i j hj; obtain ⟨h1, h2, h3, h4⟩ := this
    have e1 : j - i = (j - (i + 1)) + 1 := by omega
    refine ⟨by omega, by rw [e1]; simpa using h2, ?_, ?_⟩
    · simp only [e1, List.getElem_cons_succ]; exact h3
    simp only [e1, List.getElem_cons_succ]; exact h4
theorem mix_set : ∀ {l : List (α × β)} {x : α} {y : β} {i : Nat}, match mix l x i with
    | none => mset l x y = l ++ [(x, y)]
    | some j => i ≤ j ∧ mset l x y = l.set (j - i) (x, y)
  | [], _, _, _ => rfl
  | (k, v) :: r, x, y, i => by
    unfold mix mset; by_cases hk : x = k
    · rw [if_pos hk, if_pos hk]
      have e0 : i - i = 0 := by omega
      exact ⟨Nat.le_refl _, by rw [e0]; rfl⟩
    rw [if_neg hk, if_neg hk]; have := mix_set (l := r) (x := x) (y := y) (i := i + 1); split at this
    · rw [this]; rfl
    rename_i j hj; obtain ⟨h1, h2⟩ := this
    have e1 : j - i = (j - (i + 1)) + 1 := by omega
    exact ⟨by omega, by rw [e1, List.set_cons_succ, h2]⟩
end
structure KeyT (P : Program) (K : TypeId) (κ : Ty) : Prop where
  flat : κ.isFlat = true
  und : ∃ td, P.underlying K = some td ∧ ((∀ {h : Heap} {S : List Nat} (u v : Value) (x y : κ.den) (inst : Decidable (x = y)), RepV h S κ u x → RepV h S κ v y → Instr.sameNow td u v = some (@decide (x = y) inst)) ∨
    ((∀ u v, Instr.sameNow td u v = none) ∧ ∀ {h : Heap} {S : List Nat} (u v : Value) (x y : κ.den) (inst : Decidable (x = y)), RepV h S κ u x → RepV h S κ v y → runPure P (Op.equal K u v) = some (@decide (x = y) inst)))
  chk : ∀ {h : Heap} {S : List Nat} (em : Bool) (u : Value) (x : κ.den), RepV h S κ u x → (runPure P (Instr.checkKey em 10000 K u)).isSome = true
  bits : ∀ {h : Heap} {S : List Nat} (u : Value) (x : κ.den), RepV h S κ u x → Instr.sameBits 10000 u u = true
theorem keyStr {K : TypeId} (hK : P.underlying K = some .string) : KeyT P K .str where
  flat := rfl
  und := ⟨.string, hK, .inl fun u v x y inst hu hv => by
    rw [hu.str, hv.str]; show some (x == y) = _; congr 1; by_cases h : x = y
    · rw [bytes_beq_t h]; simp [h]
    rw [bytes_beq_f h]; simp [h]⟩
  chk := fun em u x hu => by
    rw [hu.str]; unfold Instr.checkKey; simp only [runPure_bind, runPure_underlying hK, Option.bind_some]; rfl
  bits := fun u x hu => by
    rw [hu.str]; show (x == x) = true; exact bytes_beq_t rfl
structure MapT (P : Program) (T : TypeId) (κ ν : Ty) : Prop where
  key : ∃ K E, P.underlying T = some (.map K E) ∧ KeyT P K κ ∧ ZerT P E ν
def EntR (h : Heap) (S : List Nat) (κ ν : Ty) (es : List MapEntry) (kvs : List (κ.den × ν.den)) : Prop := es.length = kvs.length ∧ ∀ i (hi : i < kvs.length) (hj : i < es.length), RepV h S κ es[i].key kvs[i].1 ∧ RepV h S ν es[i].val kvs[i].2
theorem EntR.tail {e : MapEntry} {es : List MapEntry} {p : κ.den × ν.den} {kvs : List (κ.den × ν.den)} (hE : EntR h S κ ν (e :: es) (p :: kvs)) : (RepV h S κ e.key p.1 ∧ RepV h S ν e.val p.2) ∧ EntR h S κ ν es kvs := by
  obtain ⟨h1, h2⟩ := hE; refine ⟨h2 0 (by simp) (by simp), by simpa using h1, fun i hi hj => ?_⟩; have := h2 (i + 1) (by simpa using hi) (by simpa using hj); simpa using this
theorem find_mix [DecidableEq κ.den] {K : TypeId} {u : Value} {k : κ.den} (hK : KeyT P K κ) (hu : RepV h S κ u k) {es : List MapEntry} {kvs : List (κ.den × ν.den)} (hE : EntR h S κ ν es kvs) : fsFind P K u es = some (mix kvs k 0) := by
  obtain ⟨td, hU, hk⟩ := hK.und; unfold fsFind; rw [hU]; simp only; rcases hk with hk | ⟨hn, hk⟩
  · have key : ∀ (es : List MapEntry) (kvs : List (κ.den × ν.den)) (i : Nat), EntR h S κ ν es kvs → ∃ r, Instr.findNow td u es i = some r ∧ r.map (·.1) = mix kvs k i := by
      intro es
      induction es with
      | nil =>
        intro kvs i hE
        cases kvs with
        | nil => exact ⟨none, rfl, rfl⟩
        | cons p kvs => have := hE.1; simp at this
      | cons e es ih =>
        intro kvs i hE
        cases kvs with
        | nil => have := hE.1; simp at this
        | cons p kvs =>
          obtain ⟨⟨h1, _⟩, h3⟩ := hE.tail; obtain ⟨k', v'⟩ := p; unfold Instr.findNow mix; rw [hk u e.key k k' inferInstance hu h1]; by_cases hkk : k = k'
          · rw [if_pos hkk]; exact ⟨some (i, e.val), by simp [hkk], rfl⟩
          rw [if_neg hkk]; obtain ⟨r, r1, r2⟩ := ih kvs (i + 1) h3; exact ⟨r, by simp [hkk, r1], r2⟩
    obtain ⟨r, r1, r2⟩ := key es kvs 0 hE; rw [r1]; simp only; rw [r2]
  cases es with
  | nil =>
    cases kvs with
    | nil => rfl
    | cons p kvs => have := hE.1; simp at this
  | cons e0 es0 =>
    have hnow : Instr.findNow td u (e0 :: es0) 0 = none := by
      unfold Instr.findNow; rw [hn]
    rw [hnow]; simp only
    have key : ∀ (es : List MapEntry) (kvs : List (κ.den × ν.den)) (i : Nat), EntR h S κ ν es kvs → ∃ r, runPure P (Instr.findAsking K u es i) = some r ∧ r.map (·.1) = mix kvs k i := by
      intro es
      induction es with
      | nil =>
        intro kvs i hE
        cases kvs with
        | nil => exact ⟨none, rfl, rfl⟩
        | cons p kvs => have := hE.1; simp at this
      | cons e es ih =>
        intro kvs i hE
        cases kvs with
        | nil => have := hE.1; simp at this
        | cons p kvs =>
          obtain ⟨⟨h1, _⟩, h3⟩ := hE.tail; obtain ⟨k', v'⟩ := p; unfold Instr.findAsking mix; simp only [runPure_bind, hk u e.key k k' inferInstance hu h1, Option.bind_some]; by_cases hkk : k = k'
          · rw [if_pos hkk]; exact ⟨some (i, e.val), by simp [hkk, runPure_pure], rfl⟩
          rw [if_neg hkk]; obtain ⟨r, r1, r2⟩ := ih kvs (i + 1) h3; exact ⟨r, by simp [hkk, r1], r2⟩
    obtain ⟨r, r1, r2⟩ := key _ kvs 0 hE; have r1' : runPure P (Instr.findAsking K u (e0 :: es0)) = some r := r1; rw [r1']; simp only [Option.map_some]; rw [r2]
theorem EntR.set {kvs : List (κ.den × ν.den)} {es : List MapEntry} {j : Nat} {e : MapEntry} {p : κ.den × ν.den} (hE : EntR h S κ ν es kvs) (hk : RepV h S κ e.key p.1) (hv : RepV h S ν e.val p.2) : EntR h S κ ν (es.set j e) (kvs.set j p) := by
  refine ⟨by simpa using hE.1, fun i hi hj => ?_⟩; rw [List.length_set] at hi hj; by_cases hij : j = i
  · subst hij; simp only [List.getElem_set_self]; exact ⟨hk, hv⟩
  simp only [List.getElem_set_ne hij]; exact hE.2 i hi hj
theorem EntR.push {kvs : List (κ.den × ν.den)} {es : List MapEntry} {e : MapEntry} {p : κ.den × ν.den} (hE : EntR h S κ ν es kvs) (hk : RepV h S κ e.key p.1) (hv : RepV h S ν e.val p.2) : EntR h S κ ν (es ++ [e]) (kvs ++ [p]) := by
  refine ⟨by simpa using hE.1, fun i hi hj => ?_⟩
  have hi' : i < kvs.length + 1 := by simpa using hi
  by_cases hlt : i < kvs.length
  · rw [List.getElem_append_left hlt, List.getElem_append_left (by rw [hE.1]; exact hlt)]; exact hE.2 i hlt _
  have e1 : i = kvs.length := by omega
  subst e1; have e2 := hE.1
  have q1 : (es ++ [e])[kvs.length]'hj = e := by rw [List.getElem_append_right (by omega)]; simp [e2]
  have q2 : (kvs ++ [p])[kvs.length]'hi = p := by rw [List.getElem_append_right (by omega)]; simp
  rw [q1, q2]; exact ⟨hk, hv⟩
section
variable [DecidableEq κ.den] {k : κ.den} {kvs : List (κ.den × ν.den)}
theorem lookup_own (hT : MapT P T κ ν) {u : Value} (hu : RepV h S κ u k) (hc : CellR h S w (.mp κ ν kvs)) :
    ∃ r, RepV h S ν r ((mget kvs k).getD (zeroD ν)) ∧ (∀ H : Heap, (∀ b o, h.get b = some o → H.get b = some o) → fsLookup P T w u false H = some r ∧ fsLookup P T w u true H = some (.tuple #[r, .bool (mget kvs k).isSome])) := by
  obtain ⟨K, E, hU, hK, hZ⟩ := hT.key; obtain ⟨z, hz, hzc, hza⟩ := hZ.zero; obtain ⟨z1, z2⟩ := zero_rep h S ν; obtain ⟨a1, a2⟩ := af_cells (u := z) (by rw [hzc]; exact z2); have hzr : RepV h S ν z (zeroD ν) := ⟨hza, by rw [hzc]; exact z1⟩; have hau : af u = true := af_of_af1 (repV_af1 hK.flat hu); obtain ⟨b, es, c, rfl, hbS, hg, hE⟩ := hc; have hE' : EntR h S κ ν es kvs := hE; have hf := find_mix (ν := ν) hK hu hE'; have hch := hK.chk (h := h) (S := S) es.isEmpty u k hu; have hmg := mix_get (l := kvs) (x := k) (i := 0)
  cases hmx : mix kvs k 0 with
  | none =>
    rw [hmx] at hmg hf; have hmg' : mget kvs k = none := hmg; refine ⟨z, by rw [hmg']; exact hzr, fun H hH => ?_⟩
    constructor <;> simp [fsLookup, hU, hz, hau, a1, hf, hch, hmg', hH b _ hg]
  | some j =>
    rw [hmx] at hmg hf; obtain ⟨_, hj, hk1, hk2⟩ := hmg; simp only [Nat.sub_zero] at hj hk1 hk2
    have hj2 : j < es.length := by rw [hE'.1]; exact hj
    refine ⟨es[j].val, by rw [hk2]; exact (hE'.2 j hj hj2).2, fun H hH => ?_⟩; constructor <;> simp [fsLookup, hU, hz, hau, a1, hf, hch, hk2, hH b _ hg, List.getElem?_eq_getElem hj2]
theorem ReadV.lookO (hT : MapT P T κ ν) (hm : (w, Cell.mp κ ν kvs) ∈ σ) (hx : evV fl x = some (.raw w) := by rfl) (hy : evV fl y = some (.v κ k) := by rfl) : ReadV P fl σ (.lookup T x y false) (.v ν ((mget kvs k).getD (zeroD ν))) :=
  ⟨rfl, fun h S t hs hc => by
    have h1 : evalO t x = w := hs x (by simp [Op.operands]) _ hx; obtain ⟨r, r1, r2⟩ := lookup_own hT (hs y (by simp [Op.operands]) _ hy : RepV h S κ _ k) (hc _ hm)
    exact ⟨r, r1, fun H hH _ _ _ _ _ => by
      show (fsLookup P T (evalO t x) (evalO t y) false H).map _ = _
      rw [h1, (r2 H hH).1]; rfl⟩⟩
theorem MakeV.mput {u : ν.den} (hT : MapT P T κ ν) (hx : evV fl x = some (.raw w)) (hy : evV fl y = some (.v κ k)) (hz : evV fl z = some (.v ν u)) :
    MakeV P fl ((w, .mp κ ν kvs) :: σ) (.mapUpdate T x y z) fun v σ' => v = .raw undef ∧ σ' = (w, .mp κ ν (mset kvs k u)) :: σ :=
  ⟨rfl, fun S0 h t L => by
    have h1 : evalO t x = w := evV_ok L.slots hx; have hk := (evV_ok L.slots hy : RepV h _ κ (evalO t y) k); have hv := (evV_ok L.slots hz : RepV h _ ν (evalO t z) u); obtain ⟨K, E, hU, hK, hZ⟩ := hT.key; obtain ⟨b, es, c, h3, h4, hg, hE⟩ := L.cells _ List.mem_cons_self; have hw : w = .map (some b) := h3; have hE' : EntR h (own ((w, .mp κ ν kvs) :: σ) ++ S0) κ ν es kvs := hE
    have hbk : blk w = [b] := by rw [hw]; rfl
    have hf := find_mix (ν := ν) hK hk hE'; have hau : af (evalO t y) = true := af_of_af1 (repV_af1 hK.flat hk); have hch := hK.chk (h := h) false _ k hk; have hms := mix_set (l := kvs) (x := k) (y := u) (i := 0); have hmg := mix_get (l := kvs) (x := k) (i := 0)
    have fin : ∀ (es' : List MapEntry) (c' : Nat), fsMapUpdate P T w (evalO t y) (evalO t z) h = some (h.set b (.mapo es' c')) → EntR h (own ((w, .mp κ ν kvs) :: σ) ++ S0) κ ν es' (mset kvs k u) →
        ∃ uu h' v σ', (v = .raw undef ∧ σ' = (w, .mp κ ν (mset kvs k u)) :: σ) ∧ Made S0 h h' ((w, .mp κ ν kvs) :: σ) σ' ∧ RepPV h' (own σ' ++ S0) v uu ∧ ∀ (d : Option Tmp) (ty : TypeId) (pos : String) (after : Array Edge) (g : Option (Nat × Bool)), stepO P ⟨d, .mapUpdate T x y z, ty, pos, after, g⟩ (evalO t) h = some (uu, h') := fun es' c' hup hEn => by
      refine ⟨undef, h.set b (.mapo es' c'), .raw undef, _, ⟨rfl, rfl⟩, Made.head L (Aft.set hg (by rw [hbk]; simp)) (fun b hb => .inl hb) (by rw [hbk]; simp) fun hN => ?_, rfl, fun _ _ _ _ _ => ?_⟩
      · refine ⟨b, es', c', h3, ?_, by rw [Heap.get_set hg, if_pos rfl], hEn.1, fun i hi hj => ⟨(hEn.2 i hi hj).1.nx hN, (hEn.2 i hi hj).2.nx hN⟩⟩; rw [own_cons]; exact List.mem_append_left _ (List.mem_append_left _ (by rw [hbk]; simp))
      show (fsMapUpdate P T (evalO t x) (evalO t y) (evalO t z) h).map _ = _; rw [h1, hup]; rfl
    cases hmx : mix kvs k 0 with
    | none =>
      rw [hmx] at hms hf; have hms' : Fs.mset kvs k u = kvs ++ [(k, u)] := hms; refine fin (es ++ [{ key := evalO t y, val := evalO t z, born := c }]) (c + 1) ?_ (by rw [hms']; exact hE'.push hk hv); rw [hw]
      simp [fsMapUpdate, hU, hg, hau, hch, hf]
    | some j =>
      rw [hmx] at hms hf hmg; obtain ⟨_, hms'⟩ := hms; obtain ⟨_, hj, hk1, _⟩ := hmg; simp only [Nat.sub_zero] at hms' hj hk1
      have hj2 : j < es.length := by rw [hE'.1]; exact hj
      have hke : es[j].key = evalO t y := by
        have q1 := (hE'.2 j hj hj2).1; rw [hk1] at q1; have c1 := flat_cells q1.2 hK.flat; have c2 := flat_cells hk.2 hK.flat
        cases hag : κ.agg with
        | true => rw [flat_agg q1 hK.flat hag, flat_agg hk hK.flat hag]
        | false =>
          have d1 := cells_one (q1.1.trans hag); have d2 := cells_one (hk.1.trans hag); rw [d1] at c1; rw [d2] at c2; have : [es[j].key] = [evalO t y] := c1.trans c2.symm; simpa using this
      have hsb : Instr.sameBits 10000 es[j].key (evalO t y) = true := by rw [hke]; exact hK.bits _ k hk
      refine fin (es.set j { es[j] with key := evalO t y, val := evalO t z }) c ?_ (by rw [hms']; exact hE'.set hk hv); rw [hw]
      simp [fsMapUpdate, hU, hg, hau, hch, hf, List.getElem?_eq_getElem hj2, hsb]⟩
theorem VO.mput {u : ν.den} (hT : MapT P T κ ν) (hk : VO P orc ops n l fl ((w, .mp κ ν (mset kvs k u)) :: σ) K) (hx : evV fl x = some (.raw w) := by rfl) (hy : evV fl y = some (.v κ k) := by rfl) (hz : evV fl z = some (.v ν u) := by rfl) (hw : wantV ops fl g = some true := by rfl) :
    VO P orc ops n (⟨none, .mapUpdate T x y z, ty, pos, after, g⟩ :: l) fl ((w, .mp κ ν kvs) :: σ) K :=
  VO.mk0 (MakeV.mput hT hx hy hz) (by rintro _ _ ⟨rfl, rfl⟩; exact hk) hw
end
theorem FreshO.mkMap (κ ν : Ty) : FreshO P fl (.makeMap T none) (.mp κ ν []) :=
  ⟨rfl, fun h S t hs hok hS => ⟨fun k => .map (some k), .mapo [] 0, fun _ => rfl, fun S' hN hm => ⟨h.next, [], 0, rfl, hm, by rw [Heap.get_push, if_pos rfl], rfl, fun i hi => by simp at hi⟩, fun H _ _ _ _ _ => rfl⟩⟩
end Go.Fs
namespace Go.Fs
variable {P : Program} {orc : FuncId → List Value → Heap → Option (Value × Heap)} {h : Heap} {S : List Nat} {σ : Sto} {t : Tr} {fl : VL} {x y : Operand} {T T' : TypeId} {v pv : PV} {k k' : FloatKind} {p q : Nat}
theorem VF.ext {f : FuncId} {args : List PV} {r : PV} {fn : Func} {e : Array Value → Sem Value} {us : List Value} {w : Value} (hfn : P.funcs[f]? = some fn) (ho : ∀ us h, orc f us h = none) (hb : (fn.body.isNone && !(fn.name == "runtime.NumGoroutine")) = true) (h1 : (Extern.findNext fn).isNone = true) (h2 : Extern.find fn = some e)
    (ha : us.all af = true) (hus : ∀ (h : Heap) (S : List Nat) (us' : List Value), RepL h S args us' → us' = us) (hv : purely P (e us.toArray) = some w) (hr : ∀ (h : Heap) (S : List Nat), RepPV h S r w) : VF P orc f args r := fun h S us' hok hS hrep => by
  obtain rfl := hus h S us' hrep; exact EvF.ext (ho _ _) hfn hb h1 h2 ha hv ⟨Aft.refl _ _, hr _ _, fun _ => rfl⟩
end Go.Fs
namespace Ieee
open Format
end Ieee
namespace Go.Fs
variable {P : Program} {orc : FuncId → List Value → Heap → Option (Value × Heap)} {rnd : Option Nat} {h : Heap} {S : List Nat} {σ : Sto} {t : Tr} {fl : VL} {x y : Operand} {T : TypeId} {n : Nat} {τ τ' : Ty} {Q : Ex → VL → Sto → Prop}
section
variable {T' : TypeId}
end
end Go.Fs
namespace Go.Fs
variable {P : Program} {orc : FuncId → List Value → Heap → Option (Value × Heap)} {rnd : Option Nat} {h h' h0 h1 h2 : Heap} {S S' S0 B G : List Nat} {σ σ' : Sto} {t t' : Tr} {ms : List Nat} {fl nw : VL} {ops : Array Oper} {n : Nat} {l : List Oper} {K : VL → Sto → Prop} {Q : Ex → VL → Sto → Prop}
  {d : Tmp} {ty : TypeId} {pos : String} {after : Array Edge} {op : Op} {v pv : PV} {g : Option (Nat × Bool)} {x y z : Operand} {T T' e : TypeId} {w : Value} {s : ByteArray} {p : Nat}
theorem FreshO.rng (hT : P.underlying T = some .string := by kernel_rfl) (hx : evV fl x = some (.v .str s) := by rfl) : FreshO P fl (.range T x) (.it s 0) :=
  ⟨rfl, fun h S t hs hok hS => by
    have hv : evalO t x = .string s := RepV.str (hs x (by simp [Op.operands]) _ hx : RepV h S .str _ s); refine ⟨fun k => .pointer (some ⟨k, 0, none⟩), .iter s 0, fun _ => rfl, fun S' hN hm => ⟨h.next, rfl, hm, by rw [Heap.get_push, if_pos rfl]⟩, fun H _ _ _ _ _ => ?_⟩; show fsRange P T (evalO t x) H = _; rw [hv]
    simp [fsRange, hT]⟩
theorem MakeV.nextT (hp : p < s.size) (hx : evV fl x = some (.raw w)) : MakeV P fl ((w, .it s p) :: σ) (.next x true) fun v σ' => v = .tup [.v .bool true, .v (.int .i64) ((p : Nat) : Int), .v (.int .i32) (((Utf8.decode s p).1 : Nat) : Int)] ∧ σ' = (w, .it s (p + (Utf8.decode s p).2)) :: σ :=
  ⟨rfl, fun S0 h t L => by
    have h1 : evalO t x = w := evV_ok L.slots hx; obtain ⟨b, h3, h4, hg⟩ := L.cells _ List.mem_cons_self; have hw : w = .pointer (some ⟨b, 0, none⟩) := h3
    have hbk : blk w = [b] := by rw [hw]; rfl
    refine ⟨.tuple #[.bool true, .int .i64 ((p : Nat) : Int), .int .i32 (((Utf8.decode s p).1 : Nat) : Int)], h.set b (.iter s (p + (Utf8.decode s p).2)), _, _, ⟨rfl, rfl⟩, Made.head L (Aft.set hg (by rw [hbk]; simp)) (fun b hb => .inl hb) (by rw [hbk]; simp) fun hN => ?_, ?_, fun _ _ _ _ _ => ?_⟩
    · refine ⟨b, h3, ?_, by rw [Heap.get_set hg, if_pos rfl]⟩; rw [own_cons]; exact List.mem_append_left _ (List.mem_append_left _ (by rw [hbk]; simp))
    · exact ⟨_, rfl, _, _, rfl, RepV.ofBool _, _, _, rfl, RepV.ofInt _ _, _, _, rfl, RepV.ofInt _ _, rfl⟩
    show fsNext (evalO t x) true h = _; rw [h1, hw]
    simp [fsNext, hg, hp]⟩
theorem MakeV.nextF (hp : ¬ p < s.size) (hx : evV fl x = some (.raw w)) : MakeV P fl ((w, .it s p) :: σ) (.next x true) fun v σ' => v = .tup [.v .bool false] ∧ σ' = (w, .it s p) :: σ :=
  ⟨rfl, fun S0 h t L => by
    have h1 : evalO t x = w := evV_ok L.slots hx; obtain ⟨b, h3, h4, hg⟩ := L.cells _ List.mem_cons_self; have hw : w = .pointer (some ⟨b, 0, none⟩) := h3; refine ⟨.tuple #[.bool false], h, _, _, ⟨rfl, rfl⟩, Made.same L (Aft.refl h []), ⟨_, rfl, _, _, rfl, RepV.ofBool _, rfl⟩, fun _ _ _ _ _ => ?_⟩; show fsNext (evalO t x) true h = _; rw [h1, hw]
    simp [fsNext, hg, hp]⟩
theorem VO.next (hx : evV fl x = some (.raw w)) (h1 : p < s.size → VO P orc ops n l ((d, .tup [.v .bool true, .v (.int .i64) ((p : Nat) : Int), .v (.int .i32) (((Utf8.decode s p).1 : Nat) : Int)]) :: fl) ((w, .it s (p + (Utf8.decode s p).2)) :: σ) K) (h2 : ¬ p < s.size → VO P orc ops n l ((d, .tup [.v .bool false]) :: fl) ((w, .it s p) :: σ) K)
    (hw : wantV ops fl g = some true := by rfl) (hn : (Nat.blt d n && Nat.ble n 4000) = true := by rfl) : VO P orc ops n (⟨some d, .next x true, ty, pos, after, g⟩ :: l) fl ((w, .it s p) :: σ) K := by
  by_cases hp : p < s.size
  · exact VO.mk (MakeV.nextT hp hx) (by rintro _ _ ⟨rfl, rfl⟩; exact h1 hp) hw hn
  exact VO.mk (MakeV.nextF hp hx) (by rintro _ _ ⟨rfl, rfl⟩; exact h2 hp) hw hn
theorem CalmV.ext0 {b : Bool} (hx : evV fl x = some (.tup [.v .bool b]) := by rfl) : CalmV P fl σ (.extract x 0) (.v .bool b) := ⟨rfl, fun h S t hs _ => by
  obtain ⟨us, h1, u, r, rfl, h2, h3⟩ := (hs x (by simp [Op.operands]) _ hx : RepPV h S (.tup [.v .bool b]) _); obtain rfl : r = [] := h3; have hu : u = .bool b := RepV.bool h2; subst hu; refine ⟨.bool b, RepV.ofBool _, fun _ _ _ _ _ H => ?_⟩; show (bif isJunk (evalO t x) then none else (runPure P (Instr.extract (evalO t x) 0)).map _) = _; rw [h1]; have hj : isJunk (.tuple [Value.bool b].toArray) = false := rfl; rw [hj]
  rfl⟩
theorem decode_low {i : Nat} (h : (s.get! i).toNat < 128) : Utf8.decode s i = ((s.get! i).toNat, 1) := by
  unfold Utf8.decode; simp only [Nat.add_zero]; rw [if_pos h]
theorem decode_high {i : Nat} (h : ¬ (s.get! i).toNat < 128) : 128 ≤ (Utf8.decode s i).1 := by
  unfold Utf8.decode; simp only [Nat.add_zero]; rw [if_neg h]
  have hr : 128 ≤ Utf8.runeError := by decide
  split
  · split
    · assumption
    exact hr
  split
  · split
    · rename_i hc; have := (Bool.and_eq_true .. ▸ hc : _ ∧ _).1; have := of_decide_eq_true this; simp only; omega
    exact hr
  split
  · split
    · rename_i hc; have := (Bool.and_eq_true .. ▸ hc : _ ∧ _).1; have := of_decide_eq_true this; simp only; omega
    exact hr
  exact hr
structure GdT (ops : Array Oper) (fl : VL) (g : Option (Nat × Bool)) (b : Bool) : Prop where
  want : ∀ {h : Heap} {S : List Nat} {t : Tr}, Slots h S t fl → ∀ o : Oper, o.guard = g → fsWanted ops t o = some b
end Go.Fs
namespace Go.Fs
instance : DecidableEq (Ty.den .str) := inferInstanceAs (DecidableEq ByteArray)
instance {k : IntKind} : DecidableEq (Ty.den (.int k)) := inferInstanceAs (DecidableEq Int)
instance : DecidableEq (Ty.den .bool) := inferInstanceAs (DecidableEq Bool)
instance {a b : Ty} [DecidableEq a.den] [DecidableEq b.den] : DecidableEq (Ty.den (.pair a b)) := inferInstanceAs (DecidableEq (a.den × b.den))
variable {P : Program} {orc : FuncId → List Value → Heap → Option (Value × Heap)} {fl : VL} {σ γ : Sto} {T : TypeId} {τ : Ty}
theorem repL_raw {h : Heap} {S : List Nat} : ∀ (us : List Value), RepL h S (us.map PV.raw) us
  | [] => rfl
  | u :: r => ⟨u, r, rfl, rfl, repL_raw r⟩
theorem CalmV.buildA {pl : List (Nat × Nat)} {parts : Array (Nat × Operand)} {zs : List Value} {ps cs : List PV} (hT : BldT P T τ pl) (hz : zeroC τ = zs := by rfl) (hps : evVs fl (parts.toList.map (·.2)) = some ps := by rfl) (hb : bldL pl (zs.map .raw) (parts.toList.map (·.1)) ps = some cs := by rfl) : CalmV P fl σ (.build T parts) (.agg cs) :=
  ⟨rfl, fun h S t hs _ => by
    obtain ⟨z, z1, z2, z3⟩ := hT.zer.zero; obtain ⟨y1, y2⟩ := zero_rep h S τ; have hr : RepL h S ps ((parts.toList.map (·.2)).map (evalO t)) := sees_list (fun x hx => hs x (by simpa [Op.operands] using hx)) hps; obtain ⟨cs', f1, f2, f3, f4⟩ := fill_bld hb hr (show RepL h S (zs.map .raw) (zeroC τ) from by rw [hz]; exact repL_raw zs) (af0_one y2); refine ⟨.agg cs'.toArray, ⟨cs', rfl, f2⟩, fun _ _ _ _ _ H => ?_⟩; show (bif (parts.toList.all fun p => (evalO t p.2).cells.toList.all oneCell) && ((((P.info? T).bind (·.zero)).map fun z => z.cells.toList.all af0) == some true) then (runPure P (Instr.build T (parts.map fun p => (p.1, evalO t p.2)))).map fun v => (v, H) else none) = _
    have c1 : (parts.toList.all fun p => (evalO t p.2).cells.toList.all oneCell) = true := by
      rw [List.map_map, List.all_map] at f3; exact f3
    have c2 : ((((P.info? T).bind (·.zero)).map fun z => z.cells.toList.all af0) == some true) = true := by
      rw [z1]
      have e : z.cells.toList.all af0 = true := by rw [z2]; exact y2
      simp only [Option.map_some, e]; rfl
    have hrun := hT.run z (parts.map fun p => (p.1, evalO t p.2)) cs'.toArray z1 (by
      rw [← f1, Array.toList_map, ← zip_map, List.map_map]; congr 1
      rw [← z2])
    rw [c1, c2, hrun]
    rfl⟩
def byteE (s : ByteArray) (i : Int) : Int := (((s.get! i.toNat).toNat : Nat) : Int)
theorem byteE_nat (s : ByteArray) (i : Nat) : byteE s i = (((s.get! i).toNat : Nat) : Int) := rfl
theorem byteE_range (s : ByteArray) (i : Int) : 0 ≤ byteE s i ∧ byteE s i < 256 := by
  have := (s.get! i.toNat).toNat_lt; unfold byteE; omega
theorem CalmV.ixS {x y : Operand} {s : ByteArray} {i : Int} (hx : evV fl x = some (.v .str s)) (hy : evV fl y = some (.v (.int .i64) i)) (h0 : 0 ≤ i) (h1 : i < (s.size : Nat)) (hT : P.underlying T = some .string := by kernel_rfl) : CalmV P fl σ (.index T x y) (.v (.int .u8) (byteE s i)) :=
  ⟨rfl, fun h S t hq _ => by
    have hv : evalO t x = .string s := RepV.str (hq x (by simp [Op.operands]) _ hx : RepV h S .str _ s); have hi : evalO t y = .int .i64 i := RepV.int (hq y (by simp [Op.operands]) _ hy : RepV h S (.int .i64) _ i); refine ⟨.int .u8 (byteE s i), RepV.ofInt _ _, fun _ _ _ _ _ H => ?_⟩; show (if af (evalO t y) then (runPure P (Instr.index T (evalO t x) (evalO t y))).map _ else none) = _; rw [hi, hv, if_pos (show af (Value.int .i64 i) = true from rfl)]
    have hb : i.toNat < s.size := by omega
    have h8 : s[i.toNat]? = some (s.get! i.toNat) := by
      rw [getElem?_pos s i.toNat hb]; congr 1; show s.data[i.toNat] = s.data[i.toNat]!; rw [getElem!_pos s.data i.toNat hb]
    have h9 : runPure P (Instr.index T (.string s) (.int .i64 i)) = some (.int .u8 (byteE s i)) := by
      unfold Instr.index; simp only [runPure_bind, asIntOf, runPure_pure, Option.bind_some, runPure_underlying hT, if_pos h0, h8]; rfl
    rw [h9]; rfl⟩
end Go.Fs
namespace Go.Fs
variable {P : Program} {orc : FuncId → List Value → Heap → Option (Value × Heap)} {fl : VL} {σ : Sto} {T T' e ty : TypeId} {τ : Ty} {ops : Array Oper} {n : Nat} {l : List Oper} {K : VL → Sto → Prop} {d : Tmp} {pos : String} {after : Array Edge} {g : Option (Nat × Bool)} {x y : Operand} {xs : List τ.den}
theorem agg_one {w : Value} (h : oneCell w = true) : isAggV w = false := by
  cases w <;> first | rfl | cases h
end Go.Fs
namespace Go.Fs
variable {P : Program} {orc : FuncId → List Value → Heap → Option (Value × Heap)} {h h1 h2 h' : Heap} {S S0 : List Nat} {σ γ σr : Sto} {fl : VL} {ops : Array Oper} {n : Nat} {l : List Oper} {K : VL → Sto → Prop} {d : Tmp} {ty : TypeId} {pos : String} {after : Array Edge} {g : Option (Nat × Bool)}
section
variable (P orc)
end
section
variable (P orc)
end
end Go.Fs
namespace Go.Fs
variable {P : Program} {orc : FuncId → List Value → Heap → Option (Value × Heap)} {h h' h0 h1 h2 : Heap} {S S' S0 B G : List Nat} {σ σ' σr : Sto} {t t' : Tr} {ms : List Nat} {fl : VL} {ops : Array Oper} {n i mem : Nat} {l : List Oper} {K : VL → Sto → Prop} {Q : Ex → VL → Sto → Prop}
  {d : Tmp} {ty : TypeId} {pos : String} {after : Array Edge} {op : Op} {v pv : PV} {g : Option (Nat × Bool)} {x y z : Operand} {T T' e : TypeId} {τ τ' : Ty} {w : Value}
theorem getDg {α : Type} (xs : List α) (d : α) {i : Nat} (h : i < xs.length) : xs.getD i d = xs[i] := by rw [List.getD_eq_getElem?_getD, List.getElem?_eq_getElem h]; rfl
section
variable {α : Type} [DecidableEq α] {dd : α} {xs : List α}
end
end Go.Fs
namespace Go.Fs
variable {α : Type}
structure Weak (lt : α → α → Bool) : Prop where
  asym : ∀ a b, lt a b = true → lt b a = false
  neg : ∀ a b c, lt a b = false → lt b c = false → lt a c = false
variable {lt : α → α → Bool}
def eqv (lt : α → α → Bool) (a b : α) : Bool := !lt a b && !lt b a
def SameEq (lt : α → α → Bool) (xs ys : List α) : Prop := ∀ a, xs.filter (eqv lt a) = ys.filter (eqv lt a)
variable {d : α}
abbrev at_ (xs : List α) (i : Nat) (d : α) : α := xs.getD i d
structure Seg (lt : α → α → Bool) (xs ys : List α) (a b : Nat) : Prop where
  len : ys.length = xs.length
  lo : ys.take a = xs.take a
  hi : ys.drop b = xs.drop b
  same : SameEq lt xs ys
theorem three (xs : List α) {a b : Nat} (h : a ≤ b) : xs = xs.take a ++ ((xs.take b).drop a ++ xs.drop b) := by
  conv => lhs; rw [← List.take_append_drop b xs]
  rw [← List.append_assoc]; congr 1
  conv => lhs; rw [← List.take_append_drop a (xs.take b)]
  rw [List.take_take, Nat.min_eq_left h]
structure Insd (lt : α → α → Bool) (d : α) (ys : List α) (a j i : Nat) : Prop where
  srt : ∀ p q, a ≤ p → p < q → q ≤ i → q ≠ j → p ≠ j → lt (ys.getD q d) (ys.getD p d) = false
  less : ∀ q, j < q → q ≤ i → lt (ys.getD j d) (ys.getD q d) = true
end Go.Fs
namespace Go.Fs
variable {α : Type} {lt : α → α → Bool} {d : α} {ys : List α} {a b m n s e i j k : Nat}
theorem four (h1 : s ≤ m) (h2 : m ≤ e) : ys = ys.take s ++ ((ys.drop s).take (m - s) ++ ((ys.drop m).take (e - m) ++ ys.drop e)) := by
  conv => lhs; rw [← List.take_append_drop s ys, ← List.take_append_drop (m - s) (ys.drop s), List.drop_drop, show s + (m - s) = m by omega, ← List.take_append_drop (e - m) (ys.drop m), List.drop_drop, show m + (e - m) = e by omega]
structure Cut (lt : α → α → Bool) (d : α) (ys : List α) (a m b s e : Nat) : Prop where
  le : s ≤ m ∧ m ≤ e ∧ a ≤ s ∧ e ≤ b
  lo : a < s → e < b → lt (ys.getD e d) (ys.getD (s - 1) d) = false
  hi : s < m → m < e → lt (ys.getD (e - 1) d) (ys.getD s d) = true
end Go.Fs
namespace Go.Fs
variable {P : Program} {orc : FuncId → List Value → Heap → Option (Value × Heap)} {h h' h0 h1 h2 : Heap} {S S' S0 B G : List Nat} {σ σ' σr : Sto} {t t' : Tr} {ms : List Nat} {fl : VL} {ops : Array Oper} {n i mem : Nat} {l : List Oper} {K : VL → Sto → Prop} {Q : Ex → VL → Sto → Prop}
  {d : Tmp} {ty : TypeId} {pos : String} {after : Array Edge} {op : Op} {v pv : PV} {g : Option (Nat × Bool)} {x y z : Operand} {T T' e : TypeId} {τ τ' : Ty} {w : Value}
theorem RepC.same (hg : ∀ b o, h.get b = some o → h2.get b = some o) : ∀ {τ : Ty} {cs : List Value} {x y : τ.den}, RepC h S τ cs x → RepC h2 S' τ cs y → x = y := by
  intro τ
  induction τ with
  | int k => intro cs x y hx hy; have hx' : cs = [.int k x] := hx; have hy' : cs = [.int k y] := hy; rw [hx'] at hy'; simpa using hy'
  | bool => intro cs x y hx hy; have hx' : cs = [.bool x] := hx; have hy' : cs = [.bool y] := hy; rw [hx'] at hy'; simpa using hy'
  | str => intro cs x y hx hy; have hx' : cs = [.string x] := hx; have hy' : cs = [.string y] := hy; rw [hx'] at hy'; simpa using hy'
  | flt k => intro cs x y hx hy; have hx' : cs = [.float k x] := hx; have hy' : cs = [.float k y] := hy; rw [hx'] at hy'; simpa using hy'
  | unit => intro cs x y _ _; rfl
  | fn =>
    intro cs x y hx hy; have hx' : cs = [fnV x] := hx; have hy' : cs = [fnV y] := hy; rw [hx'] at hy'
    have h3 : fnV x = fnV y := by simpa using hy'
    cases x with
    | none => cases y with
      | none => rfl
      | some b => cases h3
    | some a => cases y with
      | none => cases h3
      | some b => injection h3 with h4; injection h4 with h5; rw [h5]
  | hnd =>
    intro cs x y hx hy; have hx' : cs = [hndV x] := hx; have hy' : cs = [hndV y] := hy; rw [hx'] at hy'
    have h3 : hndV x = hndV y := by simpa using hy'
    cases x with
    | none => cases y with
      | none => rfl
      | some b => cases h3
    | some a => cases y with
      | none => cases h3
      | some b =>
        obtain ⟨a1, a2⟩ := a; obtain ⟨b1, b2⟩ := b; simp only [hndV, Value.slice.injEq, Option.some.injEq, Addr.mk.injEq, and_true, true_and] at h3
        rw [h3.1, h3.2]
  | pair a b iha ihb => intro cs x y hx hy; exact Prod.ext (iha hx.1 hy.1) (ihb hx.2 hy.2)
  | sl e ih =>
    rintro cs x y ⟨v, h1, hv⟩ ⟨v', h1', hv'⟩
    obtain rfl : v = v' := by rw [h1] at h1'; simpa using h1'
    have key : List.length (x : List e.den) = List.length (y : List e.den) ∧ ∀ i (hi : i < List.length (x : List e.den)) (hj : i < List.length (y : List e.den)), (x : List e.den)[i] = (y : List e.den)[i] := by
      rcases hv with ⟨rfl, rfl⟩ | ⟨b, o, mk, rfl, hv⟩
      · rcases hv' with ⟨_, rfl⟩ | ⟨_, _, _, h3, _⟩
        · exact ⟨rfl, fun i hi => absurd hi (Nat.not_lt_zero i)⟩
        cases h3
      rcases hv' with ⟨h3, _⟩ | ⟨b', o', mk', h3, hv'⟩
      · cases h3
      injection h3 with h4 h5 h6; injection h4 with h7; injection h7 with h8 h9 h10; subst h8; subst h9; refine ⟨h5, fun i hi hj => ?_⟩; rcases hv with rfl | ⟨_, e1, rs, ow, mo, g1, _, g3⟩
      · exact absurd hi (Nat.not_lt_zero i)
      rcases hv' with rfl | ⟨_, e1', rs', ow', mo', g1', _, g3'⟩
      · exact absurd hj (Nat.not_lt_zero i)
      have h11 := hg _ _ g1; rw [g1'] at h11; injection h11 with h12; injection h12 with _ h13; subst h13; exact ih (g3 i hi) (g3' i hj)
    exact List.ext_getElem key.1 key.2
  | mp a b iha ihb =>
    rintro cs x y ⟨v, h1, hv⟩ ⟨v', h1', hv'⟩
    obtain rfl : v = v' := by rw [h1] at h1'; simpa using h1'
    have key : List.length (x : List (a.den × b.den)) = List.length (y : List (a.den × b.den)) ∧ ∀ i (hi : i < List.length (x : List (a.den × b.den))) (hj : i < List.length (y : List (a.den × b.den))), (x : List (a.den × b.den))[i] = (y : List (a.den × b.den))[i] := by
      rcases hv with ⟨rfl, rfl⟩ | ⟨bb, es, c, rfl, _, g1, g2, g3⟩
      · rcases hv' with ⟨_, rfl⟩ | ⟨_, _, _, h3, _⟩
        · exact ⟨rfl, fun i hi => absurd hi (Nat.not_lt_zero i)⟩
        cases h3
      rcases hv' with ⟨h3, _⟩ | ⟨b', es', c', h3, _, g1', g2', g3'⟩
      · cases h3
      injection h3 with h4; injection h4 with h5; subst h5; have h11 := hg _ _ g1; rw [g1'] at h11; injection h11 with h12; injection h12 with h13 _; subst h13; refine ⟨g2.symm.trans g2', fun i hi hj => ?_⟩; have q1 := g3 i hi (by omega); have q2 := g3' i hj (by omega); exact Prod.ext (iha q1.1.2 q2.1.2) (ihb q1.2.2 q2.2.2)
    exact List.ext_getElem key.1 key.2
end Go.Fs
namespace Go.Fs
variable {P : Program} {orc : FuncId → List Value → Heap → Option (Value × Heap)} {rnd : Option Nat} {h h' h0 h1 h2 : Heap} {S S' S0 B G : List Nat} {σ σ' σr : Sto} {t t' : Tr} {ms : List Nat} {fl : VL} {ops : Array Oper} {n i mem : Nat} {l : List Oper} {K : VL → Sto → Prop} {Q : Ex → VL → Sto → Prop}
  {d : Tmp} {ty : TypeId} {pos : String} {after : Array Edge} {op : Op} {v pv : PV} {g : Option (Nat × Bool)} {x y z : Operand} {T T' e : TypeId} {τ τ' : Ty} {w : Value}
end Go.Fs
namespace Go.Fs
variable {P : Program} {orc : FuncId → List Value → Heap → Option (Value × Heap)} {rnd : Option Nat} {h h' h0 h1 h2 : Heap} {S S' S0 B G : List Nat} {σ σ' σr : Sto} {t t' : Tr} {ms : List Nat} {fl : VL} {ops : Array Oper} {n i mem : Nat} {l : List Oper} {K : VL → Sto → Prop} {Q : Ex → VL → Sto → Prop}
  {d : Tmp} {ty : TypeId} {pos : String} {after : Array Edge} {op : Op} {v pv : PV} {g : Option (Nat × Bool)} {x y z : Operand} {T T' e : TypeId} {τ τ' : Ty} {w : Value}
inductive SetP : (τ : Ty) → τ.den → Nat → (τ' : Ty) → τ'.den → τ.den → Prop where
  | o {τ : Ty} {x y : τ.den} : SetP τ x 0 τ y y
  | l {a b : Ty} {x : (Ty.pair a b).den} {k : Nat} {τ' : Ty} {y : τ'.den} {z : a.den} (hs : SetP a x.1 k τ' y z) : SetP (.pair a b) x k τ' y (z, x.2)
  | r {a b : Ty} {x : (Ty.pair a b).den} {k k' : Nat} {τ' : Ty} {y : τ'.den} {z : b.den} (hs : SetP b x.2 k τ' y z) (hk : k' = a.size + k := by rfl) : SetP (.pair a b) x k' τ' y (x.1, z)
end Go.Fs
namespace Go.Fs
variable {P : Program} {orc : FuncId → List Value → Heap → Option (Value × Heap)} {rnd : Option Nat} {h h' h0 h1 h2 : Heap} {S S' S0 B G : List Nat} {σ σ' σr : Sto} {t t' : Tr} {ms : List Nat} {fl : VL} {ops : Array Oper} {n i mem : Nat} {l : List Oper} {K : VL → Sto → Prop} {Q : Ex → VL → Sto → Prop}
  {d : Tmp} {ty : TypeId} {pos : String} {after : Array Edge} {op : Op} {v pv : PV} {g : Option (Nat × Bool)} {x y z : Operand} {T T' e : TypeId} {τ τ' : Ty} {w : Value}
end Go.Fs
namespace Go.Fs
variable {P : Program} {orc : FuncId → List Value → Heap → Option (Value × Heap)} {rnd : Option Nat} {h h' h0 h1 h2 : Heap} {S S' S0 B G : List Nat} {σ σ' σr : Sto} {t t' : Tr} {ms : List Nat} {fl : VL} {ops : Array Oper} {n i mem : Nat} {l : List Oper} {K : VL → Sto → Prop} {Q : Ex → VL → Sto → Prop}
  {d : Tmp} {ty : TypeId} {pos : String} {after : Array Edge} {op : Op} {v pv : PV} {g : Option (Nat × Bool)} {x y z : Operand} {T T' e : TypeId} {τ τ' : Ty} {w : Value} {ρ : Sto} {bs nw : List Nat} {tl : Bool}
end Go.Fs
namespace Go.Fs
variable {P : Program} {O : FuncId → List Value → Heap → Option (Value × Heap)} {h h' : Heap} {S : List Nat}
end Go.Fs
namespace Go.Fs
variable {P : Program} {orc : FuncId → List Value → Heap → Option (Value × Heap)} {h h' : Heap} {S S' : List Nat} {σ : Sto}
end Go.Fs
namespace Go.Fs
variable {P : Program} {fl : VL} {σ : Sto} {x y : Operand} {T T' : TypeId} {p q : Int}
end Go.Fs
namespace Go.Proofs
open Go.Fs
def OA := orcC 90 78 (orcA 89 39 5)
theorem awake_ok : VF Tryz.prog OA 5 [] (B true) := VF.oracle (fun _ => rfl) fun _ _ => ⟨rfl, rfl⟩
abbrev y41 : Ty := (.sl (.int .i64))
abbrev y113 : Ty := (.sl (.int .i64))
theorem vt3 : ValT Tryz.prog 3 (.int .i64) := valT_of (by kernel_rfl)
theorem vt25 : ValT Tryz.prog 25 (.int .i64) := valT_of (by kernel_rfl)
theorem el41 : ElT Tryz.prog 41 3 (.int .i64) := elT_of (by kernel_rfl)
theorem el113 : ElT Tryz.prog 113 25 (.int .i64) := elT_of (by kernel_rfl)
def whenE (c : Bool) (e : Int) : Int := bif c then e else 0
theorem cWhen_ok {c : Bool} {e : Int} : VF Tryz.prog OA 69 [B c, I e] (I (whenE c e)) := by
  refine VF.enter Tryz.func69 rfl (fun _ _ => rfl) rfl ?_; show VC _ _ _ _ _ [(0, B c), (1, I e)] [] _; refine VC.seq (VC.text ?_); refine VO.c (.assign rfl) ?_; refine VO.go (VC.seq (VC.seq (VC.text ?_))); refine VO.c (.move rfl) (VO.go ?_); refine VC.condB rfl (fun c1 => ?_) (fun c1 => ?_)
  · subst c1; refine VC.seq (VC.text ?_); refine VO.c (.move rfl) (VO.c (.assign rfl) (VO.go ?_)); refine VC.ret ?_; exact VEnd.one rfl evT (pvI (by rfl))
  subst c1; refine VC.skip (VC.seq (VC.text ?_)); refine VO.c (.assign rfl) (VO.go ?_); refine VC.ret ?_; exact VEnd.one rfl evT (pvI (by rfl))
theorem rWhen_ok {c : Bool} {e : Int} : VF Tryz.prog OA 47 [B c, I e] (I (whenE c e)) := by
  refine VF.enter Tryz.func47 rfl (fun _ _ => rfl) rfl ?_; show VC _ _ _ _ _ [(0, B c), (1, I e)] [] _; refine VC.seq (VC.text ?_); refine VO.c (.assign rfl) ?_; refine VO.go (VC.seq (VC.seq (VC.text ?_))); refine VO.c (.move rfl) (VO.go ?_); refine VC.condB rfl (fun c1 => ?_) (fun c1 => ?_)
  · subst c1; refine VC.seq (VC.text ?_); refine VO.c (.move rfl) (VO.c (.assign rfl) (VO.go ?_)); refine VC.ret ?_; exact VEnd.one rfl evT (pvI (by rfl))
  subst c1; refine VC.skip (VC.seq (VC.text ?_)); refine VO.c (.assign rfl) (VO.go ?_); refine VC.ret ?_; exact VEnd.one rfl evT (pvI (by rfl))
def rangeE (n lo hi : Int) : Int := if n < lo ∨ hi < n then 3 else 0
theorem rCheckRange_ok {n : Int} {lo : Int} {hi : Int} : VF Tryz.prog OA 46 [I n, I lo, I hi] (I (rangeE n lo hi)) := by
  refine VF.enter Tryz.func46 rfl (fun _ _ => rfl) rfl ?_; show VC _ _ _ _ _ [(0, I n), (1, I lo), (2, I hi)] [] _; refine VC.seq (VC.text ?_); refine VO.c (.assign rfl) ?_; refine VO.go (VC.seq (VC.seq (VC.text ?_))); refine VO.c (.move rfl) (VO.c (.move rfl) (VO.c (.lss) (VO.c (.move rfl) ?_))); refine VO.cg (r := decide (n < lo)) (w := false) [] trivial (fun _ => (.move rfl)) ?_; refine VO.cg (r := decide (n < lo)) (w := false) [] trivial (fun _ => (.move rfl)) ?_; refine VO.cg (r := decide (n < lo)) (w := false) [(11, I n), (12, I hi)] ⟨rfl, rfl, trivial⟩ (fun _ => (.gtr)) ?_; refine VO.c (.or) (VO.go ?_); refine VC.condB rfl (fun c1 => ?_) (fun c1 => ?_)
  · try simp only [Bool.and_eq_true, Bool.or_eq_true, Bool.and_eq_false_iff, Bool.or_eq_false_iff, Bool.not_eq_true', Bool.not_eq_false', decide_eq_true_eq, decide_eq_false_iff_not] at c1
    refine VC.seq (VC.text ?_); refine VO.c (.assign rfl) (VO.go ?_); refine VC.ret ?_; exact VEnd.one rfl evT (pvI (by simp only [rangeE, ← Bool.decide_or, decide_eq_true_eq, decide_eq_false_iff_not, Bool.or_eq_true, Bool.or_eq_false_iff] at *; first | rw [if_pos (by omega)] | rw [if_neg (by omega)]))
  try simp only [Bool.and_eq_true, Bool.or_eq_true, Bool.and_eq_false_iff, Bool.or_eq_false_iff, Bool.not_eq_true', Bool.not_eq_false', decide_eq_true_eq, decide_eq_false_iff_not] at c1
  refine VC.skip (VC.seq (VC.text ?_)); refine VO.c (.assign rfl) (VO.go ?_); refine VC.ret ?_; exact VEnd.one rfl evT (pvI (by simp only [rangeE, ← Bool.decide_or, decide_eq_true_eq, decide_eq_false_iff_not, Bool.or_eq_true, Bool.or_eq_false_iff] at *; first | rw [if_pos (by omega)] | rw [if_neg (by omega)]))
theorem whenE_range {n lo hi : Int} : whenE (decide (n < lo) || decide (hi < n)) 3 = rangeE n lo hi := by
  unfold whenE rangeE; by_cases h1 : n < lo <;> by_cases h2 : hi < n <;> simp [h1, h2]
theorem cWithin_ok {n : Int} {lo : Int} {hi : Int} : VF Tryz.prog OA 68 [I n, I lo, I hi] (I (rangeE n lo hi)) := by
  refine VF.enter Tryz.func68 rfl (fun _ _ => rfl) rfl ?_; show VC _ _ _ _ _ [(0, I n), (1, I lo), (2, I hi)] [] _; refine VC.seq (VC.text ?_); refine VO.c (.assign rfl) ?_; refine VO.go (VC.seq (VC.text ?_)); refine VO.c (.move rfl) (VO.c (.move rfl) (VO.c (.lss) (VO.c (.move rfl) ?_))); refine VO.cg (r := decide (n < lo)) (w := false) [] trivial (fun _ => (.move rfl)) ?_; refine VO.cg (r := decide (n < lo)) (w := false) [] trivial (fun _ => (.move rfl)) ?_; refine VO.cg (r := decide (n < lo)) (w := false) [(11, I n), (12, I hi)] ⟨rfl, rfl, trivial⟩ (fun _ => (.gtr)) ?_; refine VO.c (.or) ?_; refine VO.call rfl rfl (VF.call (cWhen_ok )) ?_; refine VO.c (.assign rfl) (VO.go ?_); refine VC.ret ?_; exact VEnd.one rfl evT (pvI (by exact whenE_range))
def firstE : List Int → Int
  | [] => 0
  | x :: r => if x = 0 then firstE r else x
theorem firstE_drop {xs : List Int} {j : Nat} (hj : j < xs.length) : firstE (xs.drop j) = if xs[j] = 0 then firstE (xs.drop (j + 1)) else xs[j] := by
  rw [List.drop_eq_getElem_cons hj] <;> rfl
theorem firstE_end {xs : List Int} {j : Nat} (hj : xs.length ≤ j) : firstE (xs.drop j) = 0 := by rw [List.drop_eq_nil_of_le hj] <;> rfl
theorem firstE_app {l : List Int} {z : Int} : firstE (l ++ [z]) = if firstE l = 0 then z else firstE l := by
  induction l with
  | nil =>
    show (if z = 0 then 0 else z) = _; rw [if_pos (show firstE [] = 0 from rfl)]; split
    · rename_i h; exact h.symm
    rfl
  | cons x r ih =>
    show (if x = 0 then firstE (r ++ [z]) else x) = if (if x = 0 then firstE r else x) = 0 then z else (if x = 0 then firstE r else x); by_cases hx : x = 0
    · rw [if_pos hx, if_pos hx]; exact ih
    rw [if_neg hx, if_neg hx, if_neg hx]
theorem firstE_zero : ∀ {l : List Int}, firstE l = 0 ↔ ∀ x ∈ l, x = 0
  | [] => ⟨fun _ x hx => (by cases hx), fun _ => rfl⟩
  | x :: r => by
    have ih := firstE_zero (l := r); show (if x = 0 then firstE r else x) = 0 ↔ _; by_cases hx : x = 0
    · rw [if_pos hx, ih]; exact ⟨fun h y hy => (List.mem_cons.1 hy).elim (fun e => e.trans hx) (h y), fun h y hy => h y (List.mem_cons_of_mem _ hy)⟩
    rw [if_neg hx]; exact ⟨fun h => absurd h hx, fun h => absurd (h x List.mem_cons_self) hx⟩
theorem cFirst_ok {l : List Int} (hl : l.length < 1000000) : VF Tryz.prog OA 60 [.v y113 l] (I (firstE l)) := by
  refine VF.enter Tryz.func60 rfl (fun _ _ => rfl) rfl ?_; show VC _ _ _ _ _ [(0, .v y113 l)] [] _; refine VC.seq (VC.text ?_); refine VO.c (.assign rfl) ?_; refine VO.go (VC.seq (VC.seq (VC.text ?_))); refine VO.c (.move rfl) ?_; refine VO.r (.len el113) ?_; refine VO.c (.move rfl) ?_; refine VO.go (VC.block ?_); refine VC.keep [(5, .v y113 l), (6, I ((l.length : Nat) : Int)), (7, I ((0 : Nat) : Int))] ⟨rfl, rfl, rfl, trivial⟩ ?_; refine VC.loop (I := fun kk ff ss => ∃ (j : Nat), kk = l.length - j ∧ ff = [(5, .v y113 l), (6, I ((l.length : Nat) : Int)), (7, I ((j : Nat) : Int))] ∧ ss = [] ∧ (j ≤ l.length) ∧ (firstE l = firstE (l.drop j))) ?_ _ _ _ ⟨0, rfl, rfl, rfl, Nat.zero_le _, (by rfl)⟩; rintro kk ff ss ⟨j, hk0, rfl, rfl, hj, hf⟩; refine VC.seq (VC.text ?_); refine VO.c (.lss) ?_; refine VO.go (VC.seq ?_); refine VC.condD rfl (fun c2 => ?_) (fun c2 => ?_)
  · refine VC.skip (VC.seq (VC.block (VC.seq (VC.text ?_)))); refine VO.c (.ix (j := j) rfl rfl el113 (by omega)) ?_; refine VO.r (.ld vt25) ?_; refine VO.c (.assign rfl) ?_; refine VO.go (VC.seq (VC.text ?_)); refine VO.c (.move rfl) (VO.c (.neq) (VO.go ?_)); refine VC.condD rfl (fun c4 => ?_) (fun c4 => ?_)
    · refine VC.seq (VC.text ?_); refine VO.c (.move rfl) (VO.c (.assign rfl) (VO.go ?_)); refine VC.ret ?_; exact VEnd.one rfl evT (pvI (by rw [hf, firstE_drop (by omega), if_neg c4]))
    refine VC.skip (VC.text ?_); refine VO.c (.add rfl rfl (by omega)) (VO.c (.move rfl) ?_); refine VO.nil ?_; refine ⟨_, [(5, .v y113 l), (6, I ((l.length : Nat) : Int)), (7, I (((j + 1) : Nat) : Int))], ?_, ⟨rfl, rfl, rfl, trivial⟩, (j + 1), rfl, rfl, rfl, (by omega), (by rw [hf, firstE_drop (by omega), if_pos (by simpa using c4)])⟩; omega
  refine VC.exit (VC.seq (VC.text ?_)); refine VO.c (.assign rfl) (VO.go ?_); refine VC.ret ?_; exact VEnd.one rfl evT (pvI (by rw [hf, firstE_end (by omega)]))
theorem rFirst_ok {l : List Int} (hl : l.length < 1000000) : VF Tryz.prog OA 45 [.v y41 l] (I (firstE l)) := by
  refine VF.enter Tryz.func45 rfl (fun _ _ => rfl) rfl ?_; show VC _ _ _ _ _ [(0, .v y41 l)] [] _; refine VC.seq (VC.text ?_); refine VO.c (.assign rfl) ?_; refine VO.go (VC.seq (VC.seq (VC.text ?_))); refine VO.c (.assign rfl) ?_; refine VO.go (VC.block ?_); refine VC.keep [(0, .v y41 l), (3, I ((0 : Nat) : Int))] ⟨rfl, rfl, trivial⟩ ?_; refine VC.loop (I := fun kk ff ss => ∃ (j : Nat), kk = l.length - j ∧ ff = [(0, .v y41 l), (3, I ((j : Nat) : Int))] ∧ ss = [] ∧ (j ≤ l.length) ∧ (firstE l = firstE (l.drop j))) ?_ _ _ _ ⟨0, rfl, rfl, rfl, Nat.zero_le _, (by rfl)⟩; rintro kk ff ss ⟨j, hk0, rfl, rfl, hj, hf⟩; refine VC.seq (VC.seq (VC.text ?_)); refine VO.c (.move rfl) (VO.c (.move rfl) ?_); refine VO.r (.len el41) ?_; refine VO.c (.lss) (VO.go ?_); refine VC.condD rfl (fun c2 => ?_) (fun c2 => ?_)
  · refine VC.skip (VC.seq (VC.block (VC.seq (VC.text ?_)))); refine VO.c (.move rfl) (VO.c (.move rfl) (VO.c (.ix (j := j) rfl rfl el41 (by omega)) ?_)); refine VO.r (.ld vt3) ?_; refine VO.c (.neq) (VO.go ?_); refine VC.condD rfl (fun c4 => ?_) (fun c4 => ?_)
    · refine VC.seq (VC.text ?_); refine VO.c (.move rfl) (VO.c (.move rfl) (VO.c (.ix (j := j) rfl rfl el41 (by omega)) ?_)); refine VO.r (.ld vt3) ?_; refine VO.c (.assign rfl) (VO.go ?_); refine VC.ret ?_; exact VEnd.one rfl evT (pvI (by rw [hf, firstE_drop (by omega), if_neg c4]))
    refine VC.skip (VC.text ?_); refine VO.c (.move rfl) (VO.c (.add rfl rfl (by omega)) (VO.c (.assign rfl) ?_)); refine VO.nil ?_; refine ⟨_, [(0, .v y41 l), (3, I (((j + 1) : Nat) : Int))], ?_, ⟨rfl, rfl, trivial⟩, (j + 1), rfl, rfl, rfl, (by omega), (by rw [hf, firstE_drop (by omega), if_pos (by simpa using c4)])⟩; omega
  refine VC.exit (VC.seq (VC.text ?_)); refine VO.c (.assign rfl) (VO.go ?_); refine VC.ret ?_; exact VEnd.one rfl evT (pvI (by rw [hf, firstE_end (by omega)]))
end Go.Proofs
namespace Go.Proofs
open Go.Fs
set_option maxHeartbeats 400000
abbrev Gat := List Int × List Int × List (List Int)
theorem getDg {α : Type} {l : List α} {i : Nat} {d : α} (h : i < l.length) : l.getD i d = l[i] := by
  rw [List.getD_eq_getElem?_getD, List.getElem?_eq_getElem h] <;> rfl
theorem whenE_zero {c : Bool} {e : Int} (he : e ≠ 0) : whenE c e = 0 ↔ c = false := by
  cases c with
  | false => exact ⟨fun _ => rfl, fun _ => rfl⟩
  | true => exact ⟨fun h => absurd h he, fun h => by cases h⟩
theorem rangeE_zero {n lo hi : Int} : rangeE n lo hi = 0 ↔ lo ≤ n ∧ n ≤ hi := by
  unfold rangeE; by_cases h : n < lo ∨ hi < n
  · rw [if_pos h]; exact ⟨fun h => absurd h (by decide), fun hh => by omega⟩
  rw [if_neg h]; exact ⟨fun _ => by omega, fun _ => rfl⟩
def setE (g : Gat) (set : Int) : Int := whenE (decide (set < 0) || decide ((1 : Int) * 2 ^ ((g.1.length : Nat) : Int).toNat ≤ set)) 10
end Go.Proofs
namespace Go.Proofs
open Go.Fs Ieee
def letterB (c : Int) : Bool := decide (65 ≤ c ∧ c ≤ 90 ∨ 97 ≤ c ∧ c ≤ 122)
def otherB (c : Int) : Bool := decide (48 ≤ c ∧ c ≤ 57 ∨ c = 95)
def byteB (c : Int) (i : Nat) : Bool := letterB c || (decide (i ≠ 0) && otherB c)
def nameB (s : ByteArray) : Bool := decide (s.size ≠ 0 ∧ s.size ≤ 24 ∧ ∀ i, i < s.size → byteB (byteE s i) i = true)
theorem nameB_f {s : ByteArray} {i : Nat} (hi : i < s.size) (h : byteB (byteE s i) i = false) : false = nameB s := by
  refine (decide_eq_false fun hh => ?_).symm; rw [hh.2.2 i hi] at h; cases h
theorem nameB_t {s : ByteArray} (h1 : s.size ≠ 0) (h2 : s.size ≤ 24) (h : ∀ i, i < s.size → byteB (byteE s i) i = true) : true = nameB s := (decide_eq_true ⟨h1, h2, h⟩).symm
theorem size_empty {s : ByteArray} : s ≠ ByteArray.empty ↔ s.size ≠ 0 := by
  constructor
  · intro h e; exact h (ByteArray.ext (Array.eq_empty_of_size_eq_zero e))
  rintro h rfl; exact h rfl
theorem byteB_high {c : Int} {i : Nat} (h : 128 ≤ c) : byteB c i = false := by
  have h1 : letterB c = false := decide_eq_false (by omega); have h2 : otherB c = false := decide_eq_false (by omega); rw [byteB, h1, h2]; simp
theorem rune_f {s : ByteArray} {p : Nat} (h : byteB ((Utf8.decode s p).1 : Nat) p = false) : byteB (byteE s p) p = false := by
  by_cases hl : (s.get! p).toNat < 128
  · rw [decode_low hl] at h; exact h
  exact byteB_high (by rw [byteE_nat]; omega)
theorem rune_t {s : ByteArray} {p : Nat} (h : byteB ((Utf8.decode s p).1 : Nat) p = true) : byteB (byteE s p) p = true ∧ (Utf8.decode s p).2 = 1 := by
  by_cases hl : (s.get! p).toNat < 128
  · rw [decode_low hl] at h ⊢; exact ⟨h, rfl⟩
  have := Go.Fs.decode_high hl; rw [byteB_high (by omega)] at h; cases h
theorem name_end {s : ByteArray} (h : ∀ i, i < s.size → byteB (byteE s i) i = true) : (decide (s ≠ ByteArray.empty) && decide (((s.size : Nat) : Int) ≤ 24)) = nameB s := by
  rw [← Bool.decide_and]; exact decide_eq_decide.2 ⟨fun hh => ⟨size_empty.1 hh.1, by omega, h⟩, fun hh => ⟨size_empty.2 hh.1, by omega⟩⟩
theorem gName_ok {s : ByteArray} : VF Tryz.prog OA 88 [St s] (B (nameB s)) := by
  refine VF.enter Tryz.func88 rfl (fun _ _ => rfl) rfl ?_; show VC _ _ _ _ _ [(0, St s)] [] _; refine VC.seq (VC.text ?_); refine VO.c (.assign rfl) ?_; refine VO.go (VC.seq (VC.seq (VC.text ?_))); refine VO.c (.move rfl) ?_; refine VO.cell (.rng) ?_; intro ww1; refine VO.go (VC.block ?_); refine VC.keep [(0, St s), (8, .raw ww1)] ⟨rfl, rfl, trivial⟩ ?_; refine VC.loop (I := fun kk ff ss => ∃ (p : Nat), kk = s.size - p ∧ ff = [(0, St s), (8, .raw ww1)] ∧ ss = [(ww1, .it s p)] ∧ (p ≤ s.size) ∧ (∀ i, i < p → byteB (byteE s i) i = true)) ?_ _ _ _ ⟨0, rfl, rfl, rfl, Nat.zero_le _, (by intro i hi; omega)⟩; rintro kk ff ss ⟨p, hk0, rfl, rfl, hp, hq⟩; refine VC.seq (VC.text ?_); refine VO.next rfl (fun h2_0 => ?_) (fun h2_0 => ?_)
  · refine VO.c (.extract) ?_; refine VO.go (VC.seq ?_); refine VC.condT rfl ?_; refine VC.skip (VC.block (VC.seq (VC.text ?_))); refine VO.c (.extract) (VO.c (.extract) (VO.c (.assign rfl) (VO.c (.assign rfl) ?_))); refine VO.go (VC.seq ?_); refine VC.join [(0, St s), (3, I ((p : Nat) : Int)), (4, .v (.int .i32) (((Utf8.decode s p).1 : Nat) : Int)), (5, B (letterB ((Utf8.decode s p).1 : Nat))), (8, .raw ww1)] [(ww1, .it s (p + (Utf8.decode s p).2))] ?_ ?_
    · skip
      refine VC.text ?_; refine VO.c (.move rfl) (VO.c (.geq) (VO.c (.move rfl) ?_)); refine VO.splitD (x := 15) rfl (fun g4_2 => ?_) (fun g4_2 => ?_)
      · refine VO.c (.move rfl) (VO.c (.leq) (VO.c (.pickT rfl rfl) (VO.c (.move rfl) ?_))); refine VO.splitD (x := 19) rfl (fun g4_6 => ?_) (fun g4_6 => ?_)
        · refine VO.skip (VO.skip (VO.skip (VO.skip ?_))); refine VO.skip (VO.skip (VO.c (.pickT rfl rfl) (VO.c (.assign rfl) ?_))); refine VO.nil ?_; exact ⟨⟨rfl, rfl, rfl, slE rfl (by rw [Bool.eq_iff_iff]; simp [letterB] <;> omega), rfl, trivial⟩, rfl⟩
        refine VO.c (.move rfl) (VO.c (.geq) (VO.c (.move rfl) ?_)); refine VO.cg (r := decide ((97 : Int) ≤ (((Utf8.decode s p).1 : Nat) : Int))) (w := true) [] trivial (fun _ => (.move rfl)) ?_; refine VO.cg (r := decide ((97 : Int) ≤ (((Utf8.decode s p).1 : Nat) : Int))) (w := true) [(23, .v (.int .i32) (((Utf8.decode s p).1 : Nat) : Int))] ⟨rfl, trivial⟩ (fun _ => (.leq)) ?_; refine VO.c (.and) (VO.c (.pickF rfl rfl) (VO.c (.assign rfl) ?_)); refine VO.nil ?_; exact ⟨⟨rfl, rfl, rfl, slE rfl (by rw [Bool.eq_iff_iff]; simp [letterB] <;> omega), rfl, trivial⟩, rfl⟩
      refine VO.skip (VO.skip (VO.c (.pickF rfl rfl) (VO.c (.move rfl) ?_))); refine VO.c (.move rfl) (VO.c (.geq) (VO.c (.move rfl) ?_)); refine VO.cg (r := decide ((97 : Int) ≤ (((Utf8.decode s p).1 : Nat) : Int))) (w := true) [] trivial (fun _ => (.move rfl)) ?_; refine VO.cg (r := decide ((97 : Int) ≤ (((Utf8.decode s p).1 : Nat) : Int))) (w := true) [(23, .v (.int .i32) (((Utf8.decode s p).1 : Nat) : Int))] ⟨rfl, trivial⟩ (fun _ => (.leq)) ?_; refine VO.c (.and) (VO.c (.pickF rfl rfl) (VO.c (.assign rfl) ?_)); refine VO.nil ?_; exact ⟨⟨rfl, rfl, rfl, slE rfl (by rw [Bool.eq_iff_iff]; simp [letterB] <;> omega), rfl, trivial⟩, rfl⟩
    refine VC.seq ?_; refine VC.join [(0, St s), (3, I ((p : Nat) : Int)), (5, B (letterB ((Utf8.decode s p).1 : Nat))), (6, B (otherB ((Utf8.decode s p).1 : Nat))), (8, .raw ww1)] [(ww1, .it s (p + (Utf8.decode s p).2))] ?_ ?_
    · skip
      refine VC.text ?_; refine VO.c (.move rfl) (VO.c (.geq) (VO.c (.move rfl) ?_)); refine VO.splitD (x := 29) rfl (fun g5_2 => ?_) (fun g5_2 => ?_)
      · refine VO.c (.move rfl) (VO.c (.leq) (VO.c (.pickT rfl rfl) (VO.c (.move rfl) ?_))); refine VO.cg (r := decide ((((Utf8.decode s p).1 : Nat) : Int) ≤ (57 : Int))) (w := false) [] trivial (fun _ => (.move rfl)) ?_; refine VO.cg (r := decide ((((Utf8.decode s p).1 : Nat) : Int) ≤ (57 : Int))) (w := false) [(34, .v (.int .i32) (((Utf8.decode s p).1 : Nat) : Int))] ⟨rfl, trivial⟩ (fun _ => (.eql)) ?_; refine VO.c (.or) (VO.c (.assign rfl) ?_); refine VO.nil ?_; exact ⟨⟨rfl, rfl, rfl, slE rfl (by rw [Bool.eq_iff_iff]; simp [otherB] <;> omega), rfl, trivial⟩, rfl⟩
      refine VO.skip (VO.skip (VO.c (.pickF rfl rfl) (VO.c (.move rfl) ?_))); refine VO.c (.move rfl) (VO.c (.eql) (VO.c (.pickF rfl rfl) (VO.c (.assign rfl) ?_))); refine VO.nil ?_; exact ⟨⟨rfl, rfl, rfl, slE rfl (by rw [Bool.eq_iff_iff]; simp [otherB] <;> omega), rfl, trivial⟩, rfl⟩
    refine VC.seq ?_; refine VC.join [(0, St s), (8, .raw ww1), (46, B (!byteB ((Utf8.decode s p).1 : Nat) p))] [(ww1, .it s (p + (Utf8.decode s p).2))] ?_ ?_
    · skip
      refine VC.text ?_; refine VO.c (.move rfl) (VO.c (.not) (VO.c (.move rfl) ?_)); refine VO.splitB (x := 39) rfl (fun g6_2 => ?_) (fun g6_2 => ?_)
      · try simp only [Bool.and_eq_true, Bool.or_eq_true, Bool.and_eq_false_iff, Bool.or_eq_false_iff, Bool.not_eq_true', Bool.not_eq_false', decide_eq_true_eq, decide_eq_false_iff_not] at g6_2
        refine VO.c (.move rfl) (VO.c (.eql) (VO.c (.move rfl) ?_)); refine VO.cg (r := decide (((p : Nat) : Int) = (0 : Int))) (w := false) [] trivial (fun _ => (.move rfl)) ?_; refine VO.cg (r := decide (((p : Nat) : Int) = (0 : Int))) (w := false) [(43, B (otherB ((Utf8.decode s p).1 : Nat)))] ⟨rfl, trivial⟩ (fun _ => (.not)) ?_; refine VO.c (.or) (VO.c (.pickT rfl rfl) ?_); refine VO.nil ?_; exact ⟨⟨rfl, rfl, slE rfl (by simp [byteB, *]), trivial⟩, rfl⟩
      try simp only [Bool.and_eq_true, Bool.or_eq_true, Bool.and_eq_false_iff, Bool.or_eq_false_iff, Bool.not_eq_true', Bool.not_eq_false', decide_eq_true_eq, decide_eq_false_iff_not] at g6_2
      refine VO.skip (VO.skip (VO.skip (VO.skip ?_))); refine VO.skip (VO.skip (VO.c (.pickF rfl rfl) ?_)); refine VO.nil ?_; exact ⟨⟨rfl, rfl, slE rfl (by simp [byteB, *]), trivial⟩, rfl⟩
    refine VC.condB rfl (fun c6 => ?_) (fun c6 => ?_)
    · try simp only [Bool.and_eq_true, Bool.or_eq_true, Bool.and_eq_false_iff, Bool.or_eq_false_iff, Bool.not_eq_true', Bool.not_eq_false', decide_eq_true_eq, decide_eq_false_iff_not] at c6
      refine VC.seq (VC.text ?_); refine VO.c (.assign rfl) (VO.go ?_); refine VC.ret ?_; exact VEnd.one rfl evT (pvE (by exact nameB_f h2_0 (rune_f c6)))
    try simp only [Bool.and_eq_true, Bool.or_eq_true, Bool.and_eq_false_iff, Bool.or_eq_false_iff, Bool.not_eq_true', Bool.not_eq_false', decide_eq_true_eq, decide_eq_false_iff_not] at c6
    refine VC.skip ?_; refine ⟨_, [(0, St s), (8, .raw ww1)], ?_, ⟨rfl, rfl, trivial⟩, (p + 1), rfl, rfl, (by rw [(rune_t c6).2]), (by omega), (by intro i hi; rcases Nat.lt_succ_iff_lt_or_eq.1 hi with h | h; exact hq i h; subst h; exact (rune_t c6).1)⟩; omega
  refine VO.c (.ext0) ?_; refine VO.go (VC.seq ?_); refine VC.condF rfl ?_; refine VC.exit (VC.seq (VC.text ?_)); refine VO.c (.move rfl) (VO.c (.sneq) (VO.c (.move rfl) ?_)); refine VO.cg (r := decide (s ≠ ByteArray.empty)) (w := true) [] trivial (fun _ => (.move rfl)) ?_; refine VO.rg (r := decide (s ≠ ByteArray.empty)) (w := true) [(50, St s)] ⟨rfl, trivial⟩ (fun _ => (.lenS)) ?_; refine VO.cg (r := decide (s ≠ ByteArray.empty)) (w := true) [(51, I ((s.size : Nat) : Int))] ⟨rfl, trivial⟩ (fun _ => (.leq)) ?_; refine VO.c (.and) (VO.c (.assign rfl) (VO.go ?_)); refine VC.ret ?_; exact VEnd.one rfl evT (pvE (by exact name_end (fun i hi => hq i (by omega))))
theorem rName_ok {s : ByteArray} : VF Tryz.prog OA 96 [St s] (B (nameB s)) := by
  refine VF.enter Tryz.func96 rfl (fun _ _ => rfl) rfl ?_; show VC _ _ _ _ _ [(0, St s)] [] _; refine VC.seq (VC.text ?_); refine VO.c (.assign rfl) ?_; refine VO.go (VC.seq (VC.seq (VC.text ?_))); refine VO.c (.move rfl) ?_; refine VO.r (.lenS) ?_; refine VO.c (.eql) (VO.c (.move rfl) ?_); refine VO.cg (r := decide (((s.size : Nat) : Int) = (0 : Int))) (w := false) [] trivial (fun _ => (.move rfl)) ?_; refine VO.rg (r := decide (((s.size : Nat) : Int) = (0 : Int))) (w := false) [(9, St s)] ⟨rfl, trivial⟩ (fun _ => (.lenS)) ?_; refine VO.cg (r := decide (((s.size : Nat) : Int) = (0 : Int))) (w := false) [(10, I ((s.size : Nat) : Int))] ⟨rfl, trivial⟩ (fun _ => (.gtr)) ?_; refine VO.c (.or) (VO.go ?_); refine VC.condB rfl (fun c1 => ?_) (fun c1 => ?_)
  · try simp only [Bool.and_eq_true, Bool.or_eq_true, Bool.and_eq_false_iff, Bool.or_eq_false_iff, Bool.not_eq_true', Bool.not_eq_false', decide_eq_true_eq, decide_eq_false_iff_not] at c1
    refine VC.seq (VC.text ?_); refine VO.c (.assign rfl) (VO.go ?_); refine VC.ret ?_; exact VEnd.one rfl evT (pvE (by exact (decide_eq_false fun hh => by have := hh.1; have := hh.2.1; omega).symm))
  try simp only [Bool.and_eq_true, Bool.or_eq_true, Bool.and_eq_false_iff, Bool.or_eq_false_iff, Bool.not_eq_true', Bool.not_eq_false', decide_eq_true_eq, decide_eq_false_iff_not] at c1
  refine VC.skip (VC.seq (VC.seq (VC.text ?_))); refine VO.c (.assign rfl) ?_; refine VO.go (VC.block ?_); refine VC.keep [(0, St s), (3, I ((0 : Nat) : Int))] ⟨rfl, rfl, trivial⟩ ?_; refine VC.loop (I := fun kk ff ss => ∃ (i : Nat), kk = s.size - i ∧ ff = [(0, St s), (3, I ((i : Nat) : Int))] ∧ ss = [] ∧ (i ≤ s.size) ∧ (∀ k, k < i → byteB (byteE s k) k = true)) ?_ _ _ _ ⟨0, rfl, rfl, rfl, Nat.zero_le _, (by intro k hk; omega)⟩; rintro kk ff ss ⟨i, hk0, rfl, rfl, hi, hq⟩; refine VC.seq (VC.seq (VC.text ?_)); refine VO.c (.move rfl) (VO.c (.move rfl) ?_); refine VO.r (.lenS) ?_; refine VO.c (.lss) (VO.go ?_); refine VC.condD rfl (fun c4 => ?_) (fun c4 => ?_)
  · refine VC.skip (VC.seq (VC.block (VC.seq (VC.text ?_)))); refine VO.c (.move rfl) (VO.c (.move rfl) (VO.c (.ixS rfl rfl (by omega) (by omega)) (VO.c (.assign rfl) ?_))); refine VO.go (VC.seq (VC.seq ?_)); refine VC.join [(0, St s), (3, I ((i : Nat) : Int)), (4, .v (.int .u8) (byteE s ((i : Nat) : Int))), (35, B (letterB (byteE s i)))] [] ?_ ?_
    · skip
      refine VC.text ?_; refine VO.c (.move rfl) (VO.c (.geq) (VO.c (.move rfl) ?_)); refine VO.splitD (x := 24) rfl (fun g7_2 => ?_) (fun g7_2 => ?_)
      · refine VO.c (.move rfl) (VO.c (.leq) (VO.c (.pickT rfl rfl) (VO.c (.move rfl) ?_))); refine VO.splitD (x := 28) rfl (fun g7_6 => ?_) (fun g7_6 => ?_)
        · refine VO.skip (VO.skip (VO.skip (VO.skip ?_))); refine VO.skip (VO.skip (VO.c (.pickT rfl rfl) ?_)); refine VO.nil ?_; exact ⟨⟨rfl, rfl, rfl, slE rfl (by rw [Bool.eq_iff_iff]; simp [letterB] <;> omega), trivial⟩, rfl⟩
        refine VO.c (.move rfl) (VO.c (.geq) (VO.c (.move rfl) ?_)); refine VO.cg (r := decide ((65 : Int) ≤ (byteE s ((i : Nat) : Int)))) (w := true) [] trivial (fun _ => (.move rfl)) ?_; refine VO.cg (r := decide ((65 : Int) ≤ (byteE s ((i : Nat) : Int)))) (w := true) [(32, .v (.int .u8) (byteE s ((i : Nat) : Int)))] ⟨rfl, trivial⟩ (fun _ => (.leq)) ?_; refine VO.c (.and) (VO.c (.pickF rfl rfl) ?_); refine VO.nil ?_; exact ⟨⟨rfl, rfl, rfl, slE rfl (by rw [Bool.eq_iff_iff]; simp [letterB] <;> omega), trivial⟩, rfl⟩
      refine VO.skip (VO.skip (VO.c (.pickF rfl rfl) (VO.c (.move rfl) ?_))); refine VO.c (.move rfl) (VO.c (.geq) (VO.c (.move rfl) ?_)); refine VO.cg (r := decide ((65 : Int) ≤ (byteE s ((i : Nat) : Int)))) (w := true) [] trivial (fun _ => (.move rfl)) ?_; refine VO.cg (r := decide ((65 : Int) ≤ (byteE s ((i : Nat) : Int)))) (w := true) [(32, .v (.int .u8) (byteE s ((i : Nat) : Int)))] ⟨rfl, trivial⟩ (fun _ => (.leq)) ?_; refine VO.c (.and) (VO.c (.pickF rfl rfl) ?_); refine VO.nil ?_; exact ⟨⟨rfl, rfl, rfl, slE rfl (by rw [Bool.eq_iff_iff]; simp [letterB] <;> omega), trivial⟩, rfl⟩
    refine VC.condB rfl (fun c7 => ?_) (fun c7 => ?_)
    · have hok : byteB (byteE s i) i = true := by rw [byteB, c7] <;> rfl
      refine VC.exit (VC.text ?_); refine VO.c (.move rfl) (VO.c (.add rfl rfl (by omega)) (VO.c (.assign rfl) ?_)); refine VO.nil ?_; refine ⟨_, [(0, St s), (3, I (((i + 1) : Nat) : Int))], ?_, ⟨rfl, rfl, trivial⟩, (i + 1), rfl, rfl, rfl, (by omega), (by intro k hk; rcases Nat.lt_succ_iff_lt_or_eq.1 hk with h | h; exact hq k h; subst h; exact hok)⟩; omega
    refine VC.skip (VC.seq ?_); refine VC.join [(0, St s), (3, I ((i : Nat) : Int)), (49, B (!(decide (i ≠ 0) && otherB (byteE s i))))] [] ?_ ?_
    · skip
      refine VC.text ?_; refine VO.c (.move rfl) (VO.c (.eql) (VO.c (.move rfl) ?_)); refine VO.splitD (x := 38) rfl (fun g8_2 => ?_) (fun g8_2 => ?_)
      · refine VO.skip (VO.skip (VO.skip (VO.skip ?_))); refine VO.skip (VO.skip (VO.skip (VO.skip ?_))); refine VO.skip (VO.skip (VO.c (.pickT rfl rfl) ?_)); refine VO.nil ?_; exact ⟨⟨rfl, rfl, slE rfl (by rw [Bool.eq_iff_iff]; simp [otherB] <;> omega), trivial⟩, rfl⟩
      refine VO.c (.move rfl) (VO.c (.neq) (VO.c (.move rfl) ?_)); refine VO.splitD (x := 41) rfl (fun g8_5 => ?_) (fun g8_5 => ?_)
      · refine VO.c (.move rfl) (VO.c (.lss) (VO.c (.move rfl) ?_)); refine VO.cg (r := decide ((byteE s ((i : Nat) : Int)) < (48 : Int))) (w := false) [] trivial (fun _ => (.move rfl)) ?_; refine VO.cg (r := decide ((byteE s ((i : Nat) : Int)) < (48 : Int))) (w := false) [(45, .v (.int .u8) (byteE s ((i : Nat) : Int)))] ⟨rfl, trivial⟩ (fun _ => (.gtr)) ?_; refine VO.c (.or) (VO.c (.pickT rfl rfl) (VO.c (.pickF rfl rfl) ?_)); refine VO.nil ?_; exact ⟨⟨rfl, rfl, slE rfl (by rw [Bool.eq_iff_iff]; simp [otherB] <;> omega), trivial⟩, rfl⟩
      refine VO.skip (VO.skip (VO.skip (VO.skip ?_))); refine VO.skip (VO.skip (VO.c (.pickF rfl rfl) (VO.c (.pickF rfl rfl) ?_))); refine VO.nil ?_; exact ⟨⟨rfl, rfl, slE rfl (by rw [Bool.eq_iff_iff]; simp [otherB] <;> omega), trivial⟩, rfl⟩
    refine VC.condB rfl (fun c8 => ?_) (fun c8 => ?_)
    · try simp only [Bool.and_eq_true, Bool.or_eq_true, Bool.and_eq_false_iff, Bool.or_eq_false_iff, Bool.not_eq_true', Bool.not_eq_false', decide_eq_true_eq, decide_eq_false_iff_not] at c8
      refine VC.seq (VC.text ?_); refine VO.c (.assign rfl) (VO.go ?_); refine VC.ret ?_; exact VEnd.one rfl evT (pvE (by exact nameB_f (i := i) (by omega) (by simp only [byteB, c7, Bool.false_or, Bool.and_eq_false_iff, decide_eq_false_iff_not]; exact c8)))
    try simp only [Bool.and_eq_true, Bool.or_eq_true, Bool.and_eq_false_iff, Bool.or_eq_false_iff, Bool.not_eq_true', Bool.not_eq_false', decide_eq_true_eq, decide_eq_false_iff_not] at c8
    have hok : byteB (byteE s i) i = true := by simp [byteB, *]
    refine VC.skip (VC.text ?_); refine VO.c (.move rfl) (VO.c (.add rfl rfl (by omega)) (VO.c (.assign rfl) ?_)); refine VO.nil ?_; refine ⟨_, [(0, St s), (3, I (((i + 1) : Nat) : Int))], ?_, ⟨rfl, rfl, trivial⟩, (i + 1), rfl, rfl, rfl, (by omega), (by intro k hk; rcases Nat.lt_succ_iff_lt_or_eq.1 hk with h | h; exact hq k h; subst h; exact hok)⟩; omega
  refine VC.exit (VC.seq (VC.text ?_)); refine VO.c (.assign rfl) (VO.go ?_); refine VC.ret ?_; exact VEnd.one rfl evT (pvE (by exact nameB_t (by omega) (by omega) (fun k hk => hq k (by omega))))
theorem rNameE_ok {s : ByteArray} : VF Tryz.prog OA 44 [St s] (I (whenE (!nameB s) 8)) := by
  refine VF.enter Tryz.func44 rfl (fun _ _ => rfl) rfl ?_; show VC _ _ _ _ _ [(0, St s)] [] _; refine VC.seq (VC.text ?_); refine VO.c (.assign rfl) ?_; refine VO.go (VC.seq (VC.seq (VC.text ?_))); refine VO.c (.move rfl) ?_; refine VO.call rfl rfl (VF.call (rName_ok )) ?_; refine VO.c (.not) (VO.go ?_); refine VC.condB rfl (fun c1 => ?_) (fun c1 => ?_)
  · try simp only [Bool.and_eq_true, Bool.or_eq_true, Bool.and_eq_false_iff, Bool.or_eq_false_iff, Bool.not_eq_true', Bool.not_eq_false', decide_eq_true_eq, decide_eq_false_iff_not] at c1
    refine VC.seq (VC.text ?_); refine VO.c (.assign rfl) (VO.go ?_); refine VC.ret ?_; exact VEnd.one rfl evT (pvI (by simp [whenE, *]))
  try simp only [Bool.and_eq_true, Bool.or_eq_true, Bool.and_eq_false_iff, Bool.or_eq_false_iff, Bool.not_eq_true', Bool.not_eq_false', decide_eq_true_eq, decide_eq_false_iff_not] at c1
  refine VC.skip (VC.seq (VC.text ?_)); refine VO.c (.assign rfl) (VO.go ?_); refine VC.ret ?_; exact VEnd.one rfl evT (pvI (by simp [whenE, *]))
end Go.Proofs
namespace Go.Proofs
open Go.Fs
set_option maxHeartbeats 400000
theorem vt41 : ValT Tryz.prog 41 y41 := valT_of (by kernel_rfl)
end Go.Proofs
namespace Go.Proofs
open Go.Fs
set_option maxHeartbeats 1000000
end Go.Proofs
namespace Go.Fs
variable {P : Program} {h : Heap} {S : List Nat} {σ : Sto} {t : Tr} {fl : VL} {x : Operand} {T e : TypeId} {τ : Ty}
end Go.Fs
namespace Go.Fs
variable {P : Program} {σ : Sto} {fl : VL} {x y : Operand} {T T' : TypeId} {p q : Bool}
end Go.Fs
namespace Go.Fs
variable {P : Program} {orc : FuncId → List Value → Heap → Option (Value × Heap)} {σ : Sto} {fl : VL} {ops : Array Oper} {n : Nat} {l : List Oper} {K : VL → Sto → Prop} {d : Tmp} {ty : TypeId} {pos : String} {after : Array Edge} {g : Option (Nat × Bool)} {x : Operand} {T e : TypeId} {τ : Ty}
end Go.Fs
namespace Go.Fs
variable {P : Program} {fl : VL} {e : TypeId} {τ : Ty}
end Go.Fs
namespace Go.Fs
open Go.RowKit (Below)
variable {P : Program} {H : Type} {enc : TypeId × Value → H} {w : World} {base : Nat} {sp : Nat → Bool} {held : Bool}
def fsB (P : Program) (ty : TypeId → Ty → Bool) : List Field → Nat → Ty → Bool
  | [f], off, .pair a .unit => Nat.beq f.offset off && Nat.beq (P.cellsOf f.type) a.size && ty f.type a
  | [f], off, τ => Nat.beq f.offset off && Nat.beq (P.cellsOf f.type) τ.size && ty f.type τ
  | f :: fs, off, .pair a b => Nat.beq f.offset off && Nat.beq (P.cellsOf f.type) a.size && ty f.type a && fsB P ty fs (off + a.size) b
  | _, _, _ => false
def arrFs (P : Program) (m : Nat) (e : TypeId) : List Field := (List.range m).map fun i => { name := "", type := e, offset := i * P.cellsOf e, embedded := false, tag := "", pkgPath := "", byteOffset := 0 }
def tyB (P : Program) : Nat → TypeId → Ty → Bool
  | 0, _, _ => false
  | n + 1, t, τ =>
    match P.underlying t, τ with
    | some (.int k), .int k' => decide (k = k')
    | some .bool, .bool => true
    | some .string, .str => true
    | some (.float k), .flt k' => decide (k = k')
    | some (.slice te), .sl e => Nat.beq (P.cellsOf te) e.size && Nat.blt 0 e.size && tyB P n te e
    | some (.struct fs), .pair a b => Nat.beq (P.cellsOf t) (Ty.pair a b).size && fsB P (tyB P n) fs.toList 0 (.pair a b)
    | some (.array m e), .pair a b => Nat.beq (P.cellsOf t) (Ty.pair a b).size && fsB P (tyB P n) (arrFs P m e) 0 (.pair a b)
    | _, _ => false
def Wf : (τ : Ty) → τ.den → Prop
  | .int k, n => (Lit.int k n).wf = true
  | .bool, _ => True
  | .str, s => s.size ≤ maxLen
  | .flt k, n => (Lit.float k n).wf = true
  | .sl e, xs => List.length xs ≤ maxLen ∧ ∀ x ∈ (xs : List e.den), Wf e x
  | .pair a b, x => Wf a x.1 ∧ Wf b x.2
  | .unit, _ => True
  | .mp _ _, _ => True
  | .fn, _ => True
  | .hnd, _ => True
structure Got (P : Program) (w : World) (ρ : Ren) (S : Nat → Prop) (h : Heap) (ρ' : Ren) (S' : Nat → Prop) (h' : Heap) : Prop where
  hr : HR P ρ' S' w.heap.size (wz w) h' w
  agree : ∀ b, S b → S' b ∧ ρ' b = ρ b
  aft : After h h'
theorem Got.refl {ρ : Ren} {S : Nat → Prop} {h : Heap} (hr : HR P ρ S w.heap.size (wz w) h w) : Got P w ρ S h ρ S h := ⟨hr, fun _ hb => ⟨hb, rfl⟩, After.refl h⟩
theorem Got.trans {ρ ρ1 ρ2 : Ren} {S S1 S2 : Nat → Prop} {h h1 h2 : Heap} (a : Got P w ρ S h ρ1 S1 h1) (b : Got P w ρ1 S1 h1 ρ2 S2 h2) : Got P w ρ S h ρ2 S2 h2 :=
  ⟨b.hr, fun i hi => let ⟨h3, h4⟩ := a.agree i hi; let ⟨h5, h6⟩ := b.agree i h3; ⟨h5, h6.trans h4⟩, a.aft.trans b.aft⟩
theorem Got.ok {ρ ρ1 : Ren} {S S1 : Nat → Prop} {h h1 : Heap} (a : Got P w ρ S h ρ1 S1 h1) : HOk h1 := fun b o hg => (a.hr.ids b (a.hr.objs b o hg).1).1
theorem hok_of {ρ : Ren} {S : Nat → Prop} {h : Heap} (hr : HR P ρ S w.heap.size (wz w) h w) : HOk h := fun b o hg => (hr.ids b (hr.objs b o hg).1).1
theorem Got.row {ρ : Ren} {S : Nat → Prop} {h : Heap} (hr : HR P ρ S w.heap.size (wz w) h w) {te : TypeId} {cs : List Value} {a : Addr} (ha : a.block < w.heap.size) (hc : ∀ i, i < cs.length → ∃ v, w.cell? ⟨a.block, a.off + i, none⟩ = some v ∧ VR ρ S (cs.getD i undef) v) :
    Got P w ρ S h (fun b => if b = h.next then (.clean a.block a.off 0 (P.cellsOf te)) else ρ b) (fun b => S b ∨ b = h.next) (h.push (.row te cs false false)) := by
  have hag : ∀ b, S b → (S b ∨ b = h.next) ∧ (fun b => if b = h.next then (Loc.clean a.block a.off 0 (P.cellsOf te)) else ρ b) b = ρ b := fun b hb => by
    have := (hr.ids b hb).1; exact ⟨.inl hb, by simp only; rw [if_neg (by omega)]⟩
  have hold : ∀ i o, (h.push (.row te cs false false)).get i = some o → (i = h.next ∧ o = .row te cs false false) ∨ (i ≠ h.next ∧ h.get i = some o) := fun i o hg => by
    rw [Heap.get_push] at hg; by_cases hi : i = h.next
    · rw [if_pos hi] at hg; exact .inl ⟨hi, (Option.some.inj hg).symm⟩
    rw [if_neg hi] at hg; exact .inr ⟨hi, hg⟩
  refine ⟨⟨fun i o hg => ?_, fun i j oi oj hi hj oi1 oj1 he => ?_, fun i o hg ho => ?_, fun i o hg ho => ?_, fun b hb => ?_, Nat.succ_pos _, z_below (Below.refl _ _), Nat.zero_le _, Nat.le_refl _⟩, hag, After.push h _⟩
  · rcases hold i o hg with ⟨rfl, rfl⟩ | ⟨hi, hg'⟩
    · refine ⟨.inr rfl, ?_⟩; simp only [if_true]; refine ⟨rfl, fun i hi => ?_, fun hx => by cases hx⟩; obtain ⟨v, h1, h2⟩ := hc i hi; exact ⟨v, h1, h2.mono hag⟩
    obtain ⟨h1, h2⟩ := hr.objs i o hg'; refine ⟨.inl h1, ?_⟩; simp only [if_neg hi]; exact h2.mono hag
  · rcases hold i oi hi with ⟨rfl, rfl⟩ | ⟨hi', hgi⟩
    · cases oi1
    rcases hold j oj hj with ⟨rfl, rfl⟩ | ⟨hj', hgj⟩
    · cases oj1
    simp only [if_neg hi', if_neg hj'] at he; exact hr.inj i j oi oj hgi hgj oi1 oj1 he
  · rcases hold i o hg with ⟨rfl, rfl⟩ | ⟨hi, hg'⟩
    · cases ho
    simp only [if_neg hi]; exact hr.base i o hg' ho
  · rcases hold i o hg with ⟨rfl, rfl⟩ | ⟨hi, hg'⟩
    · simp only [if_true]; exact ha
    simp only [if_neg hi]; exact hr.ro i o hg' ho
  have hn : (h.push (.row te cs false false)).next = h.next + 1 := rfl; rw [hn]; rcases hb with hb | rfl
  · have := hr.ids b hb; exact ⟨by omega, this.2⟩
  have := hr.pos; exact ⟨by omega, by omega⟩
theorem trod_float {fuel : Nat} {t : TypeId} {cs : List Value} {x : DataW H × List MemPlace} {k : FloatKind} (ht : P.underlying t = some (.float k)) (h : DataW.trod enc P w base sp held fuel t cs = some x) : ∃ n, cs = [.float k n] ∧ (Lit.float k n).wf = true := by
  cases fuel with
  | zero => simp [DataW.trod] at h
  | succ n =>
    unfold DataW.trod at h; rw [ht] at h; split at h <;> simp_all
theorem mapM_all {α β : Type} (f : α → Option β) : ∀ (l : List α) (r : List β), l.mapM f = some r → l.length = r.length ∧ ∀ i (hi : i < l.length) (hr : i < r.length), f l[i] = some r[i]
  | [], r, h => by
    simp only [List.mapM_nil] at h; obtain rfl := Option.some.inj h
    exact ⟨rfl, fun i hi => absurd hi (by simp)⟩
  | a :: l, r, h => by
    rw [List.mapM_cons] at h
    cases hf : f a with
    | none => rw [hf] at h; cases h
    | some b =>
      rw [hf] at h
      cases hl : l.mapM f with
      | none => rw [hl] at h; cases h
      | some bs =>
        rw [hl] at h; obtain rfl := Option.some.inj h; obtain ⟨h1, h2⟩ := mapM_all f l bs hl; refine ⟨by simp [h1], fun i hi hr => ?_⟩
        cases i with
        | zero => exact hf
        | succ i => exact h2 i (by simpa using hi) (by simpa using hr)
theorem cells_some {a : Addr} {n : Nat} {cs : List Value} (h : w.cells? base a n = some cs) : cs.length = n ∧ ∀ i, i < n → w.cell? (a.add i) = some (cs.getD i undef) := by
  unfold World.cells? at h; split at h
  · obtain ⟨h1, h2⟩ := mapM_all _ _ _ h; rw [List.length_range] at h1; refine ⟨h1.symm, fun i hi => ?_⟩; have := h2 i (by simpa using hi) (by omega); rw [List.getElem_range] at this; rw [this]; simp [List.getD, show i < cs.length by omega]
  cases h
theorem cell_some {a : Addr} {v : Value} (h : w.cell? a = some v) : a.spot = none ∧ a.block < w.heap.size := by
  unfold World.cell? at h; split at h
  · rename_i c _ _ hb; refine ⟨?_, (Array.getElem?_eq_some_iff.1 hb).1⟩
    cases hs : a.spot with
    | none => rfl
    | some s => rw [hs] at h; cases h
  cases h
def Tells (P : Program) (w : World) (τ : Ty) (cs : List Value) : Prop := ∀ (ρ : Ren) (S : Nat → Prop) (h : Heap), HR P ρ S w.heap.size (wz w) h w →
  ∃ ρ' S' h' cs' x, Got P w ρ S h ρ' S' h' ∧ LR ρ' S' cs' cs ∧ RepC h' [] τ cs' x ∧ Wf τ x
theorem LR.one {ρ : Ren} {S : Nat → Prop} {v v' : Value} (h : VR ρ S v v') : LR ρ S [v] [v'] := LR.cons h LR.nil
theorem tells_elems {e : Ty} (a : Addr) (len : Nat) (hcs : ∀ i, i < len → ∃ cs, (∀ j, j < e.size → w.cell? (a.add (i * e.size + j)) = some (cs.getD j undef)) ∧ cs.length = e.size ∧ Tells P w e cs) :
    ∀ (ρ : Ren) (S : Nat → Prop) (h : Heap), HR P ρ S w.heap.size (wz w) h w → ∃ ρ' S' h' rs xs, Got P w ρ S h ρ' S' h' ∧ rs.length = len * e.size ∧ List.length xs = len ∧ (∀ i, i < len * e.size → ∃ v, w.cell? (a.add i) = some v ∧ VR ρ' S' (rs.getD i undef) v) ∧
      Elems h' [] e rs xs ∧ ∀ x ∈ (xs : List e.den), Wf e x := by
  induction len with
  | zero =>
    intro ρ S h hr
    exact ⟨ρ, S, h, [], [], Got.refl hr, by simp, rfl, fun i hi => by omega, Elems.nil, fun x hx => by cases hx⟩
  | succ n ih =>
    intro ρ S h hr; obtain ⟨ρ1, S1, h1, rs, xs, g1, l1, l2, c1, e1, w1⟩ := ih (fun i hi => hcs i (by omega)) ρ S h hr; obtain ⟨cs, k1, k2, k3⟩ := hcs n (by omega); obtain ⟨ρ2, S2, h2, cs', x, g2, lr, rc, wf⟩ := k3 ρ1 S1 h1 g1.hr; have hN : Goes h1 [] h2 [] := g2.aft.nx g1.ok; have hl : cs'.length = e.size := rc.len
    have hel : Elems h2 [] e cs' [x] := by
      refine ⟨by simpa using hl, fun i hi => ?_⟩
      obtain rfl : i = 0 := by simpa using hi
      simp only [Nat.zero_mul, List.drop_zero, List.getElem_cons_zero]; rw [List.take_of_length_le (by omega)]; exact rc
    refine ⟨ρ2, S2, h2, rs ++ cs', xs ++ [x], g1.trans g2, by rw [List.length_append, l1, hl, Nat.add_mul]; omega, by simp [l2], fun i hi => ?_, (e1.nx hN).append hel, fun y hy => ?_⟩
    · rw [Nat.add_mul, Nat.one_mul] at hi; by_cases hin : i < n * e.size
      · obtain ⟨v, hv1, hv2⟩ := c1 i hin; refine ⟨v, hv1, ?_⟩; rw [List.getD_eq_getElem?_getD, List.getElem?_append_left (by omega), ← List.getD_eq_getElem?_getD]; exact hv2.mono g2.agree
      have hj : i - n * e.size < e.size := by omega
      refine ⟨cs.getD (i - n * e.size) undef, ?_, ?_⟩
      · have := k1 (i - n * e.size) hj
        rwa [show n * e.size + (i - n * e.size) = i by omega] at this
      rw [List.getD_eq_getElem?_getD, List.getElem?_append_right (by omega), l1, ← List.getD_eq_getElem?_getD]; exact lr.getD _
    rcases List.mem_append.1 hy with hy | hy
    · exact w1 y hy
    obtain rfl := List.mem_singleton.1 hy; exact wf
theorem Addr.add_spot {a : Addr} (h : a.spot = none) (n : Nat) : a.add n = ⟨a.block, a.off + n, none⟩ := by
  obtain ⟨b, o, s⟩ := a; simp only at h; subst h; unfold Addr.add; by_cases hn : n = 0
  · subst hn; simp
  simp [hn]
theorem tells_fields {n : Nat} (ih : ∀ (t : TypeId) (τ : Ty), tyB P n t τ = true → ∀ (fuel : Nat) (cs : List Value) (x : DataW H × List MemPlace), DataW.trod enc P w base sp held fuel t cs = some x → Tells P w τ cs) :
    ∀ (fs : List Field) (off : Nat) (τ : Ty) (cs : List Value) (m : Nat), fsB P (tyB P n) fs off τ = true → cs.length = off + τ.size → (∀ f ∈ fs, ∃ x, DataW.trod enc P w base sp held m f.type ((cs.drop f.offset).take (P.cellsOf f.type)) = some x) → Tells P w τ (cs.drop off) := by
  have one : ∀ (f : Field) (off : Nat) (τ : Ty) (cs : List Value) (m : Nat), f.offset = off → P.cellsOf f.type = τ.size → tyB P n f.type τ = true → off + τ.size ≤ cs.length → (∃ x, DataW.trod enc P w base sp held m f.type ((cs.drop f.offset).take (P.cellsOf f.type)) = some x) → Tells P w τ ((cs.drop off).take τ.size) := by
    intro f off τ cs m h1 h2 h3 h4 ⟨x, hx⟩; rw [h1, h2] at hx; exact ih f.type τ h3 m _ x hx
  intro fs
  induction fs with
  | nil => intro off τ cs m hb; cases hb
  | cons f fs ihf =>
    intro off τ cs m hb hl hall; have hf := hall f List.mem_cons_self
    cases fs with
    | nil =>
      by_cases hs : ∃ a, τ = .pair a .unit
      · obtain ⟨a, rfl⟩ := hs; have hb' : (Nat.beq f.offset off && Nat.beq (P.cellsOf f.type) a.size && tyB P n f.type a) = true := hb; obtain ⟨hb', h3⟩ := band hb'; obtain ⟨h1, h2⟩ := band hb'
        have hs : (Ty.pair a .unit).size = a.size := by simp [Ty.size]
        rw [hs] at hl; have := one f off a cs m (nbeq h1) (nbeq h2) h3 (by omega) hf; intro ρ S h hr; obtain ⟨ρ', S', h', cs', x, g, lr, rc, wf⟩ := this ρ S h hr; have e1 : (cs.drop off).take a.size = cs.drop off := List.take_of_length_le (by rw [List.length_drop]; omega); rw [e1] at lr; have hcl := rc.len; exact ⟨ρ', S', h', cs', (x, ()), g, lr, ⟨by rw [List.take_of_length_le (by omega)]; exact rc, by rw [List.drop_eq_nil_of_le (by omega)]; rfl⟩, wf, trivial⟩
      have hb' : (Nat.beq f.offset off && Nat.beq (P.cellsOf f.type) τ.size && tyB P n f.type τ) = true := by
        cases τ with
        | pair a b =>
          cases b with
          | unit => exact absurd ⟨a, rfl⟩ hs
          | _ => exact hb
        | _ => exact hb
      obtain ⟨hb', h3⟩ := band hb'; obtain ⟨h1, h2⟩ := band hb'; have := one f off τ cs m (nbeq h1) (nbeq h2) h3 (by omega) hf; have e1 : (cs.drop off).take τ.size = cs.drop off := List.take_of_length_le (by rw [List.length_drop]; omega)
      rwa [e1] at this
    | cons g fs =>
      cases τ with
      | pair a b =>
        have hb' : (Nat.beq f.offset off && Nat.beq (P.cellsOf f.type) a.size && tyB P n f.type a && fsB P (tyB P n) (g :: fs) (off + a.size) b) = true := hb; obtain ⟨hb', h4⟩ := band hb'; obtain ⟨hb', h3⟩ := band hb'; obtain ⟨h1, h2⟩ := band hb'; have hs : (Ty.pair a b).size = a.size + b.size := rfl; rw [hs] at hl; have ha := one f off a cs m (nbeq h1) (nbeq h2) h3 (by omega) hf; have hrest := ihf (off + a.size) b cs m h4 (by omega) (fun g hg => hall g (List.mem_cons_of_mem _ hg)); intro ρ S h hr; obtain ⟨ρ1, S1, h1', cs1, x1, g1, lr1, rc1, wf1⟩ := ha ρ S h hr; obtain ⟨ρ2, S2, h2', cs2, x2, g2, lr2, rc2, wf2⟩ := hrest ρ1 S1 h1' g1.hr; have hN : Goes h1' [] h2' [] := g2.aft.nx g1.ok; have hc1 := rc1.len; refine ⟨ρ2, S2, h2', cs1 ++ cs2, (x1, x2), g1.trans g2, ?_, ⟨?_, ?_⟩, wf1, wf2⟩
        · have := (lr1.mono g2.agree).append lr2
          rwa [show (cs.drop off).take a.size ++ cs.drop (off + a.size) = cs.drop off from by rw [← List.drop_drop, List.take_append_drop]] at this
        · rw [List.take_left' hc1]; exact rc1.nx hN
        rw [List.drop_left' hc1]; exact rc2
      | _ => cases hb
theorem tells : ∀ (n : Nat) (t : TypeId) (τ : Ty), tyB P n t τ = true → ∀ (fuel : Nat) (cs : List Value) (x : DataW H × List MemPlace), DataW.trod enc P w base sp held fuel t cs = some x → Tells P w τ cs := by
  intro n
  induction n with
  | zero => intro t τ h; cases h
  | succ n ih =>
    intro t τ hb fuel cs x hx; unfold tyB at hb; split at hb
    · rename_i k k' hu; obtain rfl : k = k' := of_decide_eq_true hb; obtain ⟨m, rfl, _, hwf⟩ := DataW.trod_int hu hx; exact fun ρ S h hr => ⟨ρ, S, h, _, m, Got.refl hr, LR.one (.lit rfl), rfl, hwf⟩
    · rename_i hu; obtain ⟨b, rfl, _⟩ := DataW.trod_bool hu hx; exact fun ρ S h hr => ⟨ρ, S, h, _, b, Got.refl hr, LR.one (.lit rfl), rfl, trivial⟩
    · rename_i hu; obtain ⟨s, rfl, _, hs⟩ := DataW.trod_string hu hx; exact fun ρ S h hr => ⟨ρ, S, h, _, s, Got.refl hr, LR.one (.lit rfl), rfl, hs⟩
    · rename_i k k' hu; obtain rfl : k = k' := of_decide_eq_true hb; obtain ⟨m, rfl, hwf⟩ := trod_float hu hx; exact fun ρ S h hr => ⟨ρ, S, h, _, m, Got.refl hr, LR.one (.lit rfl), rfl, hwf⟩
    · rename_i te e hu; obtain ⟨hb, h3⟩ := band hb; obtain ⟨h1, h2⟩ := band hb; have hce := nbeq h1; have hpos := nblt h2; rcases DataW.trod_slice hu hx with ⟨rfl, _⟩ | ⟨a, len, cap, elems, rest, m, _, rfl, _, hba, hlc, hcap, hlen, hel, _⟩
      · exact fun ρ S h hr => ⟨ρ, S, h, [.slice none 0 0], [], Got.refl hr, LR.one (.lit rfl), ⟨_, rfl, .inl ⟨rfl, rfl⟩⟩, Nat.zero_le _, fun x hx => by cases hx⟩
      by_cases h0 : len = 0
      · subst h0; exact fun ρ S h hr => ⟨ρ, S, h, [.slice (some ⟨0, 0, none⟩) 0 2], [], Got.refl hr, LR.one (.slice 0 0 0 2 cap a (Nat.zero_le _) (fun h => by cases h) (fun _ => rfl) (fun h => absurd rfl h)), ⟨_, rfl, .inr ⟨0, 0, 2, rfl, .inl rfl⟩⟩, Nat.zero_le _, fun x hx => by cases hx⟩
      have hcs : ∀ i, i < len → ∃ cs, (∀ j, j < e.size → w.cell? (a.add (i * e.size + j)) = some (cs.getD j undef)) ∧ cs.length = e.size ∧ Tells P w e cs := by
        intro i hi; have := hel i hi; rw [List.getElem?_eq_getElem (by omega)] at this; rw [hce] at this
        cases hc : w.cells? base (a.add (i * e.size)) e.size with
        | none => rw [hc] at this; cases this
        | some cs =>
          rw [hc] at this; obtain ⟨k1, k2⟩ := cells_some hc; refine ⟨cs, fun j hj => ?_, k1, ih te e h3 m cs _ this⟩; rw [← k2 j hj]; congr 1; obtain ⟨b, o, s⟩ := a; unfold Addr.add; by_cases hx1 : i * e.size = 0
          · simp [hx1]
          by_cases hx2 : j = 0
          · subst hx2; simp [hx1]
          simp [hx1, hx2, Nat.add_assoc]
      have hfirst : a.spot = none ∧ a.block < w.heap.size := by
        obtain ⟨cs, k1, _⟩ := hcs 0 (by omega); have := k1 0 hpos; rw [Nat.zero_mul, Nat.zero_add] at this; have h4 := cell_some this; simpa [Addr.add] using h4
      intro ρ S h hr; obtain ⟨ρ1, S1, h1', rs, xs, g1, l1, l2, c1, e1, w1⟩ := tells_elems (P := P) a len hcs ρ S h hr
      have hrow := Got.row (te := te) g1.hr (cs := rs) (a := a) hfirst.2 (fun i hi => by
        have := c1 i (by omega)
        rwa [Addr.add_spot hfirst.1] at this)
      have hsl : SlV (h1'.push (.row te rs false false)) [] e (.slice (some ⟨h1'.next, 0, none⟩) (List.length xs) 2) xs := (e1.nx (hrow.aft.nx g1.ok)).slv (by rw [Heap.get_push, if_pos rfl]) (by simp); refine ⟨_, _, _, [.slice (some ⟨h1'.next, 0, none⟩) (List.length xs) 2], xs, g1.trans hrow, ?_, ⟨_, rfl, hsl⟩, by omega, w1⟩; rw [l2]; refine LR.one (.slice h1'.next 0 len 2 cap a hlc (fun h => by cases h) (fun h5 => by have := g1.hr.pos; omega) fun _ => ⟨.inr rfl, ?_, fun h => by cases h⟩); simp only [if_true, Loc.at, Nat.add_zero]; obtain ⟨b, o, s⟩ := a; simp only at hfirst; rw [hfirst.1]
    · rename_i fs a b hu; obtain ⟨h1, h2⟩ := band hb; obtain ⟨xs, m, _, _, hl, hsz, hall⟩ := DataW.trod_struct hu hx
      have hcl : cs.length = (Ty.pair a b).size := by rw [hl, nbeq h1]
      have := tells_fields ih fs.toList 0 (.pair a b) cs m h2 (by omega) (fun f hf => by
        obtain ⟨i, hi, rfl⟩ := List.getElem_of_mem hf
        have hi' : i < fs.size := by simpa using hi
        have := hall i fs[i] (by simp [hi']); rw [List.getElem?_eq_getElem (by omega)] at this
        exact ⟨_, by simpa using this⟩)
      simpa using this
    · rename_i m e a b hu; obtain ⟨h1, h2⟩ := band hb; obtain ⟨xs, m', _, _, hl, hsz, hall⟩ := DataW.trod_array hu hx
      have hcl : cs.length = (Ty.pair a b).size := by rw [hl, nbeq h1]
      have := tells_fields ih (arrFs P m e) 0 (.pair a b) cs m' h2 (by omega) (fun f hf => by
        obtain ⟨i, hi, rfl⟩ := List.mem_map.1 hf; have hi' : i < m := List.mem_range.1 hi; have := hall i hi'; rw [List.getElem?_eq_getElem (by omega)] at this
        exact ⟨_, this⟩)
      simpa using this
    cases hb
theorem okWide_agg {n : Nat} {r : Reach} {b0 : Nat} {t : TypeId} {τ : Ty} {v : Value} (hb : tyB P n t τ = true) (hval : Value.okWide P w r b0 t v) : isAggV v = τ.agg := by
  cases n with
  | zero => cases hb
  | succ n =>
    unfold tyB at hb; unfold Value.okWide at hval; split at hb
    · rename_i k k' hu; rw [hu] at hval; simp only [Cell.okWide, hu, Cell.ok] at hval; cases v <;> simp_all [isAggV, Ty.agg]
    · rename_i hu; rw [hu] at hval; simp only [Cell.okWide, hu, Cell.ok] at hval; cases v <;> simp_all [isAggV, Ty.agg]
    · rename_i hu; rw [hu] at hval; simp only [Cell.okWide, hu, Cell.ok] at hval; cases v <;> simp_all [isAggV, Ty.agg]
    · rename_i k k' hu; rw [hu] at hval; simp only [Cell.okWide, hu, Cell.ok] at hval; cases v <;> simp_all [isAggV, Ty.agg]
    · rename_i te e hu; rw [hu] at hval; simp only [Cell.okWide, hu, Cell.ok] at hval; cases v <;> simp_all [isAggV, Ty.agg]
    · rename_i fs a b hu; rw [hu] at hval; obtain ⟨cs, rfl, _⟩ := hval; rfl
    · rename_i m e a b hu; rw [hu] at hval; obtain ⟨cs, rfl, _⟩ := hval; rfl
    cases hb
theorem tell_arg {ρ : Ren} {S : Nat → Prop} {h : Heap} (hr : HR P ρ S w.heap.size (wz w) h w) {n : Nat} {r : Reach} {b0 : Nat} {t : TypeId} {τ : Ty} {v : Value} {d : DataW H} {ps : List MemPlace} (hb : tyB P n t τ = true) (hval : Value.okWide P w r b0 t v) (hd : DataW.Trod enc P w base sp held t v d ps) :
    ∃ ρ' S' h' v' x, Got P w ρ S h ρ' S' h' ∧ VR ρ' S' v' v ∧ RepV h' [] τ v' x ∧ Wf τ x := by
  have hag := okWide_agg hb hval; obtain ⟨fuel, hf⟩ := hd; obtain ⟨ρ', S', h', cs', x, g, lr, rc, wf⟩ := tells n t τ hb fuel _ _ hf ρ S h hr
  cases hτ : τ.agg with
  | true =>
    rw [hτ] at hag
    cases v with
    | agg cs =>
      refine ⟨ρ', S', h', .agg cs'.toArray, x, g, VR.agg' (by simpa [Value.cells] using lr), ⟨hτ.symm, by simpa [Value.cells] using rc⟩, wf⟩
    | _ => cases hag
  | false =>
    rw [hτ] at hag; rw [cells_one hag] at lr; obtain ⟨u, rfl, hu⟩ := rc.one hτ; have := lr.2 0 (by simp); exact ⟨ρ', S', h', u, x, g, by simpa using this, hu, wf⟩
section
open Go.WideElems Go.ChangeShapes
theorem trodAll_below (hl : laidOutB P = true) {W W' : World} (hb : Below W.heap.size W W') : ∀ {ts : List TypeId} {vs : List Value} {ds : List (DataW H)} {ps : List MemPlace}, (ts.all fun t => P.readableRec t && decide (t < P.types.size)) = true →
    DataW.TrodAll enc P W 0 (fun _ => true) true ts vs ds ps → (∀ x ∈ ps, x.block < W.heap.size) → DataW.TrodAll enc P W' 0 (fun b => decide (b < W.heap.size)) true ts vs ds ps
  | [], [], [], _, _, h, _ => h
  | [], _ :: _, _, _, _, h, _ => h.elim
  | [], [], _ :: _, _, _, h, _ => h.elim
  | _ :: _, [], _, _, _, h, _ => h.elim
  | _ :: _, _ :: _, [], _, _, h, _ => h.elim
  | t :: ts, v :: vs, d :: ds, ps, ha, h, hp => by
    obtain ⟨p, q, h1, h2, rfl⟩ := h; simp only [List.all_cons, Bool.and_eq_true, decide_eq_true_eq] at ha; exact ⟨p, q, Go.RowKit.Below.trod hl ha.1.1 ha.1.2 h1 hb (fun x hx => hp x (List.mem_append_left _ hx)), trodAll_below hl hb (by simpa using ha.2) h2 (fun x hx => hp x (List.mem_append_right _ hx)), rfl⟩
theorem law_post {f : Func} {s : ChangeSpec} {tb : TypeId} (hl : laidOutB P = true) (hrd : (f.params.toList.all fun t => P.readableRec t && decide (t < P.types.size)) = true) (hres : f.resultTypes = #[tb]) (htb : P.underlying tb = some .bool) (hvars : s.vars = []) {W W' : World} {args : Array Value} {ds gs : List (DataW H)}
    {before : List MemPlace} (hW : DataW.Whole enc P f.params.toList s.vars false W args.toList ds gs before) (hr : (s.fn H (ds ++ gs)).results = [.lit (.bool true)]) (ha : (s.fn H (ds ++ gs)).args = ds) (hv : (s.fn H (ds ++ gs)).vars = []) (hb : Below W.heap.size W W') :
    s.post enc P f false true false false W args (.bool true) W' := by
  have hlt := hW.lt; have hW' := hW; obtain ⟨p, q, hA, hV, rfl, _, _⟩ := hW; rw [hvars] at hV; have hV' : gs = [] ∧ q = [] := trodVars_none hV; obtain ⟨rfl, rfl⟩ := hV'; refine ⟨ds, [], p ++ [], [], p, [], hW', ?_, ?_, ?_, hb.frame _, fun h => by cases h⟩
  · rw [hr, hres]; exact trodAll_mk1 (Go.RowKit.shut_bool htb _)
  · rw [ha]; exact trodAll_below hl hb hrd hA fun x hx => hlt x (List.mem_append_left _ hx)
  rw [hvars, hv]; exact rfl
end
theorem law_calls2 (hP : ProgOk P) {orc : FuncId → List Value → Heap → Option (Value × Heap)} {W : World} (horc : CallSound P W.heap.size (wz W) orc) {ρz : Ren} {Sz : Nat → Prop} {hz : Heap} (hrz : HR P ρz Sz W.heap.size (wz W) hz W) (hGz : GT hz []) {f : FuncId} (hen : Enters P f) {fn : Func} {n : Nat} {t0 t1 : TypeId} {τ0 τ1 : Ty} (hp : fn.params = #[t0, t1]) (hb0 : tyB P n t0 τ0 = true) (hb1 : tyB P n t1 τ1 = true)
    (hE : ∀ (h : Heap) (v0 v1 : Value) (x0 : τ0.den) (x1 : τ1.den), HOkG h → RepV h [] τ0 v0 x0 → RepV h [] τ1 v1 x1 → Wf τ0 x0 → Wf τ1 x1 → EvF P orc f [v0, v1] h fun r h' => r = .bool true ∧ h' = h)
    {args : Array Value} {ds : List (DataW H)} {ps : List MemPlace} (hval : ∀ (j : Nat) t v, fn.params[j]? = some t → args[j]? = some v → Value.okWide P W .any base t v) (hA : DataW.TrodAll enc P W 0 sp held fn.params.toList args.toList ds ps) :
    Calls P f args W fun | .returned v', w' => v' = .bool true ∧ Below W.heap.size W w' | _, _ => False := by
  rw [hp] at hA hval; obtain ⟨v0, vs0, d0, ds0, p0, q0, ha, rfl, rfl, k0, r0⟩ := Go.ChangeShapes.trodAll_cons hA; obtain ⟨v1, vs1, d1, ds1, p1, q1, rfl, rfl, rfl, k1, r1⟩ := Go.ChangeShapes.trodAll_cons r0; obtain ⟨rfl, rfl, rfl⟩ := Go.ChangeShapes.trodAll_nil r1
  obtain rfl : args = #[v0, v1] := by cases args; simp_all
  obtain ⟨ρ0, S0, h0, u0, x0, g0, c0, e0, w0⟩ := tell_arg hrz hb0 (hval 0 t0 v0 rfl rfl) k0; obtain ⟨ρ1, S1, h1, u1, x1, g1, c1, e1, w1⟩ := tell_arg g0.hr hb1 (hval 1 t1 v1 rfl rfl) k1; have hR := hE h1 u0 u1 x0 x1 ⟨g1.ok, (hGz.nx (g0.aft.nx (hok_of hrz))).nx (g1.aft.nx g0.ok)⟩ (e0.nx (g1.aft.nx g0.ok)) e1 w0 w1; refine (fs_open (args' := [v0, v1]) hP horc hen g1.hr (LR.cons (c0.mono g1.agree) (LR.one c1)) (EvF.mono hR fun v h' h => h.1) rfl).mono fun e w' he => ?_
  cases e with
  | returned v => exact ⟨he.1, below_z he.2⟩
  | panicked c => exact he
  | outgrown => exact he
end Go.Fs
namespace Go.Proofs
open Go.Fs
set_option maxHeartbeats 1000000
theorem wfL {e : Ty} {xs : List e.den} (h : Wf (.sl e) xs) : xs.length ≤ 9223372036854775807 := Nat.le_trans h.1 (by decide)
theorem lInts_ok {l : List Int} (hl : l.length < 1000000) : VF Tryz.prog OA 41 [.v y41 l] (.v y41 l) := by
  refine VF.enter Tryz.func41 rfl (fun _ _ => rfl) rfl ?_; show VC _ _ _ _ _ [(0, .v y41 l)] [] _; refine VC.seq (VC.text ?_); refine VO.c (.assign rfl) ?_; refine VO.go (VC.seq (VC.text ?_)); refine VO.cell (.lit0 el41) ?_; intro ww1; refine VO.c (.move rfl) ?_; refine VO.app rfl rfl el41 el41 (by simp; omega) ?_; intro ww2; refine VO.c (.assign rfl) (VO.go ?_); refine VC.ret ?_; exact VEnd.one rfl (evC (.row m0)) (pvE (by rfl))
end Go.Proofs
namespace Go.Proofs
open Go.Fs
set_option maxHeartbeats 1000000
abbrev y22 : Ty := (.sl (.pair .str (.pair (.int .i64) (.pair (.int .i64) (.sl (.int .i64))))))
abbrev y28 : Ty := (.sl (.pair .str (.pair (.int .i64) (.pair (.int .i64) (.sl (.int .i64))))))
abbrev y73 : Ty := (.pair .str (.pair (.int .i64) (.pair (.int .i64) (.sl (.int .i64)))))
abbrev y79 : Ty := (.pair .str (.pair (.int .i64) (.pair (.int .i64) (.sl (.int .i64)))))
theorem vt9 : ValT Tryz.prog 9 .str := valT_of (by kernel_rfl)
theorem vt73 : ValT Tryz.prog 73 y73 := valT_of (by kernel_rfl)
theorem vt79 : ValT Tryz.prog 79 y79 := valT_of (by kernel_rfl)
theorem el22 : ElT Tryz.prog 22 73 y73 := elT_of (by kernel_rfl)
theorem el28 : ElT Tryz.prog 28 79 y79 := elT_of (by kernel_rfl)
theorem zt4 : ZerT Tryz.prog 4 .bool := zerT_of (z := .bool false) (by kernel_rfl) rfl rfl
theorem zt73 : ZerT Tryz.prog 73 y73 := zerT_of (z := .agg #[.string ByteArray.empty, .int .i64 0, .int .i64 0, .slice none 0 0]) (by kernel_rfl) rfl rfl
theorem zt79 : ZerT Tryz.prog 79 y79 := zerT_of (z := .agg #[.string ByteArray.empty, .int .i64 0, .int .i64 0, .slice none 0 0]) (by kernel_rfl) rfl rfl
theorem mt148 : MapT Tryz.prog 148 .str .bool := ⟨9, 4, by kernel_rfl, keyStr (by kernel_rfl), zt4⟩
def firstR (f : Nat → Int) (i n : Nat) : Int := firstE ((List.range' i (n - i)).map f)
theorem firstR_step {f : Nat → Int} {i n : Nat} (h : i < n) : firstR f i n = if f i = 0 then firstR f (i + 1) n else f i := by
  unfold firstR; rw [show n - i = (n - (i + 1)) + 1 by omega, List.range'_succ]; rfl
theorem firstR_end {f : Nat → Int} {i n : Nat} (h : n ≤ i) : firstR f i n = 0 := by
  unfold firstR; rw [show n - i = 0 by omega] <;> rfl
theorem firstR_zero {f : Nat → Int} {n : Nat} : firstR f 0 n = 0 ↔ ∀ i, i < n → f i = 0 := by
  unfold firstR; rw [firstE_zero, Nat.sub_zero]; constructor
  · intro h i hi; exact h _ (List.mem_map_of_mem (List.mem_range'_1.2 ⟨Nat.zero_le _, by omega⟩))
  intro h x hx; obtain ⟨i, hi, rfl⟩ := List.mem_map.1 hx; exact h i (by have := List.mem_range'_1.1 hi; omega)
theorem mget_mset {α β : Type} [DecidableEq α] : ∀ (m : List (α × β)) (x z : α) (y : β), mget (mset m x y) z = if z = x then some y else mget m z
  | [], x, z, y => by simp [mset, mget]
  | (a, b) :: r, x, z, y => by
    by_cases h : x = a
    · subst h; simp only [mset, if_pos, mget]; by_cases h2 : z = x <;> simp [h2]
    simp only [mset, if_neg h, mget, mget_mset r x z y]; by_cases h2 : z = a
    · subst h2; have : ¬ z = x := fun e => h e.symm; simp [this]
    simp [h2]
abbrev Pha := ByteArray × Int × Int × List Int
def phA (l : List Pha) (i : Nat) : Pha := l.getD i (ByteArray.empty, 0, 0, [])
theorem phA_eq {l : List Pha} {i : Nat} (h : i < l.length) : phA l i = l[i] := by simp [phA, h]
def lastB (b : List Int) : Nat → Int
  | 0 => -1
  | k + 1 => b.getD k 0
def befA (i : Nat) (b : List Int) (k : Nat) : Int := firstE [whenE (decide (b.getD k 0 < 0) || decide (((i : Nat) : Int) ≤ b.getD k 0)) 10, whenE (decide (b.getD k 0 ≤ lastB b k)) 11]
def befE (i : Nat) (b : List Int) : Int := firstR (befA i b) 0 b.length
def twiB (l : List Pha) (i : Nat) (s : ByteArray) : Bool := (l.take i).any fun x => decide (x.1 = s)
def headP (l : List Pha) (i : Nat) : List Int := [whenE (!nameB (phA l i).1) 8, whenE (twiB l i (phA l i).1) 9, rangeE (phA l i).2.1 0 1000, rangeE (phA l i).2.2.1 0 1000, whenE (decide ((phA l i).2.2.1 < (phA l i).2.1)) 11]
def phaE (l : List Pha) (i : Nat) : Int := firstE (headP l i ++ [befE i (phA l i).2.2.2])
def planE (l : List Pha) : Int := if 16 < ((l.length : Nat) : Int) then 5 else firstR (phaE l) 0 l.length
theorem plan_row {l : List Pha} {i : Nat} (hl : ¬ 16 < ((l.length : Nat) : Int)) (hw : firstR (phaE l) 0 l.length = firstR (phaE l) i l.length) (hi : i < l.length) (hz : phaE l i ≠ 0) : planE l = phaE l i := by
  rw [planE, if_neg hl, hw, firstR_step hi, if_neg hz]
theorem pha_h {l : List Pha} {i : Nat} (h : firstE (headP l i) ≠ 0) : phaE l i = firstE (headP l i) := by
  unfold phaE; rw [firstE_app, if_neg h]
theorem pha_b {l : List Pha} {i : Nat} (h : firstE (headP l i) = 0) : phaE l i = befE i (phA l i).2.2.2 := by
  unfold phaE; rw [firstE_app, if_pos h]
theorem bef_at {i : Nat} {b : List Int} {k : Nat} (hw : befE i b = firstR (befA i b) k b.length) (hk : k < b.length) (hz : befA i b k ≠ 0) : befE i b = befA i b k := by
  rw [hw, firstR_step hk, if_neg hz]
def namM (l : List Pha) : Nat → List (ByteArray × Bool)
  | 0 => []
  | i + 1 => mset (namM l i) (phA l i).1 true
theorem namM_has {l : List Pha} {s : ByteArray} : ∀ i, i ≤ l.length → (mget (namM l i) s).getD false = twiB l i s
  | 0, _ => by simp [namM, mget, twiB]
  | i + 1, h => by
    have hlt : i < l.length := by omega
    have ih := namM_has (l := l) (s := s) i (by omega); unfold twiB at ih ⊢; rw [namM, mget_mset, List.take_succ_eq_append_getElem hlt, phA_eq hlt, List.any_append]; by_cases hs : s = l[i].1
    · rw [if_pos hs, hs]; simp
    rw [if_neg hs, ih]; simp only [List.any_cons, List.any_nil, Bool.or_false]; rw [decide_eq_false (fun e => hs e.symm), Bool.or_false]
theorem head_m {l : List Pha} {i : Nat} (h : i < l.length) : [whenE (!nameB l[i].1) 8, whenE ((mget (namM l i) l[i].1).getD false) 9, rangeE l[i].2.1 0 1000, rangeE l[i].2.2.1 0 1000, whenE (decide (l[i].2.2.1 < l[i].2.1)) 11] = headP l i := by
  unfold headP; rw [phA_eq h, namM_has i (by omega)]
theorem befA_l {i : Nat} {b : List Int} {k : Nat} (h : k < b.length) : firstE [whenE (decide (b[k] < 0) || decide (((i : Nat) : Int) ≤ b[k])) 10, whenE (decide (b[k] ≤ lastB b k)) 11] = befA i b k := by
  unfold befA; rw [getDg h]
theorem lastB_s {b : List Int} {k : Nat} (h : k < b.length) : b[k] = lastB b (k + 1) := (getDg h).symm
theorem cPlan_ok {l : List (ByteArray × Int × Int × (List Int))} (hl : l.length < 100000) (hb : ∀ x ∈ l, x.2.2.2.length < 100000) : VF Tryz.prog OA 35 [.v y28 l] (I (planE l)) := by
  refine VF.enter Tryz.func35 rfl (fun _ _ => rfl) rfl ?_; show VC _ _ _ _ _ [(0, .v y28 l)] [] _; refine VC.seq (VC.text ?_); refine VO.c (.assign rfl) ?_; refine VO.go (VC.seq (VC.seq (VC.text ?_))); refine VO.c (.move rfl) ?_; refine VO.r (.len el28) ?_; refine VO.c (.gtr) (VO.go ?_); refine VC.condD rfl (fun c1 => ?_) (fun c1 => ?_)
  · refine VC.seq (VC.text ?_); refine VO.c (.assign rfl) (VO.go ?_); refine VC.ret ?_; exact VEnd.one rfl evT (pvI (by rw [planE, if_pos c1]))
  refine VC.skip (VC.seq (VC.text ?_)); refine VO.cell (.mkMap .str .bool) ?_; intro ww1; refine VO.c (.assign rfl) ?_; refine VO.go (VC.seq (VC.seq (VC.text ?_))); refine VO.c (.move rfl) ?_; refine VO.r (.len el28) ?_; refine VO.c (.move rfl) ?_; refine VO.go (VC.block ?_); refine VC.keep [(3, .raw ww1), (15, .v y28 l), (16, I ((l.length : Nat) : Int)), (17, I ((0 : Nat) : Int))] ⟨rfl, rfl, rfl, rfl, trivial⟩ ?_; refine VC.loop (I := fun kk ff ss => ∃ (i : Nat), kk = l.length - i ∧ ff = [(3, .raw ww1), (15, .v y28 l), (16, I ((l.length : Nat) : Int)), (17, I ((i : Nat) : Int))] ∧ ss = [(ww1, .mp .str .bool (namM l i))] ∧ (i ≤ l.length) ∧ (firstR (phaE l) 0 l.length = firstR (phaE l) i l.length)) ?_ _ _ _ ⟨0, rfl, rfl, rfl, Nat.zero_le _, (by rfl)⟩; rintro kk ff ss ⟨i, hk0, rfl, rfl, hi, hw⟩; refine VC.seq (VC.text ?_); refine VO.c (.lss) ?_; refine VO.go (VC.seq ?_); refine VC.condD rfl (fun c5 => ?_) (fun c5 => ?_)
  · have hlt : i < l.length := by omega
    have hm := head_m hlt
    have hbl : (phA l i).2.2.2 = l[i].2.2.2 := by rw [phA_eq hlt]
    have hbx := hb _ (List.getElem_mem hlt); refine VC.skip (VC.seq (VC.block (VC.seq (VC.text ?_)))); refine VO.c (.move rfl) (VO.c (.ix (j := i) rfl rfl el28 (by omega)) ?_); refine VO.r (.ld vt79) ?_; refine VO.cell (.alloc zt79) ?_; intro ww2; refine VO.c (.assign rfl) ?_; refine VO.setV (cs' := [St ((l[i]).1), I ((l[i]).2.1), I ((l[i]).2.2.1), .v y41 ((l[i]).2.2.2)]) vt79 .v ?_; refine VO.shut [(5, .p y79 (l[i]))] (.cons rfl (.var m0 .refl) .nil) ?_; refine VO.go (VC.seq (VC.seq (VC.drawn ?_))); refine VD.c (.fa (.l .o)) ?_; refine VD.r [] (.ld vt9) (.inl rfl) ?_; refine VD.call rfl rfl (VF.call (gName_ok )) ?_; refine VD.c (.not) ?_; refine VD.call rfl rfl (VF.call (cWhen_ok )) ?_; refine VD.c (.move rfl) (VD.nw [] (VD.c (.fa (.l .o)) ?_)); refine VD.r [] (.ld vt9) (.inl rfl) ?_; refine VD.r [(ww1, .mp .str .bool (namM l i))] (.lookO mt148 m0) (.inr ⟨rfl, rfl⟩) ?_; refine VD.call rfl rfl (VF.call (cWhen_ok )) ?_; refine VD.c (.fa (.r (.l .o))) ?_; refine VD.r [] (.ld vt3) (.inl rfl) ?_; refine VD.call rfl rfl (VF.call (cWithin_ok )) ?_; refine VD.nw [] (VD.c (.fa (.r (.r (.l .o)))) ?_); refine VD.r [] (.ld vt3) (.inl rfl) ?_; refine VD.call rfl rfl (VF.call (cWithin_ok )) ?_; refine VD.c (.fa (.r (.l .o))) ?_; refine VD.r [] (.ld vt3) (.inl rfl) ?_; refine VD.c (.fa (.r (.r (.l .o)))) ?_; refine VD.r [] (.ld vt3) (.inl rfl) ?_; refine VD.nw [] (VD.c (.gtr) ?_); refine VD.call rfl rfl (VF.call (cWhen_ok )) ?_; refine VD.new (.lit [whenE (!(nameB ((l[i]).1))) (8 : Int), whenE ((mget (namM l i) ((l[i]).1)).getD false) (9 : Int), rangeE ((l[i]).2.1) (0 : Int) (1000 : Int), rangeE ((l[i]).2.2.1) (0 : Int) (1000 : Int), whenE (decide ((l[i]).2.2.1 < (l[i]).2.1)) (11 : Int)] el113) ?_; refine VD.callO rfl rfl (VF.call (cFirst_ok (by simp))) ?_; refine VD.c (.assign rfl) ?_; refine VD.go (VC.seq ?_); refine VC.keep [(3, .raw ww1), (4, I ((i : Nat) : Int)), (5, .p y79 (l[i])), (6, I (firstE [whenE (!(nameB ((l[i]).1))) (8 : Int), whenE ((mget (namM l i) ((l[i]).1)).getD false) (9 : Int), rangeE ((l[i]).2.1) (0 : Int) (1000 : Int), rangeE ((l[i]).2.2.1) (0 : Int) (1000 : Int), whenE (decide ((l[i]).2.2.1 < (l[i]).2.1)) (11 : Int)])), (15, .v y28 l), (16, I ((l.length : Nat) : Int)), (17, I ((i : Nat) : Int))] ⟨rfl, rfl, rfl, rfl, rfl, rfl, rfl, trivial⟩ ?_; refine VC.text ?_; refine VO.c (.move rfl) (VO.c (.neq) (VO.go ?_)); refine VC.condD rfl (fun c8 => ?_) (fun c8 => ?_)
    · refine VC.seq (VC.text ?_); refine VO.c (.move rfl) (VO.c (.assign rfl) (VO.go ?_)); refine VC.ret ?_; exact VEnd.one rfl evT (pvI (by rw [plan_row c1 hw hlt (by rw [pha_h (by rw [← hm]; exact c8), ← hm]; exact c8), pha_h (by rw [← hm]; exact c8), ← hm]))
    have hz : firstE (headP l i) = 0 := by rw [← hm]; exact Classical.not_not.1 c8
    refine VC.skip (VC.seq (VC.text ?_)); refine VO.c (.move rfl) (VO.c (.fa (.l .o)) ?_); refine VO.r (.ld vt9) ?_; refine VO.mput mt148 ?_; refine VO.go (VC.seq (VC.text ?_)); refine VO.c (.assign rfl) ?_; refine VO.go (VC.seq (VC.text ?_)); refine VO.c (.fa (.r (.r (.r .o)))) ?_; refine VO.r (.ld vt41) ?_; refine VO.r (.len el41) ?_; refine VO.c (.move rfl) ?_; refine VO.go (VC.block ?_); refine VC.keep [(3, .raw ww1), (4, I ((i : Nat) : Int)), (7, I (lastB l[i].2.2.2 0)), (15, .v y28 l), (16, I ((l.length : Nat) : Int)), (17, I ((i : Nat) : Int)), (53, .v y41 ((l[i]).2.2.2)), (54, I ((((l[i]).2.2.2).length : Nat) : Int)), (55, I ((0 : Nat) : Int))] ⟨rfl, rfl, rfl, rfl, rfl, rfl, rfl, rfl, rfl, trivial⟩ ?_; refine VC.loop (I := fun kk ff ss => ∃ (k : Nat), kk = l[i].2.2.2.length - k ∧ ff = [(3, .raw ww1), (4, I ((i : Nat) : Int)), (7, I (lastB l[i].2.2.2 k)), (15, .v y28 l), (16, I ((l.length : Nat) : Int)), (17, I ((i : Nat) : Int)), (53, .v y41 ((l[i]).2.2.2)), (54, I ((((l[i]).2.2.2).length : Nat) : Int)), (55, I ((k : Nat) : Int))] ∧ ss = [(ww1, .mp .str .bool (mset (namM l i) ((l[i]).1) true))] ∧ (k ≤ l[i].2.2.2.length) ∧ (befE i (phA l i).2.2.2 = firstR (befA i (phA l i).2.2.2) k (phA l i).2.2.2.length)) ?_ _ _ _ ⟨0, rfl, rfl, rfl, (by omega), (by rfl)⟩; rintro kk ff ss ⟨k, hk2, rfl, rfl, hk, hbw⟩; refine VC.seq (VC.text ?_); refine VO.c (.lss) ?_; refine VO.go (VC.seq ?_); refine VC.condD rfl (fun c13 => ?_) (fun c13 => ?_)
    · have hk2 : k < l[i].2.2.2.length := by omega
      refine VC.skip (VC.seq (VC.block (VC.seq (VC.text ?_)))); refine VO.c (.ix (j := k) rfl rfl el41 (by omega)) ?_; refine VO.r (.ld vt3) ?_; refine VO.c (.assign rfl) ?_; refine VO.go (VC.seq (VC.seq ?_)); refine VC.join [(3, .raw ww1), (4, I ((i : Nat) : Int)), (9, I (((l[i]).2.2.2)[k])), (10, I (befA i (l[i]).2.2.2 k)), (15, .v y28 l), (16, I ((l.length : Nat) : Int)), (17, I ((i : Nat) : Int)), (53, .v y41 ((l[i]).2.2.2)), (54, I ((((l[i]).2.2.2).length : Nat) : Int)), (55, I ((k : Nat) : Int))] [(ww1, .mp .str .bool (mset (namM l i) ((l[i]).1) true))] ?_ ?_
      · skip
        refine VC.text ?_; refine VO.c (.move rfl) (VO.c (.lss) (VO.c (.move rfl) ?_)); refine VO.cg (r := decide (((l[i]).2.2.2)[k] < (0 : Int))) (w := false) [] trivial (fun _ => (.move rfl)) ?_; refine VO.cg (r := decide (((l[i]).2.2.2)[k] < (0 : Int))) (w := false) [] trivial (fun _ => (.move rfl)) ?_; refine VO.cg (r := decide (((l[i]).2.2.2)[k] < (0 : Int))) (w := false) [(62, I (((l[i]).2.2.2)[k])), (63, I ((i : Nat) : Int))] ⟨rfl, rfl, trivial⟩ (fun _ => (.geq)) ?_; refine VO.c (.or) ?_; refine VO.call rfl rfl (VF.call (cWhen_ok )) ?_; refine VO.c (.move rfl) (VO.c (.move rfl) (VO.c (.leq) ?_)); refine VO.call rfl rfl (VF.call (cWhen_ok )) ?_; refine VO.new (.lit [whenE ((decide (((l[i]).2.2.2)[k] < (0 : Int))) || (decide (((i : Nat) : Int) ≤ ((l[i]).2.2.2)[k]))) (10 : Int), whenE (decide (((l[i]).2.2.2)[k] ≤ (lastB l[i].2.2.2 k))) (11 : Int)] el113) ?_; refine VO.call rfl rfl (VF.call (cFirst_ok (by simp))) ?_; refine VO.c (.assign rfl) ?_; refine VO.nil ?_; exact ⟨⟨rfl, rfl, rfl, slI rfl (by exact befA_l hk2), rfl, rfl, rfl, rfl, rfl, rfl, trivial⟩, rfl⟩
      refine VC.seq (VC.text ?_); refine VO.c (.move rfl) (VO.c (.neq) (VO.go ?_)); refine VC.condD rfl (fun c16 => ?_) (fun c16 => ?_)
      · refine VC.seq (VC.text ?_); refine VO.c (.move rfl) (VO.c (.assign rfl) (VO.go ?_)); refine VC.ret ?_; exact VEnd.one rfl evT (pvI (by rw [plan_row c1 hw hlt (by rw [pha_b hz, bef_at hbw (by rw [hbl]; exact hk2) (by rw [hbl]; exact c16), hbl]; exact c16), pha_b hz, bef_at hbw (by rw [hbl]; exact hk2) (by rw [hbl]; exact c16), hbl]))
      refine VC.skip (VC.text ?_); refine VO.c (.move rfl) (VO.c (.assign rfl) ?_); refine VO.nil (VC.text ?_); refine VO.c (.add rfl rfl (by omega)) (VO.c (.move rfl) ?_); refine VO.nil ?_; refine ⟨_, [(3, .raw ww1), (4, I ((i : Nat) : Int)), (7, I (lastB l[i].2.2.2 (k + 1))), (15, .v y28 l), (16, I ((l.length : Nat) : Int)), (17, I ((i : Nat) : Int)), (53, .v y41 ((l[i]).2.2.2)), (54, I ((((l[i]).2.2.2).length : Nat) : Int)), (55, I (((k + 1) : Nat) : Int))], ?_, ⟨rfl, rfl, slI rfl (by exact lastB_s hk2), rfl, rfl, rfl, rfl, rfl, rfl, trivial⟩, (k + 1), rfl, rfl, rfl, (by omega), (by rw [hbw, firstR_step (by rw [hbl]; exact hk2), if_pos (by rw [hbl]; exact Classical.not_not.1 c16)])⟩; omega
    refine VC.exit (VC.text ?_); refine VO.c (.add rfl rfl (by omega)) (VO.c (.move rfl) ?_); refine VO.nil ?_; refine ⟨_, [(3, .raw ww1), (15, .v y28 l), (16, I ((l.length : Nat) : Int)), (17, I (((i + 1) : Nat) : Int))], ?_, ⟨rfl, rfl, rfl, rfl, trivial⟩, (i + 1), rfl, rfl, (by rw [namM, phA_eq hlt]), (by omega), (by rw [hw, firstR_step hlt, if_pos (by rw [pha_b hz, hbw, firstR_end (by rw [hbl]; omega)])])⟩; omega
  refine VC.exit (VC.seq (VC.text ?_)); refine VO.c (.assign rfl) (VO.go ?_); refine VC.ret ?_; exact VEnd.one rfl evT (pvI (by rw [planE, if_neg c1, hw, firstR_end (by omega)]))
theorem twi_f {l : List Pha} {i k : Nat} (hk : k < i) (hi : i < l.length) (h : (l[k]'(by omega)).1 = l[i].1) : twiB l i l[i].1 = true := List.any_eq_true.2 ⟨l[k]'(by omega), List.mem_iff_getElem.2 ⟨k, by rw [List.length_take]; omega, by rw [List.getElem_take]⟩, decide_eq_true h⟩
theorem twi_n {l : List Pha} {i : Nat} (hi : i < l.length) (h : ∀ k (hk : k < l.length), k < i → l[k].1 ≠ l[i].1) : twiB l i l[i].1 = false := by
  cases hb : twiB l i l[i].1 with
  | false => rfl
  | true =>
    obtain ⟨x, hx, he⟩ := List.any_eq_true.1 hb; obtain ⟨k, hk, rfl⟩ := List.mem_iff_getElem.1 hx; rw [List.length_take] at hk; rw [List.getElem_take] at he; exact absurd (of_decide_eq_true he) (h k (by omega) (by omega))
theorem head_1 {l : List Pha} {i : Nat} (hi : i < l.length) (h : whenE (!nameB l[i].1) 8 ≠ 0) : firstE (headP l i) = whenE (!nameB l[i].1) 8 := by
  unfold headP; rw [phA_eq hi]; exact if_neg h
theorem head_2 {l : List Pha} {i : Nat} (hi : i < l.length) (h : whenE (!nameB l[i].1) 8 = 0) (h2 : twiB l i l[i].1 = true) : firstE (headP l i) = 9 := by
  unfold headP; rw [phA_eq hi, h2]; exact (if_pos h).trans (if_neg (by decide))
theorem head_3 {l : List Pha} {i : Nat} (hi : i < l.length) (h : whenE (!nameB l[i].1) 8 = 0) (h2 : twiB l i l[i].1 = false) : firstE (headP l i) = firstE [rangeE l[i].2.1 0 1000, rangeE l[i].2.2.1 0 1000, whenE (decide (l[i].2.2.1 < l[i].2.1)) 11] := by
  unfold headP; rw [phA_eq hi, h2]; exact (if_pos h).trans (if_pos rfl)
theorem bef_u {i : Nat} {b : List Int} {k : Nat} (hk : k < b.length) (h : b[k] < 0 ∨ ((i : Nat) : Int) ≤ b[k]) : befA i b k = 10 := by
  rw [← befA_l hk]; rw [show (decide (b[k] < 0) || decide (((i : Nat) : Int) ≤ b[k])) = true by rcases h with h | h <;> simp [h]]; rfl
theorem bef_k {i : Nat} {b : List Int} {k : Nat} (hk : k < b.length) (h : ¬ b[k] < 0 ∧ ¬ ((i : Nat) : Int) ≤ b[k]) : befA i b k = if b[k] ≤ lastB b k then 11 else 0 := by
  rw [← befA_l hk, decide_eq_false h.1, decide_eq_false h.2]; by_cases h3 : b[k] ≤ lastB b k
  · rw [if_pos h3, decide_eq_true h3] <;> rfl
  rw [if_neg h3, decide_eq_false h3] <;> rfl
theorem plan_bef {l : List Pha} {i m : Nat} (hl : ¬ 16 < ((l.length : Nat) : Int)) (hw : firstR (phaE l) 0 l.length = firstR (phaE l) i l.length) (hi : i < l.length) (hz : firstE (headP l i) = 0) (hbw : befE i (phA l i).2.2.2 = firstR (befA i (phA l i).2.2.2) m (phA l i).2.2.2.length) (hm : m < l[i].2.2.2.length) (hne : befA i l[i].2.2.2 m ≠ 0) : planE l = befA i l[i].2.2.2 m := by
  have hbl : (phA l i).2.2.2 = l[i].2.2.2 := by rw [phA_eq hi]
  have h1 : befE i (phA l i).2.2.2 = befA i l[i].2.2.2 m := by
    rw [hbl] at hbw ⊢; exact bef_at hbw hm hne
  have h2 : phaE l i = befA i l[i].2.2.2 m := by rw [pha_b hz, h1]
  rw [plan_row hl hw hi (by rw [h2]; exact hne), h2]
theorem lastB_p {b : List Int} {m : Nat} (h0 : (0 : Int) < ((m : Nat) : Int)) (h : ((m : Nat) : Int).toNat - 1 < b.length) (hz : ((((m : Nat) : Int) - 1).toNat) < b.length) : b[(((m : Nat) : Int) - 1).toNat] = lastB b m := by
  cases m with
  | zero => simp at h0
  | succ m =>
    show _ = b.getD m 0; rw [getDg (by omega)]; congr 1; omega
theorem rPlan_ok {l : List (ByteArray × Int × Int × (List Int))} (hl : l.length < 100000) (hb : ∀ x ∈ l, x.2.2.2.length < 100000) : VF Tryz.prog OA 10 [.v y22 l] (I (planE l)) := by
  refine VF.enter Tryz.func10 rfl (fun _ _ => rfl) rfl ?_; show VC _ _ _ _ _ [(0, .v y22 l)] [] _; refine VC.seq (VC.text ?_); refine VO.c (.assign rfl) ?_; refine VO.go (VC.seq (VC.seq (VC.text ?_))); refine VO.c (.move rfl) ?_; refine VO.r (.len el22) ?_; refine VO.c (.gtr) (VO.go ?_); refine VC.condD rfl (fun c1 => ?_) (fun c1 => ?_)
  · refine VC.seq (VC.text ?_); refine VO.c (.assign rfl) (VO.go ?_); refine VC.ret ?_; exact VEnd.one rfl evT (pvI (by rw [planE, if_pos c1]))
  refine VC.skip (VC.seq (VC.seq (VC.text ?_))); refine VO.c (.assign rfl) ?_; refine VO.go (VC.block ?_); refine VC.keep [(0, .v y22 l), (3, I ((0 : Nat) : Int))] ⟨rfl, rfl, trivial⟩ ?_; refine VC.loop (I := fun kk ff ss => ∃ (i : Nat), kk = l.length - i ∧ ff = [(0, .v y22 l), (3, I ((i : Nat) : Int))] ∧ ss = [] ∧ (i ≤ l.length) ∧ (firstR (phaE l) 0 l.length = firstR (phaE l) i l.length)) ?_ _ _ _ ⟨0, rfl, rfl, rfl, Nat.zero_le _, (by rfl)⟩; rintro kk ff ss ⟨i, hk0, rfl, rfl, hi, hw⟩; refine VC.seq (VC.seq (VC.text ?_)); refine VO.c (.move rfl) (VO.c (.move rfl) ?_); refine VO.r (.len el22) ?_; refine VO.c (.lss) (VO.go ?_); refine VC.condD rfl (fun c4 => ?_) (fun c4 => ?_)
  · have hlt : i < l.length := by omega
    have hbl : (phA l i).2.2.2 = l[i].2.2.2 := by rw [phA_eq hlt]
    have hbx := hb _ (List.getElem_mem hlt); refine VC.skip (VC.seq (VC.block (VC.seq (VC.text ?_)))); refine VO.c (.move rfl) (VO.c (.move rfl) (VO.c (.ix (j := i) rfl rfl el22 (by omega)) ?_)); refine VO.r (.ld vt73) ?_; refine VO.cell (.alloc zt73) ?_; intro ww3; refine VO.setV (cs' := [St ((l[i]).1), I ((l[i]).2.1), I ((l[i]).2.2.1), .v y41 ((l[i]).2.2.2)]) vt73 .v ?_; refine VO.shut [(4, .p y73 (l[i]))] (.cons rfl (.var m0 .refl) .nil) ?_; refine VO.go (VC.seq (VC.seq (VC.text ?_))); refine VO.c (.fa (.l .o)) ?_; refine VO.r (.ld vt9) ?_; refine VO.call rfl rfl (VF.call (rNameE_ok )) ?_; refine VO.c (.assign rfl) ?_; refine VO.go (VC.seq (VC.text ?_)); refine VO.c (.move rfl) (VO.c (.neq) (VO.go ?_)); refine VC.condD rfl (fun c8 => ?_) (fun c8 => ?_)
    · refine VC.seq (VC.text ?_); refine VO.c (.move rfl) (VO.c (.assign rfl) (VO.go ?_)); refine VC.ret ?_; exact VEnd.one rfl evT (pvI (by rw [plan_row c1 hw hlt (by rw [pha_h (by rw [head_1 hlt c8]; exact c8), head_1 hlt c8]; exact c8), pha_h (by rw [head_1 hlt c8]; exact c8), head_1 hlt c8]))
    have hn := Classical.not_not.1 c8; refine VC.skip (VC.seq (VC.seq (VC.text ?_))); refine VO.c (.assign rfl) ?_; refine VO.go (VC.block ?_); refine VC.keep [(0, .v y22 l), (3, I ((i : Nat) : Int)), (4, .p y73 (l[i])), (6, I ((0 : Nat) : Int))] ⟨rfl, rfl, rfl, rfl, trivial⟩ ?_; refine VC.loop (I := fun kk ff ss => ∃ (k : Nat), kk = i - k ∧ ff = [(0, .v y22 l), (3, I ((i : Nat) : Int)), (4, .p y73 (l[i])), (6, I ((k : Nat) : Int))] ∧ ss = [] ∧ (k ≤ i) ∧ (∀ j (hj : j < l.length), j < k → l[j].1 ≠ l[i].1)) ?_ _ _ _ ⟨0, rfl, rfl, rfl, Nat.zero_le _, (by intro j hj h; omega)⟩; rintro kk ff ss ⟨k, hk2, rfl, rfl, hk, hq⟩; refine VC.seq (VC.seq (VC.text ?_)); refine VO.c (.move rfl) (VO.c (.move rfl) (VO.c (.lss) (VO.go ?_))); refine VC.condD rfl (fun c11 => ?_) (fun c11 => ?_)
    · refine VC.skip (VC.seq (VC.block (VC.seq (VC.drawn ?_)))); refine VD.c (.move rfl) (VD.c (.move rfl) (VD.c (.ix (j := k) rfl rfl el22 (by omega)) (VD.c (.fa (.l .o)) ?_))); refine VD.r [] (.ld vt9) (.inl rfl) ?_; refine VD.c (.fa (.l .o)) (VD.nw [] ?_); refine VD.r [] (.ld vt9) (.inl rfl) ?_; refine VD.c (.seql) (VD.go ?_); refine VC.condD rfl (fun c13 => ?_) (fun c13 => ?_)
      · have h9 := head_2 hlt hn (twi_f (show k < i by omega) hlt c13); refine VC.seq (VC.text ?_); refine VO.c (.assign rfl) (VO.go ?_); refine VC.ret ?_; exact VEnd.one rfl evT (pvI (by rw [plan_row c1 hw hlt (by rw [pha_h (by rw [h9]; decide), h9]; decide), pha_h (by rw [h9]; decide), h9]))
      refine VC.skip (VC.text ?_); refine VO.c (.move rfl) (VO.c (.add rfl rfl (by omega)) (VO.c (.assign rfl) ?_)); refine VO.nil ?_; refine ⟨_, [(0, .v y22 l), (3, I ((i : Nat) : Int)), (4, .p y73 (l[i])), (6, I (((k + 1) : Nat) : Int))], ?_, ⟨rfl, rfl, rfl, rfl, trivial⟩, (k + 1), rfl, rfl, rfl, (by omega), (by intro j hj h; rcases Nat.lt_succ_iff_lt_or_eq.1 h with h | h; exact hq j hj h; subst h; exact c13)⟩; omega
    have h8 := head_3 hlt hn (twi_n hlt fun j hj h => hq j hj (by omega)); refine VC.exit (VC.seq (VC.seq (VC.drawn ?_))); refine VD.c (.fa (.r (.l .o))) ?_; refine VD.r [] (.ld vt3) (.inl rfl) ?_; refine VD.call rfl rfl (VF.call (rCheckRange_ok )) ?_; refine VD.c (.fa (.r (.r (.l .o)))) ?_; refine VD.r [] (.ld vt3) (.inl rfl) ?_; refine VD.call rfl rfl (VF.call (rCheckRange_ok )) ?_; refine VD.nw [] (VD.c (.fa (.r (.l .o))) ?_); refine VD.r [] (.ld vt3) (.inl rfl) ?_; refine VD.c (.fa (.r (.r (.l .o)))) ?_; refine VD.r [] (.ld vt3) (.inl rfl) ?_; refine VD.c (.gtr) ?_; refine VD.call rfl rfl (VF.call (rWhen_ok )) ?_; refine VD.new (.lit [rangeE ((l[i]).2.1) (0 : Int) (1000 : Int), rangeE ((l[i]).2.2.1) (0 : Int) (1000 : Int), whenE (decide ((l[i]).2.2.1 < (l[i]).2.1)) (11 : Int)] el41) ?_; refine VD.nw [53] ?_; refine VD.callO rfl rfl (VF.call (rFirst_ok (by simp))) ?_; refine VD.c (.assign rfl) ?_; refine VD.go (VC.seq (VC.text ?_)); refine VO.c (.move rfl) (VO.c (.neq) (VO.go ?_)); refine VC.condD rfl (fun c16 => ?_) (fun c16 => ?_)
    · refine VC.seq (VC.text ?_); refine VO.c (.move rfl) (VO.c (.assign rfl) (VO.go ?_)); refine VC.ret ?_; exact VEnd.one rfl evT (pvI (by rw [plan_row c1 hw hlt (by rw [pha_h (by rw [h8]; exact c16), h8]; exact c16), pha_h (by rw [h8]; exact c16), h8]))
    have hz : firstE (headP l i) = 0 := by rw [h8]; exact Classical.not_not.1 c16
    refine VC.skip (VC.seq (VC.text ?_)); refine VO.c (.assign rfl) ?_; refine VO.go (VC.block ?_); refine VC.keep [(0, .v y22 l), (3, I ((i : Nat) : Int)), (4, .p y73 (l[i])), (8, I ((0 : Nat) : Int))] ⟨rfl, rfl, rfl, rfl, trivial⟩ ?_; refine VC.loop (I := fun kk ff ss => ∃ (m : Nat), kk = l[i].2.2.2.length - m ∧ ff = [(0, .v y22 l), (3, I ((i : Nat) : Int)), (4, .p y73 (l[i])), (8, I ((m : Nat) : Int))] ∧ ss = [] ∧ (m ≤ l[i].2.2.2.length) ∧ (befE i (phA l i).2.2.2 = firstR (befA i (phA l i).2.2.2) m (phA l i).2.2.2.length)) ?_ _ _ _ ⟨0, rfl, rfl, rfl, (by omega), (by rfl)⟩; rintro kk ff ss ⟨m, hk4, rfl, rfl, hm, hbw⟩; refine VC.seq (VC.seq (VC.text ?_)); refine VO.c (.move rfl) (VO.c (.fa (.r (.r (.r .o)))) ?_); refine VO.r (.ld vt41) ?_; refine VO.r (.len el41) ?_; refine VO.c (.lss) (VO.go ?_); refine VC.condD rfl (fun c19 => ?_) (fun c19 => ?_)
    · have hm2 : m < l[i].2.2.2.length := by omega
      refine VC.skip (VC.seq (VC.block (VC.seq (VC.seq (VC.text ?_))))); refine VO.c (.fa (.r (.r (.r .o)))) ?_; refine VO.r (.ld vt41) ?_; refine VO.c (.move rfl) (VO.c (.ix (j := m) rfl rfl el41 (by omega)) ?_); refine VO.r (.ld vt3) ?_; refine VO.c (.lss) (VO.c (.move rfl) ?_); refine VO.cg (r := decide (((l[i]).2.2.2)[m] < (0 : Int))) (w := false) [] trivial (fun _ => (.fa (.r (.r (.r (k := 0) .o))))) ?_; refine VO.rg (r := decide (((l[i]).2.2.2)[m] < (0 : Int))) (w := false) [(72, .p y41 ((l[i]).2.2.2))] ⟨rfl, trivial⟩ (fun _ => (.ld vt41)) ?_; refine VO.cg (r := decide (((l[i]).2.2.2)[m] < (0 : Int))) (w := false) [] trivial (fun _ => (.move rfl)) ?_; refine VO.cg (r := decide (((l[i]).2.2.2)[m] < (0 : Int))) (w := false) [(73, .v y41 ((l[i]).2.2.2)), (74, I ((m : Nat) : Int))] ⟨rfl, rfl, trivial⟩ (fun hgd => have g21_6 : ¬ (((l[i]).2.2.2)[m] < (0 : Int)) := (by simpa using hgd); (.ixD (j := m) rfl rfl 0 el41 (by omega))) ?_; refine VO.rg (r := decide (((l[i]).2.2.2)[m] < (0 : Int))) (w := false) [(75, .p (.int .i64) (((l[i]).2.2.2).getD m 0))] ⟨rfl, trivial⟩ (fun _ => (.ld vt3)) ?_; refine VO.cg (r := decide (((l[i]).2.2.2)[m] < (0 : Int))) (w := false) [] trivial (fun _ => (.move rfl)) ?_; refine VO.cg (r := decide (((l[i]).2.2.2)[m] < (0 : Int))) (w := false) [(76, I (((l[i]).2.2.2).getD m 0)), (77, I ((i : Nat) : Int))] ⟨rfl, rfl, trivial⟩ (fun _ => (.geq)) ?_; refine VO.c (.or) (VO.go ?_); refine VC.condB rfl (fun c21 => ?_) (fun c21 => ?_)
      · try simp only [Bool.and_eq_true, Bool.or_eq_true, Bool.and_eq_false_iff, Bool.or_eq_false_iff, Bool.not_eq_true', Bool.not_eq_false', decide_eq_true_eq, decide_eq_false_iff_not] at c21
        have hu : (l[i].2.2.2[m] < 0 ∨ ((i : Nat) : Int) ≤ l[i].2.2.2[m]) := by rw [getDg hm2] at c21; exact c21
        refine VC.seq (VC.text ?_); refine VO.c (.assign rfl) (VO.go ?_); refine VC.ret ?_; exact VEnd.one rfl evT (pvI (by rw [plan_bef c1 hw hlt hz hbw hm2 (by rw [bef_u hm2 hu]; decide), bef_u hm2 hu]))
      try simp only [Bool.and_eq_true, Bool.or_eq_true, Bool.and_eq_false_iff, Bool.or_eq_false_iff, Bool.not_eq_true', Bool.not_eq_false', decide_eq_true_eq, decide_eq_false_iff_not] at c21
      have hu : (¬ l[i].2.2.2[m] < 0 ∧ ¬ ((i : Nat) : Int) ≤ l[i].2.2.2[m]) := by rw [getDg hm2] at c21; exact c21
      refine VC.skip (VC.seq ?_); refine VC.join [(0, .v y22 l), (3, I ((i : Nat) : Int)), (4, .p y73 (l[i])), (8, I ((m : Nat) : Int)), (95, B (decide ((l[i]).2.2.2[m] ≤ lastB (l[i]).2.2.2 m)))] [] ?_ ?_
      · skip
        refine VC.drawn ?_; refine VD.c (.move rfl) (VD.c (.gtr) (VD.c (.move rfl) ?_)); refine VD.splitD (x := 82) rfl (fun g23_2 => ?_) (fun g23_2 => ?_)
        · refine VD.c (.fa (.r (.r (.r .o)))) ?_; refine VD.r [] (.ld vt41) (.inl rfl) ?_; refine VD.nw [] (VD.c (.move rfl) (VD.c (.ix (j := m) rfl rfl el41 (by omega)) ?_)); refine VD.r [] (.ld vt3) (.inl rfl) ?_; refine VD.c (.fa (.r (.r (.r .o)))) ?_; refine VD.r [] (.ld vt41) (.inl rfl) ?_; refine VD.c (.move rfl) (VD.c (.sub rfl rfl (by omega)) (VD.nw [] (VD.c (.ixZ (k := (((m : Nat) : Int) - (1 : Int))) rfl rfl el41 (by omega) (by omega)) ?_))); refine VD.r [] (.ld vt3) (.inl rfl) ?_; refine VD.c (.leq) (VD.c (.pickT rfl rfl) ?_); refine VD.nil ?_; exact ⟨⟨rfl, rfl, rfl, rfl, slE rfl (by first | (rw [← lastB_p g23_2 (by omega) (by omega)]) | (have e : m = 0 := (by omega); subst e; exact (decide_eq_false (fun h => hu.1 (by have h : _ ≤ (-1 : Int) := h; omega))).symm)), trivial⟩, rfl⟩
        refine VD.skip (VD.skip (VD.nw [] (VD.skip ?_))); refine VD.skip (VD.skip (VD.skip (VD.skip ?_))); refine VD.skip (VD.skip (VD.nw [] (VD.skip ?_))); refine VD.skip (VD.skip (VD.c (.pickF rfl rfl) ?_)); refine VD.nil ?_; exact ⟨⟨rfl, rfl, rfl, rfl, slE rfl (by first | (rw [← lastB_p g23_2 (by omega) (by omega)]) | (have e : m = 0 := (by omega); subst e; exact (decide_eq_false (fun h => hu.1 (by have h : _ ≤ (-1 : Int) := h; omega))).symm)), trivial⟩, rfl⟩
      refine VC.condB rfl (fun c23 => ?_) (fun c23 => ?_)
      · try simp only [Bool.and_eq_true, Bool.or_eq_true, Bool.and_eq_false_iff, Bool.or_eq_false_iff, Bool.not_eq_true', Bool.not_eq_false', decide_eq_true_eq, decide_eq_false_iff_not] at c23
        refine VC.seq (VC.text ?_); refine VO.c (.assign rfl) (VO.go ?_); refine VC.ret ?_; exact VEnd.one rfl evT (pvI (by rw [plan_bef c1 hw hlt hz hbw hm2 (by rw [bef_k hm2 hu, if_pos c23]; decide), bef_k hm2 hu, if_pos c23]))
      try simp only [Bool.and_eq_true, Bool.or_eq_true, Bool.and_eq_false_iff, Bool.or_eq_false_iff, Bool.not_eq_true', Bool.not_eq_false', decide_eq_true_eq, decide_eq_false_iff_not] at c23
      have hlb : ¬ l[i].2.2.2[m] ≤ lastB l[i].2.2.2 m := c23; refine VC.skip (VC.text ?_); refine VO.c (.move rfl) (VO.c (.add rfl rfl (by omega)) (VO.c (.assign rfl) ?_)); refine VO.nil ?_; refine ⟨_, [(0, .v y22 l), (3, I ((i : Nat) : Int)), (4, .p y73 (l[i])), (8, I (((m + 1) : Nat) : Int))], ?_, ⟨rfl, rfl, rfl, rfl, trivial⟩, (m + 1), rfl, rfl, rfl, (by omega), (by rw [hbw, firstR_step (by rw [hbl]; exact hm2), if_pos (by rw [hbl, bef_k hm2 hu, if_neg hlb])])⟩; omega
    refine VC.exit (VC.text ?_); refine VO.c (.move rfl) (VO.c (.add rfl rfl (by omega)) (VO.c (.assign rfl) ?_)); refine VO.nil ?_; refine ⟨_, [(0, .v y22 l), (3, I (((i + 1) : Nat) : Int))], ?_, ⟨rfl, rfl, trivial⟩, (i + 1), rfl, rfl, rfl, (by omega), (by rw [hw, firstR_step hlt, if_pos (by rw [pha_b hz, hbw, firstR_end (by rw [hbl]; omega)])])⟩; omega
  refine VC.exit (VC.seq (VC.text ?_)); refine VO.c (.assign rfl) (VO.go ?_); refine VC.ret ?_; exact VEnd.one rfl evT (pvI (by rw [planE, if_neg c1, hw, firstR_end (by omega)]))
end Go.Proofs
namespace Go.Proofs
open Go.Fs
set_option maxHeartbeats 1000000
structure PlanOk (l : List Pha) : Prop where
  len : l.length ≤ 16
  dur : ∀ i, i < l.length → 0 ≤ (phA l i).2.1 ∧ (phA l i).2.1 ≤ (phA l i).2.2.1 ∧ (phA l i).2.2.1 ≤ 1000
  bef : ∀ i, i < l.length → ∀ k, k < (phA l i).2.2.2.length → 0 ≤ (phA l i).2.2.2.getD k 0 ∧ (phA l i).2.2.2.getD k 0 < ((i : Nat) : Int) ∧ ∀ j, j < k → (phA l i).2.2.2.getD j 0 < (phA l i).2.2.2.getD k 0
theorem asc_ge {b : List Int} {n : Nat} (h : ∀ k, k < n → 0 ≤ b.getD k 0 ∧ ∀ j, j < k → b.getD j 0 < b.getD k 0) : ∀ k, k < n → ((k : Nat) : Int) ≤ b.getD k 0
  | 0, hk => (h 0 hk).1
  | k + 1, hk => by
    have h1 := asc_ge h k (by omega); have h2 := (h (k + 1) hk).2 k (by omega); omega
theorem PlanOk.blen {l : List Pha} (hp : PlanOk l) {i : Nat} (hi : i < l.length) : (phA l i).2.2.2.length ≤ i := by
  by_cases h0 : (phA l i).2.2.2.length = 0
  · omega
  have h1 := asc_ge (fun k hk => ⟨(hp.bef i hi k hk).1, (hp.bef i hi k hk).2.2⟩) ((phA l i).2.2.2.length - 1) (by omega); have h2 := (hp.bef i hi ((phA l i).2.2.2.length - 1) (by omega)).2.1; omega
theorem befA_ok {i : Nat} {b : List Int} {k : Nat} (h : befA i b k = 0) : 0 ≤ b.getD k 0 ∧ b.getD k 0 < ((i : Nat) : Int) ∧ lastB b k < b.getD k 0 := by
  have h := firstE_zero.1 h; have h1 := (whenE_zero (by decide)).1 (h _ List.mem_cons_self); have h2 := of_decide_eq_false ((whenE_zero (by decide)).1 (h _ (List.mem_cons_of_mem _ List.mem_cons_self))); obtain ⟨h3, h4⟩ := Bool.or_eq_false_iff.1 h1; have h3 := of_decide_eq_false h3; have h4 := of_decide_eq_false h4; omega
theorem asc_of {b : List Int} {k : Nat} (h : ∀ j, j ≤ k → lastB b j < b.getD j 0) : ∀ j, j < k → b.getD j 0 < b.getD k 0 := by
  induction k with
  | zero => intro j hj; omega
  | succ k ih =>
    intro j hj; have h1 : b.getD k 0 < b.getD (k + 1) 0 := h (k + 1) (Nat.le_refl _); by_cases e : j = k
    · subst e; exact h1
    have := ih (fun q hq => h q (by omega)) j (by omega); omega
theorem plan_ok {l : List Pha} (h : planE l = 0) : PlanOk l := by
  unfold planE at h; by_cases hl : 16 < ((l.length : Nat) : Int)
  · rw [if_pos hl] at h; cases h
  rw [if_neg hl] at h; have h := firstR_zero.1 h
  have hp : ∀ i, i < l.length → firstE (headP l i) = 0 ∧ befE i (phA l i).2.2.2 = 0 := fun i hi => by
    have h1 := h i hi; by_cases h2 : firstE (headP l i) = 0
    · rw [pha_b h2] at h1; exact ⟨h2, h1⟩
    rw [pha_h h2] at h1; exact absurd h1 h2
  refine ⟨by omega, fun i hi => ?_, fun i hi k hk => ?_⟩
  · have h1 := firstE_zero.1 (hp i hi).1; have h2 := rangeE_zero.1 (h1 (rangeE (phA l i).2.1 0 1000) (by simp [headP])); have h3 := rangeE_zero.1 (h1 (rangeE (phA l i).2.2.1 0 1000) (by simp [headP])); have h4 := of_decide_eq_false ((whenE_zero (by decide)).1 (h1 (whenE (decide ((phA l i).2.2.1 < (phA l i).2.1)) 11) (by simp [headP]))); omega
  have h1 := firstR_zero.1 (hp i hi).2; have h2 := befA_ok (h1 k hk); exact ⟨h2.1, h2.2.1, asc_of fun j hj => (befA_ok (h1 j (by omega))).2.2⟩
def fillL (A : List Int) (n : Nat) : List Int := A ++ List.replicate (n - A.length) 0
theorem fill_get {A : List Int} {n p : Nat} (h : p < A.length) : (fillL A n).getD p 0 = A.getD p 0 := by
  unfold fillL; rw [List.getD_eq_getElem?_getD, List.getElem?_append_left h, ← List.getD_eq_getElem?_getD]
end Go.Proofs
namespace Go.Proofs
open Go.Fs
set_option maxHeartbeats 1000000
theorem bt79 : BldT Tryz.prog 79 y79 [(0, 1), (1, 1), (2, 1), (3, 1)] := bldT_of zt79 rfl (by kernel_rfl)
theorem lPlan_ok {l : List (ByteArray × Int × Int × (List Int))} (hl : l.length < 100000) (hb : ∀ x ∈ l, x.2.2.2.length < 100000) : VF Tryz.prog OA 8 [.v y22 l] (.v y28 l) := by
  refine VF.enter Tryz.func8 rfl (fun _ _ => rfl) rfl ?_; show VC _ _ _ _ _ [(0, .v y22 l)] [] _; refine VC.seq (VC.text ?_); refine VO.c (.assign rfl) ?_; refine VO.go (VC.seq (VC.text ?_)); refine VO.c (.assign rfl) ?_; refine VO.go (VC.seq (VC.seq (VC.text ?_))); refine VO.c (.move rfl) ?_; refine VO.r (.len el22) ?_; refine VO.c (.move rfl) ?_; refine VO.go (VC.block ?_); refine VC.cell0 79 y79 ?_; refine VC.keep [(3, .raw (.slice none 0 0)), (6, .v y22 l), (7, I ((l.length : Nat) : Int)), (8, I ((0 : Nat) : Int))] ⟨rfl, rfl, rfl, rfl, trivial⟩ ?_; refine VC.loop (I := fun kk ff ss => ∃ (j : Nat) (out : Value), kk = l.length - j ∧ ff = [(3, .raw out), (6, .v y22 l), (7, I ((l.length : Nat) : Int)), (8, I ((j : Nat) : Int))] ∧ ss = [(out, .row 79 y79 (l.take j))] ∧ (j ≤ l.length)) ?_ _ _ _ ⟨0, (.slice none 0 0), rfl, rfl, rfl, Nat.zero_le _⟩; rintro kk ff ss ⟨j, out, hk0, rfl, rfl, hj⟩; refine VC.seq (VC.text ?_); refine VO.c (.lss) ?_; refine VO.go (VC.seq ?_); refine VC.condD rfl (fun c3 => ?_) (fun c3 => ?_)
  · have hbx := hb _ (List.getElem_mem (show j < l.length by omega)); refine VC.skip (VC.seq (VC.block (VC.seq (VC.text ?_)))); refine VO.c (.ix (j := j) rfl rfl el22 (by omega)) ?_; refine VO.r (.ld vt73) ?_; refine VO.cell (.alloc zt73) ?_; intro ww3; refine VO.setV (cs' := [St ((l[j]).1), I ((l[j]).2.1), I ((l[j]).2.2.1), .v y41 ((l[j]).2.2.2)]) vt73 .v ?_; refine VO.shut [(5, .p y73 (l[j]))] (.cons rfl (.var m0 .refl) .nil) ?_; refine VO.go (VC.drawn ?_); refine VD.c (.move rfl) (VD.c (.fa (.l .o)) ?_); refine VD.r [] (.ld vt9) (.inl rfl) ?_; refine VD.c (.fa (.r (.l .o))) ?_; refine VD.r [] (.ld vt3) (.inl rfl) ?_; refine VD.c (.fa (.r (.r (.l .o)))) (VD.nw [] ?_); refine VD.r [] (.ld vt3) (.inl rfl) ?_; refine VD.c (.fa (.r (.r (.r .o)))) ?_; refine VD.r [] (.ld vt41) (.inl rfl) ?_; refine VD.call rfl rfl (VF.call (lInts_ok (by omega))) ?_; refine VD.c (.build ((l[j]).1, (l[j]).2.1, (l[j]).2.2.1, ((l[j]).2.2.2)) bt79) ?_; refine VD.new (.lit [((l[j]).1, (l[j]).2.1, (l[j]).2.2.1, ((l[j]).2.2.2))] el28) ?_; refine VD.mk (MakeV.app el28 el28 rfl rfl (by simp; omega)) ?_; rintro _ _ tl4 ⟨ww4, rfl, rfl⟩; refine VD.nw [24, 23, 22, 21] (VD.c (.assign rfl) ?_); refine VD.nil ?_; refine VC.text ?_; refine VO.c (.add rfl rfl (by omega)) (VO.c (.move rfl) ?_); refine VO.nil ?_; refine ⟨_, [(3, .raw ww4), (6, .v y22 l), (7, I ((l.length : Nat) : Int)), (8, I (((j + 1) : Nat) : Int))], ?_, ⟨rfl, rfl, rfl, rfl, trivial⟩, (j + 1), ww4, rfl, rfl, (by rw [List.take_succ_eq_append_getElem (by omega)]), (by omega)⟩; omega
  refine VC.exit (VC.seq (VC.text ?_)); refine VO.c (.move rfl) (VO.c (.assign rfl) (VO.go ?_)); refine VC.ret ?_; exact VEnd.one rfl (evC (.row m0)) (pvE (by rw [List.take_of_length_le (by omega)]))
theorem rSameI_ok {a : List Int} {b : List Int} (ha : a.length < 1000000) : VF Tryz.prog OA 23 [.v y41 a, .v y41 b] (B (decide (a = b))) := by
  refine VF.enter Tryz.func23 rfl (fun _ _ => rfl) rfl ?_; show VC _ _ _ _ _ [(0, .v y41 a), (1, .v y41 b)] [] _; refine VC.seq (VC.text ?_); refine VO.c (.assign rfl) ?_; refine VO.go (VC.seq (VC.seq (VC.text ?_))); refine VO.c (.move rfl) ?_; refine VO.r (.len el41) ?_; refine VO.c (.move rfl) ?_; refine VO.r (.len el41) ?_; refine VO.c (.neq) (VO.go ?_); refine VC.condD rfl (fun c1 => ?_) (fun c1 => ?_)
  · refine VC.seq (VC.text ?_); refine VO.c (.assign rfl) (VO.go ?_); refine VC.ret ?_; exact VEnd.one rfl evT (pvE (by exact (decide_eq_false fun e => c1 (by rw [e])).symm))
  refine VC.skip (VC.seq (VC.seq (VC.text ?_))); refine VO.c (.assign rfl) ?_; refine VO.go (VC.block ?_); refine VC.keep [(0, .v y41 a), (1, .v y41 b), (5, I ((0 : Nat) : Int))] ⟨rfl, rfl, rfl, trivial⟩ ?_; refine VC.loop (I := fun kk ff ss => ∃ (i : Nat), kk = a.length - i ∧ ff = [(0, .v y41 a), (1, .v y41 b), (5, I ((i : Nat) : Int))] ∧ ss = [] ∧ (i ≤ a.length) ∧ (∀ j (h1 : j < a.length) (h2 : j < b.length), j < i → a[j] = b[j])) ?_ _ _ _ ⟨0, rfl, rfl, rfl, Nat.zero_le _, (by intro j h1 h2 h3; omega)⟩; rintro kk ff ss ⟨i, hk0, rfl, rfl, hi, hq⟩; refine VC.seq (VC.seq (VC.text ?_)); refine VO.c (.move rfl) (VO.c (.move rfl) ?_); refine VO.r (.len el41) ?_; refine VO.c (.lss) (VO.go ?_); refine VC.condD rfl (fun c4 => ?_) (fun c4 => ?_)
  · refine VC.skip (VC.seq (VC.block (VC.seq (VC.drawn ?_)))); refine VD.c (.move rfl) (VD.c (.move rfl) (VD.c (.ix (j := i) rfl rfl el41 (by omega)) ?_)); refine VD.r [] (.ld vt3) (.inl rfl) ?_; refine VD.c (.move rfl) (VD.c (.move rfl) (VD.nw [] (VD.c (.ix (j := i) rfl rfl el41 (by omega)) ?_))); refine VD.r [] (.ld vt3) (.inl rfl) ?_; refine VD.c (.neq) (VD.go ?_); refine VC.condD rfl (fun c6 => ?_) (fun c6 => ?_)
    · refine VC.seq (VC.text ?_); refine VO.c (.assign rfl) (VO.go ?_); refine VC.ret ?_; exact VEnd.one rfl evT (pvE (by exact (decide_eq_false fun e => c6 (by subst e; rfl)).symm))
    refine VC.skip (VC.text ?_); refine VO.c (.move rfl) (VO.c (.add rfl rfl (by omega)) (VO.c (.assign rfl) ?_)); refine VO.nil ?_; refine ⟨_, [(0, .v y41 a), (1, .v y41 b), (5, I (((i + 1) : Nat) : Int))], ?_, ⟨rfl, rfl, rfl, trivial⟩, (i + 1), rfl, rfl, rfl, (by omega), (by intro j h1 h2 h3; rcases Nat.lt_succ_iff_lt_or_eq.1 h3 with h | h; exact hq j h1 h2 h; subst h; simpa using c6)⟩; omega
  refine VC.exit (VC.seq (VC.text ?_)); refine VO.c (.assign rfl) (VO.go ?_); refine VC.ret ?_; exact VEnd.one rfl evT (pvE (by exact (decide_eq_true (List.ext_getElem (by omega) fun j h1 h2 => hq j h1 h2 (by omega))).symm))
def shortP (l : List Pha) : Bool := decide ((∀ x ∈ l, x.1.size ≤ 40 ∧ x.2.2.2.length ≤ 8) ∧ (l.length ≤ 7 ∨ l.length = 17))
theorem rShortP_ok {l : List (ByteArray × Int × Int × (List Int))} (hl : l.length ≤ 9223372036854775807) : VF Tryz.prog OA 6 [.v y22 l] (B (shortP l)) := by
  refine VF.enter Tryz.func6 rfl (fun _ _ => rfl) rfl ?_; show VC _ _ _ _ _ [(0, .v y22 l)] [] _; refine VC.seq (VC.text ?_); refine VO.c (.assign rfl) ?_; refine VO.go (VC.seq (VC.seq (VC.text ?_))); refine VO.c (.assign rfl) ?_; refine VO.go (VC.block ?_); refine VC.keep [(0, .v y22 l), (3, I ((0 : Nat) : Int))] ⟨rfl, rfl, trivial⟩ ?_; refine VC.loop (I := fun kk ff ss => ∃ (i : Nat), kk = l.length - i ∧ ff = [(0, .v y22 l), (3, I ((i : Nat) : Int))] ∧ ss = [] ∧ (i ≤ l.length) ∧ (∀ j (hj : j < l.length), j < i → l[j].1.size ≤ 40 ∧ l[j].2.2.2.length ≤ 8)) ?_ _ _ _ ⟨0, rfl, rfl, rfl, Nat.zero_le _, (by intro j hj h; omega)⟩; rintro kk ff ss ⟨i, hk0, rfl, rfl, hi, hn⟩; refine VC.seq (VC.seq (VC.text ?_)); refine VO.c (.move rfl) (VO.c (.move rfl) ?_); refine VO.r (.len el22) ?_; refine VO.c (.lss) (VO.go ?_); refine VC.condD rfl (fun c2 => ?_) (fun c2 => ?_)
  · have hlt : i < l.length := by omega
    refine VC.skip (VC.seq (VC.block (VC.seq (VC.text ?_)))); refine VO.c (.move rfl) (VO.c (.move rfl) (VO.c (.ix (j := i) rfl rfl el22 (by omega)) (VO.c (.fa (.l .o)) ?_))); refine VO.r (.ld vt9) ?_; refine VO.r (.lenS) ?_; refine VO.c (.gtr) (VO.c (.move rfl) ?_); refine VO.cg (r := decide ((40 : Int) < ((((l[i]).1).size : Nat) : Int))) (w := false) [] trivial (fun _ => (.move rfl)) ?_; refine VO.cg (r := decide ((40 : Int) < ((((l[i]).1).size : Nat) : Int))) (w := false) [] trivial (fun _ => (.move rfl)) ?_; refine VO.cg (r := decide ((40 : Int) < ((((l[i]).1).size : Nat) : Int))) (w := false) [(18, .v y22 l), (19, I ((i : Nat) : Int))] ⟨rfl, rfl, trivial⟩ (fun hgd => have g4_7 : ¬ ((40 : Int) < ((((l[i]).1).size : Nat) : Int)) := (by simpa using hgd); (.ixD (j := i) rfl rfl (ByteArray.empty, 0, 0, []) el22 (by omega))) ?_; refine VO.cg (r := decide ((40 : Int) < ((((l[i]).1).size : Nat) : Int))) (w := false) [(20, .p y73 (l.getD i (ByteArray.empty, 0, 0, [])))] ⟨rfl, trivial⟩ (fun _ => (.fa (.r (.r (.r (k := 0) .o))))) ?_; refine VO.rg (r := decide ((40 : Int) < ((((l[i]).1).size : Nat) : Int))) (w := false) [(21, .p y41 ((l.getD i (ByteArray.empty, 0, 0, [])).2.2.2))] ⟨rfl, trivial⟩ (fun _ => (.ld vt41)) ?_; refine VO.rg (r := decide ((40 : Int) < ((((l[i]).1).size : Nat) : Int))) (w := false) [(22, .v y41 ((l.getD i (ByteArray.empty, 0, 0, [])).2.2.2))] ⟨rfl, trivial⟩ (fun _ => (.len el41)) ?_; refine VO.cg (r := decide ((40 : Int) < ((((l[i]).1).size : Nat) : Int))) (w := false) [(23, I ((((l.getD i (ByteArray.empty, 0, 0, [])).2.2.2).length : Nat) : Int))] ⟨rfl, trivial⟩ (fun _ => (.gtr)) ?_; refine VO.c (.or) (VO.go ?_); refine VC.condB rfl (fun c4 => ?_) (fun c4 => ?_)
    · try simp only [Bool.and_eq_true, Bool.or_eq_true, Bool.and_eq_false_iff, Bool.or_eq_false_iff, Bool.not_eq_true', Bool.not_eq_false', decide_eq_true_eq, decide_eq_false_iff_not] at c4
      rw [getDg hlt] at c4; refine VC.seq (VC.text ?_); refine VO.c (.assign rfl) (VO.go ?_); refine VC.ret ?_; exact VEnd.one rfl evT (pvE (by exact (decide_eq_false fun hh => by have := hh.1 _ (List.getElem_mem hlt); omega).symm))
    try simp only [Bool.and_eq_true, Bool.or_eq_true, Bool.and_eq_false_iff, Bool.or_eq_false_iff, Bool.not_eq_true', Bool.not_eq_false', decide_eq_true_eq, decide_eq_false_iff_not] at c4
    rw [getDg hlt] at c4; refine VC.skip (VC.text ?_); refine VO.c (.move rfl) (VO.c (.add rfl rfl (by omega)) (VO.c (.assign rfl) ?_)); refine VO.nil ?_; refine ⟨_, [(0, .v y22 l), (3, I (((i + 1) : Nat) : Int))], ?_, ⟨rfl, rfl, trivial⟩, (i + 1), rfl, rfl, rfl, (by omega), (by intro j hj h; rcases Nat.lt_succ_iff_lt_or_eq.1 h with h | h; exact hn j hj h; subst h; omega)⟩; omega
  refine VC.exit (VC.seq (VC.text ?_)); refine VO.c (.move rfl) ?_; refine VO.r (.len el22) ?_; refine VO.c (.leq) (VO.c (.move rfl) ?_); refine VO.cg (r := decide (((l.length : Nat) : Int) ≤ (7 : Int))) (w := false) [] trivial (fun _ => (.move rfl)) ?_; refine VO.rg (r := decide (((l.length : Nat) : Int) ≤ (7 : Int))) (w := false) [(30, .v y22 l)] ⟨rfl, trivial⟩ (fun _ => (.len el22)) ?_; refine VO.cg (r := decide (((l.length : Nat) : Int) ≤ (7 : Int))) (w := false) [(31, I ((l.length : Nat) : Int))] ⟨rfl, trivial⟩ (fun _ => (.eql)) ?_; refine VO.c (.or) (VO.c (.assign rfl) (VO.go ?_)); refine VC.ret ?_; exact VEnd.one rfl evT (pvE (by rw [shortP, ← Bool.decide_or]; refine decide_eq_decide.2 ⟨fun hh => ⟨fun x hx => ?_, by omega⟩, fun hh => by omega⟩; obtain ⟨j, hj, rfl⟩ := List.getElem_of_mem hx; exact hn j hj (by omega)))
end Go.Proofs
namespace Go.Fs
variable {P : Program} {orc : FuncId → List Value → Heap → Option (Value × Heap)} {rnd : Option Nat} {h h' h0 h1 h2 hs : Heap} {S S' S0 B G : List Nat} {σ σ' : Sto} {t t' : Tr} {ms : List Nat} {fl : VL} {ops : Array Oper} {n i mem : Nat} {l : List Oper} {K : VL → Sto → Prop} {Q : Ex → VL → Sto → Prop}
  {d d1 d2 : Tmp} {ty ty1 ty2 : TypeId} {pos pos1 pos2 : String} {after after1 after2 : Array Edge} {op : Op} {v v1 : PV} {g g1 g2 : Option (Nat × Bool)} {bs nw : List Nat} {segs : List (Nat × Nat × Nat)} {tail so : Bool}
section
variable (P orc)
end
end Go.Fs
namespace Go.Fs
variable {P : Program} {orc : FuncId → List Value → Heap → Option (Value × Heap)} {rnd : Option Nat} {h h' h0 h1 h2 : Heap} {S S' S0 B G : List Nat} {σ σ' : Sto} {t t' : Tr} {ms : List Nat} {fl : VL} {ops : Array Oper} {n i mem : Nat} {l : List Oper} {K : VL → Sto → Prop} {Q : Ex → VL → Sto → Prop}
  {d : Tmp} {ty : TypeId} {pos : String} {after : Array Edge} {op : Op} {v pv : PV} {g : Option (Nat × Bool)} {bs nw : List Nat} {segs : List (Nat × Nat × Nat)} {so : Bool}
end Go.Fs
namespace Go.Fs
variable {P : Program} {orc : FuncId → List Value → Heap → Option (Value × Heap)} {rnd : Option Nat} {h h' h0 h1 h2 : Heap} {S S' S0 B G : List Nat} {σ σ' σr : Sto} {t t' : Tr} {ms : List Nat} {fl : VL} {ops : Array Oper} {n i mem : Nat} {l : List Oper} {K : VL → Sto → Prop} {Q : Ex → VL → Sto → Prop}
  {d : Tmp} {ty : TypeId} {pos : String} {after : Array Edge} {op : Op} {v pv : PV} {g : Option (Nat × Bool)} {x y z : Operand} {T T' e e' : TypeId} {τ τ' : Ty} {w w' : Value} {c c' : Cell}
end Go.Fs
namespace Go.Fs
variable {P : Program} {orc : FuncId → List Value → Heap → Option (Value × Heap)} {rnd : Option Nat} {h h' h0 h1 h2 : Heap} {S S' S0 B G : List Nat} {σ σ' σr : Sto} {t t' : Tr} {ms : List Nat} {fl : VL} {ops : Array Oper} {n i mem : Nat} {l : List Oper} {K : VL → Sto → Prop} {Q : Ex → VL → Sto → Prop}
  {d : Tmp} {ty : TypeId} {pos : String} {after : Array Edge} {op : Op} {v pv : PV} {g : Option (Nat × Bool)} {x y z : Operand} {T T' e : TypeId} {τ τ' : Ty} {bs nw : List Nat} {segs : List (Nat × Nat × Nat)} {tail so : Bool} {w w' : Value} {c c' : Cell}
end Go.Fs
namespace Go.Fs
variable {P : Program} {orc : FuncId → List Value → Heap → Option (Value × Heap)} {rnd : Option Nat} {h h' h0 h1 h2 : Heap} {S S' S0 G : List Nat} {σ σ' σr γ γ' : Sto} {t t' : Tr} {ms : List Nat} {fl nw : VL} {ops : Array Oper} {n i mem : Nat} {l : List Oper} {K : VL → Sto → Prop} {Q : Ex → VL → Sto → Prop}
  {d : Tmp} {ty : TypeId} {pos : String} {after : Array Edge} {op : Op} {v pv : PV} {g : Option (Nat × Bool)} {bs nw0 : List Nat} {tail so : Bool} {x y z : Operand} {T T' e : TypeId} {τ τ' : Ty} {w w' : Value}
end Go.Fs
namespace Go.Fs
variable {P : Program} {orc : FuncId → List Value → Heap → Option (Value × Heap)} {rnd : Option Nat} {h h' h0 h1 h2 : Heap} {S S' S0 G : List Nat} {σ σ' σr γ γ' : Sto} {t t' : Tr} {ms : List Nat} {fl nw : VL} {ops : Array Oper} {n i mem : Nat} {l : List Oper} {K : VL → Sto → Prop} {Q : Ex → VL → Sto → Prop}
  {d : Tmp} {ty : TypeId} {pos : String} {after : Array Edge} {op : Op} {v pv : PV} {g : Option (Nat × Bool)} {bs nw0 : List Nat} {tail so : Bool} {x y z : Operand} {T T' e : TypeId} {τ τ' : Ty} {w w' : Value}
end Go.Fs
namespace Go.Fs
variable {P : Program} {orc : FuncId → List Value → Heap → Option (Value × Heap)} {rnd : Option Nat} {h h' h0 h1 h2 : Heap} {S S' S0 S1 S2 B G : List Nat} {σ σ' σr γ : Sto} {t t' : Tr} {ms : List Nat} {fl : VL} {ops : Array Oper} {n i mem : Nat} {l : List Oper} {K : VL → Sto → Prop} {Q : Ex → VL → Sto → Prop}
  {d : Tmp} {ty : TypeId} {pos : String} {after : Array Edge} {op : Op} {v pv : PV} {g : Option (Nat × Bool)} {x y z : Operand} {T T' e e' e2 : TypeId} {τ τ' : Ty} {w w' : Value} {c c' : Cell}
theorem raws_rep : ∀ {us : List Value}, RepL h S (us.map .raw) us
  | [] => rfl
  | u :: us => ⟨u, us, rfl, rfl, raws_rep⟩
theorem raws_eq : ∀ {us rs : List Value}, RepL h S (us.map .raw) rs → rs = us
  | [], rs, hr => hr
  | u :: us, rs, ⟨v, r, h1, h2, h3⟩ => by
    subst h1; rw [show v = u from h2, raws_eq h3]
end Go.Fs
