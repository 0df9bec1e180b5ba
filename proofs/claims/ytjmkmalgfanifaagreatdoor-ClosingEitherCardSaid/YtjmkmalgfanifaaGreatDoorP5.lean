/- Parts of the proof: an evaluator of the model, what it is sound for, and contracts of functions. No condition. -/
import Derived.Test.YtjmkmalgfanifaaGreatDoorP4
import Derived.Test.YtjmkmalgfanifaaGreatDoorP3
import Derived.Laws.Strings
import Derived.Test.YtjmkmalgfanifaaGreatDoorP2
import Ieee.Arith
import Derived.Sort.AssemblyPlain
import Derived.Shelf.SlSortCmp.InsertionK
import Derived.Sort.OwnSorted
import Derived.Test.YtjmkmalgfanifaaGreatDoorChecked
import Derived.ChangeArms
import Derived.Carry
import Derived.RowKit
import Derived.OpenShut
set_option linter.all false
namespace Go.Fs
variable {P : Program} {orc : FuncId → List Value → Heap → Option (Value × Heap)} {h : Heap} {σ : Sto} {fl : VL} {n i mem : Nat} {l : List Oper} {K : VL → Sto → Prop} {ops : Array Oper} {bs nw0 : List Nat} {tail so : Bool}
theorem VD.nw (nw1 : List Nat) (hk : VD P orc ops n l i fl nw1 σ so bs mem tail K) (he : nw0 = nw1 := by rfl) : VD P orc ops n l i fl nw0 σ so bs mem tail K := he ▸ hk
theorem VF.oracle {f : FuncId} {τ : Ty} {dv : τ.den} {v : Value} (ho : ∀ h : Heap, orc f [] h = some (v, h)) (hv : ∀ (h : Heap) (S : List Nat), RepPV h S (.v τ dv) v) : VF P orc f [] (.v τ dv) := fun h S us hok hS hr => by
  obtain rfl : us = [] := by
    cases us with
    | nil => rfl
    | cons a r => cases hr
  exact EvF.oracle (ho h) ⟨Aft.refl _ _, hv h S, fun _ => rfl⟩
end Go.Fs
namespace Go.Fs
variable {P : Program} {h : Heap} {S : List Nat}
def eqF (E : Ty → TypeId → Bool) : List Field → Nat → Ty → Bool
  | [], _, .unit => true
  | f :: r, o, .pair a b => (!(f.name == "_") && Nat.beq f.offset o && E a f.type && eqF E r (o + a.size) b) || (r.isEmpty && !(f.name == "_") && Nat.beq f.offset o && E (.pair a b) f.type)
  | [f], o, τ => !(f.name == "_") && Nat.beq f.offset o && E τ f.type
  | _, _, _ => false
def eqV (P : Program) : Nat → Ty → TypeId → Bool
  | 0, _, _ => false
  | d + 1, τ, T => valB P T τ && match P.underlying T, τ with
    | some (.int k), .int k' => k == k'
    | some .bool, .bool => true
    | some .string, .str => true
    | some (.struct fs), .pair a b => !P.stoodInHeld T && eqF (eqV P d) fs.toList 0 (.pair a b)
    | _, _ => false
structure EqT (P : Program) (T : TypeId) (τ : Ty) : Prop where
  eq : eqV P 40 τ T = true
  guard : P.eqGuardType P.depth T = false
  agg : τ.agg = true
  flat : τ.isFlat = true
variable {fl : VL} {σ : Sto} {x y : Operand} {T T' : TypeId} {τ : Ty}
variable {p q : ByteArray}
end Go.Fs
namespace Go.Fs
variable {P : Program} {fl : VL} {σ γ : Sto} {Q : PV → Sto → Prop} {fn : Func}
theorem VEndG.row {r : ResultVar} {w : Value} {e : TypeId} {τ : Ty} {xs : List τ.den} (hr : fn.results = #[r]) (h1 : EndV P fl [] r (.raw w)) (hQ : Q (.raw w) [(w, Cell.row e τ xs)]) : VEndG P fn [] Q .ret fl [(w, Cell.row e τ xs)] :=
  ⟨rfl, [.raw w], by rw [hr]; exact .cons h1 .nil, hQ, .inr (.inr (.inl ⟨w, e, τ, xs, rfl, rfl, rfl⟩))⟩
end Go.Fs
namespace Go.Fs
variable {P : Program} {orc : FuncId → List Value → Heap → Option (Value × Heap)}
theorem slI {fl : VL} {k : Nat} {κ : IntKind} {a b : Int} (hk : lkV fl k = some (.v (.int κ) a)) (h : a = b) : lkV fl k = some (.v (.int κ) b) := by rw [hk, h]
theorem pvI {κ : IntKind} {a b : Int} (h : a = b) : PV.v (.int κ) a = PV.v (.int κ) b := by rw [h]
def codeOf (f : Func) : Code := f.body.getD .skip
def seqR : Code → Code
  | .seq _ b => b
  | c => c
def seqN : Nat → Code → Code
  | 0, c => c
  | n + 1, c => seqN n (seqR c)
section
variable {h0 : Heap} {S0 : List Nat} {σ : Sto} {ms : List Nat} {fl : VL} {ops : Array Oper} {n i mem : Nat} {l : List Oper} {K : VL → Sto → Prop}
  {d : Tmp} {ty : TypeId} {pos : String} {after : Array Edge} {op : Op} {v : PV} {g : Option (Nat × Bool)} {bs nw : List Nat} {tail so : Bool}
theorem VD.co {b : Nat} (hc : CalmV P fl σ op v) (hk : VD P orc ops n l (i + 1) ((d, v) :: fl) (nwSet ((so && oldOp nw op) || v.flat0) d nw) σ so (bs ++ [b]) mem tail K)
    (hb : beforeOf bs ⟨some d, op, ty, pos, after, g⟩ = b := by rfl) (hw : wantV ops fl g = some true := by rfl) (hn : (Nat.blt d n && Nat.ble n 4000) = true := by rfl) :
    VD P orc ops n (⟨some d, op, ty, pos, after, g⟩ :: l) i fl nw σ so bs mem tail K := fun h0 G S0 t h ms segs I ho => by
  obtain ⟨n1, n2⟩ := fits hn; obtain ⟨u, e1, e2⟩ := hc.2 h (own σ ++ S0) t I.slots.sees I.cells; refine EvD.op (s' := ⟨t.set depth d u, h, bs ++ [b], segs, mem, tail⟩) ?_ (hk h0 G S0 _ h ms segs (I.set e1 n2) fun ht => (ho ht).set n2 fun hold hs a1 a2 a3 a4 a5 => ?_)
  · unfold fsDraw; have hwt : fsWanted ops t ⟨some d, op, ty, pos, after, g⟩ = some true := want_ok I.slots hw; simp only [hwt, hc.1, if_true, e2, Nat.beq_refl, cond_true, put_fits n1, Option.map_some, hb]
  rcases Bool.or_eq_true_iff.1 hold with hold | hold
  · obtain ⟨o1, o2⟩ := band hold; obtain ⟨u', f1, f2⟩ := hc.2 hs (own σ ++ S0) t (old_op a4 o2) (a5 o1)
    have : u' = u := by
      have g1 := e2 none 0 "" #[] none h; rw [f2 none 0 "" #[] none h] at g1; simpa using g1
    rw [← this]; exact f1
  exact (RepPV.flat0 hold e1).2 _ _
end
end Go.Fs
namespace Go.Fs
variable {P : Program} {orc : FuncId → List Value → Heap → Option (Value × Heap)} {rnd : Option Nat} {h h' h0 h1 h2 : Heap} {S S' S0 G : List Nat} {σ σ' σr γ γ' : Sto} {t t' : Tr} {ms : List Nat} {fl nw : VL} {ops : Array Oper} {n i mem : Nat} {l : List Oper} {K : VL → Sto → Prop} {Q : Ex → VL → Sto → Prop}
  {d : Tmp} {ty : TypeId} {pos : String} {after : Array Edge} {op : Op} {v pv : PV} {g : Option (Nat × Bool)} {bs nw0 : List Nat} {tail so : Bool}
inductive ShutL (fl : VL) (γ : Sto) : VL → Prop where
  | nil : ShutL fl γ []
  | cons {k : Nat} {p p' : PV} {r : VL} (hk : lkV fl k = some p) (hc : Co γ p p') (hr : ShutL fl γ r) : ShutL fl γ ((k, p') :: r)
theorem Iv.forgetL : ∀ {γ : Sto}, Iv h0 G S0 h (γ ++ σ) t ms fl → Iv h0 G S0 h σ t ms (fl)
  | [], I => I
  | _ :: γ, I => Iv.forgetL (γ := γ) I.forget
theorem Iv.shutL (I : Iv h0 G S0 h (γ ++ σ) t ms fl) (hs : ShutL fl γ nw) : Iv h0 G S0 h σ t ms (nw ++ fl) := by
  have I' := I.forgetL
  have hsl : Slots h (own σ ++ S0) t (nw ++ fl) := by
    induction hs with
    | nil => exact I'.slots
    | cons hk hc hr ih =>
      refine ih.cons (Co.ok (σ := γ) (S0 := own σ ++ S0) (fun c hd => ?_) (fun b hb => ?_) hc ?_)
      · have := I.cells c (List.mem_append_left _ hd); rw [own_app, List.append_assoc] at this; exact this
      · have h1 := I.apart; rw [own_app] at h1; intro hm; rcases List.mem_append.1 hm with hm | hm
        · exact (List.nodup_append.1 h1).2.2 b hb b hm rfl
        exact (I.new b (by rw [own_app]; exact List.mem_append_left _ hb)).2 hm
      have := I.slots _ _ hk; rw [own_app, List.append_assoc] at this; exact this
  exact { I' with slots := hsl }
theorem VC.shutL {a : Code} (γ : Sto) (nw : VL) (hσ : γ ++ σ = σr) (hs : ShutL fl γ nw) (hx : VC P orc rnd a n (nw ++ fl) σ Q) : VC P orc rnd a n fl σr Q := fun h0 G S0 t h ms I => by
  subst hσ; exact hx h0 G S0 t h ms (I.shutL hs)
theorem VD.callG {b : Nat} {f : Operand} {args : Array Operand} {ats : Array TypeId} {F : PV} {asl : List PV} {Qr : PV → Sto → Prop} (hf : evV fl f = some F) (ha : evVs fl args.toList = some asl) (hc : VCallG P orc F asl [] Qr) (hk : ∀ r γ', Qr r γ' → VD P orc ops n l (i + 1) ((d, r) :: fl) (nwSet false d nw0) (γ' ++ σ) false (bs ++ [b]) (mem ||| 2 ^ i) tail K)
    (hb : beforeOf bs ⟨some d, .call { callee := .value f, args := args, argTypes := ats }, ty, pos, after, g⟩ = b := by rfl) (hord : Nat.beq (mem &&& b) mem = true := by rfl) (hw : wantV ops fl g = some true := by rfl) (hn : (Nat.blt d n && Nat.ble n 4000) = true := by rfl) :
    VD P orc ops n (⟨some d, .call { callee := .value f, args := args, argTypes := ats }, ty, pos, after, g⟩ :: l) i fl nw0 σ so bs mem tail K := fun h0 G S0 t h ms segs I ho => by
  obtain ⟨n1, n2⟩ := fits hn; obtain ⟨M, m1, m2, m3, m4, m5, m6, m7⟩ := seen_ok (mem := mem) I hb ho; obtain rfl := m6 hord; have Le := I.lc.objs (h' := entry h) (fun _ => rfl) rfl; obtain ⟨fid, a, c, rfl, hv⟩ := hc; obtain ⟨va, vc, h1, h2, h3⟩ := (evV_ok Le.slots hf : RepPV (entry h) _ (.clo fid a c) (evalO t f)); have hargs := (h2.append (evVs_ok Le.slots ha)).append h3; refine EvD.call (o := ⟨some d, .call { callee := .value f, args := args, argTypes := ats }, ty, pos, after, g⟩) (want_ok I.slots hw) rfl rfl h1 (by simp only [hb, hord]; simp) ?_; rw [m1]; refine (hv (entry h) (own σ ++ S0) _ m2 Le.sokA (fun c hc => by cases hc) List.nodup_nil (fun b hb => by cases hb) hargs).mono fun u h' hq => ?_; obtain ⟨r, γ', q1, q2, q3⟩ := hq; have hA : After (entry h) h' := q2.aft.after; have hl : h.next ≤ h'.low := hA.low h.next (Nat.le_refl _) (Nat.le_refl _)
  have hlow : Nat.ble h.next h'.low = true := by rw [Nat.ble_eq]; exact hl
  have hnx : h.next ≤ h'.next := hA.next; refine ⟨blt_of_le hnx, by simp only [hlow, Bool.true_or], _, put_fits n1 t u, ?_⟩
  have hd : drewOn ⟨some d, .call { callee := .value f, args := args, argTypes := ats }, ty, pos, after, g⟩ i ⟨t, h, bs, segs, mem, tail⟩ (t.set depth d u) h' =
      ⟨t.set depth d u, { next := h'.next, low := h.low, objs := newer h.next h'.next h'.objs ++ h.objs }, bs ++ [b], (i, h.next, h'.next) :: segs, mem ||| 2 ^ i, tail⟩ := by
    unfold drewOn; simp only [hlow, cond_true, hb]
  rw [hd]; obtain ⟨e1, e2⟩ := newer_left (h' := h') I.ok m5 rfl hA m2
  have hm : Made (own σ ++ S0) h { next := h'.next, low := h.low, objs := newer h.next h'.next h'.objs ++ h.objs } [] γ' := {
    aft := ⟨e1.next, fun b hb _ => e1.get b hb, e1.ok, fun e h3 h4 _ => e1.low e h3 h4, fun b hb => .inl (e1.get b hb), Nat.le_refl _⟩
    new := q2.new
    apart := q2.apart
    cells := fun c hc => (q2.cells c hc).keep (fun b hb => by
      obtain ⟨o, hg, _⟩ := (q2.cells c hc).isObj b hb
      exact ((e2 []) b _ hg (by simp)).1.trans hg.symm) (e2 _) fun b hb => List.mem_append_left _ (List.mem_flatMap.2 ⟨c, hc, hb⟩) }
  have hm2 := Made.app (γ := []) I.lc hm
  have q3' : RepPV { next := h'.next, low := h.low, objs := newer h.next h'.next h'.objs ++ h.objs } (own (γ' ++ σ) ++ S0) r u := by
    rw [own_app, List.append_assoc]; exact q3.nx (e2 _)
  refine hk r γ' q1 h0 G S0 _ _ ms _ ((I.made hm2).set q3' n2) fun ht => ?_
  obtain ⟨hs', a1, a2, a3, a4, a5, a6⟩ := (ho ht).set (v := r) (u := u) (old := false) n2 fun e => by cases e
  refine ⟨hs', a1, a2.trans e1, SegsOk.cons a2.next a3, a4, fun k pv hk hn => (a5 k pv hk hn).nx (h := hs') fun b ob hg hb => ⟨hg, ?_⟩, fun e => by cases e⟩; have h3 := a1 b ob hg; have h4 := a2.next; intro hmm; rcases List.mem_append.1 hmm with hmm | hmm
  · rcases hm2.new b hmm with h5 | h5
    · exact hb (List.mem_append_left _ h5)
    omega
  exact hb (List.mem_append_right _ hmm)
end Go.Fs
namespace Go.Fs
variable {P : Program} {orc : FuncId → List Value → Heap → Option (Value × Heap)} {fl : VL} {σ γ : Sto} {T : TypeId} {τ : Ty}
theorem row_one {h : Heap} {S : List Nat} {w : Value} {e : TypeId} {xs : List τ.den} (hc : CellR h S w (.row e τ xs)) : oneCell w = true := by
  rcases hc with ⟨h1, _⟩ | ⟨b, rs, m, h1, _⟩
  · rw [show w = _ from h1]; rfl
  rw [show w = _ from h1]; rfl
theorem VO.one {orc : FuncId → List Value → Heap → Option (Value × Heap)} {ops : Array Oper} {n : Nat} {l : List Oper} {K : VL → Sto → Prop} {w : Value} {e : TypeId} {xs : List τ.den} (hm : (w, Cell.row e τ xs) ∈ σ) (hk : oneCell w = true → VO P orc ops n l fl σ K) : VO P orc ops n l fl σ K := fun h0 G S0 t h ms I => hk (row_one (I.cells _ hm)) h0 G S0 t h ms I
theorem VD.one {orc : FuncId → List Value → Heap → Option (Value × Heap)} {ops : Array Oper} {n i mem : Nat} {l : List Oper} {K : VL → Sto → Prop} {nw bs : List Nat} {so tail : Bool} {w : Value} {e : TypeId} {xs : List τ.den} (hm : (w, Cell.row e τ xs) ∈ σ) (hk : oneCell w = true → VD P orc ops n l i fl nw σ so bs mem tail K) : VD P orc ops n l i fl nw σ so bs mem tail K := fun h0 G S0 t h ms segs I => hk (row_one (I.cells _ hm)) h0 G S0 t h ms segs I
theorem VD.perm {orc : FuncId → List Value → Heap → Option (Value × Heap)} {ops : Array Oper} {n i mem : Nat} {l : List Oper} {K : VL → Sto → Prop} {nw bs : List Nat} {so tail : Bool} {σ' : Sto} (hp : σ.Perm σ') (hx : VD P orc ops n l i fl nw σ' false bs mem tail K) : VD P orc ops n l i fl nw σ so bs mem tail K := fun h0 G S0 t h ms segs I ho => hx h0 G S0 t h ms segs (I.perm hp) fun ht => by
  obtain ⟨hs, a1, a2, a3, a4, a5, a6⟩ := ho ht; refine ⟨hs, a1, a2, a3, a4, fun k pv hk hn => (a5 k pv hk hn).nx (h := hs) fun b ob hg hb => ⟨hg, fun hm => hb ?_⟩, fun e => by cases e⟩; rcases List.mem_append.1 hm with hm | hm
  · obtain ⟨c, hc, hb⟩ := List.mem_flatMap.1 hm; exact List.mem_append_left _ (List.mem_flatMap.2 ⟨c, hp.mem_iff.2 hc, hb⟩)
  exact List.mem_append_right _ hm
end Go.Fs
namespace Go.Fs
variable {P : Program} {fl : VL} {σ γ : Sto} {Q : PV → Sto → Prop} {fn : Func}
variable {p q r : ByteArray}
variable {x y : Operand} {T T' : TypeId}
end Go.Fs
namespace Go.Fs
variable {P : Program} {orc : FuncId → List Value → Heap → Option (Value × Heap)} {rnd : Option Nat} {h h' h0 h1 h2 : Heap} {S S' S0 : List Nat} {σ σ' : Sto} {t t' : Tr} {ms : List Nat} {fl : VL} {ops : Array Oper} {n i mem : Nat} {l : List Oper} {K : VL → Sto → Prop}
  {d : Tmp} {ty : TypeId} {pos : String} {after : Array Edge} {op : Op} {v pv : PV} {g : Option (Nat × Bool)} {x y z : Operand} {T T' e : TypeId} {τ τ' : Ty}
inductive FnL : List PV → List PV → Prop where
  | nil : FnL [] []
  | same {p : PV} {l l' : List PV} (hl : FnL l l') : FnL (p :: l) (p :: l')
  | fn {f : FuncId} {l l' : List PV} (hl : FnL l l') : FnL (.clo f [] [] :: l) (.v .fn (some f) :: l')
end Go.Fs
namespace Go.Fs
variable {P : Program} {orc : FuncId → List Value → Heap → Option (Value × Heap)} {rnd : Option Nat} {h h' h0 h1 h2 hr : Heap} {S S' S0 B G A : List Nat} {σ σ' σr ρ : Sto} {t t' : Tr} {ms : List Nat} {fl : VL} {ops : Array Oper} {n i mem : Nat} {l : List Oper} {K : VL → Sto → Prop} {Q : Ex → VL → Sto → Prop}
  {d : Tmp} {ty : TypeId} {pos : String} {after : Array Edge} {op : Op} {v pv : PV} {g : Option (Nat × Bool)} {x y z : Operand} {T T' e : TypeId} {τ τ' : Ty} {bs nw rd chg : List Nat} {segs : List (Nat × Nat × Nat)} {tail tl : Bool} {w w' : Value}
section
variable (P orc)
end
structure Late (hr h : Heap) (S0 A : List Nat) (σ ρ : Sto) (t : Tr) (fl : VL) (nw rd chg : List Nat) : Prop where
  ok : HOk hr
  lt : SLt hr (A ++ S0)
  next : hr.next ≤ h.next
  goes : Goes hr (A ++ S0) h (own σ ++ S0)
  slots : ∀ k pv, lkV fl k = some pv → nwHas nw k = false → RepPV hr (A ++ S0) pv (t.get k)
  suf : ∃ σ1, σ = σ1 ++ ρ
  cells : ∀ c ∈ ρ, CellR hr (A ++ S0) c.1 c.2
  fix : ∀ b ∈ own ρ, b ∈ A
  new : ∀ b ∈ own σ, b ∈ A ∨ hr.next ≤ b
  rd : ∀ b ∈ rd, b < hr.next ∧ (b ∈ own ρ ∨ b ∉ A)
  chg : ∀ k ∈ chg, k ∉ own ρ ∧ (k ∈ A ∨ hr.next ≤ k)
section
variable (P orc)
end
end Go.Fs
namespace Ieee
namespace Format
variable (f : Format)
end Format
end Ieee
namespace Ieee
def sg (s : Bool) (r : Nat) : Int := if s then -(r : Int) else r
namespace Format
variable (f : Format)
def units (x : Nat) : Option Int := match f.read x with
  | .number s m p => some (sg s (m * 2 ^ (p - f.leastPlace).toNat))
  | _ => none
variable {f}
end Format
end Ieee
namespace Ieee
namespace Format
variable {f g : Format}
end Format
end Ieee
namespace Ieee
open Format
end Ieee
namespace Ieee
open Format
end Ieee
namespace Go.Fs
variable {P : Program} {h : Heap} {S : List Nat} {σ : Sto} {t : Tr} {fl : VL} {x y : Operand} {T T' : TypeId} {v pv : PV} {k k' : FloatKind} {p q : Nat}
end Go.Fs
namespace Go.Fs
variable {P : Program} {orc : FuncId → List Value → Heap → Option (Value × Heap)} {rnd : Option Nat} {h h' h0 h1 h2 : Heap} {S S' S0 B G : List Nat} {σ σ' : Sto} {t t' : Tr} {ms : List Nat} {fl : VL} {ops : Array Oper} {n : Nat} {l : List Oper} {K : VL → Sto → Prop} {Q : Ex → VL → Sto → Prop}
  {d : Tmp} {ty : TypeId} {pos : String} {after : Array Edge} {op : Op} {v pv : PV} {g : Option (Nat × Bool)} {x y z : Operand} {T T' e : TypeId} {κ ν : Ty} {w : Value}
section
variable {α β : Type} [DecidableEq α]
def mget : List (α × β) → α → Option β
  | [], _ => none
  | (k, v) :: r, x => if x = k then some v else mget r x
def mset : List (α × β) → α → β → List (α × β)
  | [], x, y => [(x, y)]
  | (k, v) :: r, x, y => if x = k then (x, y) :: r else (k, v) :: mset r x y
def mix : List (α × β) → α → Nat → Option Nat
  | [], _, _ => none
  | (k, _) :: r, x, i => if x = k then some i else mix r x (i + 1)
theorem mix_get : ∀ {l : List (α × β)} {x : α} {i : Nat}, match mix l x i with
    | none => mget l x = none
    | some j => i ≤ j ∧ ∃ (hj : j - i < l.length), (l[j - i]).1 = x ∧ mget l x = some (l[j - i]).2
  | [], _, _ => rfl
  | (k, v) :: r, x, i => by
    unfold mix mget; by_cases hk : x = k
    · rw [if_pos hk, if_pos hk]
      have e0 : i - i = 0 := by omega
      refine ⟨Nat.le_refl _, by rw [e0]; simp, ?_, ?_⟩
      · simp only [e0]; exact hk.symm
      simp only [e0]; rfl
    rw [if_neg hk, if_neg hk]; have := mix_get (l := r) (x := x) (i := i + 1); split at this
    · exact this
    rename_i j hj; obtain ⟨h1, h2, h3, h4⟩ := this
    have e1 : j - i = (j - (i + 1)) + 1 := by omega
    refine ⟨by omega, by rw [e1]; simpa using h2, ?_, ?_⟩
    · simp only [e1, List.getElem_cons_succ]; exact h3
    simp only [e1, List.getElem_cons_succ]; exact h4
theorem mix_set : ∀ {l : List (α × β)} {x : α} {y : β} {i : Nat}, match mix l x i with
    | none => mset l x y = l ++ [(x, y)]
    | some j => i ≤ j ∧ mset l x y = l.set (j - i) (x, y)
  | [], _, _, _ => rfl
  | (k, v) :: r, x, y, i => by
    unfold mix mset; by_cases hk : x = k
    · rw [if_pos hk, if_pos hk]
      have e0 : i - i = 0 := by omega
      exact ⟨Nat.le_refl _, by rw [e0]; rfl⟩
    rw [if_neg hk, if_neg hk]; have := mix_set (l := r) (x := x) (y := y) (i := i + 1); split at this
    · rw [this]; rfl
    rename_i j hj; obtain ⟨h1, h2⟩ := this
    have e1 : j - i = (j - (i + 1)) + 1 := by omega
    exact ⟨by omega, by rw [e1, List.set_cons_succ, h2]⟩
end
structure KeyT (P : Program) (K : TypeId) (κ : Ty) : Prop where
  flat : κ.isFlat = true
  und : ∃ td, P.underlying K = some td ∧ ((∀ {h : Heap} {S : List Nat} (u v : Value) (x y : κ.den) (inst : Decidable (x = y)), RepV h S κ u x → RepV h S κ v y → Instr.sameNow td u v = some (@decide (x = y) inst)) ∨
    ((∀ u v, Instr.sameNow td u v = none) ∧ ∀ {h : Heap} {S : List Nat} (u v : Value) (x y : κ.den) (inst : Decidable (x = y)), RepV h S κ u x → RepV h S κ v y → runPure P (Op.equal K u v) = some (@decide (x = y) inst)))
  chk : ∀ {h : Heap} {S : List Nat} (em : Bool) (u : Value) (x : κ.den), RepV h S κ u x → (runPure P (Instr.checkKey em 10000 K u)).isSome = true
  bits : ∀ {h : Heap} {S : List Nat} (u : Value) (x : κ.den), RepV h S κ u x → Instr.sameBits 10000 u u = true
theorem keyInt {K : TypeId} {k : IntKind} (hK : P.underlying K = some (.int k)) : KeyT P K (.int k) where
  flat := rfl
  und := ⟨.int k, hK, .inl fun u v x y inst hu hv => by
    rw [RepV.int hu, RepV.int hv]; show (if k = k then some (x == y) else none) = _; rw [if_pos rfl]; congr 1
    by_cases h : x = y <;> simp [h]⟩
  chk := fun em u x hu => by
    rw [RepV.int hu]; unfold Instr.checkKey; simp only [runPure_bind, runPure_underlying hK, Option.bind_some]; rfl
  bits := fun u x hu => by
    rw [RepV.int hu]; show (k == k && x == x) = true; simp
structure MapT (P : Program) (T : TypeId) (κ ν : Ty) : Prop where
  key : ∃ K E, P.underlying T = some (.map K E) ∧ KeyT P K κ ∧ ZerT P E ν
def EntR (h : Heap) (S : List Nat) (κ ν : Ty) (es : List MapEntry) (kvs : List (κ.den × ν.den)) : Prop := es.length = kvs.length ∧ ∀ i (hi : i < kvs.length) (hj : i < es.length), RepV h S κ es[i].key kvs[i].1 ∧ RepV h S ν es[i].val kvs[i].2
theorem EntR.tail {e : MapEntry} {es : List MapEntry} {p : κ.den × ν.den} {kvs : List (κ.den × ν.den)} (hE : EntR h S κ ν (e :: es) (p :: kvs)) : (RepV h S κ e.key p.1 ∧ RepV h S ν e.val p.2) ∧ EntR h S κ ν es kvs := by
  obtain ⟨h1, h2⟩ := hE; refine ⟨h2 0 (by simp) (by simp), by simpa using h1, fun i hi hj => ?_⟩; have := h2 (i + 1) (by simpa using hi) (by simpa using hj); simpa using this
theorem find_mix [DecidableEq κ.den] {K : TypeId} {u : Value} {k : κ.den} (hK : KeyT P K κ) (hu : RepV h S κ u k) {es : List MapEntry} {kvs : List (κ.den × ν.den)} (hE : EntR h S κ ν es kvs) : fsFind P K u es = some (mix kvs k 0) := by
  obtain ⟨td, hU, hk⟩ := hK.und; unfold fsFind; rw [hU]; simp only; rcases hk with hk | ⟨hn, hk⟩
  · have key : ∀ (es : List MapEntry) (kvs : List (κ.den × ν.den)) (i : Nat), EntR h S κ ν es kvs → ∃ r, Instr.findNow td u es i = some r ∧ r.map (·.1) = mix kvs k i := by
      intro es
      induction es with
      | nil =>
        intro kvs i hE
        cases kvs with
        | nil => exact ⟨none, rfl, rfl⟩
        | cons p kvs => have := hE.1; simp at this
      | cons e es ih =>
        intro kvs i hE
        cases kvs with
        | nil => have := hE.1; simp at this
        | cons p kvs =>
          obtain ⟨⟨h1, _⟩, h3⟩ := hE.tail; obtain ⟨k', v'⟩ := p; unfold Instr.findNow mix; rw [hk u e.key k k' inferInstance hu h1]; by_cases hkk : k = k'
          · rw [if_pos hkk]; exact ⟨some (i, e.val), by simp [hkk], rfl⟩
          rw [if_neg hkk]; obtain ⟨r, r1, r2⟩ := ih kvs (i + 1) h3; exact ⟨r, by simp [hkk, r1], r2⟩
    obtain ⟨r, r1, r2⟩ := key es kvs 0 hE; rw [r1]; simp only; rw [r2]
  cases es with
  | nil =>
    cases kvs with
    | nil => rfl
    | cons p kvs => have := hE.1; simp at this
  | cons e0 es0 =>
    have hnow : Instr.findNow td u (e0 :: es0) 0 = none := by
      unfold Instr.findNow; rw [hn]
    rw [hnow]; simp only
    have key : ∀ (es : List MapEntry) (kvs : List (κ.den × ν.den)) (i : Nat), EntR h S κ ν es kvs → ∃ r, runPure P (Instr.findAsking K u es i) = some r ∧ r.map (·.1) = mix kvs k i := by
      intro es
      induction es with
      | nil =>
        intro kvs i hE
        cases kvs with
        | nil => exact ⟨none, rfl, rfl⟩
        | cons p kvs => have := hE.1; simp at this
      | cons e es ih =>
        intro kvs i hE
        cases kvs with
        | nil => have := hE.1; simp at this
        | cons p kvs =>
          obtain ⟨⟨h1, _⟩, h3⟩ := hE.tail; obtain ⟨k', v'⟩ := p; unfold Instr.findAsking mix; simp only [runPure_bind, hk u e.key k k' inferInstance hu h1, Option.bind_some]; by_cases hkk : k = k'
          · rw [if_pos hkk]; exact ⟨some (i, e.val), by simp [hkk, runPure_pure], rfl⟩
          rw [if_neg hkk]; obtain ⟨r, r1, r2⟩ := ih kvs (i + 1) h3; exact ⟨r, by simp [hkk, r1], r2⟩
    obtain ⟨r, r1, r2⟩ := key _ kvs 0 hE; have r1' : runPure P (Instr.findAsking K u (e0 :: es0)) = some r := r1; rw [r1']; simp only [Option.map_some]; rw [r2]
theorem EntR.set {kvs : List (κ.den × ν.den)} {es : List MapEntry} {j : Nat} {e : MapEntry} {p : κ.den × ν.den} (hE : EntR h S κ ν es kvs) (hk : RepV h S κ e.key p.1) (hv : RepV h S ν e.val p.2) : EntR h S κ ν (es.set j e) (kvs.set j p) := by
  refine ⟨by simpa using hE.1, fun i hi hj => ?_⟩; rw [List.length_set] at hi hj; by_cases hij : j = i
  · subst hij; simp only [List.getElem_set_self]; exact ⟨hk, hv⟩
  simp only [List.getElem_set_ne hij]; exact hE.2 i hi hj
theorem EntR.push {kvs : List (κ.den × ν.den)} {es : List MapEntry} {e : MapEntry} {p : κ.den × ν.den} (hE : EntR h S κ ν es kvs) (hk : RepV h S κ e.key p.1) (hv : RepV h S ν e.val p.2) : EntR h S κ ν (es ++ [e]) (kvs ++ [p]) := by
  refine ⟨by simpa using hE.1, fun i hi hj => ?_⟩
  have hi' : i < kvs.length + 1 := by simpa using hi
  by_cases hlt : i < kvs.length
  · rw [List.getElem_append_left hlt, List.getElem_append_left (by rw [hE.1]; exact hlt)]; exact hE.2 i hlt _
  have e1 : i = kvs.length := by omega
  subst e1; have e2 := hE.1
  have q1 : (es ++ [e])[kvs.length]'hj = e := by rw [List.getElem_append_right (by omega)]; simp [e2]
  have q2 : (kvs ++ [p])[kvs.length]'hi = p := by rw [List.getElem_append_right (by omega)]; simp
  rw [q1, q2]; exact ⟨hk, hv⟩
section
variable [DecidableEq κ.den] {k : κ.den} {kvs : List (κ.den × ν.den)}
theorem lookup_own (hT : MapT P T κ ν) {u : Value} (hu : RepV h S κ u k) (hc : CellR h S w (.mp κ ν kvs)) :
    ∃ r, RepV h S ν r ((mget kvs k).getD (zeroD ν)) ∧ (∀ H : Heap, (∀ b o, h.get b = some o → H.get b = some o) → fsLookup P T w u false H = some r ∧ fsLookup P T w u true H = some (.tuple #[r, .bool (mget kvs k).isSome])) := by
  obtain ⟨K, E, hU, hK, hZ⟩ := hT.key; obtain ⟨z, hz, hzc, hza⟩ := hZ.zero; obtain ⟨z1, z2⟩ := zero_rep h S ν; obtain ⟨a1, a2⟩ := af_cells (u := z) (by rw [hzc]; exact z2); have hzr : RepV h S ν z (zeroD ν) := ⟨hza, by rw [hzc]; exact z1⟩; have hau : af u = true := af_of_af1 (repV_af1 hK.flat hu); obtain ⟨b, es, c, rfl, hbS, hg, hE⟩ := hc; have hE' : EntR h S κ ν es kvs := hE; have hf := find_mix (ν := ν) hK hu hE'; have hch := hK.chk (h := h) (S := S) es.isEmpty u k hu; have hmg := mix_get (l := kvs) (x := k) (i := 0)
  cases hmx : mix kvs k 0 with
  | none =>
    rw [hmx] at hmg hf; have hmg' : mget kvs k = none := hmg; refine ⟨z, by rw [hmg']; exact hzr, fun H hH => ?_⟩
    constructor <;> simp [fsLookup, hU, hz, hau, a1, hf, hch, hmg', hH b _ hg]
  | some j =>
    rw [hmx] at hmg hf; obtain ⟨_, hj, hk1, hk2⟩ := hmg; simp only [Nat.sub_zero] at hj hk1 hk2
    have hj2 : j < es.length := by rw [hE'.1]; exact hj
    refine ⟨es[j].val, by rw [hk2]; exact (hE'.2 j hj hj2).2, fun H hH => ?_⟩; constructor <;> simp [fsLookup, hU, hz, hau, a1, hf, hch, hk2, hH b _ hg, List.getElem?_eq_getElem hj2]
theorem ReadV.lookO (hT : MapT P T κ ν) (hm : (w, Cell.mp κ ν kvs) ∈ σ) (hx : evV fl x = some (.raw w) := by rfl) (hy : evV fl y = some (.v κ k) := by rfl) : ReadV P fl σ (.lookup T x y false) (.v ν ((mget kvs k).getD (zeroD ν))) :=
  ⟨rfl, fun h S t hs hc => by
    have h1 : evalO t x = w := hs x (by simp [Op.operands]) _ hx; obtain ⟨r, r1, r2⟩ := lookup_own hT (hs y (by simp [Op.operands]) _ hy : RepV h S κ _ k) (hc _ hm)
    exact ⟨r, r1, fun H hH _ _ _ _ _ => by
      show (fsLookup P T (evalO t x) (evalO t y) false H).map _ = _
      rw [h1, (r2 H hH).1]; rfl⟩⟩
theorem MakeV.mput {u : ν.den} (hT : MapT P T κ ν) (hx : evV fl x = some (.raw w)) (hy : evV fl y = some (.v κ k)) (hz : evV fl z = some (.v ν u)) :
    MakeV P fl ((w, .mp κ ν kvs) :: σ) (.mapUpdate T x y z) fun v σ' => v = .raw undef ∧ σ' = (w, .mp κ ν (mset kvs k u)) :: σ :=
  ⟨rfl, fun S0 h t L => by
    have h1 : evalO t x = w := evV_ok L.slots hx; have hk := (evV_ok L.slots hy : RepV h _ κ (evalO t y) k); have hv := (evV_ok L.slots hz : RepV h _ ν (evalO t z) u); obtain ⟨K, E, hU, hK, hZ⟩ := hT.key; obtain ⟨b, es, c, h3, h4, hg, hE⟩ := L.cells _ List.mem_cons_self; have hw : w = .map (some b) := h3; have hE' : EntR h (own ((w, .mp κ ν kvs) :: σ) ++ S0) κ ν es kvs := hE
    have hbk : blk w = [b] := by rw [hw]; rfl
    have hf := find_mix (ν := ν) hK hk hE'; have hau : af (evalO t y) = true := af_of_af1 (repV_af1 hK.flat hk); have hch := hK.chk (h := h) false _ k hk; have hms := mix_set (l := kvs) (x := k) (y := u) (i := 0); have hmg := mix_get (l := kvs) (x := k) (i := 0)
    have fin : ∀ (es' : List MapEntry) (c' : Nat), fsMapUpdate P T w (evalO t y) (evalO t z) h = some (h.set b (.mapo es' c')) → EntR h (own ((w, .mp κ ν kvs) :: σ) ++ S0) κ ν es' (mset kvs k u) →
        ∃ uu h' v σ', (v = .raw undef ∧ σ' = (w, .mp κ ν (mset kvs k u)) :: σ) ∧ Made S0 h h' ((w, .mp κ ν kvs) :: σ) σ' ∧ RepPV h' (own σ' ++ S0) v uu ∧ ∀ (d : Option Tmp) (ty : TypeId) (pos : String) (after : Array Edge) (g : Option (Nat × Bool)), stepO P ⟨d, .mapUpdate T x y z, ty, pos, after, g⟩ (evalO t) h = some (uu, h') := fun es' c' hup hEn => by
      refine ⟨undef, h.set b (.mapo es' c'), .raw undef, _, ⟨rfl, rfl⟩, Made.head L (Aft.set hg (by rw [hbk]; simp)) (fun b hb => .inl hb) (by rw [hbk]; simp) fun hN => ?_, rfl, fun _ _ _ _ _ => ?_⟩
      · refine ⟨b, es', c', h3, ?_, by rw [Heap.get_set hg, if_pos rfl], hEn.1, fun i hi hj => ⟨(hEn.2 i hi hj).1.nx hN, (hEn.2 i hi hj).2.nx hN⟩⟩; rw [own_cons]; exact List.mem_append_left _ (List.mem_append_left _ (by rw [hbk]; simp))
      show (fsMapUpdate P T (evalO t x) (evalO t y) (evalO t z) h).map _ = _; rw [h1, hup]; rfl
    cases hmx : mix kvs k 0 with
    | none =>
      rw [hmx] at hms hf; have hms' : Fs.mset kvs k u = kvs ++ [(k, u)] := hms; refine fin (es ++ [{ key := evalO t y, val := evalO t z, born := c }]) (c + 1) ?_ (by rw [hms']; exact hE'.push hk hv); rw [hw]
      simp [fsMapUpdate, hU, hg, hau, hch, hf]
    | some j =>
      rw [hmx] at hms hf hmg; obtain ⟨_, hms'⟩ := hms; obtain ⟨_, hj, hk1, _⟩ := hmg; simp only [Nat.sub_zero] at hms' hj hk1
      have hj2 : j < es.length := by rw [hE'.1]; exact hj
      have hke : es[j].key = evalO t y := by
        have q1 := (hE'.2 j hj hj2).1; rw [hk1] at q1; have c1 := flat_cells q1.2 hK.flat; have c2 := flat_cells hk.2 hK.flat
        cases hag : κ.agg with
        | true => rw [flat_agg q1 hK.flat hag, flat_agg hk hK.flat hag]
        | false =>
          have d1 := cells_one (q1.1.trans hag); have d2 := cells_one (hk.1.trans hag); rw [d1] at c1; rw [d2] at c2; have : [es[j].key] = [evalO t y] := c1.trans c2.symm; simpa using this
      have hsb : Instr.sameBits 10000 es[j].key (evalO t y) = true := by rw [hke]; exact hK.bits _ k hk
      refine fin (es.set j { es[j] with key := evalO t y, val := evalO t z }) c ?_ (by rw [hms']; exact hE'.set hk hv); rw [hw]
      simp [fsMapUpdate, hU, hg, hau, hch, hf, List.getElem?_eq_getElem hj2, hsb]⟩
theorem VO.mput {u : ν.den} (hT : MapT P T κ ν) (hk : VO P orc ops n l fl ((w, .mp κ ν (mset kvs k u)) :: σ) K) (hx : evV fl x = some (.raw w) := by rfl) (hy : evV fl y = some (.v κ k) := by rfl) (hz : evV fl z = some (.v ν u) := by rfl) (hw : wantV ops fl g = some true := by rfl) :
    VO P orc ops n (⟨none, .mapUpdate T x y z, ty, pos, after, g⟩ :: l) fl ((w, .mp κ ν kvs) :: σ) K :=
  VO.mk0 (MakeV.mput hT hx hy hz) (by rintro _ _ ⟨rfl, rfl⟩; exact hk) hw
end
theorem FreshO.mkMap (κ ν : Ty) : FreshO P fl (.makeMap T none) (.mp κ ν []) :=
  ⟨rfl, fun h S t hs hok hS => ⟨fun k => .map (some k), .mapo [] 0, fun _ => rfl, fun S' hN hm => ⟨h.next, [], 0, rfl, hm, by rw [Heap.get_push, if_pos rfl], rfl, fun i hi => by simp at hi⟩, fun H _ _ _ _ _ => rfl⟩⟩
end Go.Fs
namespace Go.Fs
variable {P : Program} {orc : FuncId → List Value → Heap → Option (Value × Heap)} {h : Heap} {S : List Nat} {σ : Sto} {t : Tr} {fl : VL} {x y : Operand} {T T' : TypeId} {v pv : PV} {k k' : FloatKind} {p q : Nat}
end Go.Fs
namespace Ieee
open Format
end Ieee
namespace Go.Fs
variable {P : Program} {orc : FuncId → List Value → Heap → Option (Value × Heap)} {rnd : Option Nat} {h : Heap} {S : List Nat} {σ : Sto} {t : Tr} {fl : VL} {x y : Operand} {T : TypeId} {n : Nat} {τ τ' : Ty} {Q : Ex → VL → Sto → Prop}
section
variable {T' : TypeId}
end
end Go.Fs
namespace Go.Fs
variable {P : Program} {orc : FuncId → List Value → Heap → Option (Value × Heap)} {rnd : Option Nat} {h h' h0 h1 h2 : Heap} {S S' S0 B G : List Nat} {σ σ' : Sto} {t t' : Tr} {ms : List Nat} {fl nw : VL} {ops : Array Oper} {n : Nat} {l : List Oper} {K : VL → Sto → Prop} {Q : Ex → VL → Sto → Prop}
  {d : Tmp} {ty : TypeId} {pos : String} {after : Array Edge} {op : Op} {v pv : PV} {g : Option (Nat × Bool)} {x y z : Operand} {T T' e : TypeId} {w : Value} {s : ByteArray} {p : Nat}
structure GdT (ops : Array Oper) (fl : VL) (g : Option (Nat × Bool)) (b : Bool) : Prop where
  want : ∀ {h : Heap} {S : List Nat} {t : Tr}, Slots h S t fl → ∀ o : Oper, o.guard = g → fsWanted ops t o = some b
end Go.Fs
namespace Go.Fs
instance : DecidableEq (Ty.den .str) := inferInstanceAs (DecidableEq ByteArray)
instance {k : IntKind} : DecidableEq (Ty.den (.int k)) := inferInstanceAs (DecidableEq Int)
instance : DecidableEq (Ty.den .bool) := inferInstanceAs (DecidableEq Bool)
instance {a b : Ty} [DecidableEq a.den] [DecidableEq b.den] : DecidableEq (Ty.den (.pair a b)) := inferInstanceAs (DecidableEq (a.den × b.den))
variable {P : Program} {orc : FuncId → List Value → Heap → Option (Value × Heap)} {fl : VL} {σ γ : Sto} {T : TypeId} {τ : Ty}
theorem repL_raw {h : Heap} {S : List Nat} : ∀ (us : List Value), RepL h S (us.map PV.raw) us
  | [] => rfl
  | u :: r => ⟨u, r, rfl, rfl, repL_raw r⟩
theorem CalmV.buildA {pl : List (Nat × Nat)} {parts : Array (Nat × Operand)} {zs : List Value} {ps cs : List PV} (hT : BldT P T τ pl) (hz : zeroC τ = zs := by rfl) (hps : evVs fl (parts.toList.map (·.2)) = some ps := by rfl) (hb : bldL pl (zs.map .raw) (parts.toList.map (·.1)) ps = some cs := by rfl) : CalmV P fl σ (.build T parts) (.agg cs) :=
  ⟨rfl, fun h S t hs _ => by
    obtain ⟨z, z1, z2, z3⟩ := hT.zer.zero; obtain ⟨y1, y2⟩ := zero_rep h S τ; have hr : RepL h S ps ((parts.toList.map (·.2)).map (evalO t)) := sees_list (fun x hx => hs x (by simpa [Op.operands] using hx)) hps; obtain ⟨cs', f1, f2, f3, f4⟩ := fill_bld hb hr (show RepL h S (zs.map .raw) (zeroC τ) from by rw [hz]; exact repL_raw zs) (af0_one y2); refine ⟨.agg cs'.toArray, ⟨cs', rfl, f2⟩, fun _ _ _ _ _ H => ?_⟩; show (bif (parts.toList.all fun p => (evalO t p.2).cells.toList.all oneCell) && ((((P.info? T).bind (·.zero)).map fun z => z.cells.toList.all af0) == some true) then (runPure P (Instr.build T (parts.map fun p => (p.1, evalO t p.2)))).map fun v => (v, H) else none) = _
    have c1 : (parts.toList.all fun p => (evalO t p.2).cells.toList.all oneCell) = true := by
      rw [List.map_map, List.all_map] at f3; exact f3
    have c2 : ((((P.info? T).bind (·.zero)).map fun z => z.cells.toList.all af0) == some true) = true := by
      rw [z1]
      have e : z.cells.toList.all af0 = true := by rw [z2]; exact y2
      simp only [Option.map_some, e]; rfl
    have hrun := hT.run z (parts.map fun p => (p.1, evalO t p.2)) cs'.toArray z1 (by
      rw [← f1, Array.toList_map, ← zip_map, List.map_map]; congr 1
      rw [← z2])
    rw [c1, c2, hrun]
    rfl⟩
def byteE (s : ByteArray) (i : Int) : Int := (((s.get! i.toNat).toNat : Nat) : Int)
end Go.Fs
namespace Go.Fs
variable {P : Program} {orc : FuncId → List Value → Heap → Option (Value × Heap)} {fl : VL} {σ : Sto} {T T' e ty : TypeId} {τ : Ty} {ops : Array Oper} {n : Nat} {l : List Oper} {K : VL → Sto → Prop} {d : Tmp} {pos : String} {after : Array Edge} {g : Option (Nat × Bool)} {x y : Operand} {xs : List τ.den}
theorem agg_one {w : Value} (h : oneCell w = true) : isAggV w = false := by
  cases w <;> first | rfl | cases h
end Go.Fs
namespace Go.Fs
variable {P : Program} {orc : FuncId → List Value → Heap → Option (Value × Heap)} {h h1 h2 h' : Heap} {S S0 : List Nat} {σ γ σr : Sto} {fl : VL} {ops : Array Oper} {n : Nat} {l : List Oper} {K : VL → Sto → Prop} {d : Tmp} {ty : TypeId} {pos : String} {after : Array Edge} {g : Option (Nat × Bool)}
theorem stepAt_yield {o : Oper} {c : Call} {f : Operand} {j : Nat} {ev : Operand → Value} (ho : o.op = .call c) (hc : c.callee = .value f) (hf : ev f = .func (.yield j) #[] #[]) (m : Nat) (h : Heap) :
    stepAt P orc m o ev h = fsYield (fsCode P orc m) j (c.args.toList.map ev) h := by
  unfold stepAt fsOp; rw [ho]; simp only [hc, hf]
theorem EvO.yield {QO : Tr → Heap → Prop} {o : Oper} {t : Tr} {c : Call} {f : Operand} {j : Nat} (hw : fsWanted ops t o = some true) (ho : o.op = .call c) (hc : c.callee = .value f) (hf : evalO t f = .func (.yield j) #[] #[])
    (hl : EvY P orc j (c.args.toList.map (evalO t)) h fun v h' => ∃ t', put n t o.dst v = some t' ∧ EvO P orc ops n l t' h' QO) : EvO P orc ops n (o :: l) t h QO := by
  obtain ⟨m, v, h1, hr, t1, hp, k, t2, h2, hr2, hq⟩ := hl; refine ⟨max m k, t2, h2, ?_, hq⟩; have h3 := fsYield_mono (fsCode_mono (P := P) (orc := orc) (Nat.le_max_left m k)) _ _ _ _ hr; have h4 : stepM P orc (max m k) o (evalO t) h = some (v, h1) := stepAt_M _ _ _ _ (by rw [stepAt_yield ho hc hf]; exact h3); simp only [fsOps, hw, h4, hp]; exact fsOps_mono (stepM_mono (Nat.le_max_right m k)) _ _ _ _ hr2
theorem EvY.mono {j : Nat} {args : List Value} {Q Q' : Value → Heap → Prop} (hc : EvY P orc j args h Q) (hq : ∀ v h', Q v h' → Q' v h') : EvY P orc j args h Q' :=
  let ⟨m, v, h', h1, h2⟩ := hc; ⟨m, v, h', h1, hq _ _ h2⟩
theorem EvY.round {Q : Value → Heap → Prop} {j : Nat} {j0 : Option Code} {tmps t : Tr} {params : Array Tmp} {assign body : Code} {dm : Nat} {args : List Value} (hg : h.get j = some (.loopo .ready j0 tmps n params assign body dm)) (hlen : Nat.beq args.length params.size = true) (ht : setAll n tmps (params.toList.zip args) = some t)
    (ha : EvC P orc (some j) assign ⟨t, n, []⟩ h fun e fr h1 => e = .normal ∧ ∃ jp tm n' ps' as' bo' d', h1.get j = some (.loopo .ready jp tm n' ps' as' bo' d') ∧
      EvC P orc (some j) body fr (h1.set j (.loopo .busy jp tm n' ps' as' bo' d')) fun e _ h2 => ∃ st jp2 tm2 n2 ps2 as2 bo2 d2, h2.get j = some (.loopo st jp2 tm2 n2 ps2 as2 bo2 d2) ∧
        Q (.bool (jumpOf e).isNone) (h2.set j (.loopo (bif (jumpOf e).isNone then .ready else .done) (jumpOf e) tm2 n2 ps2 as2 bo2 d2))) : EvY P orc j args h Q := by
  obtain ⟨m, e, fr, h1, hr, rfl, jp, tm, n', ps', as', bo', d', hg1, k, e2, fr2, h2, hr2, st, jp2, tm2, n2, ps2, as2, bo2, d2, hg2, hq⟩ := ha; refine ⟨max m k, _, _, ?_, hq⟩; have a1 := fsCode_mono (P := P) (orc := orc) (Nat.le_max_left m k) _ _ _ _ _ hr; have a2 := fsCode_mono (P := P) (orc := orc) (Nat.le_max_right m k) _ _ _ _ _ hr2; unfold fsYield; simp only [hg, hlen, cond_true, ht, a1, hg1, a2, hg2]
def EvFK (P : Program) (orc : FuncId → List Value → Heap → Option (Value × Heap)) (f : FuncId) (args : List Value) (h : Heap) (Q : Value → Heap → Prop) : Prop := ∃ m v h', fsEnterK P true (fsCode P orc m) f args h = some (v, h') ∧ Q v h'
theorem EvFK.mono {f : FuncId} {args : List Value} {Q Q' : Value → Heap → Prop} (hc : EvFK P orc f args h Q) (hq : ∀ v h', Q v h' → Q' v h') : EvFK P orc f args h Q' :=
  let ⟨m, v, h', h1, h2⟩ := hc; ⟨m, v, h', h1, hq _ _ h2⟩
theorem EvFK.enter {f : FuncId} {args : List Value} {fn : Func} {c : Code} {QF : Value → Heap → Prop} (hfn : P.funcs[f]? = some fn) (hc : fn.body = some c) (hn : (Nat.blt 4000 fn.ntmps || Nat.blt fn.ntmps args.length) = false)
    (hb : EvC P orc none c ⟨fillTr .leaf 0 args, fn.ntmps, []⟩ { next := h.next, low := h.next, objs := h.objs } fun e fr h1 =>
      e.goes = true ∧ ∃ h2 vs, dropMarks fr.marks h1 = some h2 ∧ fsResults P fr.t h2 fn.results.toList = some vs ∧ QF (tupled vs) { next := h2.next, low := min h.low h2.low, objs := h2.objs }) : EvFK P orc f args h QF := by
  obtain ⟨m, e, fr, h1, hr, hg, h2, vs, hd, hvs, hq⟩ := hb; refine ⟨m, _, _, ?_, hq⟩; unfold fsEnterK; simp only [hfn, hc, hn, cond_false, hr, hg, cond_true, hd, hvs, Bool.not_true, Bool.false_and]
theorem EvC.rangeFunc {fr : Fr} {Q : Ex → Fr → Heap → Prop} {x : Operand} {f : FuncId} {a c : Array Value} {ps : Array Tmp} {assign body : Code} (hgv : evalO fr.t x = .func (.func f) a c)
    (hl : EvFK P orc f (a.toList ++ [.func (.yield (h.push .defd).next) #[] #[]] ++ c.toList) ((h.push .defd).push (.loopo .ready none fr.t fr.n ps assign body h.next)) fun _ h3 =>
      ∃ st e tm n' ps' as' bo' d', h3.get (h.push .defd).next = some (.loopo st (jumpOf e) tm n' ps' as' bo' d') ∧ st ≠ .busy ∧ Q e ⟨fr.t, fr.n, h.next :: fr.marks⟩ (h3.set (h.push .defd).next (.loopo .exhausted (jumpOf e) tm n' ps' as' bo' d'))) :
    EvC P orc none (.rangeFunc x ps assign body) fr h Q := by
  obtain ⟨m, v, h3, hr, st, e, tm, n', ps', as', bo', d', hg, hst, hq⟩ := hl; refine ⟨m + 1, e, _, _, ?_, hq⟩; show fsRangeFunc P (fsCode P orc m) none x ps assign body fr h = _; unfold fsRangeFunc fsMark; simp only [hgv, hr, hg]
  cases st with
  | busy => exact absurd rfl hst
  | _ => cases e <;> rfl
section
variable (P orc)
def VYG (yv : Value) (args : List PV) (γ : Sto) (Q : PV → Sto → Prop) : Prop := ∀ (h : Heap) (S : List Nat) (us : List Value), HOk h → SOk h S → (∀ c ∈ γ, CellR h (own γ ++ S) c.1 c.2) → (own γ).Nodup → (∀ b ∈ own γ, b ∉ S) → RepL h (own γ ++ S) args us →
  ∃ j, yv = .func (.yield j) #[] #[] ∧ EvY P orc j us h fun u h' => ∃ r γ', Q r γ' ∧ Made S h h' γ γ' ∧ RepPV h' (own γ' ++ S) r u
end
theorem VO.callY {f : Operand} {args : Array Operand} {ats : Array TypeId} {yv : Value} {asl : List PV} {Q : PV → Sto → Prop} (γ : Sto) (hσ : γ ++ σ = σr) (hf : evV fl f = some (.raw yv)) (ha : evVs fl args.toList = some asl) (hc : VYG P orc yv asl γ Q) (hk : ∀ r γ', Q r γ' → VO P orc ops n l ((d, r) :: fl) (γ' ++ σ) K)
    (hw : wantV ops fl g = some true := by rfl) (hn : (Nat.blt d n && Nat.ble n 4000) = true := by rfl) : VO P orc ops n (⟨some d, .call { callee := .value f, args := args, argTypes := ats }, ty, pos, after, g⟩ :: l) fl σr K := fun h0 G S0 t h ms Iv0 => by
  subst hσ; obtain ⟨n1, n2⟩ := fits hn; have L := Iv0.lc; have hap := L.apart; rw [own_app] at hap; obtain ⟨hap1, hap2, hap3⟩ := List.nodup_append.1 hap; have hfv : evalO t f = yv := evV_ok Iv0.slots hf; have hargs := evVs_ok Iv0.slots ha; rw [own_app, List.append_assoc] at hargs
  have hcells : ∀ c ∈ γ, CellR h (own γ ++ (own σ ++ S0)) c.1 c.2 := fun c hc => by
    have := L.cells c (List.mem_append_left _ hc)
    rwa [own_app, List.append_assoc] at this
  obtain ⟨j, hj, hY⟩ := hc h (own σ ++ S0) _ Iv0.ok L.sokR hcells hap1 (fun b hb hm => by
    rcases List.mem_append.1 hm with hm | hm
    · exact hap3 b hb b hm rfl
    exact L.sep b (by rw [own_app]; exact List.mem_append_left _ hb) hm) hargs
  refine EvO.yield (want_ok Iv0.slots hw) rfl rfl (hfv.trans hj) (hY.mono fun u h' hq => ?_); obtain ⟨r, γ', q1, q2, q3⟩ := hq; refine ⟨_, put_fits n1 t u, hk r γ' q1 h0 G S0 _ h' ms ((Iv0.made (Made.app L q2)).set ?_ n2)⟩; rw [own_app, List.append_assoc]; exact q3
def prmVL : List Tmp → List PV → VL → VL
  | p :: ps, a :: asl, fl => prmVL ps asl ((p, a) :: fl)
  | _, _, fl => fl
theorem slots_setAll (hn4 : n ≤ 4000) : ∀ {ps : List Tmp} {asl : List PV} {us : List Value} {t : Tr} {fl : VL}, (∀ p ∈ ps, Nat.blt p n = true) → Slots h S t fl → RepL h S asl us → ps.length = asl.length →
    ∃ t', setAll n t (ps.zip us) = some t' ∧ Slots h S t' (prmVL ps asl fl)
  | [], asl, us, t, fl, _, hs, hr, _ => ⟨t, by cases us <;> rfl, by cases asl <;> exact hs⟩
  | p :: ps, [], us, t, fl, _, hs, hr, hl => by cases hl
  | p :: ps, a :: asl, us, t, fl, hp, hs, ⟨u, r, h1, h2, h3⟩, hl => by
    subst h1; have hpn := hp p List.mem_cons_self; have hp4 : p < 4000 := Nat.lt_of_lt_of_le (nblt hpn) hn4; obtain ⟨t', e1, e2⟩ := slots_setAll (ps := ps) (asl := asl) (us := r) (t := t.set depth p u) (fl := (p, a) :: fl) hn4 (fun q hq => hp q (List.mem_cons_of_mem _ hq)) (hs.set h2 hp4) h3 (by simpa using hl); refine ⟨t', ?_, e2⟩; show setAll n t ((p, u) :: ps.zip r) = _; unfold setAll; rw [put_fits hpn]; exact e1
theorem VYG.round {yv : Value} {fl0 : VL} {ps : Array Tmp} {assign body : Code} {args : List PV} {Qb : Ex → VL → Sto → Prop} (hlen : ps.size = args.length) (hps : ∀ p ∈ ps.toList, Nat.blt p n = true) (hn4 : n ≤ 4000)
    (hb : ∀ j, VC P orc (some j) assign n (prmVL ps.toList args fl0) γ (fun e fl σ => e = .normal ∧ VC P orc (some j) body n fl σ Qb)) :
    VYG P orc yv args ((yv, .loop .ready none n fl0 ps assign body) :: γ) (fun r γ' => ∃ e fl σ', Qb e fl σ' ∧ r = .v .bool (jumpOf e).isNone ∧ γ' = (yv, .loop (bif (jumpOf e).isNone then .ready else .done) (jumpOf e) n fl0 ps assign body) :: σ') := by
  intro h S us hok hS hcells hnd hsep ha; obtain ⟨j, tmps, dm, hyv, hjS, hg, hsl⟩ := hcells _ List.mem_cons_self; have hyv' : yv = .func (.yield j) #[] #[] := hyv; subst hyv'; have how : ∀ (c : Cell) (s : Sto), own ((.func (.yield j) #[] #[], c) :: s) = j :: own s := fun c s => rfl; rw [how] at hcells hnd hsep ha hsl; obtain ⟨hj1, hnd2⟩ := List.nodup_cons.1 hnd; have hjn : j < h.next := hok j _ hg; have hjS' : j ∉ S := hsep j List.mem_cons_self
  have goes0 : Goes h (j :: own γ ++ S) h (own γ ++ (j :: S)) := Goes.less fun b hb => by
    rcases List.mem_append.1 hb with hb | hb
    · exact List.mem_append_left _ (List.mem_cons_of_mem _ hb)
    rcases List.mem_cons.1 hb with hb | hb
    · subst hb; exact List.mem_append_left _ List.mem_cons_self
    exact List.mem_append_right _ hb
  obtain ⟨t1, hset, hsl1⟩ := slots_setAll (n := n) hn4 hps hsl ha hlen; have hlu := ha.len
  have I1 : Iv h (own γ) (j :: S) h γ t1 [] (prmVL ps.toList args fl0) := {
    ok := hok
    s0 := fun b hb => by
      rcases List.mem_cons.1 hb with hb | hb
      · subst hb; exact hjn
      exact hS b hb
    aft := Aft.refl _ _
    cells := fun c hc => (hcells c (List.mem_cons_of_mem _ hc)).keep (fun _ _ => rfl) goes0 fun b hb => List.mem_append_left _ (List.mem_flatMap.2 ⟨c, hc, hb⟩)
    new := fun b hb => ⟨.inl hb, fun hm => by
      rcases List.mem_cons.1 hm with hm | hm
      · subst hm; exact hj1 hb
      exact hsep b (List.mem_cons_of_mem _ hb) hm⟩
    apart := hnd2
    mark := fun d hd => by cases hd
    marks := List.nodup_nil
    slots := hsl1.nx goes0 }
  refine ⟨j, rfl, EvY.round hg (by rw [hlu, ← hlen]; exact Nat.beq_refl _) hset ((hb j h (own γ) (j :: S) t1 h [] I1).mono fun e fr h1 hq => ?_)⟩; obtain ⟨hfn, fl1, σ1, Iv1, he, hbody⟩ := hq; have g1 : h1.get j = h.get j := Iv1.aft.get j hjn hj1; have hg1 := g1.trans hg; refine ⟨he, _, _, _, _, _, _, _, hg1, ?_⟩
  let B : AObj := .loopo .busy none tmps n ps assign body dm
  have hgB : ∀ b, (h1.set j B).get b = if b = j then some B else h1.get b := fun b => Heap.get_set hg1 ..; have hgA : ∀ b, (h.set j B).get b = if b = j then some B else h.get b := fun b => Heap.get_set hg ..; have hj2 : j ∉ own σ1 := fun hm => (Iv1.new j hm).2 List.mem_cons_self
  have goes1 : Goes h1 (own σ1 ++ (j :: S)) (h1.set j B) (own σ1 ++ (j :: S)) := fun b o hb hn => ⟨by
    rw [hgB, if_neg (fun e => hn (by subst e; exact List.mem_append_right _ List.mem_cons_self))]; exact hb, hn⟩
  have a2 := (Aft.set (h := h1) (o' := B) (B := [j]) hg1 List.mem_cons_self)
  have I2 : Iv (h.set j B) (own γ) (j :: S) (h1.set j B) σ1 fr.t fr.marks fl1 := {
    ok := a2.ok Iv1.ok
    s0 := I1.s0
    aft := {
      next := Iv1.aft.next
      get := fun b hb hn => by
        rw [hgB, hgA]; split
        · rfl
        exact Iv1.aft.get b hb hn
      ok := fun _ => a2.ok Iv1.ok
      low := fun e h3 h4 h5 => by
        have h6 : e ≤ h.low := Nat.le_trans h3 (Nat.min_le_left _ _); have h7 : e ≤ j := Nat.le_trans h3 (Nat.min_le_right _ _); exact Nat.le_min.2 ⟨Iv1.aft.low e h6 h4 h5, h7⟩
      chg := fun b hb => by
        rw [hgB, hgA]; by_cases e : b = j
        · rw [if_pos e, if_pos e]; exact .inl rfl
        rw [if_neg e, if_neg e]; rcases Iv1.aft.chg b hb with h3 | h3
        · exact .inl h3
        exact .inr (Nat.le_trans (Nat.min_le_left _ _) h3)
      lowle := by
        show min h1.low j ≤ min h.low j; have := Iv1.aft.lowle
        omega }
    cells := fun c hc => (Iv1.cells c hc).keep (fun b hb => by
      rw [hgB, if_neg (fun e => hj2 (by subst e; exact List.mem_flatMap.2 ⟨c, hc, hb⟩))]) goes1 fun b hb => List.mem_append_left _ (List.mem_flatMap.2 ⟨c, hc, hb⟩)
    new := Iv1.new
    apart := Iv1.apart
    mark := fun d hd => by
      obtain ⟨m1, m2⟩ := Iv1.mark d hd; refine ⟨m1, ?_⟩; rw [hgB, if_neg (fun e => by subst e; rw [hg1] at m2; cases m2)]; exact m2
    marks := Iv1.marks
    slots := Iv1.slots.nx goes1 }
  have hfr : fr = ⟨fr.t, n, fr.marks⟩ := by cases fr; cases hfn; rfl
  rw [hfr]; refine (hbody (h.set j B) (own γ) (j :: S) fr.t (h1.set j B) fr.marks I2).mono fun e2 fr2 h2 hq2 => ?_; obtain ⟨_, fl2, σ2, Iv2, hQb⟩ := hq2; have hj3 : j ∉ own σ2 := fun hm => (Iv2.new j hm).2 List.mem_cons_self
  have g2 : h2.get j = some B := by
    rw [Iv2.aft.get j hjn hj1, hgA, if_pos rfl]
  refine ⟨_, _, _, _, _, _, _, _, g2, .v .bool (jumpOf e2).isNone, _, ⟨e2, fl2, σ2, hQb, rfl, rfl⟩, ?_, RepV.ofBool _⟩
  let C : AObj := .loopo (bif (jumpOf e2).isNone then .ready else .done) (jumpOf e2) tmps n ps assign body dm
  have hgC : ∀ b, (h2.set j C).get b = if b = j then some C else h2.get b := fun b => Heap.get_set g2 ..; have at1 : Aft h (h.set j B) (j :: own γ) := Aft.set hg List.mem_cons_self; have at2 : Aft h h2 (j :: own γ) := at1.trans Iv2.aft fun i hi => .inl (List.mem_cons_of_mem _ hi); have at3 : Aft h (h2.set j C) (j :: own γ) := at2.trans (Aft.set (B := [j]) g2 List.mem_cons_self) fun i hi => .inl (by rw [List.mem_singleton.1 hi]; exact List.mem_cons_self)
  have hnew : ∀ b ∈ j :: own σ2, b ∈ j :: own γ ∨ h.next ≤ b := fun b hb => by
    rcases List.mem_cons.1 hb with hb | hb
    · subst hb; exact .inl List.mem_cons_self
    rcases (Iv2.new b hb).1 with h3 | h3
    · exact .inl (List.mem_cons_of_mem _ h3)
    exact .inr h3
  have goes3 : Goes h (j :: own γ ++ S) (h2.set j C) (j :: own σ2 ++ S) := at3.goes hok (fun b hb => List.mem_append_left _ hb) fun b hb => by
    rcases List.mem_append.1 hb with hb | hb
    · rcases hnew b hb with h3 | h3
      · exact .inl (List.mem_append_left _ h3)
      exact .inr h3
    exact .inl (List.mem_append_right _ hb)
  refine ⟨at3, hnew, List.nodup_cons.2 ⟨hj3, Iv2.apart⟩, fun c hc => ?_⟩; show CellR (h2.set j C) (j :: own σ2 ++ S) c.1 c.2; rcases List.mem_cons.1 hc with hc' | hc'
  · subst hc'; exact ⟨j, tmps, dm, rfl, List.mem_append_left _ List.mem_cons_self, by rw [hgC, if_pos rfl], hsl.nx goes3⟩
  refine (Iv2.cells c hc').keep (fun b hb => ?_) (fun b o hb hn => ⟨?_, fun hm => ?_⟩) fun b hb => List.mem_append_left _ (List.mem_cons_of_mem _ (List.mem_flatMap.2 ⟨c, hc', hb⟩))
  · rw [hgC, if_neg (fun e => hj3 (by subst e; exact List.mem_flatMap.2 ⟨c, hc', hb⟩))]
  · rw [hgC, if_neg (fun e => hn (by subst e; exact List.mem_append_right _ List.mem_cons_self))]; exact hb
  rcases List.mem_append.1 hm with hm | hm
  · rcases List.mem_cons.1 hm with hm | hm
    · exact hn (by subst hm; exact List.mem_append_right _ List.mem_cons_self)
    exact hn (List.mem_append_left _ hm)
  exact hn (List.mem_append_right _ (List.mem_cons_of_mem _ hm))
theorem VYG.mono {yv : Value} {args : List PV} {Q Q' : PV → Sto → Prop} (hy : VYG P orc yv args γ Q) (hq : ∀ r s, Q r s → Q' r s) : VYG P orc yv args γ Q' := fun h S us a1 a2 a3 a4 a5 a6 => by
  obtain ⟨j, e, hY⟩ := hy h S us a1 a2 a3 a4 a5 a6; exact ⟨j, e, hY.mono fun u h' ⟨r, γ', q1, q2⟩ => ⟨r, γ', hq _ _ q1, q2⟩⟩
section
variable (P orc)
def VFGK (f : FuncId) (args : List PV) (γ : Sto) (Q : Sto → Prop) : Prop := ∀ (h : Heap) (S : List Nat) (us : List Value), HOk h → SOk h S → (∀ c ∈ γ, CellR h (own γ ++ S) c.1 c.2) → (own γ).Nodup → (∀ b ∈ own γ, b ∉ S) → RepL h (own γ ++ S) args us →
  EvFK P orc f us h fun _ h' => ∃ γ', Q γ' ∧ Made S h h' γ γ'
def IterC {X : Type} (f : FuncId) (a c : List PV) (asl : X → List PV) (xs : List X) : Prop := ∀ (yv : Value) (I : List X → Sto → Prop) (E : Sto → Prop) (γ : Sto),
  (∀ x rest γ, I (x :: rest) γ → VYG P orc yv (asl x) γ fun r γ' => (r = .v .bool true ∧ I rest γ') ∨ (r = .v .bool false ∧ E γ')) → I xs γ → VFGK P orc f (a ++ [.raw yv] ++ c) γ fun γ' => I [] γ' ∨ E γ'
end
theorem VFGK.enter {f : FuncId} {args : List PV} {fn : Func} {c : Code} {Q : Sto → Prop} (hfn : P.funcs[f]? = some fn) (hc : fn.body = some c) (hres : fn.results.toList = []) (hn : (Nat.blt 4000 fn.ntmps || Nat.blt fn.ntmps args.length) = false)
    (hb : VC P orc none c fn.ntmps (argVL 0 args) γ (fun e _ σ => e.goes = true ∧ Q σ)) : VFGK P orc f args γ Q := fun h S us hok hS hcells hnd hsep ha => by
  have hl := ha.len
  have hn2 : Nat.blt 4000 fn.ntmps = false ∧ Nat.blt fn.ntmps args.length = false := by simpa using hn
  have n3 := nble_no hn2.1; have n4 := nble_no hn2.2; have ha' : RepL (entry h) (own γ ++ S) args us := RepL.nx (h := h) (h' := entry h) (fun _ _ a b => ⟨a, b⟩) ha
  have I0 : Iv (entry h) (own γ) S (entry h) γ (fillTr .leaf 0 us) [] (argVL 0 args) := {
    ok := hok
    s0 := hS.1
    aft := Aft.refl _ _
    cells := fun c hc => (hcells c hc).keep (fun _ _ => rfl) (fun _ _ a b => ⟨a, b⟩) fun b hb => List.mem_append_left _ (List.mem_flatMap.2 ⟨c, hc, hb⟩)
    new := fun b hb => ⟨.inl hb, hsep b hb⟩
    apart := hnd
    mark := fun d hd => by cases hd
    marks := List.nodup_nil
    slots := slots_args (hS.2.ent hcells) ha' (by omega) }
  refine EvFK.enter hfn hc (by rw [hl]; exact hn) ((hb (entry h) (own γ) S _ (entry h) [] I0).mono fun e fr h1 hq => ?_); obtain ⟨_, fl', σ', Iv1, he, hQ⟩ := hq; obtain ⟨h2, d1, d2, d3⟩ := drops_ok Iv1.marks fun d hd => (Iv1.mark d hd).2
  have hgd : ∀ b o, h1.get b = some o → o ≠ .defd → h2.get b = some o := fun b o hg hne => by
    rw [d3 b (fun hm => hne (by have := (Iv1.mark b hm).2; rw [hg] at this; exact Option.some.inj this))]; exact hg
  have a2 : Aft (entry h) h2 (own γ) := Iv1.aft.trans d2 fun i hi => .inr (Iv1.mark i hi).1
  have hrow : ∀ c ∈ σ', ∀ b ∈ blk c.1, h2.get b = h1.get b := fun c hc b hb => by
    obtain ⟨o, hg, hne⟩ := (Iv1.cells c hc).isObj b hb; rw [hgd b _ hg hne, hg]
  have hcell2 : ∀ c ∈ σ', CellR h2 (own σ' ++ S) c.1 c.2 := fun c hc => by
    have hx := Iv1.cells c hc; have hN : GoesR h1 (own σ' ++ S) h2 (own σ' ++ S) := fun b _ hg hne hbS => ⟨hgd b _ hg hne, hbS⟩; have hgb := hrow c hc; obtain ⟨w, cc⟩ := c
    cases cc with
    | row e τ xs =>
      rcases hx with hx | ⟨b, rs, m, h3, h4, h5, h6⟩
      · exact .inl hx
      exact .inr ⟨b, rs, m, h3, h4, hgd b _ h5 (by simp), h6.1, fun i hi => (h6.2 i hi).nxR hN⟩
    | var cs =>
      obtain ⟨b, e, vs, h3, h4, h5, h6, h7⟩ := hx
      exact ⟨b, e, vs, h3, h4, hgd b _ h5 (by simp), h6.nxR hN, h7⟩
    | cap e k τ xs =>
      obtain ⟨b, rs, m, h3, h4, h5, h6, h7, h8⟩ := hx
      exact ⟨b, rs, m, h3, h4, hgd b _ h5 (by simp), h6, h7, h8.1, fun i hi => (h8.2 i hi).nxR hN⟩
    | mp κ ν kvs =>
      obtain ⟨b, es, c, h3, h4, h5, h6, h7⟩ := hx
      exact ⟨b, es, c, h3, h4, hgd b _ h5 (by simp), h6, fun i hi hj => ⟨⟨(h7 i hi hj).1.1, (h7 i hi hj).1.2.nxR hN⟩, ⟨(h7 i hi hj).2.1, (h7 i hi hj).2.2.nxR hN⟩⟩⟩
    | it s pos =>
      obtain ⟨b, h3, h4, h5⟩ := hx
      exact ⟨b, h3, h4, hgd b _ h5 (by simp)⟩
    | loop st jump n fl ps assign body =>
      obtain ⟨l, tmps, d, h3, h4, h5, h6⟩ := hx
      exact ⟨l, tmps, d, h3, h4, hgd l _ h5 (by simp), h6.nxR hN⟩
    | cel e n cs =>
      rcases hx with hx | ⟨b, rs, m, h3, h4, h5, h6, h7⟩
      · exact .inl hx
      exact .inr ⟨b, rs, m, h3, h4, hgd b _ h5 (by simp), h6.nxR hN, h7⟩
  have hnew2 : ∀ b ∈ own σ', b ∈ own γ ∨ h.next ≤ b := fun b hb => (Iv1.new b hb).1; refine ⟨he, h2, [], d1, by rw [hres]; rfl, σ', hQ, ⟨⟨a2.next, a2.get, fun x => a2.ok x, fun e h3 h4 h5 => Nat.le_min.2 ⟨h3, a2.low e (Nat.le_trans h4 (Nat.le_refl _)) h4 h5⟩, fun b hb => ?_, Nat.min_le_left _ _⟩, hnew2, Iv1.apart, fun c hc => (hcell2 c hc).keep (fun _ _ => rfl) (fun _ _ a b => ⟨a, b⟩) fun b hb => List.mem_append_left _ (List.mem_flatMap.2 ⟨c, hc, hb⟩)⟩⟩; rcases a2.chg b hb with h3 | h3
  · exact .inl h3
  exact .inr (Nat.le_trans (Nat.min_le_right _ _) h3)
theorem IterC.enter {X : Type} {f : FuncId} {a c : List PV} {asl : X → List PV} {xs : List X} {fn : Func} {cd : Code} (hfn : P.funcs[f]? = some fn) (hc : fn.body = some cd) (hres : fn.results.toList = []) (hn : ∀ yv : Value, (Nat.blt 4000 fn.ntmps || Nat.blt fn.ntmps (a ++ [PV.raw yv] ++ c).length) = false)
    (hb : ∀ (yv : Value) (I : List X → Sto → Prop) (E : Sto → Prop) (γ : Sto), (∀ x rest γ, I (x :: rest) γ → VYG P orc yv (asl x) γ fun r γ' => (r = .v .bool true ∧ I rest γ') ∨ (r = .v .bool false ∧ E γ')) → I xs γ →
      VC P orc none cd fn.ntmps (argVL 0 (a ++ [.raw yv] ++ c)) γ (fun e _ σ => e.goes = true ∧ (I [] σ ∨ E σ))) : IterC P orc f a c asl xs := fun yv I E γ hy h0 => VFGK.enter hfn hc hres (hn yv) (hb yv I E γ hy h0)
theorem VC.rangeFunc {X : Type} {asl : X → List PV} {xs : List X} {f : FuncId} {a c : List PV} {x : Operand} {ps : Array Tmp} {assign body : Code} {Q : Ex → VL → Sto → Prop} (hg : evV fl x = some (.clo f a c)) (hit : IterC P orc f a c asl xs) (hlen : ∀ y, ps.size = (asl y).length) (hps : ps.toList.all (fun p => Nat.blt p n) = true) (hn4 : Nat.ble n 4000 = true)
    (I : List X → Sto → Prop) (E : Ex → Sto → Prop) (h0 : I xs σ)
    (hb : ∀ j y rest σ, I (y :: rest) σ → VC P orc (some j) assign n (prmVL ps.toList (asl y) fl) σ fun e fl' σ' => e = .normal ∧ VC P orc (some j) body n fl' σ' fun e _ σ' => (e = .normal ∧ I rest σ') ∨ (e ≠ .normal ∧ E e σ'))
    (h1 : ∀ σ', I [] σ' → Q .normal fl σ') (h2 : ∀ e σ', e ≠ .normal → E e σ' → Q e fl σ') : VC P orc none (.rangeFunc x ps assign body) n fl σ Q := fun hb0 G S0 t h ms Iv0 => by
  obtain ⟨va, vc, hv, ra, rc⟩ := (evV_ok Iv0.slots hg : RepPV h _ (.clo f a c) (evalO t x))
  let hm := h.push .defd
  let j := hm.next
  let yv : Value := .func (.yield j) #[] #[]
  let L : AObj := .loopo .ready none t n ps assign body h.next
  have hjd : j = h.next + 1 := rfl
  have hg2 : ∀ b, (hm.push L).get b = if b = h.next + 1 then some L else if b = h.next then some .defd else h.get b := fun b => by
    rw [Heap.get_push]; show (if b = h.next + 1 then _ else (h.push .defd).get b) = _; rw [Heap.get_push]
  have ap : Aft h (hm.push L) (j :: own σ) := (Aft.push h .defd _).trans (Aft.push hm L (j :: own σ)) fun i hi => .inl hi; have hlt : ∀ b ∈ own σ, b < h.next := own_lt Iv0.cells Iv0.ok; have Lc0 := Iv0.lc
  have goes0 : Goes h (own σ ++ S0) (hm.push L) (j :: own σ ++ S0) := fun b o hb hn => by
    have hbn : b < h.next := Iv0.ok b o hb; refine ⟨by rw [hg2, if_neg (by omega), if_neg (by omega)]; exact hb, fun hm2 => ?_⟩; rcases List.mem_append.1 hm2 with hm2 | hm2
    · rcases List.mem_cons.1 hm2 with hm2 | hm2
      · omega
      exact hn (List.mem_append_left _ hm2)
    exact hn (List.mem_append_right _ hm2)
  have hS0 : ∀ b ∈ S0, b < h.next := Lc0.s0
  have hj1 : j ∉ own σ := fun hm2 => by have := hlt j hm2; omega
  have hit2 := hit yv (fun rest γ => ∃ σ', γ = (yv, .loop .ready none n fl ps assign body) :: σ' ∧ I rest σ') (fun γ => ∃ e σ', e ≠ .normal ∧ γ = (yv, .loop .done (jumpOf e) n fl ps assign body) :: σ' ∧ E e σ') ((yv, .loop .ready none n fl ps assign body) :: σ)
    (fun y rest γ ⟨σ', hγ, hI⟩ => by
      subst hγ; refine (VYG.round (hlen y) (fun p hp => List.all_eq_true.1 hps p hp) (nble hn4) (fun jj => hb jj y rest σ' hI)).mono fun r s hq => ?_; obtain ⟨e, fl', σ2, hQ, rfl, rfl⟩ := hq; rcases hQ with ⟨rfl, hI2⟩ | ⟨hne, hE⟩
      · exact .inl ⟨rfl, σ2, rfl, hI2⟩
      refine .inr ⟨?_, e, σ2, hne, ?_, hE⟩
      · cases e <;> first | exact absurd rfl hne | rfl
      cases e <;> first | exact absurd rfl hne | rfl)
    ⟨σ, rfl, h0⟩
  have how : ∀ (c : Cell) (s : Sto), own ((yv, c) :: s) = j :: own s := fun c s => rfl; refine EvC.rangeFunc (fr := ⟨t, n, ms⟩) hv ((hit2 (hm.push L) S0 _ (ap.ok Iv0.ok) ⟨fun b hb => by have := hS0 b hb; have := ap.next; omega, (Iv0.slots.nx goes0).1.less fun b hb => List.mem_append_right _ hb⟩ (fun cc hc => ?_) (by rw [how]; exact List.nodup_cons.2 ⟨hj1, Iv0.apart⟩) (fun b hb => ?_) ?_).mono fun u h3 hq => ?_)
  · rw [how]; rcases List.mem_cons.1 hc with hc' | hc'
    · subst hc'; exact ⟨j, t, h.next, rfl, List.mem_append_left _ List.mem_cons_self, by rw [hg2, if_pos hjd], Iv0.slots.nx goes0⟩
    refine (Iv0.cells cc hc').keep (fun b hb => ?_) goes0 fun b hb => List.mem_append_left _ (List.mem_cons_of_mem _ (List.mem_flatMap.2 ⟨cc, hc', hb⟩)); have := hlt b (List.mem_flatMap.2 ⟨cc, hc', hb⟩); rw [hg2, if_neg (by omega), if_neg (by omega)]
  · rw [how] at hb; intro hbs; rcases List.mem_cons.1 hb with hb | hb
    · have := hS0 b hbs; omega
    exact (Iv0.new b hb).2 hbs
  · rw [how]; have ry : RepL (hm.push L) (j :: own σ ++ S0) [.raw yv] [yv] := ⟨yv, [], rfl, rfl, rfl⟩; exact ((ra.nx goes0).append ry).append (rc.nx goes0)
  obtain ⟨γ', hq, made⟩ := hq
  have key : ∃ st e σ', st ≠ .busy ∧ γ' = (yv, .loop st (jumpOf e) n fl ps assign body) :: σ' ∧ Q e fl σ' := by
    rcases hq with ⟨σ', rfl, hI⟩ | ⟨e, σ', hne, rfl, hE⟩
    · exact ⟨.ready, .normal, σ', (fun e => by cases e), rfl, h1 σ' hI⟩
    exact ⟨.done, e, σ', (fun e => by cases e), rfl, h2 e σ' hne hE⟩
  obtain ⟨st, e, σ', hst, rfl, hQ⟩ := key; obtain ⟨j', tm, dm, hj', hjS, hgj, _⟩ := made.cells _ List.mem_cons_self
  have hjj : j = j' := by
    have : yv = .func (.yield j') #[] #[] := hj'; injection this with h5; injection h5
  subst hjj; refine ⟨st, e, tm, n, ps, assign, body, dm, hgj, hst, rfl, fl, σ', ?_, hQ⟩; have hnd := made.apart; rw [how] at hnd; obtain ⟨hj3, hnd2⟩ := List.nodup_cons.1 hnd
  let C : AObj := .loopo .exhausted (jumpOf e) tm n ps assign body dm
  have hgC : ∀ b, (h3.set j C).get b = if b = j then some C else h3.get b := fun b => Heap.get_set hgj ..; have ma : Aft (hm.push L) h3 (j :: own σ) := made.aft; have at3 : Aft h (h3.set j C) (j :: own σ) := (ap.trans ma fun i hi => .inl hi).trans (Aft.set (B := [j]) hgj List.mem_cons_self) fun i hi => .inl (by rw [List.mem_singleton.1 hi]; exact List.mem_cons_self)
  have hnew : ∀ b ∈ own σ', b ∈ own σ ∨ h.next ≤ b := fun b hb => by
    rcases made.new b (by rw [how]; exact List.mem_cons_of_mem _ hb) with h5 | h5
    · rw [how] at h5; rcases List.mem_cons.1 h5 with h5 | h5
      · subst h5; exact absurd hb hj3
      exact .inl h5
    have := ap.next; exact .inr (by omega)
  have goes3 : Goes h (own σ ++ S0) (h3.set j C) (own σ' ++ S0) := fun b o hb hn => by
    have hbn : b < h.next := Iv0.ok b o hb
    refine ⟨by rw [at3.get b hbn (fun hm2 => by
      rcases List.mem_cons.1 hm2 with hm2 | hm2
      · omega
      exact hn (List.mem_append_left _ hm2))]; exact hb, fun hm2 => ?_⟩
    rcases List.mem_append.1 hm2 with hm2 | hm2
    · rcases hnew b hm2 with h5 | h5
      · exact hn (List.mem_append_left _ h5)
      omega
    exact hn (List.mem_append_right _ hm2)
  have hdef : h3.get h.next = some .defd := by
    rw [ma.get h.next (by show h.next < h.next + 1 + 1; omega) (fun hm2 => by
      rcases List.mem_cons.1 hm2 with hm2 | hm2
      · omega
      have := hlt _ hm2; omega), hg2, if_neg (by omega), if_pos rfl]
  exact {
    ok := at3.ok Iv0.ok
    s0 := Iv0.s0
    aft := Iv0.aft.trans at3 fun i hi => by
      have := Iv0.aft.next; rcases List.mem_cons.1 hi with hi | hi
      · right; omega
      exact (Iv0.new i hi).1
    cells := fun c hc => (made.cells c (List.mem_cons_of_mem _ hc)).keep (fun b hb => by
        rw [hgC, if_neg (fun e => hj3 (by subst e; exact List.mem_flatMap.2 ⟨c, hc, hb⟩))]) (fun b o hb hn => ⟨by
        rw [hgC, if_neg (fun e => hn (by subst e; exact List.mem_append_left _ List.mem_cons_self))]; exact hb, fun hm2 => hn (by
        rcases List.mem_append.1 hm2 with hm2 | hm2
        · exact List.mem_append_left _ (List.mem_cons_of_mem _ hm2)
        exact List.mem_append_right _ hm2)⟩) fun b hb => List.mem_append_left _ (List.mem_flatMap.2 ⟨c, hc, hb⟩)
    new := fun b hb => by
      have := Iv0.aft.next; rcases hnew b hb with h5 | h5
      · exact Iv0.new b h5
      exact ⟨.inr (by omega), fun hm2 => by have := hS0 b hm2; omega⟩
    apart := hnd2
    mark := fun d hd => by
      have := Iv0.aft.next; rcases List.mem_cons.1 hd with hd | hd
      · subst hd; exact ⟨this, by rw [hgC, if_neg (by omega)]; exact hdef⟩
      obtain ⟨m1, m2⟩ := Iv0.mark d hd; refine ⟨m1, ?_⟩; have hdn : d < h.next := Iv0.ok d _ m2
      rw [at3.get d hdn (fun hm2 => by
        rcases List.mem_cons.1 hm2 with hm2 | hm2
        · omega
        obtain ⟨c, hc, hb⟩ := List.mem_flatMap.1 hm2; obtain ⟨o, hgo, hne⟩ := (Iv0.cells c hc).isObj d hb; rw [m2] at hgo
        exact hne (Option.some.inj hgo).symm)]
      exact m2
    marks := List.nodup_cons.2 ⟨fun hm2 => by have := Iv0.ok _ _ (Iv0.mark _ hm2).2; omega, Iv0.marks⟩
    slots := Iv0.slots.nx goes3 }
theorem VO.callY0 {f : Operand} {args : Array Operand} {ats : Array TypeId} {yv : Value} {asl : List PV} {Q : PV → Sto → Prop} (hf : evV fl f = some (.raw yv)) (ha : evVs fl args.toList = some asl) (hc : VYG P orc yv asl σ Q) (hk : ∀ r σ', Q r σ' → VO P orc ops n l ((d, r) :: fl) σ' K)
    (hw : wantV ops fl g = some true := by rfl) (hn : (Nat.blt d n && Nat.ble n 4000) = true := by rfl) : VO P orc ops n (⟨some d, .call { callee := .value f, args := args, argTypes := ats }, ty, pos, after, g⟩ :: l) fl σ K :=
  VO.callY (σ := []) σ (List.append_nil _) hf ha hc (fun r σ' hq => by rw [List.append_nil]; exact hk r σ' hq) hw hn
end Go.Fs
namespace Go.Fs
variable {P : Program} {orc : FuncId → List Value → Heap → Option (Value × Heap)} {h h' h0 h1 h2 : Heap} {S S' S0 B G : List Nat} {σ σ' σr : Sto} {t t' : Tr} {ms : List Nat} {fl : VL} {ops : Array Oper} {n i mem : Nat} {l : List Oper} {K : VL → Sto → Prop} {Q : Ex → VL → Sto → Prop}
  {d : Tmp} {ty : TypeId} {pos : String} {after : Array Edge} {op : Op} {v pv : PV} {g : Option (Nat × Bool)} {x y z : Operand} {T T' e : TypeId} {τ τ' : Ty} {w : Value}
theorem getDg {α : Type} (xs : List α) (d : α) {i : Nat} (h : i < xs.length) : xs.getD i d = xs[i] := by rw [List.getD_eq_getElem?_getD, List.getElem?_eq_getElem h]; rfl
section
variable {α : Type} [DecidableEq α] {dd : α} {xs : List α}
end
end Go.Fs
namespace Go.Fs
variable {α : Type}
structure Weak (lt : α → α → Bool) : Prop where
  asym : ∀ a b, lt a b = true → lt b a = false
  neg : ∀ a b c, lt a b = false → lt b c = false → lt a c = false
variable {lt : α → α → Bool}
def eqv (lt : α → α → Bool) (a b : α) : Bool := !lt a b && !lt b a
def SameEq (lt : α → α → Bool) (xs ys : List α) : Prop := ∀ a, xs.filter (eqv lt a) = ys.filter (eqv lt a)
variable {d : α}
abbrev at_ (xs : List α) (i : Nat) (d : α) : α := xs.getD i d
structure Seg (lt : α → α → Bool) (xs ys : List α) (a b : Nat) : Prop where
  len : ys.length = xs.length
  lo : ys.take a = xs.take a
  hi : ys.drop b = xs.drop b
  same : SameEq lt xs ys
theorem three (xs : List α) {a b : Nat} (h : a ≤ b) : xs = xs.take a ++ ((xs.take b).drop a ++ xs.drop b) := by
  conv => lhs; rw [← List.take_append_drop b xs]
  rw [← List.append_assoc]; congr 1
  conv => lhs; rw [← List.take_append_drop a (xs.take b)]
  rw [List.take_take, Nat.min_eq_left h]
structure Insd (lt : α → α → Bool) (d : α) (ys : List α) (a j i : Nat) : Prop where
  srt : ∀ p q, a ≤ p → p < q → q ≤ i → q ≠ j → p ≠ j → lt (ys.getD q d) (ys.getD p d) = false
  less : ∀ q, j < q → q ≤ i → lt (ys.getD j d) (ys.getD q d) = true
end Go.Fs
namespace Go.Fs
variable {α : Type} {lt : α → α → Bool} {d : α} {ys : List α} {a b m n s e i j k : Nat}
theorem four (h1 : s ≤ m) (h2 : m ≤ e) : ys = ys.take s ++ ((ys.drop s).take (m - s) ++ ((ys.drop m).take (e - m) ++ ys.drop e)) := by
  conv => lhs; rw [← List.take_append_drop s ys, ← List.take_append_drop (m - s) (ys.drop s), List.drop_drop, show s + (m - s) = m by omega, ← List.take_append_drop (e - m) (ys.drop m), List.drop_drop, show m + (e - m) = e by omega]
structure Cut (lt : α → α → Bool) (d : α) (ys : List α) (a m b s e : Nat) : Prop where
  le : s ≤ m ∧ m ≤ e ∧ a ≤ s ∧ e ≤ b
  lo : a < s → e < b → lt (ys.getD e d) (ys.getD (s - 1) d) = false
  hi : s < m → m < e → lt (ys.getD (e - 1) d) (ys.getD s d) = true
end Go.Fs
namespace Go.Fs
variable {P : Program} {orc : FuncId → List Value → Heap → Option (Value × Heap)} {h h' h0 h1 h2 : Heap} {S S' S0 B G : List Nat} {σ σ' σr : Sto} {t t' : Tr} {ms : List Nat} {fl : VL} {ops : Array Oper} {n i mem : Nat} {l : List Oper} {K : VL → Sto → Prop} {Q : Ex → VL → Sto → Prop}
  {d : Tmp} {ty : TypeId} {pos : String} {after : Array Edge} {op : Op} {v pv : PV} {g : Option (Nat × Bool)} {x y z : Operand} {T T' e : TypeId} {τ τ' : Ty} {w : Value}
end Go.Fs
namespace Go.Fs
variable {P : Program} {orc : FuncId → List Value → Heap → Option (Value × Heap)} {rnd : Option Nat} {h h' h0 h1 h2 : Heap} {S S' S0 B G : List Nat} {σ σ' σr : Sto} {t t' : Tr} {ms : List Nat} {fl : VL} {ops : Array Oper} {n i mem : Nat} {l : List Oper} {K : VL → Sto → Prop} {Q : Ex → VL → Sto → Prop}
  {d : Tmp} {ty : TypeId} {pos : String} {after : Array Edge} {op : Op} {v pv : PV} {g : Option (Nat × Bool)} {x y z : Operand} {T T' e : TypeId} {τ τ' : Ty} {w : Value}
end Go.Fs
namespace Go.Fs
variable {P : Program} {orc : FuncId → List Value → Heap → Option (Value × Heap)} {rnd : Option Nat} {h h' h0 h1 h2 : Heap} {S S' S0 B G : List Nat} {σ σ' σr : Sto} {t t' : Tr} {ms : List Nat} {fl : VL} {ops : Array Oper} {n i mem : Nat} {l : List Oper} {K : VL → Sto → Prop} {Q : Ex → VL → Sto → Prop}
  {d : Tmp} {ty : TypeId} {pos : String} {after : Array Edge} {op : Op} {v pv : PV} {g : Option (Nat × Bool)} {x y z : Operand} {T T' e : TypeId} {τ τ' : Ty} {w : Value}
inductive SetP : (τ : Ty) → τ.den → Nat → (τ' : Ty) → τ'.den → τ.den → Prop where
  | o {τ : Ty} {x y : τ.den} : SetP τ x 0 τ y y
  | l {a b : Ty} {x : (Ty.pair a b).den} {k : Nat} {τ' : Ty} {y : τ'.den} {z : a.den} (hs : SetP a x.1 k τ' y z) : SetP (.pair a b) x k τ' y (z, x.2)
  | r {a b : Ty} {x : (Ty.pair a b).den} {k k' : Nat} {τ' : Ty} {y : τ'.den} {z : b.den} (hs : SetP b x.2 k τ' y z) (hk : k' = a.size + k := by rfl) : SetP (.pair a b) x k' τ' y (x.1, z)
end Go.Fs
namespace Go.Fs
variable {P : Program} {orc : FuncId → List Value → Heap → Option (Value × Heap)} {rnd : Option Nat} {h h' h0 h1 h2 : Heap} {S S' S0 B G : List Nat} {σ σ' σr : Sto} {t t' : Tr} {ms : List Nat} {fl : VL} {ops : Array Oper} {n i mem : Nat} {l : List Oper} {K : VL → Sto → Prop} {Q : Ex → VL → Sto → Prop}
  {d : Tmp} {ty : TypeId} {pos : String} {after : Array Edge} {op : Op} {v pv : PV} {g : Option (Nat × Bool)} {x y z : Operand} {T T' e : TypeId} {τ τ' : Ty} {w : Value}
end Go.Fs
namespace Go.Fs
variable {P : Program} {orc : FuncId → List Value → Heap → Option (Value × Heap)} {rnd : Option Nat} {h h' h0 h1 h2 : Heap} {S S' S0 B G : List Nat} {σ σ' σr : Sto} {t t' : Tr} {ms : List Nat} {fl : VL} {ops : Array Oper} {n i mem : Nat} {l : List Oper} {K : VL → Sto → Prop} {Q : Ex → VL → Sto → Prop}
  {d : Tmp} {ty : TypeId} {pos : String} {after : Array Edge} {op : Op} {v pv : PV} {g : Option (Nat × Bool)} {x y z : Operand} {T T' e : TypeId} {τ τ' : Ty} {w : Value} {ρ : Sto} {bs nw : List Nat} {tl : Bool}
end Go.Fs
namespace Go.Fs
variable {P : Program} {O : FuncId → List Value → Heap → Option (Value × Heap)} {h h' : Heap} {S : List Nat}
end Go.Fs
namespace Go.Fs
open Go.RowKit (Below)
open Go.Sort Go.Proofs
def Ty.isPlain : Ty → Bool
  | .int _ => true
  | .bool => true
  | .str => true
  | .unit => true
  | .pair a b => a.isPlain && b.isPlain
  | _ => false
def decT : (τ : Ty) → List Value → Option (τ.den × List Value)
  | .int k, vs => match vs with
    | .int k' n :: r => if k' = k then some (n, r) else none
    | _ => none
  | .bool, vs => match vs with
    | .bool b :: r => some (b, r)
    | _ => none
  | .str, vs => match vs with
    | .string s :: r => some (s, r)
    | _ => none
  | .unit, vs => some ((), vs)
  | .pair a b, vs => match decT a vs with
    | some (x, r) => match decT b r with
      | some (y, r') => some ((x, y), r')
      | none => none
    | none => none
  | .flt _, _ => none
  | .sl _, _ => none
  | .mp _ _, _ => none
  | .fn, _ => none
  | .hnd, _ => none
theorem decT_enc : ∀ {τ : Ty} {vs r : List Value} {x : τ.den}, decT τ vs = some (x, r) → vs = τ.flatC x ++ r := by
  intro τ
  induction τ with
  | int k =>
    intro vs r x h; unfold decT at h; split at h
    · rename_i k' n r'; split at h
      · rename_i hk; subst hk; cases h; rfl
      cases h
    cases h
  | bool =>
    intro vs r x h; unfold decT at h; split at h
    · cases h; rfl
    cases h
  | str =>
    intro vs r x h; unfold decT at h; split at h
    · cases h; rfl
    cases h
  | unit => intro vs r x h; cases h; rfl
  | pair a b iha ihb =>
    intro vs r x h; unfold decT at h; split at h
    · rename_i x1 r1 h1; split at h
      · rename_i y1 r2 h2; cases h; rw [iha h1, ihb h2]; show _ = (a.flatC x1 ++ b.flatC y1) ++ r; rw [List.append_assoc]
      cases h
    cases h
  | flt k => intro vs r x h; cases h
  | sl e _ => intro vs r x h; cases h
  | mp a b _ _ => intro vs r x h; cases h
  | fn => intro vs r x h; cases h
  | hnd => intro vs r x h; cases h
theorem flatC_len : ∀ {τ : Ty} (x : τ.den), τ.isPlain = true → (τ.flatC x).length = τ.size := by
  intro τ
  induction τ with
  | int k => intro x _; rfl
  | bool => intro x _; rfl
  | str => intro x _; rfl
  | unit => intro x _; rfl
  | pair a b iha ihb =>
    intro x h; obtain ⟨h1, h2⟩ := band h; show (a.flatC x.1 ++ b.flatC x.2).length = a.size + b.size
    rw [List.length_append, iha _ h1, ihb _ h2]
  | flt k => intro x h; cases h
  | sl e _ => intro x h; cases h
  | mp a b _ _ => intro x h; cases h
  | fn => intro x h; cases h
  | hnd => intro x h; cases h
theorem plain_flat : ∀ {τ : Ty}, τ.isPlain = true → τ.isFlat = true := by
  intro τ
  induction τ with
  | pair a b iha ihb =>
    intro h; obtain ⟨h1, h2⟩ := band h; show (a.isFlat && b.isFlat) = true
    rw [iha h1, ihb h2]; rfl
  | int k => intro _; rfl
  | bool => intro _; rfl
  | str => intro _; rfl
  | unit => intro _; rfl
  | flt k => intro h; cases h
  | sl e _ => intro h; cases h
  | mp a b _ _ => intro h; cases h
  | fn => intro h; cases h
  | hnd => intro h; cases h
section
variable {τ : Ty}
abbrev encL (τ : Ty) (xs : List τ.den) : List Value := xs.flatMap τ.flatC
def decL (τ : Ty) : Nat → List Value → Option (List τ.den)
  | _, [] => some []
  | 0, _ :: _ => none
  | m + 1, v :: vs => match decT τ (v :: vs) with
    | some (x, r) => match decL τ m r with
      | some xs => some (x :: xs)
      | none => none
    | none => none
theorem decL_enc : ∀ {m : Nat} {vs : List Value} {xs : List τ.den}, decL τ m vs = some xs → vs = encL τ xs
  | m, [], xs, h => by
    cases m <;> (unfold decL at h; cases h; rfl)
  | 0, v :: vs, xs, h => by unfold decL at h; cases h
  | m + 1, v :: vs, xs, h => by
    unfold decL at h; split at h
    · rename_i x r h1; split at h
      · rename_i ys h2; cases h; rw [decT_enc h1, decL_enc h2]; rfl
      cases h
    cases h
theorem encL_len (hp : τ.isPlain = true) : ∀ (xs : List τ.den), (encL τ xs).length = xs.length * τ.size
  | [] => by simp
  | x :: r => by
    have e : encL τ (x :: r) = τ.flatC x ++ encL τ r := rfl; rw [e, List.length_append, encL_len hp r, flatC_len x hp, List.length_cons, Nat.add_mul]; omega
theorem encL_af : ∀ (xs : List τ.den), (encL τ xs).all af0 = true
  | [] => rfl
  | x :: r => by
    have e : encL τ (x :: r) = τ.flatC x ++ encL τ r := rfl; rw [e, List.all_append, encL_af r, flatC_af]; rfl
variable {cf : τ.den → τ.den → Int}
local instance denInh : Inhabited τ.den := ⟨zeroD τ⟩
def sortG (cf : τ.den → τ.den → Int) (xs : List τ.den) : List τ.den := (pdq (ltOf cf) xs.toArray 0 xs.toArray.size (Lib.bitLen xs.toArray.size) true true).toList
theorem sortG_spec (sw : SWO (ltOf cf)) (xs : List τ.den) : PermIn 0 xs.toArray.size xs.toArray (sortG cf xs).toArray ∧ SortedIn (ltOf cf) 0 xs.toArray.size (sortG cf xs).toArray := by
  have := pdq_sorts (ltOf cf) sw xs.toArray 0 xs.toArray.size (Lib.bitLen xs.toArray.size) true true (Nat.zero_le _) (Nat.le_refl _) (Or.inl rfl); exact this
theorem sortG_len (sw : SWO (ltOf cf)) (xs : List τ.den) : (sortG cf xs).length = xs.length := by
  have := (sortG_spec sw xs).1.1; simpa using this
def srtG (cf : τ.den → τ.den → Int) (vs : List Value) : Option (List Value) := match decL τ vs.length vs with
  | some xs => some (encL τ (sortG cf xs))
  | none => none
theorem srtG_inv {vs vs' : List Value} (h : srtG cf vs = some vs') : ∃ xs, vs = encL τ xs ∧ vs' = encL τ (sortG cf xs) := by
  unfold srtG at h; split at h
  · rename_i xs hd; cases h; exact ⟨xs, decL_enc hd, rfl⟩
  cases h
theorem srtG_ok (hp : τ.isPlain = true) (sw : SWO (ltOf cf)) : SortV (srtG cf) where
  len vs vs' h := by obtain ⟨xs, rfl, rfl⟩ := srtG_inv h; rw [encL_len hp, encL_len hp, sortG_len sw]
  ino vs vs' h := by obtain ⟨xs, rfl, rfl⟩ := srtG_inv h; exact encL_af _
  out vs vs' h := by obtain ⟨xs, rfl, rfl⟩ := srtG_inv h; exact encL_af _
variable {P : Program} {O : FuncId → List Value → Heap → Option (Value × Heap)} {h h' : Heap} {S : List Nat}
theorem elems_L (hp : τ.isPlain = true) : ∀ {xs : List τ.den} {rs : List Value}, Elems h S τ rs xs → rs = encL τ xs
  | [], rs, he => by
    have := he.1; simp at this
    subst this; rfl
  | x :: xs, rs, he => by
    have hl : rs.length = (xs.length + 1) * τ.size := he.1; have h0 : RepC h S τ ((rs.drop (0 * τ.size)).take τ.size) x := he.2 0 (by simp); rw [Nat.zero_mul, List.drop_zero] at h0; have h1 := flat_cells h0 (plain_flat hp)
    have h2 : Elems h S τ (rs.drop τ.size) xs := ⟨by show (rs.drop τ.size).length = xs.length * τ.size; rw [List.length_drop, hl, Nat.add_mul]; omega, fun i hi => by
      have h3 : RepC h S τ ((rs.drop ((i + 1) * τ.size)).take τ.size) xs[i] := he.2 (i + 1) (Nat.succ_lt_succ hi); show RepC h S τ (((rs.drop τ.size).drop (i * τ.size)).take τ.size) xs[i]; rw [List.drop_drop]
      have e : τ.size + i * τ.size = (i + 1) * τ.size := by rw [Nat.add_mul]; omega
      rw [e]
      exact h3⟩
    have h3 := elems_L hp h2; have e : encL τ (x :: xs) = τ.flatC x ++ encL τ xs := rfl; rw [e, ← h1, ← h3, List.take_append_drop]
end
end Go.Fs
namespace Go.Fs
open Go.RowKit (Below)
open Go.Sort Go.Proofs
variable {P : Program}
def ints : List Value → Option (List Int)
  | [] => some []
  | .int .i64 n :: r => (ints r).map (n :: ·)
  | _ => none
theorem ints_eq : ∀ {cs : List Value} {zs : List Int}, ints cs = some zs → cs = zs.map (.int .i64)
  | [], zs, h => by
    simp only [ints, Option.some.injEq] at h
    subst h; rfl
  | v :: r, zs, h => by
    unfold ints at h; split at h
    · rename_i he; cases he
    · rename_i n r0 he; simp only [List.cons.injEq] at he; obtain ⟨rfl, rfl⟩ := he; obtain ⟨zs0, h1, rfl⟩ := Option.map_eq_some_iff.1 h; rw [ints_eq h1]; rfl
    cases h
theorem ints_map : ∀ zs : List Int, ints (zs.map (.int .i64)) = some zs
  | [] => rfl
  | z :: r => by
    show (ints (r.map (.int .i64))).map (z :: ·) = _; rw [ints_map r]; rfl
def sortI (zs : List Int) : List Int := zs.mergeSort fun x y => decide (x ≤ y)
theorem sortI_length (zs : List Int) : (sortI zs).length = zs.length := by simp [sortI]
def orcJ (fs : FuncId) (O : FuncId → List Value → Heap → Option (Value × Heap)) : FuncId → List Value → Heap → Option (Value × Heap) := fun f xs h =>
  bif Nat.beq f fs then
    match xs with
    | [.slice (some ⟨b, 0, none⟩) n _] =>
      match h.get b with
      | some (.row e cs true more) =>
        bif Nat.ble n cs.length && Nat.ble n 1000000 then
          match ints (cs.take n) with
          | some zs => some (.tuple #[], h.set b (.row e (splice cs 0 ((sortI zs).map (.int .i64))) true more))
          | none => none
        else none
      | _ => none
    | [.slice none 0 0] => some (.tuple #[], h)
    | _ => none
  else O f xs h
variable {B : Nat} {w0 w w' : World} {ρ : Ren} {S : Nat → Prop} {h : Heap}
theorem orcJ_sound {fs : FuncId} {O : FuncId → List Value → Heap → Option (Value × Heap)} (hz : w0.drawn = 0) (hO : CallSound P B w0 O) (hs : Enters P fs)
    (hN : ∀ w, Below B w0 w → Calls P fs #[.slice none 0 0] w fun | .returned v', w' => v' = .tuple #[] ∧ Below w.heap.size w w' | _, _ => False)
    (hT : ∀ (blk off cap : Nat) (zs : List Int) (w : World), Holds (Value.int .i64) w blk off zs.toArray → blk < w.heap.size → zs.length < 4611686018427387904 → Calls P fs #[.slice (some ⟨blk, off, none⟩) zs.length cap] w fun e w' =>
      e = .returned (.tuple #[]) ∧ ∃ n os, w' = grow (putRow (Value.int .i64) (Sort.ahead w n) blk off (zs.mergeSort fun x y => decide (x ≤ y)).toArray) os) : CallSound P B w0 (orcJ fs O) := by
  intro f xs h v h' hf; unfold orcJ at hf
  cases hb : Nat.beq f fs with
  | false =>
    rw [hb] at hf
    exact hO f xs h v h' hf
  | true =>
    have := nbeq hb; subst this; rw [hb] at hf; simp only [cond_true] at hf; split at hf
    · rename_i b n mk; split at hf
      · rename_i e cs more hg; obtain ⟨hc, hf⟩ := bif_some hf; obtain ⟨hle, hn⟩ := band hc; have hle := nble hle; have hn := nble hn; split at hf
        · rename_i zs hss; simp only [Option.some.injEq, Prod.mk.injEq] at hf; obtain ⟨rfl, rfl⟩ := hf; refine ⟨hs, fun ρ S w args' hr ha nn => ?_⟩
          match args', ha with
          | [x'], ha =>
            have hx : VR ρ S (.slice (some ⟨b, 0, none⟩) n mk) x' := ha.2 0 (by simp); obtain ⟨A, c, rfl, hnc, _, _, hbb⟩ := hx.slice_inv; have hb0 : b ≠ 0 := (hr.ids b (hr.objs b _ hg).1).2; obtain ⟨_, rfl, _⟩ := hbb hb0; obtain ⟨_, cur, h1, h2, h3, h4, h5, h6, h7⟩ := hr.objs b _ hg; have hlt : (ρ b).block < w.heap.size := (Array.getElem?_eq_some_iff.1 h1).1
            have hlr : LR ρ S (cs.take n) (cur.take n) := by
              refine LR.of_get? (by simp; omega) fun i v v' hv hv' => ?_; rw [List.getElem?_take] at hv hv'; split at hv
              · rename_i hin; rw [if_pos hin] at hv'; have := h7 i (by omega); simpa [List.getD, hv, hv'] using this
              cases hv
            have heq0 := ints_eq hss
            have heq : cur.take n = zs.map (.int .i64) := by rw [← heq0]; exact hlr.eq_af0 (by rw [heq0]; simp [af0])
            have hsl : zs.length = n := by
              have := congrArg List.length heq; simp at this; omega
            have hold : Holds (Value.int .i64) w (ρ b).block 0 zs.toArray := by
              intro j hj
              have hj' : j < zs.length := by simpa using hj
              have h8 := congrArg (·[j]?) heq; simp [show j < n by omega, hj'] at h8; have h9 : cur[j]? = some (.int .i64 zs[j]) := h8
              have h10 : cur.toArray[0 + j]? = some (.int .i64 zs[j]) := by simpa using h9
              refine ⟨?_, ?_⟩
              · simp only [World.cell?, h1, Option.isSome_none, Bool.false_eq_true, if_false, h10]; simp [hj']
              rw [Nat.zero_add]; exact frozen_soft h1 (by omega)
            have hC : CallsIn Fence.wide nn P f #[.slice (some ⟨(ρ b).block, 0, none⟩) zs.length c] w _ := callsIn_wide.2 (hT (ρ b).block 0 c _ w hold hlt (by omega)); rw [hsl] at hC
            have hat : (ρ b).at 0 = ⟨(ρ b).block, 0, none⟩ := by simp [Loc.at, h2]
            rw [hat]; refine hC.mono fun e' w' hret => ?_; obtain ⟨rfl, k, os, rfl⟩ := hret
            have hput : (putCells (Value.int .i64) 0 (zs.mergeSort fun x y => decide (x ≤ y)).toArray cur.toArray).toList = cur.take 0 ++ (sortI zs).map (.int .i64) ++ cur.drop (0 + ((sortI zs).map (Value.int .i64)).length) := by
              apply List.ext_getElem?; intro j; simp only [List.take_zero, List.nil_append, Nat.zero_add, List.length_map, sortI_length]; by_cases hj : j < zs.length
              · rw [List.getElem?_append_left (by simpa [sortI_length] using hj)]; simp [putCells, sortI, hj, show j < cur.length by omega]
              rw [List.getElem?_append_right (by simpa [sortI_length] using Nat.le_of_not_lt hj)]; simp [putCells, sortI_length, hj]; congr 1; omega
            have m1 : Moved P B w0 ρ ρ S h (h.set b (.row e (splice cs 0 ((sortI zs).map (.int .i64))) true more)) w (putRow (Value.int .i64) w (ρ b).block 0 (zs.mergeSort fun x y => decide (x ≤ y)).toArray) := by
              refine Moved.set hr hg rfl rfl rfl rfl rfl (by simp [putRow, mapBlock]) (fun k hk => by simp [putRow, mapBlock, Array.getElem?_modify, Ne.symm hk]) ?_; refine ⟨_, ?_, h2, ?_, h4, ?_, ?_, LR.spliceCur h7 h5 (LR.map _ _ _ fun x _ => .lit rfl) (by simp [sortI_length]; omega)⟩
              · rw [← hput]; simp [putRow, mapBlock, Array.getElem?_modify, h1, onCells]
              · simp [sortI_length, h3]; omega
              · simp [splice, sortI_length]; omega
              intro hm; have := h6 hm; simp [splice, sortI_length]; omega
            have m2 := Moved.grewWorld m1.hr (w' := grow (putRow (Value.int .i64) (Sort.ahead w k) (ρ b).block 0 (zs.mergeSort fun x y => decide (x ≤ y)).toArray) os)
              ⟨rfl, rfl, rfl, by simp [grow, putRow, mapBlock, Sort.ahead], fun j hj => by
                rw [heap_grow_old _ _ (by simpa [putRow, mapBlock, Sort.ahead] using hj)]; rfl⟩ (by rw [hz]; exact Nat.zero_le _)
            exact ⟨ρ, m1.trans m2, VR.undef⟩
        cases hf
      cases hf
    · simp only [Option.some.injEq, Prod.mk.injEq] at hf; obtain ⟨rfl, rfl⟩ := hf; refine ⟨hs, fun ρ S w args' hr har nn => ?_⟩; have he : args' = [.slice none 0 0] := har.eq_of_af (by rfl); subst he; have hC : CallsIn Fence.wide nn P f #[.slice none 0 0] w _ := callsIn_wide.2 (hN w hr.below); refine hC.mono fun e w' hret => ?_
      cases e with
      | returned v' =>
        obtain ⟨rfl, hb⟩ := hret
        exact ⟨ρ, Moved.grewWorld hr hb (by rw [hz]; exact Nat.zero_le _), VR.undef⟩
      | panicked c => exact hret.elim
      | outgrown => exact hret.elim
    cases hf
end Go.Fs
namespace Go.Fs
variable {P : Program} {orc : FuncId → List Value → Heap → Option (Value × Heap)} {h h' : Heap} {S S' : List Nat} {σ : Sto}
theorem RepL.mem_raw {w : Value} : ∀ {cs : List PV} {us : List Value}, RepL h S cs us → PV.raw w ∈ cs → w ∈ us
  | [], _, _, hm => by cases hm
  | c :: cs, us, ⟨u, r, h1, h2, h3⟩, hm => by
    subst h1; rcases List.mem_cons.1 hm with e | hm
    · subst e; have : u = w := h2; subst this; exact List.mem_cons_self
    exact List.mem_cons_of_mem _ (RepL.mem_raw h3 hm)
end Go.Fs
namespace Go.Fs
variable {P : Program} {fl : VL} {σ : Sto} {x y : Operand} {T T' : TypeId} {p q : Int}
def andI (p q : Int) : Int := IntKind.i64.wrap ((BitVec.ofInt IntKind.i64.bits p &&& BitVec.ofInt IntKind.i64.bits q).toNat : Int)
def orI (p q : Int) : Int := IntKind.i64.wrap ((BitVec.ofInt IntKind.i64.bits p ||| BitVec.ofInt IntKind.i64.bits q).toNat : Int)
theorem CalmV.andI (hx : evV fl x = some (.v (.int .i64) p)) (hy : evV fl y = some (.v (.int .i64) q)) : CalmV P fl σ (.binOp .and T x y T') (.v (.int .i64) (Fs.andI p q)) :=
  .binI hx hy (u := .int .i64 (Fs.andI p q)) rfl fun h S => RepV.ofInt _ _
theorem CalmV.orI (hx : evV fl x = some (.v (.int .i64) p)) (hy : evV fl y = some (.v (.int .i64) q)) : CalmV P fl σ (.binOp .or T x y T') (.v (.int .i64) (Fs.orI p q)) :=
  .binI hx hy (u := .int .i64 (Fs.orI p q)) rfl fun h S => RepV.ofInt _ _
end Go.Fs
namespace Go.Proofs
open Go.Fs
def cmpE (x y : Int × Int) : Int := Lib.compareInt x.1 y.1
def OA := orcF 186 187 2 (srtG (τ := .pair (.int .i64) (.int .i64)) cmpE) (orcJ 139 (orcA 160 160 14))
theorem ltE {x y : Int × Int} : Go.Proofs.ltOf cmpE x y = decide (x.1 < y.1) := by
  unfold Go.Proofs.ltOf cmpE Lib.compareInt; by_cases h1 : x.1 < y.1
  · simp [h1]
  by_cases h2 : y.1 < x.1 <;> simp [h1, h2]
theorem swoE : Go.Sort.SWO (Go.Proofs.ltOf cmpE) where
  irrefl x := by rw [ltE]; simp
  trans x y z h1 h2 := by rw [ltE] at *; simp at *; omega
  ntrans x y z h1 h2 := by rw [ltE] at *; simp at *; omega
theorem awake_ok : VF Tryz.prog OA 14 [] (B true) := VF.oracle (fun _ => rfl) fun _ _ => ⟨rfl, rfl⟩
abbrev y25 : Ty := (.sl (.int .i64))
abbrev y154 : Ty := (.sl (.int .i64))
theorem vt3 : ValT Tryz.prog 3 (.int .i64) := valT_of (by kernel_rfl)
theorem vt26 : ValT Tryz.prog 26 (.int .i64) := valT_of (by kernel_rfl)
theorem el25 : ElT Tryz.prog 25 3 (.int .i64) := elT_of (by kernel_rfl)
theorem el154 : ElT Tryz.prog 154 26 (.int .i64) := elT_of (by kernel_rfl)
def whenE (c : Bool) (e : Int) : Int := bif c then e else 0
theorem cWhen_ok {c : Bool} {e : Int} : VF Tryz.prog OA 100 [B c, I e] (I (whenE c e)) := by
  refine VF.enter Tryz.func100 rfl (fun _ _ => rfl) rfl ?_; show VC _ _ _ _ _ [(0, B c), (1, I e)] [] _; refine VC.seq (VC.text ?_); refine VO.c (.assign rfl) ?_; refine VO.go (VC.seq (VC.seq (VC.text ?_))); refine VO.c (.move rfl) (VO.go ?_); refine VC.condB rfl (fun c1 => ?_) (fun c1 => ?_)
  · subst c1; refine VC.seq (VC.text ?_); refine VO.c (.move rfl) (VO.c (.assign rfl) (VO.go ?_)); refine VC.ret ?_; exact VEnd.one rfl evT (pvI (by rfl))
  subst c1; refine VC.skip (VC.seq (VC.text ?_)); refine VO.c (.assign rfl) (VO.go ?_); refine VC.ret ?_; exact VEnd.one rfl evT (pvI (by rfl))
theorem rWhen_ok {c : Bool} {e : Int} : VF Tryz.prog OA 94 [B c, I e] (I (whenE c e)) := by
  refine VF.enter Tryz.func94 rfl (fun _ _ => rfl) rfl ?_; show VC _ _ _ _ _ [(0, B c), (1, I e)] [] _; refine VC.seq (VC.text ?_); refine VO.c (.assign rfl) ?_; refine VO.go (VC.seq (VC.seq (VC.text ?_))); refine VO.c (.move rfl) (VO.go ?_); refine VC.condB rfl (fun c1 => ?_) (fun c1 => ?_)
  · subst c1; refine VC.seq (VC.text ?_); refine VO.c (.move rfl) (VO.c (.assign rfl) (VO.go ?_)); refine VC.ret ?_; exact VEnd.one rfl evT (pvI (by rfl))
  subst c1; refine VC.skip (VC.seq (VC.text ?_)); refine VO.c (.assign rfl) (VO.go ?_); refine VC.ret ?_; exact VEnd.one rfl evT (pvI (by rfl))
def rangeE (n lo hi : Int) : Int := if n < lo ∨ hi < n then 3 else 0
theorem rCheckRange_ok {n : Int} {lo : Int} {hi : Int} : VF Tryz.prog OA 93 [I n, I lo, I hi] (I (rangeE n lo hi)) := by
  refine VF.enter Tryz.func93 rfl (fun _ _ => rfl) rfl ?_; show VC _ _ _ _ _ [(0, I n), (1, I lo), (2, I hi)] [] _; refine VC.seq (VC.text ?_); refine VO.c (.assign rfl) ?_; refine VO.go (VC.seq (VC.seq (VC.text ?_))); refine VO.c (.move rfl) (VO.c (.move rfl) (VO.c (.lss) (VO.c (.move rfl) ?_))); refine VO.cg (r := decide (n < lo)) (w := false) [] trivial (fun _ => (.move rfl)) ?_; refine VO.cg (r := decide (n < lo)) (w := false) [] trivial (fun _ => (.move rfl)) ?_; refine VO.cg (r := decide (n < lo)) (w := false) [(11, I n), (12, I hi)] ⟨rfl, rfl, trivial⟩ (fun _ => (.gtr)) ?_; refine VO.c (.or) (VO.go ?_); refine VC.condB rfl (fun c1 => ?_) (fun c1 => ?_)
  · try simp only [Bool.and_eq_true, Bool.or_eq_true, Bool.and_eq_false_iff, Bool.or_eq_false_iff, Bool.not_eq_true', Bool.not_eq_false', decide_eq_true_eq, decide_eq_false_iff_not] at c1
    refine VC.seq (VC.text ?_); refine VO.c (.assign rfl) (VO.go ?_); refine VC.ret ?_; exact VEnd.one rfl evT (pvI (by simp only [rangeE, ← Bool.decide_or, decide_eq_true_eq, decide_eq_false_iff_not, Bool.or_eq_true, Bool.or_eq_false_iff] at *; first | rw [if_pos (by omega)] | rw [if_neg (by omega)]))
  try simp only [Bool.and_eq_true, Bool.or_eq_true, Bool.and_eq_false_iff, Bool.or_eq_false_iff, Bool.not_eq_true', Bool.not_eq_false', decide_eq_true_eq, decide_eq_false_iff_not] at c1
  refine VC.skip (VC.seq (VC.text ?_)); refine VO.c (.assign rfl) (VO.go ?_); refine VC.ret ?_; exact VEnd.one rfl evT (pvI (by simp only [rangeE, ← Bool.decide_or, decide_eq_true_eq, decide_eq_false_iff_not, Bool.or_eq_true, Bool.or_eq_false_iff] at *; first | rw [if_pos (by omega)] | rw [if_neg (by omega)]))
theorem whenE_range {n lo hi : Int} : whenE (decide (n < lo) || decide (hi < n)) 3 = rangeE n lo hi := by
  unfold whenE rangeE; by_cases h1 : n < lo <;> by_cases h2 : hi < n <;> simp [h1, h2]
theorem cWithin_ok {n : Int} {lo : Int} {hi : Int} : VF Tryz.prog OA 102 [I n, I lo, I hi] (I (rangeE n lo hi)) := by
  refine VF.enter Tryz.func102 rfl (fun _ _ => rfl) rfl ?_; show VC _ _ _ _ _ [(0, I n), (1, I lo), (2, I hi)] [] _; refine VC.seq (VC.text ?_); refine VO.c (.assign rfl) ?_; refine VO.go (VC.seq (VC.text ?_)); refine VO.c (.move rfl) (VO.c (.move rfl) (VO.c (.lss) (VO.c (.move rfl) ?_))); refine VO.cg (r := decide (n < lo)) (w := false) [] trivial (fun _ => (.move rfl)) ?_; refine VO.cg (r := decide (n < lo)) (w := false) [] trivial (fun _ => (.move rfl)) ?_; refine VO.cg (r := decide (n < lo)) (w := false) [(11, I n), (12, I hi)] ⟨rfl, rfl, trivial⟩ (fun _ => (.gtr)) ?_; refine VO.c (.or) ?_; refine VO.call rfl rfl (VF.call (cWhen_ok )) ?_; refine VO.c (.assign rfl) (VO.go ?_); refine VC.ret ?_; exact VEnd.one rfl evT (pvI (by exact whenE_range))
def firstE : List Int → Int
  | [] => 0
  | x :: r => if x = 0 then firstE r else x
theorem firstE_drop {xs : List Int} {j : Nat} (hj : j < xs.length) : firstE (xs.drop j) = if xs[j] = 0 then firstE (xs.drop (j + 1)) else xs[j] := by
  rw [List.drop_eq_getElem_cons hj] <;> rfl
theorem firstE_end {xs : List Int} {j : Nat} (hj : xs.length ≤ j) : firstE (xs.drop j) = 0 := by rw [List.drop_eq_nil_of_le hj] <;> rfl
theorem firstE_app {l : List Int} {z : Int} : firstE (l ++ [z]) = if firstE l = 0 then z else firstE l := by
  induction l with
  | nil =>
    show (if z = 0 then 0 else z) = _; rw [if_pos (show firstE [] = 0 from rfl)]; split
    · rename_i h; exact h.symm
    rfl
  | cons x r ih =>
    show (if x = 0 then firstE (r ++ [z]) else x) = if (if x = 0 then firstE r else x) = 0 then z else (if x = 0 then firstE r else x); by_cases hx : x = 0
    · rw [if_pos hx, if_pos hx]; exact ih
    rw [if_neg hx, if_neg hx, if_neg hx]
theorem firstE_zero : ∀ {l : List Int}, firstE l = 0 ↔ ∀ x ∈ l, x = 0
  | [] => ⟨fun _ x hx => (by cases hx), fun _ => rfl⟩
  | x :: r => by
    have ih := firstE_zero (l := r); show (if x = 0 then firstE r else x) = 0 ↔ _; by_cases hx : x = 0
    · rw [if_pos hx, ih]; exact ⟨fun h y hy => (List.mem_cons.1 hy).elim (fun e => e.trans hx) (h y), fun h y hy => h y (List.mem_cons_of_mem _ hy)⟩
    rw [if_neg hx]; exact ⟨fun h => absurd h hx, fun h => absurd (h x List.mem_cons_self) hx⟩
theorem cFirst_ok {l : List Int} (hl : l.length < 1000000) : VF Tryz.prog OA 99 [.v y154 l] (I (firstE l)) := by
  refine VF.enter Tryz.func99 rfl (fun _ _ => rfl) rfl ?_; show VC _ _ _ _ _ [(0, .v y154 l)] [] _; refine VC.seq (VC.text ?_); refine VO.c (.assign rfl) ?_; refine VO.go (VC.seq (VC.seq (VC.text ?_))); refine VO.c (.move rfl) ?_; refine VO.r (.len el154) ?_; refine VO.c (.move rfl) ?_; refine VO.go (VC.block ?_); refine VC.keep [(5, .v y154 l), (6, I ((l.length : Nat) : Int)), (7, I ((0 : Nat) : Int))] ⟨rfl, rfl, rfl, trivial⟩ ?_; refine VC.loop (I := fun kk ff ss => ∃ (j : Nat), kk = l.length - j ∧ ff = [(5, .v y154 l), (6, I ((l.length : Nat) : Int)), (7, I ((j : Nat) : Int))] ∧ ss = [] ∧ (j ≤ l.length) ∧ (firstE l = firstE (l.drop j))) ?_ _ _ _ ⟨0, rfl, rfl, rfl, Nat.zero_le _, (by rfl)⟩; rintro kk ff ss ⟨j, hk0, rfl, rfl, hj, hf⟩; refine VC.seq (VC.text ?_); refine VO.c (.lss) ?_; refine VO.go (VC.seq ?_); refine VC.condD rfl (fun c2 => ?_) (fun c2 => ?_)
  · refine VC.skip (VC.seq (VC.block (VC.seq (VC.text ?_)))); refine VO.c (.ix (j := j) rfl rfl el154 (by omega)) ?_; refine VO.r (.ld vt26) ?_; refine VO.c (.assign rfl) ?_; refine VO.go (VC.seq (VC.text ?_)); refine VO.c (.move rfl) (VO.c (.neq) (VO.go ?_)); refine VC.condD rfl (fun c4 => ?_) (fun c4 => ?_)
    · refine VC.seq (VC.text ?_); refine VO.c (.move rfl) (VO.c (.assign rfl) (VO.go ?_)); refine VC.ret ?_; exact VEnd.one rfl evT (pvI (by rw [hf, firstE_drop (by omega), if_neg c4]))
    refine VC.skip (VC.text ?_); refine VO.c (.add rfl rfl (by omega)) (VO.c (.move rfl) ?_); refine VO.nil ?_; refine ⟨_, [(5, .v y154 l), (6, I ((l.length : Nat) : Int)), (7, I (((j + 1) : Nat) : Int))], ?_, ⟨rfl, rfl, rfl, trivial⟩, (j + 1), rfl, rfl, rfl, (by omega), (by rw [hf, firstE_drop (by omega), if_pos (by simpa using c4)])⟩; omega
  refine VC.exit (VC.seq (VC.text ?_)); refine VO.c (.assign rfl) (VO.go ?_); refine VC.ret ?_; exact VEnd.one rfl evT (pvI (by rw [hf, firstE_end (by omega)]))
theorem rFirst_ok {l : List Int} (hl : l.length < 1000000) : VF Tryz.prog OA 92 [.v y25 l] (I (firstE l)) := by
  refine VF.enter Tryz.func92 rfl (fun _ _ => rfl) rfl ?_; show VC _ _ _ _ _ [(0, .v y25 l)] [] _; refine VC.seq (VC.text ?_); refine VO.c (.assign rfl) ?_; refine VO.go (VC.seq (VC.seq (VC.text ?_))); refine VO.c (.assign rfl) ?_; refine VO.go (VC.block ?_); refine VC.keep [(0, .v y25 l), (3, I ((0 : Nat) : Int))] ⟨rfl, rfl, trivial⟩ ?_; refine VC.loop (I := fun kk ff ss => ∃ (j : Nat), kk = l.length - j ∧ ff = [(0, .v y25 l), (3, I ((j : Nat) : Int))] ∧ ss = [] ∧ (j ≤ l.length) ∧ (firstE l = firstE (l.drop j))) ?_ _ _ _ ⟨0, rfl, rfl, rfl, Nat.zero_le _, (by rfl)⟩; rintro kk ff ss ⟨j, hk0, rfl, rfl, hj, hf⟩; refine VC.seq (VC.seq (VC.text ?_)); refine VO.c (.move rfl) (VO.c (.move rfl) ?_); refine VO.r (.len el25) ?_; refine VO.c (.lss) (VO.go ?_); refine VC.condD rfl (fun c2 => ?_) (fun c2 => ?_)
  · refine VC.skip (VC.seq (VC.block (VC.seq (VC.text ?_)))); refine VO.c (.move rfl) (VO.c (.move rfl) (VO.c (.ix (j := j) rfl rfl el25 (by omega)) ?_)); refine VO.r (.ld vt3) ?_; refine VO.c (.neq) (VO.go ?_); refine VC.condD rfl (fun c4 => ?_) (fun c4 => ?_)
    · refine VC.seq (VC.text ?_); refine VO.c (.move rfl) (VO.c (.move rfl) (VO.c (.ix (j := j) rfl rfl el25 (by omega)) ?_)); refine VO.r (.ld vt3) ?_; refine VO.c (.assign rfl) (VO.go ?_); refine VC.ret ?_; exact VEnd.one rfl evT (pvI (by rw [hf, firstE_drop (by omega), if_neg c4]))
    refine VC.skip (VC.text ?_); refine VO.c (.move rfl) (VO.c (.add rfl rfl (by omega)) (VO.c (.assign rfl) ?_)); refine VO.nil ?_; refine ⟨_, [(0, .v y25 l), (3, I (((j + 1) : Nat) : Int))], ?_, ⟨rfl, rfl, trivial⟩, (j + 1), rfl, rfl, rfl, (by omega), (by rw [hf, firstE_drop (by omega), if_pos (by simpa using c4)])⟩; omega
  refine VC.exit (VC.seq (VC.text ?_)); refine VO.c (.assign rfl) (VO.go ?_); refine VC.ret ?_; exact VEnd.one rfl evT (pvI (by rw [hf, firstE_end (by omega)]))
end Go.Proofs
namespace Go.Proofs
open Go.Fs
set_option maxHeartbeats 400000
abbrev Gat := List Int × List Int × List (List Int)
theorem getDg {α : Type} {l : List α} {i : Nat} {d : α} (h : i < l.length) : l.getD i d = l[i] := by
  rw [List.getD_eq_getElem?_getD, List.getElem?_eq_getElem h] <;> rfl
def frcE (x : Int) : Int := rangeE x (-10000) 10000
def headG (g : Gat) : Int := firstE [whenE (decide (((g.1.length : Nat) : Int) = 0)) 12, whenE (decide ((8 : Int) < ((g.1.length : Nat) : Int))) 5, whenE (decide (((g.2.1.length : Nat) : Int) ≠ ((g.1.length : Nat) : Int)) || decide (((g.2.2.length : Nat) : Int) ≠ ((g.1.length : Nat) : Int))) 2]
def row4 (n : Nat) (s x : Int) (row : List Int) : List Int := [rangeE s 0 10000, frcE x, whenE (decide (((row.length : Nat) : Int) ≠ ((n : Nat) : Int))) 2, firstE (row.map frcE)]
def row3 (n : Nat) (s x : Int) (row : List Int) : List Int := [rangeE s 0 10000, frcE x, whenE (decide (((row.length : Nat) : Int) ≠ ((n : Nat) : Int))) 2]
def gateE (g : Gat) (i : Nat) : Int := firstE (row4 g.1.length (g.1.getD i 0) (g.2.1.getD i 0) (g.2.2.getD i []) ++ [if (g.2.2.getD i []).getD i 0 ≠ 0 then 1 else 0])
def rowsE (g : Gat) : List Int := (List.range g.1.length).map (gateE g)
def gatesE (g : Gat) : Int := if headG g ≠ 0 then headG g else firstE (rowsE g)
theorem rowsE_len {g : Gat} : (rowsE g).length = g.1.length := by simp [rowsE]
theorem rowsE_at {g : Gat} {i : Nat} (h : i < (rowsE g).length) : (rowsE g)[i] = gateE g i := by simp [rowsE]
theorem whenE_zero {c : Bool} {e : Int} (he : e ≠ 0) : whenE c e = 0 ↔ c = false := by
  cases c with
  | false => exact ⟨fun _ => rfl, fun _ => rfl⟩
  | true => exact ⟨fun h => absurd h he, fun h => by cases h⟩
theorem rangeE_zero {n lo hi : Int} : rangeE n lo hi = 0 ↔ lo ≤ n ∧ n ≤ hi := by
  unfold rangeE; by_cases h : n < lo ∨ hi < n
  · rw [if_pos h]; exact ⟨fun h => absurd h (by decide), fun hh => by omega⟩
  rw [if_neg h]; exact ⟨fun _ => by omega, fun _ => rfl⟩
theorem head_ok {g : Gat} (h : headG g = 0) : (0 < g.1.length ∧ g.1.length ≤ 8) ∧ g.2.1.length = g.1.length ∧ g.2.2.length = g.1.length := by
  have h := firstE_zero.1 h; have h1 := (whenE_zero (by decide)).1 (h _ (List.mem_cons_self)); have h2 := (whenE_zero (by decide)).1 (h _ (List.mem_cons_of_mem _ List.mem_cons_self)); have h3 := (whenE_zero (by decide)).1 (h _ (List.mem_cons_of_mem _ (List.mem_cons_of_mem _ List.mem_cons_self))); obtain ⟨h4, h5⟩ := Bool.or_eq_false_iff.1 h3; have h1 := of_decide_eq_false h1; have h2 := of_decide_eq_false h2; have h4 := of_decide_eq_false h4; have h5 := of_decide_eq_false h5; omega
theorem gateE_ok {g : Gat} {i : Nat} (h : gateE g i = 0) : (0 ≤ g.1.getD i 0 ∧ g.1.getD i 0 ≤ 10000) ∧ (-10000 ≤ g.2.1.getD i 0 ∧ g.2.1.getD i 0 ≤ 10000) ∧ (g.2.2.getD i []).length = g.1.length ∧ (∀ x ∈ g.2.2.getD i [], -10000 ≤ x ∧ x ≤ 10000) ∧ (g.2.2.getD i []).getD i 0 = 0 := by
  unfold gateE at h; rw [firstE_app] at h; by_cases hf : firstE (row4 g.1.length (g.1.getD i 0) (g.2.1.getD i 0) (g.2.2.getD i [])) = 0
  · rw [if_pos hf] at h
    have hz : (g.2.2.getD i []).getD i 0 = 0 := by
      by_cases hz : (g.2.2.getD i []).getD i 0 ≠ 0
      · rw [if_pos hz] at h; cases h
      exact Classical.not_not.1 hz
    have hf := firstE_zero.1 hf; have h1 := rangeE_zero.1 (hf _ List.mem_cons_self); have h2 := rangeE_zero.1 (hf (frcE (g.2.1.getD i 0)) (List.mem_cons_of_mem _ List.mem_cons_self)); have h3 := of_decide_eq_false ((whenE_zero (by decide)).1 (hf _ (List.mem_cons_of_mem _ (List.mem_cons_of_mem _ List.mem_cons_self)))); have h4 := firstE_zero.1 (hf _ (List.mem_cons_of_mem _ (List.mem_cons_of_mem _ (List.mem_cons_of_mem _ List.mem_cons_self)))); exact ⟨h1, h2, by omega, fun x hx => rangeE_zero.1 (h4 _ (List.mem_map_of_mem hx)), hz⟩
  rw [if_neg hf] at h; exact absurd h hf
theorem gates_ok {g : Gat} (h : gatesE g = 0) : headG g = 0 ∧ ∀ i, i < g.1.length → gateE g i = 0 := by
  unfold gatesE at h; by_cases hh : headG g ≠ 0
  · rw [if_pos hh] at h; exact absurd h hh
  rw [if_neg hh] at h; exact ⟨Classical.not_not.1 hh, fun i hi => firstE_zero.1 h _ (List.mem_map_of_mem (List.mem_range.2 hi))⟩
def hasI (set gate : Int) : Bool := decide (Fs.andI (set.fdiv (2 ^ gate.toNat)) 1 = 1)
def hasB (set : Int) (k : Nat) : Bool := hasI set ((k : Nat) : Int)
def sumF (set : Int) (row : List Int) : Nat → Int
  | 0 => 0
  | k + 1 => if hasB set k = true then sumF set row k + row.getD k 0 else sumF set row k
theorem sumF_t {set : Int} {row : List Int} {k : Nat} (h : hasB set k = true) : sumF set row (k + 1) = sumF set row k + row.getD k 0 := if_pos h
theorem sumF_f {set : Int} {row : List Int} {k : Nat} (h : hasB set k = false) : sumF set row (k + 1) = sumF set row k := if_neg (by rw [h]; exact Bool.false_ne_true)
theorem sumF_b {set : Int} {row : List Int} (hr : ∀ x ∈ row, -10000 ≤ x ∧ x ≤ 10000) : ∀ k : Nat, k ≤ row.length → -(10000 * (k : Int)) ≤ sumF set row k ∧ sumF set row k ≤ 10000 * (k : Int)
  | 0, _ => ⟨Int.le_refl _, Int.le_refl _⟩
  | k + 1, h => by
    have ih := sumF_b (set := set) hr k (by omega); have hx := hr _ (List.getElem_mem (show k < row.length by omega))
    cases hb : hasB set k with
    | true => rw [sumF_t hb, getDg (show k < row.length by omega)]; omega
    | false => rw [sumF_f hb]; omega
def forceE (g : Gat) (set : Int) (i : Nat) : Int := g.2.1.getD i 0 + sumF set (g.2.2.getD i []) (g.2.2.getD i []).length
theorem force_b {g : Gat} {set : Int} {i : Nat} (h : gatesE g = 0) (hi : i < g.1.length) : -90000 ≤ forceE g set i ∧ forceE g set i ≤ 90000 := by
  obtain ⟨h1, h2⟩ := gates_ok h; have h3 := head_ok h1; have h4 := gateE_ok (h2 i hi); have := sumF_b (set := set) h4.2.2.2.1 (g.2.2.getD i []).length (Nat.le_refl _); unfold forceE; omega
def overB (g : Gat) (set : Int) (i : Nat) : Bool := hasB set i && decide (g.1.getD i 0 < max (forceE g set i) (-forceE g set i))
def permE (g : Gat) (set : Int) : Nat → Bool
  | 0 => true
  | k + 1 => permE g set k && !overB g set k
theorem perm_no {g : Gat} {set : Int} {k : Nat} (h : overB g set k = true) : ∀ {n : Nat}, k < n → permE g set n = false
  | 0, hk => absurd hk (Nat.not_lt_zero _)
  | n + 1, hk => by
    show (permE g set n && !overB g set n) = false; by_cases e : k = n
    · subst e; rw [h]; simp
    rw [perm_no h (show k < n by omega)] <;> rfl
def setE (g : Gat) (set : Int) : Int := whenE (decide (set < 0) || decide ((1 : Int) * 2 ^ ((g.1.length : Nat) : Int).toNat ≤ set)) 10
end Go.Proofs
namespace Go.Proofs
open Go.Fs Ieee
def letterB (c : Int) : Bool := decide (65 ≤ c ∧ c ≤ 90 ∨ 97 ≤ c ∧ c ≤ 122)
def otherB (c : Int) : Bool := decide (48 ≤ c ∧ c ≤ 57 ∨ c = 95)
def byteB (c : Int) (i : Nat) : Bool := letterB c || (decide (i ≠ 0) && otherB c)
def nameB (s : ByteArray) : Bool := decide (s.size ≠ 0 ∧ s.size ≤ 24 ∧ ∀ i, i < s.size → byteB (byteE s i) i = true)
end Go.Proofs
namespace Go.Proofs
open Go.Fs
set_option maxHeartbeats 400000
abbrev y88 : Ty := (.pair (.sl (.int .i64)) (.pair (.sl (.int .i64)) (.sl (.sl (.int .i64)))))
abbrev y92 : Ty := (.pair (.sl (.int .i64)) (.pair (.sl (.int .i64)) (.sl (.sl (.int .i64)))))
theorem vt25 : ValT Tryz.prog 25 y25 := valT_of (by kernel_rfl)
theorem vt86 : ValT Tryz.prog 86 (.sl (.sl (.int .i64))) := valT_of (by kernel_rfl)
theorem vt88 : ValT Tryz.prog 88 y88 := valT_of (by kernel_rfl)
theorem vt92 : ValT Tryz.prog 92 y92 := valT_of (by kernel_rfl)
theorem el86 : ElT Tryz.prog 86 25 y25 := elT_of (by kernel_rfl)
theorem pow9 {n : Nat} (h : n ≤ 9) : (1 : Int) ≤ 2 ^ (((n : Nat) : Int).toNat) ∧ (2 : Int) ^ (((n : Nat) : Int).toNat) ≤ 512 := by
  rw [Int.toNat_natCast]; have h1 : (2 : Nat) ^ n ≤ 2 ^ 9 := Nat.pow_le_pow_right (by decide) h; have h2 : 1 ≤ (2 : Nat) ^ n := Nat.one_le_two_pow
  have e : ((2 ^ n : Nat) : Int) = (2 : Int) ^ n := by simp
  rw [← e]; omega
theorem cCheckSet_ok {g : (List Int) × (List Int) × (List (List Int))} {set : Int} (hl : g.1.length ≤ 9) : VF Tryz.prog OA 128 [.v y92 g, I set] (I (setE g set)) := by
  refine VF.enter Tryz.func128 rfl (fun _ _ => rfl) rfl ?_; show VC _ _ _ _ _ [(0, .v y92 g), (1, I set)] [] _; refine VC.seq (VC.text ?_); refine VO.new (.box) ?_; refine VO.c (.assign rfl) ?_; refine VO.go (VC.seq (VC.text ?_)); have hp := pow9 hl; refine VO.c (.move rfl) (VO.c (.lss) (VO.c (.move rfl) ?_)); refine VO.cg (r := decide (set < (0 : Int))) (w := false) [] trivial (fun _ => (.move rfl)) ?_; refine VO.cg (r := decide (set < (0 : Int))) (w := false) [] trivial (fun _ => (.fa (.l .o))) ?_; refine VO.rg (r := decide (set < (0 : Int))) (w := false) [(9, .p y25 g.1)] ⟨rfl, trivial⟩ (fun _ => (.ld vt25)) ?_; refine VO.rg (r := decide (set < (0 : Int))) (w := false) [(10, .v y25 g.1)] ⟨rfl, trivial⟩ (fun _ => (.len el25)) ?_; refine VO.cg (r := decide (set < (0 : Int))) (w := false) [(11, I ((g.1.length : Nat) : Int))] ⟨rfl, trivial⟩ (fun hgd => have g1_2 : ¬ (set < (0 : Int)) := (by simpa using hgd); (.shl rfl rfl (by omega) (by omega))) ?_; refine VO.cg (r := decide (set < (0 : Int))) (w := false) [(8, I set), (12, I ((1 : Int) * 2 ^ (((g.1.length : Nat) : Int)).toNat))] ⟨rfl, rfl, trivial⟩ (fun _ => (.geq)) ?_; refine VO.c (.or) ?_; refine VO.call rfl rfl (VF.call (cWhen_ok )) ?_; refine VO.c (.assign rfl) (VO.go ?_); refine VC.ret ?_; exact VEnd.one rfl evT (pvI (by rfl))
theorem cHas_ok {set : Int} {gate : Int} (h0 : 0 ≤ gate ∧ gate ≤ 64) : VF Tryz.prog OA 136 [I set, I gate] (B (hasI set gate)) := by
  refine VF.enter Tryz.func136 rfl (fun _ _ => rfl) rfl ?_; show VC _ _ _ _ _ [(0, I set), (1, I gate)] [] _; refine VC.seq (VC.text ?_); refine VO.c (.assign rfl) ?_; refine VO.go (VC.seq (VC.text ?_)); refine VO.c (.move rfl) (VO.c (.move rfl) (VO.c (.shr rfl rfl (by omega)) (VO.c ((.andI rfl rfl)) ?_))); refine VO.c (.eql) (VO.c (.assign rfl) (VO.go ?_)); refine VC.ret ?_; exact VEnd.one rfl evT (pvE (by rfl))
theorem cForce_ok {g : (List Int) × (List Int) × (List (List Int))} {set : Int} {gate : Int} (hg : gatesE g = 0) (h0 : 0 ≤ gate) (h1 : gate < ((g.1.length : Nat) : Int)) : VF Tryz.prog OA 129 [.v y92 g, I set, I gate] (I (forceE g set gate.toNat)) := by
  refine VF.enter Tryz.func129 rfl (fun _ _ => rfl) rfl ?_; show VC _ _ _ _ _ [(0, .v y92 g), (1, I set), (2, I gate)] [] _; refine VC.seq (VC.text ?_); refine VO.new (.box) ?_; refine VO.c (.assign rfl) ?_; refine VO.go (VC.seq (VC.text ?_)); have hd := head_ok (gates_ok hg).1; have hv := gateE_ok ((gates_ok hg).2 gate.toNat (by omega)); rw [getDg (l := g.2.2) (i := gate.toNat) (by omega), getDg (l := g.2.1) (i := gate.toNat) (by omega)] at hv
  have hf : forceE g set gate.toNat = g.2.1[gate.toNat]'(by omega) + sumF set (g.2.2[gate.toNat]'(by omega)) ((g.2.2[gate.toNat]'(by omega)).length) := by
    unfold forceE; rw [getDg (l := g.2.2) (i := gate.toNat) (by omega), getDg (l := g.2.1) (i := gate.toNat) (by omega)]
  refine VO.c (.fa (.r (.l .o))) ?_; refine VO.r (.ld vt25) ?_; refine VO.c (.move rfl) (VO.c (.ixZ (k := gate) rfl rfl el25 (by omega) (by omega)) ?_); refine VO.r (.ld vt3) ?_; refine VO.c (.assign rfl) ?_; refine VO.go (VC.seq (VC.seq (VC.text ?_))); refine VO.c (.fa (.r (.r .o))) ?_; refine VO.r (.ld vt86) ?_; refine VO.c (.move rfl) (VO.c (.ixZ (k := gate) rfl rfl el86 (by omega) (by omega)) ?_); refine VO.r (.ld vt25) ?_; refine VO.r (.len el25) ?_; refine VO.c (.move rfl) ?_; refine VO.go (VC.block ?_); refine VC.keep [(1, I set), (7, I (g.2.1[gate.toNat] + sumF set (g.2.2[gate.toNat]) 0)), (19, .v y25 (g.2.2[Int.toNat gate])), (20, I (((g.2.2[Int.toNat gate]).length : Nat) : Int)), (21, I ((0 : Nat) : Int))] ⟨rfl, slI rfl (by simp [sumF]), rfl, rfl, rfl, trivial⟩ ?_; refine VC.loop (I := fun kk ff ss => ∃ (j : Nat), kk = (g.2.2[gate.toNat]).length - j ∧ ff = [(1, I set), (7, I (g.2.1[gate.toNat] + sumF set (g.2.2[gate.toNat]) j)), (19, .v y25 (g.2.2[Int.toNat gate])), (20, I (((g.2.2[Int.toNat gate]).length : Nat) : Int)), (21, I ((j : Nat) : Int))] ∧ ss = [] ∧ (j ≤ (g.2.2[gate.toNat]).length)) ?_ _ _ _ ⟨0, rfl, rfl, rfl, (by omega)⟩; rintro kk ff ss ⟨j, hk0, rfl, rfl, hj⟩; refine VC.seq (VC.text ?_); refine VO.c (.lss) ?_; refine VO.go (VC.seq ?_); refine VC.condD rfl (fun c3 => ?_) (fun c3 => ?_)
  · have hjr : j < (g.2.2[gate.toNat]'(by omega)).length := by omega
    have hb := sumF_b (set := set) hv.2.2.2.1 j (by omega); have hx := hv.2.2.2.1 _ (List.getElem_mem hjr); refine VC.skip (VC.seq (VC.block (VC.seq (VC.text ?_)))); refine VO.c (.move rfl) (VO.c (.ix (j := j) rfl rfl el25 (by omega)) ?_); refine VO.r (.ld vt3) ?_; refine VO.c (.assign rfl) (VO.c (.assign rfl) ?_); refine VO.go (VC.seq (VC.text ?_)); refine VO.c (.move rfl) (VO.c (.move rfl) ?_); refine VO.call rfl rfl (VF.call (cHas_ok (by first | assumption | omega | simp))) ?_; refine VO.go ?_; refine VC.condB rfl (fun c5 => ?_) (fun c5 => ?_)
    · refine VC.text ?_; refine VO.c (.move rfl) (VO.c (.move rfl) (VO.c (.add rfl rfl (by omega)) (VO.c (.assign rfl) ?_))); refine VO.nil (VC.text ?_); refine VO.c (.add rfl rfl (by omega)) (VO.c (.move rfl) ?_); refine VO.nil ?_; refine ⟨_, [(1, I set), (7, I (g.2.1[gate.toNat] + sumF set (g.2.2[gate.toNat]) (j + 1))), (19, .v y25 (g.2.2[Int.toNat gate])), (20, I (((g.2.2[Int.toNat gate]).length : Nat) : Int)), (21, I (((j + 1) : Nat) : Int))], ?_, ⟨rfl, slI rfl (by first | (rw [sumF_t (show hasB set j = true from c5), getDg hjr]; omega) | (rw [sumF_f (show hasB set j = false from c5)])), rfl, rfl, rfl, trivial⟩, (j + 1), rfl, rfl, rfl, (by omega)⟩; omega
    refine VC.skip (VC.text ?_); refine VO.c (.add rfl rfl (by omega)) (VO.c (.move rfl) ?_); refine VO.nil ?_; refine ⟨_, [(1, I set), (7, I (g.2.1[gate.toNat] + sumF set (g.2.2[gate.toNat]) (j + 1))), (19, .v y25 (g.2.2[Int.toNat gate])), (20, I (((g.2.2[Int.toNat gate]).length : Nat) : Int)), (21, I (((j + 1) : Nat) : Int))], ?_, ⟨rfl, slI rfl (by first | (rw [sumF_t (show hasB set j = true from c5), getDg hjr]; omega) | (rw [sumF_f (show hasB set j = false from c5)])), rfl, rfl, rfl, trivial⟩, (j + 1), rfl, rfl, rfl, (by omega)⟩; omega
  refine VC.exit (VC.seq (VC.text ?_)); refine VO.c (.move rfl) (VO.c (.assign rfl) (VO.go ?_)); refine VC.ret ?_; exact VEnd.one rfl evT (pvI (by rw [hf, show j = (g.2.2[gate.toNat]'(by omega)).length by omega]))
theorem perm_step {g : Gat} {set : Int} {k : Nat} (h : overB g set k = false) : permE g set (k + 1) = permE g set k := by
  show (permE g set k && !overB g set k) = _; rw [h]; simp
theorem over_t {g : Gat} {set : Int} {k : Nat} {x : Int} (hx : g.1.getD k 0 = x) (h : hasI set ((k : Nat) : Int) = true ∧ x < max (forceE g set k) (-forceE g set k)) : overB g set k = true := by
  unfold overB hasB; rw [hx, h.1, decide_eq_true h.2] <;> rfl
theorem over_f {g : Gat} {set : Int} {k : Nat} {x : Int} (hx : g.1.getD k 0 = x) (h : hasI set ((k : Nat) : Int) = false ∨ ¬ x < max (forceE g set k) (-forceE g set k)) : overB g set k = false := by
  unfold overB hasB; rw [hx]; rcases h with h | h
  · rw [h] <;> rfl
  rw [decide_eq_false h]; simp
theorem cPerm_ok {g : (List Int) × (List Int) × (List (List Int))} {set : Int} (hg : gatesE g = 0) : VF Tryz.prog OA 130 [.v y92 g, I set] (B (permE g set g.1.length)) := by
  refine VF.enter Tryz.func130 rfl (fun _ _ => rfl) rfl ?_; show VC _ _ _ _ _ [(0, .v y92 g), (1, I set)] [] _; refine VC.seq (VC.text ?_); have hd := head_ok (gates_ok hg).1; refine VO.new (.box) ?_; refine VO.c (.assign rfl) ?_; refine VO.go (VC.seq (VC.seq (VC.text ?_))); refine VO.c (.fa (.l .o)) ?_; refine VO.r (.ld vt25) ?_; refine VO.r (.len el25) ?_; refine VO.c (.move rfl) ?_; refine VO.go (VC.block ?_); refine VC.keep [(1, I set), (2, .p y92 g), (9, .v y25 g.1), (10, I ((g.1.length : Nat) : Int)), (11, I ((0 : Nat) : Int))] ⟨rfl, rfl, rfl, rfl, rfl, trivial⟩ ?_; refine VC.loop (I := fun kk ff ss => ∃ (j : Nat), kk = g.1.length - j ∧ ff = [(1, I set), (2, .p y92 g), (9, .v y25 g.1), (10, I ((g.1.length : Nat) : Int)), (11, I ((j : Nat) : Int))] ∧ ss = [] ∧ (j ≤ g.1.length) ∧ (permE g set j = true)) ?_ _ _ _ ⟨0, rfl, rfl, rfl, Nat.zero_le _, (by rfl)⟩; rintro kk ff ss ⟨j, hk0, rfl, rfl, hj, hp⟩; refine VC.seq (VC.text ?_); refine VO.c (.lss) ?_; refine VO.go (VC.seq ?_); refine VC.condD rfl (fun c2 => ?_) (fun c2 => ?_)
  · have hjl : j < g.1.length := by omega
    have hfb := force_b (set := set) hg hjl; refine VC.skip (VC.seq (VC.block (VC.seq (VC.text ?_)))); refine VO.c (.move rfl) (VO.c (.ix (j := j) rfl rfl el25 (by omega)) ?_); refine VO.r (.ld vt3) ?_; refine VO.c (.assign rfl) (VO.c (.assign rfl) ?_); refine VO.go (VC.seq (VC.text ?_)); refine VO.r (.ld vt92) ?_; refine VO.c (.move rfl) (VO.c (.move rfl) ?_); refine VO.call rfl rfl (VF.call (cForce_ok hg (by omega) (by omega))) ?_; refine VO.c (.assign rfl) ?_; refine VO.go (VC.seq (VC.text ?_)); refine VO.c (.move rfl) (VO.c (.move rfl) ?_); refine VO.call rfl rfl (VF.call (cHas_ok (by first | assumption | omega | simp))) ?_; refine VO.c (.move rfl) ?_; refine VO.cg (r := hasI set ((j : Nat) : Int)) (w := true) [] trivial (fun _ => (.move rfl)) ?_; refine VO.cg (r := hasI set ((j : Nat) : Int)) (w := true) [] trivial (fun _ => (.move rfl)) ?_; refine VO.cg (r := hasI set ((j : Nat) : Int)) (w := true) [(25, I (forceE g set j))] ⟨rfl, trivial⟩ (fun hgd => have g5_3 : hasI set ((j : Nat) : Int) = true := (by simpa using hgd); (.neg rfl (by omega))) ?_; refine VO.cg (r := hasI set ((j : Nat) : Int)) (w := true) [(24, I (forceE g set j)), (26, I (-(forceE g set j)))] ⟨rfl, rfl, trivial⟩ (fun _ => (.imax)) ?_; refine VO.cg (r := hasI set ((j : Nat) : Int)) (w := true) [] trivial (fun _ => (.move rfl)) ?_; refine VO.cg (r := hasI set ((j : Nat) : Int)) (w := true) [(27, I (max (forceE g set j) (-(forceE g set j)))), (28, I (g.1[j]))] ⟨rfl, rfl, trivial⟩ (fun _ => (.gtr)) ?_; refine VO.c (.and) (VO.go ?_); refine VC.condB rfl (fun c5 => ?_) (fun c5 => ?_)
    · try simp only [Bool.and_eq_true, Bool.or_eq_true, Bool.and_eq_false_iff, Bool.or_eq_false_iff, Bool.not_eq_true', Bool.not_eq_false', decide_eq_true_eq, decide_eq_false_iff_not] at c5
      refine VC.seq (VC.text ?_); refine VO.c (.assign rfl) (VO.go ?_); refine VC.ret ?_; exact VEnd.one rfl evT (pvE (by rw [perm_no (k := j) (over_t (getDg hjl) c5) hjl]))
    try simp only [Bool.and_eq_true, Bool.or_eq_true, Bool.and_eq_false_iff, Bool.or_eq_false_iff, Bool.not_eq_true', Bool.not_eq_false', decide_eq_true_eq, decide_eq_false_iff_not] at c5
    refine VC.skip (VC.text ?_); refine VO.c (.add rfl rfl (by omega)) (VO.c (.move rfl) ?_); refine VO.nil ?_; refine ⟨_, [(1, I set), (2, .p y92 g), (9, .v y25 g.1), (10, I ((g.1.length : Nat) : Int)), (11, I (((j + 1) : Nat) : Int))], ?_, ⟨rfl, rfl, rfl, rfl, rfl, trivial⟩, (j + 1), rfl, rfl, rfl, (by omega), (by rw [perm_step (over_f (getDg hjl) c5)]; exact hp)⟩; omega
  refine VC.exit (VC.seq (VC.text ?_)); refine VO.c (.assign rfl) (VO.go ?_); refine VC.ret ?_; exact VEnd.one rfl evT (pvE (by rw [show g.1.length = j by omega, hp]))
end Go.Proofs
namespace Go.Proofs
open Go.Fs
set_option maxHeartbeats 1000000
abbrev y86 : Ty := (.sl (.sl (.int .i64)))
theorem rangeE_ne {n lo hi : Int} (h : rangeE n lo hi ≠ 0) : rangeE n lo hi = 3 := by
  unfold rangeE at h ⊢; by_cases hh : n < lo ∨ hi < n
  · rw [if_pos hh]
  rw [if_neg hh] at h; exact absurd rfl h
def gateX (n : Nat) (s x : Int) (row : List Int) (i : Nat) : Int := firstE (row4 n s x row ++ [if row.getD i 0 ≠ 0 then 1 else 0])
theorem row4_eq {n : Nat} {s x : Int} {row : List Int} : row4 n s x row = row3 n s x row ++ [firstE (row.map frcE)] := rfl
theorem gate_a {n : Nat} {s x : Int} {row : List Int} {i : Nat} (h : firstE (row3 n s x row) ≠ 0) : gateX n s x row i = firstE (row3 n s x row) := by
  unfold gateX; rw [firstE_app, row4_eq, firstE_app, if_neg h, if_neg h]
theorem gate_a4 {n : Nat} {s x : Int} {row : List Int} {i : Nat} (h : firstE (row4 n s x row) ≠ 0) : gateX n s x row i = firstE (row4 n s x row) := by
  unfold gateX; rw [firstE_app, if_neg h]
theorem gate_b {n : Nat} {s x : Int} {row : List Int} {i : Nat} (h : firstE (row3 n s x row) = 0) (h2 : firstE (row.map frcE) ≠ 0) : gateX n s x row i = firstE (row.map frcE) := by
  unfold gateX; rw [firstE_app, row4_eq, firstE_app, if_pos h, if_neg h2]
theorem gate_c {n : Nat} {s x : Int} {row : List Int} {i : Nat} (h : firstE (row4 n s x row) = 0) : gateX n s x row i = if row.getD i 0 ≠ 0 then 1 else 0 := by
  unfold gateX; rw [firstE_app, if_pos h]
theorem row4_0 {n : Nat} {s x : Int} {row : List Int} (h : firstE (row3 n s x row) = 0) (h2 : firstE (row.map frcE) = 0) : firstE (row4 n s x row) = 0 := by
  rw [row4_eq, firstE_app, if_pos h, h2]
theorem row3_len {n : Nat} {s x : Int} {row : List Int} (h : firstE (row3 n s x row) = 0) : row.length = n := by
  have h3 := of_decide_eq_false ((whenE_zero (by decide)).1 (firstE_zero.1 h _ (List.mem_cons_of_mem _ (List.mem_cons_of_mem _ List.mem_cons_self)))); omega
theorem row4_3 {n : Nat} {s x : Int} {row : List Int} (h : firstE (row4 n s x row) = 0) : firstE (row3 n s x row) = 0 := by
  rw [row4_eq, firstE_app] at h; by_cases h2 : firstE (row3 n s x row) = 0
  · exact h2
  rw [if_neg h2] at h; exact absurd h h2
theorem gateE_x {g : Gat} {i : Nat} (h1 : i < g.1.length) (h2 : i < g.2.1.length) (h3 : i < g.2.2.length) : gateE g i = gateX g.1.length g.1[i] g.2.1[i] g.2.2[i] i := by
  unfold gateE gateX; rw [getDg h1, getDg h2, getDg h3]
theorem head_t {g : Gat} (h : ((g.2.1.length : Nat) : Int) ≠ ((g.1.length : Nat) : Int)) : firstE [whenE (decide (((g.1.length : Nat) : Int) = 0)) 12, whenE (decide ((8 : Int) < ((g.1.length : Nat) : Int))) 5, whenE true 2] = headG g := by
  unfold headG; rw [decide_eq_true h] <;> rfl
theorem head_f {g : Gat} (h : ¬ ((g.2.1.length : Nat) : Int) ≠ ((g.1.length : Nat) : Int)) : firstE [whenE (decide (((g.1.length : Nat) : Int) = 0)) 12, whenE (decide ((8 : Int) < ((g.1.length : Nat) : Int))) 5, whenE (decide (((g.2.2.length : Nat) : Int) ≠ ((g.1.length : Nat) : Int))) 2] = headG g := by
  unfold headG; rw [decide_eq_false h] <;> rfl
theorem gates_r {g : Gat} {i : Nat} (hh : headG g = 0) (hw : firstE (rowsE g) = firstE ((rowsE g).drop i)) (hi : i < g.1.length) (hz : gateE g i ≠ 0) : gatesE g = gateE g i := by
  have hi2 : i < (rowsE g).length := by rw [rowsE_len]; exact hi
  rw [gatesE, if_neg (fun h => h hh), hw, firstE_drop hi2, rowsE_at hi2, if_neg hz]
theorem gates_n {g : Gat} {i : Nat} (hw : firstE (rowsE g) = firstE ((rowsE g).drop i)) (hi : i < g.1.length) (hz : gateE g i = 0) : firstE (rowsE g) = firstE ((rowsE g).drop (i + 1)) := by
  have hi2 : i < (rowsE g).length := by rw [rowsE_len]; exact hi
  rw [hw, firstE_drop hi2, rowsE_at hi2, if_pos hz]
theorem rGates_ok {g : (List Int) × (List Int) × (List (List Int))} (h0 : g.1.length < 1000) : VF Tryz.prog OA 58 [.v y88 g] (I (gatesE g)) := by
  refine VF.enter Tryz.func58 rfl (fun _ _ => rfl) rfl ?_; show VC _ _ _ _ _ [(0, .v y88 g)] [] _; refine VC.seq (VC.text ?_); refine VO.new (.box) ?_; refine VO.c (.assign rfl) ?_; refine VO.go (VC.seq (VC.text ?_)); refine VO.c (.fa (.l .o)) ?_; refine VO.r (.ld vt25) ?_; refine VO.r (.len el25) ?_; refine VO.c (.assign rfl) ?_; refine VO.go (VC.seq (VC.seq ?_)); refine VC.join [(1, .p y88 g), (3, I ((g.1.length : Nat) : Int)), (4, I (headG g))] [] ?_ ?_
  · skip
    refine VC.drawn ?_; refine VD.c (.move rfl) (VD.c (.eql) ?_); refine VD.call rfl rfl (VF.call (rWhen_ok )) ?_; refine VD.c (.move rfl) (VD.c (.gtr) ?_); refine VD.call rfl rfl (VF.call (rWhen_ok )) ?_; refine VD.nw [] (VD.c (.fa (.r (.l .o))) ?_); refine VD.r [] (.ld vt25) (.inl rfl) ?_; refine VD.r [] (.len el25) (.inl rfl) ?_; refine VD.c (.move rfl) (VD.c (.neq) (VD.c (.move rfl) ?_)); refine VD.splitD (x := 22) rfl (fun g2_11 => ?_) (fun g2_11 => ?_)
    · refine VD.nw [] (VD.skip (VD.skip (VD.skip ?_))); refine VD.skip (VD.skip (VD.c (.pickT rfl rfl) ?_)); refine VD.call rfl rfl (VF.call (rWhen_ok )) ?_; refine VD.nw [] ?_; refine VD.new (.lit [whenE (decide (((g.1.length : Nat) : Int) = (0 : Int))) (12 : Int), whenE (decide ((8 : Int) < ((g.1.length : Nat) : Int))) (5 : Int), whenE true (2 : Int)] el25) ?_; refine VD.callO rfl rfl (VF.call (rFirst_ok (by simp))) ?_; refine VD.c (.assign rfl) ?_; refine VD.nil ?_; exact ⟨⟨rfl, rfl, slI rfl (by first | exact head_t g2_11 | exact head_f g2_11), trivial⟩, rfl⟩
    refine VD.nw [] (VD.c (.fa (.r (.r .o))) ?_); refine VD.r [] (.ld vt86) (.inl rfl) ?_; refine VD.r [] (.len el86) (.inl rfl) ?_; refine VD.c (.move rfl) (VD.c (.neq) (VD.c (.pickF rfl rfl) ?_)); refine VD.call rfl rfl (VF.call (rWhen_ok )) ?_; refine VD.nw [] ?_; refine VD.new (.lit [whenE (decide (((g.1.length : Nat) : Int) = (0 : Int))) (12 : Int), whenE (decide ((8 : Int) < ((g.1.length : Nat) : Int))) (5 : Int), whenE (decide (((g.2.2.length : Nat) : Int) ≠ ((g.1.length : Nat) : Int))) (2 : Int)] el25) ?_; refine VD.callO rfl rfl (VF.call (rFirst_ok (by simp))) ?_; refine VD.c (.assign rfl) ?_; refine VD.nil ?_; exact ⟨⟨rfl, rfl, slI rfl (by first | exact head_t g2_11 | exact head_f g2_11), trivial⟩, rfl⟩
  refine VC.seq (VC.text ?_); refine VO.c (.move rfl) (VO.c (.neq) (VO.go ?_)); refine VC.condD rfl (fun c3 => ?_) (fun c3 => ?_)
  · refine VC.seq (VC.text ?_); refine VO.c (.move rfl) (VO.c (.assign rfl) (VO.go ?_)); refine VC.ret ?_; exact VEnd.one rfl evT (pvI (by rw [gatesE, if_pos c3]))
  have hh : headG g = 0 := Classical.not_not.1 c3; have hd := head_ok hh; refine VC.skip (VC.seq (VC.seq (VC.text ?_))); refine VO.c (.assign rfl) ?_; refine VO.go (VC.block ?_); refine VC.keep [(1, .p y88 g), (3, I ((g.1.length : Nat) : Int)), (5, I ((0 : Nat) : Int))] ⟨rfl, rfl, rfl, trivial⟩ ?_; refine VC.loop (I := fun kk ff ss => ∃ (i : Nat), kk = g.1.length - i ∧ ff = [(1, .p y88 g), (3, I ((g.1.length : Nat) : Int)), (5, I ((i : Nat) : Int))] ∧ ss = [] ∧ (i ≤ g.1.length) ∧ (firstE (rowsE g) = firstE ((rowsE g).drop i))) ?_ _ _ _ ⟨0, rfl, rfl, rfl, Nat.zero_le _, (by rfl)⟩; rintro kk ff ss ⟨i, hk0, rfl, rfl, hi, hw⟩; refine VC.seq (VC.seq (VC.text ?_)); refine VO.c (.move rfl) (VO.c (.move rfl) (VO.c (.lss) (VO.go ?_))); refine VC.condD rfl (fun c6 => ?_) (fun c6 => ?_)
  · have hil : i < g.1.length := by omega
    have hgx := gateE_x (g := g) hil (by omega) (by omega); refine VC.skip (VC.seq (VC.block (VC.seq (VC.seq (VC.drawn ?_))))); refine VD.c (.fa (.l .o)) ?_; refine VD.r [] (.ld vt25) (.inl rfl) ?_; refine VD.c (.move rfl) (VD.c (.ix (j := i) rfl rfl el25 (by omega)) ?_); refine VD.r [] (.ld vt3) (.inl rfl) ?_; refine VD.call rfl rfl (VF.call (rCheckRange_ok )) ?_; refine VD.nw [] (VD.c (.fa (.r (.l .o))) ?_); refine VD.r [] (.ld vt25) (.inl rfl) ?_; refine VD.c (.move rfl) (VD.c (.ix (j := i) rfl rfl el25 (by omega)) ?_); refine VD.r [] (.ld vt3) (.inl rfl) ?_; refine VD.call rfl rfl (VF.call (rCheckRange_ok )) ?_; refine VD.c (.fa (.r (.r .o))) (VD.nw [] ?_); refine VD.r [] (.ld vt86) (.inl rfl) ?_; refine VD.c (.move rfl) (VD.c (.ix (j := i) rfl rfl el86 (by omega)) ?_); refine VD.r [] (.ld vt25) (.inl rfl) ?_; refine VD.r [] (.len el25) (.inl rfl) ?_; refine VD.c (.move rfl) (VD.c (.neq) (VD.nw [] ?_)); refine VD.call rfl rfl (VF.call (rWhen_ok )) ?_; refine VD.new (.lit [rangeE (g.1[i]) (0 : Int) (10000 : Int), rangeE (g.2.1[i]) (-10000 : Int) (10000 : Int), whenE (decide ((((g.2.2[i]).length : Nat) : Int) ≠ ((g.1.length : Nat) : Int))) (2 : Int)] el25) ?_; refine VD.callO rfl rfl (VF.call (rFirst_ok (by simp))) ?_; refine VD.c (.assign rfl) ?_; refine VD.go (VC.seq (VC.text ?_)); refine VO.c (.move rfl) (VO.c (.neq) (VO.go ?_)); refine VC.condD rfl (fun c9 => ?_) (fun c9 => ?_)
    · have c9 : firstE (row3 g.1.length g.1[i] (g.2.1[i]'(by omega)) (g.2.2[i]'(by omega))) ≠ 0 := c9; refine VC.seq (VC.text ?_); refine VO.c (.move rfl) (VO.c (.assign rfl) (VO.go ?_)); refine VC.ret ?_; exact VEnd.one rfl evT (pvI (by rw [gates_r hh hw hil (by rw [hgx, gate_a c9]; exact c9), hgx, gate_a c9] <;> rfl))
    have h3 : firstE (row3 g.1.length g.1[i] (g.2.1[i]'(by omega)) (g.2.2[i]'(by omega))) = 0 := Classical.not_not.1 c9; have hrl := row3_len h3; refine VC.skip (VC.seq (VC.seq (VC.text ?_))); refine VO.c (.assign rfl) ?_; refine VO.go (VC.block ?_); refine VC.keep [(1, .p y88 g), (3, I ((g.1.length : Nat) : Int)), (5, I ((i : Nat) : Int)), (7, I ((0 : Nat) : Int))] ⟨rfl, rfl, rfl, rfl, trivial⟩ ?_; refine VC.loop (I := fun kk ff ss => ∃ (k : Nat), kk = g.1.length - k ∧ ff = [(1, .p y88 g), (3, I ((g.1.length : Nat) : Int)), (5, I ((i : Nat) : Int)), (7, I ((k : Nat) : Int))] ∧ ss = [] ∧ (k ≤ g.1.length) ∧ (firstE ((g.2.2[i]'(by omega)).map frcE) = firstE (((g.2.2[i]'(by omega)).map frcE).drop k))) ?_ _ _ _ ⟨0, rfl, rfl, rfl, Nat.zero_le _, (by rfl)⟩; rintro kk ff ss ⟨k, hk2, rfl, rfl, hk, hf⟩; refine VC.seq (VC.seq (VC.text ?_)); refine VO.c (.move rfl) (VO.c (.move rfl) (VO.c (.lss) (VO.go ?_))); refine VC.condD rfl (fun c12 => ?_) (fun c12 => ?_)
    · refine VC.skip (VC.seq (VC.block (VC.seq (VC.text ?_)))); refine VO.c (.fa (.r (.r .o))) ?_; refine VO.r (.ld vt86) ?_; refine VO.c (.move rfl) (VO.c (.ix (j := i) rfl rfl el86 (by omega)) ?_); refine VO.r (.ld vt25) ?_; refine VO.c (.move rfl) (VO.c (.ix (j := k) rfl rfl el25 (by omega)) ?_); refine VO.r (.ld vt3) ?_; refine VO.call rfl rfl (VF.call (rCheckRange_ok )) ?_; refine VO.c (.neq) (VO.go ?_); refine VC.condD rfl (fun c14 => ?_) (fun c14 => ?_)
      · have hfe : firstE ((g.2.2[i]'(by omega)).map frcE) = 3 := by rw [hf, firstE_drop (by simp; omega), List.getElem_map, frcE, if_neg c14]; exact rangeE_ne c14
        refine VC.seq (VC.text ?_); refine VO.c (.assign rfl) (VO.go ?_); refine VC.ret ?_; exact VEnd.one rfl evT (pvI (by rw [gates_r hh hw hil (by rw [hgx, gate_b h3 (by rw [hfe]; decide), hfe]; decide), hgx, gate_b h3 (by rw [hfe]; decide), hfe]))
      refine VC.skip (VC.text ?_); refine VO.c (.move rfl) (VO.c (.add rfl rfl (by omega)) (VO.c (.assign rfl) ?_)); refine VO.nil ?_; refine ⟨_, [(1, .p y88 g), (3, I ((g.1.length : Nat) : Int)), (5, I ((i : Nat) : Int)), (7, I (((k + 1) : Nat) : Int))], ?_, ⟨rfl, rfl, rfl, rfl, trivial⟩, (k + 1), rfl, rfl, rfl, (by omega), (by rw [hf, firstE_drop (by simp; omega), List.getElem_map, frcE, if_pos (Classical.not_not.1 c14)])⟩; omega
    have hrz : firstE ((g.2.2[i]'(by omega)).map frcE) = 0 := by rw [hf, firstE_end (by simp; omega)]
    refine VC.exit (VC.seq (VC.text ?_)); refine VO.c (.fa (.r (.r .o))) ?_; refine VO.r (.ld vt86) ?_; refine VO.c (.move rfl) (VO.c (.ix (j := i) rfl rfl el86 (by omega)) ?_); refine VO.r (.ld vt25) ?_; refine VO.c (.move rfl) (VO.c (.ix (j := i) rfl rfl el25 (by omega)) ?_); refine VO.r (.ld vt3) ?_; refine VO.c (.neq) (VO.go ?_); refine VC.condD rfl (fun c16 => ?_) (fun c16 => ?_)
    · refine VC.seq (VC.text ?_); refine VO.c (.assign rfl) (VO.go ?_); refine VC.ret ?_; exact VEnd.one rfl evT (pvI (by rw [gates_r hh hw hil (by rw [hgx, gate_c (row4_0 h3 hrz), getDg (by omega), if_pos c16]; decide), hgx, gate_c (row4_0 h3 hrz), getDg (by omega), if_pos c16]))
    refine VC.skip (VC.text ?_); refine VO.c (.move rfl) (VO.c (.add rfl rfl (by omega)) (VO.c (.assign rfl) ?_)); refine VO.nil ?_; refine ⟨_, [(1, .p y88 g), (3, I ((g.1.length : Nat) : Int)), (5, I (((i + 1) : Nat) : Int))], ?_, ⟨rfl, rfl, rfl, trivial⟩, (i + 1), rfl, rfl, rfl, (by omega), (by exact gates_n hw hil (by rw [hgx, gate_c (row4_0 h3 hrz), getDg (by omega), if_neg c16]))⟩; omega
  refine VC.exit (VC.seq (VC.text ?_)); refine VO.c (.assign rfl) (VO.go ?_); refine VC.ret ?_; exact VEnd.one rfl evT (pvI (by rw [gatesE, if_neg (fun h => h hh), hw, firstE_end (by rw [rowsE_len]; omega)]))
theorem cFrc_ok {n : Int} : VF Tryz.prog OA 131 [I n] (I (frcE n)) := by
  refine VF.enter Tryz.func131 rfl (fun _ _ => rfl) rfl ?_; show VC _ _ _ _ _ [(0, I n)] [] _; refine VC.seq (VC.text ?_); refine VO.c (.assign rfl) ?_; refine VO.go (VC.seq (VC.text ?_)); refine VO.c (.move rfl) ?_; refine VO.call rfl rfl (VF.call (cWithin_ok )) ?_; refine VO.c (.assign rfl) (VO.go ?_); refine VC.ret ?_; exact VEnd.one rfl evT (pvI (by rfl))
theorem cMapIE_ok {F : Int → Int} {l : List Int} {f : PV} (hl : l.length < 100000) (hf : ∀ x ∈ l, VCall Tryz.prog OA f [I x] (.v (.int .i64) (F x))) : VF Tryz.prog OA 110 [.v y25 l, f] (.v y154 (l.map F)) := by
  refine VF.enter Tryz.func110 rfl (fun _ _ => rfl) rfl ?_; show VC _ _ _ _ _ [(0, .v y25 l), (1, f)] [] _; refine VC.seq (VC.text ?_); refine VO.c (.assign rfl) ?_; refine VO.go (VC.seq (VC.text ?_)); refine VO.c (.assign rfl) ?_; refine VO.go (VC.seq (VC.seq (VC.text ?_))); refine VO.c (.move rfl) ?_; refine VO.r (.len el25) ?_; refine VO.c (.move rfl) ?_; refine VO.go (VC.block ?_); refine VC.cell0 26 (.int .i64) ?_; refine VC.keep [(1, f), (5, .raw (.slice none 0 0)), (8, .v y25 l), (9, I ((l.length : Nat) : Int)), (10, I ((0 : Nat) : Int))] ⟨rfl, rfl, rfl, rfl, rfl, trivial⟩ ?_; refine VC.loop (I := fun kk ff ss => ∃ (j : Nat) (out : Value), kk = l.length - j ∧ ff = [(1, f), (5, .raw out), (8, .v y25 l), (9, I ((l.length : Nat) : Int)), (10, I ((j : Nat) : Int))] ∧ ss = [(out, .row 26 (.int .i64) ((l.take j).map F))] ∧ (j ≤ l.length)) ?_ _ _ _ ⟨0, (.slice none 0 0), rfl, rfl, rfl, Nat.zero_le _⟩; rintro kk ff ss ⟨j, out, hk0, rfl, rfl, hj⟩; refine VC.seq (VC.text ?_); refine VO.c (.lss) ?_; refine VO.go (VC.seq ?_); refine VC.condD rfl (fun c3 => ?_) (fun c3 => ?_)
  · refine VC.skip (VC.seq (VC.block (VC.seq (VC.text ?_)))); refine VO.c (.ix (j := j) rfl rfl el25 (by omega)) ?_; refine VO.r (.ld vt3) ?_; refine VO.c (.assign rfl) ?_; refine VO.go (VC.text ?_); refine VO.c (.move rfl) (VO.c (.move rfl) (VO.c (.move rfl) ?_)); refine VO.call rfl rfl ((hf _ (List.getElem_mem _)) ) ?_; refine VO.new (.lit [F (l[j])] el154) ?_; refine VO.app rfl rfl el154 el154 (by simp; omega) ?_; intro ww1; refine VO.c (.assign rfl) ?_; refine VO.nil (VC.text ?_); refine VO.c (.add rfl rfl (by omega)) (VO.c (.move rfl) ?_); refine VO.nil ?_; refine ⟨_, [(1, f), (5, .raw ww1), (8, .v y25 l), (9, I ((l.length : Nat) : Int)), (10, I (((j + 1) : Nat) : Int))], ?_, ⟨rfl, rfl, rfl, rfl, rfl, trivial⟩, (j + 1), ww1, rfl, rfl, (by rw [List.take_succ_eq_append_getElem (by omega), List.map_append] <;> rfl), (by omega)⟩; omega
  refine VC.exit (VC.seq (VC.text ?_)); refine VO.c (.move rfl) (VO.c (.assign rfl) (VO.go ?_)); refine VC.ret ?_; exact VEnd.one rfl (evC (.row m0)) (pvE (by rw [List.take_of_length_le (by omega)]))
theorem cGates_ok {g : (List Int) × (List Int) × (List (List Int))} (h0 : g.1.length < 1000) (hr : ∀ row ∈ g.2.2, row.length < 1000) : VF Tryz.prog OA 62 [.v y92 g] (I (gatesE g)) := by
  refine VF.enter Tryz.func62 rfl (fun _ _ => rfl) rfl ?_; show VC _ _ _ _ _ [(0, .v y92 g)] [] _; refine VC.seq (VC.text ?_); refine VO.new (.box) ?_; refine VO.c (.assign rfl) ?_; refine VO.go (VC.seq (VC.text ?_)); refine VO.c (.fa (.l .o)) ?_; refine VO.r (.ld vt25) ?_; refine VO.r (.len el25) ?_; refine VO.c (.assign rfl) ?_; refine VO.go (VC.seq (VC.seq ?_)); refine VC.join [(1, .p y92 g), (3, I ((g.1.length : Nat) : Int)), (4, I (headG g))] [] ?_ ?_
  · skip
    refine VC.drawn ?_; refine VD.c (.move rfl) (VD.c (.eql) ?_); refine VD.call rfl rfl (VF.call (cWhen_ok )) ?_; refine VD.c (.move rfl) (VD.c (.gtr) ?_); refine VD.call rfl rfl (VF.call (cWhen_ok )) ?_; refine VD.nw [] (VD.c (.fa (.r (.l .o))) ?_); refine VD.r [] (.ld vt25) (.inl rfl) ?_; refine VD.r [] (.len el25) (.inl rfl) ?_; refine VD.c (.move rfl) (VD.c (.neq) (VD.c (.move rfl) ?_)); refine VD.splitD (x := 22) rfl (fun g2_11 => ?_) (fun g2_11 => ?_)
    · refine VD.nw [] (VD.skip (VD.skip (VD.skip ?_))); refine VD.skip (VD.skip (VD.c (.pickT rfl rfl) ?_)); refine VD.call rfl rfl (VF.call (cWhen_ok )) ?_; refine VD.nw [] ?_; refine VD.new (.lit [whenE (decide (((g.1.length : Nat) : Int) = (0 : Int))) (12 : Int), whenE (decide ((8 : Int) < ((g.1.length : Nat) : Int))) (5 : Int), whenE true (2 : Int)] el154) ?_; refine VD.callO rfl rfl (VF.call (cFirst_ok (by simp))) ?_; refine VD.c (.assign rfl) ?_; refine VD.nil ?_; exact ⟨⟨rfl, rfl, slI rfl (by first | exact head_t g2_11 | exact head_f g2_11), trivial⟩, rfl⟩
    refine VD.nw [] (VD.c (.fa (.r (.r .o))) ?_); refine VD.r [] (.ld vt86) (.inl rfl) ?_; refine VD.r [] (.len el86) (.inl rfl) ?_; refine VD.c (.move rfl) (VD.c (.neq) (VD.c (.pickF rfl rfl) ?_)); refine VD.call rfl rfl (VF.call (cWhen_ok )) ?_; refine VD.nw [] ?_; refine VD.new (.lit [whenE (decide (((g.1.length : Nat) : Int) = (0 : Int))) (12 : Int), whenE (decide ((8 : Int) < ((g.1.length : Nat) : Int))) (5 : Int), whenE (decide (((g.2.2.length : Nat) : Int) ≠ ((g.1.length : Nat) : Int))) (2 : Int)] el154) ?_; refine VD.callO rfl rfl (VF.call (cFirst_ok (by simp))) ?_; refine VD.c (.assign rfl) ?_; refine VD.nil ?_; exact ⟨⟨rfl, rfl, slI rfl (by first | exact head_t g2_11 | exact head_f g2_11), trivial⟩, rfl⟩
  refine VC.seq (VC.text ?_); refine VO.c (.move rfl) (VO.c (.neq) (VO.go ?_)); refine VC.condD rfl (fun c3 => ?_) (fun c3 => ?_)
  · refine VC.seq (VC.text ?_); refine VO.c (.move rfl) (VO.c (.assign rfl) (VO.go ?_)); refine VC.ret ?_; exact VEnd.one rfl evT (pvI (by rw [gatesE, if_pos c3]))
  have hh : headG g = 0 := Classical.not_not.1 c3; have hd := head_ok hh; refine VC.skip (VC.seq (VC.seq (VC.text ?_))); refine VO.c (.fa (.r (.r .o))) ?_; refine VO.r (.ld vt86) ?_; refine VO.r (.len el86) ?_; refine VO.c (.move rfl) ?_; refine VO.go (VC.block ?_); refine VC.keep [(1, .p y92 g), (3, I ((g.1.length : Nat) : Int)), (36, .v y86 g.2.2), (37, I ((g.2.2.length : Nat) : Int)), (38, I ((0 : Nat) : Int))] ⟨rfl, rfl, rfl, rfl, rfl, trivial⟩ ?_; refine VC.loop (I := fun kk ff ss => ∃ (i : Nat), kk = g.2.2.length - i ∧ ff = [(1, .p y92 g), (3, I ((g.1.length : Nat) : Int)), (36, .v y86 g.2.2), (37, I ((g.2.2.length : Nat) : Int)), (38, I ((i : Nat) : Int))] ∧ ss = [] ∧ (i ≤ g.2.2.length) ∧ (firstE (rowsE g) = firstE ((rowsE g).drop i))) ?_ _ _ _ ⟨0, rfl, rfl, rfl, Nat.zero_le _, (by rfl)⟩; rintro kk ff ss ⟨i, hk0, rfl, rfl, hi, hw⟩; refine VC.seq (VC.text ?_); refine VO.c (.lss) ?_; refine VO.go (VC.seq ?_); refine VC.condD rfl (fun c6 => ?_) (fun c6 => ?_)
  · have hil : i < g.1.length := by omega
    have hgx := gateE_x (g := g) hil (by omega) (by omega); have hrr := hr _ (List.getElem_mem (show i < g.2.2.length by omega)); refine VC.skip (VC.seq (VC.block (VC.seq (VC.text ?_)))); refine VO.c (.move rfl) (VO.c (.ix (j := i) rfl rfl el86 (by omega)) ?_); refine VO.r (.ld vt25) ?_; refine VO.c (.assign rfl) (VO.c (.assign rfl) ?_); refine VO.go (VC.seq (VC.seq (VC.drawn ?_))); refine VD.c (.fa (.l .o)) ?_; refine VD.r [] (.ld vt25) (.inl rfl) ?_; refine VD.c (.move rfl) (VD.c (.ix (j := i) rfl rfl el25 (by omega)) ?_); refine VD.r [] (.ld vt3) (.inl rfl) ?_; refine VD.call rfl rfl (VF.call (cWithin_ok )) ?_; refine VD.nw [] (VD.c (.fa (.r (.l .o))) ?_); refine VD.r [] (.ld vt25) (.inl rfl) ?_; refine VD.c (.move rfl) (VD.c (.ix (j := i) rfl rfl el25 (by omega)) ?_); refine VD.r [] (.ld vt3) (.inl rfl) ?_; refine VD.call rfl rfl (VF.call (cFrc_ok )) ?_; refine VD.c (.move rfl) (VD.nw [] ?_); refine VD.r [] (.len el25) (.inl rfl) ?_; refine VD.c (.move rfl) (VD.c (.neq) ?_); refine VD.call rfl rfl (VF.call (cWhen_ok )) ?_; refine VD.c (.move rfl) ?_; refine VD.call rfl rfl (VF.call (cMapIE_ok (F := frcE) (by omega) (fun _ _ => VF.call cFrc_ok))) ?_; refine VD.callO rfl rfl (VF.call (cFirst_ok (by simp; omega))) ?_; refine VD.nw [61] ?_; refine VD.new (.lit [rangeE (g.1[i]) (0 : Int) (10000 : Int), frcE (g.2.1[i]), whenE (decide ((((g.2.2[i]).length : Nat) : Int) ≠ ((g.1.length : Nat) : Int))) (2 : Int), firstE ((g.2.2[i]).map frcE)] el154) ?_; refine VD.callO rfl rfl (VF.call (cFirst_ok (by simp))) ?_; refine VD.c (.assign rfl) ?_; refine VD.go (VC.seq (VC.text ?_)); refine VO.c (.move rfl) (VO.c (.neq) (VO.go ?_)); refine VC.condD rfl (fun c9 => ?_) (fun c9 => ?_)
    · have c9 : firstE (row4 g.1.length g.1[i] (g.2.1[i]'(by omega)) (g.2.2[i]'(by omega))) ≠ 0 := c9; refine VC.seq ?_; refine VC.keep [(1, .p y92 g), (3, I ((g.1.length : Nat) : Int)), (5, I ((i : Nat) : Int)), (6, .v y25 (g.2.2[i])), (7, I (firstE [rangeE (g.1[i]) (0 : Int) (10000 : Int), frcE (g.2.1[i]), whenE (decide ((((g.2.2[i]).length : Nat) : Int) ≠ ((g.1.length : Nat) : Int))) (2 : Int), firstE ((g.2.2[i]).map frcE)])), (36, .v y86 g.2.2), (37, I ((g.2.2.length : Nat) : Int)), (38, I ((i : Nat) : Int))] ⟨rfl, rfl, rfl, rfl, rfl, rfl, rfl, rfl, trivial⟩ ?_; refine VC.text ?_; refine VO.c (.move rfl) (VO.c (.assign rfl) (VO.go ?_)); refine VC.ret ?_; exact VEnd.one rfl evT (pvI (by rw [gates_r hh hw hil (by rw [hgx, gate_a4 c9]; exact c9), hgx, gate_a4 c9] <;> rfl))
    have h4 : firstE (row4 g.1.length g.1[i] (g.2.1[i]'(by omega)) (g.2.2[i]'(by omega))) = 0 := Classical.not_not.1 c9; have hrl := row3_len (row4_3 h4); refine VC.skip (VC.seq ?_); refine VC.keep [(1, .p y92 g), (3, I ((g.1.length : Nat) : Int)), (5, I ((i : Nat) : Int)), (6, .v y25 (g.2.2[i])), (36, .v y86 g.2.2), (37, I ((g.2.2.length : Nat) : Int)), (38, I ((i : Nat) : Int))] ⟨rfl, rfl, rfl, rfl, rfl, rfl, rfl, trivial⟩ ?_; refine VC.text ?_; refine VO.c (.move rfl) (VO.c (.move rfl) (VO.c (.ix (j := i) rfl rfl el25 (by omega)) ?_)); refine VO.r (.ld vt3) ?_; refine VO.c (.neq) (VO.go ?_); refine VC.condD rfl (fun c11 => ?_) (fun c11 => ?_)
    · refine VC.seq (VC.text ?_); refine VO.c (.assign rfl) (VO.go ?_); refine VC.ret ?_; exact VEnd.one rfl evT (pvI (by rw [gates_r hh hw hil (by rw [hgx, gate_c h4, getDg (by omega), if_pos c11]; decide), hgx, gate_c h4, getDg (by omega), if_pos c11]))
    refine VC.skip (VC.text ?_); refine VO.c (.add rfl rfl (by omega)) (VO.c (.move rfl) ?_); refine VO.nil ?_; refine ⟨_, [(1, .p y92 g), (3, I ((g.1.length : Nat) : Int)), (36, .v y86 g.2.2), (37, I ((g.2.2.length : Nat) : Int)), (38, I (((i + 1) : Nat) : Int))], ?_, ⟨rfl, rfl, rfl, rfl, rfl, trivial⟩, (i + 1), rfl, rfl, rfl, (by omega), (by exact gates_n hw hil (by rw [hgx, gate_c h4, getDg (by omega), if_neg c11]))⟩; omega
  refine VC.exit (VC.seq (VC.text ?_)); refine VO.c (.assign rfl) (VO.go ?_); refine VC.ret ?_; exact VEnd.one rfl evT (pvI (by rw [gatesE, if_neg (fun h => h hh), hw, firstE_end (by rw [rowsE_len]; omega)]))
end Go.Proofs
namespace Go.Fs
variable {P : Program} {h : Heap} {S : List Nat} {σ : Sto} {t : Tr} {fl : VL} {x : Operand} {T e : TypeId} {τ : Ty}
end Go.Fs
namespace Go.Fs
variable {P : Program} {σ : Sto} {fl : VL} {x y : Operand} {T T' : TypeId} {p q : Bool}
theorem equal_bool (hT : P.underlying T = some .bool) : runPure P (Op.equal T (.bool p) (.bool q)) = some (p == q) := by
  unfold Op.equal; rw [show Op.maxDepth = 9999 + 1 from rfl, Op.equalIn]; simp only [runPure_bind, runPure_underlying hT, Option.bind_some, runPure_pure]
theorem CalmV.beql (hT : P.underlying T = some .bool := by kernel_rfl) (hx : evV fl x = some (.v .bool p) := by rfl) (hy : evV fl y = some (.v .bool q) := by rfl) : CalmV P fl σ (.binOp .eql T x y T') (.v .bool (p == q)) :=
  .bin hx hy fun h S a c ha hc => by
    obtain rfl := RepV.bool ha; obtain rfl := RepV.bool hc; refine ⟨.bool (p == q), RepV.ofBool _, rfl, ?_⟩
    have h1 : runPure P (Op.equal T (.bool p) (.bool q) >>= fun b => pure (Value.bool b)) = some (.bool (p == q)) := by
      rw [runPure_bind, equal_bool hT]; rfl
    unfold purely; show (runPure P (Op.equal T (.bool p) (.bool q) >>= fun b => pure (Value.bool b))).bind _ = _; rw [h1]; rfl
theorem CalmV.bneq (hT : P.underlying T = some .bool := by kernel_rfl) (hx : evV fl x = some (.v .bool p) := by rfl) (hy : evV fl y = some (.v .bool q) := by rfl) : CalmV P fl σ (.binOp .neq T x y T') (.v .bool (p != q)) :=
  .bin hx hy fun h S a c ha hc => by
    obtain rfl := RepV.bool ha; obtain rfl := RepV.bool hc; refine ⟨.bool (p != q), RepV.ofBool _, rfl, ?_⟩
    have h1 : runPure P (Op.equal T (.bool p) (.bool q) >>= fun b => pure (Value.bool !b)) = some (.bool (p != q)) := by
      rw [runPure_bind, equal_bool hT]; rfl
    unfold purely; show (runPure P (Op.equal T (.bool p) (.bool q) >>= fun b => pure (Value.bool !b))).bind _ = _; rw [h1]; rfl
end Go.Fs
namespace Go.Fs
variable {P : Program} {orc : FuncId → List Value → Heap → Option (Value × Heap)} {σ : Sto} {fl : VL} {ops : Array Oper} {n : Nat} {l : List Oper} {K : VL → Sto → Prop} {d : Tmp} {ty : TypeId} {pos : String} {after : Array Edge} {g : Option (Nat × Bool)} {x : Operand} {T e : TypeId} {τ : Ty}
theorem VO.oneM {w : Value} {κ ν : Ty} {kvs : List (κ.den × ν.den)} (hm : (w, Cell.mp κ ν kvs) ∈ σ) (hk : oneCell w = true → VO P orc ops n l fl σ K) : VO P orc ops n l fl σ K := fun h0 G S0 t h ms I => by
  obtain ⟨b, es, c, h1, _⟩ := I.cells _ hm; have h1 : w = .map (some b) := h1; exact hk (by rw [h1]; rfl) h0 G S0 t h ms I
end Go.Fs
namespace Go.Fs
variable {P : Program} {fl : VL} {e : TypeId} {τ : Ty}
theorem swap4 {a b c d e : Value × Cell} {r : Sto} : (a :: b :: c :: d :: e :: r).Perm (e :: a :: b :: c :: d :: r) := (swap3.cons a).trans (List.Perm.swap e a (b :: c :: d :: r))
theorem swap5 {a b c d e f : Value × Cell} {r : Sto} : (a :: b :: c :: d :: e :: f :: r).Perm (f :: a :: b :: c :: d :: e :: r) := (swap4.cons a).trans (List.Perm.swap f a (b :: c :: d :: e :: r))
end Go.Fs
namespace Go.Fs
open Go.RowKit (Below)
variable {P : Program} {H : Type} {enc : TypeId × Value → H} {w : World} {base : Nat} {sp : Nat → Bool} {held : Bool}
def fsB (P : Program) (ty : TypeId → Ty → Bool) : List Field → Nat → Ty → Bool
  | [f], off, .pair a .unit => Nat.beq f.offset off && Nat.beq (P.cellsOf f.type) a.size && ty f.type a
  | [f], off, τ => Nat.beq f.offset off && Nat.beq (P.cellsOf f.type) τ.size && ty f.type τ
  | f :: fs, off, .pair a b => Nat.beq f.offset off && Nat.beq (P.cellsOf f.type) a.size && ty f.type a && fsB P ty fs (off + a.size) b
  | _, _, _ => false
def arrFs (P : Program) (m : Nat) (e : TypeId) : List Field := (List.range m).map fun i => { name := "", type := e, offset := i * P.cellsOf e, embedded := false, tag := "", pkgPath := "", byteOffset := 0 }
def tyB (P : Program) : Nat → TypeId → Ty → Bool
  | 0, _, _ => false
  | n + 1, t, τ =>
    match P.underlying t, τ with
    | some (.int k), .int k' => decide (k = k')
    | some .bool, .bool => true
    | some .string, .str => true
    | some (.float k), .flt k' => decide (k = k')
    | some (.slice te), .sl e => Nat.beq (P.cellsOf te) e.size && Nat.blt 0 e.size && tyB P n te e
    | some (.struct fs), .pair a b => Nat.beq (P.cellsOf t) (Ty.pair a b).size && fsB P (tyB P n) fs.toList 0 (.pair a b)
    | some (.array m e), .pair a b => Nat.beq (P.cellsOf t) (Ty.pair a b).size && fsB P (tyB P n) (arrFs P m e) 0 (.pair a b)
    | _, _ => false
def Wf : (τ : Ty) → τ.den → Prop
  | .int k, n => (Lit.int k n).wf = true
  | .bool, _ => True
  | .str, s => s.size ≤ maxLen
  | .flt k, n => (Lit.float k n).wf = true
  | .sl e, xs => List.length xs ≤ maxLen ∧ ∀ x ∈ (xs : List e.den), Wf e x
  | .pair a b, x => Wf a x.1 ∧ Wf b x.2
  | .unit, _ => True
  | .mp _ _, _ => True
  | .fn, _ => True
  | .hnd, _ => True
structure Got (P : Program) (w : World) (ρ : Ren) (S : Nat → Prop) (h : Heap) (ρ' : Ren) (S' : Nat → Prop) (h' : Heap) : Prop where
  hr : HR P ρ' S' w.heap.size (wz w) h' w
  agree : ∀ b, S b → S' b ∧ ρ' b = ρ b
  aft : After h h'
theorem Got.refl {ρ : Ren} {S : Nat → Prop} {h : Heap} (hr : HR P ρ S w.heap.size (wz w) h w) : Got P w ρ S h ρ S h := ⟨hr, fun _ hb => ⟨hb, rfl⟩, After.refl h⟩
theorem Got.trans {ρ ρ1 ρ2 : Ren} {S S1 S2 : Nat → Prop} {h h1 h2 : Heap} (a : Got P w ρ S h ρ1 S1 h1) (b : Got P w ρ1 S1 h1 ρ2 S2 h2) : Got P w ρ S h ρ2 S2 h2 :=
  ⟨b.hr, fun i hi => let ⟨h3, h4⟩ := a.agree i hi; let ⟨h5, h6⟩ := b.agree i h3; ⟨h5, h6.trans h4⟩, a.aft.trans b.aft⟩
theorem Got.ok {ρ ρ1 : Ren} {S S1 : Nat → Prop} {h h1 : Heap} (a : Got P w ρ S h ρ1 S1 h1) : HOk h1 := fun b o hg => (a.hr.ids b (a.hr.objs b o hg).1).1
theorem hok_of {ρ : Ren} {S : Nat → Prop} {h : Heap} (hr : HR P ρ S w.heap.size (wz w) h w) : HOk h := fun b o hg => (hr.ids b (hr.objs b o hg).1).1
theorem Got.row {ρ : Ren} {S : Nat → Prop} {h : Heap} (hr : HR P ρ S w.heap.size (wz w) h w) {te : TypeId} {cs : List Value} {a : Addr} (ha : a.block < w.heap.size) (hc : ∀ i, i < cs.length → ∃ v, w.cell? ⟨a.block, a.off + i, none⟩ = some v ∧ VR ρ S (cs.getD i undef) v) :
    Got P w ρ S h (fun b => if b = h.next then (.clean a.block a.off 0 (P.cellsOf te)) else ρ b) (fun b => S b ∨ b = h.next) (h.push (.row te cs false false)) := by
  have hag : ∀ b, S b → (S b ∨ b = h.next) ∧ (fun b => if b = h.next then (Loc.clean a.block a.off 0 (P.cellsOf te)) else ρ b) b = ρ b := fun b hb => by
    have := (hr.ids b hb).1; exact ⟨.inl hb, by simp only; rw [if_neg (by omega)]⟩
  have hold : ∀ i o, (h.push (.row te cs false false)).get i = some o → (i = h.next ∧ o = .row te cs false false) ∨ (i ≠ h.next ∧ h.get i = some o) := fun i o hg => by
    rw [Heap.get_push] at hg; by_cases hi : i = h.next
    · rw [if_pos hi] at hg; exact .inl ⟨hi, (Option.some.inj hg).symm⟩
    rw [if_neg hi] at hg; exact .inr ⟨hi, hg⟩
  refine ⟨⟨fun i o hg => ?_, fun i j oi oj hi hj oi1 oj1 he => ?_, fun i o hg ho => ?_, fun i o hg ho => ?_, fun b hb => ?_, Nat.succ_pos _, z_below (Below.refl _ _), Nat.zero_le _, Nat.le_refl _⟩, hag, After.push h _⟩
  · rcases hold i o hg with ⟨rfl, rfl⟩ | ⟨hi, hg'⟩
    · refine ⟨.inr rfl, ?_⟩; simp only [if_true]; refine ⟨rfl, fun i hi => ?_, fun hx => by cases hx⟩; obtain ⟨v, h1, h2⟩ := hc i hi; exact ⟨v, h1, h2.mono hag⟩
    obtain ⟨h1, h2⟩ := hr.objs i o hg'; refine ⟨.inl h1, ?_⟩; simp only [if_neg hi]; exact h2.mono hag
  · rcases hold i oi hi with ⟨rfl, rfl⟩ | ⟨hi', hgi⟩
    · cases oi1
    rcases hold j oj hj with ⟨rfl, rfl⟩ | ⟨hj', hgj⟩
    · cases oj1
    simp only [if_neg hi', if_neg hj'] at he; exact hr.inj i j oi oj hgi hgj oi1 oj1 he
  · rcases hold i o hg with ⟨rfl, rfl⟩ | ⟨hi, hg'⟩
    · cases ho
    simp only [if_neg hi]; exact hr.base i o hg' ho
  · rcases hold i o hg with ⟨rfl, rfl⟩ | ⟨hi, hg'⟩
    · simp only [if_true]; exact ha
    simp only [if_neg hi]; exact hr.ro i o hg' ho
  have hn : (h.push (.row te cs false false)).next = h.next + 1 := rfl; rw [hn]; rcases hb with hb | rfl
  · have := hr.ids b hb; exact ⟨by omega, this.2⟩
  have := hr.pos; exact ⟨by omega, by omega⟩
theorem trod_float {fuel : Nat} {t : TypeId} {cs : List Value} {x : DataW H × List MemPlace} {k : FloatKind} (ht : P.underlying t = some (.float k)) (h : DataW.trod enc P w base sp held fuel t cs = some x) : ∃ n, cs = [.float k n] ∧ (Lit.float k n).wf = true := by
  cases fuel with
  | zero => simp [DataW.trod] at h
  | succ n =>
    unfold DataW.trod at h; rw [ht] at h; split at h <;> simp_all
theorem mapM_all {α β : Type} (f : α → Option β) : ∀ (l : List α) (r : List β), l.mapM f = some r → l.length = r.length ∧ ∀ i (hi : i < l.length) (hr : i < r.length), f l[i] = some r[i]
  | [], r, h => by
    simp only [List.mapM_nil] at h; obtain rfl := Option.some.inj h
    exact ⟨rfl, fun i hi => absurd hi (by simp)⟩
  | a :: l, r, h => by
    rw [List.mapM_cons] at h
    cases hf : f a with
    | none => rw [hf] at h; cases h
    | some b =>
      rw [hf] at h
      cases hl : l.mapM f with
      | none => rw [hl] at h; cases h
      | some bs =>
        rw [hl] at h; obtain rfl := Option.some.inj h; obtain ⟨h1, h2⟩ := mapM_all f l bs hl; refine ⟨by simp [h1], fun i hi hr => ?_⟩
        cases i with
        | zero => exact hf
        | succ i => exact h2 i (by simpa using hi) (by simpa using hr)
theorem cells_some {a : Addr} {n : Nat} {cs : List Value} (h : w.cells? base a n = some cs) : cs.length = n ∧ ∀ i, i < n → w.cell? (a.add i) = some (cs.getD i undef) := by
  unfold World.cells? at h; split at h
  · obtain ⟨h1, h2⟩ := mapM_all _ _ _ h; rw [List.length_range] at h1; refine ⟨h1.symm, fun i hi => ?_⟩; have := h2 i (by simpa using hi) (by omega); rw [List.getElem_range] at this; rw [this]; simp [List.getD, show i < cs.length by omega]
  cases h
theorem cell_some {a : Addr} {v : Value} (h : w.cell? a = some v) : a.spot = none ∧ a.block < w.heap.size := by
  unfold World.cell? at h; split at h
  · rename_i c _ _ hb; refine ⟨?_, (Array.getElem?_eq_some_iff.1 hb).1⟩
    cases hs : a.spot with
    | none => rfl
    | some s => rw [hs] at h; cases h
  cases h
def Tells (P : Program) (w : World) (τ : Ty) (cs : List Value) : Prop := ∀ (ρ : Ren) (S : Nat → Prop) (h : Heap), HR P ρ S w.heap.size (wz w) h w →
  ∃ ρ' S' h' cs' x, Got P w ρ S h ρ' S' h' ∧ LR ρ' S' cs' cs ∧ RepC h' [] τ cs' x ∧ Wf τ x
theorem LR.one {ρ : Ren} {S : Nat → Prop} {v v' : Value} (h : VR ρ S v v') : LR ρ S [v] [v'] := LR.cons h LR.nil
theorem tells_elems {e : Ty} (a : Addr) (len : Nat) (hcs : ∀ i, i < len → ∃ cs, (∀ j, j < e.size → w.cell? (a.add (i * e.size + j)) = some (cs.getD j undef)) ∧ cs.length = e.size ∧ Tells P w e cs) :
    ∀ (ρ : Ren) (S : Nat → Prop) (h : Heap), HR P ρ S w.heap.size (wz w) h w → ∃ ρ' S' h' rs xs, Got P w ρ S h ρ' S' h' ∧ rs.length = len * e.size ∧ List.length xs = len ∧ (∀ i, i < len * e.size → ∃ v, w.cell? (a.add i) = some v ∧ VR ρ' S' (rs.getD i undef) v) ∧
      Elems h' [] e rs xs ∧ ∀ x ∈ (xs : List e.den), Wf e x := by
  induction len with
  | zero =>
    intro ρ S h hr
    exact ⟨ρ, S, h, [], [], Got.refl hr, by simp, rfl, fun i hi => by omega, Elems.nil, fun x hx => by cases hx⟩
  | succ n ih =>
    intro ρ S h hr; obtain ⟨ρ1, S1, h1, rs, xs, g1, l1, l2, c1, e1, w1⟩ := ih (fun i hi => hcs i (by omega)) ρ S h hr; obtain ⟨cs, k1, k2, k3⟩ := hcs n (by omega); obtain ⟨ρ2, S2, h2, cs', x, g2, lr, rc, wf⟩ := k3 ρ1 S1 h1 g1.hr; have hN : Goes h1 [] h2 [] := g2.aft.nx g1.ok; have hl : cs'.length = e.size := rc.len
    have hel : Elems h2 [] e cs' [x] := by
      refine ⟨by simpa using hl, fun i hi => ?_⟩
      obtain rfl : i = 0 := by simpa using hi
      simp only [Nat.zero_mul, List.drop_zero, List.getElem_cons_zero]; rw [List.take_of_length_le (by omega)]; exact rc
    refine ⟨ρ2, S2, h2, rs ++ cs', xs ++ [x], g1.trans g2, by rw [List.length_append, l1, hl, Nat.add_mul]; omega, by simp [l2], fun i hi => ?_, (e1.nx hN).append hel, fun y hy => ?_⟩
    · rw [Nat.add_mul, Nat.one_mul] at hi; by_cases hin : i < n * e.size
      · obtain ⟨v, hv1, hv2⟩ := c1 i hin; refine ⟨v, hv1, ?_⟩; rw [List.getD_eq_getElem?_getD, List.getElem?_append_left (by omega), ← List.getD_eq_getElem?_getD]; exact hv2.mono g2.agree
      have hj : i - n * e.size < e.size := by omega
      refine ⟨cs.getD (i - n * e.size) undef, ?_, ?_⟩
      · have := k1 (i - n * e.size) hj
        rwa [show n * e.size + (i - n * e.size) = i by omega] at this
      rw [List.getD_eq_getElem?_getD, List.getElem?_append_right (by omega), l1, ← List.getD_eq_getElem?_getD]; exact lr.getD _
    rcases List.mem_append.1 hy with hy | hy
    · exact w1 y hy
    obtain rfl := List.mem_singleton.1 hy; exact wf
theorem Addr.add_spot {a : Addr} (h : a.spot = none) (n : Nat) : a.add n = ⟨a.block, a.off + n, none⟩ := by
  obtain ⟨b, o, s⟩ := a; simp only at h; subst h; unfold Addr.add; by_cases hn : n = 0
  · subst hn; simp
  simp [hn]
theorem tells_fields {n : Nat} (ih : ∀ (t : TypeId) (τ : Ty), tyB P n t τ = true → ∀ (fuel : Nat) (cs : List Value) (x : DataW H × List MemPlace), DataW.trod enc P w base sp held fuel t cs = some x → Tells P w τ cs) :
    ∀ (fs : List Field) (off : Nat) (τ : Ty) (cs : List Value) (m : Nat), fsB P (tyB P n) fs off τ = true → cs.length = off + τ.size → (∀ f ∈ fs, ∃ x, DataW.trod enc P w base sp held m f.type ((cs.drop f.offset).take (P.cellsOf f.type)) = some x) → Tells P w τ (cs.drop off) := by
  have one : ∀ (f : Field) (off : Nat) (τ : Ty) (cs : List Value) (m : Nat), f.offset = off → P.cellsOf f.type = τ.size → tyB P n f.type τ = true → off + τ.size ≤ cs.length → (∃ x, DataW.trod enc P w base sp held m f.type ((cs.drop f.offset).take (P.cellsOf f.type)) = some x) → Tells P w τ ((cs.drop off).take τ.size) := by
    intro f off τ cs m h1 h2 h3 h4 ⟨x, hx⟩; rw [h1, h2] at hx; exact ih f.type τ h3 m _ x hx
  intro fs
  induction fs with
  | nil => intro off τ cs m hb; cases hb
  | cons f fs ihf =>
    intro off τ cs m hb hl hall; have hf := hall f List.mem_cons_self
    cases fs with
    | nil =>
      by_cases hs : ∃ a, τ = .pair a .unit
      · obtain ⟨a, rfl⟩ := hs; have hb' : (Nat.beq f.offset off && Nat.beq (P.cellsOf f.type) a.size && tyB P n f.type a) = true := hb; obtain ⟨hb', h3⟩ := band hb'; obtain ⟨h1, h2⟩ := band hb'
        have hs : (Ty.pair a .unit).size = a.size := by simp [Ty.size]
        rw [hs] at hl; have := one f off a cs m (nbeq h1) (nbeq h2) h3 (by omega) hf; intro ρ S h hr; obtain ⟨ρ', S', h', cs', x, g, lr, rc, wf⟩ := this ρ S h hr; have e1 : (cs.drop off).take a.size = cs.drop off := List.take_of_length_le (by rw [List.length_drop]; omega); rw [e1] at lr; have hcl := rc.len; exact ⟨ρ', S', h', cs', (x, ()), g, lr, ⟨by rw [List.take_of_length_le (by omega)]; exact rc, by rw [List.drop_eq_nil_of_le (by omega)]; rfl⟩, wf, trivial⟩
      have hb' : (Nat.beq f.offset off && Nat.beq (P.cellsOf f.type) τ.size && tyB P n f.type τ) = true := by
        cases τ with
        | pair a b =>
          cases b with
          | unit => exact absurd ⟨a, rfl⟩ hs
          | _ => exact hb
        | _ => exact hb
      obtain ⟨hb', h3⟩ := band hb'; obtain ⟨h1, h2⟩ := band hb'; have := one f off τ cs m (nbeq h1) (nbeq h2) h3 (by omega) hf; have e1 : (cs.drop off).take τ.size = cs.drop off := List.take_of_length_le (by rw [List.length_drop]; omega)
      rwa [e1] at this
    | cons g fs =>
      cases τ with
      | pair a b =>
        have hb' : (Nat.beq f.offset off && Nat.beq (P.cellsOf f.type) a.size && tyB P n f.type a && fsB P (tyB P n) (g :: fs) (off + a.size) b) = true := hb; obtain ⟨hb', h4⟩ := band hb'; obtain ⟨hb', h3⟩ := band hb'; obtain ⟨h1, h2⟩ := band hb'; have hs : (Ty.pair a b).size = a.size + b.size := rfl; rw [hs] at hl; have ha := one f off a cs m (nbeq h1) (nbeq h2) h3 (by omega) hf; have hrest := ihf (off + a.size) b cs m h4 (by omega) (fun g hg => hall g (List.mem_cons_of_mem _ hg)); intro ρ S h hr; obtain ⟨ρ1, S1, h1', cs1, x1, g1, lr1, rc1, wf1⟩ := ha ρ S h hr; obtain ⟨ρ2, S2, h2', cs2, x2, g2, lr2, rc2, wf2⟩ := hrest ρ1 S1 h1' g1.hr; have hN : Goes h1' [] h2' [] := g2.aft.nx g1.ok; have hc1 := rc1.len; refine ⟨ρ2, S2, h2', cs1 ++ cs2, (x1, x2), g1.trans g2, ?_, ⟨?_, ?_⟩, wf1, wf2⟩
        · have := (lr1.mono g2.agree).append lr2
          rwa [show (cs.drop off).take a.size ++ cs.drop (off + a.size) = cs.drop off from by rw [← List.drop_drop, List.take_append_drop]] at this
        · rw [List.take_left' hc1]; exact rc1.nx hN
        rw [List.drop_left' hc1]; exact rc2
      | _ => cases hb
theorem tells : ∀ (n : Nat) (t : TypeId) (τ : Ty), tyB P n t τ = true → ∀ (fuel : Nat) (cs : List Value) (x : DataW H × List MemPlace), DataW.trod enc P w base sp held fuel t cs = some x → Tells P w τ cs := by
  intro n
  induction n with
  | zero => intro t τ h; cases h
  | succ n ih =>
    intro t τ hb fuel cs x hx; unfold tyB at hb; split at hb
    · rename_i k k' hu; obtain rfl : k = k' := of_decide_eq_true hb; obtain ⟨m, rfl, _, hwf⟩ := DataW.trod_int hu hx; exact fun ρ S h hr => ⟨ρ, S, h, _, m, Got.refl hr, LR.one (.lit rfl), rfl, hwf⟩
    · rename_i hu; obtain ⟨b, rfl, _⟩ := DataW.trod_bool hu hx; exact fun ρ S h hr => ⟨ρ, S, h, _, b, Got.refl hr, LR.one (.lit rfl), rfl, trivial⟩
    · rename_i hu; obtain ⟨s, rfl, _, hs⟩ := DataW.trod_string hu hx; exact fun ρ S h hr => ⟨ρ, S, h, _, s, Got.refl hr, LR.one (.lit rfl), rfl, hs⟩
    · rename_i k k' hu; obtain rfl : k = k' := of_decide_eq_true hb; obtain ⟨m, rfl, hwf⟩ := trod_float hu hx; exact fun ρ S h hr => ⟨ρ, S, h, _, m, Got.refl hr, LR.one (.lit rfl), rfl, hwf⟩
    · rename_i te e hu; obtain ⟨hb, h3⟩ := band hb; obtain ⟨h1, h2⟩ := band hb; have hce := nbeq h1; have hpos := nblt h2; rcases DataW.trod_slice hu hx with ⟨rfl, _⟩ | ⟨a, len, cap, elems, rest, m, _, rfl, _, hba, hlc, hcap, hlen, hel, _⟩
      · exact fun ρ S h hr => ⟨ρ, S, h, [.slice none 0 0], [], Got.refl hr, LR.one (.lit rfl), ⟨_, rfl, .inl ⟨rfl, rfl⟩⟩, Nat.zero_le _, fun x hx => by cases hx⟩
      by_cases h0 : len = 0
      · subst h0; exact fun ρ S h hr => ⟨ρ, S, h, [.slice (some ⟨0, 0, none⟩) 0 2], [], Got.refl hr, LR.one (.slice 0 0 0 2 cap a (Nat.zero_le _) (fun h => by cases h) (fun _ => rfl) (fun h => absurd rfl h)), ⟨_, rfl, .inr ⟨0, 0, 2, rfl, .inl rfl⟩⟩, Nat.zero_le _, fun x hx => by cases hx⟩
      have hcs : ∀ i, i < len → ∃ cs, (∀ j, j < e.size → w.cell? (a.add (i * e.size + j)) = some (cs.getD j undef)) ∧ cs.length = e.size ∧ Tells P w e cs := by
        intro i hi; have := hel i hi; rw [List.getElem?_eq_getElem (by omega)] at this; rw [hce] at this
        cases hc : w.cells? base (a.add (i * e.size)) e.size with
        | none => rw [hc] at this; cases this
        | some cs =>
          rw [hc] at this; obtain ⟨k1, k2⟩ := cells_some hc; refine ⟨cs, fun j hj => ?_, k1, ih te e h3 m cs _ this⟩; rw [← k2 j hj]; congr 1; obtain ⟨b, o, s⟩ := a; unfold Addr.add; by_cases hx1 : i * e.size = 0
          · simp [hx1]
          by_cases hx2 : j = 0
          · subst hx2; simp [hx1]
          simp [hx1, hx2, Nat.add_assoc]
      have hfirst : a.spot = none ∧ a.block < w.heap.size := by
        obtain ⟨cs, k1, _⟩ := hcs 0 (by omega); have := k1 0 hpos; rw [Nat.zero_mul, Nat.zero_add] at this; have h4 := cell_some this; simpa [Addr.add] using h4
      intro ρ S h hr; obtain ⟨ρ1, S1, h1', rs, xs, g1, l1, l2, c1, e1, w1⟩ := tells_elems (P := P) a len hcs ρ S h hr
      have hrow := Got.row (te := te) g1.hr (cs := rs) (a := a) hfirst.2 (fun i hi => by
        have := c1 i (by omega)
        rwa [Addr.add_spot hfirst.1] at this)
      have hsl : SlV (h1'.push (.row te rs false false)) [] e (.slice (some ⟨h1'.next, 0, none⟩) (List.length xs) 2) xs := (e1.nx (hrow.aft.nx g1.ok)).slv (by rw [Heap.get_push, if_pos rfl]) (by simp); refine ⟨_, _, _, [.slice (some ⟨h1'.next, 0, none⟩) (List.length xs) 2], xs, g1.trans hrow, ?_, ⟨_, rfl, hsl⟩, by omega, w1⟩; rw [l2]; refine LR.one (.slice h1'.next 0 len 2 cap a hlc (fun h => by cases h) (fun h5 => by have := g1.hr.pos; omega) fun _ => ⟨.inr rfl, ?_, fun h => by cases h⟩); simp only [if_true, Loc.at, Nat.add_zero]; obtain ⟨b, o, s⟩ := a; simp only at hfirst; rw [hfirst.1]
    · rename_i fs a b hu; obtain ⟨h1, h2⟩ := band hb; obtain ⟨xs, m, _, _, hl, hsz, hall⟩ := DataW.trod_struct hu hx
      have hcl : cs.length = (Ty.pair a b).size := by rw [hl, nbeq h1]
      have := tells_fields ih fs.toList 0 (.pair a b) cs m h2 (by omega) (fun f hf => by
        obtain ⟨i, hi, rfl⟩ := List.getElem_of_mem hf
        have hi' : i < fs.size := by simpa using hi
        have := hall i fs[i] (by simp [hi']); rw [List.getElem?_eq_getElem (by omega)] at this
        exact ⟨_, by simpa using this⟩)
      simpa using this
    · rename_i m e a b hu; obtain ⟨h1, h2⟩ := band hb; obtain ⟨xs, m', _, _, hl, hsz, hall⟩ := DataW.trod_array hu hx
      have hcl : cs.length = (Ty.pair a b).size := by rw [hl, nbeq h1]
      have := tells_fields ih (arrFs P m e) 0 (.pair a b) cs m' h2 (by omega) (fun f hf => by
        obtain ⟨i, hi, rfl⟩ := List.mem_map.1 hf; have hi' : i < m := List.mem_range.1 hi; have := hall i hi'; rw [List.getElem?_eq_getElem (by omega)] at this
        exact ⟨_, this⟩)
      simpa using this
    cases hb
theorem okWide_agg {n : Nat} {r : Reach} {b0 : Nat} {t : TypeId} {τ : Ty} {v : Value} (hb : tyB P n t τ = true) (hval : Value.okWide P w r b0 t v) : isAggV v = τ.agg := by
  cases n with
  | zero => cases hb
  | succ n =>
    unfold tyB at hb; unfold Value.okWide at hval; split at hb
    · rename_i k k' hu; rw [hu] at hval; simp only [Cell.okWide, hu, Cell.ok] at hval; cases v <;> simp_all [isAggV, Ty.agg]
    · rename_i hu; rw [hu] at hval; simp only [Cell.okWide, hu, Cell.ok] at hval; cases v <;> simp_all [isAggV, Ty.agg]
    · rename_i hu; rw [hu] at hval; simp only [Cell.okWide, hu, Cell.ok] at hval; cases v <;> simp_all [isAggV, Ty.agg]
    · rename_i k k' hu; rw [hu] at hval; simp only [Cell.okWide, hu, Cell.ok] at hval; cases v <;> simp_all [isAggV, Ty.agg]
    · rename_i te e hu; rw [hu] at hval; simp only [Cell.okWide, hu, Cell.ok] at hval; cases v <;> simp_all [isAggV, Ty.agg]
    · rename_i fs a b hu; rw [hu] at hval; obtain ⟨cs, rfl, _⟩ := hval; rfl
    · rename_i m e a b hu; rw [hu] at hval; obtain ⟨cs, rfl, _⟩ := hval; rfl
    cases hb
theorem tell_arg {ρ : Ren} {S : Nat → Prop} {h : Heap} (hr : HR P ρ S w.heap.size (wz w) h w) {n : Nat} {r : Reach} {b0 : Nat} {t : TypeId} {τ : Ty} {v : Value} {d : DataW H} {ps : List MemPlace} (hb : tyB P n t τ = true) (hval : Value.okWide P w r b0 t v) (hd : DataW.Trod enc P w base sp held t v d ps) :
    ∃ ρ' S' h' v' x, Got P w ρ S h ρ' S' h' ∧ VR ρ' S' v' v ∧ RepV h' [] τ v' x ∧ Wf τ x := by
  have hag := okWide_agg hb hval; obtain ⟨fuel, hf⟩ := hd; obtain ⟨ρ', S', h', cs', x, g, lr, rc, wf⟩ := tells n t τ hb fuel _ _ hf ρ S h hr
  cases hτ : τ.agg with
  | true =>
    rw [hτ] at hag
    cases v with
    | agg cs =>
      refine ⟨ρ', S', h', .agg cs'.toArray, x, g, VR.agg' (by simpa [Value.cells] using lr), ⟨hτ.symm, by simpa [Value.cells] using rc⟩, wf⟩
    | _ => cases hag
  | false =>
    rw [hτ] at hag; rw [cells_one hag] at lr; obtain ⟨u, rfl, hu⟩ := rc.one hτ; have := lr.2 0 (by simp); exact ⟨ρ', S', h', u, x, g, by simpa using this, hu, wf⟩
section
open Go.WideElems Go.ChangeShapes
theorem trodAll_below (hl : laidOutB P = true) {W W' : World} (hb : Below W.heap.size W W') : ∀ {ts : List TypeId} {vs : List Value} {ds : List (DataW H)} {ps : List MemPlace}, (ts.all fun t => P.readableRec t && decide (t < P.types.size)) = true →
    DataW.TrodAll enc P W 0 (fun _ => true) true ts vs ds ps → (∀ x ∈ ps, x.block < W.heap.size) → DataW.TrodAll enc P W' 0 (fun b => decide (b < W.heap.size)) true ts vs ds ps
  | [], [], [], _, _, h, _ => h
  | [], _ :: _, _, _, _, h, _ => h.elim
  | [], [], _ :: _, _, _, h, _ => h.elim
  | _ :: _, [], _, _, _, h, _ => h.elim
  | _ :: _, _ :: _, [], _, _, h, _ => h.elim
  | t :: ts, v :: vs, d :: ds, ps, ha, h, hp => by
    obtain ⟨p, q, h1, h2, rfl⟩ := h; simp only [List.all_cons, Bool.and_eq_true, decide_eq_true_eq] at ha; exact ⟨p, q, Go.RowKit.Below.trod hl ha.1.1 ha.1.2 h1 hb (fun x hx => hp x (List.mem_append_left _ hx)), trodAll_below hl hb (by simpa using ha.2) h2 (fun x hx => hp x (List.mem_append_right _ hx)), rfl⟩
theorem law_post {f : Func} {s : ChangeSpec} {tb : TypeId} (hl : laidOutB P = true) (hrd : (f.params.toList.all fun t => P.readableRec t && decide (t < P.types.size)) = true) (hres : f.resultTypes = #[tb]) (htb : P.underlying tb = some .bool) (hvars : s.vars = []) {W W' : World} {args : Array Value} {ds gs : List (DataW H)}
    {before : List MemPlace} (hW : DataW.Whole enc P f.params.toList s.vars false W args.toList ds gs before) (hr : (s.fn H (ds ++ gs)).results = [.lit (.bool true)]) (ha : (s.fn H (ds ++ gs)).args = ds) (hv : (s.fn H (ds ++ gs)).vars = []) (hb : Below W.heap.size W W') :
    s.post enc P f false true false false W args (.bool true) W' := by
  have hlt := hW.lt; have hW' := hW; obtain ⟨p, q, hA, hV, rfl, _, _⟩ := hW; rw [hvars] at hV; have hV' : gs = [] ∧ q = [] := trodVars_none hV; obtain ⟨rfl, rfl⟩ := hV'; refine ⟨ds, [], p ++ [], [], p, [], hW', ?_, ?_, ?_, hb.frame _, fun h => by cases h⟩
  · rw [hr, hres]; exact trodAll_mk1 (Go.RowKit.shut_bool htb _)
  · rw [ha]; exact trodAll_below hl hb hrd hA fun x hx => hlt x (List.mem_append_left _ hx)
  rw [hvars, hv]; exact rfl
end
theorem law_calls2 (hP : ProgOk P) {orc : FuncId → List Value → Heap → Option (Value × Heap)} {W : World} (horc : CallSound P W.heap.size (wz W) orc) {ρz : Ren} {Sz : Nat → Prop} {hz : Heap} (hrz : HR P ρz Sz W.heap.size (wz W) hz W) (hGz : GT hz []) {f : FuncId} (hen : Enters P f) {fn : Func} {n : Nat} {t0 t1 : TypeId} {τ0 τ1 : Ty} (hp : fn.params = #[t0, t1]) (hb0 : tyB P n t0 τ0 = true) (hb1 : tyB P n t1 τ1 = true)
    (hE : ∀ (h : Heap) (v0 v1 : Value) (x0 : τ0.den) (x1 : τ1.den), HOkG h → RepV h [] τ0 v0 x0 → RepV h [] τ1 v1 x1 → Wf τ0 x0 → Wf τ1 x1 → EvF P orc f [v0, v1] h fun r h' => r = .bool true ∧ h' = h)
    {args : Array Value} {ds : List (DataW H)} {ps : List MemPlace} (hval : ∀ (j : Nat) t v, fn.params[j]? = some t → args[j]? = some v → Value.okWide P W .any base t v) (hA : DataW.TrodAll enc P W 0 sp held fn.params.toList args.toList ds ps) :
    Calls P f args W fun | .returned v', w' => v' = .bool true ∧ Below W.heap.size W w' | _, _ => False := by
  rw [hp] at hA hval; obtain ⟨v0, vs0, d0, ds0, p0, q0, ha, rfl, rfl, k0, r0⟩ := Go.ChangeShapes.trodAll_cons hA; obtain ⟨v1, vs1, d1, ds1, p1, q1, rfl, rfl, rfl, k1, r1⟩ := Go.ChangeShapes.trodAll_cons r0; obtain ⟨rfl, rfl, rfl⟩ := Go.ChangeShapes.trodAll_nil r1
  obtain rfl : args = #[v0, v1] := by cases args; simp_all
  obtain ⟨ρ0, S0, h0, u0, x0, g0, c0, e0, w0⟩ := tell_arg hrz hb0 (hval 0 t0 v0 rfl rfl) k0; obtain ⟨ρ1, S1, h1, u1, x1, g1, c1, e1, w1⟩ := tell_arg g0.hr hb1 (hval 1 t1 v1 rfl rfl) k1; have hR := hE h1 u0 u1 x0 x1 ⟨g1.ok, (hGz.nx (g0.aft.nx (hok_of hrz))).nx (g1.aft.nx g0.ok)⟩ (e0.nx (g1.aft.nx g0.ok)) e1 w0 w1; refine (fs_open (args' := [v0, v1]) hP horc hen g1.hr (LR.cons (c0.mono g1.agree) (LR.one c1)) (EvF.mono hR fun v h' h => h.1) rfl).mono fun e w' he => ?_
  cases e with
  | returned v => exact ⟨he.1, below_z he.2⟩
  | panicked c => exact he
  | outgrown => exact he
end Go.Fs
namespace Go.Proofs
open Go.Fs
set_option maxHeartbeats 1000000
theorem zt92 : ZerT Tryz.prog 92 y92 := zerT_of (z := .agg #[.slice none 0 0, .slice none 0 0, .slice none 0 0]) (by kernel_rfl) rfl rfl
theorem bt92 : BldT Tryz.prog 92 y92 [(0, 1), (1, 1), (2, 1)] := bldT_of zt92 rfl (by kernel_rfl)
theorem wfL {e : Ty} {xs : List e.den} (h : Wf (.sl e) xs) : xs.length ≤ 9223372036854775807 := Nat.le_trans h.1 (by decide)
theorem lInts_ok {l : List Int} (hl : l.length < 1000000) : VF Tryz.prog OA 36 [.v y25 l] (.v y25 l) := by
  refine VF.enter Tryz.func36 rfl (fun _ _ => rfl) rfl ?_; show VC _ _ _ _ _ [(0, .v y25 l)] [] _; refine VC.seq (VC.text ?_); refine VO.c (.assign rfl) ?_; refine VO.go (VC.seq (VC.text ?_)); refine VO.cell (.lit0 el25) ?_; intro ww1; refine VO.c (.move rfl) ?_; refine VO.app rfl rfl el25 el25 (by simp; omega) ?_; intro ww2; refine VO.c (.assign rfl) (VO.go ?_); refine VC.ret ?_; exact VEnd.one rfl (evC (.row m0)) (pvE (by rfl))
theorem lGates_ok {g : (List Int) × (List Int) × (List (List Int))} (h1 : g.1.length < 100000) (h2 : g.2.1.length < 100000) (h3 : g.2.2.length < 100000) (hr : ∀ row ∈ g.2.2, row.length < 1000) : VF Tryz.prog OA 56 [.v y88 g] (.v y92 g) := by
  refine VF.enter Tryz.func56 rfl (fun _ _ => rfl) rfl ?_; show VC _ _ _ _ _ [(0, .v y88 g)] [] _; refine VC.seq (VC.text ?_); refine VO.new (.box) ?_; refine VO.cell (.alloc zt92) ?_; intro ww3; refine VO.go (VC.seq (VC.drawn ?_)); refine VD.c (.fa (.l .o)) ?_; refine VD.r [] (.ld vt25) (.inl rfl) ?_; refine VD.call rfl rfl (VF.call (lInts_ok (by first | assumption | omega | simp))) ?_; refine VD.c (.fa (.r (.l .o))) ?_; refine VD.r [] (.ld vt25) (.inl rfl) ?_; refine VD.call rfl rfl (VF.call (lInts_ok (by first | assumption | omega | simp))) ?_; refine VD.nw [11, 8] (VD.c (.buildA (cs := [.v y25 g.1, .v y25 g.2.1, nilV]) bt92 rfl) ?_); refine VD.cell (.alloc zt92) ?_; intro ww4; refine VD.mk0 (MakeV.setF (k := 0) vt92 (.aggs rfl rfl) (Nat.le_of_ble_eq_true rfl) (.inr ⟨rfl, rfl⟩) rfl rfl) ?_; rintro _ _ tl5 ⟨rfl, rfl⟩; refine VD.go (VC.seq (VC.seq (VC.text ?_))); refine VO.c (.fa (.r (.r .o))) ?_; refine VO.r (.ld vt86) ?_; refine VO.r (.len el86) ?_; refine VO.c (.move rfl) ?_; refine VO.go (VC.block ?_); refine VC.cell0 25 y25 ?_; refine VC.keep [(2, .raw ww3), (3, .raw ww4), (14, .v y86 g.2.2), (15, I ((g.2.2.length : Nat) : Int)), (16, I ((0 : Nat) : Int))] ⟨rfl, rfl, rfl, rfl, rfl, trivial⟩ ?_; refine VC.loop (I := fun kk ff ss => ∃ (i : Nat) (w : Value), kk = g.2.2.length - i ∧ ff = [(2, .raw ww3), (3, .raw ww4), (14, .v y86 g.2.2), (15, I ((g.2.2.length : Nat) : Int)), (16, I ((i : Nat) : Int))] ∧ ss = [(w, .row 25 y25 (g.2.2.take i)), (ww4, .var [.v y25 g.1, .v y25 g.2.1, .raw w]), (ww3, .var [.v y25 [], .v y25 [], .v y86 []])] ∧ (i ≤ g.2.2.length)) ?_ _ _ _ ⟨0, (.slice none 0 0), rfl, rfl, rfl, Nat.zero_le _⟩; rintro kk ff ss ⟨i, w, hk0, rfl, rfl, hi⟩; refine VC.seq (VC.text ?_); refine VO.c (.lss) ?_; refine VO.go (VC.seq ?_); refine VC.condD rfl (fun c3 => ?_) (fun c3 => ?_)
  · have hrr := hr _ (List.getElem_mem (show i < g.2.2.length by omega)); refine VC.skip (VC.seq (VC.block (VC.seq (VC.text ?_)))); refine VO.c (.ix (j := i) rfl rfl el86 (by omega)) ?_; refine VO.r (.ld vt25) ?_; refine VO.c (.assign rfl) ?_; refine VO.go (VC.drawn ?_); refine VD.co (.faO (k := 2) m1) ?_; refine VD.r [(w, .row 25 y25 (g.2.2.take i)), (ww4, .var [.v y25 g.1, .v y25 g.2.1, .raw w]), (ww3, .var [.v y25 [], .v y25 [], .v y86 []])] (.ldF (k := 2) m1 vt86) (.inr ⟨rfl, rfl⟩) ?_; refine VD.c (.move rfl) ?_; refine VD.call rfl rfl (VF.call (lInts_ok (by omega))) ?_; refine VD.new (.lit [(g.2.2[i])] el86) ?_; refine VD.mk (MakeV.app el86 el86 rfl rfl (by simp; omega)) ?_; rintro _ _ tl6 ⟨ww6, rfl, rfl⟩; refine VD.nw [25, 24, 23] ?_; refine VD.co (.faO (k := 2) m1) ?_; refine VD.perm swap1 ?_; refine VD.one m1 fun ho7 => ?_; refine VD.mk0 (MakeV.setF (k := 2) vt86 (.raw rfl (agg_one ho7) ho7) (Nat.le_of_ble_eq_true rfl) (.inl rfl) rfl rfl) ?_; rintro _ _ tl8 ⟨rfl, rfl⟩; refine VD.nil ?_; refine VC.text ?_; refine VO.c (.add rfl rfl (by omega)) (VO.c (.move rfl) ?_); refine VO.perm swap2 ?_; refine VO.perm swap1 ?_; refine VO.perm swap2 ?_; refine VO.nil ?_; refine ⟨_, [(2, .raw ww3), (3, .raw ww4), (14, .v y86 g.2.2), (15, I ((g.2.2.length : Nat) : Int)), (16, I (((i + 1) : Nat) : Int))], ?_, ⟨rfl, rfl, rfl, rfl, rfl, trivial⟩, (i + 1), ww6, rfl, rfl, (by rw [List.take_succ_eq_append_getElem (by omega)] <;> rfl), (by omega)⟩; omega
  refine VC.exit (VC.seq ?_); refine VC.perm swap1 ?_; refine VC.perm swap1 ?_; refine VC.shutL [(w, .row 25 y25 (g.2.2.take i)), (ww4, .var [.v y25 g.1, .v y25 g.2.1, .raw w])] [(3, .p y92 (g.1, g.2.1, (g.2.2.take i)))] rfl (.cons rfl (.var m1 (.cons .same (.cons .same (.cons (.row m0) .nil)))) .nil) ?_; refine VC.text ?_; refine VO.r (.ld vt92) ?_; refine VO.setV (cs' := [.v y25 g.1, .v y25 g.2.1, .v y86 (g.2.2.take i)]) vt92 .v ?_; refine VO.go ?_; refine VC.ret ?_; exact VEnd.one rfl (.cell (x := (g.1, g.2.1, (g.2.2.take i))) rfl m0 vt92 .refl) (pvE (by rw [List.take_of_length_le (by omega)]))
def shortG (g : Gat) : Bool := decide ((∀ row ∈ g.2.2, row.length ≤ 9) ∧ g.1.length ≤ 9 ∧ g.2.1.length ≤ 9 ∧ g.2.2.length ≤ 9)
theorem shortG_f {g : Gat} {i : Nat} (hi : i < g.2.2.length) (h : (9 : Int) < ((g.2.2[i].length : Nat) : Int)) : false = shortG g := (decide_eq_false fun hh => by have := hh.1 _ (List.getElem_mem hi); omega).symm
theorem rShortG_ok {g : (List Int) × (List Int) × (List (List Int))} (hl : g.2.2.length ≤ 9223372036854775807) : VF Tryz.prog OA 54 [.v y88 g] (B (shortG g)) := by
  refine VF.enter Tryz.func54 rfl (fun _ _ => rfl) rfl ?_; show VC _ _ _ _ _ [(0, .v y88 g)] [] _; refine VC.seq (VC.text ?_); refine VO.new (.box) ?_; refine VO.c (.assign rfl) ?_; refine VO.go (VC.seq (VC.seq (VC.text ?_))); refine VO.c (.assign rfl) ?_; refine VO.go (VC.block ?_); refine VC.keep [(1, .p y88 g), (3, I ((0 : Nat) : Int))] ⟨rfl, rfl, trivial⟩ ?_; refine VC.loop (I := fun kk ff ss => ∃ (i : Nat), kk = g.2.2.length - i ∧ ff = [(1, .p y88 g), (3, I ((i : Nat) : Int))] ∧ ss = [] ∧ (i ≤ g.2.2.length) ∧ (∀ j (hj : j < g.2.2.length), j < i → g.2.2[j].length ≤ 9)) ?_ _ _ _ ⟨0, rfl, rfl, rfl, Nat.zero_le _, (by intro j hj h; omega)⟩; rintro kk ff ss ⟨i, hk0, rfl, rfl, hi, hn⟩; refine VC.seq (VC.seq (VC.text ?_)); refine VO.c (.move rfl) (VO.c (.fa (.r (.r .o))) ?_); refine VO.r (.ld vt86) ?_; refine VO.r (.len el86) ?_; refine VO.c (.lss) (VO.go ?_); refine VC.condD rfl (fun c2 => ?_) (fun c2 => ?_)
  · refine VC.skip (VC.seq (VC.block (VC.seq (VC.text ?_)))); refine VO.c (.fa (.r (.r .o))) ?_; refine VO.r (.ld vt86) ?_; refine VO.c (.move rfl) (VO.c (.ix (j := i) rfl rfl el86 (by omega)) ?_); refine VO.r (.ld vt25) ?_; refine VO.r (.len el25) ?_; refine VO.c (.gtr) (VO.go ?_); refine VC.condD rfl (fun c4 => ?_) (fun c4 => ?_)
    · refine VC.seq (VC.text ?_); refine VO.c (.assign rfl) (VO.go ?_); refine VC.ret ?_; exact VEnd.one rfl evT (pvE (by exact shortG_f (by omega) c4))
    refine VC.skip (VC.text ?_); refine VO.c (.move rfl) (VO.c (.add rfl rfl (by omega)) (VO.c (.assign rfl) ?_)); refine VO.nil ?_; refine ⟨_, [(1, .p y88 g), (3, I (((i + 1) : Nat) : Int))], ?_, ⟨rfl, rfl, trivial⟩, (i + 1), rfl, rfl, rfl, (by omega), (by intro j hj h; rcases Nat.lt_succ_iff_lt_or_eq.1 h with h | h; exact hn j hj h; subst h; omega)⟩; omega
  refine VC.exit (VC.seq (VC.text ?_)); refine VO.c (.fa (.l .o)) ?_; refine VO.r (.ld vt25) ?_; refine VO.r (.len el25) ?_; refine VO.c (.leq) (VO.c (.move rfl) ?_); refine VO.cg (r := decide (((g.1.length : Nat) : Int) ≤ (9 : Int))) (w := true) [] trivial (fun _ => (.fa (.r (.l .o)))) ?_; refine VO.rg (r := decide (((g.1.length : Nat) : Int) ≤ (9 : Int))) (w := true) [(23, .p y25 g.2.1)] ⟨rfl, trivial⟩ (fun _ => (.ld vt25)) ?_; refine VO.rg (r := decide (((g.1.length : Nat) : Int) ≤ (9 : Int))) (w := true) [(24, .v y25 g.2.1)] ⟨rfl, trivial⟩ (fun _ => (.len el25)) ?_; refine VO.cg (r := decide (((g.1.length : Nat) : Int) ≤ (9 : Int))) (w := true) [(25, I ((g.2.1.length : Nat) : Int))] ⟨rfl, trivial⟩ (fun _ => (.leq)) ?_; refine VO.c (.and) (VO.c (.move rfl) ?_); refine VO.cg (r := ((decide (((g.1.length : Nat) : Int) ≤ (9 : Int))) && (decide (((g.2.1.length : Nat) : Int) ≤ (9 : Int))))) (w := true) [] trivial (fun _ => (.fa (.r (.r (k := 0) .o)))) ?_; refine VO.rg (r := ((decide (((g.1.length : Nat) : Int) ≤ (9 : Int))) && (decide (((g.2.1.length : Nat) : Int) ≤ (9 : Int))))) (w := true) [(29, .p y86 g.2.2)] ⟨rfl, trivial⟩ (fun _ => (.ld vt86)) ?_; refine VO.rg (r := ((decide (((g.1.length : Nat) : Int) ≤ (9 : Int))) && (decide (((g.2.1.length : Nat) : Int) ≤ (9 : Int))))) (w := true) [(30, .v y86 g.2.2)] ⟨rfl, trivial⟩ (fun _ => (.len el86)) ?_; refine VO.cg (r := ((decide (((g.1.length : Nat) : Int) ≤ (9 : Int))) && (decide (((g.2.1.length : Nat) : Int) ≤ (9 : Int))))) (w := true) [(31, I ((g.2.2.length : Nat) : Int))] ⟨rfl, trivial⟩ (fun _ => (.leq)) ?_; refine VO.c (.and) (VO.c (.assign rfl) (VO.go ?_)); refine VC.ret ?_; exact VEnd.one rfl evT (pvE (by rw [shortG, ← Bool.decide_and, ← Bool.decide_and]; refine decide_eq_decide.2 ⟨fun hh => ⟨fun row hrow => ?_, by omega, by omega, by omega⟩, fun hh => by omega⟩; obtain ⟨j, hj, rfl⟩ := List.getElem_of_mem hrow; exact hn j hj (by omega)))
end Go.Proofs
namespace Go.Proofs
open Go.Fs
set_option maxHeartbeats 1000000
theorem shortG_t {g : Gat} (h : shortG g = true) : (∀ row ∈ g.2.2, row.length ≤ 9) ∧ g.1.length ≤ 9 ∧ g.2.1.length ≤ 9 ∧ g.2.2.length ≤ 9 := of_decide_eq_true h
end Go.Proofs
namespace Go.Proofs
open Go.Fs
set_option maxHeartbeats 1000000
theorem zt4 : ZerT Tryz.prog 4 .bool := zerT_of (z := .bool false) (by kernel_rfl) rfl rfl
def firstR (f : Nat → Int) (i n : Nat) : Int := firstE ((List.range' i (n - i)).map f)
theorem firstR_step {f : Nat → Int} {i n : Nat} (h : i < n) : firstR f i n = if f i = 0 then firstR f (i + 1) n else f i := by
  unfold firstR; rw [show n - i = (n - (i + 1)) + 1 by omega, List.range'_succ]; rfl
theorem firstR_end {f : Nat → Int} {i n : Nat} (h : n ≤ i) : firstR f i n = 0 := by
  unfold firstR; rw [show n - i = 0 by omega] <;> rfl
theorem firstR_zero {f : Nat → Int} {n : Nat} : firstR f 0 n = 0 ↔ ∀ i, i < n → f i = 0 := by
  unfold firstR; rw [firstE_zero, Nat.sub_zero]; constructor
  · intro h i hi; exact h _ (List.mem_map_of_mem (List.mem_range'_1.2 ⟨Nat.zero_le _, by omega⟩))
  intro h x hx; obtain ⟨i, hi, rfl⟩ := List.mem_map.1 hx; exact h i (by have := List.mem_range'_1.1 hi; omega)
theorem mget_mset {α β : Type} [DecidableEq α] : ∀ (m : List (α × β)) (x z : α) (y : β), mget (mset m x y) z = if z = x then some y else mget m z
  | [], x, z, y => by simp [mset, mget]
  | (a, b) :: r, x, z, y => by
    by_cases h : x = a
    · subst h; simp only [mset, if_pos, mget]; by_cases h2 : z = x <;> simp [h2]
    simp only [mset, if_neg h, mget, mget_mset r x z y]; by_cases h2 : z = a
    · subst h2; have : ¬ z = x := fun e => h e.symm; simp [this]
    simp [h2]
abbrev Pha := ByteArray × Int × Int × List Int
def phA (l : List Pha) (i : Nat) : Pha := l.getD i (ByteArray.empty, 0, 0, [])
def lastB (b : List Int) : Nat → Int
  | 0 => -1
  | k + 1 => b.getD k 0
def befA (i : Nat) (b : List Int) (k : Nat) : Int := firstE [whenE (decide (b.getD k 0 < 0) || decide (((i : Nat) : Int) ≤ b.getD k 0)) 10, whenE (decide (b.getD k 0 ≤ lastB b k)) 11]
def befE (i : Nat) (b : List Int) : Int := firstR (befA i b) 0 b.length
def twiB (l : List Pha) (i : Nat) (s : ByteArray) : Bool := (l.take i).any fun x => decide (x.1 = s)
def headP (l : List Pha) (i : Nat) : List Int := [whenE (!nameB (phA l i).1) 8, whenE (twiB l i (phA l i).1) 9, rangeE (phA l i).2.1 0 1000, rangeE (phA l i).2.2.1 0 1000, whenE (decide ((phA l i).2.2.1 < (phA l i).2.1)) 11]
def phaE (l : List Pha) (i : Nat) : Int := firstE (headP l i ++ [befE i (phA l i).2.2.2])
def planE (l : List Pha) : Int := if 16 < ((l.length : Nat) : Int) then 5 else firstR (phaE l) 0 l.length
end Go.Proofs
