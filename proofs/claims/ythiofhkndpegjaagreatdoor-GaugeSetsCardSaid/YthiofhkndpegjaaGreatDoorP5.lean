/- Parts of the proof: an evaluator of the model, what it is sound for, and contracts of functions. No condition. -/
import Derived.Test.YthiofhkndpegjaaGreatDoorP4
import Derived.Test.YthiofhkndpegjaaGreatDoorP3
import Derived.Laws.Strings
import Derived.Test.YthiofhkndpegjaaGreatDoorP2
import Ieee.Arith
import Derived.Sort.AssemblyPlain
import Derived.Shelf.SlSortCmp.InsertionK
import Derived.Test.YthiofhkndpegjaaGreatDoorChecked
set_option linter.all false
namespace Go.Fs
variable {P : Program} {orc : FuncId → List Value → Heap → Option (Value × Heap)} {h : Heap} {σ : Sto} {fl : VL} {n i mem : Nat} {l : List Oper} {K : VL → Sto → Prop} {ops : Array Oper} {bs nw0 : List Nat} {tail so : Bool}
theorem VD.nw (nw1 : List Nat) (hk : VD P orc ops n l i fl nw1 σ so bs mem tail K) (he : nw0 = nw1 := by rfl) : VD P orc ops n l i fl nw0 σ so bs mem tail K := he ▸ hk
theorem VF.oracle {f : FuncId} {τ : Ty} {dv : τ.den} {v : Value} (ho : ∀ h : Heap, orc f [] h = some (v, h)) (hv : ∀ (h : Heap) (S : List Nat), RepPV h S (.v τ dv) v) : VF P orc f [] (.v τ dv) := fun h S us hok hS hr => by
  obtain rfl : us = [] := by
    cases us with
    | nil => rfl
    | cons a r => cases hr
  exact EvF.oracle (ho h) ⟨Aft.refl _ _, hv h S, fun _ => rfl⟩
end Go.Fs
namespace Go.Fs
variable {P : Program} {h : Heap} {S : List Nat}
def eqF (E : Ty → TypeId → Bool) : List Field → Nat → Ty → Bool
  | [], _, .unit => true
  | f :: r, o, .pair a b => (!(f.name == "_") && Nat.beq f.offset o && E a f.type && eqF E r (o + a.size) b) || (r.isEmpty && !(f.name == "_") && Nat.beq f.offset o && E (.pair a b) f.type)
  | [f], o, τ => !(f.name == "_") && Nat.beq f.offset o && E τ f.type
  | _, _, _ => false
def eqV (P : Program) : Nat → Ty → TypeId → Bool
  | 0, _, _ => false
  | d + 1, τ, T => valB P T τ && match P.underlying T, τ with
    | some (.int k), .int k' => k == k'
    | some .bool, .bool => true
    | some .string, .str => true
    | some (.struct fs), .pair a b => !P.stoodInHeld T && eqF (eqV P d) fs.toList 0 (.pair a b)
    | _, _ => false
theorem bytes_beq_t {x y : ByteArray} (he : x = y) : (x == y) = true := by
  subst he
  show (x.data == x.data) = true
  simp
theorem bytes_beq_f {x y : ByteArray} (he : ¬ x = y) : (x == y) = false := by
  show (x.data == y.data) = false
  simp only [beq_eq_false_iff_ne, ne_eq]
  exact fun hd => he (ByteArray.ext hd)
theorem size_noagg {τ : Ty} (h : τ.agg = false) : τ.size = 1 := by cases τ <;> first | rfl | cases h
theorem part_rep {T : TypeId} {τ : Ty} (hT : ValT P T τ) {cs : Array Value} {o : Nat} {x : τ.den} (hr : RepC h S τ ((cs.toList.drop o).take τ.size) x) : ∃ v, runPure P (part T cs o) = some v ∧ RepV h S τ v x := by
  obtain ⟨i, hi, hsz⟩ := hT.info
  obtain ⟨d, hd, hag⟩ := hT.agg
  have hA : runPure P (isAgg T) = some τ.agg := by
    unfold isAgg
    rw [runPure_bind, runPure_underlying hd, ← hag]
    cases d <;> rfl
  unfold part
  rw [runPure_bind, hA]
  simp only [Option.bind_some]
  cases hga : τ.agg with
  | true =>
    simp only [if_true]
    rw [runPure_bind, runPure_sizeOf hi]
    refine ⟨_, rfl, hga.symm, ?_⟩
    show RepC h S τ (cs.extract o (o + i.size)).toList x
    rw [hsz, Array.toList_extract]
    simpa [List.extract_eq_take_drop] using hr
  | false =>
    simp only [Bool.false_eq_true, if_false]
    obtain ⟨v, h1, h2⟩ := RepC.one hga hr
    have h3 : cs[o]? = some v := by
      have := congrArg (fun l => l[0]?) h1
      simp only [size_noagg hga] at this
      simpa using this
    rw [h3]
    exact ⟨v, rfl, h2⟩
theorem fields_eq {E : Ty → TypeId → Bool} {n : Nat} {cs ds : Array Value} (hE : ∀ τ T, E τ T = true → ValT P T τ ∧ ∀ (u v : Value) (x y : τ.den) (inst : Decidable (x = y)), RepV h S τ u x → RepV h S τ v y → runPure P (Op.equalIn n T u v) = some (@decide (x = y) inst)) :
    ∀ (l : List Field) (o : Nat) (τ : Ty) (x y : τ.den) (inst : Decidable (x = y)), eqF E l o τ = true → RepC h S τ (cs.toList.drop o) x → RepC h S τ (ds.toList.drop o) y →
    runPure P (forIn l (none, ()) fun f __s =>
            if f.name ≠ "_" then do
              let __do_lift ← part f.type cs f.offset
              let __do_lift_1 ← part f.type ds f.offset
              let __do_lift ← Op.equalIn n f.type __do_lift __do_lift_1
              if (!__do_lift) = true then pure (ForInStep.done (some false, ())) else pure (ForInStep.yield (none, ()))
            else pure (ForInStep.yield (none, ()))) = some (if x = y then ((none : Option Bool), ()) else (some false, ())) := by
  intro l
  have key : ∀ (f : Field) (r : List Field) (o : Nat) (τ : Ty) (x y : τ.den) (inst : Decidable (x = y)) (R : Option (Option Bool × Unit)), (!(f.name == "_")) = true → Nat.beq f.offset o = true → E τ f.type = true → RepC h S τ ((cs.toList.drop o).take τ.size) x → RepC h S τ ((ds.toList.drop o).take τ.size) y →
      runPure P (forIn (f :: r) (none, ()) fun f __s =>
            if f.name ≠ "_" then do
              let __do_lift ← part f.type cs f.offset
              let __do_lift_1 ← part f.type ds f.offset
              let __do_lift ← Op.equalIn n f.type __do_lift __do_lift_1
              if (!__do_lift) = true then pure (ForInStep.done (some false, ())) else pure (ForInStep.yield (none, ()))
            else pure (ForInStep.yield (none, ()))) = if x = y then runPure P (forIn r (none, ()) fun f __s =>
            if f.name ≠ "_" then do
              let __do_lift ← part f.type cs f.offset
              let __do_lift_1 ← part f.type ds f.offset
              let __do_lift ← Op.equalIn n f.type __do_lift __do_lift_1
              if (!__do_lift) = true then pure (ForInStep.done (some false, ())) else pure (ForInStep.yield (none, ()))
            else pure (ForInStep.yield (none, ()))) else some (some false, ()) := by
    intro f r o τ x y inst R n1 n2 n3 r1 r2
    obtain ⟨hT, hq⟩ := hE _ _ n3
    obtain ⟨u, u1, u2⟩ := part_rep hT r1
    obtain ⟨v, v1, v2⟩ := part_rep hT r2
    have hn : f.name ≠ "_" := by simpa using n1
    have ho := nbeq n2
    rw [List.forIn_cons]
    simp only [hn, ne_eq, not_false_eq_true, if_true, runPure_bind, ho, u1, v1, Option.bind_some, hq u v x y inst u2 v2]
    by_cases he : x = y <;> simp [he, runPure_pure, runPure_bind]
  induction l with
  | nil =>
    intro o τ x y inst hb hx hy
    cases τ <;> first | (cases hb; done) | skip
    simp [runPure_pure]
  | cons f r ih =>
    intro o τ x y inst hb hx hy
    by_cases hp : (∀ a b, τ ≠ .pair a b) ∨ (r = [] ∧ (!(f.name == "_")) = true ∧ Nat.beq f.offset o = true ∧ E τ f.type = true)
    · have hs : r = [] ∧ (!(f.name == "_")) = true ∧ Nat.beq f.offset o = true ∧ E τ f.type = true := by
        rcases hp with hp | hp
        · cases τ with
          | pair a b => exact absurd rfl (hp a b)
          | _ =>
            cases r with
            | cons f' r => cases hb
            | nil =>
              obtain ⟨n1, n3⟩ := band (show (!(f.name == "_") && Nat.beq f.offset o && E _ f.type) = true from hb)
              obtain ⟨n1, n2⟩ := band n1
              exact ⟨rfl, n1, n2, n3⟩
        exact hp
      obtain ⟨rfl, n1, n2, n3⟩ := hs
      rw [key f [] o τ x y inst none n1 n2 n3 (by rw [List.take_of_length_le (Nat.le_of_eq hx.len)]; exact hx) (by rw [List.take_of_length_le (Nat.le_of_eq hy.len)]; exact hy)]
      by_cases he : x = y <;> simp [he, runPure_pure]
    cases τ with
    | pair a b =>
      have hb2 : ((!(f.name == "_") && Nat.beq f.offset o && E a f.type && eqF E r (o + a.size) b) || (r.isEmpty && !(f.name == "_") && Nat.beq f.offset o && E (.pair a b) f.type)) = true := hb
      rcases Bool.or_eq_true_iff.1 hb2 with h1 | h1
      · obtain ⟨h1, n4⟩ := band h1
        obtain ⟨h1, n3⟩ := band h1
        obtain ⟨n1, n2⟩ := band h1
        have hd := Classical.propDecidable (x.1 = y.1)
        have hd2 := Classical.propDecidable (x.2 = y.2)
        rw [key f r o a x.1 y.1 hd none n1 n2 n3 hx.1 hy.1]
        have h2 := ih (o + a.size) b x.2 y.2 hd2 n4 (by rw [← List.drop_drop]; exact hx.2) (by rw [← List.drop_drop]; exact hy.2)
        rw [h2]
        by_cases e1 : x.1 = y.1
        · by_cases e2 : x.2 = y.2
          · rw [if_pos e1, if_pos e2, if_pos (Prod.ext e1 e2)]
          rw [if_pos e1, if_neg e2, if_neg (fun e => e2 (by rw [e]))]
        rw [if_neg e1, if_neg (fun e => e1 (by rw [e]))]
      obtain ⟨h1, n3⟩ := band h1
      obtain ⟨h1, n2⟩ := band h1
      obtain ⟨h1, n1⟩ := band h1
      exact absurd (.inr ⟨by simpa using h1, n1, n2, n3⟩) hp
    | _ => exact absurd (.inl fun _ _ h => by cases h) hp
theorem eqV_ok : ∀ (d : Nat) (τ : Ty) (T : TypeId), eqV P d τ T = true → ∀ (D : Nat) (u v : Value) (x y : τ.den) (inst : Decidable (x = y)), RepV h S τ u x → RepV h S τ v y → runPure P (Op.equalIn (D + d) T u v) = some (@decide (x = y) inst) := by
  intro d
  induction d with
  | zero => intro τ T hb; cases hb
  | succ d ih =>
    intro τ T hb D u v x y inst hu hv
    unfold eqV at hb
    obtain ⟨hvt, hb⟩ := band hb
    cases hU : P.underlying T with
    | none => simp only [hU] at hb; cases hb
    | some dsc =>
      simp only [hU] at hb
      cases τ <;> cases dsc <;> try (cases hb; done)
      · rename_i k _ k'
        obtain rfl : k = k' := by
          have : (k' == k) = true := hb
          exact (by simpa using this : k' = k).symm
        obtain rfl := RepV.int hu
        obtain rfl := RepV.int hv
        rw [show D + (d + 1) = (D + d) + 1 from rfl, Op.equalIn, runPure_bind, runPure_underlying hU]
        simp only [Option.bind_some, if_true]
        show some (_ == _) = _
        by_cases he : x = y <;> simp [he]
      · obtain rfl := RepV.bool hu
        obtain rfl := RepV.bool hv
        rw [show D + (d + 1) = (D + d) + 1 from rfl, Op.equalIn, runPure_bind, runPure_underlying hU]
        simp only [Option.bind_some]
        show some (_ == _) = _
        by_cases he : x = y <;> simp [he]
      · obtain rfl := RepV.str hu
        obtain rfl := RepV.str hv
        rw [show D + (d + 1) = (D + d) + 1 from rfl, Op.equalIn, runPure_bind, runPure_underlying hU]
        simp only [Option.bind_some]
        show some (_ == _) = _
        by_cases he : x = y
        · rw [decide_eq_true he]; exact congrArg some (bytes_beq_t he)
        rw [decide_eq_false he]; exact congrArg some (bytes_beq_f he)
      rename_i a b fs
      obtain ⟨h1, h2⟩ := band hb
      have hs : P.stoodInHeld T = false := by simpa using h1
      obtain ⟨cs, rfl⟩ : ∃ cs, u = .agg cs := by
        have := hu.1
        cases u <;> first | exact ⟨_, rfl⟩ | cases this
      obtain ⟨ds, rfl⟩ : ∃ cs, v = .agg cs := by
        have := hv.1
        cases v <;> first | exact ⟨_, rfl⟩ | cases this
      rw [show D + (d + 1) = (D + d) + 1 from rfl, Op.equalIn]
      rw [runPure_bind, runPure_underlying hU]
      simp only [Option.bind_some, runPure_bind, runPure_program, hs, Bool.false_eq_true, if_false]
      simp only [← Array.forIn_toList]
      have hF := fields_eq (h := h) (S := S) (cs := cs) (ds := ds) (n := D + d) (fun τ T hb => ⟨valT_of ?_, fun u v x y inst => ih τ T hb D u v x y inst⟩) fs.toList 0 _ x y inst h2 hu.2 hv.2
      · rw [hF]
        by_cases he : x = y <;> simp [he, runPure_pure]
      cases d with
      | zero => cases hb
      | succ d => unfold eqV at hb; exact (band hb).1
structure EqT (P : Program) (T : TypeId) (τ : Ty) : Prop where
  eq : eqV P 40 τ T = true
  guard : P.eqGuardType P.depth T = false
  agg : τ.agg = true
  flat : τ.isFlat = true
theorem eqT_of {T : TypeId} {τ : Ty} (hb : (eqV P 40 τ T && !P.eqGuardType P.depth T && τ.agg && τ.isFlat) = true) : EqT P T τ := by
  obtain ⟨h1, h4⟩ := band hb
  obtain ⟨h1, h3⟩ := band h1
  obtain ⟨h1, h2⟩ := band h1
  exact ⟨h1, by simpa using h2, h3, h4⟩
theorem EqT.run {T : TypeId} {τ : Ty} (hT : EqT P T τ) {u v : Value} {x y : τ.den} {inst : Decidable (x = y)} (hu : RepV h S τ u x) (hv : RepV h S τ v y) : runPure P (Op.equal T u v) = some (@decide (x = y) inst) :=
  eqV_ok 40 τ T hT.eq 9960 u v x y inst hu hv
theorem aggOf {τ : Ty} {u : Value} {x : τ.den} (ha : τ.agg = true) (hu : RepV h S τ u x) : ∃ cs, u = .agg cs := by
  have h1 := hu.1.trans ha
  cases u <;> first | exact ⟨_, rfl⟩ | cases h1
variable {fl : VL} {σ : Sto} {x y : Operand} {T T' : TypeId} {τ : Ty}
theorem CalmV.eneq {p q : τ.den} [inst : Decidable (p = q)] (hT : EqT P T τ) (hx : evV fl x = some (.v τ p) := by rfl) (hy : evV fl y = some (.v τ q) := by rfl) : CalmV P fl σ (.binOp .neq T x y T') (.v .bool (decide (p ≠ q))) :=
  .bin hx hy fun h S a c ha hc => by
    have h1 := hT.run (inst := inst) ha hc
    obtain ⟨cs, rfl⟩ := aggOf hT.agg ha
    obtain ⟨ds, rfl⟩ := aggOf hT.agg hc
    refine ⟨.bool (decide (p ≠ q)), RepV.ofBool _, ?_, ?_⟩
    · rw [(RepPV.flat (pv := .v τ p) hT.flat ha).1, (RepPV.flat (pv := .v τ q) hT.flat hc).1]; rfl
    have he : runPure P (eqGuard .neq T x y (.agg cs) (.agg ds)) = some () := by
      unfold eqGuard
      simp [runPure_bind, runPure_program, hT.guard, runPure_pure]
    have hb : runPure P (binOp .neq T (.agg cs) (.agg ds)) = some (.bool (decide (p ≠ q))) := by
      unfold binOp
      simp only [runPure_bind, h1, Option.bind_some, runPure_pure]
      by_cases hpq : p = q <;> simp [hpq]
    unfold purely
    rw [runPure_bind, he]
    simp only [Option.bind_some, hb]; rfl
variable {p q : ByteArray}
end Go.Fs
namespace Go.Fs
variable {P : Program} {fl : VL} {σ γ : Sto} {Q : PV → Sto → Prop} {fn : Func}
theorem VEndG.cap {r : ResultVar} {w : Value} {e : TypeId} {k : Nat} {τ : Ty} {xs : List τ.den} (hr : fn.results = #[r]) (h1 : EndV P fl [] r (.raw w)) (hc : (w, Cell.cap e k τ xs) ∈ σ) (hQ : Q (.raw w) σ) : VEndG P fn γ Q .ret fl σ :=
  ⟨rfl, [.raw w], by rw [hr]; exact .cons h1 .nil, hQ, .inl ⟨w, e, k, τ, xs, rfl, hc⟩⟩
theorem VEndG.row {r : ResultVar} {w : Value} {e : TypeId} {τ : Ty} {xs : List τ.den} (hr : fn.results = #[r]) (h1 : EndV P fl [] r (.raw w)) (hQ : Q (.raw w) [(w, Cell.row e τ xs)]) : VEndG P fn [] Q .ret fl [(w, Cell.row e τ xs)] :=
  ⟨rfl, [.raw w], by rw [hr]; exact .cons h1 .nil, hQ, .inr (.inr (.inl ⟨w, e, τ, xs, rfl, rfl, rfl⟩))⟩
end Go.Fs
namespace Go.Fs
variable {P : Program} {orc : FuncId → List Value → Heap → Option (Value × Heap)}
theorem slI {fl : VL} {k : Nat} {κ : IntKind} {a b : Int} (hk : lkV fl k = some (.v (.int κ) a)) (h : a = b) : lkV fl k = some (.v (.int κ) b) := by rw [hk, h]
theorem pvI {κ : IntKind} {a b : Int} (h : a = b) : PV.v (.int κ) a = PV.v (.int κ) b := by rw [h]
section
variable {h0 : Heap} {S0 : List Nat} {σ : Sto} {ms : List Nat} {fl : VL} {ops : Array Oper} {n i mem : Nat} {l : List Oper} {K : VL → Sto → Prop}
  {d : Tmp} {ty : TypeId} {pos : String} {after : Array Edge} {op : Op} {v : PV} {g : Option (Nat × Bool)} {bs nw : List Nat} {tail so : Bool}
end
end Go.Fs
namespace Go.Fs
variable {P : Program} {orc : FuncId → List Value → Heap → Option (Value × Heap)} {rnd : Option Nat} {h h' h0 h1 h2 : Heap} {S S' S0 G : List Nat} {σ σ' σr γ γ' : Sto} {t t' : Tr} {ms : List Nat} {fl nw : VL} {ops : Array Oper} {n i mem : Nat} {l : List Oper} {K : VL → Sto → Prop} {Q : Ex → VL → Sto → Prop}
  {d : Tmp} {ty : TypeId} {pos : String} {after : Array Edge} {op : Op} {v pv : PV} {g : Option (Nat × Bool)} {bs nw0 : List Nat} {tail so : Bool}
inductive ShutL (fl : VL) (γ : Sto) : VL → Prop where
  | nil : ShutL fl γ []
  | cons {k : Nat} {p p' : PV} {r : VL} (hk : lkV fl k = some p) (hc : Co γ p p') (hr : ShutL fl γ r) : ShutL fl γ ((k, p') :: r)
theorem Iv.forgetL : ∀ {γ : Sto}, Iv h0 G S0 h (γ ++ σ) t ms fl → Iv h0 G S0 h σ t ms (fl)
  | [], I => I
  | _ :: γ, I => Iv.forgetL (γ := γ) I.forget
theorem Iv.shutL (I : Iv h0 G S0 h (γ ++ σ) t ms fl) (hs : ShutL fl γ nw) : Iv h0 G S0 h σ t ms (nw ++ fl) := by
  have I' := I.forgetL
  have hsl : Slots h (own σ ++ S0) t (nw ++ fl) := by
    induction hs with
    | nil => exact I'.slots
    | cons hk hc hr ih =>
      refine ih.cons (Co.ok (σ := γ) (S0 := own σ ++ S0) (fun c hd => ?_) (fun b hb => ?_) hc ?_)
      · have := I.cells c (List.mem_append_left _ hd)
        rw [own_app, List.append_assoc] at this; exact this
      · have h1 := I.apart
        rw [own_app] at h1
        intro hm
        rcases List.mem_append.1 hm with hm | hm
        · exact (List.nodup_append.1 h1).2.2 b hb b hm rfl
        exact (I.new b (by rw [own_app]; exact List.mem_append_left _ hb)).2 hm
      have := I.slots _ _ hk
      rw [own_app, List.append_assoc] at this; exact this
  exact { I' with slots := hsl }
theorem VC.shutL {a : Code} (γ : Sto) (nw : VL) (hσ : γ ++ σ = σr) (hs : ShutL fl γ nw) (hx : VC P orc rnd a n (nw ++ fl) σ Q) : VC P orc rnd a n fl σr Q := fun h0 G S0 t h ms I => by
  subst hσ
  exact hx h0 G S0 t h ms (I.shutL hs)
end Go.Fs
namespace Go.Fs
variable {P : Program} {orc : FuncId → List Value → Heap → Option (Value × Heap)} {fl : VL} {σ γ : Sto} {T : TypeId} {τ : Ty}
end Go.Fs
namespace Go.Fs
variable {P : Program} {fl : VL} {σ γ : Sto} {Q : PV → Sto → Prop} {fn : Func}
variable {p q r : ByteArray}
variable {x y : Operand} {T T' : TypeId}
end Go.Fs
namespace Go.Fs
variable {P : Program} {orc : FuncId → List Value → Heap → Option (Value × Heap)} {rnd : Option Nat} {h h' h0 h1 h2 : Heap} {S S' S0 : List Nat} {σ σ' : Sto} {t t' : Tr} {ms : List Nat} {fl : VL} {ops : Array Oper} {n i mem : Nat} {l : List Oper} {K : VL → Sto → Prop}
  {d : Tmp} {ty : TypeId} {pos : String} {after : Array Edge} {op : Op} {v pv : PV} {g : Option (Nat × Bool)} {x y z : Operand} {T T' e : TypeId} {τ τ' : Ty}
inductive FnL : List PV → List PV → Prop where
  | nil : FnL [] []
  | same {p : PV} {l l' : List PV} (hl : FnL l l') : FnL (p :: l) (p :: l')
  | fn {f : FuncId} {l l' : List PV} (hl : FnL l l') : FnL (.clo f [] [] :: l) (.v .fn (some f) :: l')
end Go.Fs
namespace Go.Fs
variable {P : Program} {orc : FuncId → List Value → Heap → Option (Value × Heap)} {rnd : Option Nat} {h h' h0 h1 h2 hr : Heap} {S S' S0 B G A : List Nat} {σ σ' σr ρ : Sto} {t t' : Tr} {ms : List Nat} {fl : VL} {ops : Array Oper} {n i mem : Nat} {l : List Oper} {K : VL → Sto → Prop} {Q : Ex → VL → Sto → Prop}
  {d : Tmp} {ty : TypeId} {pos : String} {after : Array Edge} {op : Op} {v pv : PV} {g : Option (Nat × Bool)} {x y z : Operand} {T T' e : TypeId} {τ τ' : Ty} {bs nw rd chg : List Nat} {segs : List (Nat × Nat × Nat)} {tail tl : Bool} {w w' : Value}

section
variable (P orc)
end
structure Late (hr h : Heap) (S0 A : List Nat) (σ ρ : Sto) (t : Tr) (fl : VL) (nw rd chg : List Nat) : Prop where
  ok : HOk hr
  lt : ∀ b ∈ A ++ S0, b < hr.next
  next : hr.next ≤ h.next
  goes : Goes hr (A ++ S0) h (own σ ++ S0)
  slots : ∀ k pv, lkV fl k = some pv → nwHas nw k = false → RepPV hr (A ++ S0) pv (t.get k)
  suf : ∃ σ1, σ = σ1 ++ ρ
  cells : ∀ c ∈ ρ, CellR hr (A ++ S0) c.1 c.2
  fix : ∀ b ∈ own ρ, b ∈ A
  new : ∀ b ∈ own σ, b ∈ A ∨ hr.next ≤ b
  rd : ∀ b ∈ rd, b < hr.next ∧ (b ∈ own ρ ∨ b ∉ A)
  chg : ∀ k ∈ chg, k ∉ own ρ ∧ (k ∈ A ∨ hr.next ≤ k)
section
variable (P orc)
end
end Go.Fs
namespace Ieee

namespace Format
variable (f : Format)
end Format
end Ieee
namespace Ieee
def sg (s : Bool) (r : Nat) : Int := if s then -(r : Int) else r
namespace Format
variable (f : Format)
def units (x : Nat) : Option Int := match f.read x with
  | .number s m p => some (sg s (m * 2 ^ (p - f.leastPlace).toNat))
  | _ => none
variable {f}
end Format
end Ieee
namespace Ieee
namespace Format
variable {f g : Format}
end Format
end Ieee
namespace Ieee
open Format
end Ieee
namespace Ieee
open Format
end Ieee
namespace Go.Fs
variable {P : Program} {h : Heap} {S : List Nat} {σ : Sto} {t : Tr} {fl : VL} {x y : Operand} {T T' : TypeId} {v pv : PV} {k k' : FloatKind} {p q : Nat}

end Go.Fs
namespace Go.Fs
variable {P : Program} {orc : FuncId → List Value → Heap → Option (Value × Heap)} {rnd : Option Nat} {h h' h0 h1 h2 : Heap} {S S' S0 B G : List Nat} {σ σ' : Sto} {t t' : Tr} {ms : List Nat} {fl : VL} {ops : Array Oper} {n : Nat} {l : List Oper} {K : VL → Sto → Prop} {Q : Ex → VL → Sto → Prop}
  {d : Tmp} {ty : TypeId} {pos : String} {after : Array Edge} {op : Op} {v pv : PV} {g : Option (Nat × Bool)} {x y z : Operand} {T T' e : TypeId} {κ ν : Ty} {w : Value}

section
variable {α β : Type} [DecidableEq α]
end

structure KeyT (P : Program) (K : TypeId) (κ : Ty) : Prop where
  flat : κ.isFlat = true
  und : ∃ td, P.underlying K = some td ∧ ((∀ {h : Heap} {S : List Nat} (u v : Value) (x y : κ.den) (inst : Decidable (x = y)), RepV h S κ u x → RepV h S κ v y → Instr.sameNow td u v = some (@decide (x = y) inst)) ∨
    ((∀ u v, Instr.sameNow td u v = none) ∧ ∀ {h : Heap} {S : List Nat} (u v : Value) (x y : κ.den) (inst : Decidable (x = y)), RepV h S κ u x → RepV h S κ v y → runPure P (Op.equal K u v) = some (@decide (x = y) inst)))
  chk : ∀ {h : Heap} {S : List Nat} (em : Bool) (u : Value) (x : κ.den), RepV h S κ u x → (runPure P (Instr.checkKey em 10000 K u)).isSome = true
  bits : ∀ {h : Heap} {S : List Nat} (u : Value) (x : κ.den), RepV h S κ u x → Instr.sameBits 10000 u u = true
structure MapT (P : Program) (T : TypeId) (κ ν : Ty) : Prop where
  key : ∃ K E, P.underlying T = some (.map K E) ∧ KeyT P K κ ∧ ZerT P E ν

section
variable [DecidableEq κ.den] {k : κ.den} {kvs : List (κ.den × ν.den)}
end
end Go.Fs
namespace Go.Fs
variable {P : Program} {orc : FuncId → List Value → Heap → Option (Value × Heap)} {h : Heap} {S : List Nat} {σ : Sto} {t : Tr} {fl : VL} {x y : Operand} {T T' : TypeId} {v pv : PV} {k k' : FloatKind} {p q : Nat}
end Go.Fs
namespace Ieee
open Format
end Ieee
namespace Go.Fs
variable {P : Program} {orc : FuncId → List Value → Heap → Option (Value × Heap)} {rnd : Option Nat} {h : Heap} {S : List Nat} {σ : Sto} {t : Tr} {fl : VL} {x y : Operand} {T : TypeId} {n : Nat} {τ τ' : Ty} {Q : Ex → VL → Sto → Prop}
def aofB (P : Program) (T : TypeId) (j k : Nat) (τ' : Ty) : Bool :=
  match P.underlying T with
  | some (.array n e) => match P.info? e with
    | some i => Nat.blt j n && Nat.beq k (j * i.size) && valB P e τ'
    | none => false
  | _ => false
theorem aofB_inv {j k : Nat} (hb : aofB P T j k τ' = true) : ∃ m e i, P.underlying T = some (.array m e) ∧ P.info? e = some i ∧ j < m ∧ k = j * i.size ∧ ValT P e τ' := by
  unfold aofB at hb
  split at hb
  · rename_i m e hu
    split at hb
    · rename_i i hi
      obtain ⟨h1, h2⟩ := band hb
      obtain ⟨h3, h4⟩ := band h1
      exact ⟨m, e, i, hu, hi, nblt h3, nbeq h4, valT_of h2⟩
    cases hb
  cases hb
theorem CalmV.ixP (j : Nat) {k : Nat} {dx : τ.den} {dy : τ'.den} (hs : Sub τ dx k τ' dy) (hb : aofB P T j k τ' = true := by kernel_rfl) (hx : evV fl x = some (.p τ dx) := by rfl) (hy : evV fl y = some (.v (.int .i64) ((j : Nat) : Int)) := by rfl) : CalmV P fl σ (.indexAddr T x y) (.p τ' dy) :=
  ⟨rfl, fun h S t hq _ => by
    have hp : RepP h S τ (evalO t x) dx := hq x (by simp [Op.operands]) _ hx
    have hi : evalO t y = .int .i64 ((j : Nat) : Int) := RepV.int (hq y (by simp [Op.operands]) _ hy : RepV h S (.int .i64) _ ((j : Nat) : Int))
    obtain ⟨m, e, i, u1, u2, u3, u4, u5⟩ := aofB_inv hb
    obtain ⟨b', o, e', rs, own, more, h1, h2, h3, h4, h5⟩ := hp
    refine ⟨.pointer (some ⟨b', o + k, none⟩), ?_, fun _ _ _ _ _ H => ?_⟩
    · obtain ⟨h6, h7⟩ := hs.repC h5
      rw [List.length_take, List.length_drop] at h6
      refine ⟨b', o + k, e', rs, own, more, rfl, h2, h3, by omega, ?_⟩
      rw [List.drop_take, List.take_take, List.drop_drop, Nat.min_eq_left (by omega)] at h7
      exact h7
    show (if af (evalO t y) then (runPure P (Instr.indexAt T (evalO t x) (evalO t y))).map _ else none) = _
    rw [hi, h1, if_pos (show af (Value.int .i64 ((j : Nat) : Int)) = true from rfl)]
    have h6 : (0 : Int) ≤ ((j : Nat) : Int) ∧ ((j : Nat) : Int) < (m : Nat) := by omega
    have h7 : runPure P (Instr.indexAt T (.pointer (some ⟨b', o, none⟩)) (.int .i64 ((j : Nat) : Int))) = some (.pointer (some ⟨b', o + k, none⟩)) := by
      unfold Instr.indexAt
      simp only [runPure_bind, asIntOf, runPure_pure, Option.bind_some, runPure_underlying u1, Instr.sureAddr, if_pos h6, runPure_sizeOf u2, add_none, Int.toNat_natCast, u4]
    rw [h7]; rfl⟩
section
variable {T' : TypeId}
end
end Go.Fs
namespace Go.Fs
variable {P : Program} {orc : FuncId → List Value → Heap → Option (Value × Heap)} {rnd : Option Nat} {h h' h0 h1 h2 : Heap} {S S' S0 B G : List Nat} {σ σ' : Sto} {t t' : Tr} {ms : List Nat} {fl nw : VL} {ops : Array Oper} {n : Nat} {l : List Oper} {K : VL → Sto → Prop} {Q : Ex → VL → Sto → Prop}
  {d : Tmp} {ty : TypeId} {pos : String} {after : Array Edge} {op : Op} {v pv : PV} {g : Option (Nat × Bool)} {x y z : Operand} {T T' e : TypeId} {w : Value} {s : ByteArray} {p : Nat}

structure GdT (ops : Array Oper) (fl : VL) (g : Option (Nat × Bool)) (b : Bool) : Prop where
  want : ∀ {h : Heap} {S : List Nat} {t : Tr}, Slots h S t fl → ∀ o : Oper, o.guard = g → fsWanted ops t o = some b
end Go.Fs
namespace Go.Fs
instance : DecidableEq (Ty.den .str) := inferInstanceAs (DecidableEq ByteArray)
instance {k : IntKind} : DecidableEq (Ty.den (.int k)) := inferInstanceAs (DecidableEq Int)
instance : DecidableEq (Ty.den .bool) := inferInstanceAs (DecidableEq Bool)
instance {a b : Ty} [DecidableEq a.den] [DecidableEq b.den] : DecidableEq (Ty.den (.pair a b)) := inferInstanceAs (DecidableEq (a.den × b.den))
variable {P : Program} {orc : FuncId → List Value → Heap → Option (Value × Heap)} {fl : VL} {σ γ : Sto} {T : TypeId} {τ : Ty}
end Go.Fs
namespace Go.Fs
variable {P : Program} {orc : FuncId → List Value → Heap → Option (Value × Heap)} {fl : VL} {σ : Sto} {T T' e ty : TypeId} {τ : Ty} {ops : Array Oper} {n : Nat} {l : List Oper} {K : VL → Sto → Prop} {d : Tmp} {pos : String} {after : Array Edge} {g : Option (Nat × Bool)} {x y : Operand} {xs : List τ.den}
end Go.Fs
namespace Go.Fs
variable {P : Program} {orc : FuncId → List Value → Heap → Option (Value × Heap)} {h h1 h2 h' : Heap} {S S0 : List Nat} {σ γ σr : Sto} {fl : VL} {ops : Array Oper} {n : Nat} {l : List Oper} {K : VL → Sto → Prop} {d : Tmp} {ty : TypeId} {pos : String} {after : Array Edge} {g : Option (Nat × Bool)}

section
variable (P orc)
end
section
variable (P orc)
end
end Go.Fs
namespace Go.Fs
variable {P : Program} {orc : FuncId → List Value → Heap → Option (Value × Heap)} {h h' h0 h1 h2 : Heap} {S S' S0 B G : List Nat} {σ σ' σr : Sto} {t t' : Tr} {ms : List Nat} {fl : VL} {ops : Array Oper} {n i mem : Nat} {l : List Oper} {K : VL → Sto → Prop} {Q : Ex → VL → Sto → Prop}
  {d : Tmp} {ty : TypeId} {pos : String} {after : Array Edge} {op : Op} {v pv : PV} {g : Option (Nat × Bool)} {x y z : Operand} {T T' e : TypeId} {τ τ' : Ty} {w : Value}

section
variable {α : Type} [DecidableEq α] {dd : α} {xs : List α}
end
end Go.Fs
namespace Go.Fs
variable {α : Type}

structure Weak (lt : α → α → Bool) : Prop where
  asym : ∀ a b, lt a b = true → lt b a = false
  neg : ∀ a b c, lt a b = false → lt b c = false → lt a c = false
variable {lt : α → α → Bool}
def eqv (lt : α → α → Bool) (a b : α) : Bool := !lt a b && !lt b a
def SameEq (lt : α → α → Bool) (xs ys : List α) : Prop := ∀ a, xs.filter (eqv lt a) = ys.filter (eqv lt a)
variable {d : α}
abbrev at_ (xs : List α) (i : Nat) (d : α) : α := xs.getD i d
structure Seg (lt : α → α → Bool) (xs ys : List α) (a b : Nat) : Prop where
  len : ys.length = xs.length
  lo : ys.take a = xs.take a
  hi : ys.drop b = xs.drop b
  same : SameEq lt xs ys
structure Insd (lt : α → α → Bool) (d : α) (ys : List α) (a j i : Nat) : Prop where
  srt : ∀ p q, a ≤ p → p < q → q ≤ i → q ≠ j → p ≠ j → lt (ys.getD q d) (ys.getD p d) = false
  less : ∀ q, j < q → q ≤ i → lt (ys.getD j d) (ys.getD q d) = true
end Go.Fs
namespace Go.Fs
variable {α : Type} {lt : α → α → Bool} {d : α} {ys : List α} {a b m n s e i j k : Nat}

theorem four (h1 : s ≤ m) (h2 : m ≤ e) : ys = ys.take s ++ ((ys.drop s).take (m - s) ++ ((ys.drop m).take (e - m) ++ ys.drop e)) := by
  conv => lhs; rw [← List.take_append_drop s ys, ← List.take_append_drop (m - s) (ys.drop s), List.drop_drop, show s + (m - s) = m by omega, ← List.take_append_drop (e - m) (ys.drop m), List.drop_drop, show m + (e - m) = e by omega]
structure Cut (lt : α → α → Bool) (d : α) (ys : List α) (a m b s e : Nat) : Prop where
  le : s ≤ m ∧ m ≤ e ∧ a ≤ s ∧ e ≤ b
  lo : a < s → e < b → lt (ys.getD e d) (ys.getD (s - 1) d) = false
  hi : s < m → m < e → lt (ys.getD (e - 1) d) (ys.getD s d) = true
end Go.Fs
namespace Go.Fs
variable {P : Program} {orc : FuncId → List Value → Heap → Option (Value × Heap)} {h h' h0 h1 h2 : Heap} {S S' S0 B G : List Nat} {σ σ' σr : Sto} {t t' : Tr} {ms : List Nat} {fl : VL} {ops : Array Oper} {n i mem : Nat} {l : List Oper} {K : VL → Sto → Prop} {Q : Ex → VL → Sto → Prop}
  {d : Tmp} {ty : TypeId} {pos : String} {after : Array Edge} {op : Op} {v pv : PV} {g : Option (Nat × Bool)} {x y z : Operand} {T T' e : TypeId} {τ τ' : Ty} {w : Value}
end Go.Fs
namespace Go.Fs
variable {P : Program} {orc : FuncId → List Value → Heap → Option (Value × Heap)} {rnd : Option Nat} {h h' h0 h1 h2 : Heap} {S S' S0 B G : List Nat} {σ σ' σr : Sto} {t t' : Tr} {ms : List Nat} {fl : VL} {ops : Array Oper} {n i mem : Nat} {l : List Oper} {K : VL → Sto → Prop} {Q : Ex → VL → Sto → Prop}
  {d : Tmp} {ty : TypeId} {pos : String} {after : Array Edge} {op : Op} {v pv : PV} {g : Option (Nat × Bool)} {x y z : Operand} {T T' e : TypeId} {τ τ' : Ty} {w : Value}
theorem VC.capRow {c : Code} {xs : List τ.den} {k : Nat} (hk : xs.length = k) (hx : VC P orc rnd c n fl ((w, .row e τ xs) :: σ) Q) : VC P orc rnd c n fl ((w, .cap e k τ xs) :: σ) Q := fun h0 G S0 t h ms I => by
  refine hx h0 G S0 t h ms { I with cells := fun c hc => ?_, new := I.new, apart := I.apart, slots := I.slots }
  rcases List.mem_cons.1 hc with rfl | hc
  · obtain ⟨b, rs, m, h1, h2, h3, h4, h5, h6⟩ := I.cells _ List.mem_cons_self
    subst hk
    exact .inr ⟨b, rs, m, h1, h2, h3, by rwa [List.take_of_length_le (Nat.le_of_eq h4)] at h6⟩
  exact I.cells c (List.mem_cons_of_mem _ hc)
end Go.Fs
namespace Go.Fs
variable {P : Program} {orc : FuncId → List Value → Heap → Option (Value × Heap)} {rnd : Option Nat} {h h' h0 h1 h2 : Heap} {S S' S0 B G : List Nat} {σ σ' σr : Sto} {t t' : Tr} {ms : List Nat} {fl : VL} {ops : Array Oper} {n i mem : Nat} {l : List Oper} {K : VL → Sto → Prop} {Q : Ex → VL → Sto → Prop}
  {d : Tmp} {ty : TypeId} {pos : String} {after : Array Edge} {op : Op} {v pv : PV} {g : Option (Nat × Bool)} {x y z : Operand} {T T' e : TypeId} {τ τ' : Ty} {w : Value}
inductive SetP : (τ : Ty) → τ.den → Nat → (τ' : Ty) → τ'.den → τ.den → Prop where
  | o {τ : Ty} {x y : τ.den} : SetP τ x 0 τ y y
  | l {a b : Ty} {x : (Ty.pair a b).den} {k : Nat} {τ' : Ty} {y : τ'.den} {z : a.den} (hs : SetP a x.1 k τ' y z) : SetP (.pair a b) x k τ' y (z, x.2)
  | r {a b : Ty} {x : (Ty.pair a b).den} {k k' : Nat} {τ' : Ty} {y : τ'.den} {z : b.den} (hs : SetP b x.2 k τ' y z) (hk : k' = a.size + k := by rfl) : SetP (.pair a b) x k' τ' y (x.1, z)
end Go.Fs
namespace Go.Fs
variable {P : Program} {orc : FuncId → List Value → Heap → Option (Value × Heap)} {rnd : Option Nat} {h h' h0 h1 h2 : Heap} {S S' S0 B G : List Nat} {σ σ' σr : Sto} {t t' : Tr} {ms : List Nat} {fl : VL} {ops : Array Oper} {n i mem : Nat} {l : List Oper} {K : VL → Sto → Prop} {Q : Ex → VL → Sto → Prop}
  {d : Tmp} {ty : TypeId} {pos : String} {after : Array Edge} {op : Op} {v pv : PV} {g : Option (Nat × Bool)} {x y z : Operand} {T T' e : TypeId} {τ τ' : Ty} {w : Value}
end Go.Fs
namespace Go.Fs
variable {P : Program} {orc : FuncId → List Value → Heap → Option (Value × Heap)} {rnd : Option Nat} {h h' h0 h1 h2 : Heap} {S S' S0 B G : List Nat} {σ σ' σr : Sto} {t t' : Tr} {ms : List Nat} {fl : VL} {ops : Array Oper} {n i mem : Nat} {l : List Oper} {K : VL → Sto → Prop} {Q : Ex → VL → Sto → Prop}
  {d : Tmp} {ty : TypeId} {pos : String} {after : Array Edge} {op : Op} {v pv : PV} {g : Option (Nat × Bool)} {x y z : Operand} {T T' e : TypeId} {τ τ' : Ty} {w : Value} {ρ : Sto} {bs nw : List Nat} {tl : Bool}
end Go.Fs
namespace Go.Fs
variable {P : Program} {O : FuncId → List Value → Heap → Option (Value × Heap)} {h h' : Heap} {S : List Nat}
end Go.Fs
namespace Go.Fs
open Go.RowKit (Below)
open Go.Sort Go.Proofs
def Ty.isPlain : Ty → Bool
  | .int _ => true
  | .bool => true
  | .str => true
  | .unit => true
  | .pair a b => a.isPlain && b.isPlain
  | _ => false
def decT : (τ : Ty) → List Value → Option (τ.den × List Value)
  | .int k, vs => match vs with
    | .int k' n :: r => if k' = k then some (n, r) else none
    | _ => none
  | .bool, vs => match vs with
    | .bool b :: r => some (b, r)
    | _ => none
  | .str, vs => match vs with
    | .string s :: r => some (s, r)
    | _ => none
  | .unit, vs => some ((), vs)
  | .pair a b, vs => match decT a vs with
    | some (x, r) => match decT b r with
      | some (y, r') => some ((x, y), r')
      | none => none
    | none => none
  | .flt _, _ => none
  | .sl _, _ => none
  | .mp _ _, _ => none
  | .fn, _ => none
  | .hnd, _ => none
theorem decT_enc : ∀ {τ : Ty} {vs r : List Value} {x : τ.den}, decT τ vs = some (x, r) → vs = τ.flatC x ++ r := by
  intro τ
  induction τ with
  | int k =>
    intro vs r x h
    unfold decT at h
    split at h
    · rename_i k' n r'
      split at h
      · rename_i hk; subst hk; cases h; rfl
      cases h
    cases h
  | bool =>
    intro vs r x h
    unfold decT at h
    split at h
    · cases h; rfl
    cases h
  | str =>
    intro vs r x h
    unfold decT at h
    split at h
    · cases h; rfl
    cases h
  | unit => intro vs r x h; cases h; rfl
  | pair a b iha ihb =>
    intro vs r x h
    unfold decT at h
    split at h
    · rename_i x1 r1 h1
      split at h
      · rename_i y1 r2 h2
        cases h
        rw [iha h1, ihb h2]
        show _ = (a.flatC x1 ++ b.flatC y1) ++ r
        rw [List.append_assoc]
      cases h
    cases h
  | flt k => intro vs r x h; cases h
  | sl e _ => intro vs r x h; cases h
  | mp a b _ _ => intro vs r x h; cases h
  | fn => intro vs r x h; cases h
  | hnd => intro vs r x h; cases h
theorem decT_of : ∀ {τ : Ty} {r : List Value} {x : τ.den}, τ.isPlain = true → decT τ (τ.flatC x ++ r) = some (x, r) := by
  intro τ
  induction τ with
  | int k => intro r x _; show (if k = k then some (x, r) else none) = _; rw [if_pos rfl]
  | bool => intro r x _; rfl
  | str => intro r x _; rfl
  | unit => intro r x _; rfl
  | pair a b iha ihb =>
    intro r x h
    obtain ⟨h1, h2⟩ := band h
    show decT (.pair a b) ((a.flatC x.1 ++ b.flatC x.2) ++ r) = _
    rw [List.append_assoc]
    unfold decT
    rw [iha h1]
    simp only
    rw [ihb h2]
  | flt k => intro r x h; cases h
  | sl e _ => intro r x h; cases h
  | mp a b _ _ => intro r x h; cases h
  | fn => intro r x h; cases h
  | hnd => intro r x h; cases h
theorem flatC_len : ∀ {τ : Ty} (x : τ.den), τ.isPlain = true → (τ.flatC x).length = τ.size := by
  intro τ
  induction τ with
  | int k => intro x _; rfl
  | bool => intro x _; rfl
  | str => intro x _; rfl
  | unit => intro x _; rfl
  | pair a b iha ihb =>
    intro x h
    obtain ⟨h1, h2⟩ := band h
    show (a.flatC x.1 ++ b.flatC x.2).length = a.size + b.size
    rw [List.length_append, iha _ h1, ihb _ h2]
  | flt k => intro x h; cases h
  | sl e _ => intro x h; cases h
  | mp a b _ _ => intro x h; cases h
  | fn => intro x h; cases h
  | hnd => intro x h; cases h
theorem plain_flat : ∀ {τ : Ty}, τ.isPlain = true → τ.isFlat = true := by
  intro τ
  induction τ with
  | pair a b iha ihb =>
    intro h
    obtain ⟨h1, h2⟩ := band h
    show (a.isFlat && b.isFlat) = true
    rw [iha h1, ihb h2]; rfl
  | int k => intro _; rfl
  | bool => intro _; rfl
  | str => intro _; rfl
  | unit => intro _; rfl
  | flt k => intro h; cases h
  | sl e _ => intro h; cases h
  | mp a b _ _ => intro h; cases h
  | fn => intro h; cases h
  | hnd => intro h; cases h
section
variable {τ : Ty}
abbrev encL (τ : Ty) (xs : List τ.den) : List Value := xs.flatMap τ.flatC
def decL (τ : Ty) : Nat → List Value → Option (List τ.den)
  | _, [] => some []
  | 0, _ :: _ => none
  | m + 1, v :: vs => match decT τ (v :: vs) with
    | some (x, r) => match decL τ m r with
      | some xs => some (x :: xs)
      | none => none
    | none => none
theorem decL_enc : ∀ {m : Nat} {vs : List Value} {xs : List τ.den}, decL τ m vs = some xs → vs = encL τ xs
  | m, [], xs, h => by
    cases m <;> (unfold decL at h; cases h; rfl)
  | 0, v :: vs, xs, h => by unfold decL at h; cases h
  | m + 1, v :: vs, xs, h => by
    unfold decL at h
    split at h
    · rename_i x r h1
      split at h
      · rename_i ys h2
        cases h
        rw [decT_enc h1, decL_enc h2]; rfl
      cases h
    cases h
theorem decL_of (hp : τ.isPlain = true) (hs : 0 < τ.size) : ∀ {xs : List τ.den} {m : Nat}, xs.length ≤ m → decL τ m (encL τ xs) = some xs
  | [], m, _ => by cases m <;> rfl
  | x :: xs, 0, h => by simp at h
  | x :: xs, m + 1, h => by
    have ih := decL_of hp hs (xs := xs) (m := m) (by simpa using h)
    have hd : decT τ (τ.flatC x ++ encL τ xs) = some (x, encL τ xs) := decT_of hp
    have e : encL τ (x :: xs) = τ.flatC x ++ encL τ xs := rfl
    rw [e]
    cases hc : τ.flatC x ++ encL τ xs with
    | nil =>
      have := flatC_len x hp
      have h2 : (τ.flatC x).length = 0 := by
        have := congrArg List.length hc
        rw [List.length_append] at this
        simp at this
        exact by simp [this.1]
      omega
    | cons v vs =>
      rw [hc] at hd
      unfold decL
      rw [hd]
      simp only
      rw [ih]
theorem encL_len (hp : τ.isPlain = true) : ∀ (xs : List τ.den), (encL τ xs).length = xs.length * τ.size
  | [] => by simp
  | x :: r => by
    have e : encL τ (x :: r) = τ.flatC x ++ encL τ r := rfl
    rw [e, List.length_append, encL_len hp r, flatC_len x hp, List.length_cons, Nat.add_mul]; omega
theorem encL_af : ∀ (xs : List τ.den), (encL τ xs).all af0 = true
  | [] => rfl
  | x :: r => by
    have e : encL τ (x :: r) = τ.flatC x ++ encL τ r := rfl
    rw [e, List.all_append, encL_af r, flatC_af]; rfl
variable {cf : τ.den → τ.den → Int}
local instance denInh : Inhabited τ.den := ⟨zeroD τ⟩
def sortG (cf : τ.den → τ.den → Int) (xs : List τ.den) : List τ.den := (pdq (ltOf cf) xs.toArray 0 xs.toArray.size (Lib.bitLen xs.toArray.size) true true).toList
theorem sortG_spec (sw : SWO (ltOf cf)) (xs : List τ.den) : PermIn 0 xs.toArray.size xs.toArray (sortG cf xs).toArray ∧ SortedIn (ltOf cf) 0 xs.toArray.size (sortG cf xs).toArray := by
  have := pdq_sorts (ltOf cf) sw xs.toArray 0 xs.toArray.size (Lib.bitLen xs.toArray.size) true true (Nat.zero_le _) (Nat.le_refl _) (Or.inl rfl)
  exact this
theorem sortG_len (sw : SWO (ltOf cf)) (xs : List τ.den) : (sortG cf xs).length = xs.length := by
  have := (sortG_spec sw xs).1.1
  simpa using this
theorem sortG_perm (sw : SWO (ltOf cf)) (xs : List τ.den) : (sortG cf xs).Perm xs := by
  have h := (sortG_spec sw xs).1.2.2
  have h2 := sortG_len sw xs
  have h3 : ((sortG cf xs).take xs.length).Perm xs := by simpa using h
  rwa [List.take_of_length_le (by omega)] at h3
theorem sortG_sorted (sw : SWO (ltOf cf)) (xs : List τ.den) : (sortG cf xs).Pairwise fun a b => ltOf cf b a = false := by
  rw [List.pairwise_iff_getElem]
  intro i j hi hj hij
  have h := (sortG_spec sw xs).2 i j (Nat.zero_le _) hij (by simpa [sortG_len sw] using hj)
  simpa [hi, hj] using h
def srtG (cf : τ.den → τ.den → Int) (vs : List Value) : Option (List Value) := match decL τ vs.length vs with
  | some xs => some (encL τ (sortG cf xs))
  | none => none
theorem srtG_inv {vs vs' : List Value} (h : srtG cf vs = some vs') : ∃ xs, vs = encL τ xs ∧ vs' = encL τ (sortG cf xs) := by
  unfold srtG at h
  split at h
  · rename_i xs hd
    cases h
    exact ⟨xs, decL_enc hd, rfl⟩
  cases h
theorem srtG_of (hp : τ.isPlain = true) (hs : 0 < τ.size) (xs : List τ.den) : srtG cf (encL τ xs) = some (encL τ (sortG cf xs)) := by
  unfold srtG
  rw [decL_of hp hs (by rw [encL_len hp]; exact Nat.le_mul_of_pos_right _ hs)]
theorem srtG_ok (hp : τ.isPlain = true) (sw : SWO (ltOf cf)) : SortV (srtG cf) where
  len vs vs' h := by obtain ⟨xs, rfl, rfl⟩ := srtG_inv h; rw [encL_len hp, encL_len hp, sortG_len sw]
  ino vs vs' h := by obtain ⟨xs, rfl, rfl⟩ := srtG_inv h; exact encL_af _
  out vs vs' h := by obtain ⟨xs, rfl, rfl⟩ := srtG_inv h; exact encL_af _
variable {P : Program} {O : FuncId → List Value → Heap → Option (Value × Heap)} {h h' : Heap} {S : List Nat}
theorem elems_L (hp : τ.isPlain = true) : ∀ {xs : List τ.den} {rs : List Value}, Elems h S τ rs xs → rs = encL τ xs
  | [], rs, he => by
    have := he.1
    simp at this
    subst this; rfl
  | x :: xs, rs, he => by
    have hl : rs.length = (xs.length + 1) * τ.size := he.1
    have h0 : RepC h S τ ((rs.drop (0 * τ.size)).take τ.size) x := he.2 0 (by simp)
    rw [Nat.zero_mul, List.drop_zero] at h0
    have h1 := flat_cells h0 (plain_flat hp)
    have h2 : Elems h S τ (rs.drop τ.size) xs := ⟨by show (rs.drop τ.size).length = xs.length * τ.size; rw [List.length_drop, hl, Nat.add_mul]; omega, fun i hi => by
      have h3 : RepC h S τ ((rs.drop ((i + 1) * τ.size)).take τ.size) xs[i] := he.2 (i + 1) (Nat.succ_lt_succ hi)
      show RepC h S τ (((rs.drop τ.size).drop (i * τ.size)).take τ.size) xs[i]
      rw [List.drop_drop]
      have e : τ.size + i * τ.size = (i + 1) * τ.size := by rw [Nat.add_mul]; omega
      rw [e]
      exact h3⟩
    have h3 := elems_L hp h2
    have e : encL τ (x :: xs) = τ.flatC x ++ encL τ xs := rfl
    rw [e, ← h1, ← h3, List.take_append_drop]
theorem repC_plain (hp : τ.isPlain = true) (x : τ.den) : RepC h S τ (τ.flatC x) x := by
  induction τ with
  | int k => rfl
  | bool => rfl
  | str => rfl
  | unit => rfl
  | pair a b iha ihb =>
    obtain ⟨h1, h2⟩ := band hp
    have e1 : (a.flatC x.1).length = a.size := flatC_len _ h1
    show RepC h S a (((a.flatC x.1) ++ (b.flatC x.2)).take a.size) x.1 ∧ RepC h S b (((a.flatC x.1) ++ (b.flatC x.2)).drop a.size) x.2
    rw [← e1, List.take_left, List.drop_left]
    exact ⟨iha h1 x.1, ihb h2 x.2⟩
  | flt k => cases hp
  | sl e _ => cases hp
  | mp a b _ _ => cases hp
  | fn => cases hp
  | hnd => cases hp
theorem L_elems (hp : τ.isPlain = true) {xs : List τ.den} : Elems h S τ (encL τ xs) xs := by
  induction xs with
  | nil => exact Elems.nil
  | cons x xs ih =>
    have h1 : Elems h S τ (τ.flatC x) [x] := ⟨by rw [flatC_len x hp]; simp, fun i hi => by
      obtain rfl : i = 0 := by simp at hi; omega
      show RepC h S τ (((τ.flatC x).drop (0 * τ.size)).take τ.size) x
      rw [Nat.zero_mul, List.drop_zero, List.take_of_length_le (by rw [flatC_len x hp]; exact Nat.le_refl _)]
      exact repC_plain hp x⟩
    exact h1.append ih
theorem VFG.sortG {fs g : FuncId} {e : TypeId} {w : Value} {xs : List τ.den} (hp : τ.isPlain = true) (hz : 0 < τ.size) (sw : SWO (ltOf cf)) (hn : xs.length ≤ 1000000) :
    VFG P (orcF fs g τ.size (srtG cf) O) fs [.raw w, .clo g [] []] [(w, .row e τ xs)] fun r γ' => r = .tup [] ∧ γ' = [(w, .row e τ (Fs.sortG cf xs))] := fun h S us hok hS hcells hnd hsep ha => by
  obtain ⟨u, r, rfl, h1, h2⟩ := ha
  obtain ⟨u2, r2, rfl, h3, h4⟩ := h2
  obtain rfl : r2 = [] := h4
  obtain rfl : u = w := h1
  obtain ⟨va, vc, rfl, h5, h6⟩ := h3
  obtain rfl : va = [] := h5
  obtain rfl : vc = [] := h6
  rcases hcells _ List.mem_cons_self with ⟨hw, hx⟩ | ⟨b, rs, m, hw, h3, h4, h5⟩
  · have hw : u = .slice none 0 0 := hw
    have hx : xs = [] := hx
    subst hw hx
    refine EvF.oracle (v := .tuple #[]) (h' := h) (by simp only [orcF, Nat.beq_refl, cond_true]; rfl) ?_
    refine ⟨_, _, ⟨rfl, rfl⟩, ⟨Aft.refl _ _, fun b hb => (by cases hb), List.nodup_nil, fun c hc => ?_⟩, ⟨[], rfl, rfl⟩⟩
    obtain rfl : c = _ := by simpa using hc
    exact .inl ⟨rfl, List.length_eq_zero_iff.1 (sortG_len sw [])⟩
  have hw : u = .slice (some ⟨b, 0, none⟩) xs.length 0 := hw
  have hrs := elems_L hp h5
  subst hw hrs
  have ho : orcF fs g τ.size (srtG cf) O fs [.slice (some ⟨b, 0, none⟩) xs.length 0, .func (.func g) #[] #[]] h = some (.tuple #[], h.set b (.row e (encL τ (Fs.sortG cf xs)) true m)) := by
    have e1 : Nat.ble (xs.length * τ.size) (encL τ xs).length = true := by rw [Nat.ble_eq, encL_len hp]; exact Nat.le_refl _
    have e2 : Nat.ble xs.length 1000000 = true := by rw [Nat.ble_eq]; exact hn
    have e3 : (encL τ xs).take (xs.length * τ.size) = encL τ xs := List.take_of_length_le (by rw [encL_len hp]; exact Nat.le_refl _)
    have e4 : splice (encL τ xs) 0 (encL τ (Fs.sortG cf xs)) = encL τ (Fs.sortG cf xs) := by
      unfold splice
      rw [List.take_zero, List.nil_append, List.drop_of_length_le (by rw [encL_len hp, encL_len hp, sortG_len sw]; omega), List.append_nil]
    have e5 : (Nat.beq g g && (Nat.beq (#[] : Array Value).size 0 && Nat.beq (#[] : Array Value).size 0)) = true := by rw [Nat.beq_refl]; rfl
    simp only [orcF, Nat.beq_refl, cond_true, h4, e1, e2, Bool.and_self, e3, srtG_of hp hz, e4, e5]
    rfl
  refine EvF.oracle ho ⟨_, _, ⟨rfl, rfl⟩, ⟨Aft.set h4 (by simp [own, blk]), fun b' hb' => .inl (by simpa [own, blk] using hb'), by simp [own, blk], fun c hc => ?_⟩, ⟨[], rfl, rfl⟩⟩
  obtain rfl : c = _ := by simpa using hc
  refine .inr ⟨b, _, m, by rw [sortG_len sw], by simp [own, blk], by rw [Heap.get_set h4, if_pos rfl], L_elems hp⟩
end
end Go.Fs
namespace Go.Proofs
open Go.Fs
set_option linter.unusedVariables false
def cmpE (x y : Int × Int) : Int := Lib.compareInt x.1 y.1
def OA := orcF 131 132 2 (srtG (τ := .pair (.int .i64) (.int .i64)) cmpE) (orcA 152 152 15)
abbrev y164 : Ty := (.sl (.int .i64))
theorem vt3 : ValT Tryz.prog 3 (.int .i64) := valT_of (by kernel_rfl)
theorem vt29 : ValT Tryz.prog 29 (.int .i64) := valT_of (by kernel_rfl)
theorem el37 : ElT Tryz.prog 37 3 (.int .i64) := elT_of (by kernel_rfl)
theorem el164 : ElT Tryz.prog 164 29 (.int .i64) := elT_of (by kernel_rfl)
def whenE (c : Bool) (e : Int) : Int := bif c then e else 0
theorem gWhen_ok {c : Bool} {e : Int} : VF Tryz.prog OA 83 [B c, I e] (I (whenE c e)) := by
  refine VF.enter Tryz.func83 rfl (fun _ _ => rfl) rfl ?_
  show VC _ _ _ _ _ [(0, B c), (1, I e)] [] _
  refine VC.seq (VC.text ?_)
  refine VO.c (.assign rfl) ?_
  refine VO.go (VC.seq (VC.seq (VC.text ?_)))
  refine VO.c (.move rfl) ?_
  refine VO.go ?_
  refine VC.condB rfl (fun c1 => ?_) (fun c1 => ?_)
  · subst c1
    refine VC.seq (VC.text ?_)
    refine VO.c (.move rfl) ?_
    refine VO.c (.assign rfl) ?_
    refine VO.go ?_
    refine VC.ret ?_
    exact VEnd.one rfl evT (pvI (by rfl))
  subst c1
  refine VC.skip (VC.seq (VC.text ?_))
  refine VO.c (.assign rfl) ?_
  refine VO.go ?_
  refine VC.ret ?_
  exact VEnd.one rfl evT (pvI (by rfl))
def firstE : List Int → Int
  | [] => 0
  | x :: r => if x = 0 then firstE r else x
theorem firstE_drop {xs : List Int} {j : Nat} (hj : j < xs.length) : firstE (xs.drop j) = if xs[j] = 0 then firstE (xs.drop (j + 1)) else xs[j] := by
  rw [List.drop_eq_getElem_cons hj] <;> rfl
theorem firstE_end {xs : List Int} {j : Nat} (hj : xs.length ≤ j) : firstE (xs.drop j) = 0 := by rw [List.drop_eq_nil_of_le hj] <;> rfl
theorem gFirst_ok {l : List Int} (hl : l.length < 1000000) : VF Tryz.prog OA 82 [.v y164 l] (I (firstE l)) := by
  refine VF.enter Tryz.func82 rfl (fun _ _ => rfl) rfl ?_
  show VC _ _ _ _ _ [(0, .v y164 l)] [] _
  refine VC.seq (VC.text ?_)
  refine VO.c (.assign rfl) ?_
  refine VO.go (VC.seq (VC.seq (VC.text ?_)))
  refine VO.c (.move rfl) ?_
  refine VO.r (.len el164) ?_
  refine VO.c (.move rfl) ?_
  refine VO.go (VC.block ?_)
  refine VC.keep [(5, .v y164 l), (6, I ((l.length : Nat) : Int)), (7, I ((0 : Nat) : Int))] ⟨rfl, rfl, rfl, trivial⟩ ?_
  refine VC.loop (I := fun kk ff ss => ∃ (j : Nat), kk = l.length - j ∧ ff = [(5, .v y164 l), (6, I ((l.length : Nat) : Int)), (7, I ((j : Nat) : Int))] ∧ ss = [] ∧ (j ≤ l.length) ∧ (firstE l = firstE (l.drop j))) ?_ _ _ _ ⟨0, rfl, rfl, rfl, Nat.zero_le _, (by rfl)⟩
  rintro kk ff ss ⟨j, hk0, rfl, rfl, hj, hf⟩
  refine VC.seq (VC.text ?_)
  refine VO.c (.lss) ?_
  refine VO.go (VC.seq ?_)
  refine VC.condD rfl (fun c2 => ?_) (fun c2 => ?_)
  · refine VC.skip (VC.seq (VC.block (VC.seq (VC.text ?_))))
    refine VO.c (.ix (j := j) rfl rfl el164 (by omega)) ?_
    refine VO.r (.ld vt29) ?_
    refine VO.c (.assign rfl) ?_
    refine VO.go (VC.seq (VC.text ?_))
    refine VO.c (.move rfl) ?_
    refine VO.c (.neq) ?_
    refine VO.go ?_
    refine VC.condD rfl (fun c4 => ?_) (fun c4 => ?_)
    · refine VC.seq (VC.text ?_)
      refine VO.c (.move rfl) ?_
      refine VO.c (.assign rfl) ?_
      refine VO.go ?_
      refine VC.ret ?_
      exact VEnd.one rfl evT (pvI (by rw [hf, firstE_drop (by omega), if_neg c4]))
    refine VC.skip (VC.text ?_)
    refine VO.c (.add rfl rfl (by omega)) ?_
    refine VO.c (.move rfl) ?_
    refine VO.nil ?_
    refine ⟨_, [(5, .v y164 l), (6, I ((l.length : Nat) : Int)), (7, I (((j + 1) : Nat) : Int))], ?_, ⟨rfl, rfl, rfl, trivial⟩, (j + 1), rfl, rfl, rfl, (by omega), (by rw [hf, firstE_drop (by omega), if_pos (by simpa using c4)])⟩
    omega
  refine VC.exit (VC.seq (VC.text ?_))
  refine VO.c (.assign rfl) ?_
  refine VO.go ?_
  refine VC.ret ?_
  exact VEnd.one rfl evT (pvI (by rw [hf, firstE_end (by omega)]))
end Go.Proofs
namespace Go.Proofs
open Go.Fs Ieee
set_option linter.unusedVariables false

end Go.Proofs
namespace Go.Proofs
open Go.Fs
set_option linter.unusedVariables false
abbrev y39 : Ty := (.pair (.int .i64) (.int .i64))
def spanE (p : Int × Int) : Int := if p.1 < 0 ∨ p.2 ≤ p.1 ∨ 100000 < p.2 then 14 else 0
theorem whenE_span {p : Int × Int} : whenE (decide (p.1 < 0) || decide (p.2 ≤ p.1) || decide (100000 < p.2)) 14 = spanE p := by
  unfold whenE spanE
  by_cases h1 : p.1 < 0 <;> by_cases h2 : p.2 ≤ p.1 <;> by_cases h3 : 100000 < p.2 <;> simp [h1, h2, h3]
theorem gSpan_ok {p : Int × Int} : VF Tryz.prog OA 41 [.v y39 p] (I (spanE p)) := by
  refine VF.enter Tryz.func41 rfl (fun _ _ => rfl) rfl ?_
  show VC _ _ _ _ _ [(0, .v y39 p)] [] _
  refine VC.seq (VC.text ?_)
  refine VO.new (.box) ?_
  refine VO.c (.assign rfl) ?_
  refine VO.go (VC.seq (VC.text ?_))
  refine VO.c (.fa (.l .o)) ?_
  refine VO.r (.ld vt3) ?_
  refine VO.c (.lss) ?_
  refine VO.c (.move rfl) ?_
  refine VO.cg (r := decide (p.1 < (0 : Int))) (w := false) [] trivial (fun hgd => have g1_3 : ¬ (p.1 < (0 : Int)) := (by simpa using hgd); (.fa (.l .o))) ?_
  refine VO.rg (r := decide (p.1 < (0 : Int))) (w := false) [(7, .p (.int .i64) p.1)] ⟨rfl, trivial⟩ (fun hgd => have g1_3 : ¬ (p.1 < (0 : Int)) := (by simpa using hgd); (.ld vt3)) ?_
  refine VO.cg (r := decide (p.1 < (0 : Int))) (w := false) [] trivial (fun hgd => have g1_3 : ¬ (p.1 < (0 : Int)) := (by simpa using hgd); (.fa (.r .o))) ?_
  refine VO.rg (r := decide (p.1 < (0 : Int))) (w := false) [(9, .p (.int .i64) p.2)] ⟨rfl, trivial⟩ (fun hgd => have g1_3 : ¬ (p.1 < (0 : Int)) := (by simpa using hgd); (.ld vt3)) ?_
  refine VO.cg (r := decide (p.1 < (0 : Int))) (w := false) [(8, I p.1), (10, I p.2)] ⟨rfl, rfl, trivial⟩ (fun hgd => have g1_3 : ¬ (p.1 < (0 : Int)) := (by simpa using hgd); (.geq)) ?_
  refine VO.c (.or) ?_
  refine VO.c (.move rfl) ?_
  refine VO.cg (r := ((decide (p.1 < (0 : Int))) || (decide (p.2 ≤ p.1)))) (w := false) [] trivial (fun hgd => have g1_10 : ((decide (p.1 < (0 : Int))) || (decide (p.2 ≤ p.1))) = false := (by simpa using hgd); (.fa (.r .o))) ?_
  refine VO.rg (r := ((decide (p.1 < (0 : Int))) || (decide (p.2 ≤ p.1)))) (w := false) [(14, .p (.int .i64) p.2)] ⟨rfl, trivial⟩ (fun hgd => have g1_10 : ((decide (p.1 < (0 : Int))) || (decide (p.2 ≤ p.1))) = false := (by simpa using hgd); (.ld vt3)) ?_
  refine VO.cg (r := ((decide (p.1 < (0 : Int))) || (decide (p.2 ≤ p.1)))) (w := false) [(15, I p.2)] ⟨rfl, trivial⟩ (fun hgd => have g1_10 : ((decide (p.1 < (0 : Int))) || (decide (p.2 ≤ p.1))) = false := (by simpa using hgd); (.gtr)) ?_
  refine VO.c (.or) ?_
  refine VO.call rfl rfl (VF.call (gWhen_ok )) ?_
  refine VO.c (.assign rfl) ?_
  refine VO.go ?_
  refine VC.ret ?_
  exact VEnd.one rfl evT (pvI (by exact whenE_span))
theorem rSpan_ok {p : Int × Int} : VF Tryz.prog OA 42 [.v y39 p] (I (spanE p)) := by
  refine VF.enter Tryz.func42 rfl (fun _ _ => rfl) rfl ?_
  show VC _ _ _ _ _ [(0, .v y39 p)] [] _
  refine VC.seq (VC.text ?_)
  refine VO.new (.box) ?_
  refine VO.c (.assign rfl) ?_
  refine VO.go (VC.seq (VC.seq (VC.text ?_)))
  refine VO.c (.fa (.l .o)) ?_
  refine VO.r (.ld vt3) ?_
  refine VO.c (.lss) ?_
  refine VO.c (.move rfl) ?_
  refine VO.cg (r := decide (p.1 < (0 : Int))) (w := false) [] trivial (fun hgd => have g1_3 : ¬ (p.1 < (0 : Int)) := (by simpa using hgd); (.fa (.r .o))) ?_
  refine VO.rg (r := decide (p.1 < (0 : Int))) (w := false) [(7, .p (.int .i64) p.2)] ⟨rfl, trivial⟩ (fun hgd => have g1_3 : ¬ (p.1 < (0 : Int)) := (by simpa using hgd); (.ld vt3)) ?_
  refine VO.cg (r := decide (p.1 < (0 : Int))) (w := false) [] trivial (fun hgd => have g1_3 : ¬ (p.1 < (0 : Int)) := (by simpa using hgd); (.fa (.l .o))) ?_
  refine VO.rg (r := decide (p.1 < (0 : Int))) (w := false) [(9, .p (.int .i64) p.1)] ⟨rfl, trivial⟩ (fun hgd => have g1_3 : ¬ (p.1 < (0 : Int)) := (by simpa using hgd); (.ld vt3)) ?_
  refine VO.cg (r := decide (p.1 < (0 : Int))) (w := false) [(8, I p.2), (10, I p.1)] ⟨rfl, rfl, trivial⟩ (fun hgd => have g1_3 : ¬ (p.1 < (0 : Int)) := (by simpa using hgd); (.leq)) ?_
  refine VO.c (.or) ?_
  refine VO.c (.move rfl) ?_
  refine VO.cg (r := ((decide (p.1 < (0 : Int))) || (decide (p.2 ≤ p.1)))) (w := false) [] trivial (fun hgd => have g1_10 : ((decide (p.1 < (0 : Int))) || (decide (p.2 ≤ p.1))) = false := (by simpa using hgd); (.fa (.r .o))) ?_
  refine VO.rg (r := ((decide (p.1 < (0 : Int))) || (decide (p.2 ≤ p.1)))) (w := false) [(14, .p (.int .i64) p.2)] ⟨rfl, trivial⟩ (fun hgd => have g1_10 : ((decide (p.1 < (0 : Int))) || (decide (p.2 ≤ p.1))) = false := (by simpa using hgd); (.ld vt3)) ?_
  refine VO.cg (r := ((decide (p.1 < (0 : Int))) || (decide (p.2 ≤ p.1)))) (w := false) [(15, I p.2)] ⟨rfl, trivial⟩ (fun hgd => have g1_10 : ((decide (p.1 < (0 : Int))) || (decide (p.2 ≤ p.1))) = false := (by simpa using hgd); (.gtr)) ?_
  refine VO.c (.or) ?_
  refine VO.go ?_
  refine VC.condB rfl (fun c1 => ?_) (fun c1 => ?_)
  · try simp only [Bool.and_eq_true, Bool.or_eq_true, Bool.and_eq_false_iff, Bool.or_eq_false_iff, Bool.not_eq_true', Bool.not_eq_false', decide_eq_true_eq, decide_eq_false_iff_not] at c1
    refine VC.seq (VC.text ?_)
    refine VO.c (.assign rfl) ?_
    refine VO.go ?_
    refine VC.ret ?_
    exact VEnd.one rfl evT (pvI (by simp only [spanE, ← Bool.decide_or, decide_eq_true_eq, decide_eq_false_iff_not, Bool.or_eq_true, Bool.or_eq_false_iff] at *; first | rw [if_pos (by omega)] | rw [if_neg (by omega)]))
  try simp only [Bool.and_eq_true, Bool.or_eq_true, Bool.and_eq_false_iff, Bool.or_eq_false_iff, Bool.not_eq_true', Bool.not_eq_false', decide_eq_true_eq, decide_eq_false_iff_not] at c1
  refine VC.skip (VC.seq (VC.text ?_))
  refine VO.c (.assign rfl) ?_
  refine VO.go ?_
  refine VC.ret ?_
  exact VEnd.one rfl evT (pvI (by simp only [spanE, ← Bool.decide_or, decide_eq_true_eq, decide_eq_false_iff_not, Bool.or_eq_true, Bool.or_eq_false_iff] at *; first | rw [if_pos (by omega)] | rw [if_neg (by omega)]))
end Go.Proofs
namespace Go.Proofs.Sp
abbrev Sp := Int × Int
def inL (l : List Sp) (t : Int) : Bool := l.any fun s => decide (s.1 ≤ t) && decide (t < s.2)
def Canon (m : Int) (l : List Sp) : Prop := (∀ s ∈ l, 0 ≤ s.1 ∧ s.1 < s.2 ∧ s.2 ≤ m) ∧ l.Pairwise fun s u => s.2 < u.1
def edgeE (l : List Sp) (d : Int) : List (Int × Int) := l.flatMap fun s => [(s.1, d), (s.2, -d)]
def sumTo : List (Int × Int) → Int → Int
  | [], _ => 0
  | e :: r, t => (if e.1 ≤ t then e.2 else 0) + sumTo r t
theorem sumTo_app {t : Int} : ∀ {a b : List (Int × Int)}, sumTo (a ++ b) t = sumTo a t + sumTo b t
  | [], b => by simp [sumTo]
  | e :: a, b => by rw [List.cons_append, sumTo, sumTo, sumTo_app]; omega
theorem sumTo_perm {t : Int} {a b : List (Int × Int)} (h : a.Perm b) : sumTo a t = sumTo b t := by
  induction h with
  | nil => rfl
  | cons x _ ih => rw [sumTo, sumTo, ih]
  | swap x y l => simp only [sumTo]; omega
  | trans _ _ ih1 ih2 => exact ih1.trans ih2
theorem sumTo_none {t : Int} : ∀ {a : List (Int × Int)}, (∀ e ∈ a, t < e.1) → sumTo a t = 0
  | [], _ => rfl
  | e :: a, h => by
    rw [sumTo, sumTo_none fun x hx => h x (List.mem_cons_of_mem _ hx), if_neg (by have := h e List.mem_cons_self; omega)]; rfl
theorem sumTo_same {t u : Int} : ∀ {a : List (Int × Int)}, (∀ e ∈ a, (e.1 ≤ t ↔ e.1 ≤ u)) → sumTo a t = sumTo a u
  | [], _ => rfl
  | e :: a, h => by
    rw [sumTo, sumTo, sumTo_same fun x hx => h x (List.mem_cons_of_mem _ hx)]
    have := h e List.mem_cons_self
    by_cases h1 : e.1 ≤ t
    · rw [if_pos h1, if_pos (this.1 h1)]
    rw [if_neg h1, if_neg fun h2 => h1 (this.2 h2)]
theorem edge_mem {l : List Sp} {d : Int} {e : Int × Int} (h : e ∈ edgeE l d) : ∃ s ∈ l, e.1 = s.1 ∨ e.1 = s.2 := by
  obtain ⟨s, hs, he⟩ := List.mem_flatMap.1 h
  refine ⟨s, hs, ?_⟩
  simp only [List.mem_cons, List.not_mem_nil, or_false] at he
  rcases he with rfl | rfl
  · exact .inl rfl
  exact .inr rfl
theorem sumTo_edge {m d t : Int} : ∀ {l : List Sp}, Canon m l → sumTo (edgeE l d) t = if inL l t = true then d else 0
  | [], _ => rfl
  | s :: l, h => by
    have h1 := h.1 s List.mem_cons_self
    have h2 := List.pairwise_cons.1 h.2
    have hc : Canon m l := ⟨fun x hx => h.1 x (List.mem_cons_of_mem _ hx), h2.2⟩
    have ih := sumTo_edge (d := d) (t := t) hc
    have e : edgeE (s :: l) d = (s.1, d) :: (s.2, -d) :: edgeE l d := rfl
    rw [e, sumTo, sumTo]
    have e2 : inL (s :: l) t = ((decide (s.1 ≤ t) && decide (t < s.2)) || inL l t) := rfl
    rw [e2]
    by_cases c1 : s.1 ≤ t
    · by_cases c2 : s.2 ≤ t
      · rw [if_pos (show (s.1, d).1 ≤ t from c1), if_pos (show (s.2, -d).1 ≤ t from c2), ih, decide_eq_false (show ¬ t < s.2 by omega)]
        simp only [Bool.and_false, Bool.false_or]
        omega
      have h0 : sumTo (edgeE l d) t = 0 := sumTo_none fun e he => by
        obtain ⟨u, hu, hue⟩ := edge_mem he
        have h3 := h2.1 u hu
        have h4 := hc.1 u hu
        omega
      rw [if_pos (show (s.1, d).1 ≤ t from c1), if_neg (show ¬ (s.2, -d).1 ≤ t from c2), h0, decide_eq_true c1, decide_eq_true (show t < s.2 by omega)]
      simp
    have h0 : sumTo (edgeE l d) t = 0 := sumTo_none fun e he => by
      obtain ⟨u, hu, hue⟩ := edge_mem he
      have h3 := h2.1 u hu
      have h4 := hc.1 u hu
      omega
    have c2 : ¬ s.2 ≤ t := by omega
    rw [h0] at ih
    rw [if_neg (show ¬ (s.1, d).1 ≤ t from c1), if_neg (show ¬ (s.2, -d).1 ≤ t from c2), h0, decide_eq_false c1]
    simp only [Bool.false_and, Bool.false_or]
    rw [← ih]; rfl
def scan1 (p : Int → Bool) (t : Int) (S : Int × List Sp) : Int × List Sp :=
  if p t = true ∧ S.1 < 0 then (t, S.2) else if p t = false ∧ 0 ≤ S.1 then (-1, S.2 ++ [(S.1, t)]) else S
def scanE (p : Int → Bool) : Nat → Int × List Sp
  | 0 => (-1, [])
  | t + 1 => scan1 p t (scanE p t)
theorem scan_open {p : Int → Bool} : ∀ {t : Nat}, (0 ≤ (scanE p (t + 1)).1 ↔ p t = true) ∧ (scanE p (t + 1)).1 ≤ t
  | 0 => by
    show (0 ≤ (scan1 p (0 : Nat) (-1, [])).1 ↔ _) ∧ (scan1 p (0 : Nat) (-1, [])).1 ≤ _
    unfold scan1
    by_cases h : p ((0 : Nat) : Int) = true
    · rw [if_pos ⟨h, by decide⟩]; exact ⟨⟨fun _ => h, fun _ => Int.le_refl _⟩, Int.le_refl _⟩
    rw [if_neg fun h2 => h h2.1, if_neg (by simp)]; exact ⟨⟨fun h2 => absurd (show (0 : Int) ≤ -1 from h2) (by decide), fun h2 => absurd h2 h⟩, by show (-1 : Int) ≤ 0; decide⟩
  | t + 1 => by
    have ih := scan_open (p := p) (t := t)
    rw [scanE]
    unfold scan1
    by_cases h : p ((t + 1 : Nat) : Int) = true
    · by_cases h1 : (scanE p (t + 1)).1 < 0
      · rw [if_pos ⟨h, h1⟩]
        refine ⟨⟨fun _ => h, fun _ => ?_⟩, Int.le_refl _⟩
        show (0 : Int) ≤ ((t + 1 : Nat) : Int)
        omega
      rw [if_neg fun h2 => h1 h2.2, if_neg fun h2 => by rw [h] at h2; exact absurd h2.1 (by decide)]
      refine ⟨⟨fun _ => h, fun _ => by omega⟩, by omega⟩
    have hf : p ((t + 1 : Nat) : Int) = false := by simpa using h
    by_cases h1 : (scanE p (t + 1)).1 < 0
    · rw [if_neg fun h2 => h h2.1, if_neg fun h2 => absurd h2.2 (by omega)]
      refine ⟨⟨fun h2 => by omega, fun h2 => absurd h2 h⟩, by omega⟩
    rw [if_neg fun h2 => h h2.1, if_pos ⟨hf, by omega⟩]
    refine ⟨⟨fun h2 => absurd (show (0 : Int) ≤ -1 from h2) (by decide), fun h2 => absurd h2 h⟩, ?_⟩
    show (-1 : Int) ≤ _
    omega
theorem scan_same {p : Int → Bool} {u : Nat} : ∀ {v : Nat}, u ≤ v → (∀ j : Nat, u ≤ j → j ≤ v → p j = p u) → scanE p (v + 1) = scanE p (u + 1)
  | 0, h, _ => by
    obtain rfl : u = 0 := by omega
    rfl
  | v + 1, h, hp => by
    by_cases e : u = v + 1
    · subst e; rfl
    have ih := scan_same (p := p) (u := u) (v := v) (by omega) fun j h1 h2 => hp j h1 (by omega)
    have hv := hp (v + 1) (by omega) (Nat.le_refl _)
    have ho := (scan_open (p := p) (t := u)).1
    rw [scanE, ih]
    unfold scan1
    rw [hv]
    by_cases h1 : p (u : Int) = true
    · rw [if_neg fun h2 => by have := ho.2 h1; omega, if_neg fun h2 => by rw [h1] at h2; exact absurd h2.1 (by decide)]
    rw [if_neg fun h2 => h1 h2.1, if_neg fun h2 => h1 (ho.1 h2.2)]
theorem scan_none {p : Int → Bool} : ∀ {v : Nat}, (∀ j : Nat, j < v → p j = false) → scanE p v = (-1, [])
  | 0, _ => rfl
  | v + 1, hp => by
    rw [scanE, scan_none fun j hj => hp j (by omega)]
    unfold scan1
    rw [hp v (by omega)]
    simp
def totE : List (Int × Int) → Int
  | [] => 0
  | e :: r => e.2 + totE r
theorem totE_app : ∀ {a b : List (Int × Int)}, totE (a ++ b) = totE a + totE b
  | [], b => by simp [totE]
  | e :: a, b => by rw [List.cons_append, totE, totE, totE_app]; omega
theorem sumTo_all {t : Int} : ∀ {a : List (Int × Int)}, (∀ e ∈ a, e.1 ≤ t) → sumTo a t = totE a
  | [], _ => rfl
  | e :: a, h => by rw [sumTo, totE, sumTo_all fun x hx => h x (List.mem_cons_of_mem _ hx), if_pos (h e List.mem_cons_self)]
def pE (ch : Int → Bool) (L : List (Int × Int)) (t : Int) : Bool := ch (sumTo L t)
structure CombI (ch : Int → Bool) (L l : List (Int × Int)) (st fr : Int) (out : List Sp) (v : Nat) : Prop where
  done : ∃ d, L = d ++ l ∧ ∀ e ∈ d, e.1 < v
  rest : ∀ e ∈ l, (v : Int) ≤ e.1
  state : st = sumTo L ((v : Int) - 1)
  outs : out = (scanE (pE ch L) v).2
  open_ : 0 ≤ (scanE (pE ch L) v).1 ↔ ch st = true
  from_ : ch st = true → fr = (scanE (pE ch L) v).1
theorem CombI.init {ch : Int → Bool} {L : List (Int × Int)} {fr : Int} (h0 : ch 0 = false) (hL : ∀ e ∈ L, 0 ≤ e.1) : CombI ch L L 0 fr [] 0 where
  done := ⟨[], rfl, fun e he => by cases he⟩
  rest := fun e he => hL e he
  state := (sumTo_none fun e he => by have := hL e he; show ((0 : Nat) : Int) - 1 < e.1; omega).symm
  outs := rfl
  open_ := by
    rw [h0]
    exact ⟨fun h => absurd (show (0 : Int) ≤ -1 from h) (by decide), fun h => by cases h⟩
  from_ := fun h => by rw [h0] at h; cases h
theorem CombI.same {ch : Int → Bool} {L l : List (Int × Int)} {st fr : Int} {out : List Sp} {v : Nat} (I : CombI ch L l st fr out v) {j : Int} (h1 : (v : Int) - 1 ≤ j) (h2 : ∀ e ∈ l, j < e.1) : sumTo L j = st := by
  obtain ⟨d, hd, hlt⟩ := I.done
  rw [I.state, hd, sumTo_app, sumTo_app, sumTo_none h2, sumTo_none (a := l) fun e he => by have := I.rest e he; omega]
  rw [sumTo_same (t := j) (u := (v : Int) - 1) (a := d) fun e he => by have := hlt e he; omega]
theorem CombI.upto {ch : Int → Bool} {L l : List (Int × Int)} {st fr : Int} {out : List Sp} {v : Nat} (I : CombI ch L l st fr out v) {n : Nat} (hn : v ≤ n) (h2 : ∀ e ∈ l, (n : Int) ≤ e.1) (h0 : ch 0 = false) (hL : ∀ e ∈ L, 0 ≤ e.1) : scanE (pE ch L) n = scanE (pE ch L) v := by
  have hs : ∀ j : Nat, v ≤ j + 1 → j < n → pE ch L j = ch st := fun j h3 h4 => by
    unfold pE
    rw [I.same (by omega) fun e he => by have := h2 e he; omega]
  cases v with
  | zero =>
    have hst : st = 0 := I.state.trans (sumTo_none fun e he => by have := hL e he; show ((0 : Nat) : Int) - 1 < e.1; omega)
    rw [scan_none fun j hj => by rw [hs j (by omega) hj, hst, h0]]; rfl
  | succ u =>
    cases n with
    | zero => omega
    | succ m => exact scan_same (by omega) fun j h3 h4 => by rw [hs j (by omega) (by omega), hs u (by omega) (by omega)]
theorem CombI.step {ch : Int → Bool} {L g l : List (Int × Int)} {st fr : Int} {out : List Sp} {v a : Nat} (I : CombI ch L (g ++ l) st fr out v) (h0 : ch 0 = false) (hL : ∀ e ∈ L, 0 ≤ e.1) (hg : ∀ e ∈ g, e.1 = (a : Int)) (hne : g ≠ []) (hl : ∀ e ∈ l, (a : Int) < e.1) :
    CombI ch L l (st + totE g) (if ch st = false ∧ ch (st + totE g) = true then (a : Int) else fr) (if ch st = true ∧ ch (st + totE g) = false then out ++ [(fr, (a : Int))] else out) (a + 1) := by
  obtain ⟨x, hx⟩ := List.exists_mem_of_ne_nil _ hne
  have hva : v ≤ a := by
    have h1 := I.rest x (List.mem_append_left _ hx)
    have h2 := hg x hx
    omega
  have hup := I.upto hva (fun e he => by
    rcases List.mem_append.1 he with he | he
    · have := hg e he; omega
    have := hl e he; omega) h0 hL
  obtain ⟨d, hd, hlt⟩ := I.done
  have hsum : sumTo L (a : Int) = st + totE g := by
    rw [I.state, hd, sumTo_app, sumTo_app, sumTo_app, sumTo_app, sumTo_none (a := l) hl, sumTo_all (a := g) fun e he => by have := hg e he; omega]
    rw [sumTo_none (a := g) fun e he => by have := hg e he; omega, sumTo_none (a := l) fun e he => by have := hl e he; omega, sumTo_same (t := (a : Int)) (u := (v : Int) - 1) (a := d) fun e he => by have := hlt e he; omega]
    omega
  have hp : pE ch L (a : Nat) = ch (st + totE g) := by unfold pE; rw [hsum]
  have hsc : scanE (pE ch L) (a + 1) = scan1 (pE ch L) a (scanE (pE ch L) v) := by rw [scanE, hup]
  have hop := I.open_
  have hres : scanE (pE ch L) (a + 1) = (if ch (st + totE g) = true then (if ch st = true then fr else (a : Int)) else -1, if ch st = true ∧ ch (st + totE g) = false then out ++ [(fr, (a : Int))] else out) ∨ (ch st = false ∧ ch (st + totE g) = false ∧ scanE (pE ch L) (a + 1) = scanE (pE ch L) v) := by
    rw [hsc]
    unfold scan1
    rw [hp]
    cases hb : ch st <;> cases hc : ch (st + totE g)
    · right
      have h1 : ¬ 0 ≤ (scanE (pE ch L) v).1 := fun h => by have := hop.1 h; rw [hb] at this; cases this
      refine ⟨rfl, rfl, ?_⟩
      rw [if_neg (fun h => absurd h.1 (by decide)), if_neg (fun h => h1 h.2)]
    · left
      have h1 : ¬ 0 ≤ (scanE (pE ch L) v).1 := fun h => by have := hop.1 h; rw [hb] at this; cases this
      rw [if_pos ⟨rfl, by omega⟩]
      simp [I.outs]
    · left
      have h1 := hop.2 hb
      rw [if_neg (fun h => absurd h.1 (by decide)), if_pos ⟨rfl, h1⟩]
      simp [I.outs, I.from_ hb]
    left
    have h1 := hop.2 hb
    rw [if_neg (fun h => absurd h.2 (by omega)), if_neg (fun h => absurd h.1 (by decide))]
    simp [I.outs, I.from_ hb]
  refine ⟨⟨d ++ g, by rw [hd, List.append_assoc], fun e he => ?_⟩, fun e he => ?_, ?_, ?_, ?_, ?_⟩
  · rcases List.mem_append.1 he with he | he
    · have := hlt e he; omega
    have := hg e he; omega
  · have := hl e he; omega
  · rw [show ((a + 1 : Nat) : Int) - 1 = (a : Int) by omega, hsum]
  · rcases hres with hr | ⟨h1, h2, hr⟩
    · rw [hr]
    rw [hr, if_neg (fun h => by rw [h1] at h; exact absurd h.1 (by decide))]; exact I.outs
  · have := (scan_open (p := pE ch L) (t := a)).1
    rw [this, hp]
  intro hc
  rcases hres with hr | ⟨h1, h2, hr⟩
  · rw [hr]
    cases hb : ch st <;> simp [hc]
  rw [hc] at h2; cases h2
theorem CombI.last {ch : Int → Bool} {L : List (Int × Int)} {st fr : Int} {out : List Sp} {v n : Nat} (I : CombI ch L [] st fr out v) (h0 : ch 0 = false) (hL : ∀ e ∈ L, 0 ≤ e.1) (hn : v ≤ n) : out = (scanE (pE ch L) n).2 := by
  rw [I.upto hn (fun e he => by cases he) h0 hL]; exact I.outs
theorem inL_app {a b : List Sp} {t : Int} : inL (a ++ b) t = (inL a t || inL b t) := List.any_append
theorem inL_one {x y t : Int} : inL [(x, y)] t = true ↔ x ≤ t ∧ t < y := by simp [inL]
theorem scan_in {p : Int → Bool} {t : Int} (ht : 0 ≤ t) : ∀ {n : Nat}, (inL (scanE p n).2 t = true ∨ (0 ≤ (scanE p n).1 ∧ (scanE p n).1 ≤ t ∧ t < n)) ↔ (t < n ∧ p t = true)
  | 0 => by
    constructor
    · rintro (h | ⟨h, _⟩)
      · cases h
      exact absurd (show (0 : Int) ≤ -1 from h) (by decide)
    rintro ⟨h, _⟩; omega
  | n + 1 => by
    have ih := scan_in (p := p) ht (n := n)
    have en : ((n + 1 : Nat) : Int) = (n : Int) + 1 := by omega
    rw [scanE]
    unfold scan1
    by_cases c1 : p (n : Int) = true ∧ (scanE p n).1 < 0
    · rw [if_pos c1]
      show (inL (scanE p n).2 t = true ∨ (0 ≤ (n : Int) ∧ (n : Int) ≤ t ∧ t < ((n + 1 : Nat) : Int))) ↔ _
      constructor
      · rintro (h | h)
        · have := ih.1 (.inl h); exact ⟨by omega, this.2⟩
        have : t = n := by omega
        subst this; exact ⟨by omega, c1.1⟩
      rintro ⟨h1, h2⟩
      by_cases e : t = n
      · exact .inr (by omega)
      rcases ih.2 ⟨by omega, h2⟩ with h | h
      · exact .inl h
      omega
    rw [if_neg c1]
    by_cases c2 : p (n : Int) = false ∧ 0 ≤ (scanE p n).1
    · rw [if_pos c2]
      show (inL ((scanE p n).2 ++ [((scanE p n).1, (n : Int))]) t = true ∨ ((0 : Int) ≤ -1 ∧ _)) ↔ _
      rw [inL_app, Bool.or_eq_true, inL_one]
      constructor
      · rintro ((h | h) | h)
        · have := ih.1 (.inl h); exact ⟨by omega, this.2⟩
        · have := ih.1 (.inr ⟨c2.2, h⟩); exact ⟨by omega, this.2⟩
        omega
      rintro ⟨h1, h2⟩
      by_cases e : t = n
      · subst e; rw [c2.1] at h2; cases h2
      rcases ih.2 ⟨by omega, h2⟩ with h | h
      · exact .inl (.inl h)
      exact .inl (.inr h.2)
    rw [if_neg c2]
    constructor
    · rintro (h | h)
      · have := ih.1 (.inl h); exact ⟨by omega, this.2⟩
      by_cases e : t = n
      · subst e
        refine ⟨by omega, ?_⟩
        cases hp : p (n : Int)
        · exact absurd ⟨hp, h.1⟩ c2
        rfl
      have := ih.1 (.inr ⟨h.1, h.2.1, by omega⟩); exact ⟨by omega, this.2⟩
    rintro ⟨h1, h2⟩
    by_cases e : t = n
    · subst e
      have h3 : ¬ (scanE p n).1 < 0 := fun h => c1 ⟨h2, h⟩
      have h4 : (scanE p n).1 ≤ n := by
        cases n with
        | zero => show (-1 : Int) ≤ 0; decide
        | succ m => have := (scan_open (p := p) (t := m)).2; omega
      exact .inr (by omega)
    rcases ih.2 ⟨by omega, h2⟩ with h | h
    · exact .inl h
    exact .inr ⟨h.1, h.2.1, by omega⟩
theorem scan_has {p : Int → Bool} {n : Nat} (hl : p (n : Int) = false) {t : Int} (ht : 0 ≤ t) : inL (scanE p (n + 1)).2 t = true ↔ (t ≤ n ∧ p t = true) := by
  have h := scan_in (p := p) ht (n := n + 1)
  have ho := (scan_open (p := p) (t := n)).1
  constructor
  · intro h1
    have := h.1 (.inl h1)
    exact ⟨by omega, this.2⟩
  rintro ⟨h1, h2⟩
  rcases h.2 ⟨by omega, h2⟩ with h3 | h3
  · exact h3
  have := ho.1 h3.1; rw [hl] at this; cases this
theorem scan_canon {p : Int → Bool} : ∀ {n : Nat}, Canon ((n : Int) - 1) (scanE p n).2 ∧ (0 ≤ (scanE p n).1 → ∀ s ∈ (scanE p n).2, s.2 < (scanE p n).1)
  | 0 => ⟨⟨fun s hs => (by cases hs), List.Pairwise.nil⟩, fun _ s hs => (by cases hs)⟩
  | n + 1 => by
    obtain ⟨⟨h1, h2⟩, h3⟩ := scan_canon (p := p) (n := n)
    have en : ((n + 1 : Nat) : Int) - 1 = n := by omega
    rw [scanE, en]
    unfold scan1
    by_cases c1 : p (n : Int) = true ∧ (scanE p n).1 < 0
    · rw [if_pos c1]
      refine ⟨⟨fun s hs => ?_, h2⟩, fun _ s hs => ?_⟩
      · have := h1 s hs; omega
      have := h1 s hs
      show s.2 < (n : Int)
      omega
    rw [if_neg c1]
    by_cases c2 : p (n : Int) = false ∧ 0 ≤ (scanE p n).1
    · rw [if_pos c2]
      have h4 : (scanE p n).1 < n := by
        cases n with
        | zero => exact absurd (show (0 : Int) ≤ -1 from c2.2) (by decide)
        | succ m => have := (scan_open (p := p) (t := m)).2; omega
      refine ⟨⟨fun s hs => ?_, ?_⟩, fun h => absurd (show (0 : Int) ≤ -1 from h) (by decide)⟩
      · rcases List.mem_append.1 hs with hs | hs
        · have := h1 s hs; omega
        obtain rfl := List.mem_singleton.1 hs
        exact ⟨c2.2, h4, Int.le_refl _⟩
      refine List.pairwise_append.2 ⟨h2, List.pairwise_singleton _ _, fun s hs u hu => ?_⟩
      obtain rfl := List.mem_singleton.1 hu
      exact h3 c2.2 s hs
    rw [if_neg c2]
    refine ⟨⟨fun s hs => ?_, h2⟩, h3⟩
    have := h1 s hs; omega
def markE (a b : List Sp) (t : Int) : Int := (if inL a t = true then 1 else 0) + (if inL b t = true then 2 else 0)
theorem edges_mark {m : Int} {a b : List Sp} {L : List (Int × Int)} (ha : Canon m a) (hb : Canon m b) (hL : L.Perm (edgeE a 1 ++ edgeE b 2)) (t : Int) : sumTo L t = markE a b t := by
  rw [sumTo_perm hL, sumTo_app, sumTo_edge ha, sumTo_edge hb]; rfl
end Go.Proofs.Sp
namespace Go.Proofs.Sp
theorem canon_of {m : Int} {l : List Sp} (h1 : ∀ s ∈ l, 0 ≤ s.1 ∧ s.1 < s.2 ∧ s.2 ≤ m) (h2 : ∀ j (hj : j < l.length), 0 < j → (l[j - 1]'(by omega)).2 < l[j].1) : Canon m l := by
  refine ⟨h1, List.pairwise_iff_getElem.2 fun i j hi hj hij => ?_⟩
  induction j with
  | zero => omega
  | succ j ih =>
    have h3 := h2 (j + 1) hj (by omega)
    simp only [Nat.add_sub_cancel] at h3
    by_cases e : i = j
    · subst e; exact h3
    have h4 := ih (by omega) (by omega)
    have h5 := h1 _ (List.getElem_mem (show j < l.length by omega))
    omega
end Go.Proofs.Sp
namespace Go.Proofs
open Go.Fs
set_option linter.unusedVariables false
set_option maxHeartbeats 2000000
abbrev y22 : Ty := (.sl (.pair (.int .i64) (.int .i64)))
abbrev y196 : Ty := (.sl (.pair (.int .i64) (.int .i64)))
abbrev y199 : Ty := (.pair (.int .i64) (.int .i64))
theorem vt39 : ValT Tryz.prog 39 y39 := valT_of (by kernel_rfl)
theorem el22 : ElT Tryz.prog 22 39 y39 := elT_of (by kernel_rfl)
theorem el196 : ElT Tryz.prog 196 199 y199 := elT_of (by kernel_rfl)
theorem zt39 : ZerT Tryz.prog 39 y39 := zerT_of (z := .agg #[.int .i64 0, .int .i64 0]) (by kernel_rfl) rfl rfl
theorem zt199 : ZerT Tryz.prog 199 y199 := zerT_of (z := .agg #[.int .i64 0, .int .i64 0]) (by kernel_rfl) rfl rfl
theorem bt199 : BldT Tryz.prog 199 y199 [(0, 1), (1, 1)] := bldT_of zt199 rfl (by kernel_rfl)
theorem eq39 : EqT Tryz.prog 39 y39 := eqT_of (by kernel_rfl)
def firstR (f : Nat → Int) (i n : Nat) : Int := firstE ((List.range' i (n - i)).map f)
theorem firstR_step {f : Nat → Int} {i n : Nat} (h : i < n) : firstR f i n = if f i = 0 then firstR f (i + 1) n else f i := by
  unfold firstR
  rw [show n - i = (n - (i + 1)) + 1 by omega, List.range'_succ] <;> rfl
theorem firstR_end {f : Nat → Int} {i n : Nat} (h : n ≤ i) : firstR f i n = 0 := by
  unfold firstR
  rw [show n - i = 0 by omega] <;> rfl
theorem getD_at {α : Type} {l : List α} {i : Nat} {d : α} (h : i < l.length) : l.getD i d = l[i] := by rw [List.getD_eq_getElem?_getD, List.getElem?_eq_getElem h] <;> rfl
def spX (l : List (Int × Int)) (j : Nat) : Int × Int := l.getD j (0, 0)
theorem spX_eq {l : List (Int × Int)} {j : Nat} (h : j < l.length) : spX l j = l[j] := getD_at h
def spanAt (l : List (Int × Int)) (j : Nat) : Int := firstE [spanE (spX l j), whenE (decide (0 < (j : Int)) && decide ((spX l j).1 ≤ (spX l (j - 1)).2)) 11]
def spansE (l : List (Int × Int)) : Int := if 2048 < (l.length : Int) then 5 else firstR (spanAt l) 0 l.length
theorem spX_prev {l : List (Int × Int)} {j : Nat} (h0 : 0 < (j : Int)) (h : ((j : Int) - 1).toNat < l.length) : spX l (j - 1) = l[((j : Int) - 1).toNat] := by
  have e : ((j : Int) - 1).toNat = j - 1 := by omega
  rw [spX_eq (by omega)]
  simp only [e]
theorem spX_max {l : List (Int × Int)} {j : Nat} (h0 : 0 < (j : Int)) (h : (max 0 ((j : Int) - 1)).toNat < l.length) : spX l (j - 1) = l[(max 0 ((j : Int) - 1)).toNat] := by
  have e : (max 0 ((j : Int) - 1)).toNat = j - 1 := by omega
  rw [spX_eq (by omega)]
  simp only [e]
theorem spanAt_bad {l : List (Int × Int)} {j : Nat} (h : j < l.length) (hb : spanE l[j] ≠ 0) : spanAt l j = 14 := by
  unfold spanAt
  rw [spX_eq h]
  have : spanE l[j] = 14 := by
    unfold spanE at hb ⊢
    split at hb
    · rename_i hc; rw [if_pos hc]
    exact absurd rfl hb
  rw [this] <;> rfl
theorem spanAt_ok {l : List (Int × Int)} {j : Nat} (h : j < l.length) (hb : ¬ spanE l[j] ≠ 0) : spanAt l j = whenE (decide (0 < (j : Int)) && decide (l[j].1 ≤ (spX l (j - 1)).2)) 11 := by
  unfold spanAt
  rw [spX_eq h, Classical.not_not.1 hb]
  show (if (0 : Int) = 0 then _ else _) = _
  rw [if_pos rfl]
  unfold firstE
  split
  · rename_i hz; rw [hz] <;> rfl
  rfl
theorem spanAt_t {l : List (Int × Int)} {j : Nat} (h : j < l.length) (h0 : 0 < (j : Int)) (hm : (max 0 ((j : Int) - 1)).toNat < l.length) : spanAt l j = firstE [spanE l[j], whenE (decide (l[j].1 ≤ l[(max 0 ((j : Int) - 1)).toNat].2)) 11] := by
  unfold spanAt
  rw [spX_eq h, spX_max h0 hm, decide_eq_true h0, Bool.true_and]
theorem spanAt_f {l : List (Int × Int)} {j : Nat} (h : j < l.length) (h0 : ¬ 0 < (j : Int)) : spanAt l j = firstE [spanE l[j], whenE false 11] := by
  unfold spanAt
  rw [spX_eq h, decide_eq_false h0, Bool.false_and]
theorem rSpans_ok {l : List (Int × Int)} (hl : l.length < 1000000) : VF Tryz.prog OA 18 [.v y22 l] (I (spansE l)) := by
  refine VF.enter Tryz.func18 rfl (fun _ _ => rfl) rfl ?_
  show VC _ _ _ _ _ [(0, .v y22 l)] [] _
  refine VC.seq (VC.text ?_)
  refine VO.c (.assign rfl) ?_
  refine VO.go (VC.seq (VC.seq (VC.text ?_)))
  refine VO.c (.move rfl) ?_
  refine VO.r (.len el22) ?_
  refine VO.c (.gtr) ?_
  refine VO.go ?_
  refine VC.condD rfl (fun c1 => ?_) (fun c1 => ?_)
  · refine VC.seq (VC.text ?_)
    refine VO.c (.assign rfl) ?_
    refine VO.go ?_
    refine VC.ret ?_
    exact VEnd.one rfl evT (pvI (by rw [spansE, if_pos c1]))
  refine VC.skip (VC.seq (VC.seq (VC.text ?_)))
  refine VO.c (.assign rfl) ?_
  refine VO.go (VC.block ?_)
  refine VC.keep [(0, .v y22 l), (3, I ((0 : Nat) : Int))] ⟨rfl, rfl, trivial⟩ ?_
  refine VC.loop (I := fun kk ff ss => ∃ (j : Nat), kk = l.length - j ∧ ff = [(0, .v y22 l), (3, I ((j : Nat) : Int))] ∧ ss = [] ∧ (j ≤ l.length) ∧ (spansE l = firstR (spanAt l) j l.length)) ?_ _ _ _ ⟨0, rfl, rfl, rfl, Nat.zero_le _, (by exact if_neg c1)⟩
  rintro kk ff ss ⟨j, hk0, rfl, rfl, hj, hw⟩
  refine VC.seq (VC.seq (VC.text ?_))
  refine VO.c (.move rfl) ?_
  refine VO.c (.move rfl) ?_
  refine VO.r (.len el22) ?_
  refine VO.c (.lss) ?_
  refine VO.go ?_
  refine VC.condD rfl (fun c4 => ?_) (fun c4 => ?_)
  · refine VC.skip (VC.seq (VC.block (VC.seq (VC.seq (VC.text ?_)))))
    refine VO.c (.move rfl) ?_
    refine VO.c (.move rfl) ?_
    refine VO.c (.ix (j := j) rfl rfl el22 (by omega)) ?_
    refine VO.r (.ld vt39) ?_
    refine VO.call rfl rfl (VF.call (rSpan_ok )) ?_
    refine VO.c (.neq) ?_
    refine VO.go ?_
    refine VC.condD rfl (fun c6 => ?_) (fun c6 => ?_)
    · refine VC.seq (VC.text ?_)
      refine VO.c (.assign rfl) ?_
      refine VO.go ?_
      refine VC.ret ?_
      exact VEnd.one rfl evT (pvI (by rw [hw, firstR_step (by omega), spanAt_bad (by omega) c6, if_neg (by decide)]))
    refine VC.skip (VC.seq (VC.drawn ?_))
    refine VD.c (.move rfl) ?_
    refine VD.c (.gtr) ?_
    refine VD.c (.move rfl) ?_
    refine VD.splitD (x := 21) rfl (fun g8_2 => ?_) (fun g8_2 => ?_)
    · refine VD.c (.move rfl) ?_
      refine VD.c (.move rfl) ?_
      refine VD.nw [] ?_
      refine VD.c (.ix (j := j) rfl rfl el22 (by omega)) ?_
      refine VD.c (.fa (.l .o)) ?_
      refine VD.r [] (.ld vt3) (.inl rfl) ?_
      refine VD.c (.move rfl) ?_
      refine VD.c (.move rfl) ?_
      refine VD.c (.sub rfl rfl (by omega)) ?_
      refine VD.c (.ixZ (k := (((j : Nat) : Int) - (1 : Int))) rfl rfl el22 (by omega) (by omega)) ?_
      refine VD.nw [] ?_
      refine VD.c (.fa (.r .o)) ?_
      refine VD.r [] (.ld vt3) (.inl rfl) ?_
      refine VD.c (.leq) ?_
      refine VD.c (.pickT rfl rfl) ?_
      refine VD.go ?_
      refine VC.condD rfl (fun c8 => ?_) (fun c8 => ?_)
      · refine VC.seq (VC.text ?_)
        refine VO.c (.assign rfl) ?_
        refine VO.go ?_
        refine VC.ret ?_
        exact VEnd.one rfl evT (pvI (by rw [hw, firstR_step (by omega), spanAt_ok (by omega) c6, spX_prev g8_2 (by omega), decide_eq_true c8, decide_eq_true g8_2] <;> rfl))
      have hz : spanAt l j = 0 := by rw [spanAt_ok (by omega) c6, spX_prev g8_2 (by omega), decide_eq_false c8, Bool.and_false] <;> rfl
      refine VC.skip (VC.text ?_)
      refine VO.c (.move rfl) ?_
      refine VO.c (.add rfl rfl (by omega)) ?_
      refine VO.c (.assign rfl) ?_
      refine VO.nil ?_
      refine ⟨_, [(0, .v y22 l), (3, I (((j + 1) : Nat) : Int))], ?_, ⟨rfl, rfl, trivial⟩, (j + 1), rfl, rfl, rfl, (by omega), (by rw [hw, firstR_step (by omega), if_pos hz])⟩
      omega
    have hz : spanAt l j = 0 := by rw [spanAt_ok (by omega) c6, decide_eq_false (show ¬ 0 < (j : Int) by omega)] <;> rfl
    refine VD.skip ?_
    refine VD.skip ?_
    refine VD.nw [] ?_
    refine VD.skip ?_
    refine VD.skip ?_
    refine VD.skip ?_
    refine VD.skip ?_
    refine VD.skip ?_
    refine VD.skip ?_
    refine VD.skip ?_
    refine VD.nw [] ?_
    refine VD.skip ?_
    refine VD.skip ?_
    refine VD.skip ?_
    refine VD.c (.pickF rfl rfl) ?_
    refine VD.go ?_
    refine VC.condF rfl ?_
    refine VC.skip (VC.text ?_)
    refine VO.c (.move rfl) ?_
    refine VO.c (.add rfl rfl (by omega)) ?_
    refine VO.c (.assign rfl) ?_
    refine VO.nil ?_
    refine ⟨_, [(0, .v y22 l), (3, I (((j + 1) : Nat) : Int))], ?_, ⟨rfl, rfl, trivial⟩, (j + 1), rfl, rfl, rfl, (by omega), (by rw [hw, firstR_step (by omega), if_pos hz])⟩
    omega
  refine VC.exit (VC.seq (VC.text ?_))
  refine VO.c (.assign rfl) ?_
  refine VO.go ?_
  refine VC.ret ?_
  exact VEnd.one rfl evT (pvI (by rw [hw, firstR_end (by omega)]))
theorem gSpans_ok {l : List (Int × Int)} (hl : l.length < 1000000) : VF Tryz.prog OA 26 [.v y22 l] (I (spansE l)) := by
  refine VF.enter Tryz.func26 rfl (fun _ _ => rfl) rfl ?_
  show VC _ _ _ _ _ [(0, .v y22 l)] [] _
  refine VC.seq (VC.text ?_)
  refine VO.c (.assign rfl) ?_
  refine VO.go (VC.seq (VC.seq (VC.text ?_)))
  refine VO.c (.move rfl) ?_
  refine VO.r (.len el22) ?_
  refine VO.c (.gtr) ?_
  refine VO.go ?_
  refine VC.condD rfl (fun c1 => ?_) (fun c1 => ?_)
  · refine VC.seq (VC.text ?_)
    refine VO.c (.assign rfl) ?_
    refine VO.go ?_
    refine VC.ret ?_
    exact VEnd.one rfl evT (pvI (by rw [spansE, if_pos c1]))
  refine VC.skip (VC.seq (VC.seq (VC.text ?_)))
  refine VO.c (.move rfl) ?_
  refine VO.r (.len el22) ?_
  refine VO.c (.move rfl) ?_
  refine VO.go (VC.block ?_)
  refine VC.keep [(0, .v y22 l), (9, .v y22 l), (10, I ((l.length : Nat) : Int)), (11, I ((0 : Nat) : Int))] ⟨rfl, rfl, rfl, rfl, trivial⟩ ?_
  refine VC.loop (I := fun kk ff ss => ∃ (j : Nat), kk = l.length - j ∧ ff = [(0, .v y22 l), (9, .v y22 l), (10, I ((l.length : Nat) : Int)), (11, I ((j : Nat) : Int))] ∧ ss = [] ∧ (j ≤ l.length) ∧ (spansE l = firstR (spanAt l) j l.length)) ?_ _ _ _ ⟨0, rfl, rfl, rfl, Nat.zero_le _, (by exact if_neg c1)⟩
  rintro kk ff ss ⟨j, hk0, rfl, rfl, hj, hw⟩
  refine VC.seq (VC.text ?_)
  refine VO.c (.lss) ?_
  refine VO.go (VC.seq ?_)
  refine VC.condD rfl (fun c4 => ?_) (fun c4 => ?_)
  · refine VC.skip (VC.seq (VC.block (VC.seq (VC.text ?_))))
    refine VO.c (.move rfl) ?_
    refine VO.c (.ix (j := j) rfl rfl el22 (by omega)) ?_
    refine VO.r (.ld vt39) ?_
    refine VO.cell (.alloc zt39) ?_
    intro ww1
    refine VO.c (.assign rfl) ?_
    refine VO.setV (cs' := [I ((l[j]).1), I ((l[j]).2)]) vt39 .v ?_
    refine VO.shut [(4, .p y39 (l[j]))] (.cons rfl (.var m0 .refl) .nil) ?_
    refine VO.go (VC.seq (VC.drawn ?_))
    refine VD.r [] (.ld vt39) (.inl rfl) ?_
    refine VD.call rfl rfl (VF.call (gSpan_ok )) ?_
    refine VD.c (.move rfl) ?_
    refine VD.c (.gtr) ?_
    refine VD.c (.move rfl) ?_
    refine VD.splitD (x := 20) rfl (fun g6_4 => ?_) (fun g6_4 => ?_)
    · have hv := spanAt_t (l := l) (j := j) (by omega) g6_4 (by omega)
      refine VD.nw [] ?_
      refine VD.c (.fa (.l .o)) ?_
      refine VD.r [] (.ld vt3) (.inl rfl) ?_
      refine VD.c (.move rfl) ?_
      refine VD.c (.move rfl) ?_
      refine VD.c (.sub rfl rfl (by omega)) ?_
      refine VD.r [] (.max) (.inl rfl) ?_
      refine VD.c (.ixZ (k := (max (0 : Int) (((j : Nat) : Int) - (1 : Int)))) rfl rfl el22 (by omega) (by omega)) ?_
      refine VD.nw [] ?_
      refine VD.c (.fa (.r .o)) ?_
      refine VD.r [] (.ld vt3) (.inl rfl) ?_
      refine VD.c (.leq) ?_
      refine VD.c (.pickT rfl rfl) ?_
      refine VD.call rfl rfl (VF.call (gWhen_ok )) ?_
      refine VD.new (.lit [spanE (l[j]), whenE (decide ((l[j]).1 ≤ (l[Int.toNat (max (0 : Int) (((j : Nat) : Int) - (1 : Int)))]).2)) (11 : Int)] el164) ?_
      refine VD.callO rfl rfl (VF.call (gFirst_ok (by first | assumption | omega | simp))) ?_
      refine VD.nw [33] ?_
      refine VD.c (.assign rfl) ?_
      refine VD.go (VC.seq (VC.text ?_))
      refine VO.c (.move rfl) ?_
      refine VO.c (.neq) ?_
      refine VO.go ?_
      refine VC.condD rfl (fun c7 => ?_) (fun c7 => ?_)
      · refine VC.seq (VC.text ?_)
        refine VO.c (.move rfl) ?_
        refine VO.c (.assign rfl) ?_
        refine VO.go ?_
        refine VC.ret ?_
        exact VEnd.one rfl evT (pvI (by rw [hw, firstR_step (by omega), hv, if_neg c7]))
      refine VC.skip (VC.text ?_)
      refine VO.c (.add rfl rfl (by omega)) ?_
      refine VO.c (.move rfl) ?_
      refine VO.nil ?_
      refine ⟨_, [(0, .v y22 l), (9, .v y22 l), (10, I ((l.length : Nat) : Int)), (11, I (((j + 1) : Nat) : Int))], ?_, ⟨rfl, rfl, rfl, rfl, trivial⟩, (j + 1), rfl, rfl, rfl, (by omega), (by rw [hw, firstR_step (by omega), hv, if_pos (Classical.not_not.1 c7)])⟩
      omega
    have hv := spanAt_f (l := l) (j := j) (by omega) g6_4
    refine VD.nw [] ?_
    refine VD.skip ?_
    refine VD.skip ?_
    refine VD.skip ?_
    refine VD.skip ?_
    refine VD.skip ?_
    refine VD.skip ?_
    refine VD.skip ?_
    refine VD.nw [] ?_
    refine VD.skip ?_
    refine VD.skip ?_
    refine VD.skip ?_
    refine VD.c (.pickF rfl rfl) ?_
    refine VD.call rfl rfl (VF.call (gWhen_ok )) ?_
    refine VD.new (.lit [spanE (l[j]), whenE false (11 : Int)] el164) ?_
    refine VD.callO rfl rfl (VF.call (gFirst_ok (by first | assumption | omega | simp))) ?_
    refine VD.nw [33] ?_
    refine VD.c (.assign rfl) ?_
    refine VD.go (VC.seq (VC.text ?_))
    refine VO.c (.move rfl) ?_
    refine VO.c (.neq) ?_
    refine VO.go ?_
    refine VC.condD rfl (fun c7 => ?_) (fun c7 => ?_)
    · refine VC.seq (VC.text ?_)
      refine VO.c (.move rfl) ?_
      refine VO.c (.assign rfl) ?_
      refine VO.go ?_
      refine VC.ret ?_
      exact VEnd.one rfl evT (pvI (by rw [hw, firstR_step (by omega), hv, if_neg c7]))
    refine VC.skip (VC.text ?_)
    refine VO.c (.add rfl rfl (by omega)) ?_
    refine VO.c (.move rfl) ?_
    refine VO.nil ?_
    refine ⟨_, [(0, .v y22 l), (9, .v y22 l), (10, I ((l.length : Nat) : Int)), (11, I (((j + 1) : Nat) : Int))], ?_, ⟨rfl, rfl, rfl, rfl, trivial⟩, (j + 1), rfl, rfl, rfl, (by omega), (by rw [hw, firstR_step (by omega), hv, if_pos (Classical.not_not.1 c7)])⟩
    omega
  refine VC.exit (VC.seq (VC.text ?_))
  refine VO.c (.assign rfl) ?_
  refine VO.go ?_
  refine VC.ret ?_
  exact VEnd.one rfl evT (pvI (by rw [hw, firstR_end (by omega)]))
theorem rSameSp_ok {a : List (Int × Int)} {b : List (Int × Int)} (ha : a.length < 1000000) (hb : b.length < 1000000) : VF Tryz.prog OA 27 [.v y22 a, .v y22 b] (B (decide (a = b))) := by
  refine VF.enter Tryz.func27 rfl (fun _ _ => rfl) rfl ?_
  show VC _ _ _ _ _ [(0, .v y22 a), (1, .v y22 b)] [] _
  refine VC.seq (VC.text ?_)
  refine VO.c (.assign rfl) ?_
  refine VO.go (VC.seq (VC.seq (VC.text ?_)))
  refine VO.c (.move rfl) ?_
  refine VO.r (.len el22) ?_
  refine VO.c (.move rfl) ?_
  refine VO.r (.len el22) ?_
  refine VO.c (.neq) ?_
  refine VO.go ?_
  refine VC.condD rfl (fun c1 => ?_) (fun c1 => ?_)
  · refine VC.seq (VC.text ?_)
    refine VO.c (.assign rfl) ?_
    refine VO.go ?_
    refine VC.ret ?_
    exact VEnd.one rfl evT (pvE (by exact (decide_eq_false (fun e => c1 (by rw [e]))).symm))
  refine VC.skip (VC.seq (VC.seq (VC.text ?_)))
  refine VO.c (.assign rfl) ?_
  refine VO.go (VC.block ?_)
  refine VC.keep [(0, .v y22 a), (1, .v y22 b), (5, I ((0 : Nat) : Int))] ⟨rfl, rfl, rfl, trivial⟩ ?_
  refine VC.loop (I := fun kk ff ss => ∃ (j : Nat), kk = a.length - j ∧ ff = [(0, .v y22 a), (1, .v y22 b), (5, I ((j : Nat) : Int))] ∧ ss = [] ∧ (j ≤ a.length) ∧ (a.length = b.length) ∧ (∀ k (h : k < a.length) (h2 : k < b.length), k < j → a[k] = b[k])) ?_ _ _ _ ⟨0, rfl, rfl, rfl, Nat.zero_le _, (by omega), (by exact fun k _ _ h => absurd h (by omega))⟩
  rintro kk ff ss ⟨j, hk0, rfl, rfl, hj, hl, hi⟩
  refine VC.seq (VC.seq (VC.text ?_))
  refine VO.c (.move rfl) ?_
  refine VO.c (.move rfl) ?_
  refine VO.r (.len el22) ?_
  refine VO.c (.lss) ?_
  refine VO.go ?_
  refine VC.condD rfl (fun c4 => ?_) (fun c4 => ?_)
  · refine VC.skip (VC.seq (VC.block (VC.seq (VC.drawn ?_))))
    refine VD.c (.move rfl) ?_
    refine VD.c (.move rfl) ?_
    refine VD.c (.ix (j := j) rfl rfl el22 (by omega)) ?_
    refine VD.r [] (.ld vt39) (.inl rfl) ?_
    refine VD.c (.move rfl) ?_
    refine VD.c (.move rfl) ?_
    refine VD.nw [] ?_
    refine VD.c (.ix (j := j) rfl rfl el22 (by omega)) ?_
    refine VD.r [] (.ld vt39) (.inl rfl) ?_
    refine VD.c (.eneq eq39) ?_
    refine VD.go ?_
    refine VC.condD rfl (fun c6 => ?_) (fun c6 => ?_)
    · refine VC.seq (VC.text ?_)
      refine VO.c (.assign rfl) ?_
      refine VO.go ?_
      refine VC.ret ?_
      exact VEnd.one rfl evT (pvE (by exact (decide_eq_false (fun h => c6 (List.getElem_of_eq h _))).symm))
    refine VC.skip (VC.text ?_)
    refine VO.c (.move rfl) ?_
    refine VO.c (.add rfl rfl (by omega)) ?_
    refine VO.c (.assign rfl) ?_
    refine VO.nil ?_
    refine ⟨_, [(0, .v y22 a), (1, .v y22 b), (5, I (((j + 1) : Nat) : Int))], ?_, ⟨rfl, rfl, rfl, trivial⟩, (j + 1), rfl, rfl, rfl, (by omega), (by omega), (by exact fun k h h2 h3 => if e : k = j then (by subst e; exact Classical.not_not.1 c6) else hi k h h2 (by omega))⟩
    omega
  refine VC.exit (VC.seq (VC.text ?_))
  refine VO.c (.assign rfl) ?_
  refine VO.go ?_
  refine VC.ret ?_
  exact VEnd.one rfl evT (pvE (by exact (decide_eq_true (List.ext_getElem hl (fun k h h2 => hi k h h2 (by omega)))).symm))
theorem edge_take {l : List (Int × Int)} {d : Int} {i : Nat} (h : i < l.length) : Sp.edgeE (l.take (i + 1)) d = Sp.edgeE (l.take i) d ++ [(l[i].1, d), (l[i].2, -d)] := by
  unfold Sp.edgeE
  rw [List.take_succ_eq_append_getElem h, List.flatMap_append] <;> rfl
theorem edge_len {d : Int} : ∀ {l : List (Int × Int)}, (Sp.edgeE l d).length = 2 * l.length
  | [] => rfl
  | s :: l => by
    have e : Sp.edgeE (s :: l) d = (s.1, d) :: (s.2, -d) :: Sp.edgeE l d := rfl
    rw [e, List.length_cons, List.length_cons, edge_len, List.length_cons]; omega
theorem gEdges_ok {l : List (Int × Int)} {d : Int} (hl : l.length < 100000) (hd : d = 1 ∨ d = 2) : VF Tryz.prog OA 130 [.v y22 l, I d] (.v y196 (Sp.edgeE l d)) := by
  refine VF.enter Tryz.func130 rfl (fun _ _ => rfl) rfl ?_
  show VC _ _ _ _ _ [(0, .v y22 l), (1, I d)] [] _
  refine VC.seq (VC.text ?_)
  refine VO.c (.assign rfl) ?_
  refine VO.go (VC.seq (VC.text ?_))
  refine VO.c (.assign rfl) ?_
  refine VO.go (VC.seq (VC.seq (VC.text ?_)))
  refine VO.c (.move rfl) ?_
  refine VO.r (.len el22) ?_
  refine VO.c (.move rfl) ?_
  refine VO.go (VC.block ?_)
  refine VC.cell0 199 y199 ?_
  refine VC.keep [(1, I d), (5, .raw (.slice none 0 0)), (8, .v y22 l), (9, I ((l.length : Nat) : Int)), (10, I ((0 : Nat) : Int))] ⟨rfl, rfl, rfl, rfl, rfl, trivial⟩ ?_
  refine VC.loop (I := fun kk ff ss => ∃ (i : Nat) (out : Value), kk = l.length - i ∧ ff = [(1, I d), (5, .raw out), (8, .v y22 l), (9, I ((l.length : Nat) : Int)), (10, I ((i : Nat) : Int))] ∧ ss = [(out, .row 199 y199 (Sp.edgeE (l.take i) d))] ∧ (i ≤ l.length)) ?_ _ _ _ ⟨0, (.slice none 0 0), rfl, rfl, rfl, Nat.zero_le _⟩
  rintro kk ff ss ⟨i, out, hk0, rfl, rfl, hi⟩
  refine VC.seq (VC.text ?_)
  refine VO.c (.lss) ?_
  refine VO.go (VC.seq ?_)
  refine VC.condD rfl (fun c3 => ?_) (fun c3 => ?_)
  · refine VC.skip (VC.seq (VC.block (VC.seq (VC.text ?_))))
    refine VO.c (.ix (j := i) rfl rfl el22 (by omega)) ?_
    refine VO.r (.ld vt39) ?_
    refine VO.cell (.alloc zt39) ?_
    intro ww2
    refine VO.setV (cs' := [I ((l[i]).1), I ((l[i]).2)]) vt39 .v ?_
    refine VO.shut [(7, .p y39 (l[i]))] (.cons rfl (.var m0 .refl) .nil) ?_
    refine VO.go (VC.text ?_)
    refine VO.c (.move rfl) ?_
    refine VO.c (.fa (.l .o)) ?_
    refine VO.r (.ld vt3) ?_
    refine VO.c (.move rfl) ?_
    refine VO.c (.build ((l[i]).1, d) bt199) ?_
    refine VO.c (.fa (.r .o)) ?_
    refine VO.r (.ld vt3) ?_
    refine VO.c (.move rfl) ?_
    refine VO.c (.neg rfl (by omega)) ?_
    refine VO.c (.build ((l[i]).2, (-d)) bt199) ?_
    refine VO.new (.lit [((l[i]).1, d), ((l[i]).2, (-d))] el196) ?_
    refine VO.app rfl rfl el196 el196 (by have := edge_len (l := l.take i) (d := d); have := List.length_take_le i l; simp only [List.length_take, List.length_cons, List.length_nil] at *; omega) ?_
    intro ww3
    refine VO.c (.assign rfl) ?_
    refine VO.nil (VC.text ?_)
    refine VO.c (.add rfl rfl (by omega)) ?_
    refine VO.c (.move rfl) ?_
    refine VO.nil ?_
    refine ⟨_, [(1, I d), (5, .raw ww3), (8, .v y22 l), (9, I ((l.length : Nat) : Int)), (10, I (((i + 1) : Nat) : Int))], ?_, ⟨rfl, rfl, rfl, rfl, rfl, trivial⟩, (i + 1), ww3, rfl, rfl, (by rw [edge_take (show i < l.length by omega)]), (by omega)⟩
    omega
  refine VC.exit (VC.seq (VC.text ?_))
  refine VO.c (.move rfl) ?_
  refine VO.c (.assign rfl) ?_
  refine VO.go ?_
  refine VC.ret ?_
  exact VEnd.one rfl (evC (.row m0)) (pvE (by rw [List.take_of_length_le (by omega)]))
end Go.Proofs
namespace Go.Fs
variable {P : Program} {fl : VL} {σ : Sto} {T T' : TypeId} {x y : Operand}
def and3 (p q : Int) : Int := if q = 1 then p % 2 else 2 * (p / 2)
end Go.Fs
namespace Go.Proofs
open Go.Fs
set_option linter.unusedVariables false
set_option maxHeartbeats 2000000

def orE (x n : Int) : Int := if and3 x n = 0 then x + n else x
def markF (m : List Int) (p : Int → Bool) (n : Int) : List Int := (List.range m.length).map fun (t : Nat) => if p (t : Int) = true then orE (m.getD t 0) n else m.getD t 0
theorem markF_len {m : List Int} {p : Int → Bool} {n : Int} : (markF m p n).length = m.length := by simp [markF]
theorem markF_at {m : List Int} {p : Int → Bool} {n : Int} {t : Nat} (h : t < m.length) : (markF m p n)[t]'(by rw [markF_len]; exact h) = if p (t : Int) = true then orE m[t] n else m[t] := by
  unfold markF
  rw [List.getElem_map, List.getElem_range, getD_at h]
theorem orE_two {x n : Int} (hx : 0 ≤ x ∧ x ≤ 3) (hn : n = 1 ∨ n = 2) : orE (orE x n) n = orE x n ∧ 0 ≤ orE x n ∧ orE x n ≤ 3 := by
  have h : x = 0 ∨ x = 1 ∨ x = 2 ∨ x = 3 := by omega
  rcases h with rfl | rfl | rfl | rfl <;> rcases hn with rfl | rfl <;> decide
theorem mark_rng {m : List Int} {p : Int → Bool} {n : Int} (hr : ∀ x ∈ m, 0 ≤ x ∧ x ≤ 3) (hn : n = 1 ∨ n = 2) : ∀ x ∈ markF m p n, 0 ≤ x ∧ x ≤ 3 := fun x hx => by
  obtain ⟨i, hi, rfl⟩ := List.mem_iff_getElem.1 hx
  have h3 : i < m.length := by rw [markF_len] at hi; exact hi
  rw [markF_at h3]
  have h4 := hr _ (List.getElem_mem h3)
  split
  · exact (orE_two h4 hn).2
  exact h4
end Go.Proofs
namespace Go.Proofs
open Go.Fs
set_option linter.unusedVariables false
set_option maxHeartbeats 2000000
theorem bt39 : BldT Tryz.prog 39 y39 [(0, 1), (1, 1)] := bldT_of zt39 rfl (by kernel_rfl)
@[irreducible] def zeros : List Int := List.replicate 100001 0
theorem zeros_def : zeros = List.replicate 100001 0 := by unfold zeros; rfl
theorem mT_ex : ∃ n : Nat, n = 100001 := ⟨100001, rfl⟩
noncomputable def mT : Nat := Classical.choose mT_ex
theorem mT_eq : mT = 100001 := Classical.choose_spec mT_ex
theorem zeros_len : zeros.length = 100001 := by rw [zeros_def]; exact List.length_replicate
theorem scan_len {p : Int → Bool} : ∀ {t : Nat}, (Sp.scanE p t).2.length ≤ t
  | 0 => Nat.le_refl _
  | t + 1 => by
    have ih := scan_len (p := p) (t := t)
    rw [Sp.scanE]
    unfold Sp.scan1
    split
    · show (Sp.scanE p t).2.length ≤ _
      omega
    split
    · show ((Sp.scanE p t).2 ++ _).length ≤ _
      rw [List.length_append]
      simp; omega
    omega
end Go.Proofs
namespace Go.Fs
variable {P : Program} {fl : VL} {σ : Sto} {T : TypeId} {x y : Operand} {τ : Ty}
def sel4 {α : Type} (d : α × α × α × α) (z : Int) : α := if z = 0 then d.1 else if z = 1 then d.2.1 else if z = 2 then d.2.2.1 else d.2.2.2
theorem CalmV.ixP4 {z : Int} {dx : τ.den × τ.den × τ.den × τ.den} (hx : evV fl x = some (.p (.pair τ (.pair τ (.pair τ τ))) dx)) (hy : evV fl y = some (.v (.int .i64) z)) (h0 : 0 ≤ z) (h4 : z < 4)
    (b0 : aofB P T 0 0 τ = true) (b1 : aofB P T 1 τ.size τ = true) (b2 : aofB P T 2 (τ.size + τ.size) τ = true) (b3 : aofB P T 3 (τ.size + (τ.size + τ.size)) τ = true) : CalmV P fl σ (.indexAddr T x y) (.p τ (sel4 dx z)) := by
  have h : z = ((0 : Nat) : Int) ∨ z = ((1 : Nat) : Int) ∨ z = ((2 : Nat) : Int) ∨ z = ((3 : Nat) : Int) := by omega
  rcases h with rfl | rfl | rfl | rfl
  · exact .ixP 0 (dy := dx.1) (.l .o) b0 hx hy
  · exact .ixP 1 (dy := dx.2.1) (.r (.l .o)) b1 hx hy
  · exact .ixP 2 (dy := dx.2.2.1) (.r (.r (.l .o))) b2 hx hy
  exact .ixP 3 (dy := dx.2.2.2) (.r (.r (.r .o))) b3 hx hy
end Go.Fs
namespace Go.Proofs
open Go.Fs
set_option linter.unusedVariables false
set_option maxHeartbeats 2000000
abbrev y216 : Ty := (.sl (.sl (.pair (.int .i64) (.int .i64))))
theorem vt196 : ValT Tryz.prog 196 y196 := valT_of (by kernel_rfl)
theorem el216 : ElT Tryz.prog 216 196 y196 := elT_of (by kernel_rfl)
theorem flat_le {α : Type} {l : List (List α)} (j : Nat) : (l.take j).flatten.length ≤ l.flatten.length := by
  have : l.flatten = (l.take j).flatten ++ (l.drop j).flatten := by rw [← List.flatten_append, List.take_append_drop]
  rw [this, List.length_append]; omega
theorem flat_succ {α : Type} {l : List (List α)} {j : Nat} (hj : j < l.length) : (l.take (j + 1)).flatten = (l.take j).flatten ++ l[j] := by
  rw [List.take_succ_eq_append_getElem hj, List.flatten_append]; simp
theorem zGrowE_ok {n : Nat} (h0 : 0 < n) (h1 : n ≤ 1000000) : VFG Tryz.prog OA 153 [nilV, I ((n : Nat) : Int)] [] (fun r g => ∃ w, r = .raw w ∧ g = [(w, .cap 199 n y199 [])]) := by
  refine VFG.enter Tryz.func153 rfl (fun _ _ => rfl) rfl ?_
  show VC _ _ _ _ _ [(0, nilV), (1, I ((n : Nat) : Int))] [] _
  refine VC.seq (VC.text ?_)
  refine VO.c (.assign rfl) ?_
  refine VO.go (VC.seq (VC.seq (VC.text ?_)))
  refine VO.c (.move rfl) ?_
  refine VO.c (.lss) ?_
  refine VO.go ?_
  refine VC.condD rfl (fun c1 => ?_) (fun c1 => ?_)
  · exact absurd c1 (by omega)
  refine VC.skip (VC.seq (VC.seq (VC.text ?_)))
  refine VO.c (.move rfl) ?_
  refine VO.c (.move rfl) ?_
  refine VO.r (.cap0 el196) ?_
  refine VO.c (.move rfl) ?_
  refine VO.r (.len0 el196) ?_
  refine VO.c (.sub rfl rfl (by decide)) ?_
  refine VO.c (.sub rfl rfl (by omega)) ?_
  refine VO.c (.assign rfl) ?_
  refine VO.go (VC.seq (VC.text ?_))
  refine VO.c (.move rfl) ?_
  refine VO.c (.gtr) ?_
  refine VO.go ?_
  refine VC.condD rfl (fun c4 => ?_) (fun c4 => ?_)
  · refine VC.text ?_
    refine VO.c (.move rfl) ?_
    refine VO.c (.move rfl) ?_
    refine VO.r (.cap0 el196) ?_
    refine VO.r (.nil0 el196 rfl rfl) ?_
    refine VO.c (.move rfl) ?_
    refine VO.grow (k := n) rfl (congrArg (fun z : Int => some (PV.v (.int .i64) z)) (show (((n : Nat) : Int) - (((0 : Nat) : Int) - ((0 : Nat) : Int))) = ((n : Nat) : Int) by omega)) el196 (by kernel_rfl) (by omega) (by omega) ?_
    intro bb1
    refine VO.c (.move rfl) ?_
    refine VO.r (.len0 el196) ?_
    refine VO.r (.cut0 el196 rfl rfl) ?_
    refine VO.c (.assign rfl) ?_
    refine VO.go (VC.seq (VC.text ?_))
    refine VO.c (.move rfl) ?_
    refine VO.c (.assign rfl) ?_
    refine VO.go ?_
    refine VC.ret ?_
    exact VEndG.cap rfl evT m0 ⟨(.slice (some ⟨bb1, 0, none⟩) 0 0), rfl, (by rfl)⟩
  exact absurd (by omega) c4
theorem zConcatE1_ok {l : List (List (Int × Int))} (hl : l.length < 100000) (h0 : 0 < l.flatten.length) (h1 : l.flatten.length ≤ 1000000) : VFG Tryz.prog OA 129 [.v y216 l] [] (fun r g => ∃ w, r = .raw w ∧ g = [(w, .row 199 y199 l.flatten)]) := by
  refine VFG.enter Tryz.func129 rfl (fun _ _ => rfl) rfl ?_
  show VC _ _ _ _ _ [(0, .v y216 l)] [] _
  refine VC.seq (VC.text ?_)
  refine VO.c (.assign rfl) ?_
  refine VO.go (VC.seq (VC.text ?_))
  refine VO.c (.assign rfl) ?_
  refine VO.go (VC.seq (VC.seq (VC.text ?_)))
  refine VO.c (.move rfl) ?_
  refine VO.r (.len el216) ?_
  refine VO.c (.move rfl) ?_
  refine VO.go (VC.block ?_)
  refine VC.keep [(0, .v y216 l), (3, I (((l.take 0).flatten.length : Nat) : Int)), (9, .v y216 l), (10, I ((l.length : Nat) : Int)), (11, I ((0 : Nat) : Int))] ⟨rfl, slI rfl (by rfl), rfl, rfl, rfl, trivial⟩ ?_
  refine VC.loop (I := fun kk ff ss => ∃ (j : Nat), kk = l.length - j ∧ ff = [(0, .v y216 l), (3, I (((l.take j).flatten.length : Nat) : Int)), (9, .v y216 l), (10, I ((l.length : Nat) : Int)), (11, I ((j : Nat) : Int))] ∧ ss = [] ∧ (j ≤ l.length)) ?_ _ _ _ ⟨0, rfl, rfl, rfl, Nat.zero_le _⟩
  rintro kk ff ss ⟨j, hk0, rfl, rfl, hj⟩
  refine VC.seq (VC.text ?_)
  refine VO.c (.lss) ?_
  refine VO.go (VC.seq ?_)
  refine VC.condD rfl (fun c3 => ?_) (fun c3 => ?_)
  · refine VC.skip (VC.seq (VC.block (VC.seq (VC.text ?_))))
    refine VO.c (.ix (j := j) rfl rfl el216 (by omega)) ?_
    refine VO.r (.ld vt196) ?_
    refine VO.c (.assign rfl) ?_
    refine VO.go (VC.seq (VC.text ?_))
    have hs := flat_le (l := l) (j + 1)
    rw [flat_succ (by omega), List.length_append] at hs
    refine VO.c (.move rfl) ?_
    refine VO.c (.move rfl) ?_
    refine VO.r (.len el196) ?_
    refine VO.c (.add rfl rfl (by omega)) ?_
    refine VO.c (.assign rfl) ?_
    refine VO.go (VC.seq (VC.text ?_))
    refine VO.c (.move rfl) ?_
    refine VO.c (.lss) ?_
    refine VO.go ?_
    refine VC.condD rfl (fun c6 => ?_) (fun c6 => ?_)
    · exact absurd c6 (by omega)
    refine VC.skip (VC.text ?_)
    refine VO.c (.add rfl rfl (by omega)) ?_
    refine VO.c (.move rfl) ?_
    refine VO.nil ?_
    refine ⟨_, [(0, .v y216 l), (3, I (((l.take (j + 1)).flatten.length : Nat) : Int)), (9, .v y216 l), (10, I ((l.length : Nat) : Int)), (11, I (((j + 1) : Nat) : Int))], ?_, ⟨rfl, slI rfl (by rw [flat_succ (by omega), List.length_append] <;> rfl), rfl, rfl, rfl, trivial⟩, (j + 1), rfl, rfl, rfl, (by omega)⟩
    omega
  refine VC.exit (VC.seq (VC.text ?_))
  have hjl : l.take j = l := List.take_of_length_le (by omega)
  refine VO.c (.move rfl) ?_
  refine VO.callG [] rfl rfl rfl (VFG.call (zGrowE_ok (by rw [hjl]; exact h0) (by rw [hjl]; exact h1))) ?_
  rintro _ _ ⟨ww2, rfl, rfl⟩
  show VO _ _ _ _ _ _ [(ww2, .cap 199 ((l.take j).flatten.length) y199 [])] _
  refine VO.c (.assign rfl) ?_
  refine VO.go (VC.seq (VC.seq (VC.text ?_)))
  refine VO.c (.move rfl) ?_
  refine VO.r (.len el216) ?_
  refine VO.c (.move rfl) ?_
  refine VO.go (VC.block ?_)
  refine VC.keep [(6, .raw ww2), (25, .v y216 l), (26, I ((l.length : Nat) : Int)), (27, I ((0 : Nat) : Int))] ⟨rfl, rfl, rfl, rfl, trivial⟩ ?_
  refine VC.loop (I := fun kk ff ss => ∃ (i : Nat) (out : Value), kk = l.length - i ∧ ff = [(6, .raw out), (25, .v y216 l), (26, I ((l.length : Nat) : Int)), (27, I ((i : Nat) : Int))] ∧ ss = [(out, .cap 199 ((l.take j).flatten.length) y199 ((l.take i).flatten))] ∧ (i ≤ l.length)) ?_ _ _ _ ⟨0, ww2, rfl, rfl, rfl, Nat.zero_le _⟩
  rintro kk ff ss ⟨i, out, hk2, rfl, rfl, hi⟩
  refine VC.seq (VC.text ?_)
  refine VO.c (.lss) ?_
  refine VO.go (VC.seq ?_)
  refine VC.condD rfl (fun c11 => ?_) (fun c11 => ?_)
  · refine VC.skip (VC.seq (VC.block (VC.seq (VC.text ?_))))
    refine VO.c (.ix (j := i) rfl rfl el216 (by omega)) ?_
    refine VO.r (.ld vt196) ?_
    refine VO.c (.assign rfl) ?_
    refine VO.go (VC.text ?_)
    have hs := flat_le (l := l) (i + 1)
    rw [flat_succ (by omega), List.length_append] at hs
    refine VO.c (.move rfl) ?_
    refine VO.c (.move rfl) ?_
    refine VO.appC rfl rfl el196 el196 (by rw [hjl]; exact hs) (by rw [hjl]; exact h1) ?_
    intro ww3
    refine VO.c (.assign rfl) ?_
    refine VO.nil (VC.text ?_)
    refine VO.c (.add rfl rfl (by omega)) ?_
    refine VO.c (.move rfl) ?_
    refine VO.nil ?_
    refine ⟨_, [(6, .raw ww3), (25, .v y216 l), (26, I ((l.length : Nat) : Int)), (27, I (((i + 1) : Nat) : Int))], ?_, ⟨rfl, rfl, rfl, rfl, trivial⟩, (i + 1), ww3, rfl, rfl, (by rw [flat_succ (by omega)] <;> rfl), (by omega)⟩
    omega
  refine VC.exit (VC.seq ?_)
  refine VC.capRow (by rw [hjl, List.take_of_length_le (by omega)]) ?_
  refine VC.text ?_
  refine VO.c (.move rfl) ?_
  refine VO.c (.assign rfl) ?_
  refine VO.go ?_
  refine VC.ret ?_
  exact VEndG.row rfl evT ⟨out, rfl, (by rw [List.take_of_length_le (by omega)])⟩
theorem zGrowE0_ok {n : Nat} (h0 : n = 0) : VF Tryz.prog OA 153 [nilV, I ((n : Nat) : Int)] (nilV) := by
  refine VF.enter Tryz.func153 rfl (fun _ _ => rfl) rfl ?_
  show VC _ _ _ _ _ [(0, nilV), (1, I ((n : Nat) : Int))] [] _
  refine VC.seq (VC.text ?_)
  refine VO.c (.assign rfl) ?_
  refine VO.go (VC.seq (VC.seq (VC.text ?_)))
  refine VO.c (.move rfl) ?_
  refine VO.c (.lss) ?_
  refine VO.go ?_
  refine VC.condD rfl (fun c1 => ?_) (fun c1 => ?_)
  · exact absurd c1 (by omega)
  refine VC.skip (VC.seq (VC.seq (VC.text ?_)))
  refine VO.c (.move rfl) ?_
  refine VO.c (.move rfl) ?_
  refine VO.r (.cap0 el196) ?_
  refine VO.c (.move rfl) ?_
  refine VO.r (.len0 el196) ?_
  refine VO.c (.sub rfl rfl (by decide)) ?_
  refine VO.c (.sub rfl rfl (by omega)) ?_
  refine VO.c (.assign rfl) ?_
  refine VO.go (VC.seq (VC.text ?_))
  refine VO.c (.move rfl) ?_
  refine VO.c (.gtr) ?_
  refine VO.go ?_
  refine VC.condD rfl (fun c4 => ?_) (fun c4 => ?_)
  · exact absurd c4 (by omega)
  refine VC.skip (VC.seq (VC.text ?_))
  refine VO.c (.move rfl) ?_
  refine VO.c (.assign rfl) ?_
  refine VO.go ?_
  refine VC.ret ?_
  exact VEnd.one rfl evT rfl
theorem zConcatE0_ok {l : List (List (Int × Int))} (hl : l.length < 100000) (h0 : l.flatten.length = 0) : VFG Tryz.prog OA 129 [.v y216 l] [] (fun r g => ∃ w, r = .raw w ∧ g = [(w, .row 199 y199 l.flatten)]) := by
  refine VFG.enter Tryz.func129 rfl (fun _ _ => rfl) rfl ?_
  show VC _ _ _ _ _ [(0, .v y216 l)] [] _
  refine VC.seq (VC.text ?_)
  refine VO.c (.assign rfl) ?_
  refine VO.go (VC.seq (VC.text ?_))
  refine VO.c (.assign rfl) ?_
  refine VO.go (VC.seq (VC.seq (VC.text ?_)))
  refine VO.c (.move rfl) ?_
  refine VO.r (.len el216) ?_
  refine VO.c (.move rfl) ?_
  refine VO.go (VC.block ?_)
  refine VC.keep [(0, .v y216 l), (3, I (((l.take 0).flatten.length : Nat) : Int)), (9, .v y216 l), (10, I ((l.length : Nat) : Int)), (11, I ((0 : Nat) : Int))] ⟨rfl, slI rfl (by rfl), rfl, rfl, rfl, trivial⟩ ?_
  refine VC.loop (I := fun kk ff ss => ∃ (j : Nat), kk = l.length - j ∧ ff = [(0, .v y216 l), (3, I (((l.take j).flatten.length : Nat) : Int)), (9, .v y216 l), (10, I ((l.length : Nat) : Int)), (11, I ((j : Nat) : Int))] ∧ ss = [] ∧ (j ≤ l.length)) ?_ _ _ _ ⟨0, rfl, rfl, rfl, Nat.zero_le _⟩
  rintro kk ff ss ⟨j, hk0, rfl, rfl, hj⟩
  refine VC.seq (VC.text ?_)
  refine VO.c (.lss) ?_
  refine VO.go (VC.seq ?_)
  refine VC.condD rfl (fun c3 => ?_) (fun c3 => ?_)
  · refine VC.skip (VC.seq (VC.block (VC.seq (VC.text ?_))))
    refine VO.c (.ix (j := j) rfl rfl el216 (by omega)) ?_
    refine VO.r (.ld vt196) ?_
    refine VO.c (.assign rfl) ?_
    refine VO.go (VC.seq (VC.text ?_))
    have hs := flat_le (l := l) (j + 1)
    rw [flat_succ (by omega), List.length_append] at hs
    refine VO.c (.move rfl) ?_
    refine VO.c (.move rfl) ?_
    refine VO.r (.len el196) ?_
    refine VO.c (.add rfl rfl (by omega)) ?_
    refine VO.c (.assign rfl) ?_
    refine VO.go (VC.seq (VC.text ?_))
    refine VO.c (.move rfl) ?_
    refine VO.c (.lss) ?_
    refine VO.go ?_
    refine VC.condD rfl (fun c6 => ?_) (fun c6 => ?_)
    · exact absurd c6 (by omega)
    refine VC.skip (VC.text ?_)
    refine VO.c (.add rfl rfl (by omega)) ?_
    refine VO.c (.move rfl) ?_
    refine VO.nil ?_
    refine ⟨_, [(0, .v y216 l), (3, I (((l.take (j + 1)).flatten.length : Nat) : Int)), (9, .v y216 l), (10, I ((l.length : Nat) : Int)), (11, I (((j + 1) : Nat) : Int))], ?_, ⟨rfl, slI rfl (by rw [flat_succ (by omega), List.length_append] <;> rfl), rfl, rfl, rfl, trivial⟩, (j + 1), rfl, rfl, rfl, (by omega)⟩
    omega
  refine VC.exit (VC.seq (VC.text ?_))
  have hjl : l.take j = l := List.take_of_length_le (by omega)
  refine VO.c (.move rfl) ?_
  refine VO.call rfl rfl (VF.call (zGrowE0_ok (by rw [hjl]; exact h0))) ?_
  refine VO.c (.assign rfl) ?_
  refine VO.go (VC.seq (VC.seq (VC.text ?_)))
  refine VO.c (.move rfl) ?_
  refine VO.r (.len el216) ?_
  refine VO.c (.move rfl) ?_
  refine VO.go (VC.block ?_)
  refine VC.cell0 199 y199 ?_
  refine VC.keep [(6, .raw (.slice none 0 0)), (25, .v y216 l), (26, I ((l.length : Nat) : Int)), (27, I ((0 : Nat) : Int))] ⟨rfl, rfl, rfl, rfl, trivial⟩ ?_
  refine VC.loop (I := fun kk ff ss => ∃ (i : Nat) (out : Value), kk = l.length - i ∧ ff = [(6, .raw out), (25, .v y216 l), (26, I ((l.length : Nat) : Int)), (27, I ((i : Nat) : Int))] ∧ ss = [(out, .row 199 y199 ((l.take i).flatten))] ∧ (i ≤ l.length)) ?_ _ _ _ ⟨0, (.slice none 0 0), rfl, rfl, rfl, Nat.zero_le _⟩
  rintro kk ff ss ⟨i, out, hk2, rfl, rfl, hi⟩
  refine VC.seq (VC.text ?_)
  refine VO.c (.lss) ?_
  refine VO.go (VC.seq ?_)
  refine VC.condD rfl (fun c11 => ?_) (fun c11 => ?_)
  · refine VC.skip (VC.seq (VC.block (VC.seq (VC.text ?_))))
    refine VO.c (.ix (j := i) rfl rfl el216 (by omega)) ?_
    refine VO.r (.ld vt196) ?_
    refine VO.c (.assign rfl) ?_
    refine VO.go (VC.text ?_)
    have hs := flat_le (l := l) (i + 1)
    rw [flat_succ (by omega), List.length_append] at hs
    refine VO.c (.move rfl) ?_
    refine VO.c (.move rfl) ?_
    refine VO.app rfl rfl el196 el196 (by omega) ?_
    intro ww4
    refine VO.c (.assign rfl) ?_
    refine VO.nil (VC.text ?_)
    refine VO.c (.add rfl rfl (by omega)) ?_
    refine VO.c (.move rfl) ?_
    refine VO.nil ?_
    refine ⟨_, [(6, .raw ww4), (25, .v y216 l), (26, I ((l.length : Nat) : Int)), (27, I (((i + 1) : Nat) : Int))], ?_, ⟨rfl, rfl, rfl, rfl, trivial⟩, (i + 1), ww4, rfl, rfl, (by rw [flat_succ (by omega)] <;> rfl), (by omega)⟩
    omega
  refine VC.exit (VC.seq (VC.text ?_))
  refine VO.c (.move rfl) ?_
  refine VO.c (.assign rfl) ?_
  refine VO.go ?_
  refine VC.ret ?_
  exact VEndG.row rfl evT ⟨out, rfl, (by rw [List.take_of_length_le (by omega)])⟩
theorem zConcatE_ok {l : List (List (Int × Int))} (hl : l.length < 100000) (h1 : l.flatten.length ≤ 1000000) : VFG Tryz.prog OA 129 [.v y216 l] [] (fun r g => ∃ w, r = .raw w ∧ g = [(w, .row 199 y199 l.flatten)]) := by
  by_cases h : l.flatten.length = 0
  · exact zConcatE0_ok hl h
  exact zConcatE1_ok hl (Nat.pos_of_ne_zero h) h1
theorem ltE {x y : Int × Int} : Go.Proofs.ltOf cmpE x y = decide (x.1 < y.1) := by
  unfold Go.Proofs.ltOf cmpE Lib.compareInt
  by_cases h1 : x.1 < y.1
  · simp [h1]
  by_cases h2 : y.1 < x.1 <;> simp [h1, h2]
theorem swoE : Go.Sort.SWO (Go.Proofs.ltOf cmpE) where
  irrefl x := by rw [ltE]; simp
  trans x y z h1 h2 := by rw [ltE] at *; simp at *; omega
  ntrans x y z h1 h2 := by rw [ltE] at *; simp at *; omega
abbrev sortE (l : List (Int × Int)) : List (Int × Int) := Go.Fs.sortG (τ := .pair (.int .i64) (.int .i64)) cmpE l
theorem sortE_sorted (l : List (Int × Int)) : (sortE l).Pairwise fun a b => a.1 ≤ b.1 :=
  (Go.Fs.sortG_sorted (τ := .pair (.int .i64) (.int .i64)) swoE l).imp fun {a b} h => by rw [ltE] at h; simp at h; exact h
theorem sortE_perm (l : List (Int × Int)) : (sortE l).Perm l := Go.Fs.sortG_perm (τ := .pair (.int .i64) (.int .i64)) swoE l
theorem zSortE_ok {w_l : Value} {l : List (Int × Int)} (hl : l.length ≤ 1000000) : VFG Tryz.prog OA 131 [.raw w_l, .clo 132 [] []] [(w_l, .row 199 (.pair (.int .i64) (.int .i64)) l)] (fun r g => r = .tup [] ∧ g = [(w_l, .row 199 (.pair (.int .i64) (.int .i64)) (sortE l))]) := VFG.sortG (τ := .pair (.int .i64) (.int .i64)) rfl (by decide) swoE hl
end Go.Proofs
namespace Go.Proofs.Sp
theorem take_more {α : Type} {L : List α} {j k : Nat} (h1 : j ≤ k) (h2 : k < L.length) : (L.drop j).take (k + 1 - j) = (L.drop j).take (k - j) ++ [L[k]] := by
  have h3 : k - j < (L.drop j).length := by rw [List.length_drop]; omega
  rw [show k + 1 - j = (k - j) + 1 by omega, List.take_succ_eq_append_getElem h3, List.getElem_drop]
  simp only [show j + (k - j) = k by omega]
theorem split_at {α : Type} {L : List α} {j k : Nat} (h1 : j ≤ k) : L.drop j = (L.drop j).take (k - j) ++ L.drop k := by
  have := (List.take_append_drop (k - j) (L.drop j)).symm
  rw [List.drop_drop, show j + (k - j) = k by omega] at this
  exact this
structure EdgesOf (a b : List Sp) (L : List (Int × Int)) : Prop where
  ca : Canon 100000 a
  cb : Canon 100000 b
  perm : L.Perm (edgeE a 1 ++ edgeE b 2)
  sorted : L.Pairwise fun x y => x.1 ≤ y.1
theorem edge_delta {l : List Sp} {d : Int} {e : Int × Int} (h : e ∈ edgeE l d) : e.2 = d ∨ e.2 = -d := by
  obtain ⟨s, hs, he⟩ := List.mem_flatMap.1 h
  simp only [List.mem_cons, List.not_mem_nil, or_false] at he
  rcases he with rfl | rfl
  · exact .inl rfl
  exact .inr rfl
theorem EdgesOf.bnd {a b : List Sp} {L : List (Int × Int)} (E : EdgesOf a b L) : ∀ e ∈ L, 0 ≤ e.1 ∧ e.1 ≤ 100000 ∧ -2 ≤ e.2 ∧ e.2 ≤ 2 := fun e he => by
  rcases List.mem_append.1 (E.perm.subset he) with h | h
  · obtain ⟨s, hs, h1⟩ := edge_mem h
    have h2 := E.ca.1 s hs
    have h3 := edge_delta h
    omega
  obtain ⟨s, hs, h1⟩ := edge_mem h
  have h2 := E.cb.1 s hs
  have h3 := edge_delta h
  omega
theorem EdgesOf.at_drop {a b : List Sp} {L : List (Int × Int)} (E : EdgesOf a b L) {k : Nat} (h : 0 < (L.drop k).length) : -2 ≤ (L.drop k)[0].2 ∧ (L.drop k)[0].2 ≤ 2 := by
  have := E.bnd _ (List.mem_of_mem_drop (List.getElem_mem h))
  omega
theorem mark_rng {a b : List Sp} {t : Int} : 0 ≤ markE a b t ∧ markE a b t < 4 := by
  unfold markE
  split <;> split <;> omega
theorem EdgesOf.step {a b : List Sp} {L : List (Int × Int)} {ch : Int → Bool} {st fr su at_ : Int} {o : List Sp} {v j k : Nat} (E : EdgesOf a b L) (I : CombI ch L (L.drop j) st fr o v) (h0 : ch 0 = false) (hd : 0 < (L.drop j).length) (hat : (L.drop j)[0].1 = at_)
    (hk : j ≤ k ∧ k ≤ L.length) (hg : ∀ e ∈ (L.drop j).take (k - j), e.1 = at_) (hc : ¬ (0 : Int) < ((L.drop k).length : Nat) ∨ ¬ ((L.drop k).getD 0 (0, 0)).1 = at_) (hsu : su = st + totE ((L.drop j).take (k - j))) :
    j < k ∧ CombI ch L (L.drop k) su (if ch st = false ∧ ch su = true then at_ else fr) (if ch st = true ∧ ch su = false then o ++ [(fr, at_)] else o) (at_.toNat + 1) ∧ 0 ≤ su ∧ su < 4 ∧ 0 ≤ at_ ∧ at_ ≤ 100000 := by
  have hba := E.bnd _ (List.mem_of_mem_drop (List.getElem_mem hd))
  rw [hat] at hba
  have hjk : j < k := by
    rcases Nat.lt_or_ge j k with h | h
    · exact h
    obtain rfl : j = k := by omega
    rcases hc with hc | hc
    · omega
    rw [List.getD_eq_getElem?_getD, List.getElem?_eq_getElem hd] at hc
    exact absurd hat hc
  have ha : ((at_.toNat : Nat) : Int) = at_ := by omega
  have hs := split_at (L := L) (j := j) (k := k) hk.1
  have hjl : j < L.length := by rw [List.length_drop] at hd; omega
  have hne : (L.drop j).take (k - j) ≠ [] := fun e => by
    have : ((L.drop j).take (k - j)).length = 0 := by rw [e]; rfl
    rw [List.length_take, List.length_drop] at this
    omega
  have hl : ∀ e ∈ L.drop k, at_ < e.1 := fun e he => by
    have hkl : k < L.length := by
      rcases Nat.lt_or_ge k L.length with h | h
      · exact h
      rw [List.drop_eq_nil_of_le h] at he; cases he
    have hc : ¬ L[k].1 = at_ := by
      rcases hc with hc | hc
      · rw [List.length_drop] at hc; omega
      rw [List.getD_eq_getElem?_getD, List.getElem?_drop, Nat.add_zero, List.getElem?_eq_getElem hkl] at hc
      exact hc
    have h1 : L[j].1 ≤ L[k].1 := List.pairwise_iff_getElem.1 E.sorted j k hjl hkl hjk
    have h2 : L[j].1 = at_ := by rw [← hat, List.getElem_drop]; rfl
    have h3 : L[k].1 ≤ e.1 := by
      obtain ⟨i, hi, rfl⟩ := List.mem_iff_getElem.1 he
      rw [List.getElem_drop]
      rw [List.length_drop] at hi
      rcases Nat.eq_zero_or_pos i with h | h
      · subst h; exact Int.le_refl _
      exact List.pairwise_iff_getElem.1 E.sorted k (k + i) hkl (by omega) (by omega)
    omega
  have I' := CombI.step (g := (L.drop j).take (k - j)) (l := L.drop k) (a := at_.toNat) (hs ▸ I) h0 (fun e he => (E.bnd e he).1) (fun e he => by rw [ha]; exact hg e he) hne (fun e he => by rw [ha]; exact hl e he)
  rw [← hsu, ha] at I'
  have hsu2 : su = markE a b (((at_.toNat + 1 : Nat) : Int) - 1) := by rw [I'.state]; exact edges_mark E.ca E.cb E.perm _
  have hm := mark_rng (a := a) (b := b) (t := ((at_.toNat + 1 : Nat) : Int) - 1)
  exact ⟨hjk, I', by omega, by omega, hba.1, hba.2.1⟩
theorem EdgesOf.last {a b : List Sp} {L : List (Int × Int)} {ch : Int → Bool} {st fr : Int} {o : List Sp} {v j n : Nat} (E : EdgesOf a b L) (I : CombI ch L (L.drop j) st fr o v) (h0 : ch 0 = false) (hj : L.length ≤ j) (hn : v ≤ n) : o = (scanE (fun t => ch (markE a b t)) n).2 := by
  rw [List.drop_eq_nil_of_le hj] at I
  have h := I.last h0 (fun e he => (E.bnd e he).1) hn
  have e : pE ch L = fun t => ch (markE a b t) := funext fun t => by unfold pE; rw [edges_mark E.ca E.cb E.perm]
  rw [e] at h
  exact h
end Go.Proofs.Sp
namespace Go.Proofs
open Go.Fs
set_option linter.unusedVariables false
set_option maxHeartbeats 2000000
abbrev y133 : Ty := (.pair .bool (.pair .bool (.pair .bool .bool)))
theorem vt4 : ValT Tryz.prog 4 .bool := valT_of (by kernel_rfl)
theorem firstE_zero {l : List Int} : firstE l = 0 ↔ ∀ x ∈ l, x = 0 := by
  induction l with
  | nil => exact ⟨fun _ x hx => (by cases hx), fun _ => rfl⟩
  | cons y l ih =>
    rw [firstE]
    by_cases h : y = 0
    · rw [if_pos h, ih]
      exact ⟨fun h2 x hx => (by rcases List.mem_cons.1 hx with rfl | hx; exact h; exact h2 x hx), fun h2 x hx => h2 x (List.mem_cons_of_mem _ hx)⟩
    rw [if_neg h]
    exact ⟨fun h2 => absurd h2 h, fun h2 => h2 y List.mem_cons_self⟩
theorem firstR_zero {f : Nat → Int} {n : Nat} (h : firstR f 0 n = 0) {i : Nat} (hi : i < n) : f i = 0 :=
  firstE_zero.1 h _ (List.mem_map.2 ⟨i, by rw [List.mem_range'_1]; omega, rfl⟩)
theorem spanE_zero {p : Int × Int} : spanE p = 0 ↔ 0 ≤ p.1 ∧ p.1 < p.2 ∧ p.2 ≤ 100000 := by
  unfold spanE
  split
  · rename_i h
    exact ⟨fun h2 => absurd h2 (by decide), fun h2 => by omega⟩
  exact ⟨fun _ => by omega, fun _ => rfl⟩
theorem whenE_zero {c : Bool} {e : Int} (he : e ≠ 0) : whenE c e = 0 ↔ c = false := by
  cases c
  · exact ⟨fun _ => rfl, fun _ => rfl⟩
  exact ⟨fun h => absurd h he, fun h => by cases h⟩
theorem spans_canon {l : List (Int × Int)} (h : spansE l = 0) : Sp.Canon 100000 l ∧ l.length ≤ 2048 := by
  unfold spansE at h
  split at h
  · exact absurd h (by decide)
  rename_i hn
  have hz : ∀ j, j < l.length → spanAt l j = 0 := fun j hj => firstR_zero h hj
  have hz1 : ∀ j (hj : j < l.length), 0 ≤ l[j].1 ∧ l[j].1 < l[j].2 ∧ l[j].2 ≤ 100000 := fun j hj => by
    have := firstE_zero.1 (hz j hj) _ List.mem_cons_self
    rw [spX_eq hj] at this
    exact spanE_zero.1 this
  refine ⟨Sp.canon_of (fun s hs => ?_) fun j hj h0 => ?_, by omega⟩
  · obtain ⟨j, hj, rfl⟩ := List.mem_iff_getElem.1 hs
    exact hz1 j hj
  have h1 := firstE_zero.1 (hz j hj) _ (List.mem_cons_of_mem _ List.mem_cons_self)
  have h2 := (whenE_zero (by decide)).1 h1
  rw [spX_eq hj, spX_eq (show j - 1 < l.length by omega), decide_eq_true (show (0 : Int) < (j : Int) by omega), Bool.true_and, decide_eq_false_iff_not] at h2
  omega
def badE (a b : List (Int × Int)) : Int := firstE [spansE a, spansE b]
theorem badE_zero {a b : List (Int × Int)} : badE a b = 0 ↔ spansE a = 0 ∧ spansE b = 0 := by
  unfold badE
  rw [firstE_zero]; simp
noncomputable def combE (ch : Bool × Bool × Bool × Bool) (a b : List (Int × Int)) : List (Int × Int) := if badE a b = 0 then (Sp.scanE (fun t => sel4 ch (Sp.markE a b t)) mT).2 else []
theorem combE_of {ch : Bool × Bool × Bool × Bool} {a b : List (Int × Int)} (h : badE a b = 0) : combE ch a b = (Sp.scanE (fun t => sel4 ch (Sp.markE a b t)) mT).2 := if_pos h
theorem edges_of {a b : List (Int × Int)} (h : badE a b = 0) : Sp.EdgesOf a b (sortE [Sp.edgeE a 1, Sp.edgeE b 2].flatten) where
  ca := (spans_canon (badE_zero.1 h).1).1
  cb := (spans_canon (badE_zero.1 h).2).1
  perm := (sortE_perm _).trans (by simp)
  sorted := sortE_sorted _
theorem edges_len {a b : List (Int × Int)} : (sortE [Sp.edgeE a 1, Sp.edgeE b 2].flatten).length = 2 * a.length + 2 * b.length := by
  rw [(sortE_perm _).length_eq]
  simp [edge_len]
theorem not_and2 {b c : Bool} (h : b = true ∨ c = false) : ¬ (b = false ∧ c = true) := fun h2 => by
  rcases h with h | h
  · rw [h] at h2; exact absurd h2.1 (by decide)
  rw [h] at h2; exact absurd h2.2 (by decide)
theorem not_and3 {b c : Bool} (h : b = false ∨ c = true) : ¬ (b = true ∧ c = false) := fun h2 => by
  rcases h with h | h
  · rw [h] at h2; exact absurd h2.1 (by decide)
  rw [h] at h2; exact absurd h2.2 (by decide)
theorem gComb_ok {a : List (Int × Int)} {b : List (Int × Int)} {ch : Bool × Bool × Bool × Bool} (ha : a.length < 1000000) (hb : b.length < 1000000) (hs : badE a b = 0 → a.length + b.length ≤ 1000) (h0 : ch.1 = false) : VF Tryz.prog OA 81 [.v y22 a, .v y22 b, .v y133 ch] (.tup [.v y22 (combE ch a b), I (badE a b)]) := by
  refine VF.enter Tryz.func81 rfl (fun _ _ => rfl) rfl ?_
  show VC _ _ _ _ _ [(0, .v y22 a), (1, .v y22 b), (2, .v y133 ch)] [] _
  refine VC.seq (VC.text ?_)
  refine VO.new (.box) ?_
  refine VO.c (.assign rfl) ?_
  refine VO.c (.assign rfl) ?_
  refine VO.go (VC.seq (VC.seq (VC.text ?_)))
  refine VO.c (.move rfl) ?_
  refine VO.call rfl rfl (VF.call (gSpans_ok (by first | assumption | omega | simp))) ?_
  refine VO.c (.move rfl) ?_
  refine VO.call rfl rfl (VF.call (gSpans_ok (by first | assumption | omega | simp))) ?_
  refine VO.new (.lit [spansE a, spansE b] el164) ?_
  refine VO.call rfl rfl (VF.call (gFirst_ok (by first | assumption | omega | simp))) ?_
  rw [show firstE [spansE a, spansE b] = badE a b from rfl]
  refine VO.c (.assign rfl) ?_
  refine VO.go (VC.seq (VC.text ?_))
  refine VO.c (.move rfl) ?_
  refine VO.c (.neq) ?_
  refine VO.go ?_
  refine VC.condD rfl (fun c2 => ?_) (fun c2 => ?_)
  · refine VC.seq (VC.text ?_)
    refine VO.c (.move rfl) ?_
    refine VO.c (.assign rfl) ?_
    refine VO.c (.assign rfl) ?_
    refine VO.go ?_
    refine VC.ret ?_
    exact VEnd.two rfl (evC .nil) evT (pvE (by exact (if_neg c2).symm)) (pvI (by first | rfl | simp))
  have hbad : badE a b = 0 := Classical.not_not.1 c2
  have hsp := hs hbad
  have hcap := edge_len (l := a) (d := 1)
  have hcbp := edge_len (l := b) (d := 2)
  refine VC.skip (VC.seq (VC.text ?_))
  refine VO.c (.move rfl) ?_
  refine VO.call rfl rfl (VF.call (gEdges_ok (by first | assumption | omega | simp) (by first | assumption | omega | simp))) ?_
  refine VO.c (.move rfl) ?_
  refine VO.call rfl rfl (VF.call (gEdges_ok (by first | assumption | omega | simp) (by first | assumption | omega | simp))) ?_
  refine VO.new (.lit [Sp.edgeE a (1 : Int), Sp.edgeE b (2 : Int)] el216) ?_
  refine VO.callG [] rfl rfl rfl (VFG.call (zConcatE_ok (by show 2 < _; decide) (by simp; omega))) ?_
  rintro _ _ ⟨ww1, rfl, rfl⟩
  show VO _ _ _ _ _ _ [(ww1, .row 199 y199 ([Sp.edgeE a (1 : Int), Sp.edgeE b (2 : Int)].flatten))] _
  refine VO.c (.assign rfl) ?_
  refine VO.go (VC.seq (VC.text ?_))
  refine VO.c (.move rfl) ?_
  refine VO.callG [(ww1, .row 199 y199 ([Sp.edgeE a (1 : Int), Sp.edgeE b (2 : Int)].flatten))] rfl rfl rfl (VFG.call (zSortE_ok (by simp; omega))) ?_
  rintro _ _ ⟨rfl, rfl⟩
  show VO _ _ _ _ _ _ [(ww1, .row 199 y199 (sortE ([Sp.edgeE a (1 : Int), Sp.edgeE b (2 : Int)].flatten)))] _
  have E := edges_of hbad
  have hLl := edges_len (a := a) (b := b)
  generalize hLe : sortE [Sp.edgeE a 1, Sp.edgeE b 2].flatten = L at E hLl ⊢
  refine VO.go (VC.seq ?_)
  refine VC.shutL [(ww1, .row 199 y199 L)] [(9, .v y196 L)] rfl (.cons rfl (.row m0) .nil) ?_
  refine VC.text ?_
  refine VO.c (.assign rfl) ?_
  refine VO.go (VC.seq (VC.text ?_))
  refine VO.c (.assign rfl) ?_
  refine VO.c (.assign rfl) ?_
  refine VO.go (VC.seq (VC.block ?_))
  refine VC.cell0 39 y39 ?_
  refine VC.keep [(5, .p y133 ch), (9, .v y196 (L.drop 0)), (10, .raw (.slice none 0 0)), (11, I 0), (12, I 0)] ⟨rfl, rfl, rfl, rfl, rfl, trivial⟩ ?_
  refine VC.loop (I := fun kk ff ss => ∃ (j : Nat) (st : Int) (fr : Int) (v : Nat) (o : List (Int × Int)) (out : Value), kk = L.length - j ∧ ff = [(5, .p y133 ch), (9, .v y196 (L.drop j)), (10, .raw out), (11, I st), (12, I fr)] ∧ ss = [(out, .row 39 y39 o)] ∧ (j ≤ L.length) ∧ (Sp.CombI (sel4 ch) L (L.drop j) st fr o v) ∧ (0 ≤ st ∧ st < 4) ∧ (v ≤ 100001) ∧ (o.length ≤ j)) ?_ _ _ _ ⟨0, 0, 0, 0, [], (.slice none 0 0), rfl, rfl, rfl, Nat.zero_le _, (by exact Sp.CombI.init h0 fun e he => (E.bnd e he).1), (by omega), Nat.zero_le _, (by exact Nat.le_refl _)⟩
  rintro kk ff ss ⟨j, st, fr, v, o, out, hk0, rfl, rfl, hj, hI, hst, hv, hol⟩
  refine VC.seq (VC.seq (VC.text ?_))
  refine VO.c (.move rfl) ?_
  refine VO.r (.len el196) ?_
  refine VO.c (.gtr) ?_
  refine VO.go ?_
  refine VC.condD rfl (fun c8 => ?_) (fun c8 => ?_)
  · have hd0 : 0 < (L.drop j).length := by omega
    have hjl : j < L.length := by rw [List.length_drop] at hd0; omega
    refine VC.skip (VC.block (VC.seq (VC.drawn ?_)))
    refine VD.c (.move rfl) ?_
    refine VD.c (.ix (j := 0) rfl rfl el196 (by omega)) ?_
    refine VD.c (.fa (.l .o)) ?_
    refine VD.r [] (.ld vt3) (.inl rfl) ?_
    generalize hat : ((L.drop j)[0]).1 = at_
    refine VD.c (.move rfl) ?_
    refine VD.c (.ixP4 rfl rfl (by omega) (by omega) (by kernel_rfl) (by kernel_rfl) (by kernel_rfl) (by kernel_rfl)) ?_
    refine VD.nw [] ?_
    refine VD.r [] (.ld vt4) (.inl rfl) ?_
    refine VD.c (.assign rfl) ?_
    refine VD.c (.assign rfl) ?_
    refine VD.go (VC.seq (VC.block ?_))
    refine VC.keep [(5, .p y133 ch), (9, .v y196 (L.drop j)), (10, .raw out), (11, I st), (12, I fr), (13, I at_), (14, B (sel4 ch st))] ⟨rfl, rfl, rfl, rfl, rfl, rfl, rfl, trivial⟩ ?_
    refine VC.loop (I := fun kk ff ss => ∃ (k : Nat) (su : Int), kk = L.length - k ∧ ff = [(5, .p y133 ch), (9, .v y196 (L.drop k)), (10, .raw out), (11, I su), (12, I fr), (13, I at_), (14, B (sel4 ch st))] ∧ ss = [(out, .row 39 y39 o)] ∧ (j ≤ k ∧ k ≤ L.length) ∧ (∀ e ∈ (L.drop j).take (k - j), e.1 = at_) ∧ (su = st + Sp.totE ((L.drop j).take (k - j))) ∧ (-(2 * (k : Int)) ≤ su ∧ su ≤ 4 + 2 * k)) ?_ _ _ _ ⟨j, st, rfl, rfl, rfl, (by omega), (by simp), (by simp [Sp.totE]), (by omega)⟩
    rintro kk ff ss ⟨k, su, hk2, rfl, rfl, hk, hg, hsu, hb2⟩
    refine VC.seq (VC.seq (VC.text ?_))
    refine VO.c (.move rfl) ?_
    refine VO.r (.len el196) ?_
    refine VO.c (.gtr) ?_
    refine VO.c (.move rfl) ?_
    refine VO.cg (r := decide ((0 : Int) < (((L.drop k).length : Nat) : Int))) (w := true) [] trivial (fun hgd => have g10_3 : (0 : Int) < (((L.drop k).length : Nat) : Int) := (by simpa using hgd); (.move rfl)) ?_
    refine VO.cg (r := decide ((0 : Int) < (((L.drop k).length : Nat) : Int))) (w := true) [(46, .v y196 (L.drop k))] ⟨rfl, trivial⟩ (fun hgd => have g10_3 : (0 : Int) < (((L.drop k).length : Nat) : Int) := (by simpa using hgd); (.ixD (j := 0) rfl rfl (0, 0) el196 (by omega))) ?_
    refine VO.cg (r := decide ((0 : Int) < (((L.drop k).length : Nat) : Int))) (w := true) [(47, .p y199 ((L.drop k).getD 0 (0, 0)))] ⟨rfl, trivial⟩ (fun hgd => have g10_3 : (0 : Int) < (((L.drop k).length : Nat) : Int) := (by simpa using hgd); (.fa (.l .o))) ?_
    refine VO.rg (r := decide ((0 : Int) < (((L.drop k).length : Nat) : Int))) (w := true) [(48, .p (.int .i64) (((L.drop k).getD 0 (0, 0)).1))] ⟨rfl, trivial⟩ (fun hgd => have g10_3 : (0 : Int) < (((L.drop k).length : Nat) : Int) := (by simpa using hgd); (.ld vt3)) ?_
    refine VO.cg (r := decide ((0 : Int) < (((L.drop k).length : Nat) : Int))) (w := true) [] trivial (fun hgd => have g10_3 : (0 : Int) < (((L.drop k).length : Nat) : Int) := (by simpa using hgd); (.move rfl)) ?_
    refine VO.cg (r := decide ((0 : Int) < (((L.drop k).length : Nat) : Int))) (w := true) [(49, I (((L.drop k).getD 0 (0, 0)).1)), (50, I at_)] ⟨rfl, rfl, trivial⟩ (fun hgd => have g10_3 : (0 : Int) < (((L.drop k).length : Nat) : Int) := (by simpa using hgd); (.eql)) ?_
    refine VO.c (.and) ?_
    refine VO.go ?_
    refine VC.condB rfl (fun c10 => ?_) (fun c10 => ?_)
    · try simp only [Bool.and_eq_true, Bool.or_eq_true, Bool.and_eq_false_iff, Bool.or_eq_false_iff, Bool.not_eq_true', Bool.not_eq_false', decide_eq_true_eq, decide_eq_false_iff_not] at c10
      have hd1 : 0 < (L.drop k).length := by omega
      have hkl : k < L.length := by rw [List.length_drop] at hd1; omega
      have hdl := E.at_drop hd1
      have h1k : (L.drop k)[0] = L[k] := by rw [List.getElem_drop] <;> rfl
      have h1a : L[k].1 = at_ := by rw [← h1k]; have := c10.2; rw [List.getD_eq_getElem?_getD, List.getElem?_eq_getElem hd1] at this; exact this
      have htm := Sp.take_more (L := L) hk.1 hkl
      have hg2 : ∀ e ∈ (L.drop j).take (k + 1 - j), e.1 = at_ := fun e he => by
        rw [htm] at he
        rcases List.mem_append.1 he with h | h
        · exact hg e h
        obtain rfl := List.mem_singleton.1 h; exact h1a
      have hsu2 : su + ((L.drop k)[0]).2 = st + Sp.totE ((L.drop j).take (k + 1 - j)) := by rw [htm, Sp.totE_app, h1k, hsu]; simp [Sp.totE]; omega
      refine VC.skip (VC.block (VC.seq (VC.text ?_)))
      refine VO.c (.move rfl) ?_
      refine VO.c (.move rfl) ?_
      refine VO.c (.ix (j := 0) rfl rfl el196 (by omega)) ?_
      refine VO.c (.fa (.r .o)) ?_
      refine VO.r (.ld vt3) ?_
      refine VO.c (.add rfl rfl (by omega)) ?_
      refine VO.c (.assign rfl) ?_
      refine VO.go (VC.text ?_)
      refine VO.c (.move rfl) ?_
      refine VO.r (.cutL rfl rfl el196 (by simp; omega)) ?_
      refine VO.c (.assign rfl) ?_
      refine VO.nil ?_
      refine ⟨_, [(5, .p y133 ch), (9, .v y196 (L.drop (k + 1))), (10, .raw out), (11, I (su + ((L.drop k)[0]).2)), (12, I fr), (13, I at_), (14, B (sel4 ch st))], ?_, ⟨rfl, slE rfl (by rw [List.drop_drop] <;> rfl), rfl, slI rfl (by first | rfl | simp | omega), rfl, rfl, rfl, trivial⟩, (k + 1), (su + ((L.drop k)[0]).2), rfl, rfl, rfl, (by omega), (by exact hg2), (by exact hsu2), (by omega)⟩
      omega
    try simp only [Bool.and_eq_true, Bool.or_eq_true, Bool.and_eq_false_iff, Bool.or_eq_false_iff, Bool.not_eq_true', Bool.not_eq_false', decide_eq_true_eq, decide_eq_false_iff_not] at c10
    have hS := E.step hI h0 hd0 hat hk hg c10 hsu
    refine VC.exit (VC.seq (VC.seq (VC.text ?_)))
    refine VO.c (.move rfl) ?_
    refine VO.c (.move rfl) ?_
    refine VO.cg (r := sel4 ch st) (w := true) [] trivial (fun hgd => have g13_1 : sel4 ch st = true := (by simpa using hgd); (.move rfl)) ?_
    refine VO.cg (r := sel4 ch st) (w := true) [(63, I su)] ⟨rfl, trivial⟩ (fun hgd => have g13_1 : sel4 ch st = true := (by simpa using hgd); (.ixP4 rfl rfl (by omega) (by omega) (by kernel_rfl) (by kernel_rfl) (by kernel_rfl) (by kernel_rfl))) ?_
    refine VO.rg (r := sel4 ch st) (w := true) [(64, .p .bool (sel4 ch su))] ⟨rfl, trivial⟩ (fun hgd => have g13_1 : sel4 ch st = true := (by simpa using hgd); (.ld vt4)) ?_
    refine VO.cg (r := sel4 ch st) (w := true) [(65, B (sel4 ch su))] ⟨rfl, trivial⟩ (fun hgd => have g13_1 : sel4 ch st = true := (by simpa using hgd); (.not)) ?_
    refine VO.c (.and) ?_
    refine VO.go ?_
    refine VC.condB rfl (fun c13 => ?_) (fun c13 => ?_)
    · try simp only [Bool.and_eq_true, Bool.or_eq_true, Bool.and_eq_false_iff, Bool.or_eq_false_iff, Bool.not_eq_true', Bool.not_eq_false', decide_eq_true_eq, decide_eq_false_iff_not] at c13
      have ho : (if sel4 ch st = true ∧ sel4 ch su = false then o ++ [(fr, at_)] else o) = o ++ [(fr, at_)] := if_pos c13
      refine VC.text ?_
      refine VO.c (.move rfl) ?_
      refine VO.c (.move rfl) ?_
      refine VO.c (.move rfl) ?_
      refine VO.c (.build (fr, at_) bt39) ?_
      refine VO.new (.lit [(fr, at_)] el22) ?_
      refine VO.app rfl rfl el22 el22 (by simp; omega) ?_
      intro ww3
      refine VO.c (.assign rfl) ?_
      refine VO.go (VC.seq (VC.text ?_))
      refine VO.c (.move rfl) ?_
      refine VO.c (.not) ?_
      refine VO.c (.move rfl) ?_
      refine VO.cg (r := (!(sel4 ch st))) (w := true) [] trivial (fun hgd => have g15_2 : (!(sel4 ch st)) = true := (by simpa using hgd); (.move rfl)) ?_
      refine VO.cg (r := (!(sel4 ch st))) (w := true) [(77, I su)] ⟨rfl, trivial⟩ (fun hgd => have g15_2 : (!(sel4 ch st)) = true := (by simpa using hgd); (.ixP4 rfl rfl (by omega) (by omega) (by kernel_rfl) (by kernel_rfl) (by kernel_rfl) (by kernel_rfl))) ?_
      refine VO.rg (r := (!(sel4 ch st))) (w := true) [(78, .p .bool (sel4 ch su))] ⟨rfl, trivial⟩ (fun hgd => have g15_2 : (!(sel4 ch st)) = true := (by simpa using hgd); (.ld vt4)) ?_
      refine VO.c (.and) ?_
      refine VO.go ?_
      refine VC.join [(5, .p y133 ch), (9, .v y196 (L.drop k)), (10, .raw ww3), (11, I su), (12, I (if sel4 ch st = false ∧ sel4 ch su = true then at_ else fr))] [(ww3, .row 39 y39 (o ++ [(fr, at_)]))] ?_ ?_
      refine VC.condB rfl (fun c15 => ?_) (fun c15 => ?_)
      · try simp only [Bool.and_eq_true, Bool.or_eq_true, Bool.and_eq_false_iff, Bool.or_eq_false_iff, Bool.not_eq_true', Bool.not_eq_false', decide_eq_true_eq, decide_eq_false_iff_not] at c15
        refine VC.text ?_
        refine VO.c (.move rfl) ?_
        refine VO.c (.assign rfl) ?_
        refine VO.nil ?_
        exact ⟨⟨rfl, rfl, rfl, rfl, slI rfl (by first | rw [if_pos c15] | rw [if_neg (not_and2 c15)]), trivial⟩, rfl⟩
      · try simp only [Bool.and_eq_true, Bool.or_eq_true, Bool.and_eq_false_iff, Bool.or_eq_false_iff, Bool.not_eq_true', Bool.not_eq_false', decide_eq_true_eq, decide_eq_false_iff_not] at c15
        refine VC.skip ?_
        exact ⟨⟨rfl, rfl, rfl, rfl, slI rfl (by first | rw [if_pos c15] | rw [if_neg (not_and2 c15)]), trivial⟩, rfl⟩
      refine ⟨_, [(5, .p y133 ch), (9, .v y196 (L.drop k)), (10, .raw ww3), (11, I su), (12, I (if sel4 ch st = false ∧ sel4 ch su = true then at_ else fr))], ?_, ⟨rfl, slE rfl (by first | rfl | simp | omega), rfl, slI rfl (by first | rfl | simp | omega), slI rfl (by first | rfl | simp | omega), trivial⟩, k, su, (if sel4 ch st = false ∧ sel4 ch su = true then at_ else fr), (at_.toNat + 1), (if sel4 ch st = true ∧ sel4 ch su = false then o ++ [(fr, at_)] else o), ww3, rfl, rfl, (by rw [ho]), (by omega), (by exact hS.2.1), (by omega), (by omega), (by rw [ho]; first | omega | (rw [List.length_append]; simp; omega))⟩
      omega
    try simp only [Bool.and_eq_true, Bool.or_eq_true, Bool.and_eq_false_iff, Bool.or_eq_false_iff, Bool.not_eq_true', Bool.not_eq_false', decide_eq_true_eq, decide_eq_false_iff_not] at c13
    have ho : (if sel4 ch st = true ∧ sel4 ch su = false then o ++ [(fr, at_)] else o) = o := if_neg (not_and3 c13)
    refine VC.skip (VC.seq (VC.text ?_))
    refine VO.c (.move rfl) ?_
    refine VO.c (.not) ?_
    refine VO.c (.move rfl) ?_
    refine VO.cg (r := (!(sel4 ch st))) (w := true) [] trivial (fun hgd => have g15_2 : (!(sel4 ch st)) = true := (by simpa using hgd); (.move rfl)) ?_
    refine VO.cg (r := (!(sel4 ch st))) (w := true) [(77, I su)] ⟨rfl, trivial⟩ (fun hgd => have g15_2 : (!(sel4 ch st)) = true := (by simpa using hgd); (.ixP4 rfl rfl (by omega) (by omega) (by kernel_rfl) (by kernel_rfl) (by kernel_rfl) (by kernel_rfl))) ?_
    refine VO.rg (r := (!(sel4 ch st))) (w := true) [(78, .p .bool (sel4 ch su))] ⟨rfl, trivial⟩ (fun hgd => have g15_2 : (!(sel4 ch st)) = true := (by simpa using hgd); (.ld vt4)) ?_
    refine VO.c (.and) ?_
    refine VO.go ?_
    refine VC.join [(5, .p y133 ch), (9, .v y196 (L.drop k)), (10, .raw out), (11, I su), (12, I (if sel4 ch st = false ∧ sel4 ch su = true then at_ else fr))] [(out, .row 39 y39 o)] ?_ ?_
    refine VC.condB rfl (fun c15 => ?_) (fun c15 => ?_)
    · try simp only [Bool.and_eq_true, Bool.or_eq_true, Bool.and_eq_false_iff, Bool.or_eq_false_iff, Bool.not_eq_true', Bool.not_eq_false', decide_eq_true_eq, decide_eq_false_iff_not] at c15
      refine VC.text ?_
      refine VO.c (.move rfl) ?_
      refine VO.c (.assign rfl) ?_
      refine VO.nil ?_
      exact ⟨⟨rfl, rfl, rfl, rfl, slI rfl (by first | rw [if_pos c15] | rw [if_neg (not_and2 c15)]), trivial⟩, rfl⟩
    · try simp only [Bool.and_eq_true, Bool.or_eq_true, Bool.and_eq_false_iff, Bool.or_eq_false_iff, Bool.not_eq_true', Bool.not_eq_false', decide_eq_true_eq, decide_eq_false_iff_not] at c15
      refine VC.skip ?_
      exact ⟨⟨rfl, rfl, rfl, rfl, slI rfl (by first | rw [if_pos c15] | rw [if_neg (not_and2 c15)]), trivial⟩, rfl⟩
    refine ⟨_, [(5, .p y133 ch), (9, .v y196 (L.drop k)), (10, .raw out), (11, I su), (12, I (if sel4 ch st = false ∧ sel4 ch su = true then at_ else fr))], ?_, ⟨rfl, slE rfl (by first | rfl | simp | omega), rfl, slI rfl (by first | rfl | simp | omega), slI rfl (by first | rfl | simp | omega), trivial⟩, k, su, (if sel4 ch st = false ∧ sel4 ch su = true then at_ else fr), (at_.toNat + 1), (if sel4 ch st = true ∧ sel4 ch su = false then o ++ [(fr, at_)] else o), out, rfl, rfl, (by rw [ho]), (by omega), (by exact hS.2.1), (by omega), (by omega), (by rw [ho]; first | omega | (rw [List.length_append]; simp; omega))⟩
    omega
  have hjL : L.length ≤ j := by rw [List.length_drop] at c8; omega
  have hfin := E.last (n := mT) hI h0 hjL (by rw [mT_eq]; exact hv)
  refine VC.exit (VC.seq (VC.seq (VC.text ?_)))
  refine VO.c (.move rfl) ?_
  refine VO.r (.lenO m0 el22) ?_
  refine VO.c (.gtr) ?_
  refine VO.go ?_
  refine VC.condD rfl (fun c17 => ?_) (fun c17 => ?_)
  · exact absurd c17 (by omega)
  refine VC.skip (VC.seq (VC.text ?_))
  refine VO.c (.move rfl) ?_
  refine VO.c (.assign rfl) ?_
  refine VO.c (.assign rfl) ?_
  refine VO.go ?_
  refine VC.ret ?_
  exact VEnd.two rfl (evC (.row m0)) evT (pvE (by rw [combE_of hbad]; exact hfin)) (pvI (by exact hbad.symm))
end Go.Proofs
namespace Go.Proofs
open Go.Fs
set_option linter.unusedVariables false
set_option maxHeartbeats 2000000
theorem zt133 : ZerT Tryz.prog 133 y133 := zerT_of (z := .agg #[.bool false, .bool false, .bool false, .bool false]) (by kernel_rfl) rfl rfl
theorem bt133 : BldT Tryz.prog 133 y133 [(0, 1), (1, 1), (2, 1), (3, 1)] := bldT_of zt133 rfl (by kernel_rfl)
theorem awake_ok : VF Tryz.prog OA 15 [] (B true) := VF.oracle (fun _ => rfl) fun _ _ => ⟨rfl, rfl⟩
theorem comb_len {ch : Bool × Bool × Bool × Bool} {a b : List (Int × Int)} : (combE ch a b).length < 1000000 := by
  unfold combE
  split
  · have := scan_len (p := fun t => sel4 ch (Sp.markE a b t)) (t := mT)
    rw [mT_eq] at this ⊢; omega
  decide
theorem four {P : Int → Prop} (h0 : P 0) (h1 : P 1) (h2 : P 2) (h3 : P 3) : ∀ n : Int, 0 ≤ n ∧ n < 4 → P n := fun n hn => by
  have h : n = 0 ∨ n = 1 ∨ n = 2 ∨ n = 3 := by omega
  rcases h with rfl | rfl | rfl | rfl <;> assumption
theorem gJoin_ok {a : List (Int × Int)} {b : List (Int × Int)} (ha : a.length < 1000000) (hb : b.length < 1000000) (hs : badE a b = 0 → a.length + b.length ≤ 1000) : VF Tryz.prog OA 22 [.v y22 a, .v y22 b] (.tup [.v y22 (combE (false, true, true, true) a b), I (badE a b)]) := by
  refine VF.enter Tryz.func22 rfl (fun _ _ => rfl) rfl ?_
  show VC _ _ _ _ _ [(0, .v y22 a), (1, .v y22 b)] [] _
  refine VC.seq (VC.text ?_)
  refine VO.c (.assign rfl) ?_
  refine VO.c (.assign rfl) ?_
  refine VO.go (VC.seq (VC.text ?_))
  refine VO.c (.move rfl) ?_
  refine VO.c (.move rfl) ?_
  refine VO.c (.build (false, true, true, true) bt133) ?_
  refine VO.call rfl rfl (VF.call (gComb_ok ha hb hs rfl)) ?_
  refine VO.c (.extract) ?_
  refine VO.c (.extract) ?_
  refine VO.c (.assign rfl) ?_
  refine VO.c (.assign rfl) ?_
  refine VO.go ?_
  refine VC.ret ?_
  exact VEnd.two rfl evT evT (pvE (by rfl)) (pvI (by rfl))
theorem gMeet_ok {a : List (Int × Int)} {b : List (Int × Int)} (ha : a.length < 1000000) (hb : b.length < 1000000) (hs : badE a b = 0 → a.length + b.length ≤ 1000) : VF Tryz.prog OA 24 [.v y22 a, .v y22 b] (.tup [.v y22 (combE (false, false, false, true) a b), I (badE a b)]) := by
  refine VF.enter Tryz.func24 rfl (fun _ _ => rfl) rfl ?_
  show VC _ _ _ _ _ [(0, .v y22 a), (1, .v y22 b)] [] _
  refine VC.seq (VC.text ?_)
  refine VO.c (.assign rfl) ?_
  refine VO.c (.assign rfl) ?_
  refine VO.go (VC.seq (VC.text ?_))
  refine VO.c (.move rfl) ?_
  refine VO.c (.move rfl) ?_
  refine VO.c (.build (false, false, false, true) bt133) ?_
  refine VO.call rfl rfl (VF.call (gComb_ok ha hb hs rfl)) ?_
  refine VO.c (.extract) ?_
  refine VO.c (.extract) ?_
  refine VO.c (.assign rfl) ?_
  refine VO.c (.assign rfl) ?_
  refine VO.go ?_
  refine VC.ret ?_
  exact VEnd.two rfl evT evT (pvE (by rfl)) (pvI (by rfl))
theorem gMinus_ok {a : List (Int × Int)} {b : List (Int × Int)} (ha : a.length < 1000000) (hb : b.length < 1000000) (hs : badE a b = 0 → a.length + b.length ≤ 1000) : VF Tryz.prog OA 25 [.v y22 a, .v y22 b] (.tup [.v y22 (combE (false, true, false, false) a b), I (badE a b)]) := by
  refine VF.enter Tryz.func25 rfl (fun _ _ => rfl) rfl ?_
  show VC _ _ _ _ _ [(0, .v y22 a), (1, .v y22 b)] [] _
  refine VC.seq (VC.text ?_)
  refine VO.c (.assign rfl) ?_
  refine VO.c (.assign rfl) ?_
  refine VO.go (VC.seq (VC.text ?_))
  refine VO.c (.move rfl) ?_
  refine VO.c (.move rfl) ?_
  refine VO.c (.build (false, true, false, false) bt133) ?_
  refine VO.call rfl rfl (VF.call (gComb_ok ha hb hs rfl)) ?_
  refine VO.c (.extract) ?_
  refine VO.c (.extract) ?_
  refine VO.c (.assign rfl) ?_
  refine VO.c (.assign rfl) ?_
  refine VO.go ?_
  refine VC.ret ?_
  exact VEnd.two rfl evT evT (pvE (by rfl)) (pvI (by rfl))
theorem lSpans_ok {l : List (Int × Int)} (hl : l.length < 1000000) : VF Tryz.prog OA 23 [.v y22 l] (.v y22 l) := by
  refine VF.enter Tryz.func23 rfl (fun _ _ => rfl) rfl ?_
  show VC _ _ _ _ _ [(0, .v y22 l)] [] _
  refine VC.seq (VC.text ?_)
  refine VO.c (.assign rfl) ?_
  refine VO.go (VC.seq (VC.text ?_))
  refine VO.cell (.lit0 el22) ?_
  intro ww1
  refine VO.c (.move rfl) ?_
  refine VO.app rfl rfl el22 el22 (by simp; omega) ?_
  intro ww2
  refine VO.c (.assign rfl) ?_
  refine VO.go ?_
  refine VC.ret ?_
  exact VEnd.one rfl (evC (.row m0)) (pvE (by rfl))
theorem rHas_ok {l : List (Int × Int)} {t : Int} (hl : l.length < 1000000) : VF Tryz.prog OA 28 [.v y22 l, I t] (B (Sp.inL l t)) := by
  refine VF.enter Tryz.func28 rfl (fun _ _ => rfl) rfl ?_
  show VC _ _ _ _ _ [(0, .v y22 l), (1, I t)] [] _
  refine VC.seq (VC.text ?_)
  refine VO.c (.assign rfl) ?_
  refine VO.go (VC.seq (VC.seq (VC.text ?_)))
  refine VO.c (.assign rfl) ?_
  refine VO.go (VC.block ?_)
  refine VC.keep [(0, .v y22 l), (1, I t), (5, I ((0 : Nat) : Int))] ⟨rfl, rfl, rfl, trivial⟩ ?_
  refine VC.loop (I := fun kk ff ss => ∃ (j : Nat), kk = l.length - j ∧ ff = [(0, .v y22 l), (1, I t), (5, I ((j : Nat) : Int))] ∧ ss = [] ∧ (j ≤ l.length) ∧ (∀ k (h : k < l.length), k < j → ¬ (l[k].1 ≤ t ∧ t < l[k].2))) ?_ _ _ _ ⟨0, rfl, rfl, rfl, Nat.zero_le _, (by exact fun k _ h => absurd h (by omega))⟩
  rintro kk ff ss ⟨j, hk0, rfl, rfl, hj, hi⟩
  refine VC.seq (VC.seq (VC.text ?_))
  refine VO.c (.move rfl) ?_
  refine VO.c (.move rfl) ?_
  refine VO.r (.len el22) ?_
  refine VO.c (.lss) ?_
  refine VO.go ?_
  refine VC.condD rfl (fun c2 => ?_) (fun c2 => ?_)
  · have hjl : j < l.length := by omega
    refine VC.skip (VC.seq (VC.block (VC.seq (VC.text ?_))))
    refine VO.c (.move rfl) ?_
    refine VO.c (.move rfl) ?_
    refine VO.c (.move rfl) ?_
    refine VO.c (.ix (j := j) rfl rfl el22 (by omega)) ?_
    refine VO.c (.fa (.l .o)) ?_
    refine VO.r (.ld vt3) ?_
    refine VO.c (.geq) ?_
    refine VO.c (.move rfl) ?_
    refine VO.cg (r := decide ((l[j]).1 ≤ t)) (w := true) [] trivial (fun hgd => have g4_7 : (l[j]).1 ≤ t := (by simpa using hgd); (.move rfl)) ?_
    refine VO.cg (r := decide ((l[j]).1 ≤ t)) (w := true) [] trivial (fun hgd => have g4_7 : (l[j]).1 ≤ t := (by simpa using hgd); (.move rfl)) ?_
    refine VO.cg (r := decide ((l[j]).1 ≤ t)) (w := true) [] trivial (fun hgd => have g4_7 : (l[j]).1 ≤ t := (by simpa using hgd); (.move rfl)) ?_
    refine VO.cg (r := decide ((l[j]).1 ≤ t)) (w := true) [(21, .v y22 l), (22, I ((j : Nat) : Int))] ⟨rfl, rfl, trivial⟩ (fun hgd => have g4_7 : (l[j]).1 ≤ t := (by simpa using hgd); (.ixD (j := j) rfl rfl (0, 0) el22 (by omega))) ?_
    refine VO.cg (r := decide ((l[j]).1 ≤ t)) (w := true) [(23, .p y39 (l.getD j (0, 0)))] ⟨rfl, trivial⟩ (fun hgd => have g4_7 : (l[j]).1 ≤ t := (by simpa using hgd); (.fa (.r .o))) ?_
    refine VO.rg (r := decide ((l[j]).1 ≤ t)) (w := true) [(24, .p (.int .i64) ((l.getD j (0, 0)).2))] ⟨rfl, trivial⟩ (fun hgd => have g4_7 : (l[j]).1 ≤ t := (by simpa using hgd); (.ld vt3)) ?_
    refine VO.cg (r := decide ((l[j]).1 ≤ t)) (w := true) [(20, I t), (25, I ((l.getD j (0, 0)).2))] ⟨rfl, rfl, trivial⟩ (fun hgd => have g4_7 : (l[j]).1 ≤ t := (by simpa using hgd); (.lss)) ?_
    refine VO.c (.and) ?_
    refine VO.go ?_
    refine VC.condB rfl (fun c4 => ?_) (fun c4 => ?_)
    · try simp only [Bool.and_eq_true, Bool.or_eq_true, Bool.and_eq_false_iff, Bool.or_eq_false_iff, Bool.not_eq_true', Bool.not_eq_false', decide_eq_true_eq, decide_eq_false_iff_not] at c4
      refine VC.seq (VC.text ?_)
      refine VO.c (.assign rfl) ?_
      refine VO.go ?_
      refine VC.ret ?_
      exact VEnd.one rfl evT (pvE (by rw [getD_at hjl] at c4; exact (List.any_eq_true.2 ⟨_, List.getElem_mem hjl, by rw [decide_eq_true c4.1, decide_eq_true c4.2]; rfl⟩).symm))
    try simp only [Bool.and_eq_true, Bool.or_eq_true, Bool.and_eq_false_iff, Bool.or_eq_false_iff, Bool.not_eq_true', Bool.not_eq_false', decide_eq_true_eq, decide_eq_false_iff_not] at c4
    have hno : ¬ (l[j].1 ≤ t ∧ t < l[j].2) := by rw [getD_at hjl] at c4; omega
    refine VC.skip (VC.text ?_)
    refine VO.c (.move rfl) ?_
    refine VO.c (.add rfl rfl (by omega)) ?_
    refine VO.c (.assign rfl) ?_
    refine VO.nil ?_
    refine ⟨_, [(0, .v y22 l), (1, I t), (5, I (((j + 1) : Nat) : Int))], ?_, ⟨rfl, rfl, rfl, trivial⟩, (j + 1), rfl, rfl, rfl, (by omega), (by exact fun k h h3 => if e : k = j then (by subst e; exact hno) else hi k h (by omega))⟩
    omega
  refine VC.exit (VC.seq (VC.text ?_))
  refine VO.c (.assign rfl) ?_
  refine VO.go ?_
  refine VC.ret ?_
  exact VEnd.one rfl evT (pvE (by exact (List.any_eq_false.2 fun x hx => by obtain ⟨k, h, rfl⟩ := List.mem_iff_getElem.1 hx; have := hi k h (by omega); simp; omega).symm))
end Go.Proofs
namespace Go.Proofs
open Go.Fs
set_option linter.unusedVariables false
set_option maxHeartbeats 2000000
theorem vt22 : ValT Tryz.prog 22 y22 := valT_of (by kernel_rfl)
end Go.Proofs
namespace Go.Proofs
open Go.Fs
set_option linter.unusedVariables false
set_option maxHeartbeats 2000000

theorem ex_end {L : List (Int × Int)} {at_ : Int} {j : Nat} : ∀ (n k : Nat), L.length - k = n → j ≤ k → k ≤ L.length → (∀ e ∈ (L.drop j).take (k - j), e.1 = at_) → ∃ k', j ≤ k' ∧ k' ≤ L.length ∧ (∀ e ∈ (L.drop j).take (k' - j), e.1 = at_) ∧ (¬ (0 : Int) < ((L.drop k').length : Nat) ∨ ¬ ((L.drop k').getD 0 (0, 0)).1 = at_)
  | 0, k, hn, h1, h2, hg => ⟨k, h1, h2, hg, .inl (by rw [List.length_drop, hn]; decide)⟩
  | n + 1, k, hn, h1, h2, hg => by
    by_cases hc : ((L.drop k).getD 0 (0, 0)).1 = at_
    · have hk : k < L.length := by omega
      refine ex_end n (k + 1) (by omega) (by omega) (by omega) fun e he => ?_
      rw [Sp.take_more h1 hk] at he
      rcases List.mem_append.1 he with h | h
      · exact hg e h
      obtain rfl := List.mem_singleton.1 h
      rw [List.getD_eq_getElem?_getD, List.getElem?_drop, Nat.add_zero, List.getElem?_eq_getElem hk] at hc
      exact hc
    exact ⟨k, h1, h2, hg, .inr hc⟩
theorem comb_few {a b : List (Int × Int)} {L : List (Int × Int)} {ch : Int → Bool} (E : Sp.EdgesOf a b L) (h0 : ch 0 = false) {n : Nat} (hn : 100001 ≤ n) : ∀ (m j : Nat) {st fr : Int} {o : List (Int × Int)} {v : Nat}, L.length - j = m → j ≤ L.length → Sp.CombI ch L (L.drop j) st fr o v → v ≤ 100001 → o.length ≤ j → (Sp.scanE (fun t => ch (Sp.markE a b t)) n).2.length ≤ L.length := by
  intro m
  induction m using Nat.strongRecOn with
  | _ m ih =>
    intro j st fr o v hm hj I hv ho
    rcases Nat.lt_or_ge j L.length with hjl | hjl
    · have hd : 0 < (L.drop j).length := by rw [List.length_drop]; omega
      obtain ⟨k, h1, h2, h3, h4⟩ := ex_end (L := L) (at_ := (L.drop j)[0].1) (j := j) (L.length - j) j rfl (Nat.le_refl _) hj (by simp)
      obtain ⟨g1, g2, g3, g4, g5, g6⟩ := E.step I h0 hd rfl ⟨h1, h2⟩ h3 h4 rfl
      refine ih (L.length - k) (by omega) k rfl h2 g2 (by omega) ?_
      split
      · rw [List.length_append]
        show o.length + 1 ≤ k
        omega
      omega
    rw [← E.last (n := n) I h0 hjl (by omega)]; omega
theorem comb_short {ch : Bool × Bool × Bool × Bool} {a b : List (Int × Int)} (h : badE a b = 0) (h0 : ch.1 = false) : (combE ch a b).length ≤ 2 * a.length + 2 * b.length := by
  rw [combE_of h, ← edges_len]
  have E := edges_of h
  exact comb_few (ch := sel4 ch) E h0 (n := mT) (Nat.le_of_eq mT_eq.symm) _ 0 rfl (Nat.zero_le _) (Sp.CombI.init (fr := 0) h0 fun e he => (E.bnd e he).1) (by omega) (Nat.le_refl _)
theorem spans_of {l : List (Int × Int)} (h : Sp.Canon 100000 l) (hn : l.length ≤ 2048) : spansE l = 0 := by
  unfold spansE
  rw [if_neg (by omega)]
  unfold firstR
  rw [firstE_zero]
  intro x hx
  obtain ⟨j, hj, rfl⟩ := List.mem_map.1 hx
  rw [List.mem_range'_1] at hj
  have hjl : j < l.length := by omega
  unfold spanAt
  rw [firstE_zero]
  intro y hy
  simp only [List.mem_cons, List.not_mem_nil, or_false] at hy
  rcases hy with rfl | rfl
  · rw [spX_eq hjl]; exact spanE_zero.2 (h.1 _ (List.getElem_mem hjl))
  rw [whenE_zero (by decide)]
  rcases Nat.eq_zero_or_pos j with h1 | h1
  · subst h1; rfl
  rw [decide_eq_true (show (0 : Int) < (j : Int) by omega), Bool.true_and, decide_eq_false_iff_not, spX_eq hjl, spX_eq (show j - 1 < l.length by omega)]
  have := List.pairwise_iff_getElem.1 h.2 (j - 1) j (by omega) hjl (by omega)
  omega
theorem comb_canon {ch : Bool × Bool × Bool × Bool} {a b : List (Int × Int)} (h : badE a b = 0) : Sp.Canon 100000 (combE ch a b) := by
  rw [combE_of h]
  have h1 := (Sp.scan_canon (p := fun t => sel4 ch (Sp.markE a b t)) (n := mT)).1
  rw [mT_eq] at h1 ⊢
  exact h1
theorem comb_check {ch : Bool × Bool × Bool × Bool} {a b : List (Int × Int)} (h : badE a b = 0) (h0 : ch.1 = false) (hs : a.length + b.length ≤ 1000) : spansE (combE ch a b) = 0 :=
  spans_of (comb_canon h) (by have := comb_short (ch := ch) h h0; omega)
theorem inL_out {l : List (Int × Int)} (h : Sp.Canon 100000 l) {t : Int} (ht : t < 0 ∨ 100000 ≤ t) : Sp.inL l t = false := by
  unfold Sp.inL
  rw [List.any_eq_false]
  intro s hs
  have := h.1 s hs
  simp
  omega
theorem mark_out {a b : List (Int × Int)} (ha : Sp.Canon 100000 a) (hb : Sp.Canon 100000 b) {t : Int} (ht : t < 0 ∨ 100000 ≤ t) : Sp.markE a b t = 0 := by
  unfold Sp.markE
  rw [inL_out ha ht, inL_out hb ht] <;> rfl
theorem comb_has {ch : Bool × Bool × Bool × Bool} {a b : List (Int × Int)} (h : badE a b = 0) (h0 : ch.1 = false) (t : Int) : Sp.inL (combE ch a b) t = sel4 ch (Sp.markE a b t) := by
  have ha := (spans_canon (badE_zero.1 h).1).1
  have hb := (spans_canon (badE_zero.1 h).2).1
  by_cases ht : t < 0 ∨ 100000 ≤ t
  · rw [inL_out (comb_canon h) ht, mark_out ha hb ht]; exact h0.symm
  have e : mT = 100000 + 1 := mT_eq
  rw [combE_of h, e, Bool.eq_iff_iff, Sp.scan_has (by show sel4 ch (Sp.markE a b _) = false; rw [mark_out ha hb (.inr (by omega))]; exact h0) (by omega)]
  exact ⟨fun h => h.2, fun h => ⟨by omega, h⟩⟩
theorem comb_sym {ch : Bool × Bool × Bool × Bool} {a b : List (Int × Int)} (h : badE a b = 0) (hc : ch.2.1 = ch.2.2.1) : combE ch b a = combE ch a b := by
  rw [combE_of h, combE_of (badE_zero.2 (badE_zero.1 h).symm)]
  have e : (fun t => sel4 ch (Sp.markE b a t)) = fun t => sel4 ch (Sp.markE a b t) := funext fun t => by
    unfold Sp.markE
    cases Sp.inL a t <;> cases Sp.inL b t
    · rfl
    · exact hc
    · exact hc.symm
    rfl
  rw [e]
theorem comb_self {a : List (Int × Int)} (h : badE a a = 0) : combE (false, true, false, false) a a = [] := by
  rw [combE_of h, Sp.scan_none fun j _ => by
    unfold Sp.markE
    cases Sp.inL a (j : Int) <;> rfl]
theorem has_join {a b : List (Int × Int)} (h : badE a b = 0) (t : Int) : (Sp.inL (combE (false, true, true, true) a b) t != (Sp.inL a t || Sp.inL b t)) = false := by
  rw [comb_has h rfl]
  unfold Sp.markE
  cases Sp.inL a t <;> cases Sp.inL b t <;> rfl
theorem has_meet {a b : List (Int × Int)} (h : badE a b = 0) (t : Int) : (Sp.inL (combE (false, false, false, true) a b) t != (Sp.inL a t && Sp.inL b t)) = false := by
  rw [comb_has h rfl]
  unfold Sp.markE
  cases Sp.inL a t <;> cases Sp.inL b t <;> rfl
theorem has_minus {a b : List (Int × Int)} (h : badE a b = 0) (t : Int) : (Sp.inL (combE (false, true, false, false) a b) t != (Sp.inL a t && !Sp.inL b t)) = false := by
  rw [comb_has h rfl]
  unfold Sp.markE
  cases Sp.inL a t <;> cases Sp.inL b t <;> rfl
theorem eq_self_lit {α : Type} [DecidableEq α] {x : α} : (!decide (x = x)) = false := by simp
def tickE (l : List (Int × Int)) (t : Int) (i : Nat) : List Int := t :: (l.take i).flatMap fun s => [s.1 - 1, s.1, s.2 - 1, s.2]
theorem tick_succ {l : List (Int × Int)} {t : Int} {i : Nat} (h : i < l.length) : tickE l t (i + 1) = tickE l t i ++ [l[i].1 - 1, l[i].1, l[i].2 - 1, l[i].2] := by
  unfold tickE
  rw [List.take_succ_eq_append_getElem h, List.flatMap_append] <;> rfl
theorem tick_len {l : List (Int × Int)} {t : Int} {i : Nat} : (tickE l t i).length ≤ 4 * i + 1 := by
  unfold tickE
  have h : ∀ m : List (Int × Int), (m.flatMap fun s => [s.1 - 1, s.1, s.2 - 1, s.2]).length = 4 * m.length := fun m => by
    induction m with
    | nil => rfl
    | cons x m ih => rw [List.flatMap_cons, List.length_append, ih, List.length_cons]; simp; omega
  rw [List.length_cons, h, List.length_take]
  omega
theorem lSpansO_ok {l : List (Int × Int)} (hl : l.length < 1000000) : VFG Tryz.prog OA 23 [.v y22 l] [] (fun r g => ∃ w, r = .raw w ∧ g = [(w, .row 39 y39 l)]) := by
  refine VFG.enter Tryz.func23 rfl (fun _ _ => rfl) rfl ?_
  show VC _ _ _ _ _ [(0, .v y22 l)] [] _
  refine VC.seq (VC.text ?_)
  refine VO.c (.assign rfl) ?_
  refine VO.go (VC.seq (VC.text ?_))
  refine VO.cell (.lit0 el22) ?_
  intro ww1
  refine VO.c (.move rfl) ?_
  refine VO.app rfl rfl el22 el22 (by simp; omega) ?_
  intro ww2
  refine VO.c (.assign rfl) ?_
  refine VO.go ?_
  refine VC.ret ?_
  exact VEndG.row rfl evT ⟨ww2, rfl, (by rfl)⟩
end Go.Proofs
namespace Go.Fs
variable {P : Program} {h : Heap} {S : List Nat} {σ : Sto} {t : Tr} {fl : VL} {x : Operand} {T e : TypeId} {τ : Ty}
end Go.Fs
namespace Go.Fs
variable {P : Program} {σ : Sto} {fl : VL} {x y : Operand} {T T' : TypeId} {p q : Bool}
theorem equal_bool (hT : P.underlying T = some .bool) : runPure P (Op.equal T (.bool p) (.bool q)) = some (p == q) := by
  unfold Op.equal
  rw [show Op.maxDepth = 9999 + 1 from rfl, Op.equalIn]
  simp only [runPure_bind, runPure_underlying hT, Option.bind_some, runPure_pure]
theorem CalmV.bneq (hT : P.underlying T = some .bool := by kernel_rfl) (hx : evV fl x = some (.v .bool p) := by rfl) (hy : evV fl y = some (.v .bool q) := by rfl) : CalmV P fl σ (.binOp .neq T x y T') (.v .bool (p != q)) :=
  .bin hx hy fun h S a c ha hc => by
    obtain rfl := RepV.bool ha
    obtain rfl := RepV.bool hc
    refine ⟨.bool (p != q), RepV.ofBool _, rfl, ?_⟩
    have h1 : runPure P (Op.equal T (.bool p) (.bool q) >>= fun b => pure (Value.bool !b)) = some (.bool (p != q)) := by
      rw [runPure_bind, equal_bool hT]; rfl
    unfold purely
    show (runPure P (Op.equal T (.bool p) (.bool q) >>= fun b => pure (Value.bool !b))).bind _ = _
    rw [h1]; rfl
end Go.Fs
namespace Go.Proofs
open Go.Fs
set_option linter.unusedVariables false
set_option maxHeartbeats 2000000
abbrev y36 : Ty := (.sl (.sl (.pair (.int .i64) (.int .i64))))
theorem el36 : ElT Tryz.prog 36 22 y22 := elT_of (by kernel_rfl)
theorem wf16u {n : Int} (h : (Lit.int .u16 n).wf = true) : 0 ≤ n ∧ n < 65536 := by
  have h1 : (decide (IntKind.u16.min ≤ n) && decide (n ≤ IntKind.u16.max)) = true := h
  obtain ⟨h2, h3⟩ := band h1
  have h4 : (0 : Int) ≤ n := of_decide_eq_true h2
  have h5 : n ≤ (65535 : Int) := of_decide_eq_true h3
  exact ⟨h4, by omega⟩
theorem lenA {a b : List (Int × Int)} (h : (decide ((12 : Int) < ((a.length : Nat) : Int)) || decide ((12 : Int) < ((b.length : Nat) : Int))) = false) : a.length < 1000000 := by
  simp only [Bool.or_eq_false_iff, decide_eq_false_iff_not] at h
  omega
theorem lenB {a b : List (Int × Int)} {r : Bool} (h : (decide ((12 : Int) < ((a.length : Nat) : Int)) || decide ((12 : Int) < ((b.length : Nat) : Int)) || r) = false) : b.length < 1000000 := by
  simp only [Bool.or_eq_false_iff, decide_eq_false_iff_not] at h
  omega
theorem law4_ok {a : List (Int × Int)} {b : List (Int × Int)} {t : Int} (ht : 0 ≤ t ∧ t < 65536) : VF Tryz.prog OA 4 [.v y22 a, .v y22 b, .v (.int .u16) t] (B true) := by
  refine VF.enter Tryz.func4 rfl (fun _ _ => rfl) rfl ?_
  show VC _ _ _ _ _ [(0, .v y22 a), (1, .v y22 b), (2, .v (.int .u16) t)] [] _
  refine VC.seq (VC.text ?_)
  refine VO.c (.assign rfl) ?_
  refine VO.go (VC.seq (VC.seq (VC.text ?_)))
  refine VO.call rfl rfl (VF.call (awake_ok )) ?_
  refine VO.c (.not) ?_
  refine VO.c (.move rfl) ?_
  refine VO.c (.move rfl) ?_
  refine VO.r (.len el22) ?_
  refine VO.c (.gtr) ?_
  refine VO.c (.pickF rfl rfl) ?_
  refine VO.c (.move rfl) ?_
  refine VO.cg (r := decide ((12 : Int) < ((a.length : Nat) : Int))) (w := false) [] trivial (fun hgd => have g1_7 : ¬ ((12 : Int) < ((a.length : Nat) : Int)) := (by first | exact eq_of_beq hgd | simpa using hgd); (.move rfl)) ?_
  refine VO.rg (r := decide ((12 : Int) < ((a.length : Nat) : Int))) (w := false) [(36, .v y22 b)] ⟨rfl, trivial⟩ (fun hgd => have g1_7 : ¬ ((12 : Int) < ((a.length : Nat) : Int)) := (by first | exact eq_of_beq hgd | simpa using hgd); (.len el22)) ?_
  refine VO.cg (r := decide ((12 : Int) < ((a.length : Nat) : Int))) (w := false) [(37, I ((b.length : Nat) : Int))] ⟨rfl, trivial⟩ (fun hgd => have g1_7 : ¬ ((12 : Int) < ((a.length : Nat) : Int)) := (by first | exact eq_of_beq hgd | simpa using hgd); (.gtr)) ?_
  refine VO.c (.or) ?_
  refine VO.c (.move rfl) ?_
  refine VO.cg (r := ((decide ((12 : Int) < ((a.length : Nat) : Int))) || (decide ((12 : Int) < ((b.length : Nat) : Int))))) (w := false) [] trivial (fun hgd => have g1_12 : ((decide ((12 : Int) < ((a.length : Nat) : Int))) || (decide ((12 : Int) < ((b.length : Nat) : Int)))) = false := (by first | exact eq_of_beq hgd | simpa using hgd); (.move rfl)) ?_
  refine VO.callg (r0 := ((decide ((12 : Int) < ((a.length : Nat) : Int))) || (decide ((12 : Int) < ((b.length : Nat) : Int))))) (w := false) [(41, .v y22 a)] ⟨rfl, trivial⟩ rfl rfl .same .refl rfl (fun hgd => have g1_12 : ((decide ((12 : Int) < ((a.length : Nat) : Int))) || (decide ((12 : Int) < ((b.length : Nat) : Int)))) = false := (by first | exact eq_of_beq hgd | simpa using hgd); VF.call (rSpans_ok (lenA g1_12))) ?_
  refine VO.cg (r := ((decide ((12 : Int) < ((a.length : Nat) : Int))) || (decide ((12 : Int) < ((b.length : Nat) : Int))))) (w := false) [(42, I (spansE a))] ⟨rfl, trivial⟩ (fun hgd => have g1_12 : ((decide ((12 : Int) < ((a.length : Nat) : Int))) || (decide ((12 : Int) < ((b.length : Nat) : Int)))) = false := (by first | exact eq_of_beq hgd | simpa using hgd); (.neq)) ?_
  refine VO.c (.or) ?_
  refine VO.c (.move rfl) ?_
  refine VO.cg (r := (((decide ((12 : Int) < ((a.length : Nat) : Int))) || (decide ((12 : Int) < ((b.length : Nat) : Int)))) || (decide (spansE a ≠ (0 : Int))))) (w := false) [] trivial (fun hgd => have g1_17 : (((decide ((12 : Int) < ((a.length : Nat) : Int))) || (decide ((12 : Int) < ((b.length : Nat) : Int)))) || (decide (spansE a ≠ (0 : Int)))) = false := (by first | exact eq_of_beq hgd | simpa using hgd); (.move rfl)) ?_
  refine VO.callg (r0 := (((decide ((12 : Int) < ((a.length : Nat) : Int))) || (decide ((12 : Int) < ((b.length : Nat) : Int)))) || (decide (spansE a ≠ (0 : Int))))) (w := false) [(46, .v y22 b)] ⟨rfl, trivial⟩ rfl rfl .same .refl rfl (fun hgd => have g1_17 : (((decide ((12 : Int) < ((a.length : Nat) : Int))) || (decide ((12 : Int) < ((b.length : Nat) : Int)))) || (decide (spansE a ≠ (0 : Int)))) = false := (by first | exact eq_of_beq hgd | simpa using hgd); VF.call (rSpans_ok (lenB g1_17))) ?_
  refine VO.cg (r := (((decide ((12 : Int) < ((a.length : Nat) : Int))) || (decide ((12 : Int) < ((b.length : Nat) : Int)))) || (decide (spansE a ≠ (0 : Int))))) (w := false) [(47, I (spansE b))] ⟨rfl, trivial⟩ (fun hgd => have g1_17 : (((decide ((12 : Int) < ((a.length : Nat) : Int))) || (decide ((12 : Int) < ((b.length : Nat) : Int)))) || (decide (spansE a ≠ (0 : Int)))) = false := (by first | exact eq_of_beq hgd | simpa using hgd); (.neq)) ?_
  refine VO.c (.or) ?_
  refine VO.go ?_
  refine VC.condB rfl (fun c1 => ?_) (fun c1 => ?_)
  · try simp only [Bool.and_eq_true, Bool.or_eq_true, Bool.and_eq_false_iff, Bool.or_eq_false_iff, Bool.not_eq_true', Bool.not_eq_false', decide_eq_true_eq, decide_eq_false_iff_not] at c1
    refine VC.seq (VC.text ?_)
    refine VO.call rfl rfl (VF.call (awake_ok )) ?_
    refine VO.c (.assign rfl) ?_
    refine VO.go ?_
    refine VC.ret ?_
    exact VEnd.one rfl evT (pvE (by rfl))
  try simp only [Bool.and_eq_true, Bool.or_eq_true, Bool.and_eq_false_iff, Bool.or_eq_false_iff, Bool.not_eq_true', Bool.not_eq_false', decide_eq_true_eq, decide_eq_false_iff_not] at c1
  have hla : a.length ≤ 12 := by omega
  have hlb : b.length ≤ 12 := by omega
  have hea : spansE a = 0 := Classical.not_not.1 c1.1.2
  have heb : spansE b = 0 := Classical.not_not.1 c1.2
  have hab : badE a b = 0 := badE_zero.2 ⟨hea, heb⟩
  have hba : badE b a = 0 := badE_zero.2 ⟨heb, hea⟩
  have haa : badE a a = 0 := badE_zero.2 ⟨hea, hea⟩
  have hs1 : badE a b = 0 → a.length + b.length ≤ 1000 := fun _ => by omega
  have hs2 : badE b a = 0 → b.length + a.length ≤ 1000 := fun _ => by omega
  have hs3 : badE a a = 0 → a.length + a.length ≤ 1000 := fun _ => by omega
  have hj1 := comb_len (ch := (false, true, true, true)) (a := a) (b := b)
  have hj2 := comb_len (ch := (false, false, false, true)) (a := a) (b := b)
  have hj3 := comb_len (ch := (false, true, false, false)) (a := a) (b := b)
  have hy1 := comb_sym (ch := (false, true, true, true)) hab rfl
  have hy2 := comb_sym (ch := (false, false, false, true)) hab rfl
  have hz := comb_self haa
  have hca := (spans_canon hea).1
  have hcb := (spans_canon heb).1
  have hrn : ∀ s ∈ a ++ b, 0 ≤ s.1 ∧ s.1 < s.2 ∧ s.2 ≤ 100000 := fun s hs => (List.mem_append.1 hs).elim (hca.1 s) (hcb.1 s)
  have hel : ∀ x ∈ [combE (false, true, true, true) a b, combE (false, false, false, true) a b, combE (false, true, false, false) a b], spansE x = 0 ∧ x.length < 1000000 := fun x hx => by
    simp only [List.mem_cons, List.not_mem_nil, or_false] at hx
    rcases hx with rfl | rfl | rfl
    · exact ⟨comb_check hab rfl (hs1 hab), hj1⟩
    · exact ⟨comb_check hab rfl (hs1 hab), hj2⟩
    exact ⟨comb_check hab rfl (hs1 hab), hj3⟩
  have hlab : (a ++ b).length ≤ 24 := by rw [List.length_append]; omega
  refine VC.skip (VC.seq (VC.text ?_))
  refine VO.c (.move rfl) ?_
  refine VO.call rfl rfl (VF.call (lSpans_ok (by first | assumption | omega | simp))) ?_
  refine VO.c (.move rfl) ?_
  refine VO.call rfl rfl (VF.call (lSpans_ok (by first | assumption | omega | simp))) ?_
  refine VO.call rfl rfl (VF.call (gJoin_ok (by first | assumption | omega | simp) (by first | assumption | omega | simp) (by first | assumption | omega | simp))) ?_
  refine VO.c (.move rfl) ?_
  refine VO.c (.extract) ?_
  refine VO.c (.extract) ?_
  rw [hab]
  refine VO.c (.assign rfl) ?_
  refine VO.c (.assign rfl) ?_
  refine VO.go (VC.seq (VC.text ?_))
  refine VO.c (.move rfl) ?_
  refine VO.call rfl rfl (VF.call (lSpans_ok (by first | assumption | omega | simp))) ?_
  refine VO.c (.move rfl) ?_
  refine VO.call rfl rfl (VF.call (lSpans_ok (by first | assumption | omega | simp))) ?_
  refine VO.call rfl rfl (VF.call (gMeet_ok (by first | assumption | omega | simp) (by first | assumption | omega | simp) (by first | assumption | omega | simp))) ?_
  refine VO.c (.move rfl) ?_
  refine VO.c (.extract) ?_
  refine VO.c (.extract) ?_
  rw [hab]
  refine VO.c (.assign rfl) ?_
  refine VO.c (.assign rfl) ?_
  refine VO.go (VC.seq ?_)
  refine VC.keep [(0, .v y22 a), (1, .v y22 b), (2, .v (.int .u16) t), (7, .v y22 (combE (false, true, true, true) a b)), (8, I 0), (9, .v y22 (combE (false, false, false, true) a b)), (10, I 0)] ⟨rfl, rfl, rfl, rfl, rfl, rfl, rfl, trivial⟩ ?_
  refine VC.text ?_
  refine VO.c (.move rfl) ?_
  refine VO.call rfl rfl (VF.call (lSpans_ok (by first | assumption | omega | simp))) ?_
  refine VO.c (.move rfl) ?_
  refine VO.call rfl rfl (VF.call (lSpans_ok (by first | assumption | omega | simp))) ?_
  refine VO.call rfl rfl (VF.call (gMinus_ok (by first | assumption | omega | simp) (by first | assumption | omega | simp) (by first | assumption | omega | simp))) ?_
  refine VO.c (.move rfl) ?_
  refine VO.c (.extract) ?_
  refine VO.c (.extract) ?_
  rw [hab]
  refine VO.c (.assign rfl) ?_
  refine VO.c (.assign rfl) ?_
  refine VO.go (VC.seq (VC.text ?_))
  refine VO.c (.move rfl) ?_
  refine VO.call rfl rfl (VF.call (lSpans_ok (by first | assumption | omega | simp))) ?_
  refine VO.c (.move rfl) ?_
  refine VO.call rfl rfl (VF.call (lSpans_ok (by first | assumption | omega | simp))) ?_
  refine VO.call rfl rfl (VF.call (gJoin_ok (by first | assumption | omega | simp) (by first | assumption | omega | simp) (by first | assumption | omega | simp))) ?_
  refine VO.c (.move rfl) ?_
  refine VO.c (.extract) ?_
  refine VO.c (.extract) ?_
  rw [hba, hy1]
  refine VO.c (.assign rfl) ?_
  refine VO.c (.assign rfl) ?_
  refine VO.go (VC.seq (VC.text ?_))
  refine VO.c (.move rfl) ?_
  refine VO.call rfl rfl (VF.call (lSpans_ok (by first | assumption | omega | simp))) ?_
  refine VO.c (.move rfl) ?_
  refine VO.call rfl rfl (VF.call (lSpans_ok (by first | assumption | omega | simp))) ?_
  refine VO.call rfl rfl (VF.call (gMeet_ok (by first | assumption | omega | simp) (by first | assumption | omega | simp) (by first | assumption | omega | simp))) ?_
  refine VO.c (.move rfl) ?_
  refine VO.c (.extract) ?_
  refine VO.c (.extract) ?_
  rw [hba, hy2]
  refine VO.c (.assign rfl) ?_
  refine VO.c (.assign rfl) ?_
  refine VO.go (VC.seq (VC.text ?_))
  refine VO.c (.move rfl) ?_
  refine VO.call rfl rfl (VF.call (lSpans_ok (by first | assumption | omega | simp))) ?_
  refine VO.c (.move rfl) ?_
  refine VO.call rfl rfl (VF.call (lSpans_ok (by first | assumption | omega | simp))) ?_
  refine VO.call rfl rfl (VF.call (gMinus_ok (by first | assumption | omega | simp) (by first | assumption | omega | simp) (by first | assumption | omega | simp))) ?_
  refine VO.c (.move rfl) ?_
  refine VO.c (.extract) ?_
  refine VO.c (.extract) ?_
  rw [haa, hz]
  refine VO.c (.assign rfl) ?_
  refine VO.c (.assign rfl) ?_
  refine VO.go (VC.seq (VC.seq ?_))
  refine VC.keep [(0, .v y22 a), (1, .v y22 b), (2, .v (.int .u16) t), (7, .v y22 (combE (false, true, true, true) a b)), (8, I 0), (9, .v y22 (combE (false, false, false, true) a b)), (10, I 0), (11, .v y22 (combE (false, true, false, false) a b)), (12, I 0), (13, .v y22 (combE (false, true, true, true) a b)), (14, I 0), (15, .v y22 (combE (false, false, false, true) a b)), (16, I 0), (17, .v y22 []), (18, I 0)] ⟨rfl, rfl, rfl, rfl, rfl, rfl, rfl, rfl, rfl, rfl, rfl, rfl, rfl, rfl, rfl, trivial⟩ ?_
  refine VC.text ?_
  refine VO.c (.move rfl) ?_
  refine VO.c (.move rfl) ?_
  refine VO.c (.add rfl rfl (by omega)) ?_
  refine VO.c (.move rfl) ?_
  refine VO.c (.add rfl rfl (by omega)) ?_
  refine VO.c (.move rfl) ?_
  refine VO.c (.add rfl rfl (by omega)) ?_
  refine VO.c (.move rfl) ?_
  refine VO.c (.add rfl rfl (by omega)) ?_
  refine VO.c (.move rfl) ?_
  refine VO.c (.add rfl rfl (by omega)) ?_
  refine VO.c (.neq) ?_
  rw [show decide ((0 : Int) + 0 + 0 + 0 + 0 + 0 ≠ 0) = false from rfl]
  refine VO.c (.move rfl) ?_
  refine VO.c (.move rfl) ?_
  refine VO.r (.len el22) ?_
  refine VO.c (.neq) ?_
  rw [show decide (((([] : List (Int × Int)).length : Nat) : Int) ≠ 0) = false from rfl]
  refine VO.c (.pickF rfl rfl) ?_
  refine VO.c (.move rfl) ?_
  refine VO.c (.move rfl) ?_
  refine VO.c (.move rfl) ?_
  refine VO.call rfl rfl (VF.call (rSameSp_ok (by first | assumption | omega | simp) (by first | assumption | omega | simp))) ?_
  refine VO.c (.not) ?_
  rw [eq_self_lit]
  refine VO.c (.pickF rfl rfl) ?_
  refine VO.c (.move rfl) ?_
  refine VO.c (.move rfl) ?_
  refine VO.c (.move rfl) ?_
  refine VO.call rfl rfl (VF.call (rSameSp_ok (by first | assumption | omega | simp) (by first | assumption | omega | simp))) ?_
  refine VO.c (.not) ?_
  rw [eq_self_lit]
  refine VO.c (.pickF rfl rfl) ?_
  refine VO.go ?_
  refine VC.condF rfl ?_
  refine VC.skip (VC.seq (VC.seq (VC.text ?_)))
  refine VO.c (.move rfl) ?_
  refine VO.c (.move rfl) ?_
  refine VO.c (.move rfl) ?_
  refine VO.new (.lit [combE (false, true, true, true) a b, combE (false, false, false, true) a b, combE (false, true, false, false) a b] el36) ?_
  refine VO.r (.len el36) ?_
  refine VO.c (.move rfl) ?_
  refine VO.go (VC.block ?_)
  refine VC.keep [(0, .v y22 a), (1, .v y22 b), (2, .v (.int .u16) t), (7, .v y22 (combE (false, true, true, true) a b)), (9, .v y22 (combE (false, false, false, true) a b)), (11, .v y22 (combE (false, true, false, false) a b)), (131, .v y36 [combE (false, true, true, true) a b, combE (false, false, false, true) a b, combE (false, true, false, false) a b]), (132, I (([combE (false, true, true, true) a b, combE (false, false, false, true) a b, combE (false, true, false, false) a b].length : Nat) : Int)), (133, I ((0 : Nat) : Int))] ⟨rfl, rfl, rfl, rfl, rfl, rfl, rfl, rfl, rfl, trivial⟩ ?_
  refine VC.loop (I := fun kk ff ss => ∃ (i : Nat), kk = 3 - i ∧ ff = [(0, .v y22 a), (1, .v y22 b), (2, .v (.int .u16) t), (7, .v y22 (combE (false, true, true, true) a b)), (9, .v y22 (combE (false, false, false, true) a b)), (11, .v y22 (combE (false, true, false, false) a b)), (131, .v y36 [combE (false, true, true, true) a b, combE (false, false, false, true) a b, combE (false, true, false, false) a b]), (132, I (([combE (false, true, true, true) a b, combE (false, false, false, true) a b, combE (false, true, false, false) a b].length : Nat) : Int)), (133, I ((i : Nat) : Int))] ∧ ss = [] ∧ (i ≤ 3)) ?_ _ _ _ ⟨0, rfl, rfl, rfl, Nat.zero_le _⟩
  rintro kk ff ss ⟨i, hk0, rfl, rfl, hi⟩
  refine VC.seq (VC.text ?_)
  refine VO.c (.lss) ?_
  refine VO.go (VC.seq ?_)
  refine VC.condD rfl (fun c12 => ?_) (fun c12 => ?_)
  · have hi3 : i < 3 := by simp only [List.length_cons, List.length_nil] at c12; omega
    have hx := hel _ (List.getElem_mem (show i < [combE (false, true, true, true) a b, combE (false, false, false, true) a b, combE (false, true, false, false) a b].length by simp; omega))
    refine VC.skip (VC.seq (VC.block (VC.seq (VC.text ?_))))
    refine VO.c (.ix (j := i) rfl rfl el36 (by omega)) ?_
    refine VO.r (.ld vt22) ?_
    refine VO.c (.assign rfl) ?_
    refine VO.go (VC.seq (VC.text ?_))
    refine VO.c (.move rfl) ?_
    refine VO.call rfl rfl (VF.call (lSpans_ok hx.2)) ?_
    refine VO.call rfl rfl (VF.call (gSpans_ok hx.2)) ?_
    refine VO.c (.neq) ?_
    refine VO.go ?_
    refine VC.condD rfl (fun c14 => ?_) (fun c14 => ?_)
    · exact absurd hx.1 c14
    refine VC.skip (VC.text ?_)
    refine VO.c (.add rfl rfl (by omega)) ?_
    refine VO.c (.move rfl) ?_
    refine VO.nil ?_
    refine ⟨_, [(0, .v y22 a), (1, .v y22 b), (2, .v (.int .u16) t), (7, .v y22 (combE (false, true, true, true) a b)), (9, .v y22 (combE (false, false, false, true) a b)), (11, .v y22 (combE (false, true, false, false) a b)), (131, .v y36 [combE (false, true, true, true) a b, combE (false, false, false, true) a b, combE (false, true, false, false) a b]), (132, I (([combE (false, true, true, true) a b, combE (false, false, false, true) a b, combE (false, true, false, false) a b].length : Nat) : Int)), (133, I (((i + 1) : Nat) : Int))], ?_, ⟨rfl, rfl, rfl, rfl, rfl, rfl, rfl, rfl, rfl, trivial⟩, (i + 1), rfl, rfl, rfl, (by omega)⟩
    omega
  refine VC.exit (VC.seq (VC.text ?_))
  refine VO.c (.move rfl) ?_
  refine VO.c (.convI rfl .i64 (by exact wrap64 (by omega) (by omega))) ?_
  refine VO.cell (.lit [t] el37) ?_
  intro ww1
  refine VO.c (.assign rfl) ?_
  refine VO.go (VC.seq (VC.seq (VC.text ?_)))
  refine VO.c (.move rfl) ?_
  refine VO.callG [] rfl rfl rfl (VFG.call (lSpansO_ok (by first | assumption | omega | simp))) ?_
  rintro _ _ ⟨ww2, rfl, rfl⟩
  show VO _ _ _ _ _ _ [(ww2, .row 39 y39 a), (ww1, .row 3 (.int .i64) [t])] _
  refine VO.c (.move rfl) ?_
  refine VO.app rfl rfl el22 el22 (by omega) ?_
  intro ww3
  refine VO.r (.lenO m0 el22) ?_
  refine VO.c (.move rfl) ?_
  refine VO.go (VC.block ?_)
  refine VC.keep [(0, .v y22 a), (1, .v y22 b), (7, .v y22 (combE (false, true, true, true) a b)), (9, .v y22 (combE (false, false, false, true) a b)), (11, .v y22 (combE (false, true, false, false) a b)), (21, .raw ww1), (148, .raw ww3), (149, I (((a ++ b).length : Nat) : Int)), (150, I ((0 : Nat) : Int))] ⟨rfl, rfl, rfl, rfl, rfl, rfl, rfl, rfl, rfl, trivial⟩ ?_
  refine VC.loop (I := fun kk ff ss => ∃ (i : Nat) (out : Value), kk = (a ++ b).length - i ∧ ff = [(0, .v y22 a), (1, .v y22 b), (7, .v y22 (combE (false, true, true, true) a b)), (9, .v y22 (combE (false, false, false, true) a b)), (11, .v y22 (combE (false, true, false, false) a b)), (21, .raw out), (148, .raw ww3), (149, I (((a ++ b).length : Nat) : Int)), (150, I ((i : Nat) : Int))] ∧ ss = [(ww3, .row 39 y39 (a ++ b)), (out, .row 3 (.int .i64) (tickE (a ++ b) t i))] ∧ (i ≤ (a ++ b).length)) ?_ _ _ _ ⟨0, ww1, rfl, rfl, (by rfl), (by omega)⟩
  rintro kk ff ss ⟨i, out, hk2, rfl, rfl, hi⟩
  refine VC.seq (VC.text ?_)
  refine VO.c (.lss) ?_
  refine VO.go (VC.seq ?_)
  refine VC.condD rfl (fun c19 => ?_) (fun c19 => ?_)
  · have hil : i < (a ++ b).length := by omega
    have hsi := hrn _ (List.getElem_mem hil)
    have htl := tick_len (l := a ++ b) (t := t) (i := i)
    refine VC.skip (VC.seq (VC.block (VC.seq (VC.text ?_))))
    refine VO.c (.ixO (j := i) rfl rfl m0 el22 (by omega)) ?_
    refine VO.r (.ldO rfl m0 vt39 (by omega)) ?_
    refine VO.cell (.alloc zt39) ?_
    intro ww4
    refine VO.setV (cs' := [I (((a ++ b)[i]).1), I (((a ++ b)[i]).2)]) vt39 .v ?_
    refine VO.shut [(23, .p y39 ((a ++ b)[i]))] (.cons rfl (.var m0 .refl) .nil) ?_
    refine VO.go (VC.text ?_)
    refine VO.c (.move rfl) ?_
    refine VO.c (.fa (.l .o)) ?_
    refine VO.r (.ld vt3) ?_
    refine VO.c (.sub rfl rfl (by omega)) ?_
    refine VO.c (.fa (.l .o)) ?_
    refine VO.r (.ld vt3) ?_
    refine VO.c (.fa (.r .o)) ?_
    refine VO.r (.ld vt3) ?_
    refine VO.c (.sub rfl rfl (by omega)) ?_
    refine VO.c (.fa (.r .o)) ?_
    refine VO.r (.ld vt3) ?_
    refine VO.new (.lit [(((a ++ b)[i]).1 - (1 : Int)), ((a ++ b)[i]).1, (((a ++ b)[i]).2 - (1 : Int)), ((a ++ b)[i]).2] el37) ?_
    refine VO.perm swap1 ?_
    refine VO.app rfl rfl el37 el37 (by simp only [List.length_append, List.length_cons, List.length_nil] at *; omega) ?_
    intro ww5
    refine VO.c (.assign rfl) ?_
    refine VO.nil (VC.text ?_)
    refine VO.c (.add rfl rfl (by omega)) ?_
    refine VO.c (.move rfl) ?_
    refine VO.perm swap1 ?_
    refine VO.nil ?_
    refine ⟨_, [(0, .v y22 a), (1, .v y22 b), (7, .v y22 (combE (false, true, true, true) a b)), (9, .v y22 (combE (false, false, false, true) a b)), (11, .v y22 (combE (false, true, false, false) a b)), (21, .raw ww5), (148, .raw ww3), (149, I (((a ++ b).length : Nat) : Int)), (150, I (((i + 1) : Nat) : Int))], ?_, ⟨rfl, rfl, rfl, rfl, rfl, rfl, rfl, rfl, rfl, trivial⟩, (i + 1), ww5, rfl, rfl, (by rw [tick_succ hil]), (by omega)⟩
    omega
  refine VC.exit (VC.seq (VC.seq (VC.text ?_)))
  refine VO.c (.move rfl) ?_
  refine VO.r (.lenO m1 el37) ?_
  refine VO.c (.move rfl) ?_
  refine VO.go (VC.block ?_)
  refine VC.keep [(0, .v y22 a), (1, .v y22 b), (7, .v y22 (combE (false, true, true, true) a b)), (9, .v y22 (combE (false, false, false, true) a b)), (11, .v y22 (combE (false, true, false, false) a b)), (168, .raw out), (169, I (((tickE (a ++ b) t i).length : Nat) : Int)), (170, I ((0 : Nat) : Int))] ⟨rfl, rfl, rfl, rfl, rfl, rfl, rfl, rfl, trivial⟩ ?_
  refine VC.loop (I := fun kk ff ss => ∃ (q : Nat), kk = (tickE (a ++ b) t i).length - q ∧ ff = [(0, .v y22 a), (1, .v y22 b), (7, .v y22 (combE (false, true, true, true) a b)), (9, .v y22 (combE (false, false, false, true) a b)), (11, .v y22 (combE (false, true, false, false) a b)), (168, .raw out), (169, I (((tickE (a ++ b) t i).length : Nat) : Int)), (170, I ((q : Nat) : Int))] ∧ ss = [(ww3, .row 39 y39 (a ++ b)), (out, .row 3 (.int .i64) (tickE (a ++ b) t i))] ∧ (q ≤ (tickE (a ++ b) t i).length)) ?_ _ _ _ ⟨0, rfl, rfl, rfl, (by omega)⟩
  rintro kk ff ss ⟨q, hk4, rfl, rfl, hq⟩
  refine VC.seq (VC.text ?_)
  refine VO.c (.lss) ?_
  refine VO.go (VC.seq ?_)
  refine VC.condD rfl (fun c24 => ?_) (fun c24 => ?_)
  · have htl4 := tick_len (l := a ++ b) (t := t) (i := i)
    refine VC.skip (VC.seq (VC.block (VC.seq (VC.text ?_))))
    refine VO.c (.ixO (j := q) rfl rfl m1 el37 (by omega)) ?_
    refine VO.r (.ldO rfl m1 vt3 (by omega)) ?_
    refine VO.c (.assign rfl) ?_
    refine VO.go (VC.seq (VC.text ?_))
    refine VO.c (.move rfl) ?_
    refine VO.c (.move rfl) ?_
    refine VO.call rfl rfl (VF.call (rHas_ok (by first | assumption | omega | simp))) ?_
    refine VO.c (.move rfl) ?_
    refine VO.c (.move rfl) ?_
    refine VO.call rfl rfl (VF.call (rHas_ok (by first | assumption | omega | simp))) ?_
    refine VO.c (.assign rfl) ?_
    refine VO.c (.assign rfl) ?_
    refine VO.go (VC.seq (VC.text ?_))
    refine VO.c (.move rfl) ?_
    refine VO.c (.move rfl) ?_
    refine VO.call rfl rfl (VF.call (rHas_ok (by first | assumption | omega | simp))) ?_
    refine VO.c (.move rfl) ?_
    refine VO.c (.move rfl) ?_
    refine VO.cg (r := Sp.inL a ((tickE (a ++ b) t i)[q])) (w := false) [] trivial (fun hgd => have g27_4 : Sp.inL a ((tickE (a ++ b) t i)[q]) = false := (by simpa using hgd); (.move rfl)) ?_
    refine VO.c (.or) ?_
    refine VO.c (.bneq) ?_
    rw [has_join hab]
    refine VO.c (.move rfl) ?_
    refine VO.c (.move rfl) ?_
    refine VO.c (.move rfl) ?_
    refine VO.call rfl rfl (VF.call (rHas_ok (by first | assumption | omega | simp))) ?_
    refine VO.c (.move rfl) ?_
    refine VO.c (.move rfl) ?_
    refine VO.cg (r := Sp.inL a ((tickE (a ++ b) t i)[q])) (w := true) [] trivial (fun hgd => have g27_13 : Sp.inL a ((tickE (a ++ b) t i)[q]) = true := (by simpa using hgd); (.move rfl)) ?_
    refine VO.c (.and) ?_
    refine VO.c (.bneq) ?_
    rw [has_meet hab]
    refine VO.c (.pickF rfl rfl) ?_
    refine VO.c (.move rfl) ?_
    refine VO.c (.move rfl) ?_
    refine VO.c (.move rfl) ?_
    refine VO.call rfl rfl (VF.call (rHas_ok (by first | assumption | omega | simp))) ?_
    refine VO.c (.move rfl) ?_
    refine VO.c (.move rfl) ?_
    refine VO.cg (r := Sp.inL a ((tickE (a ++ b) t i)[q])) (w := true) [] trivial (fun hgd => have g27_23 : Sp.inL a ((tickE (a ++ b) t i)[q]) = true := (by simpa using hgd); (.move rfl)) ?_
    refine VO.cg (r := Sp.inL a ((tickE (a ++ b) t i)[q])) (w := true) [(204, B (Sp.inL b ((tickE (a ++ b) t i)[q])))] ⟨rfl, trivial⟩ (fun hgd => have g27_23 : Sp.inL a ((tickE (a ++ b) t i)[q]) = true := (by simpa using hgd); (.not)) ?_
    refine VO.c (.and) ?_
    refine VO.c (.bneq) ?_
    rw [has_minus hab]
    refine VO.c (.pickF rfl rfl) ?_
    refine VO.go ?_
    refine VC.condF rfl ?_
    refine VC.skip ?_
    refine VC.keep [(0, .v y22 a), (1, .v y22 b), (7, .v y22 (combE (false, true, true, true) a b)), (9, .v y22 (combE (false, false, false, true) a b)), (11, .v y22 (combE (false, true, false, false) a b)), (168, .raw out), (169, I (((tickE (a ++ b) t i).length : Nat) : Int)), (170, I ((q : Nat) : Int))] ⟨rfl, rfl, rfl, rfl, rfl, rfl, rfl, rfl, trivial⟩ ?_
    refine VC.text ?_
    refine VO.c (.add rfl rfl (by omega)) ?_
    refine VO.c (.move rfl) ?_
    refine VO.nil ?_
    refine ⟨_, [(0, .v y22 a), (1, .v y22 b), (7, .v y22 (combE (false, true, true, true) a b)), (9, .v y22 (combE (false, false, false, true) a b)), (11, .v y22 (combE (false, true, false, false) a b)), (168, .raw out), (169, I (((tickE (a ++ b) t i).length : Nat) : Int)), (170, I (((q + 1) : Nat) : Int))], ?_, ⟨rfl, rfl, rfl, rfl, rfl, rfl, rfl, rfl, trivial⟩, (q + 1), rfl, rfl, rfl, (by omega)⟩
    omega
  refine VC.exit (VC.seq (VC.text ?_))
  refine VO.c (.assign rfl) ?_
  refine VO.go ?_
  refine VC.ret ?_
  exact VEnd.one rfl evT (pvE (by rfl))
end Go.Proofs
namespace Go.Fs
open Go.RowKit (Below)
variable {P : Program}
def orcB (fi fj fc : FuncId) (T : TypeId) : FuncId → List Value → Heap → Option (Value × Heap) := fun f xs h =>
  bif Nat.beq f fc then
    match xs with
    | [.pointer (some ⟨b, 0, none⟩)] =>
      match h.get b with
      | some (.row e [p, v] true false) =>
        bif Nat.beq e T then
          match p with
          | .pointer none => some (.tuple #[], h.set b (.row e [.pointer (some ⟨b, 0, none⟩), v] true false))
          | .pointer (some ⟨b', 0, none⟩) => bif Nat.beq b' b then some (.tuple #[], h) else none
          | _ => none
        else none
      | _ => none
    | _ => none
  else orcS fi fj f xs h
theorem orcB_sound {B : Nat} {w0 : World} {fi fj fc : FuncId} {T : TypeId} (hz : w0.drawn = 0) (hS : CallSound P B w0 (orcS fi fj)) (hc : Enters P fc)
    (hF : ∀ (b : Nat) (w : World), w.cell? ⟨b, 0, none⟩ = some (.pointer none) → w.shape? b = some (T, 2) → w.frozen? ⟨b, 0, none⟩ = false →
      Calls P fc #[.pointer (some ⟨b, 0, none⟩)] w fun e w' => e = .returned (.tuple #[]) ∧ w' = w.setCell ⟨b, 0, none⟩ (.pointer (some ⟨b, 0, none⟩)))
    (hU : ∀ (b : Nat) (w : World), w.cell? ⟨b, 0, none⟩ = some (.pointer (some ⟨b, 0, none⟩)) → Calls P fc #[.pointer (some ⟨b, 0, none⟩)] w fun e w' => e = .returned (.tuple #[]) ∧ w' = w) :
    CallSound P B w0 (orcB fi fj fc T) := by
  intro f xs h v h' hf
  unfold orcB at hf
  cases hb : Nat.beq f fc with
  | false =>
    rw [hb] at hf
    exact hS f xs h v h' hf
  | true =>
    have := nbeq hb
    subst this
    rw [hb] at hf
    simp only [cond_true] at hf
    split at hf
    · rename_i b
      split at hf
      · rename_i e p u hg
        obtain ⟨he, hf2⟩ := bif_some hf
        obtain rfl := nbeq he
        refine ⟨hc, fun ρ S w args' hr ha nn => ?_⟩
        obtain ⟨hsb, cur, k1, k2, k3, k4, k5, k6, k7⟩ := hr.objs b _ hg
        have hcl : cur.length = 2 := (k6 rfl).symm
        match cur, hcl with
        | [p', u'], _ =>
        have hp : VR ρ S p p' := k7 0 (by simp)
        have hu : VR ρ S u u' := k7 1 (by simp)
        have hat : (ρ b).at 0 = ⟨(ρ b).block, 0, none⟩ := by unfold Loc.at; rw [k2]
        have harg : args' = [.pointer (some ⟨(ρ b).block, 0, none⟩)] := by
          have h1 := ha.1
          match args', h1 with
          | [a], _ =>
            have h2 : VR ρ S (.pointer (some ⟨b, 0, none⟩)) a := ha.2 0 (by simp)
            rw [h2.ptr_inv.2, hat]
        subst harg
        have hcell : w.cell? ⟨(ρ b).block, 0, none⟩ = some p' := by simp [World.cell?, k1]
        split at hf2
        · simp only [Option.some.injEq, Prod.mk.injEq] at hf2
          obtain ⟨rfl, rfl⟩ := hf2
          obtain rfl := hp.eq_of_af0 rfl
          have hC : CallsIn Fence.wide nn P f #[.pointer (some ⟨(ρ b).block, 0, none⟩)] w _ := callsIn_wide.2 (hF (ρ b).block w hcell (by simp [World.shape?, k1]) (frozen_soft k1 (by rw [k3]; exact Nat.zero_lt_succ _)))
          refine hC.mono fun e2 w' hret => ?_
          obtain ⟨rfl, rfl⟩ := hret
          refine ⟨ρ, Moved.set hr hg rfl rfl rfl rfl rfl (by simp [World.setCell]) (fun k hk => ?_) ?_, VR.tuple' LR.nil⟩
          · simp only [World.setCell, Array.getElem?_modify]
            rw [if_neg (fun e0 => hk e0.symm)]
          refine ⟨[.pointer (some ⟨(ρ b).block, 0, none⟩), u'], ?_, k2, k3, k4, Nat.le_refl _, fun _ => rfl, fun i hi => ?_⟩
          · simp only [World.setCell, Array.getElem?_modify, if_pos rfl, k1]
            simp
          match i, hi with
          | 0, _ => show VR ρ S (.pointer (some ⟨b, 0, none⟩)) (.pointer (some ⟨(ρ b).block, 0, none⟩)); rw [← hat]; exact .ptr b 0 hsb
          | 1, _ => exact hu
        · rename_i b'
          obtain ⟨hbb, hf3⟩ := bif_some hf2
          obtain rfl := nbeq hbb
          simp only [Option.some.injEq, Prod.mk.injEq] at hf3
          obtain ⟨rfl, rfl⟩ := hf3
          have hp2 := hp.ptr_inv.2
          rw [hat] at hp2
          subst hp2
          have hC : CallsIn Fence.wide nn P f #[.pointer (some ⟨(ρ b').block, 0, none⟩)] w _ := callsIn_wide.2 (hU (ρ b').block w hcell)
          refine hC.mono fun e2 w' hret => ?_
          obtain ⟨rfl, rfl⟩ := hret
          exact ⟨ρ, Moved.same hr, VR.tuple' LR.nil⟩
        cases hf2
      cases hf
    cases hf
end Go.Fs
