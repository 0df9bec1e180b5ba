/- Parts of the proof: an evaluator of the model, what it is sound for, and contracts of functions. No condition. -/
import Derived.Test.YtjmkmalgfanifaaGreatDoorP4
import Derived.Test.YtjmkmalgfanifaaGreatDoorP3
import Derived.Laws.Strings
import Derived.Test.YtjmkmalgfanifaaGreatDoorP2
import Ieee.Arith
import Derived.Sort.AssemblyPlain
import Derived.Shelf.SlSortCmp.InsertionK
import Derived.Sort.OwnSorted
import Derived.Test.YtjmkmalgfanifaaGreatDoorChecked
import Derived.ChangeArms
import Derived.Carry
import Derived.RowKit
import Derived.OpenShut
set_option linter.all false
namespace Go.Fs
variable {P : Program} {orc : FuncId → List Value → Heap → Option (Value × Heap)} {h : Heap} {σ : Sto} {fl : VL} {n i mem : Nat} {l : List Oper} {K : VL → Sto → Prop} {ops : Array Oper} {bs nw0 : List Nat} {tail so : Bool}
theorem VD.nw (nw1 : List Nat) (hk : VD P orc ops n l i fl nw1 σ so bs mem tail K) (he : nw0 = nw1 := by rfl) : VD P orc ops n l i fl nw0 σ so bs mem tail K := he ▸ hk
theorem VF.oracle {f : FuncId} {τ : Ty} {dv : τ.den} {v : Value} (ho : ∀ h : Heap, orc f [] h = some (v, h)) (hv : ∀ (h : Heap) (S : List Nat), RepPV h S (.v τ dv) v) : VF P orc f [] (.v τ dv) := fun h S us hok hS hr => by
  obtain rfl : us = [] := by
    cases us with
    | nil => rfl
    | cons a r => cases hr
  exact EvF.oracle (ho h) ⟨Aft.refl _ _, hv h S, fun _ => rfl⟩
end Go.Fs
namespace Go.Fs
variable {P : Program} {h : Heap} {S : List Nat}
def eqF (E : Ty → TypeId → Bool) : List Field → Nat → Ty → Bool
  | [], _, .unit => true
  | f :: r, o, .pair a b => (!(f.name == "_") && Nat.beq f.offset o && E a f.type && eqF E r (o + a.size) b) || (r.isEmpty && !(f.name == "_") && Nat.beq f.offset o && E (.pair a b) f.type)
  | [f], o, τ => !(f.name == "_") && Nat.beq f.offset o && E τ f.type
  | _, _, _ => false
def eqV (P : Program) : Nat → Ty → TypeId → Bool
  | 0, _, _ => false
  | d + 1, τ, T => valB P T τ && match P.underlying T, τ with
    | some (.int k), .int k' => k == k'
    | some .bool, .bool => true
    | some .string, .str => true
    | some (.struct fs), .pair a b => !P.stoodInHeld T && eqF (eqV P d) fs.toList 0 (.pair a b)
    | _, _ => false
theorem bytes_beq_t {x y : ByteArray} (he : x = y) : (x == y) = true := by
  subst he; show (x.data == x.data) = true; simp
theorem bytes_beq_f {x y : ByteArray} (he : ¬ x = y) : (x == y) = false := by
  show (x.data == y.data) = false; simp only [beq_eq_false_iff_ne, ne_eq]; exact fun hd => he (ByteArray.ext hd)
theorem size_noagg {τ : Ty} (h : τ.agg = false) : τ.size = 1 := by cases τ <;> first | rfl | cases h
theorem part_rep {T : TypeId} {τ : Ty} (hT : ValT P T τ) {cs : Array Value} {o : Nat} {x : τ.den} (hr : RepC h S τ ((cs.toList.drop o).take τ.size) x) : ∃ v, runPure P (part T cs o) = some v ∧ RepV h S τ v x := by
  obtain ⟨i, hi, hsz⟩ := hT.info; obtain ⟨d, hd, hag⟩ := hT.agg
  have hA : runPure P (isAgg T) = some τ.agg := by
    unfold isAgg; rw [runPure_bind, runPure_underlying hd, ← hag]; cases d <;> rfl
  unfold part; rw [runPure_bind, hA]; simp only [Option.bind_some]
  cases hga : τ.agg with
  | true =>
    simp only [if_true]; rw [runPure_bind, runPure_sizeOf hi]; refine ⟨_, rfl, hga.symm, ?_⟩; show RepC h S τ (cs.extract o (o + i.size)).toList x; rw [hsz, Array.toList_extract]
    simpa [List.extract_eq_take_drop] using hr
  | false =>
    simp only [Bool.false_eq_true, if_false]; obtain ⟨v, h1, h2⟩ := RepC.one hga hr
    have h3 : cs[o]? = some v := by
      have := congrArg (fun l => l[0]?) h1; simp only [size_noagg hga] at this; simpa using this
    rw [h3]; exact ⟨v, rfl, h2⟩
theorem fields_eq {E : Ty → TypeId → Bool} {n : Nat} {cs ds : Array Value} (hE : ∀ τ T, E τ T = true → ValT P T τ ∧ ∀ (u v : Value) (x y : τ.den) (inst : Decidable (x = y)), RepV h S τ u x → RepV h S τ v y → runPure P (Op.equalIn n T u v) = some (@decide (x = y) inst)) :
    ∀ (l : List Field) (o : Nat) (τ : Ty) (x y : τ.den) (inst : Decidable (x = y)), eqF E l o τ = true → RepC h S τ (cs.toList.drop o) x → RepC h S τ (ds.toList.drop o) y →
    runPure P (forIn l (none, ()) fun f __s =>
            if f.name ≠ "_" then do
              let __do_lift ← part f.type cs f.offset
              let __do_lift_1 ← part f.type ds f.offset
              let __do_lift ← Op.equalIn n f.type __do_lift __do_lift_1
              if (!__do_lift) = true then pure (ForInStep.done (some false, ())) else pure (ForInStep.yield (none, ()))
            else pure (ForInStep.yield (none, ()))) = some (if x = y then ((none : Option Bool), ()) else (some false, ())) := by
  intro l
  have key : ∀ (f : Field) (r : List Field) (o : Nat) (τ : Ty) (x y : τ.den) (inst : Decidable (x = y)) (R : Option (Option Bool × Unit)), (!(f.name == "_")) = true → Nat.beq f.offset o = true → E τ f.type = true → RepC h S τ ((cs.toList.drop o).take τ.size) x → RepC h S τ ((ds.toList.drop o).take τ.size) y →
      runPure P (forIn (f :: r) (none, ()) fun f __s =>
            if f.name ≠ "_" then do
              let __do_lift ← part f.type cs f.offset
              let __do_lift_1 ← part f.type ds f.offset
              let __do_lift ← Op.equalIn n f.type __do_lift __do_lift_1
              if (!__do_lift) = true then pure (ForInStep.done (some false, ())) else pure (ForInStep.yield (none, ()))
            else pure (ForInStep.yield (none, ()))) = if x = y then runPure P (forIn r (none, ()) fun f __s =>
            if f.name ≠ "_" then do
              let __do_lift ← part f.type cs f.offset
              let __do_lift_1 ← part f.type ds f.offset
              let __do_lift ← Op.equalIn n f.type __do_lift __do_lift_1
              if (!__do_lift) = true then pure (ForInStep.done (some false, ())) else pure (ForInStep.yield (none, ()))
            else pure (ForInStep.yield (none, ()))) else some (some false, ()) := by
    intro f r o τ x y inst R n1 n2 n3 r1 r2; obtain ⟨hT, hq⟩ := hE _ _ n3; obtain ⟨u, u1, u2⟩ := part_rep hT r1; obtain ⟨v, v1, v2⟩ := part_rep hT r2
    have hn : f.name ≠ "_" := by simpa using n1
    have ho := nbeq n2; rw [List.forIn_cons]; simp only [hn, ne_eq, not_false_eq_true, if_true, runPure_bind, ho, u1, v1, Option.bind_some, hq u v x y inst u2 v2]; by_cases he : x = y <;> simp [he, runPure_pure, runPure_bind]
  induction l with
  | nil =>
    intro o τ x y inst hb hx hy; cases τ <;> first | (cases hb; done) | skip
    simp [runPure_pure]
  | cons f r ih =>
    intro o τ x y inst hb hx hy; by_cases hp : (∀ a b, τ ≠ .pair a b) ∨ (r = [] ∧ (!(f.name == "_")) = true ∧ Nat.beq f.offset o = true ∧ E τ f.type = true)
    · have hs : r = [] ∧ (!(f.name == "_")) = true ∧ Nat.beq f.offset o = true ∧ E τ f.type = true := by
        rcases hp with hp | hp
        · cases τ with
          | pair a b => exact absurd rfl (hp a b)
          | _ =>
            cases r with
            | cons f' r => cases hb
            | nil =>
              obtain ⟨n1, n3⟩ := band (show (!(f.name == "_") && Nat.beq f.offset o && E _ f.type) = true from hb); obtain ⟨n1, n2⟩ := band n1; exact ⟨rfl, n1, n2, n3⟩
        exact hp
      obtain ⟨rfl, n1, n2, n3⟩ := hs; rw [key f [] o τ x y inst none n1 n2 n3 (by rw [List.take_of_length_le (Nat.le_of_eq hx.len)]; exact hx) (by rw [List.take_of_length_le (Nat.le_of_eq hy.len)]; exact hy)]; by_cases he : x = y <;> simp [he, runPure_pure]
    cases τ with
    | pair a b =>
      have hb2 : ((!(f.name == "_") && Nat.beq f.offset o && E a f.type && eqF E r (o + a.size) b) || (r.isEmpty && !(f.name == "_") && Nat.beq f.offset o && E (.pair a b) f.type)) = true := hb; rcases Bool.or_eq_true_iff.1 hb2 with h1 | h1
      · obtain ⟨h1, n4⟩ := band h1; obtain ⟨h1, n3⟩ := band h1; obtain ⟨n1, n2⟩ := band h1; have hd := Classical.propDecidable (x.1 = y.1); have hd2 := Classical.propDecidable (x.2 = y.2); rw [key f r o a x.1 y.1 hd none n1 n2 n3 hx.1 hy.1]; have h2 := ih (o + a.size) b x.2 y.2 hd2 n4 (by rw [← List.drop_drop]; exact hx.2) (by rw [← List.drop_drop]; exact hy.2); rw [h2]; by_cases e1 : x.1 = y.1
        · by_cases e2 : x.2 = y.2
          · rw [if_pos e1, if_pos e2, if_pos (Prod.ext e1 e2)]
          rw [if_pos e1, if_neg e2, if_neg (fun e => e2 (by rw [e]))]
        rw [if_neg e1, if_neg (fun e => e1 (by rw [e]))]
      obtain ⟨h1, n3⟩ := band h1; obtain ⟨h1, n2⟩ := band h1; obtain ⟨h1, n1⟩ := band h1
      exact absurd (.inr ⟨by simpa using h1, n1, n2, n3⟩) hp
    | _ => exact absurd (.inl fun _ _ h => by cases h) hp
theorem eqV_ok : ∀ (d : Nat) (τ : Ty) (T : TypeId), eqV P d τ T = true → ∀ (D : Nat) (u v : Value) (x y : τ.den) (inst : Decidable (x = y)), RepV h S τ u x → RepV h S τ v y → runPure P (Op.equalIn (D + d) T u v) = some (@decide (x = y) inst) := by
  intro d
  induction d with
  | zero => intro τ T hb; cases hb
  | succ d ih =>
    intro τ T hb D u v x y inst hu hv; unfold eqV at hb; obtain ⟨hvt, hb⟩ := band hb
    cases hU : P.underlying T with
    | none => simp only [hU] at hb; cases hb
    | some dsc =>
      simp only [hU] at hb; cases τ <;> cases dsc <;> try (cases hb; done)
      · rename_i k _ k'
        obtain rfl : k = k' := by
          have : (k' == k) = true := hb; exact (by simpa using this : k' = k).symm
        obtain rfl := RepV.int hu; obtain rfl := RepV.int hv; rw [show D + (d + 1) = (D + d) + 1 from rfl, Op.equalIn, runPure_bind, runPure_underlying hU]; simp only [Option.bind_some, if_true]; show some (_ == _) = _; by_cases he : x = y <;> simp [he]
      · obtain rfl := RepV.bool hu; obtain rfl := RepV.bool hv; rw [show D + (d + 1) = (D + d) + 1 from rfl, Op.equalIn, runPure_bind, runPure_underlying hU]; simp only [Option.bind_some]; show some (_ == _) = _; by_cases he : x = y <;> simp [he]
      · obtain rfl := RepV.str hu; obtain rfl := RepV.str hv; rw [show D + (d + 1) = (D + d) + 1 from rfl, Op.equalIn, runPure_bind, runPure_underlying hU]; simp only [Option.bind_some]; show some (_ == _) = _; by_cases he : x = y
        · rw [decide_eq_true he]; exact congrArg some (bytes_beq_t he)
        rw [decide_eq_false he]; exact congrArg some (bytes_beq_f he)
      rename_i a b fs; obtain ⟨h1, h2⟩ := band hb
      have hs : P.stoodInHeld T = false := by simpa using h1
      obtain ⟨cs, rfl⟩ : ∃ cs, u = .agg cs := by
        have := hu.1; cases u <;> first | exact ⟨_, rfl⟩ | cases this
      obtain ⟨ds, rfl⟩ : ∃ cs, v = .agg cs := by
        have := hv.1; cases v <;> first | exact ⟨_, rfl⟩ | cases this
      rw [show D + (d + 1) = (D + d) + 1 from rfl, Op.equalIn]; rw [runPure_bind, runPure_underlying hU]; simp only [Option.bind_some, runPure_bind, runPure_program, hs, Bool.false_eq_true, if_false]; simp only [← Array.forIn_toList]; have hF := fields_eq (h := h) (S := S) (cs := cs) (ds := ds) (n := D + d) (fun τ T hb => ⟨valT_of ?_, fun u v x y inst => ih τ T hb D u v x y inst⟩) fs.toList 0 _ x y inst h2 hu.2 hv.2
      · rw [hF]; by_cases he : x = y <;> simp [he, runPure_pure]
      cases d with
      | zero => cases hb
      | succ d => unfold eqV at hb; exact (band hb).1
structure EqT (P : Program) (T : TypeId) (τ : Ty) : Prop where
  eq : eqV P 40 τ T = true
  guard : P.eqGuardType P.depth T = false
  agg : τ.agg = true
  flat : τ.isFlat = true
theorem eqT_of {T : TypeId} {τ : Ty} (hb : (eqV P 40 τ T && !P.eqGuardType P.depth T && τ.agg && τ.isFlat) = true) : EqT P T τ := by
  obtain ⟨h1, h4⟩ := band hb; obtain ⟨h1, h3⟩ := band h1; obtain ⟨h1, h2⟩ := band h1; exact ⟨h1, by simpa using h2, h3, h4⟩
theorem EqT.run {T : TypeId} {τ : Ty} (hT : EqT P T τ) {u v : Value} {x y : τ.den} {inst : Decidable (x = y)} (hu : RepV h S τ u x) (hv : RepV h S τ v y) : runPure P (Op.equal T u v) = some (@decide (x = y) inst) :=
  eqV_ok 40 τ T hT.eq 9960 u v x y inst hu hv
theorem aggOf {τ : Ty} {u : Value} {x : τ.den} (ha : τ.agg = true) (hu : RepV h S τ u x) : ∃ cs, u = .agg cs := by
  have h1 := hu.1.trans ha; cases u <;> first | exact ⟨_, rfl⟩ | cases h1
variable {fl : VL} {σ : Sto} {x y : Operand} {T T' : TypeId} {τ : Ty}
theorem CalmV.eeql {p q : τ.den} [inst : Decidable (p = q)] (hT : EqT P T τ) (hx : evV fl x = some (.v τ p) := by rfl) (hy : evV fl y = some (.v τ q) := by rfl) : CalmV P fl σ (.binOp .eql T x y T') (.v .bool (decide (p = q))) :=
  .bin hx hy fun h S a c ha hc => by
    have h1 := hT.run (inst := inst) ha hc; obtain ⟨cs, rfl⟩ := aggOf hT.agg ha; obtain ⟨ds, rfl⟩ := aggOf hT.agg hc; refine ⟨.bool (decide (p = q)), RepV.ofBool _, ?_, ?_⟩
    · rw [(RepPV.flat (pv := .v τ p) hT.flat ha).1, (RepPV.flat (pv := .v τ q) hT.flat hc).1]; rfl
    have he : runPure P (eqGuard .eql T x y (.agg cs) (.agg ds)) = some () := by
      unfold eqGuard; simp [runPure_bind, runPure_program, hT.guard, runPure_pure]
    have hb : runPure P (binOp .eql T (.agg cs) (.agg ds)) = some (.bool (decide (p = q))) := by
      unfold binOp; simp only [runPure_bind, h1, Option.bind_some, runPure_pure]
    unfold purely; rw [runPure_bind, he]; simp only [Option.bind_some, hb]; rfl
theorem bytes_list {a b : ByteArray} : (a.toList == b.toList) = decide (a = b) := by
  rw [ByteArray.toList_eq, ByteArray.toList_eq]; by_cases h : a = b
  · subst h; simp
  rw [decide_eq_false h, beq_eq_false_iff_ne]; exact fun he => h (ByteArray.ext (Array.toList_inj.1 he))
variable {p q : ByteArray}
theorem CalmV.binS (b : BinOp) {u : Value} {v : PV} (hx : evV fl x = some (.v .str p)) (hy : evV fl y = some (.v .str q)) (hu : runPure P (Op.stringOp b p q) = some u) (hf : af u = true) (hb : ∀ T : TypeId, (do eqGuard b T x y (.string p) (.string q); binOp b T (.string p) (.string q)) = Op.stringOp b p q) (hv : ∀ h S, RepPV h S v u) : CalmV P fl σ (.binOp b T x y T') v :=
  .bin hx hy fun h S a c ha hc => by
    obtain rfl := RepV.str ha; obtain rfl := RepV.str hc; refine ⟨u, hv h S, rfl, ?_⟩; unfold purely; rw [hb, hu]; simp only [Option.bind_some, hf, if_true]
theorem CalmV.seql (hx : evV fl x = some (.v .str p) := by rfl) (hy : evV fl y = some (.v .str q) := by rfl) : CalmV P fl σ (.binOp .eql T x y T') (.v .bool (decide (p = q))) :=
  .binS .eql hx hy (u := .bool (decide (p = q))) (by rw [← bytes_list]; rfl) rfl (fun _ => rfl) fun h S => RepV.ofBool _
theorem CalmV.sneq (hx : evV fl x = some (.v .str p) := by rfl) (hy : evV fl y = some (.v .str q) := by rfl) : CalmV P fl σ (.binOp .neq T x y T') (.v .bool (decide (p ≠ q))) :=
  .binS .neq hx hy (u := .bool (decide (p ≠ q))) (by rw [decide_not, ← bytes_list]; rfl) rfl (fun _ => rfl) fun h S => RepV.ofBool _
end Go.Fs
namespace Go.Fs
variable {P : Program} {fl : VL} {σ γ : Sto} {Q : PV → Sto → Prop} {fn : Func}
theorem VEndG.cap {r : ResultVar} {w : Value} {e : TypeId} {k : Nat} {τ : Ty} {xs : List τ.den} (hr : fn.results = #[r]) (h1 : EndV P fl [] r (.raw w)) (hc : (w, Cell.cap e k τ xs) ∈ σ) (hQ : Q (.raw w) σ) : VEndG P fn γ Q .ret fl σ :=
  ⟨rfl, [.raw w], by rw [hr]; exact .cons h1 .nil, hQ, .inl ⟨w, e, k, τ, xs, rfl, hc⟩⟩
theorem VEndG.row {r : ResultVar} {w : Value} {e : TypeId} {τ : Ty} {xs : List τ.den} (hr : fn.results = #[r]) (h1 : EndV P fl [] r (.raw w)) (hQ : Q (.raw w) [(w, Cell.row e τ xs)]) : VEndG P fn [] Q .ret fl [(w, Cell.row e τ xs)] :=
  ⟨rfl, [.raw w], by rw [hr]; exact .cons h1 .nil, hQ, .inr (.inr (.inl ⟨w, e, τ, xs, rfl, rfl, rfl⟩))⟩
end Go.Fs
namespace Go.Fs
variable {P : Program} {orc : FuncId → List Value → Heap → Option (Value × Heap)}
theorem slI {fl : VL} {k : Nat} {κ : IntKind} {a b : Int} (hk : lkV fl k = some (.v (.int κ) a)) (h : a = b) : lkV fl k = some (.v (.int κ) b) := by rw [hk, h]
theorem pvI {κ : IntKind} {a b : Int} (h : a = b) : PV.v (.int κ) a = PV.v (.int κ) b := by rw [h]
section
variable {h0 : Heap} {S0 : List Nat} {σ : Sto} {ms : List Nat} {fl : VL} {ops : Array Oper} {n i mem : Nat} {l : List Oper} {K : VL → Sto → Prop}
  {d : Tmp} {ty : TypeId} {pos : String} {after : Array Edge} {op : Op} {v : PV} {g : Option (Nat × Bool)} {bs nw : List Nat} {tail so : Bool}
end
end Go.Fs
namespace Go.Fs
variable {P : Program} {orc : FuncId → List Value → Heap → Option (Value × Heap)} {rnd : Option Nat} {h h' h0 h1 h2 : Heap} {S S' S0 G : List Nat} {σ σ' σr γ γ' : Sto} {t t' : Tr} {ms : List Nat} {fl nw : VL} {ops : Array Oper} {n i mem : Nat} {l : List Oper} {K : VL → Sto → Prop} {Q : Ex → VL → Sto → Prop}
  {d : Tmp} {ty : TypeId} {pos : String} {after : Array Edge} {op : Op} {v pv : PV} {g : Option (Nat × Bool)} {bs nw0 : List Nat} {tail so : Bool}
inductive ShutL (fl : VL) (γ : Sto) : VL → Prop where
  | nil : ShutL fl γ []
  | cons {k : Nat} {p p' : PV} {r : VL} (hk : lkV fl k = some p) (hc : Co γ p p') (hr : ShutL fl γ r) : ShutL fl γ ((k, p') :: r)
end Go.Fs
namespace Go.Fs
variable {P : Program} {orc : FuncId → List Value → Heap → Option (Value × Heap)} {fl : VL} {σ γ : Sto} {T : TypeId} {τ : Ty}
end Go.Fs
namespace Go.Fs
variable {P : Program} {fl : VL} {σ γ : Sto} {Q : PV → Sto → Prop} {fn : Func}
variable {p q r : ByteArray}
variable {x y : Operand} {T T' : TypeId}
end Go.Fs
namespace Go.Fs
variable {P : Program} {orc : FuncId → List Value → Heap → Option (Value × Heap)} {rnd : Option Nat} {h h' h0 h1 h2 : Heap} {S S' S0 : List Nat} {σ σ' : Sto} {t t' : Tr} {ms : List Nat} {fl : VL} {ops : Array Oper} {n i mem : Nat} {l : List Oper} {K : VL → Sto → Prop}
  {d : Tmp} {ty : TypeId} {pos : String} {after : Array Edge} {op : Op} {v pv : PV} {g : Option (Nat × Bool)} {x y z : Operand} {T T' e : TypeId} {τ τ' : Ty}
inductive FnL : List PV → List PV → Prop where
  | nil : FnL [] []
  | same {p : PV} {l l' : List PV} (hl : FnL l l') : FnL (p :: l) (p :: l')
  | fn {f : FuncId} {l l' : List PV} (hl : FnL l l') : FnL (.clo f [] [] :: l) (.v .fn (some f) :: l')
end Go.Fs
namespace Go.Fs
variable {P : Program} {orc : FuncId → List Value → Heap → Option (Value × Heap)} {rnd : Option Nat} {h h' h0 h1 h2 hr : Heap} {S S' S0 B G A : List Nat} {σ σ' σr ρ : Sto} {t t' : Tr} {ms : List Nat} {fl : VL} {ops : Array Oper} {n i mem : Nat} {l : List Oper} {K : VL → Sto → Prop} {Q : Ex → VL → Sto → Prop}
  {d : Tmp} {ty : TypeId} {pos : String} {after : Array Edge} {op : Op} {v pv : PV} {g : Option (Nat × Bool)} {x y z : Operand} {T T' e : TypeId} {τ τ' : Ty} {bs nw rd chg : List Nat} {segs : List (Nat × Nat × Nat)} {tail tl : Bool} {w w' : Value}
section
variable (P orc)
end
structure Late (hr h : Heap) (S0 A : List Nat) (σ ρ : Sto) (t : Tr) (fl : VL) (nw rd chg : List Nat) : Prop where
  ok : HOk hr
  lt : SLt hr (A ++ S0)
  next : hr.next ≤ h.next
  goes : Goes hr (A ++ S0) h (own σ ++ S0)
  slots : ∀ k pv, lkV fl k = some pv → nwHas nw k = false → RepPV hr (A ++ S0) pv (t.get k)
  suf : ∃ σ1, σ = σ1 ++ ρ
  cells : ∀ c ∈ ρ, CellR hr (A ++ S0) c.1 c.2
  fix : ∀ b ∈ own ρ, b ∈ A
  new : ∀ b ∈ own σ, b ∈ A ∨ hr.next ≤ b
  rd : ∀ b ∈ rd, b < hr.next ∧ (b ∈ own ρ ∨ b ∉ A)
  chg : ∀ k ∈ chg, k ∉ own ρ ∧ (k ∈ A ∨ hr.next ≤ k)
section
variable (P orc)
end
end Go.Fs
namespace Ieee
namespace Format
variable (f : Format)
end Format
end Ieee
namespace Ieee
def sg (s : Bool) (r : Nat) : Int := if s then -(r : Int) else r
namespace Format
variable (f : Format)
def units (x : Nat) : Option Int := match f.read x with
  | .number s m p => some (sg s (m * 2 ^ (p - f.leastPlace).toNat))
  | _ => none
variable {f}
end Format
end Ieee
namespace Ieee
namespace Format
variable {f g : Format}
end Format
end Ieee
namespace Ieee
open Format
end Ieee
namespace Ieee
open Format
end Ieee
namespace Go.Fs
variable {P : Program} {h : Heap} {S : List Nat} {σ : Sto} {t : Tr} {fl : VL} {x y : Operand} {T T' : TypeId} {v pv : PV} {k k' : FloatKind} {p q : Nat}
end Go.Fs
namespace Go.Fs
variable {P : Program} {orc : FuncId → List Value → Heap → Option (Value × Heap)} {rnd : Option Nat} {h h' h0 h1 h2 : Heap} {S S' S0 B G : List Nat} {σ σ' : Sto} {t t' : Tr} {ms : List Nat} {fl : VL} {ops : Array Oper} {n : Nat} {l : List Oper} {K : VL → Sto → Prop} {Q : Ex → VL → Sto → Prop}
  {d : Tmp} {ty : TypeId} {pos : String} {after : Array Edge} {op : Op} {v pv : PV} {g : Option (Nat × Bool)} {x y z : Operand} {T T' e : TypeId} {κ ν : Ty} {w : Value}
section
variable {α β : Type} [DecidableEq α]
def mget : List (α × β) → α → Option β
  | [], _ => none
  | (k, v) :: r, x => if x = k then some v else mget r x
def mset : List (α × β) → α → β → List (α × β)
  | [], x, y => [(x, y)]
  | (k, v) :: r, x, y => if x = k then (x, y) :: r else (k, v) :: mset r x y
def mix : List (α × β) → α → Nat → Option Nat
  | [], _, _ => none
  | (k, _) :: r, x, i => if x = k then some i else mix r x (i + 1)
theorem mix_get : ∀ {l : List (α × β)} {x : α} {i : Nat}, match mix l x i with
    | none => mget l x = none
    | some j => i ≤ j ∧ ∃ (hj : j - i < l.length), (l[j - i]).1 = x ∧ mget l x = some (l[j - i]).2
  | [], _, _ => rfl
  | (k, v) :: r, x, i => by
    unfold mix mget; by_cases hk : x = k
    · rw [if_pos hk, if_pos hk]
      have e0 : i - i = 0 := by omega
      refine ⟨Nat.le_refl _, by rw [e0]; simp, ?_, ?_⟩
      · simp only [e0]; exact hk.symm
      simp only [e0]; rfl
    rw [if_neg hk, if_neg hk]; have := mix_get (l := r) (x := x) (i := i + 1); split at this
    · exact this
    rename_i j hj; obtain ⟨h1, h2, h3, h4⟩ := this
    have e1 : j - i = (j - (i + 1)) + 1 := by omega
    refine ⟨by omega, by rw [e1]; simpa using h2, ?_, ?_⟩
    · simp only [e1, List.getElem_cons_succ]; exact h3
    simp only [e1, List.getElem_cons_succ]; exact h4
theorem mix_set : ∀ {l : List (α × β)} {x : α} {y : β} {i : Nat}, match mix l x i with
    | none => mset l x y = l ++ [(x, y)]
    | some j => i ≤ j ∧ mset l x y = l.set (j - i) (x, y)
  | [], _, _, _ => rfl
  | (k, v) :: r, x, y, i => by
    unfold mix mset; by_cases hk : x = k
    · rw [if_pos hk, if_pos hk]
      have e0 : i - i = 0 := by omega
      exact ⟨Nat.le_refl _, by rw [e0]; rfl⟩
    rw [if_neg hk, if_neg hk]; have := mix_set (l := r) (x := x) (y := y) (i := i + 1); split at this
    · rw [this]; rfl
    rename_i j hj; obtain ⟨h1, h2⟩ := this
    have e1 : j - i = (j - (i + 1)) + 1 := by omega
    exact ⟨by omega, by rw [e1, List.set_cons_succ, h2]⟩
end
structure KeyT (P : Program) (K : TypeId) (κ : Ty) : Prop where
  flat : κ.isFlat = true
  und : ∃ td, P.underlying K = some td ∧ ((∀ {h : Heap} {S : List Nat} (u v : Value) (x y : κ.den) (inst : Decidable (x = y)), RepV h S κ u x → RepV h S κ v y → Instr.sameNow td u v = some (@decide (x = y) inst)) ∨
    ((∀ u v, Instr.sameNow td u v = none) ∧ ∀ {h : Heap} {S : List Nat} (u v : Value) (x y : κ.den) (inst : Decidable (x = y)), RepV h S κ u x → RepV h S κ v y → runPure P (Op.equal K u v) = some (@decide (x = y) inst)))
  chk : ∀ {h : Heap} {S : List Nat} (em : Bool) (u : Value) (x : κ.den), RepV h S κ u x → (runPure P (Instr.checkKey em 10000 K u)).isSome = true
  bits : ∀ {h : Heap} {S : List Nat} (u : Value) (x : κ.den), RepV h S κ u x → Instr.sameBits 10000 u u = true
theorem keyInt {K : TypeId} {k : IntKind} (hK : P.underlying K = some (.int k)) : KeyT P K (.int k) where
  flat := rfl
  und := ⟨.int k, hK, .inl fun u v x y inst hu hv => by
    rw [RepV.int hu, RepV.int hv]; show (if k = k then some (x == y) else none) = _; rw [if_pos rfl]; congr 1
    by_cases h : x = y <;> simp [h]⟩
  chk := fun em u x hu => by
    rw [RepV.int hu]; unfold Instr.checkKey; simp only [runPure_bind, runPure_underlying hK, Option.bind_some]; rfl
  bits := fun u x hu => by
    rw [RepV.int hu]; show (k == k && x == x) = true; simp
structure MapT (P : Program) (T : TypeId) (κ ν : Ty) : Prop where
  key : ∃ K E, P.underlying T = some (.map K E) ∧ KeyT P K κ ∧ ZerT P E ν
def EntR (h : Heap) (S : List Nat) (κ ν : Ty) (es : List MapEntry) (kvs : List (κ.den × ν.den)) : Prop := es.length = kvs.length ∧ ∀ i (hi : i < kvs.length) (hj : i < es.length), RepV h S κ es[i].key kvs[i].1 ∧ RepV h S ν es[i].val kvs[i].2
theorem EntR.tail {e : MapEntry} {es : List MapEntry} {p : κ.den × ν.den} {kvs : List (κ.den × ν.den)} (hE : EntR h S κ ν (e :: es) (p :: kvs)) : (RepV h S κ e.key p.1 ∧ RepV h S ν e.val p.2) ∧ EntR h S κ ν es kvs := by
  obtain ⟨h1, h2⟩ := hE; refine ⟨h2 0 (by simp) (by simp), by simpa using h1, fun i hi hj => ?_⟩; have := h2 (i + 1) (by simpa using hi) (by simpa using hj); simpa using this
theorem find_mix [DecidableEq κ.den] {K : TypeId} {u : Value} {k : κ.den} (hK : KeyT P K κ) (hu : RepV h S κ u k) {es : List MapEntry} {kvs : List (κ.den × ν.den)} (hE : EntR h S κ ν es kvs) : fsFind P K u es = some (mix kvs k 0) := by
  obtain ⟨td, hU, hk⟩ := hK.und; unfold fsFind; rw [hU]; simp only; rcases hk with hk | ⟨hn, hk⟩
  · have key : ∀ (es : List MapEntry) (kvs : List (κ.den × ν.den)) (i : Nat), EntR h S κ ν es kvs → ∃ r, Instr.findNow td u es i = some r ∧ r.map (·.1) = mix kvs k i := by
      intro es
      induction es with
      | nil =>
        intro kvs i hE
        cases kvs with
        | nil => exact ⟨none, rfl, rfl⟩
        | cons p kvs => have := hE.1; simp at this
      | cons e es ih =>
        intro kvs i hE
        cases kvs with
        | nil => have := hE.1; simp at this
        | cons p kvs =>
          obtain ⟨⟨h1, _⟩, h3⟩ := hE.tail; obtain ⟨k', v'⟩ := p; unfold Instr.findNow mix; rw [hk u e.key k k' inferInstance hu h1]; by_cases hkk : k = k'
          · rw [if_pos hkk]; exact ⟨some (i, e.val), by simp [hkk], rfl⟩
          rw [if_neg hkk]; obtain ⟨r, r1, r2⟩ := ih kvs (i + 1) h3; exact ⟨r, by simp [hkk, r1], r2⟩
    obtain ⟨r, r1, r2⟩ := key es kvs 0 hE; rw [r1]; simp only; rw [r2]
  cases es with
  | nil =>
    cases kvs with
    | nil => rfl
    | cons p kvs => have := hE.1; simp at this
  | cons e0 es0 =>
    have hnow : Instr.findNow td u (e0 :: es0) 0 = none := by
      unfold Instr.findNow; rw [hn]
    rw [hnow]; simp only
    have key : ∀ (es : List MapEntry) (kvs : List (κ.den × ν.den)) (i : Nat), EntR h S κ ν es kvs → ∃ r, runPure P (Instr.findAsking K u es i) = some r ∧ r.map (·.1) = mix kvs k i := by
      intro es
      induction es with
      | nil =>
        intro kvs i hE
        cases kvs with
        | nil => exact ⟨none, rfl, rfl⟩
        | cons p kvs => have := hE.1; simp at this
      | cons e es ih =>
        intro kvs i hE
        cases kvs with
        | nil => have := hE.1; simp at this
        | cons p kvs =>
          obtain ⟨⟨h1, _⟩, h3⟩ := hE.tail; obtain ⟨k', v'⟩ := p; unfold Instr.findAsking mix; simp only [runPure_bind, hk u e.key k k' inferInstance hu h1, Option.bind_some]; by_cases hkk : k = k'
          · rw [if_pos hkk]; exact ⟨some (i, e.val), by simp [hkk, runPure_pure], rfl⟩
          rw [if_neg hkk]; obtain ⟨r, r1, r2⟩ := ih kvs (i + 1) h3; exact ⟨r, by simp [hkk, r1], r2⟩
    obtain ⟨r, r1, r2⟩ := key _ kvs 0 hE; have r1' : runPure P (Instr.findAsking K u (e0 :: es0)) = some r := r1; rw [r1']; simp only [Option.map_some]; rw [r2]
theorem EntR.set {kvs : List (κ.den × ν.den)} {es : List MapEntry} {j : Nat} {e : MapEntry} {p : κ.den × ν.den} (hE : EntR h S κ ν es kvs) (hk : RepV h S κ e.key p.1) (hv : RepV h S ν e.val p.2) : EntR h S κ ν (es.set j e) (kvs.set j p) := by
  refine ⟨by simpa using hE.1, fun i hi hj => ?_⟩; rw [List.length_set] at hi hj; by_cases hij : j = i
  · subst hij; simp only [List.getElem_set_self]; exact ⟨hk, hv⟩
  simp only [List.getElem_set_ne hij]; exact hE.2 i hi hj
theorem EntR.push {kvs : List (κ.den × ν.den)} {es : List MapEntry} {e : MapEntry} {p : κ.den × ν.den} (hE : EntR h S κ ν es kvs) (hk : RepV h S κ e.key p.1) (hv : RepV h S ν e.val p.2) : EntR h S κ ν (es ++ [e]) (kvs ++ [p]) := by
  refine ⟨by simpa using hE.1, fun i hi hj => ?_⟩
  have hi' : i < kvs.length + 1 := by simpa using hi
  by_cases hlt : i < kvs.length
  · rw [List.getElem_append_left hlt, List.getElem_append_left (by rw [hE.1]; exact hlt)]; exact hE.2 i hlt _
  have e1 : i = kvs.length := by omega
  subst e1; have e2 := hE.1
  have q1 : (es ++ [e])[kvs.length]'hj = e := by rw [List.getElem_append_right (by omega)]; simp [e2]
  have q2 : (kvs ++ [p])[kvs.length]'hi = p := by rw [List.getElem_append_right (by omega)]; simp
  rw [q1, q2]; exact ⟨hk, hv⟩
section
variable [DecidableEq κ.den] {k : κ.den} {kvs : List (κ.den × ν.den)}
theorem lookup_own (hT : MapT P T κ ν) {u : Value} (hu : RepV h S κ u k) (hc : CellR h S w (.mp κ ν kvs)) :
    ∃ r, RepV h S ν r ((mget kvs k).getD (zeroD ν)) ∧ (∀ H : Heap, (∀ b o, h.get b = some o → H.get b = some o) → fsLookup P T w u false H = some r ∧ fsLookup P T w u true H = some (.tuple #[r, .bool (mget kvs k).isSome])) := by
  obtain ⟨K, E, hU, hK, hZ⟩ := hT.key; obtain ⟨z, hz, hzc, hza⟩ := hZ.zero; obtain ⟨z1, z2⟩ := zero_rep h S ν; obtain ⟨a1, a2⟩ := af_cells (u := z) (by rw [hzc]; exact z2); have hzr : RepV h S ν z (zeroD ν) := ⟨hza, by rw [hzc]; exact z1⟩; have hau : af u = true := af_of_af1 (repV_af1 hK.flat hu); obtain ⟨b, es, c, rfl, hbS, hg, hE⟩ := hc; have hE' : EntR h S κ ν es kvs := hE; have hf := find_mix (ν := ν) hK hu hE'; have hch := hK.chk (h := h) (S := S) es.isEmpty u k hu; have hmg := mix_get (l := kvs) (x := k) (i := 0)
  cases hmx : mix kvs k 0 with
  | none =>
    rw [hmx] at hmg hf; have hmg' : mget kvs k = none := hmg; refine ⟨z, by rw [hmg']; exact hzr, fun H hH => ?_⟩
    constructor <;> simp [fsLookup, hU, hz, hau, a1, hf, hch, hmg', hH b _ hg]
  | some j =>
    rw [hmx] at hmg hf; obtain ⟨_, hj, hk1, hk2⟩ := hmg; simp only [Nat.sub_zero] at hj hk1 hk2
    have hj2 : j < es.length := by rw [hE'.1]; exact hj
    refine ⟨es[j].val, by rw [hk2]; exact (hE'.2 j hj hj2).2, fun H hH => ?_⟩; constructor <;> simp [fsLookup, hU, hz, hau, a1, hf, hch, hk2, hH b _ hg, List.getElem?_eq_getElem hj2]
theorem ReadV.lookO (hT : MapT P T κ ν) (hm : (w, Cell.mp κ ν kvs) ∈ σ) (hx : evV fl x = some (.raw w) := by rfl) (hy : evV fl y = some (.v κ k) := by rfl) : ReadV P fl σ (.lookup T x y false) (.v ν ((mget kvs k).getD (zeroD ν))) :=
  ⟨rfl, fun h S t hs hc => by
    have h1 : evalO t x = w := hs x (by simp [Op.operands]) _ hx; obtain ⟨r, r1, r2⟩ := lookup_own hT (hs y (by simp [Op.operands]) _ hy : RepV h S κ _ k) (hc _ hm)
    exact ⟨r, r1, fun H hH _ _ _ _ _ => by
      show (fsLookup P T (evalO t x) (evalO t y) false H).map _ = _
      rw [h1, (r2 H hH).1]; rfl⟩⟩
theorem MakeV.mput {u : ν.den} (hT : MapT P T κ ν) (hx : evV fl x = some (.raw w)) (hy : evV fl y = some (.v κ k)) (hz : evV fl z = some (.v ν u)) :
    MakeV P fl ((w, .mp κ ν kvs) :: σ) (.mapUpdate T x y z) fun v σ' => v = .raw undef ∧ σ' = (w, .mp κ ν (mset kvs k u)) :: σ :=
  ⟨rfl, fun S0 h t L => by
    have h1 : evalO t x = w := evV_ok L.slots hx; have hk := (evV_ok L.slots hy : RepV h _ κ (evalO t y) k); have hv := (evV_ok L.slots hz : RepV h _ ν (evalO t z) u); obtain ⟨K, E, hU, hK, hZ⟩ := hT.key; obtain ⟨b, es, c, h3, h4, hg, hE⟩ := L.cells _ List.mem_cons_self; have hw : w = .map (some b) := h3; have hE' : EntR h (own ((w, .mp κ ν kvs) :: σ) ++ S0) κ ν es kvs := hE
    have hbk : blk w = [b] := by rw [hw]; rfl
    have hf := find_mix (ν := ν) hK hk hE'; have hau : af (evalO t y) = true := af_of_af1 (repV_af1 hK.flat hk); have hch := hK.chk (h := h) false _ k hk; have hms := mix_set (l := kvs) (x := k) (y := u) (i := 0); have hmg := mix_get (l := kvs) (x := k) (i := 0)
    have fin : ∀ (es' : List MapEntry) (c' : Nat), fsMapUpdate P T w (evalO t y) (evalO t z) h = some (h.set b (.mapo es' c')) → EntR h (own ((w, .mp κ ν kvs) :: σ) ++ S0) κ ν es' (mset kvs k u) →
        ∃ uu h' v σ', (v = .raw undef ∧ σ' = (w, .mp κ ν (mset kvs k u)) :: σ) ∧ Made S0 h h' ((w, .mp κ ν kvs) :: σ) σ' ∧ RepPV h' (own σ' ++ S0) v uu ∧ ∀ (d : Option Tmp) (ty : TypeId) (pos : String) (after : Array Edge) (g : Option (Nat × Bool)), stepO P ⟨d, .mapUpdate T x y z, ty, pos, after, g⟩ (evalO t) h = some (uu, h') := fun es' c' hup hEn => by
      refine ⟨undef, h.set b (.mapo es' c'), .raw undef, _, ⟨rfl, rfl⟩, Made.head L (Aft.set hg (by rw [hbk]; simp)) (fun b hb => .inl hb) (by rw [hbk]; simp) fun hN => ?_, rfl, fun _ _ _ _ _ => ?_⟩
      · refine ⟨b, es', c', h3, ?_, by rw [Heap.get_set hg, if_pos rfl], hEn.1, fun i hi hj => ⟨(hEn.2 i hi hj).1.nx hN, (hEn.2 i hi hj).2.nx hN⟩⟩; rw [own_cons]; exact List.mem_append_left _ (List.mem_append_left _ (by rw [hbk]; simp))
      show (fsMapUpdate P T (evalO t x) (evalO t y) (evalO t z) h).map _ = _; rw [h1, hup]; rfl
    cases hmx : mix kvs k 0 with
    | none =>
      rw [hmx] at hms hf; have hms' : Fs.mset kvs k u = kvs ++ [(k, u)] := hms; refine fin (es ++ [{ key := evalO t y, val := evalO t z, born := c }]) (c + 1) ?_ (by rw [hms']; exact hE'.push hk hv); rw [hw]
      simp [fsMapUpdate, hU, hg, hau, hch, hf]
    | some j =>
      rw [hmx] at hms hf hmg; obtain ⟨_, hms'⟩ := hms; obtain ⟨_, hj, hk1, _⟩ := hmg; simp only [Nat.sub_zero] at hms' hj hk1
      have hj2 : j < es.length := by rw [hE'.1]; exact hj
      have hke : es[j].key = evalO t y := by
        have q1 := (hE'.2 j hj hj2).1; rw [hk1] at q1; have c1 := flat_cells q1.2 hK.flat; have c2 := flat_cells hk.2 hK.flat
        cases hag : κ.agg with
        | true => rw [flat_agg q1 hK.flat hag, flat_agg hk hK.flat hag]
        | false =>
          have d1 := cells_one (q1.1.trans hag); have d2 := cells_one (hk.1.trans hag); rw [d1] at c1; rw [d2] at c2; have : [es[j].key] = [evalO t y] := c1.trans c2.symm; simpa using this
      have hsb : Instr.sameBits 10000 es[j].key (evalO t y) = true := by rw [hke]; exact hK.bits _ k hk
      refine fin (es.set j { es[j] with key := evalO t y, val := evalO t z }) c ?_ (by rw [hms']; exact hE'.set hk hv); rw [hw]
      simp [fsMapUpdate, hU, hg, hau, hch, hf, List.getElem?_eq_getElem hj2, hsb]⟩
theorem VO.mput {u : ν.den} (hT : MapT P T κ ν) (hk : VO P orc ops n l fl ((w, .mp κ ν (mset kvs k u)) :: σ) K) (hx : evV fl x = some (.raw w) := by rfl) (hy : evV fl y = some (.v κ k) := by rfl) (hz : evV fl z = some (.v ν u) := by rfl) (hw : wantV ops fl g = some true := by rfl) :
    VO P orc ops n (⟨none, .mapUpdate T x y z, ty, pos, after, g⟩ :: l) fl ((w, .mp κ ν kvs) :: σ) K :=
  VO.mk0 (MakeV.mput hT hx hy hz) (by rintro _ _ ⟨rfl, rfl⟩; exact hk) hw
end
theorem FreshO.mkMap (κ ν : Ty) : FreshO P fl (.makeMap T none) (.mp κ ν []) :=
  ⟨rfl, fun h S t hs hok hS => ⟨fun k => .map (some k), .mapo [] 0, fun _ => rfl, fun S' hN hm => ⟨h.next, [], 0, rfl, hm, by rw [Heap.get_push, if_pos rfl], rfl, fun i hi => by simp at hi⟩, fun H _ _ _ _ _ => rfl⟩⟩
end Go.Fs
namespace Go.Fs
variable {P : Program} {orc : FuncId → List Value → Heap → Option (Value × Heap)} {h : Heap} {S : List Nat} {σ : Sto} {t : Tr} {fl : VL} {x y : Operand} {T T' : TypeId} {v pv : PV} {k k' : FloatKind} {p q : Nat}
end Go.Fs
namespace Ieee
open Format
end Ieee
namespace Go.Fs
variable {P : Program} {orc : FuncId → List Value → Heap → Option (Value × Heap)} {rnd : Option Nat} {h : Heap} {S : List Nat} {σ : Sto} {t : Tr} {fl : VL} {x y : Operand} {T : TypeId} {n : Nat} {τ τ' : Ty} {Q : Ex → VL → Sto → Prop}
def aofB (P : Program) (T : TypeId) (j k : Nat) (τ' : Ty) : Bool :=
  match P.underlying T with
  | some (.array n e) => match P.info? e with
    | some i => Nat.blt j n && Nat.beq k (j * i.size) && valB P e τ'
    | none => false
  | _ => false
theorem aofB_inv {j k : Nat} (hb : aofB P T j k τ' = true) : ∃ m e i, P.underlying T = some (.array m e) ∧ P.info? e = some i ∧ j < m ∧ k = j * i.size ∧ ValT P e τ' := by
  unfold aofB at hb; split at hb
  · rename_i m e hu; split at hb
    · rename_i i hi; obtain ⟨h1, h2⟩ := band hb; obtain ⟨h3, h4⟩ := band h1; exact ⟨m, e, i, hu, hi, nblt h3, nbeq h4, valT_of h2⟩
    cases hb
  cases hb
theorem CalmV.ixP (j : Nat) {k : Nat} {dx : τ.den} {dy : τ'.den} (hs : Sub τ dx k τ' dy) (hb : aofB P T j k τ' = true := by kernel_rfl) (hx : evV fl x = some (.p τ dx) := by rfl) (hy : evV fl y = some (.v (.int .i64) ((j : Nat) : Int)) := by rfl) : CalmV P fl σ (.indexAddr T x y) (.p τ' dy) :=
  ⟨rfl, fun h S t hq _ => by
    have hp : RepP h S τ (evalO t x) dx := hq x (by simp [Op.operands]) _ hx; have hi : evalO t y = .int .i64 ((j : Nat) : Int) := RepV.int (hq y (by simp [Op.operands]) _ hy : RepV h S (.int .i64) _ ((j : Nat) : Int)); obtain ⟨m, e, i, u1, u2, u3, u4, u5⟩ := aofB_inv hb; obtain ⟨b', o, e', rs, own, more, h1, h2, h3, h4, h5⟩ := hp; refine ⟨.pointer (some ⟨b', o + k, none⟩), ?_, fun _ _ _ _ _ H => ?_⟩
    · obtain ⟨h6, h7⟩ := hs.repC h5; rw [List.length_take, List.length_drop] at h6; refine ⟨b', o + k, e', rs, own, more, rfl, h2, h3, by omega, ?_⟩; rw [List.drop_take, List.take_take, List.drop_drop, Nat.min_eq_left (by omega)] at h7; exact h7
    show (if af (evalO t y) then (runPure P (Instr.indexAt T (evalO t x) (evalO t y))).map _ else none) = _; rw [hi, h1, if_pos (show af (Value.int .i64 ((j : Nat) : Int)) = true from rfl)]
    have h6 : (0 : Int) ≤ ((j : Nat) : Int) ∧ ((j : Nat) : Int) < (m : Nat) := by omega
    have h7 : runPure P (Instr.indexAt T (.pointer (some ⟨b', o, none⟩)) (.int .i64 ((j : Nat) : Int))) = some (.pointer (some ⟨b', o + k, none⟩)) := by
      unfold Instr.indexAt; simp only [runPure_bind, asIntOf, runPure_pure, Option.bind_some, runPure_underlying u1, Instr.sureAddr, if_pos h6, runPure_sizeOf u2, add_none, Int.toNat_natCast, u4]
    rw [h7]; rfl⟩
theorem part_int {e : TypeId} {i : TypeInfo} {cs : Array Value} {j : Nat} {a : Int} (hu : P.underlying e = some (.int .i64)) (hi : P.info? e = some i) (hs : i.size = 1) (hc : cs[j]? = some (.int .i64 a)) : runPure P (part e cs j) = some (.int .i64 a) := by
  obtain ⟨v, v1, v2⟩ := part_rep (h := ⟨0, 0, []⟩) (S := []) (T := e) (τ := .int .i64) ⟨⟨i, hi, hs⟩, _, hu, rfl⟩ (cs := cs) (o := j) (x := a) (by
    show (cs.toList.drop j).take 1 = [.int .i64 a]
    have hl : j < cs.toList.length := by
      have := (Array.getElem?_eq_some_iff.1 hc).1; simpa using this
    rw [List.drop_eq_getElem_cons hl]; have := (Array.getElem?_eq_some_iff.1 hc).2
    simp [this])
  rw [v1, RepV.int v2]
theorem eq_int {d : Nat} {e : TypeId} {a b : Int} (hu : P.underlying e = some (.int .i64)) : runPure P (Op.equalIn (d + 1) e (.int .i64 a) (.int .i64 b)) = some (decide (a = b)) := by
  unfold Op.equalIn; simp only [runPure_bind, runPure_underlying hu, Option.bind_some]; show some (a == b) = _; congr 1
theorem forIn_all {n : Nat} {c : Nat → Bool} {f : Nat → Option Bool × PUnit → Sem (ForInStep (Option Bool × PUnit))} (hf : ∀ j, j < n → ∀ s, runPure P (f j s) = some (if c j = true then .yield (none, ⟨⟩) else .done (some false, ⟨⟩))) :
    ∀ m j, j + m ≤ n → runPure P (forIn (List.range' j m) (none, ⟨⟩) f) = some (if (List.range' j m).all c = true then (none, ⟨⟩) else (some false, ⟨⟩))
  | 0, j, _ => by simp [List.range', runPure_pure]
  | m + 1, j, h => by
    rw [List.range'_succ, List.forIn_cons, runPure_bind, hf j (by omega), Option.bind_some, List.all_cons]
    cases hc : c j with
    | true =>
      simp only [if_true, Bool.true_and]
      exact forIn_all hf m (j + 1) (by omega)
    | false => simp [runPure_pure]
theorem eq_arr {d n : Nat} {e : TypeId} {i : TypeInfo} {xs ys : List Int} (hT : P.underlying T = some (.array n e)) (hu : P.underlying e = some (.int .i64)) (hi : P.info? e = some i) (hs : i.size = 1) (hx : xs.length = n) (hy : ys.length = n) :
    runPure P (Op.equalIn (d + 2) T (.agg (xs.map (Value.int .i64)).toArray) (.agg (ys.map (Value.int .i64)).toArray)) = some (decide (xs = ys)) := by
  unfold Op.equalIn; simp only [runPure_bind, runPure_underlying hT, Option.bind_some, runPure_sizeOf hi, hs, Std.Legacy.Range.forIn_eq_forIn_range', Std.Legacy.Range.size]
  have hst : ∀ {β : Type} (g : Nat → β → Sem (ForInStep β)) (b : β), forIn (List.range' 0 ((n - 0 + 1 - 1) / 1)) b g = forIn (List.range' 0 n) b g := fun g b => by congr 2; simp
  rw [hst, forIn_all (n := n) (c := fun j => decide (xs.getD j 0 = ys.getD j 0)) (fun j hj s => ?_) n 0 (by omega)]
  · have hall : ((List.range' 0 n).all fun j => decide (xs.getD j 0 = ys.getD j 0)) = decide (xs = ys) := by
      by_cases h : xs = ys
      · subst h; simp
      rw [decide_eq_false h, ← Bool.not_eq_true, List.all_eq_true]; intro hh; apply h; refine List.ext_getElem (by omega) fun k h1 h2 => ?_; have := hh k (by simp; omega); simpa [List.getD_eq_getElem?_getD, List.getElem?_eq_getElem h1, List.getElem?_eq_getElem h2] using this
    rw [hall]; by_cases h : xs = ys <;> simp [h, runPure_pure]
  have p1 : runPure P (part e (xs.map (Value.int .i64)).toArray (j * 1)) = some (.int .i64 (xs.getD j 0)) := part_int hu hi hs (by simp [List.getD_eq_getElem?_getD, List.getElem?_eq_getElem (show j < xs.length by omega)]); have p2 : runPure P (part e (ys.map (Value.int .i64)).toArray (j * 1)) = some (.int .i64 (ys.getD j 0)) := part_int hu hi hs (by simp [List.getD_eq_getElem?_getD, List.getElem?_eq_getElem (show j < ys.length by omega)]); simp only [runPure_bind, p1, p2, Option.bind_some, eq_int hu]; by_cases h : xs.getD j 0 = ys.getD j 0 <;> simp [h, runPure_pure, -List.getD_eq_getElem?_getD]
def arrB (P : Program) (T : TypeId) (n : Nat) : Bool :=
  match P.underlying T with
  | some (.array m e) => Nat.beq m n && !P.eqGuardType P.depth T && (match P.underlying e with | some (.int k) => decide (k = .i64) | _ => false) && (match P.info? e with | some i => Nat.beq i.size 1 | none => false)
  | _ => false
section
variable {T' : TypeId}
theorem CalmV.arrCmp {b : BinOp} {dx dy : τ.den} {xs ys : List Int} {r : Bool} (hbop : (b = .eql ∧ r = decide (xs = ys)) ∨ (b = .neq ∧ r = !decide (xs = ys))) (ha : τ.agg = true) (hf : τ.isFlat = true) (hcx : τ.flatC dx = xs.map (Value.int .i64)) (hcy : τ.flatC dy = ys.map (Value.int .i64)) (hb : arrB P T xs.length = true) (hl : ys.length = xs.length)
    (hx : evV fl x = some (.v τ dx) := by rfl) (hy : evV fl y = some (.v τ dy) := by rfl) : CalmV P fl σ (.binOp b T x y T') (.v .bool r) :=
  .bin hx hy fun h S a c hu hv => by
    have e1 := flat_agg hu hf ha; have e2 := flat_agg hv hf ha; rw [hcx] at e1; rw [hcy] at e2; unfold arrB at hb; split at hb
    · rename_i m e hU; obtain ⟨hb, h4⟩ := band hb; obtain ⟨hb, h3⟩ := band hb; obtain ⟨h1, h2⟩ := band hb; have h1 := nbeq h1
      have hg : P.eqGuardType P.depth T = false := by simpa using h2
      have hi : P.underlying e = some (.int .i64) := by
        split at h3
        · rename_i k hk; rw [of_decide_eq_true h3] at hk; exact hk
        cases h3
      obtain ⟨i, hi2, hi3⟩ : ∃ i, P.info? e = some i ∧ i.size = 1 := by
        split at h4
        · rename_i i hi; exact ⟨i, hi, nbeq h4⟩
        cases h4
      have hrun : runPure P (Op.equal T a c) = some (decide (xs = ys)) := by
        rw [e1, e2]; exact eq_arr (d := 9998) (by rw [hU, h1]) hi hi2 hi3 rfl hl
      subst e1 e2; refine ⟨.bool r, RepV.ofBool _, ?_, ?_⟩
      · rw [(RepPV.flat (pv := .v τ dx) hf hu).1, (RepPV.flat (pv := .v τ dy) hf hv).1]; rfl
      have he : ∀ q, runPure P (eqGuard q T x y (.agg (xs.map (Value.int .i64)).toArray) (.agg (ys.map (Value.int .i64)).toArray)) = some () := fun q => by
        unfold eqGuard; cases q <;> simp [runPure_bind, runPure_program, hg, runPure_pure]
      have hbo : runPure P (binOp b T (.agg (xs.map (Value.int .i64)).toArray) (.agg (ys.map (Value.int .i64)).toArray)) = some (.bool r) := by
        rcases hbop with ⟨rfl, rfl⟩ | ⟨rfl, rfl⟩
        · unfold binOp; simp only [runPure_bind, hrun, Option.bind_some, runPure_pure]
        unfold binOp; simp only [runPure_bind, hrun, Option.bind_some, runPure_pure]
      unfold purely; rw [runPure_bind, he]; simp only [Option.bind_some, hbo]; rfl
    cases hb
end
end Go.Fs
namespace Go.Fs
variable {P : Program} {orc : FuncId → List Value → Heap → Option (Value × Heap)} {rnd : Option Nat} {h h' h0 h1 h2 : Heap} {S S' S0 B G : List Nat} {σ σ' : Sto} {t t' : Tr} {ms : List Nat} {fl nw : VL} {ops : Array Oper} {n : Nat} {l : List Oper} {K : VL → Sto → Prop} {Q : Ex → VL → Sto → Prop}
  {d : Tmp} {ty : TypeId} {pos : String} {after : Array Edge} {op : Op} {v pv : PV} {g : Option (Nat × Bool)} {x y z : Operand} {T T' e : TypeId} {w : Value} {s : ByteArray} {p : Nat}
theorem FreshO.rng (hT : P.underlying T = some .string := by kernel_rfl) (hx : evV fl x = some (.v .str s) := by rfl) : FreshO P fl (.range T x) (.it s 0) :=
  ⟨rfl, fun h S t hs hok hS => by
    have hv : evalO t x = .string s := RepV.str (hs x (by simp [Op.operands]) _ hx : RepV h S .str _ s); refine ⟨fun k => .pointer (some ⟨k, 0, none⟩), .iter s 0, fun _ => rfl, fun S' hN hm => ⟨h.next, rfl, hm, by rw [Heap.get_push, if_pos rfl]⟩, fun H _ _ _ _ _ => ?_⟩; show fsRange P T (evalO t x) H = _; rw [hv]
    simp [fsRange, hT]⟩
theorem MakeV.nextT (hp : p < s.size) (hx : evV fl x = some (.raw w)) : MakeV P fl ((w, .it s p) :: σ) (.next x true) fun v σ' => v = .tup [.v .bool true, .v (.int .i64) ((p : Nat) : Int), .v (.int .i32) (((Utf8.decode s p).1 : Nat) : Int)] ∧ σ' = (w, .it s (p + (Utf8.decode s p).2)) :: σ :=
  ⟨rfl, fun S0 h t L => by
    have h1 : evalO t x = w := evV_ok L.slots hx; obtain ⟨b, h3, h4, hg⟩ := L.cells _ List.mem_cons_self; have hw : w = .pointer (some ⟨b, 0, none⟩) := h3
    have hbk : blk w = [b] := by rw [hw]; rfl
    refine ⟨.tuple #[.bool true, .int .i64 ((p : Nat) : Int), .int .i32 (((Utf8.decode s p).1 : Nat) : Int)], h.set b (.iter s (p + (Utf8.decode s p).2)), _, _, ⟨rfl, rfl⟩, Made.head L (Aft.set hg (by rw [hbk]; simp)) (fun b hb => .inl hb) (by rw [hbk]; simp) fun hN => ?_, ?_, fun _ _ _ _ _ => ?_⟩
    · refine ⟨b, h3, ?_, by rw [Heap.get_set hg, if_pos rfl]⟩; rw [own_cons]; exact List.mem_append_left _ (List.mem_append_left _ (by rw [hbk]; simp))
    · exact ⟨_, rfl, _, _, rfl, RepV.ofBool _, _, _, rfl, RepV.ofInt _ _, _, _, rfl, RepV.ofInt _ _, rfl⟩
    show fsNext (evalO t x) true h = _; rw [h1, hw]
    simp [fsNext, hg, hp]⟩
theorem MakeV.nextF (hp : ¬ p < s.size) (hx : evV fl x = some (.raw w)) : MakeV P fl ((w, .it s p) :: σ) (.next x true) fun v σ' => v = .tup [.v .bool false] ∧ σ' = (w, .it s p) :: σ :=
  ⟨rfl, fun S0 h t L => by
    have h1 : evalO t x = w := evV_ok L.slots hx; obtain ⟨b, h3, h4, hg⟩ := L.cells _ List.mem_cons_self; have hw : w = .pointer (some ⟨b, 0, none⟩) := h3; refine ⟨.tuple #[.bool false], h, _, _, ⟨rfl, rfl⟩, Made.same L (Aft.refl h []), ⟨_, rfl, _, _, rfl, RepV.ofBool _, rfl⟩, fun _ _ _ _ _ => ?_⟩; show fsNext (evalO t x) true h = _; rw [h1, hw]
    simp [fsNext, hg, hp]⟩
theorem VO.next (hx : evV fl x = some (.raw w)) (h1 : p < s.size → VO P orc ops n l ((d, .tup [.v .bool true, .v (.int .i64) ((p : Nat) : Int), .v (.int .i32) (((Utf8.decode s p).1 : Nat) : Int)]) :: fl) ((w, .it s (p + (Utf8.decode s p).2)) :: σ) K) (h2 : ¬ p < s.size → VO P orc ops n l ((d, .tup [.v .bool false]) :: fl) ((w, .it s p) :: σ) K)
    (hw : wantV ops fl g = some true := by rfl) (hn : (Nat.blt d n && Nat.ble n 4000) = true := by rfl) : VO P orc ops n (⟨some d, .next x true, ty, pos, after, g⟩ :: l) fl ((w, .it s p) :: σ) K := by
  by_cases hp : p < s.size
  · exact VO.mk (MakeV.nextT hp hx) (by rintro _ _ ⟨rfl, rfl⟩; exact h1 hp) hw hn
  exact VO.mk (MakeV.nextF hp hx) (by rintro _ _ ⟨rfl, rfl⟩; exact h2 hp) hw hn
theorem CalmV.ext0 {b : Bool} (hx : evV fl x = some (.tup [.v .bool b]) := by rfl) : CalmV P fl σ (.extract x 0) (.v .bool b) := ⟨rfl, fun h S t hs _ => by
  obtain ⟨us, h1, u, r, rfl, h2, h3⟩ := (hs x (by simp [Op.operands]) _ hx : RepPV h S (.tup [.v .bool b]) _); obtain rfl : r = [] := h3; have hu : u = .bool b := RepV.bool h2; subst hu; refine ⟨.bool b, RepV.ofBool _, fun _ _ _ _ _ H => ?_⟩; show (bif isJunk (evalO t x) then none else (runPure P (Instr.extract (evalO t x) 0)).map _) = _; rw [h1]; have hj : isJunk (.tuple [Value.bool b].toArray) = false := rfl; rw [hj]
  rfl⟩
theorem decode_low {i : Nat} (h : (s.get! i).toNat < 128) : Utf8.decode s i = ((s.get! i).toNat, 1) := by
  unfold Utf8.decode; simp only [Nat.add_zero]; rw [if_pos h]
theorem decode_high {i : Nat} (h : ¬ (s.get! i).toNat < 128) : 128 ≤ (Utf8.decode s i).1 := by
  unfold Utf8.decode; simp only [Nat.add_zero]; rw [if_neg h]
  have hr : 128 ≤ Utf8.runeError := by decide
  split
  · split
    · assumption
    exact hr
  split
  · split
    · rename_i hc; have := (Bool.and_eq_true .. ▸ hc : _ ∧ _).1; have := of_decide_eq_true this; simp only; omega
    exact hr
  split
  · split
    · rename_i hc; have := (Bool.and_eq_true .. ▸ hc : _ ∧ _).1; have := of_decide_eq_true this; simp only; omega
    exact hr
  exact hr
structure GdT (ops : Array Oper) (fl : VL) (g : Option (Nat × Bool)) (b : Bool) : Prop where
  want : ∀ {h : Heap} {S : List Nat} {t : Tr}, Slots h S t fl → ∀ o : Oper, o.guard = g → fsWanted ops t o = some b
end Go.Fs
namespace Go.Fs
instance : DecidableEq (Ty.den .str) := inferInstanceAs (DecidableEq ByteArray)
instance {k : IntKind} : DecidableEq (Ty.den (.int k)) := inferInstanceAs (DecidableEq Int)
instance : DecidableEq (Ty.den .bool) := inferInstanceAs (DecidableEq Bool)
instance {a b : Ty} [DecidableEq a.den] [DecidableEq b.den] : DecidableEq (Ty.den (.pair a b)) := inferInstanceAs (DecidableEq (a.den × b.den))
variable {P : Program} {orc : FuncId → List Value → Heap → Option (Value × Heap)} {fl : VL} {σ γ : Sto} {T : TypeId} {τ : Ty}
def byteE (s : ByteArray) (i : Int) : Int := (((s.get! i.toNat).toNat : Nat) : Int)
theorem byteE_nat (s : ByteArray) (i : Nat) : byteE s i = (((s.get! i).toNat : Nat) : Int) := rfl
theorem CalmV.ixS {x y : Operand} {s : ByteArray} {i : Int} (hx : evV fl x = some (.v .str s)) (hy : evV fl y = some (.v (.int .i64) i)) (h0 : 0 ≤ i) (h1 : i < (s.size : Nat)) (hT : P.underlying T = some .string := by kernel_rfl) : CalmV P fl σ (.index T x y) (.v (.int .u8) (byteE s i)) :=
  ⟨rfl, fun h S t hq _ => by
    have hv : evalO t x = .string s := RepV.str (hq x (by simp [Op.operands]) _ hx : RepV h S .str _ s); have hi : evalO t y = .int .i64 i := RepV.int (hq y (by simp [Op.operands]) _ hy : RepV h S (.int .i64) _ i); refine ⟨.int .u8 (byteE s i), RepV.ofInt _ _, fun _ _ _ _ _ H => ?_⟩; show (if af (evalO t y) then (runPure P (Instr.index T (evalO t x) (evalO t y))).map _ else none) = _; rw [hi, hv, if_pos (show af (Value.int .i64 i) = true from rfl)]
    have hb : i.toNat < s.size := by omega
    have h8 : s[i.toNat]? = some (s.get! i.toNat) := by
      rw [getElem?_pos s i.toNat hb]; congr 1; show s.data[i.toNat] = s.data[i.toNat]!; rw [getElem!_pos s.data i.toNat hb]
    have h9 : runPure P (Instr.index T (.string s) (.int .i64 i)) = some (.int .u8 (byteE s i)) := by
      unfold Instr.index; simp only [runPure_bind, asIntOf, runPure_pure, Option.bind_some, runPure_underlying hT, if_pos h0, h8]; rfl
    rw [h9]; rfl⟩
end Go.Fs
namespace Go.Fs
variable {P : Program} {orc : FuncId → List Value → Heap → Option (Value × Heap)} {fl : VL} {σ : Sto} {T T' e ty : TypeId} {τ : Ty} {ops : Array Oper} {n : Nat} {l : List Oper} {K : VL → Sto → Prop} {d : Tmp} {pos : String} {after : Array Edge} {g : Option (Nat × Bool)} {x y : Operand} {xs : List τ.den}
theorem VO.isnil (hx : evV fl x = some (.v (.sl τ) xs)) (hy : evV fl y = some (.raw (.slice none 0 0))) (hT : P.underlying T = some (.slice e)) (hp : purely P (do eqGuard .eql T x y (.slice none 0 0) (.slice none 0 0); binOp .eql T (.slice none 0 0) (.slice none 0 0)) = some (.bool true))
    (h1 : xs = [] → VO P orc ops n l ((d, .v .bool true) :: fl) σ K) (h2 : VO P orc ops n l ((d, .v .bool false) :: fl) σ K)
    (hw : wantV ops fl g = some true := by rfl) (hn : (Nat.blt d n && Nat.ble n 4000) = true := by rfl) : VO P orc ops n (⟨some d, .binOp .eql T x y T', ty, pos, after, g⟩ :: l) fl σ K := fun h0 G S0 t h ms Iv0 => by
  obtain ⟨n1, n2⟩ := fits hn; have a1 : RepV _ _ (.sl τ) (evalO t x) xs := evV_ok Iv0.slots hx; have a2 : evalO t y = .slice none 0 0 := evV_ok Iv0.slots hy; have a3 := a1.sl; rcases a3 with ⟨hv, hl⟩ | ⟨b, o, mk, hv, _⟩
  · have hs : stepO P ⟨some d, .binOp .eql T x y T', ty, pos, after, g⟩ (evalO t) h = some (.bool true, h) := by
      show (if (af (evalO t x) && af (evalO t y)) = true then _ else _) = _; rw [hv, a2, if_pos (show (af (Value.slice none 0 0) && af (Value.slice none 0 0)) = true from rfl), hp]; rfl
    exact EvO.op (want_ok Iv0.slots hw) hs (put_fits n1 t _) (h1 hl h0 G S0 _ h ms (Iv0.set (show RepPV _ _ (.v .bool true) (.bool true) from RepV.ofBool _) n2))
  have hs : stepO P ⟨some d, .binOp .eql T x y T', ty, pos, after, g⟩ (evalO t) h = some (.bool false, h) := by
    show (if (af (evalO t x) && af (evalO t y)) = true then _ else ((fsNil P .eql T (evalO t x) (evalO t y)).or _).map _) = _; rw [hv, a2, if_neg (by exact Bool.false_ne_true), show fsNil P .eql T (.slice (some ⟨b, o, none⟩) xs.length mk) (.slice none 0 0) = some false from by unfold fsNil; simp only [hT]; rfl]; rfl
  exact EvO.op (want_ok Iv0.slots hw) hs (put_fits n1 t _) (h2 h0 G S0 _ h ms (Iv0.set (show RepPV _ _ (.v .bool false) (.bool false) from RepV.ofBool _) n2))
end Go.Fs
namespace Go.Fs
variable {P : Program} {orc : FuncId → List Value → Heap → Option (Value × Heap)} {h h1 h2 h' : Heap} {S S0 : List Nat} {σ γ σr : Sto} {fl : VL} {ops : Array Oper} {n : Nat} {l : List Oper} {K : VL → Sto → Prop} {d : Tmp} {ty : TypeId} {pos : String} {after : Array Edge} {g : Option (Nat × Bool)}
section
variable (P orc)
end
section
variable (P orc)
end
end Go.Fs
namespace Go.Fs
variable {P : Program} {orc : FuncId → List Value → Heap → Option (Value × Heap)} {h h' h0 h1 h2 : Heap} {S S' S0 B G : List Nat} {σ σ' σr : Sto} {t t' : Tr} {ms : List Nat} {fl : VL} {ops : Array Oper} {n i mem : Nat} {l : List Oper} {K : VL → Sto → Prop} {Q : Ex → VL → Sto → Prop}
  {d : Tmp} {ty : TypeId} {pos : String} {after : Array Edge} {op : Op} {v pv : PV} {g : Option (Nat × Bool)} {x y z : Operand} {T T' e : TypeId} {τ τ' : Ty} {w : Value}
theorem getDg {α : Type} (xs : List α) (d : α) {i : Nat} (h : i < xs.length) : xs.getD i d = xs[i] := by rw [List.getD_eq_getElem?_getD, List.getElem?_eq_getElem h]; rfl
section
variable {α : Type} [DecidableEq α] {dd : α} {xs : List α}
end
end Go.Fs
namespace Go.Fs
variable {α : Type}
structure Weak (lt : α → α → Bool) : Prop where
  asym : ∀ a b, lt a b = true → lt b a = false
  neg : ∀ a b c, lt a b = false → lt b c = false → lt a c = false
variable {lt : α → α → Bool}
def eqv (lt : α → α → Bool) (a b : α) : Bool := !lt a b && !lt b a
def SameEq (lt : α → α → Bool) (xs ys : List α) : Prop := ∀ a, xs.filter (eqv lt a) = ys.filter (eqv lt a)
variable {d : α}
abbrev at_ (xs : List α) (i : Nat) (d : α) : α := xs.getD i d
structure Seg (lt : α → α → Bool) (xs ys : List α) (a b : Nat) : Prop where
  len : ys.length = xs.length
  lo : ys.take a = xs.take a
  hi : ys.drop b = xs.drop b
  same : SameEq lt xs ys
theorem three (xs : List α) {a b : Nat} (h : a ≤ b) : xs = xs.take a ++ ((xs.take b).drop a ++ xs.drop b) := by
  conv => lhs; rw [← List.take_append_drop b xs]
  rw [← List.append_assoc]; congr 1
  conv => lhs; rw [← List.take_append_drop a (xs.take b)]
  rw [List.take_take, Nat.min_eq_left h]
structure Insd (lt : α → α → Bool) (d : α) (ys : List α) (a j i : Nat) : Prop where
  srt : ∀ p q, a ≤ p → p < q → q ≤ i → q ≠ j → p ≠ j → lt (ys.getD q d) (ys.getD p d) = false
  less : ∀ q, j < q → q ≤ i → lt (ys.getD j d) (ys.getD q d) = true
end Go.Fs
namespace Go.Fs
variable {α : Type} {lt : α → α → Bool} {d : α} {ys : List α} {a b m n s e i j k : Nat}
theorem four (h1 : s ≤ m) (h2 : m ≤ e) : ys = ys.take s ++ ((ys.drop s).take (m - s) ++ ((ys.drop m).take (e - m) ++ ys.drop e)) := by
  conv => lhs; rw [← List.take_append_drop s ys, ← List.take_append_drop (m - s) (ys.drop s), List.drop_drop, show s + (m - s) = m by omega, ← List.take_append_drop (e - m) (ys.drop m), List.drop_drop, show m + (e - m) = e by omega]
structure Cut (lt : α → α → Bool) (d : α) (ys : List α) (a m b s e : Nat) : Prop where
  le : s ≤ m ∧ m ≤ e ∧ a ≤ s ∧ e ≤ b
  lo : a < s → e < b → lt (ys.getD e d) (ys.getD (s - 1) d) = false
  hi : s < m → m < e → lt (ys.getD (e - 1) d) (ys.getD s d) = true
end Go.Fs
namespace Go.Fs
variable {P : Program} {orc : FuncId → List Value → Heap → Option (Value × Heap)} {h h' h0 h1 h2 : Heap} {S S' S0 B G : List Nat} {σ σ' σr : Sto} {t t' : Tr} {ms : List Nat} {fl : VL} {ops : Array Oper} {n i mem : Nat} {l : List Oper} {K : VL → Sto → Prop} {Q : Ex → VL → Sto → Prop}
  {d : Tmp} {ty : TypeId} {pos : String} {after : Array Edge} {op : Op} {v pv : PV} {g : Option (Nat × Bool)} {x y z : Operand} {T T' e : TypeId} {τ τ' : Ty} {w : Value}
end Go.Fs
namespace Go.Fs
variable {P : Program} {orc : FuncId → List Value → Heap → Option (Value × Heap)} {rnd : Option Nat} {h h' h0 h1 h2 : Heap} {S S' S0 B G : List Nat} {σ σ' σr : Sto} {t t' : Tr} {ms : List Nat} {fl : VL} {ops : Array Oper} {n i mem : Nat} {l : List Oper} {K : VL → Sto → Prop} {Q : Ex → VL → Sto → Prop}
  {d : Tmp} {ty : TypeId} {pos : String} {after : Array Edge} {op : Op} {v pv : PV} {g : Option (Nat × Bool)} {x y z : Operand} {T T' e : TypeId} {τ τ' : Ty} {w : Value}
theorem VC.capRow {c : Code} {xs : List τ.den} {k : Nat} (hk : xs.length = k) (hx : VC P orc rnd c n fl ((w, .row e τ xs) :: σ) Q) : VC P orc rnd c n fl ((w, .cap e k τ xs) :: σ) Q := fun h0 G S0 t h ms I => by
  refine hx h0 G S0 t h ms { I with cells := fun c hc => ?_, new := I.new, apart := I.apart, slots := I.slots }; rcases List.mem_cons.1 hc with rfl | hc
  · obtain ⟨b, rs, m, h1, h2, h3, h4, h5, h6⟩ := I.cells _ List.mem_cons_self; subst hk; exact .inr ⟨b, rs, m, h1, h2, h3, by rwa [List.take_of_length_le (Nat.le_of_eq h4)] at h6⟩
  exact I.cells c (List.mem_cons_of_mem _ hc)
end Go.Fs
namespace Go.Fs
variable {P : Program} {orc : FuncId → List Value → Heap → Option (Value × Heap)} {rnd : Option Nat} {h h' h0 h1 h2 : Heap} {S S' S0 B G : List Nat} {σ σ' σr : Sto} {t t' : Tr} {ms : List Nat} {fl : VL} {ops : Array Oper} {n i mem : Nat} {l : List Oper} {K : VL → Sto → Prop} {Q : Ex → VL → Sto → Prop}
  {d : Tmp} {ty : TypeId} {pos : String} {after : Array Edge} {op : Op} {v pv : PV} {g : Option (Nat × Bool)} {x y z : Operand} {T T' e : TypeId} {τ τ' : Ty} {w : Value}
inductive SetP : (τ : Ty) → τ.den → Nat → (τ' : Ty) → τ'.den → τ.den → Prop where
  | o {τ : Ty} {x y : τ.den} : SetP τ x 0 τ y y
  | l {a b : Ty} {x : (Ty.pair a b).den} {k : Nat} {τ' : Ty} {y : τ'.den} {z : a.den} (hs : SetP a x.1 k τ' y z) : SetP (.pair a b) x k τ' y (z, x.2)
  | r {a b : Ty} {x : (Ty.pair a b).den} {k k' : Nat} {τ' : Ty} {y : τ'.den} {z : b.den} (hs : SetP b x.2 k τ' y z) (hk : k' = a.size + k := by rfl) : SetP (.pair a b) x k' τ' y (x.1, z)
end Go.Fs
namespace Go.Fs
variable {P : Program} {orc : FuncId → List Value → Heap → Option (Value × Heap)} {rnd : Option Nat} {h h' h0 h1 h2 : Heap} {S S' S0 B G : List Nat} {σ σ' σr : Sto} {t t' : Tr} {ms : List Nat} {fl : VL} {ops : Array Oper} {n i mem : Nat} {l : List Oper} {K : VL → Sto → Prop} {Q : Ex → VL → Sto → Prop}
  {d : Tmp} {ty : TypeId} {pos : String} {after : Array Edge} {op : Op} {v pv : PV} {g : Option (Nat × Bool)} {x y z : Operand} {T T' e : TypeId} {τ τ' : Ty} {w : Value}
end Go.Fs
namespace Go.Fs
variable {P : Program} {orc : FuncId → List Value → Heap → Option (Value × Heap)} {rnd : Option Nat} {h h' h0 h1 h2 : Heap} {S S' S0 B G : List Nat} {σ σ' σr : Sto} {t t' : Tr} {ms : List Nat} {fl : VL} {ops : Array Oper} {n i mem : Nat} {l : List Oper} {K : VL → Sto → Prop} {Q : Ex → VL → Sto → Prop}
  {d : Tmp} {ty : TypeId} {pos : String} {after : Array Edge} {op : Op} {v pv : PV} {g : Option (Nat × Bool)} {x y z : Operand} {T T' e : TypeId} {τ τ' : Ty} {w : Value} {ρ : Sto} {bs nw : List Nat} {tl : Bool}
end Go.Fs
namespace Go.Fs
variable {P : Program} {O : FuncId → List Value → Heap → Option (Value × Heap)} {h h' : Heap} {S : List Nat}
end Go.Fs
namespace Go.Fs
open Go.RowKit (Below)
open Go.Sort Go.Proofs
def Ty.isPlain : Ty → Bool
  | .int _ => true
  | .bool => true
  | .str => true
  | .unit => true
  | .pair a b => a.isPlain && b.isPlain
  | _ => false
def decT : (τ : Ty) → List Value → Option (τ.den × List Value)
  | .int k, vs => match vs with
    | .int k' n :: r => if k' = k then some (n, r) else none
    | _ => none
  | .bool, vs => match vs with
    | .bool b :: r => some (b, r)
    | _ => none
  | .str, vs => match vs with
    | .string s :: r => some (s, r)
    | _ => none
  | .unit, vs => some ((), vs)
  | .pair a b, vs => match decT a vs with
    | some (x, r) => match decT b r with
      | some (y, r') => some ((x, y), r')
      | none => none
    | none => none
  | .flt _, _ => none
  | .sl _, _ => none
  | .mp _ _, _ => none
  | .fn, _ => none
  | .hnd, _ => none
theorem decT_enc : ∀ {τ : Ty} {vs r : List Value} {x : τ.den}, decT τ vs = some (x, r) → vs = τ.flatC x ++ r := by
  intro τ
  induction τ with
  | int k =>
    intro vs r x h; unfold decT at h; split at h
    · rename_i k' n r'; split at h
      · rename_i hk; subst hk; cases h; rfl
      cases h
    cases h
  | bool =>
    intro vs r x h; unfold decT at h; split at h
    · cases h; rfl
    cases h
  | str =>
    intro vs r x h; unfold decT at h; split at h
    · cases h; rfl
    cases h
  | unit => intro vs r x h; cases h; rfl
  | pair a b iha ihb =>
    intro vs r x h; unfold decT at h; split at h
    · rename_i x1 r1 h1; split at h
      · rename_i y1 r2 h2; cases h; rw [iha h1, ihb h2]; show _ = (a.flatC x1 ++ b.flatC y1) ++ r; rw [List.append_assoc]
      cases h
    cases h
  | flt k => intro vs r x h; cases h
  | sl e _ => intro vs r x h; cases h
  | mp a b _ _ => intro vs r x h; cases h
  | fn => intro vs r x h; cases h
  | hnd => intro vs r x h; cases h
theorem decT_of : ∀ {τ : Ty} {r : List Value} {x : τ.den}, τ.isPlain = true → decT τ (τ.flatC x ++ r) = some (x, r) := by
  intro τ
  induction τ with
  | int k => intro r x _; show (if k = k then some (x, r) else none) = _; rw [if_pos rfl]
  | bool => intro r x _; rfl
  | str => intro r x _; rfl
  | unit => intro r x _; rfl
  | pair a b iha ihb =>
    intro r x h; obtain ⟨h1, h2⟩ := band h; show decT (.pair a b) ((a.flatC x.1 ++ b.flatC x.2) ++ r) = _; rw [List.append_assoc]; unfold decT; rw [iha h1]; simp only
    rw [ihb h2]
  | flt k => intro r x h; cases h
  | sl e _ => intro r x h; cases h
  | mp a b _ _ => intro r x h; cases h
  | fn => intro r x h; cases h
  | hnd => intro r x h; cases h
theorem flatC_len : ∀ {τ : Ty} (x : τ.den), τ.isPlain = true → (τ.flatC x).length = τ.size := by
  intro τ
  induction τ with
  | int k => intro x _; rfl
  | bool => intro x _; rfl
  | str => intro x _; rfl
  | unit => intro x _; rfl
  | pair a b iha ihb =>
    intro x h; obtain ⟨h1, h2⟩ := band h; show (a.flatC x.1 ++ b.flatC x.2).length = a.size + b.size
    rw [List.length_append, iha _ h1, ihb _ h2]
  | flt k => intro x h; cases h
  | sl e _ => intro x h; cases h
  | mp a b _ _ => intro x h; cases h
  | fn => intro x h; cases h
  | hnd => intro x h; cases h
theorem plain_flat : ∀ {τ : Ty}, τ.isPlain = true → τ.isFlat = true := by
  intro τ
  induction τ with
  | pair a b iha ihb =>
    intro h; obtain ⟨h1, h2⟩ := band h; show (a.isFlat && b.isFlat) = true
    rw [iha h1, ihb h2]; rfl
  | int k => intro _; rfl
  | bool => intro _; rfl
  | str => intro _; rfl
  | unit => intro _; rfl
  | flt k => intro h; cases h
  | sl e _ => intro h; cases h
  | mp a b _ _ => intro h; cases h
  | fn => intro h; cases h
  | hnd => intro h; cases h
section
variable {τ : Ty}
abbrev encL (τ : Ty) (xs : List τ.den) : List Value := xs.flatMap τ.flatC
def decL (τ : Ty) : Nat → List Value → Option (List τ.den)
  | _, [] => some []
  | 0, _ :: _ => none
  | m + 1, v :: vs => match decT τ (v :: vs) with
    | some (x, r) => match decL τ m r with
      | some xs => some (x :: xs)
      | none => none
    | none => none
theorem decL_enc : ∀ {m : Nat} {vs : List Value} {xs : List τ.den}, decL τ m vs = some xs → vs = encL τ xs
  | m, [], xs, h => by
    cases m <;> (unfold decL at h; cases h; rfl)
  | 0, v :: vs, xs, h => by unfold decL at h; cases h
  | m + 1, v :: vs, xs, h => by
    unfold decL at h; split at h
    · rename_i x r h1; split at h
      · rename_i ys h2; cases h; rw [decT_enc h1, decL_enc h2]; rfl
      cases h
    cases h
theorem decL_of (hp : τ.isPlain = true) (hs : 0 < τ.size) : ∀ {xs : List τ.den} {m : Nat}, xs.length ≤ m → decL τ m (encL τ xs) = some xs
  | [], m, _ => by cases m <;> rfl
  | x :: xs, 0, h => by simp at h
  | x :: xs, m + 1, h => by
    have ih := decL_of hp hs (xs := xs) (m := m) (by simpa using h); have hd : decT τ (τ.flatC x ++ encL τ xs) = some (x, encL τ xs) := decT_of hp; have e : encL τ (x :: xs) = τ.flatC x ++ encL τ xs := rfl; rw [e]
    cases hc : τ.flatC x ++ encL τ xs with
    | nil =>
      have := flatC_len x hp
      have h2 : (τ.flatC x).length = 0 := by
        have := congrArg List.length hc; rw [List.length_append] at this; simp at this
        exact by simp [this.1]
      omega
    | cons v vs =>
      rw [hc] at hd; unfold decL; rw [hd]; simp only; rw [ih]
theorem encL_len (hp : τ.isPlain = true) : ∀ (xs : List τ.den), (encL τ xs).length = xs.length * τ.size
  | [] => by simp
  | x :: r => by
    have e : encL τ (x :: r) = τ.flatC x ++ encL τ r := rfl; rw [e, List.length_append, encL_len hp r, flatC_len x hp, List.length_cons, Nat.add_mul]; omega
theorem encL_af : ∀ (xs : List τ.den), (encL τ xs).all af0 = true
  | [] => rfl
  | x :: r => by
    have e : encL τ (x :: r) = τ.flatC x ++ encL τ r := rfl; rw [e, List.all_append, encL_af r, flatC_af]; rfl
variable {cf : τ.den → τ.den → Int}
local instance denInh : Inhabited τ.den := ⟨zeroD τ⟩
def sortG (cf : τ.den → τ.den → Int) (xs : List τ.den) : List τ.den := (pdq (ltOf cf) xs.toArray 0 xs.toArray.size (Lib.bitLen xs.toArray.size) true true).toList
theorem sortG_spec (sw : SWO (ltOf cf)) (xs : List τ.den) : PermIn 0 xs.toArray.size xs.toArray (sortG cf xs).toArray ∧ SortedIn (ltOf cf) 0 xs.toArray.size (sortG cf xs).toArray := by
  have := pdq_sorts (ltOf cf) sw xs.toArray 0 xs.toArray.size (Lib.bitLen xs.toArray.size) true true (Nat.zero_le _) (Nat.le_refl _) (Or.inl rfl); exact this
theorem sortG_len (sw : SWO (ltOf cf)) (xs : List τ.den) : (sortG cf xs).length = xs.length := by
  have := (sortG_spec sw xs).1.1; simpa using this
theorem sortG_perm (sw : SWO (ltOf cf)) (xs : List τ.den) : (sortG cf xs).Perm xs := by
  have h := (sortG_spec sw xs).1.2.2; have h2 := sortG_len sw xs
  have h3 : ((sortG cf xs).take xs.length).Perm xs := by simpa using h
  rwa [List.take_of_length_le (by omega)] at h3
theorem sortG_sorted (sw : SWO (ltOf cf)) (xs : List τ.den) : (sortG cf xs).Pairwise fun a b => ltOf cf b a = false := by
  rw [List.pairwise_iff_getElem]; intro i j hi hj hij; have h := (sortG_spec sw xs).2 i j (Nat.zero_le _) hij (by simpa [sortG_len sw] using hj); simpa [hi, hj] using h
def srtG (cf : τ.den → τ.den → Int) (vs : List Value) : Option (List Value) := match decL τ vs.length vs with
  | some xs => some (encL τ (sortG cf xs))
  | none => none
theorem srtG_inv {vs vs' : List Value} (h : srtG cf vs = some vs') : ∃ xs, vs = encL τ xs ∧ vs' = encL τ (sortG cf xs) := by
  unfold srtG at h; split at h
  · rename_i xs hd; cases h; exact ⟨xs, decL_enc hd, rfl⟩
  cases h
theorem srtG_of (hp : τ.isPlain = true) (hs : 0 < τ.size) (xs : List τ.den) : srtG cf (encL τ xs) = some (encL τ (sortG cf xs)) := by
  unfold srtG; rw [decL_of hp hs (by rw [encL_len hp]; exact Nat.le_mul_of_pos_right _ hs)]
theorem srtG_ok (hp : τ.isPlain = true) (sw : SWO (ltOf cf)) : SortV (srtG cf) where
  len vs vs' h := by obtain ⟨xs, rfl, rfl⟩ := srtG_inv h; rw [encL_len hp, encL_len hp, sortG_len sw]
  ino vs vs' h := by obtain ⟨xs, rfl, rfl⟩ := srtG_inv h; exact encL_af _
  out vs vs' h := by obtain ⟨xs, rfl, rfl⟩ := srtG_inv h; exact encL_af _
variable {P : Program} {O : FuncId → List Value → Heap → Option (Value × Heap)} {h h' : Heap} {S : List Nat}
theorem elems_L (hp : τ.isPlain = true) : ∀ {xs : List τ.den} {rs : List Value}, Elems h S τ rs xs → rs = encL τ xs
  | [], rs, he => by
    have := he.1; simp at this
    subst this; rfl
  | x :: xs, rs, he => by
    have hl : rs.length = (xs.length + 1) * τ.size := he.1; have h0 : RepC h S τ ((rs.drop (0 * τ.size)).take τ.size) x := he.2 0 (by simp); rw [Nat.zero_mul, List.drop_zero] at h0; have h1 := flat_cells h0 (plain_flat hp)
    have h2 : Elems h S τ (rs.drop τ.size) xs := ⟨by show (rs.drop τ.size).length = xs.length * τ.size; rw [List.length_drop, hl, Nat.add_mul]; omega, fun i hi => by
      have h3 : RepC h S τ ((rs.drop ((i + 1) * τ.size)).take τ.size) xs[i] := he.2 (i + 1) (Nat.succ_lt_succ hi); show RepC h S τ (((rs.drop τ.size).drop (i * τ.size)).take τ.size) xs[i]; rw [List.drop_drop]
      have e : τ.size + i * τ.size = (i + 1) * τ.size := by rw [Nat.add_mul]; omega
      rw [e]
      exact h3⟩
    have h3 := elems_L hp h2; have e : encL τ (x :: xs) = τ.flatC x ++ encL τ xs := rfl; rw [e, ← h1, ← h3, List.take_append_drop]
theorem repC_plain (hp : τ.isPlain = true) (x : τ.den) : RepC h S τ (τ.flatC x) x := by
  induction τ with
  | int k => rfl
  | bool => rfl
  | str => rfl
  | unit => rfl
  | pair a b iha ihb =>
    obtain ⟨h1, h2⟩ := band hp; have e1 : (a.flatC x.1).length = a.size := flatC_len _ h1; show RepC h S a (((a.flatC x.1) ++ (b.flatC x.2)).take a.size) x.1 ∧ RepC h S b (((a.flatC x.1) ++ (b.flatC x.2)).drop a.size) x.2; rw [← e1, List.take_left, List.drop_left]
    exact ⟨iha h1 x.1, ihb h2 x.2⟩
  | flt k => cases hp
  | sl e _ => cases hp
  | mp a b _ _ => cases hp
  | fn => cases hp
  | hnd => cases hp
theorem L_elems (hp : τ.isPlain = true) {xs : List τ.den} : Elems h S τ (encL τ xs) xs := by
  induction xs with
  | nil => exact Elems.nil
  | cons x xs ih =>
    have h1 : Elems h S τ (τ.flatC x) [x] := ⟨by rw [flatC_len x hp]; simp, fun i hi => by
      obtain rfl : i = 0 := by simp at hi; omega
      show RepC h S τ (((τ.flatC x).drop (0 * τ.size)).take τ.size) x; rw [Nat.zero_mul, List.drop_zero, List.take_of_length_le (by rw [flatC_len x hp]; exact Nat.le_refl _)]
      exact repC_plain hp x⟩
    exact h1.append ih
theorem VFG.sortG {fs g : FuncId} {e : TypeId} {w : Value} {xs : List τ.den} (hp : τ.isPlain = true) (hz : 0 < τ.size) (sw : SWO (ltOf cf)) (hn : xs.length ≤ 1000000) :
    VFG P (orcF fs g τ.size (srtG cf) O) fs [.raw w, .clo g [] []] [(w, .row e τ xs)] fun r γ' => r = .tup [] ∧ γ' = [(w, .row e τ (Fs.sortG cf xs))] := fun h S us hok hS hcells hnd hsep ha => by
  obtain ⟨u, r, rfl, h1, h2⟩ := ha; obtain ⟨u2, r2, rfl, h3, h4⟩ := h2; obtain rfl : r2 = [] := h4; obtain rfl : u = w := h1; obtain ⟨va, vc, rfl, h5, h6⟩ := h3; obtain rfl : va = [] := h5; obtain rfl : vc = [] := h6; rcases hcells _ List.mem_cons_self with ⟨hw, hx⟩ | ⟨b, rs, m, hw, h3, h4, h5⟩
  · have hw : u = .slice none 0 0 := hw; have hx : xs = [] := hx; subst hw hx; refine EvF.oracle (v := .tuple #[]) (h' := h) (by simp only [orcF, Nat.beq_refl, cond_true]; rfl) ?_; refine ⟨_, _, ⟨rfl, rfl⟩, ⟨Aft.refl _ _, fun b hb => (by cases hb), List.nodup_nil, fun c hc => ?_⟩, ⟨[], rfl, rfl⟩⟩
    obtain rfl : c = _ := by simpa using hc
    exact .inl ⟨rfl, List.length_eq_zero_iff.1 (sortG_len sw [])⟩
  have hw : u = .slice (some ⟨b, 0, none⟩) xs.length 0 := hw; have hrs := elems_L hp h5; subst hw hrs
  have ho : orcF fs g τ.size (srtG cf) O fs [.slice (some ⟨b, 0, none⟩) xs.length 0, .func (.func g) #[] #[]] h = some (.tuple #[], h.set b (.row e (encL τ (Fs.sortG cf xs)) true m)) := by
    have e1 : Nat.ble (xs.length * τ.size) (encL τ xs).length = true := by rw [Nat.ble_eq, encL_len hp]; exact Nat.le_refl _
    have e2 : Nat.ble xs.length 1000000 = true := by rw [Nat.ble_eq]; exact hn
    have e3 : (encL τ xs).take (xs.length * τ.size) = encL τ xs := List.take_of_length_le (by rw [encL_len hp]; exact Nat.le_refl _)
    have e4 : splice (encL τ xs) 0 (encL τ (Fs.sortG cf xs)) = encL τ (Fs.sortG cf xs) := by
      unfold splice; rw [List.take_zero, List.nil_append, List.drop_of_length_le (by rw [encL_len hp, encL_len hp, sortG_len sw]; omega), List.append_nil]
    have e5 : (Nat.beq g g && (Nat.beq (#[] : Array Value).size 0 && Nat.beq (#[] : Array Value).size 0)) = true := by rw [Nat.beq_refl]; rfl
    simp only [orcF, Nat.beq_refl, cond_true, h4, e1, e2, Bool.and_self, e3, srtG_of hp hz, e4, e5]; rfl
  refine EvF.oracle ho ⟨_, _, ⟨rfl, rfl⟩, ⟨Aft.set h4 (by simp [own, blk]), fun b' hb' => .inl (by simpa [own, blk] using hb'), by simp [own, blk], fun c hc => ?_⟩, ⟨[], rfl, rfl⟩⟩
  obtain rfl : c = _ := by simpa using hc
  refine .inr ⟨b, _, m, by rw [sortG_len sw], by simp [own, blk], by rw [Heap.get_set h4, if_pos rfl], L_elems hp⟩
end
end Go.Fs
namespace Go.Fs
open Go.RowKit (Below)
open Go.Sort Go.Proofs
variable {P : Program}
def ints : List Value → Option (List Int)
  | [] => some []
  | .int .i64 n :: r => (ints r).map (n :: ·)
  | _ => none
theorem ints_eq : ∀ {cs : List Value} {zs : List Int}, ints cs = some zs → cs = zs.map (.int .i64)
  | [], zs, h => by
    simp only [ints, Option.some.injEq] at h
    subst h; rfl
  | v :: r, zs, h => by
    unfold ints at h; split at h
    · rename_i he; cases he
    · rename_i n r0 he; simp only [List.cons.injEq] at he; obtain ⟨rfl, rfl⟩ := he; obtain ⟨zs0, h1, rfl⟩ := Option.map_eq_some_iff.1 h; rw [ints_eq h1]; rfl
    cases h
def sortI (zs : List Int) : List Int := zs.mergeSort fun x y => decide (x ≤ y)
theorem sortI_length (zs : List Int) : (sortI zs).length = zs.length := by simp [sortI]
def orcJ (fs : FuncId) (O : FuncId → List Value → Heap → Option (Value × Heap)) : FuncId → List Value → Heap → Option (Value × Heap) := fun f xs h =>
  bif Nat.beq f fs then
    match xs with
    | [.slice (some ⟨b, 0, none⟩) n _] =>
      match h.get b with
      | some (.row e cs true more) =>
        bif Nat.ble n cs.length && Nat.ble n 1000000 then
          match ints (cs.take n) with
          | some zs => some (.tuple #[], h.set b (.row e (splice cs 0 ((sortI zs).map (.int .i64))) true more))
          | none => none
        else none
      | _ => none
    | [.slice none 0 0] => some (.tuple #[], h)
    | _ => none
  else O f xs h
variable {B : Nat} {w0 w w' : World} {ρ : Ren} {S : Nat → Prop} {h : Heap}
theorem orcJ_sound {fs : FuncId} {O : FuncId → List Value → Heap → Option (Value × Heap)} (hz : w0.drawn = 0) (hO : CallSound P B w0 O) (hs : Enters P fs)
    (hN : ∀ w, Below B w0 w → Calls P fs #[.slice none 0 0] w fun | .returned v', w' => v' = .tuple #[] ∧ Below w.heap.size w w' | _, _ => False)
    (hT : ∀ (blk off cap : Nat) (zs : List Int) (w : World), Holds (Value.int .i64) w blk off zs.toArray → blk < w.heap.size → zs.length < 4611686018427387904 → Calls P fs #[.slice (some ⟨blk, off, none⟩) zs.length cap] w fun e w' =>
      e = .returned (.tuple #[]) ∧ ∃ n os, w' = grow (putRow (Value.int .i64) (Sort.ahead w n) blk off (zs.mergeSort fun x y => decide (x ≤ y)).toArray) os) : CallSound P B w0 (orcJ fs O) := by
  intro f xs h v h' hf; unfold orcJ at hf
  cases hb : Nat.beq f fs with
  | false =>
    rw [hb] at hf
    exact hO f xs h v h' hf
  | true =>
    have := nbeq hb; subst this; rw [hb] at hf; simp only [cond_true] at hf; split at hf
    · rename_i b n mk; split at hf
      · rename_i e cs more hg; obtain ⟨hc, hf⟩ := bif_some hf; obtain ⟨hle, hn⟩ := band hc; have hle := nble hle; have hn := nble hn; split at hf
        · rename_i zs hss; simp only [Option.some.injEq, Prod.mk.injEq] at hf; obtain ⟨rfl, rfl⟩ := hf; refine ⟨hs, fun ρ S w args' hr ha nn => ?_⟩
          match args', ha with
          | [x'], ha =>
            have hx : VR ρ S (.slice (some ⟨b, 0, none⟩) n mk) x' := ha.2 0 (by simp); obtain ⟨A, c, rfl, hnc, _, _, hbb⟩ := hx.slice_inv; have hb0 : b ≠ 0 := (hr.ids b (hr.objs b _ hg).1).2; obtain ⟨_, rfl, _⟩ := hbb hb0; obtain ⟨_, cur, h1, h2, h3, h4, h5, h6, h7⟩ := hr.objs b _ hg; have hlt : (ρ b).block < w.heap.size := (Array.getElem?_eq_some_iff.1 h1).1
            have hlr : LR ρ S (cs.take n) (cur.take n) := by
              refine LR.of_get? (by simp; omega) fun i v v' hv hv' => ?_; rw [List.getElem?_take] at hv hv'; split at hv
              · rename_i hin; rw [if_pos hin] at hv'; have := h7 i (by omega); simpa [List.getD, hv, hv'] using this
              cases hv
            have heq0 := ints_eq hss
            have heq : cur.take n = zs.map (.int .i64) := by rw [← heq0]; exact hlr.eq_af0 (by rw [heq0]; simp [af0])
            have hsl : zs.length = n := by
              have := congrArg List.length heq; simp at this; omega
            have hold : Holds (Value.int .i64) w (ρ b).block 0 zs.toArray := by
              intro j hj
              have hj' : j < zs.length := by simpa using hj
              have h8 := congrArg (·[j]?) heq; simp [show j < n by omega, hj'] at h8; have h9 : cur[j]? = some (.int .i64 zs[j]) := h8
              have h10 : cur.toArray[0 + j]? = some (.int .i64 zs[j]) := by simpa using h9
              refine ⟨?_, ?_⟩
              · simp only [World.cell?, h1, Option.isSome_none, Bool.false_eq_true, if_false, h10]; simp [hj']
              rw [Nat.zero_add]; exact frozen_soft h1 (by omega)
            have hC : CallsIn Fence.wide nn P f #[.slice (some ⟨(ρ b).block, 0, none⟩) zs.length c] w _ := callsIn_wide.2 (hT (ρ b).block 0 c _ w hold hlt (by omega)); rw [hsl] at hC
            have hat : (ρ b).at 0 = ⟨(ρ b).block, 0, none⟩ := by simp [Loc.at, h2]
            rw [hat]; refine hC.mono fun e' w' hret => ?_; obtain ⟨rfl, k, os, rfl⟩ := hret
            have hput : (putCells (Value.int .i64) 0 (zs.mergeSort fun x y => decide (x ≤ y)).toArray cur.toArray).toList = cur.take 0 ++ (sortI zs).map (.int .i64) ++ cur.drop (0 + ((sortI zs).map (Value.int .i64)).length) := by
              apply List.ext_getElem?; intro j; simp only [List.take_zero, List.nil_append, Nat.zero_add, List.length_map, sortI_length]; by_cases hj : j < zs.length
              · rw [List.getElem?_append_left (by simpa [sortI_length] using hj)]; simp [putCells, sortI, hj, show j < cur.length by omega]
              rw [List.getElem?_append_right (by simpa [sortI_length] using Nat.le_of_not_lt hj)]; simp [putCells, sortI_length, hj]; congr 1; omega
            have m1 : Moved P B w0 ρ ρ S h (h.set b (.row e (splice cs 0 ((sortI zs).map (.int .i64))) true more)) w (putRow (Value.int .i64) w (ρ b).block 0 (zs.mergeSort fun x y => decide (x ≤ y)).toArray) := by
              refine Moved.set hr hg rfl rfl rfl rfl rfl (by simp [putRow, mapBlock]) (fun k hk => by simp [putRow, mapBlock, Array.getElem?_modify, Ne.symm hk]) ?_; refine ⟨_, ?_, h2, ?_, h4, ?_, ?_, LR.spliceCur h7 h5 (LR.map _ _ _ fun x _ => .lit rfl) (by simp [sortI_length]; omega)⟩
              · rw [← hput]; simp [putRow, mapBlock, Array.getElem?_modify, h1, onCells]
              · simp [sortI_length, h3]; omega
              · simp [splice, sortI_length]; omega
              intro hm; have := h6 hm; simp [splice, sortI_length]; omega
            have m2 := Moved.grewWorld m1.hr (w' := grow (putRow (Value.int .i64) (Sort.ahead w k) (ρ b).block 0 (zs.mergeSort fun x y => decide (x ≤ y)).toArray) os)
              ⟨rfl, rfl, rfl, by simp [grow, putRow, mapBlock, Sort.ahead], fun j hj => by
                rw [heap_grow_old _ _ (by simpa [putRow, mapBlock, Sort.ahead] using hj)]; rfl⟩ (by rw [hz]; exact Nat.zero_le _)
            exact ⟨ρ, m1.trans m2, VR.undef⟩
        cases hf
      cases hf
    · simp only [Option.some.injEq, Prod.mk.injEq] at hf; obtain ⟨rfl, rfl⟩ := hf; refine ⟨hs, fun ρ S w args' hr har nn => ?_⟩; have he : args' = [.slice none 0 0] := har.eq_of_af (by rfl); subst he; have hC : CallsIn Fence.wide nn P f #[.slice none 0 0] w _ := callsIn_wide.2 (hN w hr.below); refine hC.mono fun e w' hret => ?_
      cases e with
      | returned v' =>
        obtain ⟨rfl, hb⟩ := hret
        exact ⟨ρ, Moved.grewWorld hr hb (by rw [hz]; exact Nat.zero_le _), VR.undef⟩
      | panicked c => exact hret.elim
      | outgrown => exact hret.elim
    cases hf
end Go.Fs
namespace Go.Fs
variable {P : Program} {orc : FuncId → List Value → Heap → Option (Value × Heap)} {h h' : Heap} {S S' : List Nat} {σ : Sto}
end Go.Fs
namespace Go.Fs
variable {P : Program} {fl : VL} {σ : Sto} {x y : Operand} {T T' : TypeId} {p q : Int}
end Go.Fs
namespace Go.Proofs
open Go.Fs
def cmpE (x y : Int × Int) : Int := Lib.compareInt x.1 y.1
def OA := orcF 186 187 2 (srtG (τ := .pair (.int .i64) (.int .i64)) cmpE) (orcJ 139 (orcA 160 160 14))
theorem ltE {x y : Int × Int} : Go.Proofs.ltOf cmpE x y = decide (x.1 < y.1) := by
  unfold Go.Proofs.ltOf cmpE Lib.compareInt; by_cases h1 : x.1 < y.1
  · simp [h1]
  by_cases h2 : y.1 < x.1 <;> simp [h1, h2]
theorem swoE : Go.Sort.SWO (Go.Proofs.ltOf cmpE) where
  irrefl x := by rw [ltE]; simp
  trans x y z h1 h2 := by rw [ltE] at *; simp at *; omega
  ntrans x y z h1 h2 := by rw [ltE] at *; simp at *; omega
theorem awake_ok : VF Tryz.prog OA 14 [] (B true) := VF.oracle (fun _ => rfl) fun _ _ => ⟨rfl, rfl⟩
abbrev y25 : Ty := (.sl (.int .i64))
abbrev y154 : Ty := (.sl (.int .i64))
theorem vt3 : ValT Tryz.prog 3 (.int .i64) := valT_of (by kernel_rfl)
theorem vt26 : ValT Tryz.prog 26 (.int .i64) := valT_of (by kernel_rfl)
theorem el25 : ElT Tryz.prog 25 3 (.int .i64) := elT_of (by kernel_rfl)
theorem el154 : ElT Tryz.prog 154 26 (.int .i64) := elT_of (by kernel_rfl)
def whenE (c : Bool) (e : Int) : Int := bif c then e else 0
theorem cWhen_ok {c : Bool} {e : Int} : VF Tryz.prog OA 100 [B c, I e] (I (whenE c e)) := by
  refine VF.enter Tryz.func100 rfl (fun _ _ => rfl) rfl ?_; show VC _ _ _ _ _ [(0, B c), (1, I e)] [] _; refine VC.seq (VC.text ?_); refine VO.c (.assign rfl) ?_; refine VO.go (VC.seq (VC.seq (VC.text ?_))); refine VO.c (.move rfl) (VO.go ?_); refine VC.condB rfl (fun c1 => ?_) (fun c1 => ?_)
  · subst c1; refine VC.seq (VC.text ?_); refine VO.c (.move rfl) (VO.c (.assign rfl) (VO.go ?_)); refine VC.ret ?_; exact VEnd.one rfl evT (pvI (by rfl))
  subst c1; refine VC.skip (VC.seq (VC.text ?_)); refine VO.c (.assign rfl) (VO.go ?_); refine VC.ret ?_; exact VEnd.one rfl evT (pvI (by rfl))
def rangeE (n lo hi : Int) : Int := if n < lo ∨ hi < n then 3 else 0
theorem rCheckRange_ok {n : Int} {lo : Int} {hi : Int} : VF Tryz.prog OA 93 [I n, I lo, I hi] (I (rangeE n lo hi)) := by
  refine VF.enter Tryz.func93 rfl (fun _ _ => rfl) rfl ?_; show VC _ _ _ _ _ [(0, I n), (1, I lo), (2, I hi)] [] _; refine VC.seq (VC.text ?_); refine VO.c (.assign rfl) ?_; refine VO.go (VC.seq (VC.seq (VC.text ?_))); refine VO.c (.move rfl) (VO.c (.move rfl) (VO.c (.lss) (VO.c (.move rfl) ?_))); refine VO.cg (r := decide (n < lo)) (w := false) [] trivial (fun _ => (.move rfl)) ?_; refine VO.cg (r := decide (n < lo)) (w := false) [] trivial (fun _ => (.move rfl)) ?_; refine VO.cg (r := decide (n < lo)) (w := false) [(11, I n), (12, I hi)] ⟨rfl, rfl, trivial⟩ (fun _ => (.gtr)) ?_; refine VO.c (.or) (VO.go ?_); refine VC.condB rfl (fun c1 => ?_) (fun c1 => ?_)
  · try simp only [Bool.and_eq_true, Bool.or_eq_true, Bool.and_eq_false_iff, Bool.or_eq_false_iff, Bool.not_eq_true', Bool.not_eq_false', decide_eq_true_eq, decide_eq_false_iff_not] at c1
    refine VC.seq (VC.text ?_); refine VO.c (.assign rfl) (VO.go ?_); refine VC.ret ?_; exact VEnd.one rfl evT (pvI (by simp only [rangeE, ← Bool.decide_or, decide_eq_true_eq, decide_eq_false_iff_not, Bool.or_eq_true, Bool.or_eq_false_iff] at *; first | rw [if_pos (by omega)] | rw [if_neg (by omega)]))
  try simp only [Bool.and_eq_true, Bool.or_eq_true, Bool.and_eq_false_iff, Bool.or_eq_false_iff, Bool.not_eq_true', Bool.not_eq_false', decide_eq_true_eq, decide_eq_false_iff_not] at c1
  refine VC.skip (VC.seq (VC.text ?_)); refine VO.c (.assign rfl) (VO.go ?_); refine VC.ret ?_; exact VEnd.one rfl evT (pvI (by simp only [rangeE, ← Bool.decide_or, decide_eq_true_eq, decide_eq_false_iff_not, Bool.or_eq_true, Bool.or_eq_false_iff] at *; first | rw [if_pos (by omega)] | rw [if_neg (by omega)]))
theorem whenE_range {n lo hi : Int} : whenE (decide (n < lo) || decide (hi < n)) 3 = rangeE n lo hi := by
  unfold whenE rangeE; by_cases h1 : n < lo <;> by_cases h2 : hi < n <;> simp [h1, h2]
theorem cWithin_ok {n : Int} {lo : Int} {hi : Int} : VF Tryz.prog OA 102 [I n, I lo, I hi] (I (rangeE n lo hi)) := by
  refine VF.enter Tryz.func102 rfl (fun _ _ => rfl) rfl ?_; show VC _ _ _ _ _ [(0, I n), (1, I lo), (2, I hi)] [] _; refine VC.seq (VC.text ?_); refine VO.c (.assign rfl) ?_; refine VO.go (VC.seq (VC.text ?_)); refine VO.c (.move rfl) (VO.c (.move rfl) (VO.c (.lss) (VO.c (.move rfl) ?_))); refine VO.cg (r := decide (n < lo)) (w := false) [] trivial (fun _ => (.move rfl)) ?_; refine VO.cg (r := decide (n < lo)) (w := false) [] trivial (fun _ => (.move rfl)) ?_; refine VO.cg (r := decide (n < lo)) (w := false) [(11, I n), (12, I hi)] ⟨rfl, rfl, trivial⟩ (fun _ => (.gtr)) ?_; refine VO.c (.or) ?_; refine VO.call rfl rfl (VF.call (cWhen_ok )) ?_; refine VO.c (.assign rfl) (VO.go ?_); refine VC.ret ?_; exact VEnd.one rfl evT (pvI (by exact whenE_range))
def firstE : List Int → Int
  | [] => 0
  | x :: r => if x = 0 then firstE r else x
theorem firstE_drop {xs : List Int} {j : Nat} (hj : j < xs.length) : firstE (xs.drop j) = if xs[j] = 0 then firstE (xs.drop (j + 1)) else xs[j] := by
  rw [List.drop_eq_getElem_cons hj] <;> rfl
theorem firstE_end {xs : List Int} {j : Nat} (hj : xs.length ≤ j) : firstE (xs.drop j) = 0 := by rw [List.drop_eq_nil_of_le hj] <;> rfl
theorem firstE_zero : ∀ {l : List Int}, firstE l = 0 ↔ ∀ x ∈ l, x = 0
  | [] => ⟨fun _ x hx => (by cases hx), fun _ => rfl⟩
  | x :: r => by
    have ih := firstE_zero (l := r); show (if x = 0 then firstE r else x) = 0 ↔ _; by_cases hx : x = 0
    · rw [if_pos hx, ih]; exact ⟨fun h y hy => (List.mem_cons.1 hy).elim (fun e => e.trans hx) (h y), fun h y hy => h y (List.mem_cons_of_mem _ hy)⟩
    rw [if_neg hx]; exact ⟨fun h => absurd h hx, fun h => absurd (h x List.mem_cons_self) hx⟩
theorem cFirst_ok {l : List Int} (hl : l.length < 1000000) : VF Tryz.prog OA 99 [.v y154 l] (I (firstE l)) := by
  refine VF.enter Tryz.func99 rfl (fun _ _ => rfl) rfl ?_; show VC _ _ _ _ _ [(0, .v y154 l)] [] _; refine VC.seq (VC.text ?_); refine VO.c (.assign rfl) ?_; refine VO.go (VC.seq (VC.seq (VC.text ?_))); refine VO.c (.move rfl) ?_; refine VO.r (.len el154) ?_; refine VO.c (.move rfl) ?_; refine VO.go (VC.block ?_); refine VC.keep [(5, .v y154 l), (6, I ((l.length : Nat) : Int)), (7, I ((0 : Nat) : Int))] ⟨rfl, rfl, rfl, trivial⟩ ?_; refine VC.loop (I := fun kk ff ss => ∃ (j : Nat), kk = l.length - j ∧ ff = [(5, .v y154 l), (6, I ((l.length : Nat) : Int)), (7, I ((j : Nat) : Int))] ∧ ss = [] ∧ (j ≤ l.length) ∧ (firstE l = firstE (l.drop j))) ?_ _ _ _ ⟨0, rfl, rfl, rfl, Nat.zero_le _, (by rfl)⟩; rintro kk ff ss ⟨j, hk0, rfl, rfl, hj, hf⟩; refine VC.seq (VC.text ?_); refine VO.c (.lss) ?_; refine VO.go (VC.seq ?_); refine VC.condD rfl (fun c2 => ?_) (fun c2 => ?_)
  · refine VC.skip (VC.seq (VC.block (VC.seq (VC.text ?_)))); refine VO.c (.ix (j := j) rfl rfl el154 (by omega)) ?_; refine VO.r (.ld vt26) ?_; refine VO.c (.assign rfl) ?_; refine VO.go (VC.seq (VC.text ?_)); refine VO.c (.move rfl) (VO.c (.neq) (VO.go ?_)); refine VC.condD rfl (fun c4 => ?_) (fun c4 => ?_)
    · refine VC.seq (VC.text ?_); refine VO.c (.move rfl) (VO.c (.assign rfl) (VO.go ?_)); refine VC.ret ?_; exact VEnd.one rfl evT (pvI (by rw [hf, firstE_drop (by omega), if_neg c4]))
    refine VC.skip (VC.text ?_); refine VO.c (.add rfl rfl (by omega)) (VO.c (.move rfl) ?_); refine VO.nil ?_; refine ⟨_, [(5, .v y154 l), (6, I ((l.length : Nat) : Int)), (7, I (((j + 1) : Nat) : Int))], ?_, ⟨rfl, rfl, rfl, trivial⟩, (j + 1), rfl, rfl, rfl, (by omega), (by rw [hf, firstE_drop (by omega), if_pos (by simpa using c4)])⟩; omega
  refine VC.exit (VC.seq (VC.text ?_)); refine VO.c (.assign rfl) (VO.go ?_); refine VC.ret ?_; exact VEnd.one rfl evT (pvI (by rw [hf, firstE_end (by omega)]))
theorem rFirst_ok {l : List Int} (hl : l.length < 1000000) : VF Tryz.prog OA 92 [.v y25 l] (I (firstE l)) := by
  refine VF.enter Tryz.func92 rfl (fun _ _ => rfl) rfl ?_; show VC _ _ _ _ _ [(0, .v y25 l)] [] _; refine VC.seq (VC.text ?_); refine VO.c (.assign rfl) ?_; refine VO.go (VC.seq (VC.seq (VC.text ?_))); refine VO.c (.assign rfl) ?_; refine VO.go (VC.block ?_); refine VC.keep [(0, .v y25 l), (3, I ((0 : Nat) : Int))] ⟨rfl, rfl, trivial⟩ ?_; refine VC.loop (I := fun kk ff ss => ∃ (j : Nat), kk = l.length - j ∧ ff = [(0, .v y25 l), (3, I ((j : Nat) : Int))] ∧ ss = [] ∧ (j ≤ l.length) ∧ (firstE l = firstE (l.drop j))) ?_ _ _ _ ⟨0, rfl, rfl, rfl, Nat.zero_le _, (by rfl)⟩; rintro kk ff ss ⟨j, hk0, rfl, rfl, hj, hf⟩; refine VC.seq (VC.seq (VC.text ?_)); refine VO.c (.move rfl) (VO.c (.move rfl) ?_); refine VO.r (.len el25) ?_; refine VO.c (.lss) (VO.go ?_); refine VC.condD rfl (fun c2 => ?_) (fun c2 => ?_)
  · refine VC.skip (VC.seq (VC.block (VC.seq (VC.text ?_)))); refine VO.c (.move rfl) (VO.c (.move rfl) (VO.c (.ix (j := j) rfl rfl el25 (by omega)) ?_)); refine VO.r (.ld vt3) ?_; refine VO.c (.neq) (VO.go ?_); refine VC.condD rfl (fun c4 => ?_) (fun c4 => ?_)
    · refine VC.seq (VC.text ?_); refine VO.c (.move rfl) (VO.c (.move rfl) (VO.c (.ix (j := j) rfl rfl el25 (by omega)) ?_)); refine VO.r (.ld vt3) ?_; refine VO.c (.assign rfl) (VO.go ?_); refine VC.ret ?_; exact VEnd.one rfl evT (pvI (by rw [hf, firstE_drop (by omega), if_neg c4]))
    refine VC.skip (VC.text ?_); refine VO.c (.move rfl) (VO.c (.add rfl rfl (by omega)) (VO.c (.assign rfl) ?_)); refine VO.nil ?_; refine ⟨_, [(0, .v y25 l), (3, I (((j + 1) : Nat) : Int))], ?_, ⟨rfl, rfl, trivial⟩, (j + 1), rfl, rfl, rfl, (by omega), (by rw [hf, firstE_drop (by omega), if_pos (by simpa using c4)])⟩; omega
  refine VC.exit (VC.seq (VC.text ?_)); refine VO.c (.assign rfl) (VO.go ?_); refine VC.ret ?_; exact VEnd.one rfl evT (pvI (by rw [hf, firstE_end (by omega)]))
end Go.Proofs
namespace Go.Proofs
open Go.Fs
set_option maxHeartbeats 400000
theorem getDg {α : Type} {l : List α} {i : Nat} {d : α} (h : i < l.length) : l.getD i d = l[i] := by
  rw [List.getD_eq_getElem?_getD, List.getElem?_eq_getElem h] <;> rfl
theorem whenE_zero {c : Bool} {e : Int} (he : e ≠ 0) : whenE c e = 0 ↔ c = false := by
  cases c with
  | false => exact ⟨fun _ => rfl, fun _ => rfl⟩
  | true => exact ⟨fun h => absurd h he, fun h => by cases h⟩
theorem rangeE_zero {n lo hi : Int} : rangeE n lo hi = 0 ↔ lo ≤ n ∧ n ≤ hi := by
  unfold rangeE; by_cases h : n < lo ∨ hi < n
  · rw [if_pos h]; exact ⟨fun h => absurd h (by decide), fun hh => by omega⟩
  rw [if_neg h]; exact ⟨fun _ => by omega, fun _ => rfl⟩
end Go.Proofs
namespace Go.Proofs
open Go.Fs Ieee
def letterB (c : Int) : Bool := decide (65 ≤ c ∧ c ≤ 90 ∨ 97 ≤ c ∧ c ≤ 122)
def otherB (c : Int) : Bool := decide (48 ≤ c ∧ c ≤ 57 ∨ c = 95)
def byteB (c : Int) (i : Nat) : Bool := letterB c || (decide (i ≠ 0) && otherB c)
def nameB (s : ByteArray) : Bool := decide (s.size ≠ 0 ∧ s.size ≤ 24 ∧ ∀ i, i < s.size → byteB (byteE s i) i = true)
theorem nameB_f {s : ByteArray} {i : Nat} (hi : i < s.size) (h : byteB (byteE s i) i = false) : false = nameB s := by
  refine (decide_eq_false fun hh => ?_).symm; rw [hh.2.2 i hi] at h; cases h
theorem nameB_t {s : ByteArray} (h1 : s.size ≠ 0) (h2 : s.size ≤ 24) (h : ∀ i, i < s.size → byteB (byteE s i) i = true) : true = nameB s := (decide_eq_true ⟨h1, h2, h⟩).symm
theorem size_empty {s : ByteArray} : s ≠ ByteArray.empty ↔ s.size ≠ 0 := by
  constructor
  · intro h e; exact h (ByteArray.ext (Array.eq_empty_of_size_eq_zero e))
  rintro h rfl; exact h rfl
theorem byteB_high {c : Int} {i : Nat} (h : 128 ≤ c) : byteB c i = false := by
  have h1 : letterB c = false := decide_eq_false (by omega); have h2 : otherB c = false := decide_eq_false (by omega); rw [byteB, h1, h2]; simp
theorem rune_f {s : ByteArray} {p : Nat} (h : byteB ((Utf8.decode s p).1 : Nat) p = false) : byteB (byteE s p) p = false := by
  by_cases hl : (s.get! p).toNat < 128
  · rw [decode_low hl] at h; exact h
  exact byteB_high (by rw [byteE_nat]; omega)
theorem rune_t {s : ByteArray} {p : Nat} (h : byteB ((Utf8.decode s p).1 : Nat) p = true) : byteB (byteE s p) p = true ∧ (Utf8.decode s p).2 = 1 := by
  by_cases hl : (s.get! p).toNat < 128
  · rw [decode_low hl] at h ⊢; exact ⟨h, rfl⟩
  have := Go.Fs.decode_high hl; rw [byteB_high (by omega)] at h; cases h
theorem name_end {s : ByteArray} (h : ∀ i, i < s.size → byteB (byteE s i) i = true) : (decide (s ≠ ByteArray.empty) && decide (((s.size : Nat) : Int) ≤ 24)) = nameB s := by
  rw [← Bool.decide_and]; exact decide_eq_decide.2 ⟨fun hh => ⟨size_empty.1 hh.1, by omega, h⟩, fun hh => ⟨size_empty.2 hh.1, by omega⟩⟩
theorem gName_ok {s : ByteArray} : VF Tryz.prog OA 101 [St s] (B (nameB s)) := by
  refine VF.enter Tryz.func101 rfl (fun _ _ => rfl) rfl ?_; show VC _ _ _ _ _ [(0, St s)] [] _; refine VC.seq (VC.text ?_); refine VO.c (.assign rfl) ?_; refine VO.go (VC.seq (VC.seq (VC.text ?_))); refine VO.c (.move rfl) ?_; refine VO.cell (.rng) ?_; intro ww1; refine VO.go (VC.block ?_); refine VC.keep [(0, St s), (8, .raw ww1)] ⟨rfl, rfl, trivial⟩ ?_; refine VC.loop (I := fun kk ff ss => ∃ (p : Nat), kk = s.size - p ∧ ff = [(0, St s), (8, .raw ww1)] ∧ ss = [(ww1, .it s p)] ∧ (p ≤ s.size) ∧ (∀ i, i < p → byteB (byteE s i) i = true)) ?_ _ _ _ ⟨0, rfl, rfl, rfl, Nat.zero_le _, (by intro i hi; omega)⟩; rintro kk ff ss ⟨p, hk0, rfl, rfl, hp, hq⟩; refine VC.seq (VC.text ?_); refine VO.next rfl (fun h2_0 => ?_) (fun h2_0 => ?_)
  · refine VO.c (.extract) ?_; refine VO.go (VC.seq ?_); refine VC.condT rfl ?_; refine VC.skip (VC.block (VC.seq (VC.text ?_))); refine VO.c (.extract) (VO.c (.extract) (VO.c (.assign rfl) (VO.c (.assign rfl) ?_))); refine VO.go (VC.seq ?_); refine VC.join [(0, St s), (3, I ((p : Nat) : Int)), (4, .v (.int .i32) (((Utf8.decode s p).1 : Nat) : Int)), (5, B (letterB ((Utf8.decode s p).1 : Nat))), (8, .raw ww1)] [(ww1, .it s (p + (Utf8.decode s p).2))] ?_ ?_
    · skip
      refine VC.text ?_; refine VO.c (.move rfl) (VO.c (.geq) (VO.c (.move rfl) ?_)); refine VO.splitD (x := 15) rfl (fun g4_2 => ?_) (fun g4_2 => ?_)
      · refine VO.c (.move rfl) (VO.c (.leq) (VO.c (.pickT rfl rfl) (VO.c (.move rfl) ?_))); refine VO.splitD (x := 19) rfl (fun g4_6 => ?_) (fun g4_6 => ?_)
        · refine VO.skip (VO.skip (VO.skip (VO.skip ?_))); refine VO.skip (VO.skip (VO.c (.pickT rfl rfl) (VO.c (.assign rfl) ?_))); refine VO.nil ?_; exact ⟨⟨rfl, rfl, rfl, slE rfl (by rw [Bool.eq_iff_iff]; simp [letterB] <;> omega), rfl, trivial⟩, rfl⟩
        refine VO.c (.move rfl) (VO.c (.geq) (VO.c (.move rfl) ?_)); refine VO.cg (r := decide ((97 : Int) ≤ (((Utf8.decode s p).1 : Nat) : Int))) (w := true) [] trivial (fun _ => (.move rfl)) ?_; refine VO.cg (r := decide ((97 : Int) ≤ (((Utf8.decode s p).1 : Nat) : Int))) (w := true) [(23, .v (.int .i32) (((Utf8.decode s p).1 : Nat) : Int))] ⟨rfl, trivial⟩ (fun _ => (.leq)) ?_; refine VO.c (.and) (VO.c (.pickF rfl rfl) (VO.c (.assign rfl) ?_)); refine VO.nil ?_; exact ⟨⟨rfl, rfl, rfl, slE rfl (by rw [Bool.eq_iff_iff]; simp [letterB] <;> omega), rfl, trivial⟩, rfl⟩
      refine VO.skip (VO.skip (VO.c (.pickF rfl rfl) (VO.c (.move rfl) ?_))); refine VO.c (.move rfl) (VO.c (.geq) (VO.c (.move rfl) ?_)); refine VO.cg (r := decide ((97 : Int) ≤ (((Utf8.decode s p).1 : Nat) : Int))) (w := true) [] trivial (fun _ => (.move rfl)) ?_; refine VO.cg (r := decide ((97 : Int) ≤ (((Utf8.decode s p).1 : Nat) : Int))) (w := true) [(23, .v (.int .i32) (((Utf8.decode s p).1 : Nat) : Int))] ⟨rfl, trivial⟩ (fun _ => (.leq)) ?_; refine VO.c (.and) (VO.c (.pickF rfl rfl) (VO.c (.assign rfl) ?_)); refine VO.nil ?_; exact ⟨⟨rfl, rfl, rfl, slE rfl (by rw [Bool.eq_iff_iff]; simp [letterB] <;> omega), rfl, trivial⟩, rfl⟩
    refine VC.seq ?_; refine VC.join [(0, St s), (3, I ((p : Nat) : Int)), (5, B (letterB ((Utf8.decode s p).1 : Nat))), (6, B (otherB ((Utf8.decode s p).1 : Nat))), (8, .raw ww1)] [(ww1, .it s (p + (Utf8.decode s p).2))] ?_ ?_
    · skip
      refine VC.text ?_; refine VO.c (.move rfl) (VO.c (.geq) (VO.c (.move rfl) ?_)); refine VO.splitD (x := 29) rfl (fun g5_2 => ?_) (fun g5_2 => ?_)
      · refine VO.c (.move rfl) (VO.c (.leq) (VO.c (.pickT rfl rfl) (VO.c (.move rfl) ?_))); refine VO.cg (r := decide ((((Utf8.decode s p).1 : Nat) : Int) ≤ (57 : Int))) (w := false) [] trivial (fun _ => (.move rfl)) ?_; refine VO.cg (r := decide ((((Utf8.decode s p).1 : Nat) : Int) ≤ (57 : Int))) (w := false) [(34, .v (.int .i32) (((Utf8.decode s p).1 : Nat) : Int))] ⟨rfl, trivial⟩ (fun _ => (.eql)) ?_; refine VO.c (.or) (VO.c (.assign rfl) ?_); refine VO.nil ?_; exact ⟨⟨rfl, rfl, rfl, slE rfl (by rw [Bool.eq_iff_iff]; simp [otherB] <;> omega), rfl, trivial⟩, rfl⟩
      refine VO.skip (VO.skip (VO.c (.pickF rfl rfl) (VO.c (.move rfl) ?_))); refine VO.c (.move rfl) (VO.c (.eql) (VO.c (.pickF rfl rfl) (VO.c (.assign rfl) ?_))); refine VO.nil ?_; exact ⟨⟨rfl, rfl, rfl, slE rfl (by rw [Bool.eq_iff_iff]; simp [otherB] <;> omega), rfl, trivial⟩, rfl⟩
    refine VC.seq ?_; refine VC.join [(0, St s), (8, .raw ww1), (46, B (!byteB ((Utf8.decode s p).1 : Nat) p))] [(ww1, .it s (p + (Utf8.decode s p).2))] ?_ ?_
    · skip
      refine VC.text ?_; refine VO.c (.move rfl) (VO.c (.not) (VO.c (.move rfl) ?_)); refine VO.splitB (x := 39) rfl (fun g6_2 => ?_) (fun g6_2 => ?_)
      · try simp only [Bool.and_eq_true, Bool.or_eq_true, Bool.and_eq_false_iff, Bool.or_eq_false_iff, Bool.not_eq_true', Bool.not_eq_false', decide_eq_true_eq, decide_eq_false_iff_not] at g6_2
        refine VO.c (.move rfl) (VO.c (.eql) (VO.c (.move rfl) ?_)); refine VO.cg (r := decide (((p : Nat) : Int) = (0 : Int))) (w := false) [] trivial (fun _ => (.move rfl)) ?_; refine VO.cg (r := decide (((p : Nat) : Int) = (0 : Int))) (w := false) [(43, B (otherB ((Utf8.decode s p).1 : Nat)))] ⟨rfl, trivial⟩ (fun _ => (.not)) ?_; refine VO.c (.or) (VO.c (.pickT rfl rfl) ?_); refine VO.nil ?_; exact ⟨⟨rfl, rfl, slE rfl (by simp [byteB, *]), trivial⟩, rfl⟩
      try simp only [Bool.and_eq_true, Bool.or_eq_true, Bool.and_eq_false_iff, Bool.or_eq_false_iff, Bool.not_eq_true', Bool.not_eq_false', decide_eq_true_eq, decide_eq_false_iff_not] at g6_2
      refine VO.skip (VO.skip (VO.skip (VO.skip ?_))); refine VO.skip (VO.skip (VO.c (.pickF rfl rfl) ?_)); refine VO.nil ?_; exact ⟨⟨rfl, rfl, slE rfl (by simp [byteB, *]), trivial⟩, rfl⟩
    refine VC.condB rfl (fun c6 => ?_) (fun c6 => ?_)
    · try simp only [Bool.and_eq_true, Bool.or_eq_true, Bool.and_eq_false_iff, Bool.or_eq_false_iff, Bool.not_eq_true', Bool.not_eq_false', decide_eq_true_eq, decide_eq_false_iff_not] at c6
      refine VC.seq (VC.text ?_); refine VO.c (.assign rfl) (VO.go ?_); refine VC.ret ?_; exact VEnd.one rfl evT (pvE (by exact nameB_f h2_0 (rune_f c6)))
    try simp only [Bool.and_eq_true, Bool.or_eq_true, Bool.and_eq_false_iff, Bool.or_eq_false_iff, Bool.not_eq_true', Bool.not_eq_false', decide_eq_true_eq, decide_eq_false_iff_not] at c6
    refine VC.skip ?_; refine ⟨_, [(0, St s), (8, .raw ww1)], ?_, ⟨rfl, rfl, trivial⟩, (p + 1), rfl, rfl, (by rw [(rune_t c6).2]), (by omega), (by intro i hi; rcases Nat.lt_succ_iff_lt_or_eq.1 hi with h | h; exact hq i h; subst h; exact (rune_t c6).1)⟩; omega
  refine VO.c (.ext0) ?_; refine VO.go (VC.seq ?_); refine VC.condF rfl ?_; refine VC.exit (VC.seq (VC.text ?_)); refine VO.c (.move rfl) (VO.c (.sneq) (VO.c (.move rfl) ?_)); refine VO.cg (r := decide (s ≠ ByteArray.empty)) (w := true) [] trivial (fun _ => (.move rfl)) ?_; refine VO.rg (r := decide (s ≠ ByteArray.empty)) (w := true) [(50, St s)] ⟨rfl, trivial⟩ (fun _ => (.lenS)) ?_; refine VO.cg (r := decide (s ≠ ByteArray.empty)) (w := true) [(51, I ((s.size : Nat) : Int))] ⟨rfl, trivial⟩ (fun _ => (.leq)) ?_; refine VO.c (.and) (VO.c (.assign rfl) (VO.go ?_)); refine VC.ret ?_; exact VEnd.one rfl evT (pvE (by exact name_end (fun i hi => hq i (by omega))))
theorem rName_ok {s : ByteArray} : VF Tryz.prog OA 147 [St s] (B (nameB s)) := by
  refine VF.enter Tryz.func147 rfl (fun _ _ => rfl) rfl ?_; show VC _ _ _ _ _ [(0, St s)] [] _; refine VC.seq (VC.text ?_); refine VO.c (.assign rfl) ?_; refine VO.go (VC.seq (VC.seq (VC.text ?_))); refine VO.c (.move rfl) ?_; refine VO.r (.lenS) ?_; refine VO.c (.eql) (VO.c (.move rfl) ?_); refine VO.cg (r := decide (((s.size : Nat) : Int) = (0 : Int))) (w := false) [] trivial (fun _ => (.move rfl)) ?_; refine VO.rg (r := decide (((s.size : Nat) : Int) = (0 : Int))) (w := false) [(9, St s)] ⟨rfl, trivial⟩ (fun _ => (.lenS)) ?_; refine VO.cg (r := decide (((s.size : Nat) : Int) = (0 : Int))) (w := false) [(10, I ((s.size : Nat) : Int))] ⟨rfl, trivial⟩ (fun _ => (.gtr)) ?_; refine VO.c (.or) (VO.go ?_); refine VC.condB rfl (fun c1 => ?_) (fun c1 => ?_)
  · try simp only [Bool.and_eq_true, Bool.or_eq_true, Bool.and_eq_false_iff, Bool.or_eq_false_iff, Bool.not_eq_true', Bool.not_eq_false', decide_eq_true_eq, decide_eq_false_iff_not] at c1
    refine VC.seq (VC.text ?_); refine VO.c (.assign rfl) (VO.go ?_); refine VC.ret ?_; exact VEnd.one rfl evT (pvE (by exact (decide_eq_false fun hh => by have := hh.1; have := hh.2.1; omega).symm))
  try simp only [Bool.and_eq_true, Bool.or_eq_true, Bool.and_eq_false_iff, Bool.or_eq_false_iff, Bool.not_eq_true', Bool.not_eq_false', decide_eq_true_eq, decide_eq_false_iff_not] at c1
  refine VC.skip (VC.seq (VC.seq (VC.text ?_))); refine VO.c (.assign rfl) ?_; refine VO.go (VC.block ?_); refine VC.keep [(0, St s), (3, I ((0 : Nat) : Int))] ⟨rfl, rfl, trivial⟩ ?_; refine VC.loop (I := fun kk ff ss => ∃ (i : Nat), kk = s.size - i ∧ ff = [(0, St s), (3, I ((i : Nat) : Int))] ∧ ss = [] ∧ (i ≤ s.size) ∧ (∀ k, k < i → byteB (byteE s k) k = true)) ?_ _ _ _ ⟨0, rfl, rfl, rfl, Nat.zero_le _, (by intro k hk; omega)⟩; rintro kk ff ss ⟨i, hk0, rfl, rfl, hi, hq⟩; refine VC.seq (VC.seq (VC.text ?_)); refine VO.c (.move rfl) (VO.c (.move rfl) ?_); refine VO.r (.lenS) ?_; refine VO.c (.lss) (VO.go ?_); refine VC.condD rfl (fun c4 => ?_) (fun c4 => ?_)
  · refine VC.skip (VC.seq (VC.block (VC.seq (VC.text ?_)))); refine VO.c (.move rfl) (VO.c (.move rfl) (VO.c (.ixS rfl rfl (by omega) (by omega)) (VO.c (.assign rfl) ?_))); refine VO.go (VC.seq (VC.seq ?_)); refine VC.join [(0, St s), (3, I ((i : Nat) : Int)), (4, .v (.int .u8) (byteE s ((i : Nat) : Int))), (35, B (letterB (byteE s i)))] [] ?_ ?_
    · skip
      refine VC.text ?_; refine VO.c (.move rfl) (VO.c (.geq) (VO.c (.move rfl) ?_)); refine VO.splitD (x := 24) rfl (fun g7_2 => ?_) (fun g7_2 => ?_)
      · refine VO.c (.move rfl) (VO.c (.leq) (VO.c (.pickT rfl rfl) (VO.c (.move rfl) ?_))); refine VO.splitD (x := 28) rfl (fun g7_6 => ?_) (fun g7_6 => ?_)
        · refine VO.skip (VO.skip (VO.skip (VO.skip ?_))); refine VO.skip (VO.skip (VO.c (.pickT rfl rfl) ?_)); refine VO.nil ?_; exact ⟨⟨rfl, rfl, rfl, slE rfl (by rw [Bool.eq_iff_iff]; simp [letterB] <;> omega), trivial⟩, rfl⟩
        refine VO.c (.move rfl) (VO.c (.geq) (VO.c (.move rfl) ?_)); refine VO.cg (r := decide ((65 : Int) ≤ (byteE s ((i : Nat) : Int)))) (w := true) [] trivial (fun _ => (.move rfl)) ?_; refine VO.cg (r := decide ((65 : Int) ≤ (byteE s ((i : Nat) : Int)))) (w := true) [(32, .v (.int .u8) (byteE s ((i : Nat) : Int)))] ⟨rfl, trivial⟩ (fun _ => (.leq)) ?_; refine VO.c (.and) (VO.c (.pickF rfl rfl) ?_); refine VO.nil ?_; exact ⟨⟨rfl, rfl, rfl, slE rfl (by rw [Bool.eq_iff_iff]; simp [letterB] <;> omega), trivial⟩, rfl⟩
      refine VO.skip (VO.skip (VO.c (.pickF rfl rfl) (VO.c (.move rfl) ?_))); refine VO.c (.move rfl) (VO.c (.geq) (VO.c (.move rfl) ?_)); refine VO.cg (r := decide ((65 : Int) ≤ (byteE s ((i : Nat) : Int)))) (w := true) [] trivial (fun _ => (.move rfl)) ?_; refine VO.cg (r := decide ((65 : Int) ≤ (byteE s ((i : Nat) : Int)))) (w := true) [(32, .v (.int .u8) (byteE s ((i : Nat) : Int)))] ⟨rfl, trivial⟩ (fun _ => (.leq)) ?_; refine VO.c (.and) (VO.c (.pickF rfl rfl) ?_); refine VO.nil ?_; exact ⟨⟨rfl, rfl, rfl, slE rfl (by rw [Bool.eq_iff_iff]; simp [letterB] <;> omega), trivial⟩, rfl⟩
    refine VC.condB rfl (fun c7 => ?_) (fun c7 => ?_)
    · have hok : byteB (byteE s i) i = true := by rw [byteB, c7] <;> rfl
      refine VC.exit (VC.text ?_); refine VO.c (.move rfl) (VO.c (.add rfl rfl (by omega)) (VO.c (.assign rfl) ?_)); refine VO.nil ?_; refine ⟨_, [(0, St s), (3, I (((i + 1) : Nat) : Int))], ?_, ⟨rfl, rfl, trivial⟩, (i + 1), rfl, rfl, rfl, (by omega), (by intro k hk; rcases Nat.lt_succ_iff_lt_or_eq.1 hk with h | h; exact hq k h; subst h; exact hok)⟩; omega
    refine VC.skip (VC.seq ?_); refine VC.join [(0, St s), (3, I ((i : Nat) : Int)), (49, B (!(decide (i ≠ 0) && otherB (byteE s i))))] [] ?_ ?_
    · skip
      refine VC.text ?_; refine VO.c (.move rfl) (VO.c (.eql) (VO.c (.move rfl) ?_)); refine VO.splitD (x := 38) rfl (fun g8_2 => ?_) (fun g8_2 => ?_)
      · refine VO.skip (VO.skip (VO.skip (VO.skip ?_))); refine VO.skip (VO.skip (VO.skip (VO.skip ?_))); refine VO.skip (VO.skip (VO.c (.pickT rfl rfl) ?_)); refine VO.nil ?_; exact ⟨⟨rfl, rfl, slE rfl (by rw [Bool.eq_iff_iff]; simp [otherB] <;> omega), trivial⟩, rfl⟩
      refine VO.c (.move rfl) (VO.c (.neq) (VO.c (.move rfl) ?_)); refine VO.splitD (x := 41) rfl (fun g8_5 => ?_) (fun g8_5 => ?_)
      · refine VO.c (.move rfl) (VO.c (.lss) (VO.c (.move rfl) ?_)); refine VO.cg (r := decide ((byteE s ((i : Nat) : Int)) < (48 : Int))) (w := false) [] trivial (fun _ => (.move rfl)) ?_; refine VO.cg (r := decide ((byteE s ((i : Nat) : Int)) < (48 : Int))) (w := false) [(45, .v (.int .u8) (byteE s ((i : Nat) : Int)))] ⟨rfl, trivial⟩ (fun _ => (.gtr)) ?_; refine VO.c (.or) (VO.c (.pickT rfl rfl) (VO.c (.pickF rfl rfl) ?_)); refine VO.nil ?_; exact ⟨⟨rfl, rfl, slE rfl (by rw [Bool.eq_iff_iff]; simp [otherB] <;> omega), trivial⟩, rfl⟩
      refine VO.skip (VO.skip (VO.skip (VO.skip ?_))); refine VO.skip (VO.skip (VO.c (.pickF rfl rfl) (VO.c (.pickF rfl rfl) ?_))); refine VO.nil ?_; exact ⟨⟨rfl, rfl, slE rfl (by rw [Bool.eq_iff_iff]; simp [otherB] <;> omega), trivial⟩, rfl⟩
    refine VC.condB rfl (fun c8 => ?_) (fun c8 => ?_)
    · try simp only [Bool.and_eq_true, Bool.or_eq_true, Bool.and_eq_false_iff, Bool.or_eq_false_iff, Bool.not_eq_true', Bool.not_eq_false', decide_eq_true_eq, decide_eq_false_iff_not] at c8
      refine VC.seq (VC.text ?_); refine VO.c (.assign rfl) (VO.go ?_); refine VC.ret ?_; exact VEnd.one rfl evT (pvE (by exact nameB_f (i := i) (by omega) (by simp only [byteB, c7, Bool.false_or, Bool.and_eq_false_iff, decide_eq_false_iff_not]; exact c8)))
    try simp only [Bool.and_eq_true, Bool.or_eq_true, Bool.and_eq_false_iff, Bool.or_eq_false_iff, Bool.not_eq_true', Bool.not_eq_false', decide_eq_true_eq, decide_eq_false_iff_not] at c8
    have hok : byteB (byteE s i) i = true := by simp [byteB, *]
    refine VC.skip (VC.text ?_); refine VO.c (.move rfl) (VO.c (.add rfl rfl (by omega)) (VO.c (.assign rfl) ?_)); refine VO.nil ?_; refine ⟨_, [(0, St s), (3, I (((i + 1) : Nat) : Int))], ?_, ⟨rfl, rfl, trivial⟩, (i + 1), rfl, rfl, rfl, (by omega), (by intro k hk; rcases Nat.lt_succ_iff_lt_or_eq.1 hk with h | h; exact hq k h; subst h; exact hok)⟩; omega
  refine VC.exit (VC.seq (VC.text ?_)); refine VO.c (.assign rfl) (VO.go ?_); refine VC.ret ?_; exact VEnd.one rfl evT (pvE (by exact nameB_t (by omega) (by omega) (fun k hk => hq k (by omega))))
theorem rNameE_ok {s : ByteArray} : VF Tryz.prog OA 91 [St s] (I (whenE (!nameB s) 8)) := by
  refine VF.enter Tryz.func91 rfl (fun _ _ => rfl) rfl ?_; show VC _ _ _ _ _ [(0, St s)] [] _; refine VC.seq (VC.text ?_); refine VO.c (.assign rfl) ?_; refine VO.go (VC.seq (VC.seq (VC.text ?_))); refine VO.c (.move rfl) ?_; refine VO.call rfl rfl (VF.call (rName_ok )) ?_; refine VO.c (.not) (VO.go ?_); refine VC.condB rfl (fun c1 => ?_) (fun c1 => ?_)
  · try simp only [Bool.and_eq_true, Bool.or_eq_true, Bool.and_eq_false_iff, Bool.or_eq_false_iff, Bool.not_eq_true', Bool.not_eq_false', decide_eq_true_eq, decide_eq_false_iff_not] at c1
    refine VC.seq (VC.text ?_); refine VO.c (.assign rfl) (VO.go ?_); refine VC.ret ?_; exact VEnd.one rfl evT (pvI (by simp [whenE, *]))
  try simp only [Bool.and_eq_true, Bool.or_eq_true, Bool.and_eq_false_iff, Bool.or_eq_false_iff, Bool.not_eq_true', Bool.not_eq_false', decide_eq_true_eq, decide_eq_false_iff_not] at c1
  refine VC.skip (VC.seq (VC.text ?_)); refine VO.c (.assign rfl) (VO.go ?_); refine VC.ret ?_; exact VEnd.one rfl evT (pvI (by simp [whenE, *]))
end Go.Proofs
namespace Go.Proofs
open Go.Fs
set_option maxHeartbeats 400000
end Go.Proofs
namespace Go.Proofs
open Go.Fs
set_option maxHeartbeats 1000000
end Go.Proofs
namespace Go.Fs
variable {P : Program} {h : Heap} {S : List Nat} {σ : Sto} {t : Tr} {fl : VL} {x : Operand} {T e : TypeId} {τ : Ty}
end Go.Fs
namespace Go.Fs
variable {P : Program} {σ : Sto} {fl : VL} {x y : Operand} {T T' : TypeId} {p q : Bool}
end Go.Fs
namespace Go.Fs
variable {P : Program} {orc : FuncId → List Value → Heap → Option (Value × Heap)} {σ : Sto} {fl : VL} {ops : Array Oper} {n : Nat} {l : List Oper} {K : VL → Sto → Prop} {d : Tmp} {ty : TypeId} {pos : String} {after : Array Edge} {g : Option (Nat × Bool)} {x : Operand} {T e : TypeId} {τ : Ty}
end Go.Fs
namespace Go.Fs
variable {P : Program} {fl : VL} {e : TypeId} {τ : Ty}
end Go.Fs
namespace Go.Fs
open Go.RowKit (Below)
variable {P : Program} {H : Type} {enc : TypeId × Value → H} {w : World} {base : Nat} {sp : Nat → Bool} {held : Bool}
def fsB (P : Program) (ty : TypeId → Ty → Bool) : List Field → Nat → Ty → Bool
  | [f], off, .pair a .unit => Nat.beq f.offset off && Nat.beq (P.cellsOf f.type) a.size && ty f.type a
  | [f], off, τ => Nat.beq f.offset off && Nat.beq (P.cellsOf f.type) τ.size && ty f.type τ
  | f :: fs, off, .pair a b => Nat.beq f.offset off && Nat.beq (P.cellsOf f.type) a.size && ty f.type a && fsB P ty fs (off + a.size) b
  | _, _, _ => false
def arrFs (P : Program) (m : Nat) (e : TypeId) : List Field := (List.range m).map fun i => { name := "", type := e, offset := i * P.cellsOf e, embedded := false, tag := "", pkgPath := "", byteOffset := 0 }
def tyB (P : Program) : Nat → TypeId → Ty → Bool
  | 0, _, _ => false
  | n + 1, t, τ =>
    match P.underlying t, τ with
    | some (.int k), .int k' => decide (k = k')
    | some .bool, .bool => true
    | some .string, .str => true
    | some (.float k), .flt k' => decide (k = k')
    | some (.slice te), .sl e => Nat.beq (P.cellsOf te) e.size && Nat.blt 0 e.size && tyB P n te e
    | some (.struct fs), .pair a b => Nat.beq (P.cellsOf t) (Ty.pair a b).size && fsB P (tyB P n) fs.toList 0 (.pair a b)
    | some (.array m e), .pair a b => Nat.beq (P.cellsOf t) (Ty.pair a b).size && fsB P (tyB P n) (arrFs P m e) 0 (.pair a b)
    | _, _ => false
def Wf : (τ : Ty) → τ.den → Prop
  | .int k, n => (Lit.int k n).wf = true
  | .bool, _ => True
  | .str, s => s.size ≤ maxLen
  | .flt k, n => (Lit.float k n).wf = true
  | .sl e, xs => List.length xs ≤ maxLen ∧ ∀ x ∈ (xs : List e.den), Wf e x
  | .pair a b, x => Wf a x.1 ∧ Wf b x.2
  | .unit, _ => True
  | .mp _ _, _ => True
  | .fn, _ => True
  | .hnd, _ => True
structure Got (P : Program) (w : World) (ρ : Ren) (S : Nat → Prop) (h : Heap) (ρ' : Ren) (S' : Nat → Prop) (h' : Heap) : Prop where
  hr : HR P ρ' S' w.heap.size (wz w) h' w
  agree : ∀ b, S b → S' b ∧ ρ' b = ρ b
  aft : After h h'
theorem Got.refl {ρ : Ren} {S : Nat → Prop} {h : Heap} (hr : HR P ρ S w.heap.size (wz w) h w) : Got P w ρ S h ρ S h := ⟨hr, fun _ hb => ⟨hb, rfl⟩, After.refl h⟩
theorem Got.trans {ρ ρ1 ρ2 : Ren} {S S1 S2 : Nat → Prop} {h h1 h2 : Heap} (a : Got P w ρ S h ρ1 S1 h1) (b : Got P w ρ1 S1 h1 ρ2 S2 h2) : Got P w ρ S h ρ2 S2 h2 :=
  ⟨b.hr, fun i hi => let ⟨h3, h4⟩ := a.agree i hi; let ⟨h5, h6⟩ := b.agree i h3; ⟨h5, h6.trans h4⟩, a.aft.trans b.aft⟩
theorem Got.ok {ρ ρ1 : Ren} {S S1 : Nat → Prop} {h h1 : Heap} (a : Got P w ρ S h ρ1 S1 h1) : HOk h1 := fun b o hg => (a.hr.ids b (a.hr.objs b o hg).1).1
theorem hok_of {ρ : Ren} {S : Nat → Prop} {h : Heap} (hr : HR P ρ S w.heap.size (wz w) h w) : HOk h := fun b o hg => (hr.ids b (hr.objs b o hg).1).1
theorem Got.row {ρ : Ren} {S : Nat → Prop} {h : Heap} (hr : HR P ρ S w.heap.size (wz w) h w) {te : TypeId} {cs : List Value} {a : Addr} (ha : a.block < w.heap.size) (hc : ∀ i, i < cs.length → ∃ v, w.cell? ⟨a.block, a.off + i, none⟩ = some v ∧ VR ρ S (cs.getD i undef) v) :
    Got P w ρ S h (fun b => if b = h.next then (.clean a.block a.off 0 (P.cellsOf te)) else ρ b) (fun b => S b ∨ b = h.next) (h.push (.row te cs false false)) := by
  have hag : ∀ b, S b → (S b ∨ b = h.next) ∧ (fun b => if b = h.next then (Loc.clean a.block a.off 0 (P.cellsOf te)) else ρ b) b = ρ b := fun b hb => by
    have := (hr.ids b hb).1; exact ⟨.inl hb, by simp only; rw [if_neg (by omega)]⟩
  have hold : ∀ i o, (h.push (.row te cs false false)).get i = some o → (i = h.next ∧ o = .row te cs false false) ∨ (i ≠ h.next ∧ h.get i = some o) := fun i o hg => by
    rw [Heap.get_push] at hg; by_cases hi : i = h.next
    · rw [if_pos hi] at hg; exact .inl ⟨hi, (Option.some.inj hg).symm⟩
    rw [if_neg hi] at hg; exact .inr ⟨hi, hg⟩
  refine ⟨⟨fun i o hg => ?_, fun i j oi oj hi hj oi1 oj1 he => ?_, fun i o hg ho => ?_, fun i o hg ho => ?_, fun b hb => ?_, Nat.succ_pos _, z_below (Below.refl _ _), Nat.zero_le _, Nat.le_refl _⟩, hag, After.push h _⟩
  · rcases hold i o hg with ⟨rfl, rfl⟩ | ⟨hi, hg'⟩
    · refine ⟨.inr rfl, ?_⟩; simp only [if_true]; refine ⟨rfl, fun i hi => ?_, fun hx => by cases hx⟩; obtain ⟨v, h1, h2⟩ := hc i hi; exact ⟨v, h1, h2.mono hag⟩
    obtain ⟨h1, h2⟩ := hr.objs i o hg'; refine ⟨.inl h1, ?_⟩; simp only [if_neg hi]; exact h2.mono hag
  · rcases hold i oi hi with ⟨rfl, rfl⟩ | ⟨hi', hgi⟩
    · cases oi1
    rcases hold j oj hj with ⟨rfl, rfl⟩ | ⟨hj', hgj⟩
    · cases oj1
    simp only [if_neg hi', if_neg hj'] at he; exact hr.inj i j oi oj hgi hgj oi1 oj1 he
  · rcases hold i o hg with ⟨rfl, rfl⟩ | ⟨hi, hg'⟩
    · cases ho
    simp only [if_neg hi]; exact hr.base i o hg' ho
  · rcases hold i o hg with ⟨rfl, rfl⟩ | ⟨hi, hg'⟩
    · simp only [if_true]; exact ha
    simp only [if_neg hi]; exact hr.ro i o hg' ho
  have hn : (h.push (.row te cs false false)).next = h.next + 1 := rfl; rw [hn]; rcases hb with hb | rfl
  · have := hr.ids b hb; exact ⟨by omega, this.2⟩
  have := hr.pos; exact ⟨by omega, by omega⟩
theorem trod_float {fuel : Nat} {t : TypeId} {cs : List Value} {x : DataW H × List MemPlace} {k : FloatKind} (ht : P.underlying t = some (.float k)) (h : DataW.trod enc P w base sp held fuel t cs = some x) : ∃ n, cs = [.float k n] ∧ (Lit.float k n).wf = true := by
  cases fuel with
  | zero => simp [DataW.trod] at h
  | succ n =>
    unfold DataW.trod at h; rw [ht] at h; split at h <;> simp_all
theorem mapM_all {α β : Type} (f : α → Option β) : ∀ (l : List α) (r : List β), l.mapM f = some r → l.length = r.length ∧ ∀ i (hi : i < l.length) (hr : i < r.length), f l[i] = some r[i]
  | [], r, h => by
    simp only [List.mapM_nil] at h; obtain rfl := Option.some.inj h
    exact ⟨rfl, fun i hi => absurd hi (by simp)⟩
  | a :: l, r, h => by
    rw [List.mapM_cons] at h
    cases hf : f a with
    | none => rw [hf] at h; cases h
    | some b =>
      rw [hf] at h
      cases hl : l.mapM f with
      | none => rw [hl] at h; cases h
      | some bs =>
        rw [hl] at h; obtain rfl := Option.some.inj h; obtain ⟨h1, h2⟩ := mapM_all f l bs hl; refine ⟨by simp [h1], fun i hi hr => ?_⟩
        cases i with
        | zero => exact hf
        | succ i => exact h2 i (by simpa using hi) (by simpa using hr)
theorem cells_some {a : Addr} {n : Nat} {cs : List Value} (h : w.cells? base a n = some cs) : cs.length = n ∧ ∀ i, i < n → w.cell? (a.add i) = some (cs.getD i undef) := by
  unfold World.cells? at h; split at h
  · obtain ⟨h1, h2⟩ := mapM_all _ _ _ h; rw [List.length_range] at h1; refine ⟨h1.symm, fun i hi => ?_⟩; have := h2 i (by simpa using hi) (by omega); rw [List.getElem_range] at this; rw [this]; simp [List.getD, show i < cs.length by omega]
  cases h
theorem cell_some {a : Addr} {v : Value} (h : w.cell? a = some v) : a.spot = none ∧ a.block < w.heap.size := by
  unfold World.cell? at h; split at h
  · rename_i c _ _ hb; refine ⟨?_, (Array.getElem?_eq_some_iff.1 hb).1⟩
    cases hs : a.spot with
    | none => rfl
    | some s => rw [hs] at h; cases h
  cases h
def Tells (P : Program) (w : World) (τ : Ty) (cs : List Value) : Prop := ∀ (ρ : Ren) (S : Nat → Prop) (h : Heap), HR P ρ S w.heap.size (wz w) h w →
  ∃ ρ' S' h' cs' x, Got P w ρ S h ρ' S' h' ∧ LR ρ' S' cs' cs ∧ RepC h' [] τ cs' x ∧ Wf τ x
theorem LR.one {ρ : Ren} {S : Nat → Prop} {v v' : Value} (h : VR ρ S v v') : LR ρ S [v] [v'] := LR.cons h LR.nil
theorem tells_elems {e : Ty} (a : Addr) (len : Nat) (hcs : ∀ i, i < len → ∃ cs, (∀ j, j < e.size → w.cell? (a.add (i * e.size + j)) = some (cs.getD j undef)) ∧ cs.length = e.size ∧ Tells P w e cs) :
    ∀ (ρ : Ren) (S : Nat → Prop) (h : Heap), HR P ρ S w.heap.size (wz w) h w → ∃ ρ' S' h' rs xs, Got P w ρ S h ρ' S' h' ∧ rs.length = len * e.size ∧ List.length xs = len ∧ (∀ i, i < len * e.size → ∃ v, w.cell? (a.add i) = some v ∧ VR ρ' S' (rs.getD i undef) v) ∧
      Elems h' [] e rs xs ∧ ∀ x ∈ (xs : List e.den), Wf e x := by
  induction len with
  | zero =>
    intro ρ S h hr
    exact ⟨ρ, S, h, [], [], Got.refl hr, by simp, rfl, fun i hi => by omega, Elems.nil, fun x hx => by cases hx⟩
  | succ n ih =>
    intro ρ S h hr; obtain ⟨ρ1, S1, h1, rs, xs, g1, l1, l2, c1, e1, w1⟩ := ih (fun i hi => hcs i (by omega)) ρ S h hr; obtain ⟨cs, k1, k2, k3⟩ := hcs n (by omega); obtain ⟨ρ2, S2, h2, cs', x, g2, lr, rc, wf⟩ := k3 ρ1 S1 h1 g1.hr; have hN : Goes h1 [] h2 [] := g2.aft.nx g1.ok; have hl : cs'.length = e.size := rc.len
    have hel : Elems h2 [] e cs' [x] := by
      refine ⟨by simpa using hl, fun i hi => ?_⟩
      obtain rfl : i = 0 := by simpa using hi
      simp only [Nat.zero_mul, List.drop_zero, List.getElem_cons_zero]; rw [List.take_of_length_le (by omega)]; exact rc
    refine ⟨ρ2, S2, h2, rs ++ cs', xs ++ [x], g1.trans g2, by rw [List.length_append, l1, hl, Nat.add_mul]; omega, by simp [l2], fun i hi => ?_, (e1.nx hN).append hel, fun y hy => ?_⟩
    · rw [Nat.add_mul, Nat.one_mul] at hi; by_cases hin : i < n * e.size
      · obtain ⟨v, hv1, hv2⟩ := c1 i hin; refine ⟨v, hv1, ?_⟩; rw [List.getD_eq_getElem?_getD, List.getElem?_append_left (by omega), ← List.getD_eq_getElem?_getD]; exact hv2.mono g2.agree
      have hj : i - n * e.size < e.size := by omega
      refine ⟨cs.getD (i - n * e.size) undef, ?_, ?_⟩
      · have := k1 (i - n * e.size) hj
        rwa [show n * e.size + (i - n * e.size) = i by omega] at this
      rw [List.getD_eq_getElem?_getD, List.getElem?_append_right (by omega), l1, ← List.getD_eq_getElem?_getD]; exact lr.getD _
    rcases List.mem_append.1 hy with hy | hy
    · exact w1 y hy
    obtain rfl := List.mem_singleton.1 hy; exact wf
theorem Addr.add_spot {a : Addr} (h : a.spot = none) (n : Nat) : a.add n = ⟨a.block, a.off + n, none⟩ := by
  obtain ⟨b, o, s⟩ := a; simp only at h; subst h; unfold Addr.add; by_cases hn : n = 0
  · subst hn; simp
  simp [hn]
theorem tells_fields {n : Nat} (ih : ∀ (t : TypeId) (τ : Ty), tyB P n t τ = true → ∀ (fuel : Nat) (cs : List Value) (x : DataW H × List MemPlace), DataW.trod enc P w base sp held fuel t cs = some x → Tells P w τ cs) :
    ∀ (fs : List Field) (off : Nat) (τ : Ty) (cs : List Value) (m : Nat), fsB P (tyB P n) fs off τ = true → cs.length = off + τ.size → (∀ f ∈ fs, ∃ x, DataW.trod enc P w base sp held m f.type ((cs.drop f.offset).take (P.cellsOf f.type)) = some x) → Tells P w τ (cs.drop off) := by
  have one : ∀ (f : Field) (off : Nat) (τ : Ty) (cs : List Value) (m : Nat), f.offset = off → P.cellsOf f.type = τ.size → tyB P n f.type τ = true → off + τ.size ≤ cs.length → (∃ x, DataW.trod enc P w base sp held m f.type ((cs.drop f.offset).take (P.cellsOf f.type)) = some x) → Tells P w τ ((cs.drop off).take τ.size) := by
    intro f off τ cs m h1 h2 h3 h4 ⟨x, hx⟩; rw [h1, h2] at hx; exact ih f.type τ h3 m _ x hx
  intro fs
  induction fs with
  | nil => intro off τ cs m hb; cases hb
  | cons f fs ihf =>
    intro off τ cs m hb hl hall; have hf := hall f List.mem_cons_self
    cases fs with
    | nil =>
      by_cases hs : ∃ a, τ = .pair a .unit
      · obtain ⟨a, rfl⟩ := hs; have hb' : (Nat.beq f.offset off && Nat.beq (P.cellsOf f.type) a.size && tyB P n f.type a) = true := hb; obtain ⟨hb', h3⟩ := band hb'; obtain ⟨h1, h2⟩ := band hb'
        have hs : (Ty.pair a .unit).size = a.size := by simp [Ty.size]
        rw [hs] at hl; have := one f off a cs m (nbeq h1) (nbeq h2) h3 (by omega) hf; intro ρ S h hr; obtain ⟨ρ', S', h', cs', x, g, lr, rc, wf⟩ := this ρ S h hr; have e1 : (cs.drop off).take a.size = cs.drop off := List.take_of_length_le (by rw [List.length_drop]; omega); rw [e1] at lr; have hcl := rc.len; exact ⟨ρ', S', h', cs', (x, ()), g, lr, ⟨by rw [List.take_of_length_le (by omega)]; exact rc, by rw [List.drop_eq_nil_of_le (by omega)]; rfl⟩, wf, trivial⟩
      have hb' : (Nat.beq f.offset off && Nat.beq (P.cellsOf f.type) τ.size && tyB P n f.type τ) = true := by
        cases τ with
        | pair a b =>
          cases b with
          | unit => exact absurd ⟨a, rfl⟩ hs
          | _ => exact hb
        | _ => exact hb
      obtain ⟨hb', h3⟩ := band hb'; obtain ⟨h1, h2⟩ := band hb'; have := one f off τ cs m (nbeq h1) (nbeq h2) h3 (by omega) hf; have e1 : (cs.drop off).take τ.size = cs.drop off := List.take_of_length_le (by rw [List.length_drop]; omega)
      rwa [e1] at this
    | cons g fs =>
      cases τ with
      | pair a b =>
        have hb' : (Nat.beq f.offset off && Nat.beq (P.cellsOf f.type) a.size && tyB P n f.type a && fsB P (tyB P n) (g :: fs) (off + a.size) b) = true := hb; obtain ⟨hb', h4⟩ := band hb'; obtain ⟨hb', h3⟩ := band hb'; obtain ⟨h1, h2⟩ := band hb'; have hs : (Ty.pair a b).size = a.size + b.size := rfl; rw [hs] at hl; have ha := one f off a cs m (nbeq h1) (nbeq h2) h3 (by omega) hf; have hrest := ihf (off + a.size) b cs m h4 (by omega) (fun g hg => hall g (List.mem_cons_of_mem _ hg)); intro ρ S h hr; obtain ⟨ρ1, S1, h1', cs1, x1, g1, lr1, rc1, wf1⟩ := ha ρ S h hr; obtain ⟨ρ2, S2, h2', cs2, x2, g2, lr2, rc2, wf2⟩ := hrest ρ1 S1 h1' g1.hr; have hN : Goes h1' [] h2' [] := g2.aft.nx g1.ok; have hc1 := rc1.len; refine ⟨ρ2, S2, h2', cs1 ++ cs2, (x1, x2), g1.trans g2, ?_, ⟨?_, ?_⟩, wf1, wf2⟩
        · have := (lr1.mono g2.agree).append lr2
          rwa [show (cs.drop off).take a.size ++ cs.drop (off + a.size) = cs.drop off from by rw [← List.drop_drop, List.take_append_drop]] at this
        · rw [List.take_left' hc1]; exact rc1.nx hN
        rw [List.drop_left' hc1]; exact rc2
      | _ => cases hb
theorem tells : ∀ (n : Nat) (t : TypeId) (τ : Ty), tyB P n t τ = true → ∀ (fuel : Nat) (cs : List Value) (x : DataW H × List MemPlace), DataW.trod enc P w base sp held fuel t cs = some x → Tells P w τ cs := by
  intro n
  induction n with
  | zero => intro t τ h; cases h
  | succ n ih =>
    intro t τ hb fuel cs x hx; unfold tyB at hb; split at hb
    · rename_i k k' hu; obtain rfl : k = k' := of_decide_eq_true hb; obtain ⟨m, rfl, _, hwf⟩ := DataW.trod_int hu hx; exact fun ρ S h hr => ⟨ρ, S, h, _, m, Got.refl hr, LR.one (.lit rfl), rfl, hwf⟩
    · rename_i hu; obtain ⟨b, rfl, _⟩ := DataW.trod_bool hu hx; exact fun ρ S h hr => ⟨ρ, S, h, _, b, Got.refl hr, LR.one (.lit rfl), rfl, trivial⟩
    · rename_i hu; obtain ⟨s, rfl, _, hs⟩ := DataW.trod_string hu hx; exact fun ρ S h hr => ⟨ρ, S, h, _, s, Got.refl hr, LR.one (.lit rfl), rfl, hs⟩
    · rename_i k k' hu; obtain rfl : k = k' := of_decide_eq_true hb; obtain ⟨m, rfl, hwf⟩ := trod_float hu hx; exact fun ρ S h hr => ⟨ρ, S, h, _, m, Got.refl hr, LR.one (.lit rfl), rfl, hwf⟩
    · rename_i te e hu; obtain ⟨hb, h3⟩ := band hb; obtain ⟨h1, h2⟩ := band hb; have hce := nbeq h1; have hpos := nblt h2; rcases DataW.trod_slice hu hx with ⟨rfl, _⟩ | ⟨a, len, cap, elems, rest, m, _, rfl, _, hba, hlc, hcap, hlen, hel, _⟩
      · exact fun ρ S h hr => ⟨ρ, S, h, [.slice none 0 0], [], Got.refl hr, LR.one (.lit rfl), ⟨_, rfl, .inl ⟨rfl, rfl⟩⟩, Nat.zero_le _, fun x hx => by cases hx⟩
      by_cases h0 : len = 0
      · subst h0; exact fun ρ S h hr => ⟨ρ, S, h, [.slice (some ⟨0, 0, none⟩) 0 2], [], Got.refl hr, LR.one (.slice 0 0 0 2 cap a (Nat.zero_le _) (fun h => by cases h) (fun _ => rfl) (fun h => absurd rfl h)), ⟨_, rfl, .inr ⟨0, 0, 2, rfl, .inl rfl⟩⟩, Nat.zero_le _, fun x hx => by cases hx⟩
      have hcs : ∀ i, i < len → ∃ cs, (∀ j, j < e.size → w.cell? (a.add (i * e.size + j)) = some (cs.getD j undef)) ∧ cs.length = e.size ∧ Tells P w e cs := by
        intro i hi; have := hel i hi; rw [List.getElem?_eq_getElem (by omega)] at this; rw [hce] at this
        cases hc : w.cells? base (a.add (i * e.size)) e.size with
        | none => rw [hc] at this; cases this
        | some cs =>
          rw [hc] at this; obtain ⟨k1, k2⟩ := cells_some hc; refine ⟨cs, fun j hj => ?_, k1, ih te e h3 m cs _ this⟩; rw [← k2 j hj]; congr 1; obtain ⟨b, o, s⟩ := a; unfold Addr.add; by_cases hx1 : i * e.size = 0
          · simp [hx1]
          by_cases hx2 : j = 0
          · subst hx2; simp [hx1]
          simp [hx1, hx2, Nat.add_assoc]
      have hfirst : a.spot = none ∧ a.block < w.heap.size := by
        obtain ⟨cs, k1, _⟩ := hcs 0 (by omega); have := k1 0 hpos; rw [Nat.zero_mul, Nat.zero_add] at this; have h4 := cell_some this; simpa [Addr.add] using h4
      intro ρ S h hr; obtain ⟨ρ1, S1, h1', rs, xs, g1, l1, l2, c1, e1, w1⟩ := tells_elems (P := P) a len hcs ρ S h hr
      have hrow := Got.row (te := te) g1.hr (cs := rs) (a := a) hfirst.2 (fun i hi => by
        have := c1 i (by omega)
        rwa [Addr.add_spot hfirst.1] at this)
      have hsl : SlV (h1'.push (.row te rs false false)) [] e (.slice (some ⟨h1'.next, 0, none⟩) (List.length xs) 2) xs := (e1.nx (hrow.aft.nx g1.ok)).slv (by rw [Heap.get_push, if_pos rfl]) (by simp); refine ⟨_, _, _, [.slice (some ⟨h1'.next, 0, none⟩) (List.length xs) 2], xs, g1.trans hrow, ?_, ⟨_, rfl, hsl⟩, by omega, w1⟩; rw [l2]; refine LR.one (.slice h1'.next 0 len 2 cap a hlc (fun h => by cases h) (fun h5 => by have := g1.hr.pos; omega) fun _ => ⟨.inr rfl, ?_, fun h => by cases h⟩); simp only [if_true, Loc.at, Nat.add_zero]; obtain ⟨b, o, s⟩ := a; simp only at hfirst; rw [hfirst.1]
    · rename_i fs a b hu; obtain ⟨h1, h2⟩ := band hb; obtain ⟨xs, m, _, _, hl, hsz, hall⟩ := DataW.trod_struct hu hx
      have hcl : cs.length = (Ty.pair a b).size := by rw [hl, nbeq h1]
      have := tells_fields ih fs.toList 0 (.pair a b) cs m h2 (by omega) (fun f hf => by
        obtain ⟨i, hi, rfl⟩ := List.getElem_of_mem hf
        have hi' : i < fs.size := by simpa using hi
        have := hall i fs[i] (by simp [hi']); rw [List.getElem?_eq_getElem (by omega)] at this
        exact ⟨_, by simpa using this⟩)
      simpa using this
    · rename_i m e a b hu; obtain ⟨h1, h2⟩ := band hb; obtain ⟨xs, m', _, _, hl, hsz, hall⟩ := DataW.trod_array hu hx
      have hcl : cs.length = (Ty.pair a b).size := by rw [hl, nbeq h1]
      have := tells_fields ih (arrFs P m e) 0 (.pair a b) cs m' h2 (by omega) (fun f hf => by
        obtain ⟨i, hi, rfl⟩ := List.mem_map.1 hf; have hi' : i < m := List.mem_range.1 hi; have := hall i hi'; rw [List.getElem?_eq_getElem (by omega)] at this
        exact ⟨_, this⟩)
      simpa using this
    cases hb
theorem okWide_agg {n : Nat} {r : Reach} {b0 : Nat} {t : TypeId} {τ : Ty} {v : Value} (hb : tyB P n t τ = true) (hval : Value.okWide P w r b0 t v) : isAggV v = τ.agg := by
  cases n with
  | zero => cases hb
  | succ n =>
    unfold tyB at hb; unfold Value.okWide at hval; split at hb
    · rename_i k k' hu; rw [hu] at hval; simp only [Cell.okWide, hu, Cell.ok] at hval; cases v <;> simp_all [isAggV, Ty.agg]
    · rename_i hu; rw [hu] at hval; simp only [Cell.okWide, hu, Cell.ok] at hval; cases v <;> simp_all [isAggV, Ty.agg]
    · rename_i hu; rw [hu] at hval; simp only [Cell.okWide, hu, Cell.ok] at hval; cases v <;> simp_all [isAggV, Ty.agg]
    · rename_i k k' hu; rw [hu] at hval; simp only [Cell.okWide, hu, Cell.ok] at hval; cases v <;> simp_all [isAggV, Ty.agg]
    · rename_i te e hu; rw [hu] at hval; simp only [Cell.okWide, hu, Cell.ok] at hval; cases v <;> simp_all [isAggV, Ty.agg]
    · rename_i fs a b hu; rw [hu] at hval; obtain ⟨cs, rfl, _⟩ := hval; rfl
    · rename_i m e a b hu; rw [hu] at hval; obtain ⟨cs, rfl, _⟩ := hval; rfl
    cases hb
theorem tell_arg {ρ : Ren} {S : Nat → Prop} {h : Heap} (hr : HR P ρ S w.heap.size (wz w) h w) {n : Nat} {r : Reach} {b0 : Nat} {t : TypeId} {τ : Ty} {v : Value} {d : DataW H} {ps : List MemPlace} (hb : tyB P n t τ = true) (hval : Value.okWide P w r b0 t v) (hd : DataW.Trod enc P w base sp held t v d ps) :
    ∃ ρ' S' h' v' x, Got P w ρ S h ρ' S' h' ∧ VR ρ' S' v' v ∧ RepV h' [] τ v' x ∧ Wf τ x := by
  have hag := okWide_agg hb hval; obtain ⟨fuel, hf⟩ := hd; obtain ⟨ρ', S', h', cs', x, g, lr, rc, wf⟩ := tells n t τ hb fuel _ _ hf ρ S h hr
  cases hτ : τ.agg with
  | true =>
    rw [hτ] at hag
    cases v with
    | agg cs =>
      refine ⟨ρ', S', h', .agg cs'.toArray, x, g, VR.agg' (by simpa [Value.cells] using lr), ⟨hτ.symm, by simpa [Value.cells] using rc⟩, wf⟩
    | _ => cases hag
  | false =>
    rw [hτ] at hag; rw [cells_one hag] at lr; obtain ⟨u, rfl, hu⟩ := rc.one hτ; have := lr.2 0 (by simp); exact ⟨ρ', S', h', u, x, g, by simpa using this, hu, wf⟩
section
open Go.WideElems Go.ChangeShapes
theorem trodAll_below (hl : laidOutB P = true) {W W' : World} (hb : Below W.heap.size W W') : ∀ {ts : List TypeId} {vs : List Value} {ds : List (DataW H)} {ps : List MemPlace}, (ts.all fun t => P.readableRec t && decide (t < P.types.size)) = true →
    DataW.TrodAll enc P W 0 (fun _ => true) true ts vs ds ps → (∀ x ∈ ps, x.block < W.heap.size) → DataW.TrodAll enc P W' 0 (fun b => decide (b < W.heap.size)) true ts vs ds ps
  | [], [], [], _, _, h, _ => h
  | [], _ :: _, _, _, _, h, _ => h.elim
  | [], [], _ :: _, _, _, h, _ => h.elim
  | _ :: _, [], _, _, _, h, _ => h.elim
  | _ :: _, _ :: _, [], _, _, h, _ => h.elim
  | t :: ts, v :: vs, d :: ds, ps, ha, h, hp => by
    obtain ⟨p, q, h1, h2, rfl⟩ := h; simp only [List.all_cons, Bool.and_eq_true, decide_eq_true_eq] at ha; exact ⟨p, q, Go.RowKit.Below.trod hl ha.1.1 ha.1.2 h1 hb (fun x hx => hp x (List.mem_append_left _ hx)), trodAll_below hl hb (by simpa using ha.2) h2 (fun x hx => hp x (List.mem_append_right _ hx)), rfl⟩
theorem law_post {f : Func} {s : ChangeSpec} {tb : TypeId} (hl : laidOutB P = true) (hrd : (f.params.toList.all fun t => P.readableRec t && decide (t < P.types.size)) = true) (hres : f.resultTypes = #[tb]) (htb : P.underlying tb = some .bool) (hvars : s.vars = []) {W W' : World} {args : Array Value} {ds gs : List (DataW H)}
    {before : List MemPlace} (hW : DataW.Whole enc P f.params.toList s.vars false W args.toList ds gs before) (hr : (s.fn H (ds ++ gs)).results = [.lit (.bool true)]) (ha : (s.fn H (ds ++ gs)).args = ds) (hv : (s.fn H (ds ++ gs)).vars = []) (hb : Below W.heap.size W W') :
    s.post enc P f false true false false W args (.bool true) W' := by
  have hlt := hW.lt; have hW' := hW; obtain ⟨p, q, hA, hV, rfl, _, _⟩ := hW; rw [hvars] at hV; have hV' : gs = [] ∧ q = [] := trodVars_none hV; obtain ⟨rfl, rfl⟩ := hV'; refine ⟨ds, [], p ++ [], [], p, [], hW', ?_, ?_, ?_, hb.frame _, fun h => by cases h⟩
  · rw [hr, hres]; exact trodAll_mk1 (Go.RowKit.shut_bool htb _)
  · rw [ha]; exact trodAll_below hl hb hrd hA fun x hx => hlt x (List.mem_append_left _ hx)
  rw [hvars, hv]; exact rfl
end
theorem law_calls3 (hP : ProgOk P) {orc : FuncId → List Value → Heap → Option (Value × Heap)} {W : World} (horc : CallSound P W.heap.size (wz W) orc) {ρz : Ren} {Sz : Nat → Prop} {hz : Heap} (hrz : HR P ρz Sz W.heap.size (wz W) hz W) (hGz : GT hz []) {f : FuncId} (hen : Enters P f) {fn : Func} {n : Nat} {t0 t1 t2 : TypeId} {τ0 τ1 τ2 : Ty} (hp : fn.params = #[t0, t1, t2]) (hb0 : tyB P n t0 τ0 = true) (hb1 : tyB P n t1 τ1 = true) (hb2 : tyB P n t2 τ2 = true)
    (hE : ∀ (h : Heap) (v0 v1 v2 : Value) (x0 : τ0.den) (x1 : τ1.den) (x2 : τ2.den), HOkG h → RepV h [] τ0 v0 x0 → RepV h [] τ1 v1 x1 → RepV h [] τ2 v2 x2 → Wf τ0 x0 → Wf τ1 x1 → Wf τ2 x2 → EvF P orc f [v0, v1, v2] h fun r h' => r = .bool true ∧ h' = h)
    {args : Array Value} {ds : List (DataW H)} {ps : List MemPlace} (hval : ∀ (j : Nat) t v, fn.params[j]? = some t → args[j]? = some v → Value.okWide P W .any base t v) (hA : DataW.TrodAll enc P W 0 sp held fn.params.toList args.toList ds ps) :
    Calls P f args W fun | .returned v', w' => v' = .bool true ∧ Below W.heap.size W w' | _, _ => False := by
  rw [hp] at hA hval; obtain ⟨v0, vs0, d0, ds0, p0, q0, ha, rfl, rfl, k0, r0⟩ := Go.ChangeShapes.trodAll_cons hA; obtain ⟨v1, vs1, d1, ds1, p1, q1, rfl, rfl, rfl, k1, r1⟩ := Go.ChangeShapes.trodAll_cons r0; obtain ⟨v2, vs2, d2, ds2, p2, q2, rfl, rfl, rfl, k2, r2⟩ := Go.ChangeShapes.trodAll_cons r1; obtain ⟨rfl, rfl, rfl⟩ := Go.ChangeShapes.trodAll_nil r2
  obtain rfl : args = #[v0, v1, v2] := by cases args; simp_all
  obtain ⟨ρ0, S0, h0, u0, x0, g0, c0, e0, w0⟩ := tell_arg hrz hb0 (hval 0 t0 v0 rfl rfl) k0; obtain ⟨ρ1, S1, h1, u1, x1, g1, c1, e1, w1⟩ := tell_arg g0.hr hb1 (hval 1 t1 v1 rfl rfl) k1; obtain ⟨ρ2, S2, h2, u2, x2, g2, c2, e2, w2⟩ := tell_arg g1.hr hb2 (hval 2 t2 v2 rfl rfl) k2; have hR := hE h2 u0 u1 u2 x0 x1 x2 ⟨g2.ok, ((hGz.nx (g0.aft.nx (hok_of hrz))).nx (g1.aft.nx g0.ok)).nx (g2.aft.nx g1.ok)⟩ ((e0.nx (g1.aft.nx g0.ok)).nx (g2.aft.nx g1.ok)) (e1.nx (g2.aft.nx g1.ok)) e2 w0 w1 w2; refine (fs_open (args' := [v0, v1, v2]) hP horc hen g2.hr (LR.cons ((c0.mono g1.agree).mono g2.agree) (LR.cons (c1.mono g2.agree) (LR.one c2))) (EvF.mono hR fun v h' h => h.1) rfl).mono fun e w' he => ?_
  cases e with
  | returned v => exact ⟨he.1, below_z he.2⟩
  | panicked c => exact he
  | outgrown => exact he
end Go.Fs
namespace Go.Proofs
open Go.Fs
set_option maxHeartbeats 1000000
theorem wfL {e : Ty} {xs : List e.den} (h : Wf (.sl e) xs) : xs.length ≤ 9223372036854775807 := Nat.le_trans h.1 (by decide)
end Go.Proofs
namespace Go.Proofs
open Go.Fs
set_option maxHeartbeats 1000000
theorem vt9 : ValT Tryz.prog 9 .str := valT_of (by kernel_rfl)
theorem zt4 : ZerT Tryz.prog 4 .bool := zerT_of (z := .bool false) (by kernel_rfl) rfl rfl
def firstR (f : Nat → Int) (i n : Nat) : Int := firstE ((List.range' i (n - i)).map f)
theorem firstR_step {f : Nat → Int} {i n : Nat} (h : i < n) : firstR f i n = if f i = 0 then firstR f (i + 1) n else f i := by
  unfold firstR; rw [show n - i = (n - (i + 1)) + 1 by omega, List.range'_succ]; rfl
theorem firstR_end {f : Nat → Int} {i n : Nat} (h : n ≤ i) : firstR f i n = 0 := by
  unfold firstR; rw [show n - i = 0 by omega] <;> rfl
theorem firstR_zero {f : Nat → Int} {n : Nat} : firstR f 0 n = 0 ↔ ∀ i, i < n → f i = 0 := by
  unfold firstR; rw [firstE_zero, Nat.sub_zero]; constructor
  · intro h i hi; exact h _ (List.mem_map_of_mem (List.mem_range'_1.2 ⟨Nat.zero_le _, by omega⟩))
  intro h x hx; obtain ⟨i, hi, rfl⟩ := List.mem_map.1 hx; exact h i (by have := List.mem_range'_1.1 hi; omega)
theorem mget_mset {α β : Type} [DecidableEq α] : ∀ (m : List (α × β)) (x z : α) (y : β), mget (mset m x y) z = if z = x then some y else mget m z
  | [], x, z, y => by simp [mset, mget]
  | (a, b) :: r, x, z, y => by
    by_cases h : x = a
    · subst h; simp only [mset, if_pos, mget]; by_cases h2 : z = x <;> simp [h2]
    simp only [mset, if_neg h, mget, mget_mset r x z y]; by_cases h2 : z = a
    · subst h2; have : ¬ z = x := fun e => h e.symm; simp [this]
    simp [h2]
abbrev Pha := ByteArray × Int × Int × List Int
def phA (l : List Pha) (i : Nat) : Pha := l.getD i (ByteArray.empty, 0, 0, [])
def lastB (b : List Int) : Nat → Int
  | 0 => -1
  | k + 1 => b.getD k 0
def befA (i : Nat) (b : List Int) (k : Nat) : Int := firstE [whenE (decide (b.getD k 0 < 0) || decide (((i : Nat) : Int) ≤ b.getD k 0)) 10, whenE (decide (b.getD k 0 ≤ lastB b k)) 11]
def befE (i : Nat) (b : List Int) : Int := firstR (befA i b) 0 b.length
def twiB (l : List Pha) (i : Nat) (s : ByteArray) : Bool := (l.take i).any fun x => decide (x.1 = s)
def headP (l : List Pha) (i : Nat) : List Int := [whenE (!nameB (phA l i).1) 8, whenE (twiB l i (phA l i).1) 9, rangeE (phA l i).2.1 0 1000, rangeE (phA l i).2.2.1 0 1000, whenE (decide ((phA l i).2.2.1 < (phA l i).2.1)) 11]
def phaE (l : List Pha) (i : Nat) : Int := firstE (headP l i ++ [befE i (phA l i).2.2.2])
def planE (l : List Pha) : Int := if 16 < ((l.length : Nat) : Int) then 5 else firstR (phaE l) 0 l.length
end Go.Proofs
namespace Go.Proofs
open Go.Fs
set_option maxHeartbeats 1000000
theorem zt3 : ZerT Tryz.prog 3 (.int .i64) := zerT_of (z := .int .i64 0) (by kernel_rfl) rfl rfl
structure PlanOk (l : List Pha) : Prop where
  len : l.length ≤ 16
  dur : ∀ i, i < l.length → 0 ≤ (phA l i).2.1 ∧ (phA l i).2.1 ≤ (phA l i).2.2.1 ∧ (phA l i).2.2.1 ≤ 1000
  bef : ∀ i, i < l.length → ∀ k, k < (phA l i).2.2.2.length → 0 ≤ (phA l i).2.2.2.getD k 0 ∧ (phA l i).2.2.2.getD k 0 < ((i : Nat) : Int) ∧ ∀ j, j < k → (phA l i).2.2.2.getD j 0 < (phA l i).2.2.2.getD k 0
def begE (es b : List Int) : Nat → Int
  | 0 => 0
  | k + 1 => max (begE es b k) (es.getD (b.getD k 0).toNat 0)
def endL (d : Pha → Int) (l : List Pha) : Nat → List Int
  | 0 => []
  | i + 1 => endL d l i ++ [begE (endL d l i) (phA l i).2.2.2 (phA l i).2.2.2.length + d (phA l i)]
def begF (d : Pha → Int) (l : List Pha) (i : Nat) : Int := begE (endL d l i) (phA l i).2.2.2 (phA l i).2.2.2.length
def dE (long : Bool) (x : Pha) : Int := bif long then x.2.2.1 else x.2.1
def fillL (A : List Int) (n : Nat) : List Int := A ++ List.replicate (n - A.length) 0
theorem fill_get {A : List Int} {n p : Nat} (h : p < A.length) : (fillL A n).getD p 0 = A.getD p 0 := by
  unfold fillL; rw [List.getD_eq_getElem?_getD, List.getElem?_append_left h, ← List.getD_eq_getElem?_getD]
end Go.Proofs
namespace Go.Proofs
open Go.Fs
set_option maxHeartbeats 1000000
def maxL (l : List Int) : Int := l.foldl max 0
def durE (l : List Pha) : Int × Int := (maxL (endL (dE false) l l.length), maxL (endL (dE true) l l.length))
def durR (l : List Pha) : Int × Int := if planE l = 0 then durE l else (0, 0)
end Go.Proofs
namespace Go.Fs
variable {P : Program} {orc : FuncId → List Value → Heap → Option (Value × Heap)} {rnd : Option Nat} {h h' h0 h1 h2 hs : Heap} {S S' S0 B G : List Nat} {σ σ' : Sto} {t t' : Tr} {ms : List Nat} {fl : VL} {ops : Array Oper} {n i mem : Nat} {l : List Oper} {K : VL → Sto → Prop} {Q : Ex → VL → Sto → Prop}
  {d d1 d2 : Tmp} {ty ty1 ty2 : TypeId} {pos pos1 pos2 : String} {after after1 after2 : Array Edge} {op : Op} {v v1 : PV} {g g1 g2 : Option (Nat × Bool)} {bs nw : List Nat} {segs : List (Nat × Nat × Nat)} {tail so : Bool}
section
variable (P orc)
end
end Go.Fs
namespace Go.Fs
variable {P : Program} {orc : FuncId → List Value → Heap → Option (Value × Heap)} {rnd : Option Nat} {h h' h0 h1 h2 : Heap} {S S' S0 B G : List Nat} {σ σ' : Sto} {t t' : Tr} {ms : List Nat} {fl : VL} {ops : Array Oper} {n i mem : Nat} {l : List Oper} {K : VL → Sto → Prop} {Q : Ex → VL → Sto → Prop}
  {d : Tmp} {ty : TypeId} {pos : String} {after : Array Edge} {op : Op} {v pv : PV} {g : Option (Nat × Bool)} {bs nw : List Nat} {segs : List (Nat × Nat × Nat)} {so : Bool}
end Go.Fs
namespace Go.Fs
variable {P : Program} {orc : FuncId → List Value → Heap → Option (Value × Heap)} {rnd : Option Nat} {h h' h0 h1 h2 : Heap} {S S' S0 B G : List Nat} {σ σ' σr : Sto} {t t' : Tr} {ms : List Nat} {fl : VL} {ops : Array Oper} {n i mem : Nat} {l : List Oper} {K : VL → Sto → Prop} {Q : Ex → VL → Sto → Prop}
  {d : Tmp} {ty : TypeId} {pos : String} {after : Array Edge} {op : Op} {v pv : PV} {g : Option (Nat × Bool)} {x y z : Operand} {T T' e e' : TypeId} {τ τ' : Ty} {w w' : Value} {c c' : Cell}
end Go.Fs
namespace Go.Proofs
open Go.Fs
set_option maxHeartbeats 1000000
def behF (l : List Pha) (n k : Nat) : List Int := ((List.range n).filter fun q => (phA l q).2.2.2.contains ((k : Nat) : Int)).map fun q => ((q : Nat) : Int)
end Go.Proofs
namespace Go.Proofs
open Go.Fs
set_option maxHeartbeats 1000000
def aftG (d : Pha → Int) (l : List Pha) : Nat → Nat → Int
  | 0, _ => 0
  | f + 1, p => maxL ((behF l l.length p).map fun x => d (phA l x.toNat) + aftG d l f x.toNat)
def aftF (d : Pha → Int) (l : List Pha) (p : Nat) : Int := aftG d l (l.length - p) p
def chnF (d : Pha → Int) (l : List Pha) (p : Nat) : Int := d (phA l p) + aftF d l p
def chnL (d : Pha → Int) (l : List Pha) : List Int := (List.range l.length).map (chnF d l)
end Go.Proofs
namespace Go.Proofs
open Go.Fs
set_option maxHeartbeats 1000000
def idxG {α : Type} (F : α → Bool) : List α → Int → Int
  | [], _ => -1
  | x :: l, k => if F x = true then k else idxG F l (k + 1)
theorem idxG_drop {α : Type} {F : α → Bool} {l : List α} {j : Nat} (hj : j < l.length) : idxG F (l.drop j) (j : Nat) = if F l[j] = true then ((j : Nat) : Int) else idxG F (l.drop (j + 1)) ((j + 1 : Nat) : Int) := by
  rw [List.drop_eq_getElem_cons hj] <;> rfl
theorem idxG_end {α : Type} {F : α → Bool} {l : List α} {j : Nat} {k : Int} (hj : l.length ≤ j) : idxG F (l.drop j) k = -1 := by rw [List.drop_eq_nil_of_le hj] <;> rfl
def critK (d : Pha → Int) (l : List Pha) (fr : List Int) (left : Int) : Int := idxG (fun x => decide ((chnL d l).getD x.toNat 0 = left)) fr 0
def critG (d : Pha → Int) (l : List Pha) : Nat → List Int → Int → List Int
  | 0, _, _ => []
  | f + 1, fr, left => if 0 < left then fr.getD (critK d l fr left).toNat 0 :: critG d l f (behF l l.length (fr.getD (critK d l fr left).toNat 0).toNat) (left - d (phA l (fr.getD (critK d l fr left).toNat 0).toNat)) else []
def allI (n : Nat) : List Int := (List.range n).map fun q => ((q : Nat) : Int)
def critE (l : List Pha) : List Int := critG (dE true) l l.length (allI l.length) (maxL (chnL (dE true) l))
structure CritI (d : Pha → Int) (l : List Pha) (f : Nat) (fr : List Int) (left : Int) : Prop where
  mx : left = maxL (fr.map fun x => chnF d l x.toNat)
  rng : ∀ x ∈ fr, 0 ≤ x ∧ x < ((l.length : Nat) : Int) ∧ ((l.length : Nat) : Int) - x ≤ ((f : Nat) : Int)
  len : fr.length ≤ l.length
def criR (l : List Pha) : List Int := if planE l = 0 then critE l else []
end Go.Proofs
namespace Go.Proofs
open Go.Fs
set_option maxHeartbeats 1000000
theorem rHasInt_ok {l : List Int} {x : Int} (hl : l.length < 1000000) : VF Tryz.prog OA 53 [.v y25 l, I x] (B (l.contains x)) := by
  refine VF.enter Tryz.func53 rfl (fun _ _ => rfl) rfl ?_; show VC _ _ _ _ _ [(0, .v y25 l), (1, I x)] [] _; refine VC.seq (VC.text ?_); refine VO.c (.assign rfl) ?_; refine VO.go (VC.seq (VC.seq (VC.text ?_))); refine VO.c (.assign rfl) ?_; refine VO.go (VC.block ?_); refine VC.keep [(0, .v y25 l), (1, I x), (5, I ((0 : Nat) : Int))] ⟨rfl, rfl, rfl, trivial⟩ ?_; refine VC.loop (I := fun kk ff ss => ∃ (i : Nat), kk = l.length - i ∧ ff = [(0, .v y25 l), (1, I x), (5, I ((i : Nat) : Int))] ∧ ss = [] ∧ (i ≤ l.length) ∧ (∀ j (hj : j < l.length), j < i → l[j] ≠ x)) ?_ _ _ _ ⟨0, rfl, rfl, rfl, Nat.zero_le _, (by intro j hj h; omega)⟩; rintro kk ff ss ⟨i, hk0, rfl, rfl, hi, hq⟩; refine VC.seq (VC.seq (VC.text ?_)); refine VO.c (.move rfl) (VO.c (.move rfl) ?_); refine VO.r (.len el25) ?_; refine VO.c (.lss) (VO.go ?_); refine VC.condD rfl (fun c2 => ?_) (fun c2 => ?_)
  · refine VC.skip (VC.seq (VC.block (VC.seq (VC.text ?_)))); refine VO.c (.move rfl) (VO.c (.move rfl) (VO.c (.ix (j := i) rfl rfl el25 (by omega)) ?_)); refine VO.r (.ld vt3) ?_; refine VO.c (.move rfl) (VO.c (.eql) (VO.go ?_)); refine VC.condD rfl (fun c4 => ?_) (fun c4 => ?_)
    · refine VC.seq (VC.text ?_); refine VO.c (.assign rfl) (VO.go ?_); refine VC.ret ?_; exact VEnd.one rfl evT (pvE (by exact (List.contains_iff_mem.2 (c4 ▸ List.getElem_mem _)).symm))
    refine VC.skip (VC.text ?_); refine VO.c (.move rfl) (VO.c (.add rfl rfl (by omega)) (VO.c (.assign rfl) ?_)); refine VO.nil ?_; refine ⟨_, [(0, .v y25 l), (1, I x), (5, I (((i + 1) : Nat) : Int))], ?_, ⟨rfl, rfl, rfl, trivial⟩, (i + 1), rfl, rfl, rfl, (by omega), (by intro j hj h; rcases Nat.lt_succ_iff_lt_or_eq.1 h with h | h; exact hq j hj h; subst h; exact c4)⟩; omega
  refine VC.exit (VC.seq (VC.text ?_)); refine VO.c (.assign rfl) (VO.go ?_); refine VC.ret ?_; exact VEnd.one rfl evT (pvE (by refine (Bool.eq_false_iff.2 fun h => ?_).symm; obtain ⟨j, hj, he⟩ := List.mem_iff_getElem.1 (List.contains_iff_mem.1 h); exact hq j hj (by omega) he))
end Go.Proofs
namespace Go.Fs
variable {P : Program} {orc : FuncId → List Value → Heap → Option (Value × Heap)} {τ : Ty}
end Go.Fs
namespace Go.Proofs
open Go.Fs
set_option maxHeartbeats 1000000
end Go.Proofs
namespace Go.Proofs
open Go.Fs
set_option maxHeartbeats 1000000
end Go.Proofs
namespace Go.Fs
variable {P : Program} {fl : VL} {σ γ : Sto} {Q : PV → Sto → Prop} {fn : Func} {τ : Ty}
end Go.Fs
namespace Go.Proofs
open Go.Fs
set_option maxHeartbeats 1000000
theorem cTime_ok {n : Int} : VF Tryz.prog OA 104 [I n] (I (rangeE n 0 100000)) := by
  refine VF.enter Tryz.func104 rfl (fun _ _ => rfl) rfl ?_; show VC _ _ _ _ _ [(0, I n)] [] _; refine VC.seq (VC.text ?_); refine VO.c (.assign rfl) ?_; refine VO.go (VC.seq (VC.text ?_)); refine VO.c (.move rfl) ?_; refine VO.call rfl rfl (VF.call (cWithin_ok )) ?_; refine VO.c (.assign rfl) (VO.go ?_); refine VC.ret ?_; exact VEnd.one rfl evT (pvI (by rfl))
theorem rTime_ok {n : Int} : VF Tryz.prog OA 30 [I n] (I (rangeE n 0 100000)) := by
  refine VF.enter Tryz.func30 rfl (fun _ _ => rfl) rfl ?_; show VC _ _ _ _ _ [(0, I n)] [] _; refine VC.seq (VC.text ?_); refine VO.c (.assign rfl) ?_; refine VO.go (VC.seq (VC.text ?_)); refine VO.c (.move rfl) ?_; refine VO.call rfl rfl (VF.call (rCheckRange_ok )) ?_; refine VO.c (.assign rfl) (VO.go ?_); refine VC.ret ?_; exact VEnd.one rfl evT (pvI (by rfl))
def badE (l : List Pha) (dl : Int) : Int := firstE [planE l, rangeE dl 0 100000]
def latE (l : List Pha) (dl : Int) : Int := if badE l dl = 0 then whenE (decide (dl < (durE l).2)) 24 else badE l dl
def latL (l : List Pha) (dl : Int) : List Int := (chnL (dE true) l).map fun n => dl - n
def latR (l : List Pha) (dl : Int) : List Int := if latE l dl = 0 then latL l dl else []
def slaF (l : List Pha) (dl : Int) (i : Nat) : Int := dl - chnF (dE true) l i - begF (dE true) l i
def slaL (l : List Pha) (dl : Int) : List Int := (List.range l.length).map (slaF l dl)
def slaR (l : List Pha) (dl : Int) : List Int := if latE l dl = 0 then slaL l dl else []
end Go.Proofs
namespace Go.Fs
variable {P : Program} {orc : FuncId → List Value → Heap → Option (Value × Heap)} {rnd : Option Nat} {h h' h0 h1 h2 : Heap} {S S' S0 B G : List Nat} {σ σ' : Sto} {t t' : Tr} {ms : List Nat} {fl : VL} {ops : Array Oper} {n : Nat} {l : List Oper} {K : VL → Sto → Prop} {Q : Ex → VL → Sto → Prop}
  {d : Tmp} {ty : TypeId} {pos : String} {after : Array Edge} {op : Op} {v : PV} {g : Option (Nat × Bool)}
theorem GT.ptr (hG : GT h S) {v : GVar} (hv : v ∈ gTab) (ht : (P.globals[v.n]?).map (·.type) = some v.e) : gptr P h v.n = .pointer (some ⟨v.n + 1, 0, none⟩) ∧ RepP h S v.τ (.pointer (some ⟨v.n + 1, 0, none⟩)) v.x := by
  obtain ⟨vs, h1, h2, h3, h4⟩ := hG v hv; obtain ⟨gl, h5, h6⟩ := Option.map_eq_some_iff.1 ht; refine ⟨?_, v.n + 1, 0, v.e, vs, false, true, rfl, h2, h1, by omega, ?_⟩
  · unfold gptr; rw [h1, h5]; simp only [h6, Nat.beq_refl, cond_true]
  rw [List.drop_zero, ← h3, List.take_length]; exact h4 h S
theorem step_ldG {m : Nat} {T : TypeId} {k : Nat} {u : Value} (hl : fsLoad P T (gptr P h k) h = some u) (o : Oper) (ho : o.op = .load T (.global k)) : stepM P orc m o (evalO t) h = some (u, h) := by
  obtain ⟨dst, op, ty, pos, after, gd⟩ := o; subst ho; unfold stepM fsOpM; rw [show fsOp P (callOf P orc (fsCode P orc m)) (fsYield (fsCode P orc m)) ⟨dst, .load T (.global k), ty, pos, after, gd⟩ (evalO t) h = none from rfl]; show (bif true then (fsLoad P T (gptr P h k) h).map (fun v => (v, h)) else none) = _; rw [hl]; rfl
theorem VO.ldG {T : TypeId} {k : Nat} {e : TypeId} {τ : Ty} {x : τ.den} (hv : (⟨k, e, τ, x⟩ : GVar) ∈ gTab) (hT : ValT P T τ) (hk : VO P orc ops n l ((d, .v τ x) :: fl) σ K) (ht : (P.globals[k]?).map (·.type) = some e := by kernel_rfl) (hw : wantV ops fl g = some true := by rfl) (hn : (Nat.blt d n && Nat.ble n 4000) = true := by rfl) :
    VO P orc ops n (⟨some d, .load T (.global k), ty, pos, after, g⟩ :: l) fl σ K := fun h0 G S0 t h ms I => by
  obtain ⟨n1, n2⟩ := fits hn; obtain ⟨e1, e2⟩ := I.slots.1.ptr (P := P) hv ht; obtain ⟨e3, e4⟩ := e2.load' hT; obtain ⟨m, t2, h2, hr, hq⟩ := hk h0 G S0 _ h ms (I.set (e4 : RepPV h _ (.v τ x) _) n2); refine ⟨m, t2, h2, ?_, hq⟩; simp only [fsOps, want_ok (o := ⟨some d, .load T (.global k), ty, pos, after, g⟩) I.slots hw, step_ldG (orc := orc) (m := m) (t := t) (by rw [e1]; exact e3) ⟨some d, .load T (.global k), ty, pos, after, g⟩ rfl, put_fits n1 t]; exact hr
end Go.Fs
namespace Go.Proofs
open Go.Fs
set_option maxHeartbeats 1000000
abbrev y57 : Ty := (.sl (.pair .str (.pair (.int .i64) (.pair (.int .i64) (.pair (.int .i64) (.int .i64))))))
abbrev y59 : Ty := (.sl (.pair (.int .i64) (.int .i64)))
abbrev y62 : Ty := (.sl (.pair .str (.pair (.int .i64) (.pair (.int .i64) (.pair (.int .i64) (.int .i64))))))
abbrev y68 : Ty := (.sl (.pair (.int .i64) (.int .i64)))
abbrev y111 : Ty := (.pair (.int .i64) (.int .i64))
abbrev y113 : Ty := (.pair .str (.pair (.int .i64) (.pair (.int .i64) (.pair (.int .i64) (.int .i64)))))
abbrev y128 : Ty := (.pair (.int .i64) (.int .i64))
abbrev y168 : Ty := (.pair (.sl (.pair .str (.pair (.int .i64) (.pair (.int .i64) (.pair (.int .i64) (.int .i64)))))) (.pair (.int .i64) (.int .i64)))
abbrev y173 : Ty := (.pair .str (.pair (.int .i64) (.pair (.int .i64) (.pair (.int .i64) (.int .i64)))))
theorem vt62 : ValT Tryz.prog 62 y62 := valT_of (by kernel_rfl)
theorem vt113 : ValT Tryz.prog 113 y113 := valT_of (by kernel_rfl)
theorem vt128 : ValT Tryz.prog 128 y128 := valT_of (by kernel_rfl)
theorem vt173 : ValT Tryz.prog 173 y173 := valT_of (by kernel_rfl)
theorem el57 : ElT Tryz.prog 57 113 y113 := elT_of (by kernel_rfl)
theorem el59 : ElT Tryz.prog 59 111 y111 := elT_of (by kernel_rfl)
theorem el62 : ElT Tryz.prog 62 173 y173 := elT_of (by kernel_rfl)
theorem el68 : ElT Tryz.prog 68 128 y128 := elT_of (by kernel_rfl)
theorem zt113 : ZerT Tryz.prog 113 y113 := zerT_of (z := .agg #[.string ByteArray.empty, .int .i64 0, .int .i64 0, .int .i64 0, .int .i64 0]) (by kernel_rfl) rfl rfl
theorem zt128 : ZerT Tryz.prog 128 y128 := zerT_of (z := .agg #[.int .i64 0, .int .i64 0]) (by kernel_rfl) rfl rfl
theorem zt173 : ZerT Tryz.prog 173 y173 := zerT_of (z := .agg #[.string ByteArray.empty, .int .i64 0, .int .i64 0, .int .i64 0, .int .i64 0]) (by kernel_rfl) rfl rfl
abbrev Shp := ByteArray × Int × Int × Int × Int
def shA (l : List Shp) (i : Nat) : Shp := l.getD i (ByteArray.empty, 0, 0, 0, 0)
theorem shA_eq {l : List Shp} {i : Nat} (h : i < l.length) : shA l i = l[i] := by simp [shA, h]
def twiS (l : List Shp) (i : Nat) (s : ByteArray) : Bool := (l.take i).any fun x => decide (x.1 = s)
def shpX (x : Shp) (t : Bool) : Int := firstE [whenE (!nameB x.1) 8, whenE t 9, rangeE x.2.1 0 100000, rangeE x.2.2.1 1 1000, rangeE x.2.2.2.1 0 1, rangeE x.2.2.2.2 1 1000]
def shpE (l : List Shp) (i : Nat) : Int := shpX (shA l i) (twiS l i (shA l i).1)
def shpsE (l : List Shp) : Int := if 8 < ((l.length : Nat) : Int) then 5 else firstR (shpE l) 0 l.length
theorem shpE_x {l : List Shp} {i : Nat} (h : i < l.length) : shpE l i = shpX l[i] (twiS l i l[i].1) := by rw [shpE, shA_eq h]
theorem ships_r {l : List Shp} {i : Nat} (hl : ¬ 8 < ((l.length : Nat) : Int)) (hw : firstR (shpE l) 0 l.length = firstR (shpE l) i l.length) (hi : i < l.length) (hz : shpE l i ≠ 0) : shpsE l = shpE l i := by
  rw [shpsE, if_neg hl, hw, firstR_step hi, if_neg hz]
theorem idxG_any {α : Type} {F : α → Bool} : ∀ {l : List α} {k : Int}, 0 ≤ k → ((0 ≤ idxG F l k) ↔ l.any F = true)
  | [], k, _ => by simp [idxG]
  | x :: l, k, h => by
    unfold idxG; rw [List.any_cons]; by_cases hx : F x = true
    · rw [if_pos hx, hx]; simp [h]
    rw [if_neg hx, idxG_any (l := l) (by omega)]; simp [hx]
theorem zIndexSh_ok {F : ByteArray × Int × Int × Int × Int → Bool} {l : List (ByteArray × Int × Int × Int × Int)} {f : PV} (hl : l.length < 1000000) (hf : ∀ x ∈ l, VCall Tryz.prog OA f [.v y173 x] (B (F x))) : VF Tryz.prog OA 155 [.v y62 l, f] (I (idxG F l 0)) := by
  refine VF.enter Tryz.func155 rfl (fun _ _ => rfl) rfl ?_; show VC _ _ _ _ _ [(0, .v y62 l), (1, f)] [] _; refine VC.seq (VC.text ?_); refine VO.c (.assign rfl) ?_; refine VO.go (VC.seq (VC.seq (VC.text ?_))); refine VO.c (.move rfl) ?_; refine VO.r (.len el62) ?_; refine VO.c (.move rfl) ?_; refine VO.go (VC.block ?_); refine VC.keep [(0, .v y62 l), (1, f), (7, I ((l.length : Nat) : Int)), (8, I ((0 : Nat) : Int))] ⟨rfl, rfl, rfl, rfl, trivial⟩ ?_; refine VC.loop (I := fun kk ff ss => ∃ (j : Nat), kk = l.length - j ∧ ff = [(0, .v y62 l), (1, f), (7, I ((l.length : Nat) : Int)), (8, I ((j : Nat) : Int))] ∧ ss = [] ∧ (j ≤ l.length) ∧ (idxG F l 0 = idxG F (l.drop j) (j : Nat))) ?_ _ _ _ ⟨0, rfl, rfl, rfl, Nat.zero_le _, (by rfl)⟩; rintro kk ff ss ⟨j, hk0, rfl, rfl, hj, hi⟩; refine VC.seq (VC.text ?_); refine VO.c (.lss) ?_; refine VO.go (VC.seq ?_); refine VC.condD rfl (fun c2 => ?_) (fun c2 => ?_)
  · refine VC.skip (VC.seq (VC.block (VC.seq (VC.text ?_)))); refine VO.c (.move rfl) (VO.c (.assign rfl) ?_); refine VO.go (VC.seq (VC.text ?_)); refine VO.c (.move rfl) (VO.c (.move rfl) (VO.c (.move rfl) (VO.c (.ix (j := j) rfl rfl el62 (by omega)) ?_))); refine VO.r (.ld vt173) ?_; refine VO.call rfl rfl ((hf _ (List.getElem_mem _)) ) ?_; refine VO.go ?_; refine VC.condB rfl (fun c4 => ?_) (fun c4 => ?_)
    · refine VC.seq (VC.text ?_); refine VO.c (.move rfl) (VO.c (.assign rfl) (VO.go ?_)); refine VC.ret ?_; exact VEnd.one rfl evT (pvI (by rw [hi, idxG_drop (by omega), if_pos c4]))
    refine VC.skip (VC.text ?_); refine VO.c (.add rfl rfl (by omega)) (VO.c (.move rfl) ?_); refine VO.nil ?_; refine ⟨_, [(0, .v y62 l), (1, f), (7, I ((l.length : Nat) : Int)), (8, I (((j + 1) : Nat) : Int))], ?_, ⟨rfl, rfl, rfl, rfl, trivial⟩, (j + 1), rfl, rfl, rfl, (by omega), (by rw [hi, idxG_drop (by omega), if_neg (by rw [c4]; decide)])⟩; omega
  refine VC.exit (VC.seq (VC.text ?_)); refine VO.c (.assign rfl) (VO.go ?_); refine VC.ret ?_; exact VEnd.one rfl evT (pvI (by rw [hi, idxG_end (by omega)]))
theorem zContSh_ok {F : ByteArray × Int × Int × Int × Int → Bool} {l : List (ByteArray × Int × Int × Int × Int)} {f : PV} (hl : l.length < 1000000) (hf : ∀ x ∈ l, VCall Tryz.prog OA f [.v y173 x] (B (F x))) : VF Tryz.prog OA 126 [.v y62 l, f] (B (l.any F)) := by
  refine VF.enter Tryz.func126 rfl (fun _ _ => rfl) rfl ?_; show VC _ _ _ _ _ [(0, .v y62 l), (1, f)] [] _; refine VC.seq (VC.text ?_); refine VO.c (.assign rfl) ?_; refine VO.go (VC.seq (VC.text ?_)); refine VO.c (.move rfl) (VO.c (.move rfl) ?_); refine VO.call rfl rfl (VF.call (zIndexSh_ok (F := F) hl hf)) ?_; refine VO.c (.geq) (VO.c (.assign rfl) (VO.go ?_)); refine VC.ret ?_; exact VEnd.one rfl evT (pvE (by have h9 := idxG_any (F := F) (l := l) (k := 0) (by omega); cases h8 : l.any F <;> simp_all))
theorem cShp1_ok {o : ByteArray × Int × Int × Int × Int} {x : ByteArray × Int × Int × Int × Int} : VF Tryz.prog OA 127 [.v y173 o, .p y173 x] (B (decide (o.1 = x.1))) := by
  refine VF.enter Tryz.func127 rfl (fun _ _ => rfl) rfl ?_; show VC _ _ _ _ _ [(0, .v y173 o), (1, .p y173 x)] [] _; refine VC.seq (VC.text ?_); refine VO.new (.box) ?_; refine VO.c (.assign rfl) ?_; refine VO.go (VC.seq (VC.text ?_)); refine VO.c (.fa (.l .o)) ?_; refine VO.r (.ld vt9) ?_; refine VO.c (.fa (.l .o)) ?_; refine VO.r (.ld vt9) ?_; refine VO.c (.seql) (VO.c (.assign rfl) (VO.go ?_)); refine VC.ret ?_; exact VEnd.one rfl evT (pvE (by rfl))
theorem cShips_ok {l : List (ByteArray × Int × Int × Int × Int)} (hl : l.length < 100000) : VF Tryz.prog OA 50 [.v y62 l] (I (shpsE l)) := by
  refine VF.enter Tryz.func50 rfl (fun _ _ => rfl) rfl ?_; show VC _ _ _ _ _ [(0, .v y62 l)] [] _; refine VC.seq (VC.text ?_); refine VO.c (.assign rfl) ?_; refine VO.go (VC.seq (VC.seq (VC.text ?_))); refine VO.c (.move rfl) ?_; refine VO.r (.len el62) ?_; refine VO.c (.gtr) (VO.go ?_); refine VC.condD rfl (fun c1 => ?_) (fun c1 => ?_)
  · refine VC.seq (VC.text ?_); refine VO.c (.assign rfl) (VO.go ?_); refine VC.ret ?_; exact VEnd.one rfl evT (pvI (by rw [shpsE, if_pos c1]))
  refine VC.skip (VC.seq (VC.seq (VC.text ?_))); refine VO.c (.move rfl) ?_; refine VO.r (.len el62) ?_; refine VO.c (.move rfl) ?_; refine VO.go (VC.block ?_); refine VC.keep [(0, .v y62 l), (10, .v y62 l), (11, I ((l.length : Nat) : Int)), (12, I ((0 : Nat) : Int))] ⟨rfl, rfl, rfl, rfl, trivial⟩ ?_; refine VC.loop (I := fun kk ff ss => ∃ (i : Nat), kk = l.length - i ∧ ff = [(0, .v y62 l), (10, .v y62 l), (11, I ((l.length : Nat) : Int)), (12, I ((i : Nat) : Int))] ∧ ss = [] ∧ (i ≤ l.length) ∧ (firstR (shpE l) 0 l.length = firstR (shpE l) i l.length)) ?_ _ _ _ ⟨0, rfl, rfl, rfl, Nat.zero_le _, (by rfl)⟩; rintro kk ff ss ⟨i, hk0, rfl, rfl, hi, hw⟩; refine VC.seq (VC.text ?_); refine VO.c (.lss) ?_; refine VO.go (VC.seq ?_); refine VC.condD rfl (fun c4 => ?_) (fun c4 => ?_)
  · have hlt : i < l.length := by omega
    have hx : shpE l i = shpX l[i] ((l.take ((i : Nat) : Int).toNat).any fun o => decide (o.1 = (shA l i).1)) := by rw [shpE, shA_eq hlt] <;> rfl
    refine VC.skip (VC.seq (VC.block (VC.seq (VC.text ?_)))); refine VO.c (.move rfl) (VO.c (.ix (j := i) rfl rfl el62 (by omega)) ?_); refine VO.r (.ld vt173) ?_; refine VO.cell (.alloc zt173) ?_; intro ww1; refine VO.c (.assign rfl) ?_; refine VO.setV (cs' := [St ((l[i]).1), I ((l[i]).2.1), I ((l[i]).2.2.1), I ((l[i]).2.2.2.1), I ((l[i]).2.2.2.2)]) vt173 .v ?_; refine VO.shut [(4, .p y173 (l[i]))] (.cons rfl (.var m0 .refl) .nil) ?_; refine VO.go (VC.seq (VC.text ?_)); refine VO.c (.move rfl) (VO.c (.move rfl) ?_); refine VO.r (.cutH rfl rfl el62 (by omega)) ?_; refine VO.c (.func) ?_; refine VO.call rfl rfl (VF.call (zContSh_ok (F := fun o => decide (o.1 = (shA l i).1)) (by rw [List.length_take]; omega) (fun o _ => by rw [shA_eq hlt]; exact VF.clo cShp1_ok))) ?_; refine VO.c (.assign rfl) ?_; refine VO.go (VC.seq (VC.drawn ?_)); refine VD.c (.fa (.l .o)) ?_; refine VD.r [] (.ld vt9) (.inl rfl) ?_; refine VD.call rfl rfl (VF.call (gName_ok )) ?_; refine VD.c (.not) ?_; refine VD.call rfl rfl (VF.call (cWhen_ok )) ?_; refine VD.c (.move rfl) (VD.nw [] ?_); refine VD.call rfl rfl (VF.call (cWhen_ok )) ?_; refine VD.c (.fa (.r (.l .o))) ?_; refine VD.r [] (.ld vt3) (.inl rfl) ?_; refine VD.call rfl rfl (VF.call (cWithin_ok )) ?_; refine VD.c (.fa (.r (.r (.l .o)))) ?_; refine VD.r [] (.ld vt3) (.inl rfl) ?_; refine VD.call rfl rfl (VF.call (cWithin_ok )) ?_; refine VD.nw [] (VD.c (.fa (.r (.r (.r (.l .o))))) ?_); refine VD.r [] (.ld vt3) (.inl rfl) ?_; refine VD.call rfl rfl (VF.call (cWithin_ok )) ?_; refine VD.c (.fa (.r (.r (.r (.r .o))))) ?_; refine VD.r [] (.ld vt3) (.inl rfl) ?_; refine VD.call rfl rfl (VF.call (cWithin_ok )) ?_; refine VD.new (.lit [whenE (!(nameB ((l[i]).1))) (8 : Int), whenE ((l.take (((i : Nat) : Int)).toNat).any (fun o => decide (o.1 = (shA l i).1))) (9 : Int), rangeE ((l[i]).2.1) (0 : Int) (100000 : Int), rangeE ((l[i]).2.2.1) (1 : Int) (1000 : Int), rangeE ((l[i]).2.2.2.1) (0 : Int) (1 : Int), rangeE ((l[i]).2.2.2.2) (1 : Int) (1000 : Int)] el154) ?_; refine VD.nw [41] ?_; refine VD.callO rfl rfl (VF.call (cFirst_ok (by simp))) ?_; refine VD.c (.assign rfl) ?_; refine VD.go (VC.seq ?_); refine VC.keep [(0, .v y62 l), (6, I (firstE [whenE (!(nameB ((l[i]).1))) (8 : Int), whenE ((l.take (((i : Nat) : Int)).toNat).any (fun o => decide (o.1 = (shA l i).1))) (9 : Int), rangeE ((l[i]).2.1) (0 : Int) (100000 : Int), rangeE ((l[i]).2.2.1) (1 : Int) (1000 : Int), rangeE ((l[i]).2.2.2.1) (0 : Int) (1 : Int), rangeE ((l[i]).2.2.2.2) (1 : Int) (1000 : Int)])), (10, .v y62 l), (11, I ((l.length : Nat) : Int)), (12, I ((i : Nat) : Int))] ⟨rfl, rfl, rfl, rfl, rfl, trivial⟩ ?_; refine VC.text ?_; refine VO.c (.move rfl) (VO.c (.neq) (VO.go ?_)); refine VC.condD rfl (fun c8 => ?_) (fun c8 => ?_)
    · refine VC.seq (VC.text ?_); refine VO.c (.move rfl) (VO.c (.assign rfl) (VO.go ?_)); refine VC.ret ?_; exact VEnd.one rfl evT (pvI (by rw [ships_r c1 hw hlt (by rw [hx]; exact c8), hx] <;> rfl))
    refine VC.skip (VC.text ?_); refine VO.c (.add rfl rfl (by omega)) (VO.c (.move rfl) ?_); refine VO.nil ?_; refine ⟨_, [(0, .v y62 l), (10, .v y62 l), (11, I ((l.length : Nat) : Int)), (12, I (((i + 1) : Nat) : Int))], ?_, ⟨rfl, rfl, rfl, rfl, trivial⟩, (i + 1), rfl, rfl, rfl, (by omega), (by rw [hw, firstR_step hlt, if_pos (by rw [hx]; exact Classical.not_not.1 c8)])⟩; omega
  refine VC.exit (VC.seq (VC.text ?_)); refine VO.c (.assign rfl) (VO.go ?_); refine VC.ret ?_; exact VEnd.one rfl evT (pvI (by rw [shpsE, if_neg c1, hw, firstR_end (by omega)]))
theorem twiS_f {l : List Shp} {i k : Nat} (hk : k < i) (hi : i < l.length) (h : (l[k]'(by omega)).1 = l[i].1) : twiS l i l[i].1 = true := List.any_eq_true.2 ⟨l[k]'(by omega), List.mem_iff_getElem.2 ⟨k, by rw [List.length_take]; omega, by rw [List.getElem_take]⟩, decide_eq_true h⟩
theorem twiS_n {l : List Shp} {i : Nat} (hi : i < l.length) (h : ∀ k (hk : k < l.length), k < i → l[k].1 ≠ l[i].1) : twiS l i l[i].1 = false := by
  cases hb : twiS l i l[i].1 with
  | false => rfl
  | true =>
    obtain ⟨x, hx, he⟩ := List.any_eq_true.1 hb; obtain ⟨k, hk, rfl⟩ := List.mem_iff_getElem.1 hx; rw [List.length_take] at hk; rw [List.getElem_take] at he; exact absurd (of_decide_eq_true he) (h k (by omega) (by omega))
theorem shp_1 {x : Shp} {t : Bool} (h : whenE (!nameB x.1) 8 ≠ 0) : shpX x t = whenE (!nameB x.1) 8 := if_neg h
theorem shp_2 {x : Shp} (h : whenE (!nameB x.1) 8 = 0) : shpX x true = 9 := (if_pos h).trans (if_neg (by decide))
theorem shp_3 {x : Shp} (h : whenE (!nameB x.1) 8 = 0) : shpX x false = firstE [rangeE x.2.1 0 100000, rangeE x.2.2.1 1 1000, rangeE x.2.2.2.1 0 1, rangeE x.2.2.2.2 1 1000] := (if_pos h).trans (if_pos rfl)
theorem rShips_ok {l : List (ByteArray × Int × Int × Int × Int)} (hl : l.length < 100000) : VF Tryz.prog OA 45 [.v y57 l] (I (shpsE l)) := by
  refine VF.enter Tryz.func45 rfl (fun _ _ => rfl) rfl ?_; show VC _ _ _ _ _ [(0, .v y57 l)] [] _; refine VC.seq (VC.text ?_); refine VO.c (.assign rfl) ?_; refine VO.go (VC.seq (VC.seq (VC.text ?_))); refine VO.c (.move rfl) ?_; refine VO.r (.len el57) ?_; refine VO.c (.gtr) (VO.go ?_); refine VC.condD rfl (fun c1 => ?_) (fun c1 => ?_)
  · refine VC.seq (VC.text ?_); refine VO.c (.assign rfl) (VO.go ?_); refine VC.ret ?_; exact VEnd.one rfl evT (pvI (by rw [shpsE, if_pos c1]))
  refine VC.skip (VC.seq (VC.seq (VC.text ?_))); refine VO.c (.assign rfl) ?_; refine VO.go (VC.block ?_); refine VC.keep [(0, .v y57 l), (3, I ((0 : Nat) : Int))] ⟨rfl, rfl, trivial⟩ ?_; refine VC.loop (I := fun kk ff ss => ∃ (i : Nat), kk = l.length - i ∧ ff = [(0, .v y57 l), (3, I ((i : Nat) : Int))] ∧ ss = [] ∧ (i ≤ l.length) ∧ (firstR (shpE l) 0 l.length = firstR (shpE l) i l.length)) ?_ _ _ _ ⟨0, rfl, rfl, rfl, Nat.zero_le _, (by rfl)⟩; rintro kk ff ss ⟨i, hk0, rfl, rfl, hi, hw⟩; refine VC.seq (VC.seq (VC.text ?_)); refine VO.c (.move rfl) (VO.c (.move rfl) ?_); refine VO.r (.len el57) ?_; refine VO.c (.lss) (VO.go ?_); refine VC.condD rfl (fun c4 => ?_) (fun c4 => ?_)
  · have hlt : i < l.length := by omega
    have hx := shpE_x hlt; refine VC.skip (VC.seq (VC.block (VC.seq (VC.text ?_)))); refine VO.c (.move rfl) (VO.c (.move rfl) (VO.c (.ix (j := i) rfl rfl el57 (by omega)) ?_)); refine VO.r (.ld vt113) ?_; refine VO.cell (.alloc zt113) ?_; intro ww2; refine VO.setV (cs' := [St ((l[i]).1), I ((l[i]).2.1), I ((l[i]).2.2.1), I ((l[i]).2.2.2.1), I ((l[i]).2.2.2.2)]) vt113 .v ?_; refine VO.shut [(4, .p y113 (l[i]))] (.cons rfl (.var m0 .refl) .nil) ?_; refine VO.go (VC.seq (VC.seq (VC.text ?_))); refine VO.c (.fa (.l .o)) ?_; refine VO.r (.ld vt9) ?_; refine VO.call rfl rfl (VF.call (rNameE_ok )) ?_; refine VO.c (.assign rfl) ?_; refine VO.go (VC.seq (VC.text ?_)); refine VO.c (.move rfl) (VO.c (.neq) (VO.go ?_)); refine VC.condD rfl (fun c8 => ?_) (fun c8 => ?_)
    · refine VC.seq (VC.text ?_); refine VO.c (.move rfl) (VO.c (.assign rfl) (VO.go ?_)); refine VC.ret ?_; exact VEnd.one rfl evT (pvI (by rw [ships_r c1 hw hlt (by rw [hx, shp_1 c8]; exact c8), hx, shp_1 c8]))
    have hn := Classical.not_not.1 c8; refine VC.skip (VC.seq (VC.seq (VC.text ?_))); refine VO.c (.assign rfl) ?_; refine VO.go (VC.block ?_); refine VC.keep [(0, .v y57 l), (3, I ((i : Nat) : Int)), (4, .p y113 (l[i])), (6, I ((0 : Nat) : Int))] ⟨rfl, rfl, rfl, rfl, trivial⟩ ?_; refine VC.loop (I := fun kk ff ss => ∃ (k : Nat), kk = i - k ∧ ff = [(0, .v y57 l), (3, I ((i : Nat) : Int)), (4, .p y113 (l[i])), (6, I ((k : Nat) : Int))] ∧ ss = [] ∧ (k ≤ i) ∧ (∀ j (hj : j < l.length), j < k → l[j].1 ≠ l[i].1)) ?_ _ _ _ ⟨0, rfl, rfl, rfl, Nat.zero_le _, (by intro j hj h; omega)⟩; rintro kk ff ss ⟨k, hk2, rfl, rfl, hk, hq⟩; refine VC.seq (VC.seq (VC.text ?_)); refine VO.c (.move rfl) (VO.c (.move rfl) (VO.c (.lss) (VO.go ?_))); refine VC.condD rfl (fun c11 => ?_) (fun c11 => ?_)
    · refine VC.skip (VC.seq (VC.block (VC.seq (VC.drawn ?_)))); refine VD.c (.move rfl) (VD.c (.move rfl) (VD.c (.ix (j := k) rfl rfl el57 (by omega)) (VD.c (.fa (.l .o)) ?_))); refine VD.r [] (.ld vt9) (.inl rfl) ?_; refine VD.c (.fa (.l .o)) (VD.nw [] ?_); refine VD.r [] (.ld vt9) (.inl rfl) ?_; refine VD.c (.seql) (VD.go ?_); refine VC.condD rfl (fun c13 => ?_) (fun c13 => ?_)
      · have h9 : shpX l[i] (twiS l i l[i].1) = 9 := by rw [twiS_f (show k < i by omega) hlt c13]; exact shp_2 hn
        refine VC.seq (VC.text ?_); refine VO.c (.assign rfl) (VO.go ?_); refine VC.ret ?_; exact VEnd.one rfl evT (pvI (by rw [ships_r c1 hw hlt (by rw [hx, h9]; decide), hx, h9]))
      refine VC.skip (VC.text ?_); refine VO.c (.move rfl) (VO.c (.add rfl rfl (by omega)) (VO.c (.assign rfl) ?_)); refine VO.nil ?_; refine ⟨_, [(0, .v y57 l), (3, I ((i : Nat) : Int)), (4, .p y113 (l[i])), (6, I (((k + 1) : Nat) : Int))], ?_, ⟨rfl, rfl, rfl, rfl, trivial⟩, (k + 1), rfl, rfl, rfl, (by omega), (by intro j hj h; rcases Nat.lt_succ_iff_lt_or_eq.1 h with h | h; exact hq j hj h; subst h; exact c13)⟩; omega
    have h8 : shpX l[i] (twiS l i l[i].1) = firstE [rangeE l[i].2.1 0 100000, rangeE l[i].2.2.1 1 1000, rangeE l[i].2.2.2.1 0 1, rangeE l[i].2.2.2.2 1 1000] := by rw [twiS_n hlt fun j hj h => hq j hj (by omega)]; exact shp_3 hn
    refine VC.exit (VC.seq (VC.drawn ?_)); refine VD.c (.fa (.r (.l .o))) ?_; refine VD.r [] (.ld vt3) (.inl rfl) ?_; refine VD.call rfl rfl (VF.call (rTime_ok )) ?_; refine VD.c (.fa (.r (.r (.l .o)))) ?_; refine VD.r [] (.ld vt3) (.inl rfl) ?_; refine VD.call rfl rfl (VF.call (rCheckRange_ok )) ?_; refine VD.nw [] (VD.c (.fa (.r (.r (.r (.l .o))))) ?_); refine VD.r [] (.ld vt3) (.inl rfl) ?_; refine VD.call rfl rfl (VF.call (rCheckRange_ok )) ?_; refine VD.c (.fa (.r (.r (.r (.r .o))))) ?_; refine VD.r [] (.ld vt3) (.inl rfl) ?_; refine VD.call rfl rfl (VF.call (rCheckRange_ok )) ?_; refine VD.new (.lit [rangeE ((l[i]).2.1) 0 100000, rangeE ((l[i]).2.2.1) (1 : Int) (1000 : Int), rangeE ((l[i]).2.2.2.1) (0 : Int) (1 : Int), rangeE ((l[i]).2.2.2.2) (1 : Int) (1000 : Int)] el25) ?_; refine VD.nw [52] ?_; refine VD.callO rfl rfl (VF.call (rFirst_ok (by simp))) ?_; refine VD.c (.assign rfl) ?_; refine VD.go (VC.seq (VC.text ?_)); refine VO.c (.move rfl) (VO.c (.neq) (VO.go ?_)); refine VC.condD rfl (fun c16 => ?_) (fun c16 => ?_)
    · refine VC.seq (VC.text ?_); refine VO.c (.move rfl) (VO.c (.assign rfl) (VO.go ?_)); refine VC.ret ?_; exact VEnd.one rfl evT (pvI (by rw [ships_r c1 hw hlt (by rw [hx, h8]; exact c16), hx, h8]))
    refine VC.skip (VC.text ?_); refine VO.c (.move rfl) (VO.c (.add rfl rfl (by omega)) (VO.c (.assign rfl) ?_)); refine VO.nil ?_; refine ⟨_, [(0, .v y57 l), (3, I (((i + 1) : Nat) : Int))], ?_, ⟨rfl, rfl, trivial⟩, (i + 1), rfl, rfl, rfl, (by omega), (by rw [hw, firstR_step hlt, if_pos (by rw [hx, h8]; exact Classical.not_not.1 c16)])⟩; omega
  refine VC.exit (VC.seq (VC.text ?_)); refine VO.c (.assign rfl) (VO.go ?_); refine VC.ret ?_; exact VEnd.one rfl evT (pvI (by rw [shpsE, if_neg c1, hw, firstR_end (by omega)]))
def lockE (l : List Shp) (turn clear : Int) : Int := firstE [shpsE l, rangeE turn 0 1000, rangeE clear 0 100000]
theorem cLockC_ok {x : (List (ByteArray × Int × Int × Int × Int)) × Int × Int} (hl : x.1.length < 100000) : VF Tryz.prog OA 117 [.v y168 x] (I (lockE x.1 x.2.1 x.2.2)) := by
  refine VF.enter Tryz.func117 rfl (fun _ _ => rfl) rfl ?_; show VC _ _ _ _ _ [(0, .v y168 x)] [] _; refine VC.seq (VC.text ?_); refine VO.new (.box) ?_; refine VO.c (.assign rfl) ?_; refine VO.go (VC.seq (VC.drawn ?_)); refine VD.c (.fa (.l .o)) ?_; refine VD.r [] (.ld vt62) (.inl rfl) ?_; refine VD.call rfl rfl (VF.call (cShips_ok hl)) ?_; refine VD.c (.fa (.r (.l .o))) ?_; refine VD.r [] (.ld vt3) (.inl rfl) ?_; refine VD.call rfl rfl (VF.call (cWithin_ok )) ?_; refine VD.nw [] (VD.c (.fa (.r (.r .o))) ?_); refine VD.r [] (.ld vt3) (.inl rfl) ?_; refine VD.call rfl rfl (VF.call (cTime_ok )) ?_; refine VD.new (.lit [shpsE x.1, rangeE x.2.1 (0 : Int) (1000 : Int), rangeE x.2.2 0 100000] el154) ?_; refine VD.callO rfl rfl (VF.call (cFirst_ok (by simp))) ?_; refine VD.c (.assign rfl) (VD.go ?_); refine VC.ret ?_; exact VEnd.one rfl evT (pvI (by rfl))
def shortS (l : List Shp) : Bool := decide ((∀ x ∈ l, x.1.size ≤ 40) ∧ (l.length ≤ 5 ∨ l.length = 9))
theorem shortS_f {l : List Shp} {i : Nat} (hi : i < l.length) (h : (40 : Int) < ((l[i].1.size : Nat) : Int)) : false = shortS l := (decide_eq_false fun hh => by have := hh.1 _ (List.getElem_mem hi); omega).symm
theorem rShortS_ok {l : List (ByteArray × Int × Int × Int × Int)} (hl : l.length ≤ 9223372036854775807) : VF Tryz.prog OA 40 [.v y57 l] (B (shortS l)) := by
  refine VF.enter Tryz.func40 rfl (fun _ _ => rfl) rfl ?_; show VC _ _ _ _ _ [(0, .v y57 l)] [] _; refine VC.seq (VC.text ?_); refine VO.c (.assign rfl) ?_; refine VO.go (VC.seq (VC.seq (VC.text ?_))); refine VO.c (.assign rfl) ?_; refine VO.go (VC.block ?_); refine VC.keep [(0, .v y57 l), (3, I ((0 : Nat) : Int))] ⟨rfl, rfl, trivial⟩ ?_; refine VC.loop (I := fun kk ff ss => ∃ (i : Nat), kk = l.length - i ∧ ff = [(0, .v y57 l), (3, I ((i : Nat) : Int))] ∧ ss = [] ∧ (i ≤ l.length) ∧ (∀ j (hj : j < l.length), j < i → l[j].1.size ≤ 40)) ?_ _ _ _ ⟨0, rfl, rfl, rfl, Nat.zero_le _, (by intro j hj h; omega)⟩; rintro kk ff ss ⟨i, hk0, rfl, rfl, hi, hn⟩; refine VC.seq (VC.seq (VC.text ?_)); refine VO.c (.move rfl) (VO.c (.move rfl) ?_); refine VO.r (.len el57) ?_; refine VO.c (.lss) (VO.go ?_); refine VC.condD rfl (fun c2 => ?_) (fun c2 => ?_)
  · refine VC.skip (VC.seq (VC.block (VC.seq (VC.text ?_)))); refine VO.c (.move rfl) (VO.c (.move rfl) (VO.c (.ix (j := i) rfl rfl el57 (by omega)) (VO.c (.fa (.l .o)) ?_))); refine VO.r (.ld vt9) ?_; refine VO.r (.lenS) ?_; refine VO.c (.gtr) (VO.go ?_); refine VC.condD rfl (fun c4 => ?_) (fun c4 => ?_)
    · refine VC.seq (VC.text ?_); refine VO.c (.assign rfl) (VO.go ?_); refine VC.ret ?_; exact VEnd.one rfl evT (pvE (by exact shortS_f (by omega) c4))
    refine VC.skip (VC.text ?_); refine VO.c (.move rfl) (VO.c (.add rfl rfl (by omega)) (VO.c (.assign rfl) ?_)); refine VO.nil ?_; refine ⟨_, [(0, .v y57 l), (3, I (((i + 1) : Nat) : Int))], ?_, ⟨rfl, rfl, trivial⟩, (i + 1), rfl, rfl, rfl, (by omega), (by intro j hj h; rcases Nat.lt_succ_iff_lt_or_eq.1 h with h | h; exact hn j hj h; subst h; omega)⟩; omega
  refine VC.exit (VC.seq (VC.text ?_)); refine VO.c (.move rfl) ?_; refine VO.r (.len el57) ?_; refine VO.c (.leq) (VO.c (.move rfl) ?_); refine VO.cg (r := decide (((l.length : Nat) : Int) ≤ (5 : Int))) (w := false) [] trivial (fun _ => (.move rfl)) ?_; refine VO.rg (r := decide (((l.length : Nat) : Int) ≤ (5 : Int))) (w := false) [(21, .v y57 l)] ⟨rfl, trivial⟩ (fun _ => (.len el57)) ?_; refine VO.cg (r := decide (((l.length : Nat) : Int) ≤ (5 : Int))) (w := false) [(22, I ((l.length : Nat) : Int))] ⟨rfl, trivial⟩ (fun _ => (.eql)) ?_; refine VO.c (.or) (VO.c (.assign rfl) (VO.go ?_)); refine VC.ret ?_; exact VEnd.one rfl evT (pvE (by rw [shortS, ← Bool.decide_or]; refine decide_eq_decide.2 ⟨fun hh => ⟨fun x hx => ?_, by omega⟩, fun hh => by omega⟩; obtain ⟨j, hj, rfl⟩ := List.getElem_of_mem hx; exact hn j hj (by omega)))
theorem lShips_ok {l : List (ByteArray × Int × Int × Int × Int)} (hl : l.length < 100000) : VF Tryz.prog OA 42 [.v y57 l] (.v y62 l) := by
  refine VF.enter Tryz.func42 rfl (fun _ _ => rfl) rfl ?_; show VC _ _ _ _ _ [(0, .v y57 l)] [] _; refine VC.seq (VC.text ?_); refine VO.c (.assign rfl) ?_; refine VO.go (VC.seq (VC.text ?_)); refine VO.c (.assign rfl) ?_; refine VO.go (VC.seq (VC.seq (VC.text ?_))); refine VO.c (.move rfl) ?_; refine VO.r (.len el57) ?_; refine VO.c (.move rfl) ?_; refine VO.go (VC.block ?_); refine VC.cell0 173 y173 ?_; refine VC.keep [(3, .raw (.slice none 0 0)), (6, .v y57 l), (7, I ((l.length : Nat) : Int)), (8, I ((0 : Nat) : Int))] ⟨rfl, rfl, rfl, rfl, trivial⟩ ?_; refine VC.loop (I := fun kk ff ss => ∃ (i : Nat) (w : Value), kk = l.length - i ∧ ff = [(3, .raw w), (6, .v y57 l), (7, I ((l.length : Nat) : Int)), (8, I ((i : Nat) : Int))] ∧ ss = [(w, .row 173 y173 (l.take i))] ∧ (i ≤ l.length)) ?_ _ _ _ ⟨0, (.slice none 0 0), rfl, rfl, rfl, Nat.zero_le _⟩; rintro kk ff ss ⟨i, w, hk0, rfl, rfl, hi⟩; refine VC.seq (VC.text ?_); refine VO.c (.lss) ?_; refine VO.go (VC.seq ?_); refine VC.condD rfl (fun c3 => ?_) (fun c3 => ?_)
  · refine VC.skip (VC.seq (VC.block (VC.seq (VC.text ?_)))); refine VO.c (.ix (j := i) rfl rfl el57 (by omega)) ?_; refine VO.r (.ld vt113) ?_; refine VO.cell (.alloc zt113) ?_; intro ww3; refine VO.setV (cs' := [St ((l[i]).1), I ((l[i]).2.1), I ((l[i]).2.2.1), I ((l[i]).2.2.2.1), I ((l[i]).2.2.2.2)]) vt113 .v ?_; refine VO.shut [(5, .p y113 (l[i]))] (.cons rfl (.var m0 .refl) .nil) ?_; refine VO.go (VC.text ?_); refine VO.c (.move rfl) ?_; refine VO.r (.ld vt113) ?_; refine VO.new (.lit [l[i]] el62) ?_; refine VO.app rfl rfl el62 el62 (by simp; omega) ?_; intro ww4; refine VO.c (.assign rfl) ?_; refine VO.nil (VC.text ?_); refine VO.c (.add rfl rfl (by omega)) (VO.c (.move rfl) ?_); refine VO.nil ?_; refine ⟨_, [(3, .raw ww4), (6, .v y57 l), (7, I ((l.length : Nat) : Int)), (8, I (((i + 1) : Nat) : Int))], ?_, ⟨rfl, rfl, rfl, rfl, trivial⟩, (i + 1), ww4, rfl, rfl, (by rw [List.take_succ_eq_append_getElem (by omega)]), (by omega)⟩; omega
  refine VC.exit (VC.seq (VC.text ?_)); refine VO.c (.move rfl) (VO.c (.assign rfl) (VO.go ?_)); refine VC.ret ?_; exact VEnd.one rfl (evC (.row m0)) (pvE (by rw [List.take_of_length_le (by omega)]))
theorem lPass_ok {l : List (Int × Int)} (hl : l.length < 100000) : VF Tryz.prog OA 65 [.v y68 l] (.v y59 l) := by
  refine VF.enter Tryz.func65 rfl (fun _ _ => rfl) rfl ?_; show VC _ _ _ _ _ [(0, .v y68 l)] [] _; refine VC.seq (VC.text ?_); refine VO.c (.assign rfl) ?_; refine VO.go (VC.seq (VC.text ?_)); refine VO.c (.assign rfl) ?_; refine VO.go (VC.seq (VC.seq (VC.text ?_))); refine VO.c (.move rfl) ?_; refine VO.r (.len el68) ?_; refine VO.c (.move rfl) ?_; refine VO.go (VC.block ?_); refine VC.cell0 111 y111 ?_; refine VC.keep [(3, .raw (.slice none 0 0)), (6, .v y68 l), (7, I ((l.length : Nat) : Int)), (8, I ((0 : Nat) : Int))] ⟨rfl, rfl, rfl, rfl, trivial⟩ ?_; refine VC.loop (I := fun kk ff ss => ∃ (i : Nat) (w : Value), kk = l.length - i ∧ ff = [(3, .raw w), (6, .v y68 l), (7, I ((l.length : Nat) : Int)), (8, I ((i : Nat) : Int))] ∧ ss = [(w, .row 111 y111 (l.take i))] ∧ (i ≤ l.length)) ?_ _ _ _ ⟨0, (.slice none 0 0), rfl, rfl, rfl, Nat.zero_le _⟩; rintro kk ff ss ⟨i, w, hk0, rfl, rfl, hi⟩; refine VC.seq (VC.text ?_); refine VO.c (.lss) ?_; refine VO.go (VC.seq ?_); refine VC.condD rfl (fun c3 => ?_) (fun c3 => ?_)
  · refine VC.skip (VC.seq (VC.block (VC.seq (VC.text ?_)))); refine VO.c (.ix (j := i) rfl rfl el68 (by omega)) ?_; refine VO.r (.ld vt128) ?_; refine VO.cell (.alloc zt128) ?_; intro ww5; refine VO.setV (cs' := [I ((l[i]).1), I ((l[i]).2)]) vt128 .v ?_; refine VO.shut [(5, .p y128 (l[i]))] (.cons rfl (.var m0 .refl) .nil) ?_; refine VO.go (VC.text ?_); refine VO.c (.move rfl) ?_; refine VO.r (.ld vt128) ?_; refine VO.new (.lit [l[i]] el59) ?_; refine VO.app rfl rfl el59 el59 (by simp; omega) ?_; intro ww6; refine VO.c (.assign rfl) ?_; refine VO.nil (VC.text ?_); refine VO.c (.add rfl rfl (by omega)) (VO.c (.move rfl) ?_); refine VO.nil ?_; refine ⟨_, [(3, .raw ww6), (6, .v y68 l), (7, I ((l.length : Nat) : Int)), (8, I (((i + 1) : Nat) : Int))], ?_, ⟨rfl, rfl, rfl, rfl, trivial⟩, (i + 1), ww6, rfl, rfl, (by rw [List.take_succ_eq_append_getElem (by omega)]), (by omega)⟩; omega
  refine VC.exit (VC.seq (VC.text ?_)); refine VO.c (.move rfl) (VO.c (.assign rfl) (VO.go ?_)); refine VC.ret ?_; exact VEnd.one rfl (evC (.row m0)) (pvE (by rw [List.take_of_length_le (by omega)]))
end Go.Proofs
