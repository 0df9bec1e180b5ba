/- Parts of the proof: an evaluator of the model, what it is sound for, and contracts of functions. No condition. -/
import Derived.Test.YthiofhkndpegjaaGreatDoorP4
import Derived.Test.YthiofhkndpegjaaGreatDoorP3
import Derived.Laws.Strings
import Derived.Test.YthiofhkndpegjaaGreatDoorP2
import Ieee.Arith
import Derived.Sort.AssemblyPlain
import Derived.Shelf.SlSortCmp.InsertionK
import Derived.Test.YthiofhkndpegjaaGreatDoorChecked
set_option linter.all false
namespace Go.Fs
variable {P : Program} {orc : FuncId → List Value → Heap → Option (Value × Heap)} {h : Heap} {σ : Sto} {fl : VL} {n i mem : Nat} {l : List Oper} {K : VL → Sto → Prop} {ops : Array Oper} {bs nw0 : List Nat} {tail so : Bool}
theorem VD.nw (nw1 : List Nat) (hk : VD P orc ops n l i fl nw1 σ so bs mem tail K) (he : nw0 = nw1 := by rfl) : VD P orc ops n l i fl nw0 σ so bs mem tail K := he ▸ hk
theorem VF.oracle {f : FuncId} {τ : Ty} {dv : τ.den} {v : Value} (ho : ∀ h : Heap, orc f [] h = some (v, h)) (hv : ∀ (h : Heap) (S : List Nat), RepPV h S (.v τ dv) v) : VF P orc f [] (.v τ dv) := fun h S us hok hS hr => by
  obtain rfl : us = [] := by
    cases us with
    | nil => rfl
    | cons a r => cases hr
  exact EvF.oracle (ho h) ⟨Aft.refl _ _, hv h S, fun _ => rfl⟩
end Go.Fs
namespace Go.Fs
variable {P : Program} {h : Heap} {S : List Nat}
def eqF (E : Ty → TypeId → Bool) : List Field → Nat → Ty → Bool
  | [], _, .unit => true
  | f :: r, o, .pair a b => (!(f.name == "_") && Nat.beq f.offset o && E a f.type && eqF E r (o + a.size) b) || (r.isEmpty && !(f.name == "_") && Nat.beq f.offset o && E (.pair a b) f.type)
  | [f], o, τ => !(f.name == "_") && Nat.beq f.offset o && E τ f.type
  | _, _, _ => false
def eqV (P : Program) : Nat → Ty → TypeId → Bool
  | 0, _, _ => false
  | d + 1, τ, T => valB P T τ && match P.underlying T, τ with
    | some (.int k), .int k' => k == k'
    | some .bool, .bool => true
    | some .string, .str => true
    | some (.struct fs), .pair a b => !P.stoodInHeld T && eqF (eqV P d) fs.toList 0 (.pair a b)
    | _, _ => false
theorem bytes_beq_t {x y : ByteArray} (he : x = y) : (x == y) = true := by
  subst he
  show (x.data == x.data) = true
  simp
theorem bytes_beq_f {x y : ByteArray} (he : ¬ x = y) : (x == y) = false := by
  show (x.data == y.data) = false
  simp only [beq_eq_false_iff_ne, ne_eq]
  exact fun hd => he (ByteArray.ext hd)
theorem size_noagg {τ : Ty} (h : τ.agg = false) : τ.size = 1 := by cases τ <;> first | rfl | cases h
theorem part_rep {T : TypeId} {τ : Ty} (hT : ValT P T τ) {cs : Array Value} {o : Nat} {x : τ.den} (hr : RepC h S τ ((cs.toList.drop o).take τ.size) x) : ∃ v, runPure P (part T cs o) = some v ∧ RepV h S τ v x := by
  obtain ⟨i, hi, hsz⟩ := hT.info
  obtain ⟨d, hd, hag⟩ := hT.agg
  have hA : runPure P (isAgg T) = some τ.agg := by
    unfold isAgg
    rw [runPure_bind, runPure_underlying hd, ← hag]
    cases d <;> rfl
  unfold part
  rw [runPure_bind, hA]
  simp only [Option.bind_some]
  cases hga : τ.agg with
  | true =>
    simp only [if_true]
    rw [runPure_bind, runPure_sizeOf hi]
    refine ⟨_, rfl, hga.symm, ?_⟩
    show RepC h S τ (cs.extract o (o + i.size)).toList x
    rw [hsz, Array.toList_extract]
    simpa [List.extract_eq_take_drop] using hr
  | false =>
    simp only [Bool.false_eq_true, if_false]
    obtain ⟨v, h1, h2⟩ := RepC.one hga hr
    have h3 : cs[o]? = some v := by
      have := congrArg (fun l => l[0]?) h1
      simp only [size_noagg hga] at this
      simpa using this
    rw [h3]
    exact ⟨v, rfl, h2⟩
theorem fields_eq {E : Ty → TypeId → Bool} {n : Nat} {cs ds : Array Value} (hE : ∀ τ T, E τ T = true → ValT P T τ ∧ ∀ (u v : Value) (x y : τ.den) (inst : Decidable (x = y)), RepV h S τ u x → RepV h S τ v y → runPure P (Op.equalIn n T u v) = some (@decide (x = y) inst)) :
    ∀ (l : List Field) (o : Nat) (τ : Ty) (x y : τ.den) (inst : Decidable (x = y)), eqF E l o τ = true → RepC h S τ (cs.toList.drop o) x → RepC h S τ (ds.toList.drop o) y →
    runPure P (forIn l (none, ()) fun f __s =>
            if f.name ≠ "_" then do
              let __do_lift ← part f.type cs f.offset
              let __do_lift_1 ← part f.type ds f.offset
              let __do_lift ← Op.equalIn n f.type __do_lift __do_lift_1
              if (!__do_lift) = true then pure (ForInStep.done (some false, ())) else pure (ForInStep.yield (none, ()))
            else pure (ForInStep.yield (none, ()))) = some (if x = y then ((none : Option Bool), ()) else (some false, ())) := by
  intro l
  have key : ∀ (f : Field) (r : List Field) (o : Nat) (τ : Ty) (x y : τ.den) (inst : Decidable (x = y)) (R : Option (Option Bool × Unit)), (!(f.name == "_")) = true → Nat.beq f.offset o = true → E τ f.type = true → RepC h S τ ((cs.toList.drop o).take τ.size) x → RepC h S τ ((ds.toList.drop o).take τ.size) y →
      runPure P (forIn (f :: r) (none, ()) fun f __s =>
            if f.name ≠ "_" then do
              let __do_lift ← part f.type cs f.offset
              let __do_lift_1 ← part f.type ds f.offset
              let __do_lift ← Op.equalIn n f.type __do_lift __do_lift_1
              if (!__do_lift) = true then pure (ForInStep.done (some false, ())) else pure (ForInStep.yield (none, ()))
            else pure (ForInStep.yield (none, ()))) = if x = y then runPure P (forIn r (none, ()) fun f __s =>
            if f.name ≠ "_" then do
              let __do_lift ← part f.type cs f.offset
              let __do_lift_1 ← part f.type ds f.offset
              let __do_lift ← Op.equalIn n f.type __do_lift __do_lift_1
              if (!__do_lift) = true then pure (ForInStep.done (some false, ())) else pure (ForInStep.yield (none, ()))
            else pure (ForInStep.yield (none, ()))) else some (some false, ()) := by
    intro f r o τ x y inst R n1 n2 n3 r1 r2
    obtain ⟨hT, hq⟩ := hE _ _ n3
    obtain ⟨u, u1, u2⟩ := part_rep hT r1
    obtain ⟨v, v1, v2⟩ := part_rep hT r2
    have hn : f.name ≠ "_" := by simpa using n1
    have ho := nbeq n2
    rw [List.forIn_cons]
    simp only [hn, ne_eq, not_false_eq_true, if_true, runPure_bind, ho, u1, v1, Option.bind_some, hq u v x y inst u2 v2]
    by_cases he : x = y <;> simp [he, runPure_pure, runPure_bind]
  induction l with
  | nil =>
    intro o τ x y inst hb hx hy
    cases τ <;> first | (cases hb; done) | skip
    simp [runPure_pure]
  | cons f r ih =>
    intro o τ x y inst hb hx hy
    by_cases hp : (∀ a b, τ ≠ .pair a b) ∨ (r = [] ∧ (!(f.name == "_")) = true ∧ Nat.beq f.offset o = true ∧ E τ f.type = true)
    · have hs : r = [] ∧ (!(f.name == "_")) = true ∧ Nat.beq f.offset o = true ∧ E τ f.type = true := by
        rcases hp with hp | hp
        · cases τ with
          | pair a b => exact absurd rfl (hp a b)
          | _ =>
            cases r with
            | cons f' r => cases hb
            | nil =>
              obtain ⟨n1, n3⟩ := band (show (!(f.name == "_") && Nat.beq f.offset o && E _ f.type) = true from hb)
              obtain ⟨n1, n2⟩ := band n1
              exact ⟨rfl, n1, n2, n3⟩
        exact hp
      obtain ⟨rfl, n1, n2, n3⟩ := hs
      rw [key f [] o τ x y inst none n1 n2 n3 (by rw [List.take_of_length_le (Nat.le_of_eq hx.len)]; exact hx) (by rw [List.take_of_length_le (Nat.le_of_eq hy.len)]; exact hy)]
      by_cases he : x = y <;> simp [he, runPure_pure]
    cases τ with
    | pair a b =>
      have hb2 : ((!(f.name == "_") && Nat.beq f.offset o && E a f.type && eqF E r (o + a.size) b) || (r.isEmpty && !(f.name == "_") && Nat.beq f.offset o && E (.pair a b) f.type)) = true := hb
      rcases Bool.or_eq_true_iff.1 hb2 with h1 | h1
      · obtain ⟨h1, n4⟩ := band h1
        obtain ⟨h1, n3⟩ := band h1
        obtain ⟨n1, n2⟩ := band h1
        have hd := Classical.propDecidable (x.1 = y.1)
        have hd2 := Classical.propDecidable (x.2 = y.2)
        rw [key f r o a x.1 y.1 hd none n1 n2 n3 hx.1 hy.1]
        have h2 := ih (o + a.size) b x.2 y.2 hd2 n4 (by rw [← List.drop_drop]; exact hx.2) (by rw [← List.drop_drop]; exact hy.2)
        rw [h2]
        by_cases e1 : x.1 = y.1
        · by_cases e2 : x.2 = y.2
          · rw [if_pos e1, if_pos e2, if_pos (Prod.ext e1 e2)]
          rw [if_pos e1, if_neg e2, if_neg (fun e => e2 (by rw [e]))]
        rw [if_neg e1, if_neg (fun e => e1 (by rw [e]))]
      obtain ⟨h1, n3⟩ := band h1
      obtain ⟨h1, n2⟩ := band h1
      obtain ⟨h1, n1⟩ := band h1
      exact absurd (.inr ⟨by simpa using h1, n1, n2, n3⟩) hp
    | _ => exact absurd (.inl fun _ _ h => by cases h) hp
theorem eqV_ok : ∀ (d : Nat) (τ : Ty) (T : TypeId), eqV P d τ T = true → ∀ (D : Nat) (u v : Value) (x y : τ.den) (inst : Decidable (x = y)), RepV h S τ u x → RepV h S τ v y → runPure P (Op.equalIn (D + d) T u v) = some (@decide (x = y) inst) := by
  intro d
  induction d with
  | zero => intro τ T hb; cases hb
  | succ d ih =>
    intro τ T hb D u v x y inst hu hv
    unfold eqV at hb
    obtain ⟨hvt, hb⟩ := band hb
    cases hU : P.underlying T with
    | none => simp only [hU] at hb; cases hb
    | some dsc =>
      simp only [hU] at hb
      cases τ <;> cases dsc <;> try (cases hb; done)
      · rename_i k _ k'
        obtain rfl : k = k' := by
          have : (k' == k) = true := hb
          exact (by simpa using this : k' = k).symm
        obtain rfl := RepV.int hu
        obtain rfl := RepV.int hv
        rw [show D + (d + 1) = (D + d) + 1 from rfl, Op.equalIn, runPure_bind, runPure_underlying hU]
        simp only [Option.bind_some, if_true]
        show some (_ == _) = _
        by_cases he : x = y <;> simp [he]
      · obtain rfl := RepV.bool hu
        obtain rfl := RepV.bool hv
        rw [show D + (d + 1) = (D + d) + 1 from rfl, Op.equalIn, runPure_bind, runPure_underlying hU]
        simp only [Option.bind_some]
        show some (_ == _) = _
        by_cases he : x = y <;> simp [he]
      · obtain rfl := RepV.str hu
        obtain rfl := RepV.str hv
        rw [show D + (d + 1) = (D + d) + 1 from rfl, Op.equalIn, runPure_bind, runPure_underlying hU]
        simp only [Option.bind_some]
        show some (_ == _) = _
        by_cases he : x = y
        · rw [decide_eq_true he]; exact congrArg some (bytes_beq_t he)
        rw [decide_eq_false he]; exact congrArg some (bytes_beq_f he)
      rename_i a b fs
      obtain ⟨h1, h2⟩ := band hb
      have hs : P.stoodInHeld T = false := by simpa using h1
      obtain ⟨cs, rfl⟩ : ∃ cs, u = .agg cs := by
        have := hu.1
        cases u <;> first | exact ⟨_, rfl⟩ | cases this
      obtain ⟨ds, rfl⟩ : ∃ cs, v = .agg cs := by
        have := hv.1
        cases v <;> first | exact ⟨_, rfl⟩ | cases this
      rw [show D + (d + 1) = (D + d) + 1 from rfl, Op.equalIn]
      rw [runPure_bind, runPure_underlying hU]
      simp only [Option.bind_some, runPure_bind, runPure_program, hs, Bool.false_eq_true, if_false]
      simp only [← Array.forIn_toList]
      have hF := fields_eq (h := h) (S := S) (cs := cs) (ds := ds) (n := D + d) (fun τ T hb => ⟨valT_of ?_, fun u v x y inst => ih τ T hb D u v x y inst⟩) fs.toList 0 _ x y inst h2 hu.2 hv.2
      · rw [hF]
        by_cases he : x = y <;> simp [he, runPure_pure]
      cases d with
      | zero => cases hb
      | succ d => unfold eqV at hb; exact (band hb).1
structure EqT (P : Program) (T : TypeId) (τ : Ty) : Prop where
  eq : eqV P 40 τ T = true
  guard : P.eqGuardType P.depth T = false
  agg : τ.agg = true
  flat : τ.isFlat = true
theorem eqT_of {T : TypeId} {τ : Ty} (hb : (eqV P 40 τ T && !P.eqGuardType P.depth T && τ.agg && τ.isFlat) = true) : EqT P T τ := by
  obtain ⟨h1, h4⟩ := band hb
  obtain ⟨h1, h3⟩ := band h1
  obtain ⟨h1, h2⟩ := band h1
  exact ⟨h1, by simpa using h2, h3, h4⟩
theorem EqT.run {T : TypeId} {τ : Ty} (hT : EqT P T τ) {u v : Value} {x y : τ.den} {inst : Decidable (x = y)} (hu : RepV h S τ u x) (hv : RepV h S τ v y) : runPure P (Op.equal T u v) = some (@decide (x = y) inst) :=
  eqV_ok 40 τ T hT.eq 9960 u v x y inst hu hv
theorem aggOf {τ : Ty} {u : Value} {x : τ.den} (ha : τ.agg = true) (hu : RepV h S τ u x) : ∃ cs, u = .agg cs := by
  have h1 := hu.1.trans ha
  cases u <;> first | exact ⟨_, rfl⟩ | cases h1
variable {fl : VL} {σ : Sto} {x y : Operand} {T T' : TypeId} {τ : Ty}
theorem CalmV.eneq {p q : τ.den} [inst : Decidable (p = q)] (hT : EqT P T τ) (hx : evV fl x = some (.v τ p) := by rfl) (hy : evV fl y = some (.v τ q) := by rfl) : CalmV P fl σ (.binOp .neq T x y T') (.v .bool (decide (p ≠ q))) :=
  .bin hx hy fun h S a c ha hc => by
    have h1 := hT.run (inst := inst) ha hc
    obtain ⟨cs, rfl⟩ := aggOf hT.agg ha
    obtain ⟨ds, rfl⟩ := aggOf hT.agg hc
    refine ⟨.bool (decide (p ≠ q)), RepV.ofBool _, ?_, ?_⟩
    · rw [(RepPV.flat (pv := .v τ p) hT.flat ha).1, (RepPV.flat (pv := .v τ q) hT.flat hc).1]; rfl
    have he : runPure P (eqGuard .neq T x y (.agg cs) (.agg ds)) = some () := by
      unfold eqGuard
      simp [runPure_bind, runPure_program, hT.guard, runPure_pure]
    have hb : runPure P (binOp .neq T (.agg cs) (.agg ds)) = some (.bool (decide (p ≠ q))) := by
      unfold binOp
      simp only [runPure_bind, h1, Option.bind_some, runPure_pure]
      by_cases hpq : p = q <;> simp [hpq]
    unfold purely
    rw [runPure_bind, he]
    simp only [Option.bind_some, hb]; rfl
theorem bytes_list {a b : ByteArray} : (a.toList == b.toList) = decide (a = b) := by
  rw [ByteArray.toList_eq, ByteArray.toList_eq]
  by_cases h : a = b
  · subst h; simp
  rw [decide_eq_false h, beq_eq_false_iff_ne]
  exact fun he => h (ByteArray.ext (Array.toList_inj.1 he))
variable {p q : ByteArray}
theorem CalmV.binS (b : BinOp) {u : Value} {v : PV} (hx : evV fl x = some (.v .str p)) (hy : evV fl y = some (.v .str q)) (hu : runPure P (Op.stringOp b p q) = some u) (hf : af u = true) (hb : ∀ T : TypeId, (do eqGuard b T x y (.string p) (.string q); binOp b T (.string p) (.string q)) = Op.stringOp b p q) (hv : ∀ h S, RepPV h S v u) : CalmV P fl σ (.binOp b T x y T') v :=
  .bin hx hy fun h S a c ha hc => by
    obtain rfl := RepV.str ha
    obtain rfl := RepV.str hc
    refine ⟨u, hv h S, rfl, ?_⟩
    unfold purely
    rw [hb, hu]
    simp only [Option.bind_some, hf, if_true]
theorem CalmV.sneq (hx : evV fl x = some (.v .str p) := by rfl) (hy : evV fl y = some (.v .str q) := by rfl) : CalmV P fl σ (.binOp .neq T x y T') (.v .bool (decide (p ≠ q))) :=
  .binS .neq hx hy (u := .bool (decide (p ≠ q))) (by rw [decide_not, ← bytes_list]; rfl) rfl (fun _ => rfl) fun h S => RepV.ofBool _
end Go.Fs
namespace Go.Fs
variable {P : Program} {fl : VL} {σ γ : Sto} {Q : PV → Sto → Prop} {fn : Func}
end Go.Fs
namespace Go.Fs
variable {P : Program} {orc : FuncId → List Value → Heap → Option (Value × Heap)}
theorem slI {fl : VL} {k : Nat} {κ : IntKind} {a b : Int} (hk : lkV fl k = some (.v (.int κ) a)) (h : a = b) : lkV fl k = some (.v (.int κ) b) := by rw [hk, h]
theorem pvI {κ : IntKind} {a b : Int} (h : a = b) : PV.v (.int κ) a = PV.v (.int κ) b := by rw [h]
section
variable {h0 : Heap} {S0 : List Nat} {σ : Sto} {ms : List Nat} {fl : VL} {ops : Array Oper} {n i mem : Nat} {l : List Oper} {K : VL → Sto → Prop}
  {d : Tmp} {ty : TypeId} {pos : String} {after : Array Edge} {op : Op} {v : PV} {g : Option (Nat × Bool)} {bs nw : List Nat} {tail so : Bool}
theorem VD.co {b : Nat} (hc : CalmV P fl σ op v) (hk : VD P orc ops n l (i + 1) ((d, v) :: fl) (nwSet ((so && oldOp nw op) || v.flat0) d nw) σ so (bs ++ [b]) mem tail K)
    (hb : beforeOf bs ⟨some d, op, ty, pos, after, g⟩ = b := by rfl) (hw : wantV ops fl g = some true := by rfl) (hn : (Nat.blt d n && Nat.ble n 4000) = true := by rfl) :
    VD P orc ops n (⟨some d, op, ty, pos, after, g⟩ :: l) i fl nw σ so bs mem tail K := fun h0 G S0 t h ms segs I ho => by
  obtain ⟨n1, n2⟩ := fits hn
  obtain ⟨u, e1, e2⟩ := hc.2 h (own σ ++ S0) t I.slots.sees I.cells
  refine EvD.op (s' := ⟨t.set depth d u, h, bs ++ [b], segs, mem, tail⟩) ?_ (hk h0 G S0 _ h ms segs (I.set e1 n2) fun ht => (ho ht).set n2 fun hold hs a1 a2 a3 a4 a5 => ?_)
  · unfold fsDraw
    have hwt : fsWanted ops t ⟨some d, op, ty, pos, after, g⟩ = some true := want_ok I.slots hw
    simp only [hwt, hc.1, if_true, e2, Nat.beq_refl, cond_true, put_fits n1, Option.map_some, hb]
  rcases Bool.or_eq_true_iff.1 hold with hold | hold
  · obtain ⟨o1, o2⟩ := band hold
    obtain ⟨u', f1, f2⟩ := hc.2 hs (own σ ++ S0) t (old_op a4 o2) (a5 o1)
    have : u' = u := by
      have g1 := e2 none 0 "" #[] none h
      rw [f2 none 0 "" #[] none h] at g1
      simpa using g1
    rw [← this]; exact f1
  exact (RepPV.flat0 hold e1).2 _ _
end
end Go.Fs
namespace Go.Fs
variable {P : Program} {orc : FuncId → List Value → Heap → Option (Value × Heap)} {rnd : Option Nat} {h h' h0 h1 h2 : Heap} {S S' S0 G : List Nat} {σ σ' σr γ γ' : Sto} {t t' : Tr} {ms : List Nat} {fl nw : VL} {ops : Array Oper} {n i mem : Nat} {l : List Oper} {K : VL → Sto → Prop} {Q : Ex → VL → Sto → Prop}
  {d : Tmp} {ty : TypeId} {pos : String} {after : Array Edge} {op : Op} {v pv : PV} {g : Option (Nat × Bool)} {bs nw0 : List Nat} {tail so : Bool}
inductive ShutL (fl : VL) (γ : Sto) : VL → Prop where
  | nil : ShutL fl γ []
  | cons {k : Nat} {p p' : PV} {r : VL} (hk : lkV fl k = some p) (hc : Co γ p p') (hr : ShutL fl γ r) : ShutL fl γ ((k, p') :: r)
end Go.Fs
namespace Go.Fs
variable {P : Program} {orc : FuncId → List Value → Heap → Option (Value × Heap)} {fl : VL} {σ γ : Sto} {T : TypeId} {τ : Ty}
end Go.Fs
namespace Go.Fs
variable {P : Program} {fl : VL} {σ γ : Sto} {Q : PV → Sto → Prop} {fn : Func}
variable {p q r : ByteArray}
variable {x y : Operand} {T T' : TypeId}
end Go.Fs
namespace Go.Fs
variable {P : Program} {orc : FuncId → List Value → Heap → Option (Value × Heap)} {rnd : Option Nat} {h h' h0 h1 h2 : Heap} {S S' S0 : List Nat} {σ σ' : Sto} {t t' : Tr} {ms : List Nat} {fl : VL} {ops : Array Oper} {n i mem : Nat} {l : List Oper} {K : VL → Sto → Prop}
  {d : Tmp} {ty : TypeId} {pos : String} {after : Array Edge} {op : Op} {v pv : PV} {g : Option (Nat × Bool)} {x y z : Operand} {T T' e : TypeId} {τ τ' : Ty}
inductive FnL : List PV → List PV → Prop where
  | nil : FnL [] []
  | same {p : PV} {l l' : List PV} (hl : FnL l l') : FnL (p :: l) (p :: l')
  | fn {f : FuncId} {l l' : List PV} (hl : FnL l l') : FnL (.clo f [] [] :: l) (.v .fn (some f) :: l')
end Go.Fs
namespace Go.Fs
variable {P : Program} {orc : FuncId → List Value → Heap → Option (Value × Heap)} {rnd : Option Nat} {h h' h0 h1 h2 hr : Heap} {S S' S0 B G A : List Nat} {σ σ' σr ρ : Sto} {t t' : Tr} {ms : List Nat} {fl : VL} {ops : Array Oper} {n i mem : Nat} {l : List Oper} {K : VL → Sto → Prop} {Q : Ex → VL → Sto → Prop}
  {d : Tmp} {ty : TypeId} {pos : String} {after : Array Edge} {op : Op} {v pv : PV} {g : Option (Nat × Bool)} {x y z : Operand} {T T' e : TypeId} {τ τ' : Ty} {bs nw rd chg : List Nat} {segs : List (Nat × Nat × Nat)} {tail tl : Bool} {w w' : Value}

section
variable (P orc)
end
structure Late (hr h : Heap) (S0 A : List Nat) (σ ρ : Sto) (t : Tr) (fl : VL) (nw rd chg : List Nat) : Prop where
  ok : HOk hr
  lt : ∀ b ∈ A ++ S0, b < hr.next
  next : hr.next ≤ h.next
  goes : Goes hr (A ++ S0) h (own σ ++ S0)
  slots : ∀ k pv, lkV fl k = some pv → nwHas nw k = false → RepPV hr (A ++ S0) pv (t.get k)
  suf : ∃ σ1, σ = σ1 ++ ρ
  cells : ∀ c ∈ ρ, CellR hr (A ++ S0) c.1 c.2
  fix : ∀ b ∈ own ρ, b ∈ A
  new : ∀ b ∈ own σ, b ∈ A ∨ hr.next ≤ b
  rd : ∀ b ∈ rd, b < hr.next ∧ (b ∈ own ρ ∨ b ∉ A)
  chg : ∀ k ∈ chg, k ∉ own ρ ∧ (k ∈ A ∨ hr.next ≤ k)
section
variable (P orc)
end
end Go.Fs
namespace Ieee

namespace Format
variable (f : Format)
end Format
end Ieee
namespace Ieee
def sg (s : Bool) (r : Nat) : Int := if s then -(r : Int) else r
namespace Format
variable (f : Format)
def units (x : Nat) : Option Int := match f.read x with
  | .number s m p => some (sg s (m * 2 ^ (p - f.leastPlace).toNat))
  | _ => none
variable {f}
end Format
end Ieee
namespace Ieee
namespace Format
variable {f g : Format}
end Format
end Ieee
namespace Ieee
open Format
end Ieee
namespace Ieee
open Format
end Ieee
namespace Go.Fs
variable {P : Program} {h : Heap} {S : List Nat} {σ : Sto} {t : Tr} {fl : VL} {x y : Operand} {T T' : TypeId} {v pv : PV} {k k' : FloatKind} {p q : Nat}

end Go.Fs
namespace Go.Fs
variable {P : Program} {orc : FuncId → List Value → Heap → Option (Value × Heap)} {rnd : Option Nat} {h h' h0 h1 h2 : Heap} {S S' S0 B G : List Nat} {σ σ' : Sto} {t t' : Tr} {ms : List Nat} {fl : VL} {ops : Array Oper} {n : Nat} {l : List Oper} {K : VL → Sto → Prop} {Q : Ex → VL → Sto → Prop}
  {d : Tmp} {ty : TypeId} {pos : String} {after : Array Edge} {op : Op} {v pv : PV} {g : Option (Nat × Bool)} {x y z : Operand} {T T' e : TypeId} {κ ν : Ty} {w : Value}

section
variable {α β : Type} [DecidableEq α]
end

structure KeyT (P : Program) (K : TypeId) (κ : Ty) : Prop where
  flat : κ.isFlat = true
  und : ∃ td, P.underlying K = some td ∧ ((∀ {h : Heap} {S : List Nat} (u v : Value) (x y : κ.den) (inst : Decidable (x = y)), RepV h S κ u x → RepV h S κ v y → Instr.sameNow td u v = some (@decide (x = y) inst)) ∨
    ((∀ u v, Instr.sameNow td u v = none) ∧ ∀ {h : Heap} {S : List Nat} (u v : Value) (x y : κ.den) (inst : Decidable (x = y)), RepV h S κ u x → RepV h S κ v y → runPure P (Op.equal K u v) = some (@decide (x = y) inst)))
  chk : ∀ {h : Heap} {S : List Nat} (em : Bool) (u : Value) (x : κ.den), RepV h S κ u x → (runPure P (Instr.checkKey em 10000 K u)).isSome = true
  bits : ∀ {h : Heap} {S : List Nat} (u : Value) (x : κ.den), RepV h S κ u x → Instr.sameBits 10000 u u = true
structure MapT (P : Program) (T : TypeId) (κ ν : Ty) : Prop where
  key : ∃ K E, P.underlying T = some (.map K E) ∧ KeyT P K κ ∧ ZerT P E ν

section
variable [DecidableEq κ.den] {k : κ.den} {kvs : List (κ.den × ν.den)}
end
end Go.Fs
namespace Go.Fs
variable {P : Program} {orc : FuncId → List Value → Heap → Option (Value × Heap)} {h : Heap} {S : List Nat} {σ : Sto} {t : Tr} {fl : VL} {x y : Operand} {T T' : TypeId} {v pv : PV} {k k' : FloatKind} {p q : Nat}
end Go.Fs
namespace Ieee
open Format
end Ieee
namespace Go.Fs
variable {P : Program} {orc : FuncId → List Value → Heap → Option (Value × Heap)} {rnd : Option Nat} {h : Heap} {S : List Nat} {σ : Sto} {t : Tr} {fl : VL} {x y : Operand} {T : TypeId} {n : Nat} {τ τ' : Ty} {Q : Ex → VL → Sto → Prop}
def aofB (P : Program) (T : TypeId) (j k : Nat) (τ' : Ty) : Bool :=
  match P.underlying T with
  | some (.array n e) => match P.info? e with
    | some i => Nat.blt j n && Nat.beq k (j * i.size) && valB P e τ'
    | none => false
  | _ => false
theorem aofB_inv {j k : Nat} (hb : aofB P T j k τ' = true) : ∃ m e i, P.underlying T = some (.array m e) ∧ P.info? e = some i ∧ j < m ∧ k = j * i.size ∧ ValT P e τ' := by
  unfold aofB at hb
  split at hb
  · rename_i m e hu
    split at hb
    · rename_i i hi
      obtain ⟨h1, h2⟩ := band hb
      obtain ⟨h3, h4⟩ := band h1
      exact ⟨m, e, i, hu, hi, nblt h3, nbeq h4, valT_of h2⟩
    cases hb
  cases hb
theorem CalmV.ixP (j : Nat) {k : Nat} {dx : τ.den} {dy : τ'.den} (hs : Sub τ dx k τ' dy) (hb : aofB P T j k τ' = true := by kernel_rfl) (hx : evV fl x = some (.p τ dx) := by rfl) (hy : evV fl y = some (.v (.int .i64) ((j : Nat) : Int)) := by rfl) : CalmV P fl σ (.indexAddr T x y) (.p τ' dy) :=
  ⟨rfl, fun h S t hq _ => by
    have hp : RepP h S τ (evalO t x) dx := hq x (by simp [Op.operands]) _ hx
    have hi : evalO t y = .int .i64 ((j : Nat) : Int) := RepV.int (hq y (by simp [Op.operands]) _ hy : RepV h S (.int .i64) _ ((j : Nat) : Int))
    obtain ⟨m, e, i, u1, u2, u3, u4, u5⟩ := aofB_inv hb
    obtain ⟨b', o, e', rs, own, more, h1, h2, h3, h4, h5⟩ := hp
    refine ⟨.pointer (some ⟨b', o + k, none⟩), ?_, fun _ _ _ _ _ H => ?_⟩
    · obtain ⟨h6, h7⟩ := hs.repC h5
      rw [List.length_take, List.length_drop] at h6
      refine ⟨b', o + k, e', rs, own, more, rfl, h2, h3, by omega, ?_⟩
      rw [List.drop_take, List.take_take, List.drop_drop, Nat.min_eq_left (by omega)] at h7
      exact h7
    show (if af (evalO t y) then (runPure P (Instr.indexAt T (evalO t x) (evalO t y))).map _ else none) = _
    rw [hi, h1, if_pos (show af (Value.int .i64 ((j : Nat) : Int)) = true from rfl)]
    have h6 : (0 : Int) ≤ ((j : Nat) : Int) ∧ ((j : Nat) : Int) < (m : Nat) := by omega
    have h7 : runPure P (Instr.indexAt T (.pointer (some ⟨b', o, none⟩)) (.int .i64 ((j : Nat) : Int))) = some (.pointer (some ⟨b', o + k, none⟩)) := by
      unfold Instr.indexAt
      simp only [runPure_bind, asIntOf, runPure_pure, Option.bind_some, runPure_underlying u1, Instr.sureAddr, if_pos h6, runPure_sizeOf u2, add_none, Int.toNat_natCast, u4]
    rw [h7]; rfl⟩
section
variable {T' : TypeId}
end
end Go.Fs
namespace Go.Fs
variable {P : Program} {orc : FuncId → List Value → Heap → Option (Value × Heap)} {rnd : Option Nat} {h h' h0 h1 h2 : Heap} {S S' S0 B G : List Nat} {σ σ' : Sto} {t t' : Tr} {ms : List Nat} {fl nw : VL} {ops : Array Oper} {n : Nat} {l : List Oper} {K : VL → Sto → Prop} {Q : Ex → VL → Sto → Prop}
  {d : Tmp} {ty : TypeId} {pos : String} {after : Array Edge} {op : Op} {v pv : PV} {g : Option (Nat × Bool)} {x y z : Operand} {T T' e : TypeId} {w : Value} {s : ByteArray} {p : Nat}

theorem FreshO.rng (hT : P.underlying T = some .string := by kernel_rfl) (hx : evV fl x = some (.v .str s) := by rfl) : FreshO P fl (.range T x) (.it s 0) :=
  ⟨rfl, fun h S t hs hok hS => by
    have hv : evalO t x = .string s := RepV.str (hs x (by simp [Op.operands]) _ hx : RepV h S .str _ s)
    refine ⟨fun k => .pointer (some ⟨k, 0, none⟩), .iter s 0, fun _ => rfl, fun S' hN hm => ⟨h.next, rfl, hm, by rw [Heap.get_push, if_pos rfl]⟩, fun H _ _ _ _ _ => ?_⟩
    show fsRange P T (evalO t x) H = _
    rw [hv]
    simp [fsRange, hT]⟩
theorem MakeV.nextT (hp : p < s.size) (hx : evV fl x = some (.raw w)) : MakeV P fl ((w, .it s p) :: σ) (.next x true) fun v σ' => v = .tup [.v .bool true, .v (.int .i64) ((p : Nat) : Int), .v (.int .i32) (((Utf8.decode s p).1 : Nat) : Int)] ∧ σ' = (w, .it s (p + (Utf8.decode s p).2)) :: σ :=
  ⟨rfl, fun S0 h t L => by
    have h1 : evalO t x = w := evV_ok L.slots hx
    obtain ⟨b, h3, h4, hg⟩ := L.cells _ List.mem_cons_self
    have hw : w = .pointer (some ⟨b, 0, none⟩) := h3
    have hbk : blk w = [b] := by rw [hw]; rfl
    refine ⟨.tuple #[.bool true, .int .i64 ((p : Nat) : Int), .int .i32 (((Utf8.decode s p).1 : Nat) : Int)], h.set b (.iter s (p + (Utf8.decode s p).2)), _, _, ⟨rfl, rfl⟩, Made.head L (Aft.set hg (by rw [hbk]; simp)) (fun b hb => .inl hb) (by rw [hbk]; simp) fun hN => ?_, ?_, fun _ _ _ _ _ => ?_⟩
    · refine ⟨b, h3, ?_, by rw [Heap.get_set hg, if_pos rfl]⟩
      rw [own_cons]; exact List.mem_append_left _ (List.mem_append_left _ (by rw [hbk]; simp))
    · exact ⟨_, rfl, _, _, rfl, RepV.ofBool _, _, _, rfl, RepV.ofInt _ _, _, _, rfl, RepV.ofInt _ _, rfl⟩
    show fsNext (evalO t x) true h = _
    rw [h1, hw]
    simp [fsNext, hg, hp]⟩
theorem MakeV.nextF (hp : ¬ p < s.size) (hx : evV fl x = some (.raw w)) : MakeV P fl ((w, .it s p) :: σ) (.next x true) fun v σ' => v = .tup [.v .bool false] ∧ σ' = (w, .it s p) :: σ :=
  ⟨rfl, fun S0 h t L => by
    have h1 : evalO t x = w := evV_ok L.slots hx
    obtain ⟨b, h3, h4, hg⟩ := L.cells _ List.mem_cons_self
    have hw : w = .pointer (some ⟨b, 0, none⟩) := h3
    refine ⟨.tuple #[.bool false], h, _, _, ⟨rfl, rfl⟩, Made.same L (Aft.refl h []), ⟨_, rfl, _, _, rfl, RepV.ofBool _, rfl⟩, fun _ _ _ _ _ => ?_⟩
    show fsNext (evalO t x) true h = _
    rw [h1, hw]
    simp [fsNext, hg, hp]⟩
theorem VO.next (hx : evV fl x = some (.raw w)) (h1 : p < s.size → VO P orc ops n l ((d, .tup [.v .bool true, .v (.int .i64) ((p : Nat) : Int), .v (.int .i32) (((Utf8.decode s p).1 : Nat) : Int)]) :: fl) ((w, .it s (p + (Utf8.decode s p).2)) :: σ) K) (h2 : ¬ p < s.size → VO P orc ops n l ((d, .tup [.v .bool false]) :: fl) ((w, .it s p) :: σ) K)
    (hw : wantV ops fl g = some true := by rfl) (hn : (Nat.blt d n && Nat.ble n 4000) = true := by rfl) : VO P orc ops n (⟨some d, .next x true, ty, pos, after, g⟩ :: l) fl ((w, .it s p) :: σ) K := by
  by_cases hp : p < s.size
  · exact VO.mk (MakeV.nextT hp hx) (by rintro _ _ ⟨rfl, rfl⟩; exact h1 hp) hw hn
  exact VO.mk (MakeV.nextF hp hx) (by rintro _ _ ⟨rfl, rfl⟩; exact h2 hp) hw hn
theorem CalmV.ext0 {b : Bool} (hx : evV fl x = some (.tup [.v .bool b]) := by rfl) : CalmV P fl σ (.extract x 0) (.v .bool b) := ⟨rfl, fun h S t hs _ => by
  obtain ⟨us, h1, u, r, rfl, h2, h3⟩ := (hs x (by simp [Op.operands]) _ hx : RepPV h S (.tup [.v .bool b]) _)
  obtain rfl : r = [] := h3
  have hu : u = .bool b := RepV.bool h2
  subst hu
  refine ⟨.bool b, RepV.ofBool _, fun _ _ _ _ _ H => ?_⟩
  show (bif isJunk (evalO t x) then none else (runPure P (Instr.extract (evalO t x) 0)).map _) = _
  rw [h1]
  have hj : isJunk (.tuple [Value.bool b].toArray) = false := rfl
  rw [hj]
  rfl⟩
theorem decode_low {i : Nat} (h : (s.get! i).toNat < 128) : Utf8.decode s i = ((s.get! i).toNat, 1) := by
  unfold Utf8.decode
  simp only [Nat.add_zero]
  rw [if_pos h]
theorem decode_high {i : Nat} (h : ¬ (s.get! i).toNat < 128) : 128 ≤ (Utf8.decode s i).1 := by
  unfold Utf8.decode
  simp only [Nat.add_zero]
  rw [if_neg h]
  have hr : 128 ≤ Utf8.runeError := by decide
  split
  · split
    · assumption
    exact hr
  split
  · split
    · rename_i hc
      have := (Bool.and_eq_true .. ▸ hc : _ ∧ _).1
      have := of_decide_eq_true this
      simp only; omega
    exact hr
  split
  · split
    · rename_i hc
      have := (Bool.and_eq_true .. ▸ hc : _ ∧ _).1
      have := of_decide_eq_true this
      simp only; omega
    exact hr
  exact hr

structure GdT (ops : Array Oper) (fl : VL) (g : Option (Nat × Bool)) (b : Bool) : Prop where
  want : ∀ {h : Heap} {S : List Nat} {t : Tr}, Slots h S t fl → ∀ o : Oper, o.guard = g → fsWanted ops t o = some b
end Go.Fs
namespace Go.Fs
instance : DecidableEq (Ty.den .str) := inferInstanceAs (DecidableEq ByteArray)
instance {k : IntKind} : DecidableEq (Ty.den (.int k)) := inferInstanceAs (DecidableEq Int)
instance : DecidableEq (Ty.den .bool) := inferInstanceAs (DecidableEq Bool)
instance {a b : Ty} [DecidableEq a.den] [DecidableEq b.den] : DecidableEq (Ty.den (.pair a b)) := inferInstanceAs (DecidableEq (a.den × b.den))
variable {P : Program} {orc : FuncId → List Value → Heap → Option (Value × Heap)} {fl : VL} {σ γ : Sto} {T : TypeId} {τ : Ty}
def byteE (s : ByteArray) (i : Int) : Int := (((s.get! i.toNat).toNat : Nat) : Int)
theorem byteE_nat (s : ByteArray) (i : Nat) : byteE s i = (((s.get! i).toNat : Nat) : Int) := rfl
theorem CalmV.ixS {x y : Operand} {s : ByteArray} {i : Int} (hx : evV fl x = some (.v .str s)) (hy : evV fl y = some (.v (.int .i64) i)) (h0 : 0 ≤ i) (h1 : i < (s.size : Nat)) (hT : P.underlying T = some .string := by kernel_rfl) : CalmV P fl σ (.index T x y) (.v (.int .u8) (byteE s i)) :=
  ⟨rfl, fun h S t hq _ => by
    have hv : evalO t x = .string s := RepV.str (hq x (by simp [Op.operands]) _ hx : RepV h S .str _ s)
    have hi : evalO t y = .int .i64 i := RepV.int (hq y (by simp [Op.operands]) _ hy : RepV h S (.int .i64) _ i)
    refine ⟨.int .u8 (byteE s i), RepV.ofInt _ _, fun _ _ _ _ _ H => ?_⟩
    show (if af (evalO t y) then (runPure P (Instr.index T (evalO t x) (evalO t y))).map _ else none) = _
    rw [hi, hv, if_pos (show af (Value.int .i64 i) = true from rfl)]
    have hb : i.toNat < s.size := by omega
    have h8 : s[i.toNat]? = some (s.get! i.toNat) := by
      rw [getElem?_pos s i.toNat hb]
      congr 1
      show s.data[i.toNat] = s.data[i.toNat]!
      rw [getElem!_pos s.data i.toNat hb]
    have h9 : runPure P (Instr.index T (.string s) (.int .i64 i)) = some (.int .u8 (byteE s i)) := by
      unfold Instr.index
      simp only [runPure_bind, asIntOf, runPure_pure, Option.bind_some, runPure_underlying hT, if_pos h0, h8]
      rfl
    rw [h9]; rfl⟩
end Go.Fs
namespace Go.Fs
variable {P : Program} {orc : FuncId → List Value → Heap → Option (Value × Heap)} {fl : VL} {σ : Sto} {T T' e ty : TypeId} {τ : Ty} {ops : Array Oper} {n : Nat} {l : List Oper} {K : VL → Sto → Prop} {d : Tmp} {pos : String} {after : Array Edge} {g : Option (Nat × Bool)} {x y : Operand} {xs : List τ.den}
end Go.Fs
namespace Go.Fs
variable {P : Program} {orc : FuncId → List Value → Heap → Option (Value × Heap)} {h h1 h2 h' : Heap} {S S0 : List Nat} {σ γ σr : Sto} {fl : VL} {ops : Array Oper} {n : Nat} {l : List Oper} {K : VL → Sto → Prop} {d : Tmp} {ty : TypeId} {pos : String} {after : Array Edge} {g : Option (Nat × Bool)}

section
variable (P orc)
end
section
variable (P orc)
end
end Go.Fs
namespace Go.Fs
variable {P : Program} {orc : FuncId → List Value → Heap → Option (Value × Heap)} {h h' h0 h1 h2 : Heap} {S S' S0 B G : List Nat} {σ σ' σr : Sto} {t t' : Tr} {ms : List Nat} {fl : VL} {ops : Array Oper} {n i mem : Nat} {l : List Oper} {K : VL → Sto → Prop} {Q : Ex → VL → Sto → Prop}
  {d : Tmp} {ty : TypeId} {pos : String} {after : Array Edge} {op : Op} {v pv : PV} {g : Option (Nat × Bool)} {x y z : Operand} {T T' e : TypeId} {τ τ' : Ty} {w : Value}

theorem getDg {α : Type} (xs : List α) (d : α) {i : Nat} (h : i < xs.length) : xs.getD i d = xs[i] := by rw [List.getD_eq_getElem?_getD, List.getElem?_eq_getElem h]; rfl
section
variable {α : Type} [DecidableEq α] {dd : α} {xs : List α}
end
end Go.Fs
namespace Go.Fs
variable {α : Type}

structure Weak (lt : α → α → Bool) : Prop where
  asym : ∀ a b, lt a b = true → lt b a = false
  neg : ∀ a b c, lt a b = false → lt b c = false → lt a c = false
variable {lt : α → α → Bool}
def eqv (lt : α → α → Bool) (a b : α) : Bool := !lt a b && !lt b a
def SameEq (lt : α → α → Bool) (xs ys : List α) : Prop := ∀ a, xs.filter (eqv lt a) = ys.filter (eqv lt a)
variable {d : α}
abbrev at_ (xs : List α) (i : Nat) (d : α) : α := xs.getD i d
structure Seg (lt : α → α → Bool) (xs ys : List α) (a b : Nat) : Prop where
  len : ys.length = xs.length
  lo : ys.take a = xs.take a
  hi : ys.drop b = xs.drop b
  same : SameEq lt xs ys
def swp (ys : List α) (i j : Nat) (d : α) : List α := (ys.set i (ys.getD j d)).set j (ys.getD i d)
theorem swp_len {ys : List α} {i j : Nat} : (swp ys i j d).length = ys.length := by simp [swp]
structure Insd (lt : α → α → Bool) (d : α) (ys : List α) (a j i : Nat) : Prop where
  srt : ∀ p q, a ≤ p → p < q → q ≤ i → q ≠ j → p ≠ j → lt (ys.getD q d) (ys.getD p d) = false
  less : ∀ q, j < q → q ≤ i → lt (ys.getD j d) (ys.getD q d) = true
end Go.Fs
namespace Go.Fs
variable {α : Type} {lt : α → α → Bool} {d : α} {ys : List α} {a b m n s e i j k : Nat}

theorem four (h1 : s ≤ m) (h2 : m ≤ e) : ys = ys.take s ++ ((ys.drop s).take (m - s) ++ ((ys.drop m).take (e - m) ++ ys.drop e)) := by
  conv => lhs; rw [← List.take_append_drop s ys, ← List.take_append_drop (m - s) (ys.drop s), List.drop_drop, show s + (m - s) = m by omega, ← List.take_append_drop (e - m) (ys.drop m), List.drop_drop, show m + (e - m) = e by omega]
structure Cut (lt : α → α → Bool) (d : α) (ys : List α) (a m b s e : Nat) : Prop where
  le : s ≤ m ∧ m ≤ e ∧ a ≤ s ∧ e ≤ b
  lo : a < s → e < b → lt (ys.getD e d) (ys.getD (s - 1) d) = false
  hi : s < m → m < e → lt (ys.getD (e - 1) d) (ys.getD s d) = true
end Go.Fs
namespace Go.Fs
variable {P : Program} {orc : FuncId → List Value → Heap → Option (Value × Heap)} {h h' h0 h1 h2 : Heap} {S S' S0 B G : List Nat} {σ σ' σr : Sto} {t t' : Tr} {ms : List Nat} {fl : VL} {ops : Array Oper} {n i mem : Nat} {l : List Oper} {K : VL → Sto → Prop} {Q : Ex → VL → Sto → Prop}
  {d : Tmp} {ty : TypeId} {pos : String} {after : Array Edge} {op : Op} {v pv : PV} {g : Option (Nat × Bool)} {x y z : Operand} {T T' e : TypeId} {τ τ' : Ty} {w : Value}
theorem ReadV.ldOD {xs : List τ.den} {j : Nat} (d : τ.den) (hx : evV fl x = some (.raw (ptrAt w τ.size j))) (hm : (w, Cell.row T τ xs) ∈ σ) (hT : ValT P T τ) (hj : j < xs.length) : ReadV P fl σ (.load T x) (.v τ (xs.getD j d)) := by
  rw [getDg xs d hj]; exact ReadV.ldO hx hm hT hj
end Go.Fs
namespace Go.Fs
variable {P : Program} {orc : FuncId → List Value → Heap → Option (Value × Heap)} {rnd : Option Nat} {h h' h0 h1 h2 : Heap} {S S' S0 B G : List Nat} {σ σ' σr : Sto} {t t' : Tr} {ms : List Nat} {fl : VL} {ops : Array Oper} {n i mem : Nat} {l : List Oper} {K : VL → Sto → Prop} {Q : Ex → VL → Sto → Prop}
  {d : Tmp} {ty : TypeId} {pos : String} {after : Array Edge} {op : Op} {v pv : PV} {g : Option (Nat × Bool)} {x y z : Operand} {T T' e : TypeId} {τ τ' : Ty} {w : Value}
end Go.Fs
namespace Go.Fs
variable {P : Program} {orc : FuncId → List Value → Heap → Option (Value × Heap)} {rnd : Option Nat} {h h' h0 h1 h2 : Heap} {S S' S0 B G : List Nat} {σ σ' σr : Sto} {t t' : Tr} {ms : List Nat} {fl : VL} {ops : Array Oper} {n i mem : Nat} {l : List Oper} {K : VL → Sto → Prop} {Q : Ex → VL → Sto → Prop}
  {d : Tmp} {ty : TypeId} {pos : String} {after : Array Edge} {op : Op} {v pv : PV} {g : Option (Nat × Bool)} {x y z : Operand} {T T' e : TypeId} {τ τ' : Ty} {w : Value}
inductive SetP : (τ : Ty) → τ.den → Nat → (τ' : Ty) → τ'.den → τ.den → Prop where
  | o {τ : Ty} {x y : τ.den} : SetP τ x 0 τ y y
  | l {a b : Ty} {x : (Ty.pair a b).den} {k : Nat} {τ' : Ty} {y : τ'.den} {z : a.den} (hs : SetP a x.1 k τ' y z) : SetP (.pair a b) x k τ' y (z, x.2)
  | r {a b : Ty} {x : (Ty.pair a b).den} {k k' : Nat} {τ' : Ty} {y : τ'.den} {z : b.den} (hs : SetP b x.2 k τ' y z) (hk : k' = a.size + k := by rfl) : SetP (.pair a b) x k' τ' y (x.1, z)
end Go.Fs
namespace Go.Fs
variable {P : Program} {orc : FuncId → List Value → Heap → Option (Value × Heap)} {rnd : Option Nat} {h h' h0 h1 h2 : Heap} {S S' S0 B G : List Nat} {σ σ' σr : Sto} {t t' : Tr} {ms : List Nat} {fl : VL} {ops : Array Oper} {n i mem : Nat} {l : List Oper} {K : VL → Sto → Prop} {Q : Ex → VL → Sto → Prop}
  {d : Tmp} {ty : TypeId} {pos : String} {after : Array Edge} {op : Op} {v pv : PV} {g : Option (Nat × Bool)} {x y z : Operand} {T T' e : TypeId} {τ τ' : Ty} {w : Value}
theorem VC.nilD {c : Code} (k : Nat) (τ : Ty) (hk : lkV fl k = some (.raw (.slice none 0 0))) (hx : VC P orc rnd c n ((k, .v (.sl τ) []) :: fl) σ Q) : VC P orc rnd c n fl σ Q := fun h0 G S0 t h ms I =>
  hx h0 G S0 t h ms { I with slots := I.slots.cons (by
    have : t.get k = .slice none 0 0 := I.slots _ _ hk
    rw [this]; exact SlV.nil.rep) }
end Go.Fs
namespace Go.Fs
variable {P : Program} {orc : FuncId → List Value → Heap → Option (Value × Heap)} {rnd : Option Nat} {h h' h0 h1 h2 : Heap} {S S' S0 B G : List Nat} {σ σ' σr : Sto} {t t' : Tr} {ms : List Nat} {fl : VL} {ops : Array Oper} {n i mem : Nat} {l : List Oper} {K : VL → Sto → Prop} {Q : Ex → VL → Sto → Prop}
  {d : Tmp} {ty : TypeId} {pos : String} {after : Array Edge} {op : Op} {v pv : PV} {g : Option (Nat × Bool)} {x y z : Operand} {T T' e : TypeId} {τ τ' : Ty} {w : Value} {ρ : Sto} {bs nw : List Nat} {tl : Bool}
end Go.Fs
namespace Go.Fs
variable {P : Program} {O : FuncId → List Value → Heap → Option (Value × Heap)} {h h' : Heap} {S : List Nat}
end Go.Fs
namespace Go.Fs
open Go.RowKit (Below)
open Go.Sort Go.Proofs
def Ty.isPlain : Ty → Bool
  | .int _ => true
  | .bool => true
  | .str => true
  | .unit => true
  | .pair a b => a.isPlain && b.isPlain
  | _ => false
def decT : (τ : Ty) → List Value → Option (τ.den × List Value)
  | .int k, vs => match vs with
    | .int k' n :: r => if k' = k then some (n, r) else none
    | _ => none
  | .bool, vs => match vs with
    | .bool b :: r => some (b, r)
    | _ => none
  | .str, vs => match vs with
    | .string s :: r => some (s, r)
    | _ => none
  | .unit, vs => some ((), vs)
  | .pair a b, vs => match decT a vs with
    | some (x, r) => match decT b r with
      | some (y, r') => some ((x, y), r')
      | none => none
    | none => none
  | .flt _, _ => none
  | .sl _, _ => none
  | .mp _ _, _ => none
  | .fn, _ => none
  | .hnd, _ => none
theorem decT_enc : ∀ {τ : Ty} {vs r : List Value} {x : τ.den}, decT τ vs = some (x, r) → vs = τ.flatC x ++ r := by
  intro τ
  induction τ with
  | int k =>
    intro vs r x h
    unfold decT at h
    split at h
    · rename_i k' n r'
      split at h
      · rename_i hk; subst hk; cases h; rfl
      cases h
    cases h
  | bool =>
    intro vs r x h
    unfold decT at h
    split at h
    · cases h; rfl
    cases h
  | str =>
    intro vs r x h
    unfold decT at h
    split at h
    · cases h; rfl
    cases h
  | unit => intro vs r x h; cases h; rfl
  | pair a b iha ihb =>
    intro vs r x h
    unfold decT at h
    split at h
    · rename_i x1 r1 h1
      split at h
      · rename_i y1 r2 h2
        cases h
        rw [iha h1, ihb h2]
        show _ = (a.flatC x1 ++ b.flatC y1) ++ r
        rw [List.append_assoc]
      cases h
    cases h
  | flt k => intro vs r x h; cases h
  | sl e _ => intro vs r x h; cases h
  | mp a b _ _ => intro vs r x h; cases h
  | fn => intro vs r x h; cases h
  | hnd => intro vs r x h; cases h
theorem flatC_len : ∀ {τ : Ty} (x : τ.den), τ.isPlain = true → (τ.flatC x).length = τ.size := by
  intro τ
  induction τ with
  | int k => intro x _; rfl
  | bool => intro x _; rfl
  | str => intro x _; rfl
  | unit => intro x _; rfl
  | pair a b iha ihb =>
    intro x h
    obtain ⟨h1, h2⟩ := band h
    show (a.flatC x.1 ++ b.flatC x.2).length = a.size + b.size
    rw [List.length_append, iha _ h1, ihb _ h2]
  | flt k => intro x h; cases h
  | sl e _ => intro x h; cases h
  | mp a b _ _ => intro x h; cases h
  | fn => intro x h; cases h
  | hnd => intro x h; cases h
section
variable {τ : Ty}
abbrev encL (τ : Ty) (xs : List τ.den) : List Value := xs.flatMap τ.flatC
def decL (τ : Ty) : Nat → List Value → Option (List τ.den)
  | _, [] => some []
  | 0, _ :: _ => none
  | m + 1, v :: vs => match decT τ (v :: vs) with
    | some (x, r) => match decL τ m r with
      | some xs => some (x :: xs)
      | none => none
    | none => none
theorem decL_enc : ∀ {m : Nat} {vs : List Value} {xs : List τ.den}, decL τ m vs = some xs → vs = encL τ xs
  | m, [], xs, h => by
    cases m <;> (unfold decL at h; cases h; rfl)
  | 0, v :: vs, xs, h => by unfold decL at h; cases h
  | m + 1, v :: vs, xs, h => by
    unfold decL at h
    split at h
    · rename_i x r h1
      split at h
      · rename_i ys h2
        cases h
        rw [decT_enc h1, decL_enc h2]; rfl
      cases h
    cases h
theorem encL_len (hp : τ.isPlain = true) : ∀ (xs : List τ.den), (encL τ xs).length = xs.length * τ.size
  | [] => by simp
  | x :: r => by
    have e : encL τ (x :: r) = τ.flatC x ++ encL τ r := rfl
    rw [e, List.length_append, encL_len hp r, flatC_len x hp, List.length_cons, Nat.add_mul]; omega
theorem encL_af : ∀ (xs : List τ.den), (encL τ xs).all af0 = true
  | [] => rfl
  | x :: r => by
    have e : encL τ (x :: r) = τ.flatC x ++ encL τ r := rfl
    rw [e, List.all_append, encL_af r, flatC_af]; rfl
variable {cf : τ.den → τ.den → Int}
local instance denInh : Inhabited τ.den := ⟨zeroD τ⟩
def sortG (cf : τ.den → τ.den → Int) (xs : List τ.den) : List τ.den := (pdq (ltOf cf) xs.toArray 0 xs.toArray.size (Lib.bitLen xs.toArray.size) true true).toList
theorem sortG_spec (sw : SWO (ltOf cf)) (xs : List τ.den) : PermIn 0 xs.toArray.size xs.toArray (sortG cf xs).toArray ∧ SortedIn (ltOf cf) 0 xs.toArray.size (sortG cf xs).toArray := by
  have := pdq_sorts (ltOf cf) sw xs.toArray 0 xs.toArray.size (Lib.bitLen xs.toArray.size) true true (Nat.zero_le _) (Nat.le_refl _) (Or.inl rfl)
  exact this
theorem sortG_len (sw : SWO (ltOf cf)) (xs : List τ.den) : (sortG cf xs).length = xs.length := by
  have := (sortG_spec sw xs).1.1
  simpa using this
def srtG (cf : τ.den → τ.den → Int) (vs : List Value) : Option (List Value) := match decL τ vs.length vs with
  | some xs => some (encL τ (sortG cf xs))
  | none => none
theorem srtG_inv {vs vs' : List Value} (h : srtG cf vs = some vs') : ∃ xs, vs = encL τ xs ∧ vs' = encL τ (sortG cf xs) := by
  unfold srtG at h
  split at h
  · rename_i xs hd
    cases h
    exact ⟨xs, decL_enc hd, rfl⟩
  cases h
theorem srtG_ok (hp : τ.isPlain = true) (sw : SWO (ltOf cf)) : SortV (srtG cf) where
  len vs vs' h := by obtain ⟨xs, rfl, rfl⟩ := srtG_inv h; rw [encL_len hp, encL_len hp, sortG_len sw]
  ino vs vs' h := by obtain ⟨xs, rfl, rfl⟩ := srtG_inv h; exact encL_af _
  out vs vs' h := by obtain ⟨xs, rfl, rfl⟩ := srtG_inv h; exact encL_af _
variable {P : Program} {O : FuncId → List Value → Heap → Option (Value × Heap)} {h h' : Heap} {S : List Nat}
end
end Go.Fs
namespace Go.Proofs
open Go.Fs
set_option linter.unusedVariables false
def cmpE (x y : Int × Int) : Int := Lib.compareInt x.1 y.1
def OA := orcF 131 132 2 (srtG (τ := .pair (.int .i64) (.int .i64)) cmpE) (orcA 152 152 15)
abbrev y37 : Ty := (.sl (.int .i64))
abbrev y164 : Ty := (.sl (.int .i64))
theorem vt3 : ValT Tryz.prog 3 (.int .i64) := valT_of (by kernel_rfl)
theorem vt29 : ValT Tryz.prog 29 (.int .i64) := valT_of (by kernel_rfl)
theorem el37 : ElT Tryz.prog 37 3 (.int .i64) := elT_of (by kernel_rfl)
theorem el164 : ElT Tryz.prog 164 29 (.int .i64) := elT_of (by kernel_rfl)
def whenE (c : Bool) (e : Int) : Int := bif c then e else 0
theorem gWhen_ok {c : Bool} {e : Int} : VF Tryz.prog OA 83 [B c, I e] (I (whenE c e)) := by
  refine VF.enter Tryz.func83 rfl (fun _ _ => rfl) rfl ?_
  show VC _ _ _ _ _ [(0, B c), (1, I e)] [] _
  refine VC.seq (VC.text ?_)
  refine VO.c (.assign rfl) ?_
  refine VO.go (VC.seq (VC.seq (VC.text ?_)))
  refine VO.c (.move rfl) ?_
  refine VO.go ?_
  refine VC.condB rfl (fun c1 => ?_) (fun c1 => ?_)
  · subst c1
    refine VC.seq (VC.text ?_)
    refine VO.c (.move rfl) ?_
    refine VO.c (.assign rfl) ?_
    refine VO.go ?_
    refine VC.ret ?_
    exact VEnd.one rfl evT (pvI (by rfl))
  subst c1
  refine VC.skip (VC.seq (VC.text ?_))
  refine VO.c (.assign rfl) ?_
  refine VO.go ?_
  refine VC.ret ?_
  exact VEnd.one rfl evT (pvI (by rfl))
def rangeE (n lo hi : Int) : Int := if n < lo ∨ hi < n then 3 else 0
theorem rCheckRange_ok {n : Int} {lo : Int} {hi : Int} : VF Tryz.prog OA 30 [I n, I lo, I hi] (I (rangeE n lo hi)) := by
  refine VF.enter Tryz.func30 rfl (fun _ _ => rfl) rfl ?_
  show VC _ _ _ _ _ [(0, I n), (1, I lo), (2, I hi)] [] _
  refine VC.seq (VC.text ?_)
  refine VO.c (.assign rfl) ?_
  refine VO.go (VC.seq (VC.seq (VC.text ?_)))
  refine VO.c (.move rfl) ?_
  refine VO.c (.move rfl) ?_
  refine VO.c (.lss) ?_
  refine VO.c (.move rfl) ?_
  refine VO.cg (r := decide (n < lo)) (w := false) [] trivial (fun hgd => have g1_3 : ¬ (n < lo) := (by simpa using hgd); (.move rfl)) ?_
  refine VO.cg (r := decide (n < lo)) (w := false) [] trivial (fun hgd => have g1_3 : ¬ (n < lo) := (by simpa using hgd); (.move rfl)) ?_
  refine VO.cg (r := decide (n < lo)) (w := false) [(11, I n), (12, I hi)] ⟨rfl, rfl, trivial⟩ (fun hgd => have g1_3 : ¬ (n < lo) := (by simpa using hgd); (.gtr)) ?_
  refine VO.c (.or) ?_
  refine VO.go ?_
  refine VC.condB rfl (fun c1 => ?_) (fun c1 => ?_)
  · try simp only [Bool.and_eq_true, Bool.or_eq_true, Bool.and_eq_false_iff, Bool.or_eq_false_iff, Bool.not_eq_true', Bool.not_eq_false', decide_eq_true_eq, decide_eq_false_iff_not] at c1
    refine VC.seq (VC.text ?_)
    refine VO.c (.assign rfl) ?_
    refine VO.go ?_
    refine VC.ret ?_
    exact VEnd.one rfl evT (pvI (by simp only [rangeE, ← Bool.decide_or, decide_eq_true_eq, decide_eq_false_iff_not, Bool.or_eq_true, Bool.or_eq_false_iff] at *; first | rw [if_pos (by omega)] | rw [if_neg (by omega)]))
  try simp only [Bool.and_eq_true, Bool.or_eq_true, Bool.and_eq_false_iff, Bool.or_eq_false_iff, Bool.not_eq_true', Bool.not_eq_false', decide_eq_true_eq, decide_eq_false_iff_not] at c1
  refine VC.skip (VC.seq (VC.text ?_))
  refine VO.c (.assign rfl) ?_
  refine VO.go ?_
  refine VC.ret ?_
  exact VEnd.one rfl evT (pvI (by simp only [rangeE, ← Bool.decide_or, decide_eq_true_eq, decide_eq_false_iff_not, Bool.or_eq_true, Bool.or_eq_false_iff] at *; first | rw [if_pos (by omega)] | rw [if_neg (by omega)]))
theorem whenE_range {n lo hi : Int} : whenE (decide (n < lo) || decide (hi < n)) 3 = rangeE n lo hi := by
  unfold whenE rangeE
  by_cases h1 : n < lo <;> by_cases h2 : hi < n <;> simp [h1, h2]
theorem gWithin_ok {n : Int} {lo : Int} {hi : Int} : VF Tryz.prog OA 84 [I n, I lo, I hi] (I (rangeE n lo hi)) := by
  refine VF.enter Tryz.func84 rfl (fun _ _ => rfl) rfl ?_
  show VC _ _ _ _ _ [(0, I n), (1, I lo), (2, I hi)] [] _
  refine VC.seq (VC.text ?_)
  refine VO.c (.assign rfl) ?_
  refine VO.go (VC.seq (VC.text ?_))
  refine VO.c (.move rfl) ?_
  refine VO.c (.move rfl) ?_
  refine VO.c (.lss) ?_
  refine VO.c (.move rfl) ?_
  refine VO.cg (r := decide (n < lo)) (w := false) [] trivial (fun hgd => have g1_3 : ¬ (n < lo) := (by simpa using hgd); (.move rfl)) ?_
  refine VO.cg (r := decide (n < lo)) (w := false) [] trivial (fun hgd => have g1_3 : ¬ (n < lo) := (by simpa using hgd); (.move rfl)) ?_
  refine VO.cg (r := decide (n < lo)) (w := false) [(11, I n), (12, I hi)] ⟨rfl, rfl, trivial⟩ (fun hgd => have g1_3 : ¬ (n < lo) := (by simpa using hgd); (.gtr)) ?_
  refine VO.c (.or) ?_
  refine VO.call rfl rfl (VF.call (gWhen_ok )) ?_
  refine VO.c (.assign rfl) ?_
  refine VO.go ?_
  refine VC.ret ?_
  exact VEnd.one rfl evT (pvI (by exact whenE_range))
def firstE : List Int → Int
  | [] => 0
  | x :: r => if x = 0 then firstE r else x
theorem firstE_drop {xs : List Int} {j : Nat} (hj : j < xs.length) : firstE (xs.drop j) = if xs[j] = 0 then firstE (xs.drop (j + 1)) else xs[j] := by
  rw [List.drop_eq_getElem_cons hj] <;> rfl
theorem firstE_end {xs : List Int} {j : Nat} (hj : xs.length ≤ j) : firstE (xs.drop j) = 0 := by rw [List.drop_eq_nil_of_le hj] <;> rfl
theorem gFirst_ok {l : List Int} (hl : l.length < 1000000) : VF Tryz.prog OA 82 [.v y164 l] (I (firstE l)) := by
  refine VF.enter Tryz.func82 rfl (fun _ _ => rfl) rfl ?_
  show VC _ _ _ _ _ [(0, .v y164 l)] [] _
  refine VC.seq (VC.text ?_)
  refine VO.c (.assign rfl) ?_
  refine VO.go (VC.seq (VC.seq (VC.text ?_)))
  refine VO.c (.move rfl) ?_
  refine VO.r (.len el164) ?_
  refine VO.c (.move rfl) ?_
  refine VO.go (VC.block ?_)
  refine VC.keep [(5, .v y164 l), (6, I ((l.length : Nat) : Int)), (7, I ((0 : Nat) : Int))] ⟨rfl, rfl, rfl, trivial⟩ ?_
  refine VC.loop (I := fun kk ff ss => ∃ (j : Nat), kk = l.length - j ∧ ff = [(5, .v y164 l), (6, I ((l.length : Nat) : Int)), (7, I ((j : Nat) : Int))] ∧ ss = [] ∧ (j ≤ l.length) ∧ (firstE l = firstE (l.drop j))) ?_ _ _ _ ⟨0, rfl, rfl, rfl, Nat.zero_le _, (by rfl)⟩
  rintro kk ff ss ⟨j, hk0, rfl, rfl, hj, hf⟩
  refine VC.seq (VC.text ?_)
  refine VO.c (.lss) ?_
  refine VO.go (VC.seq ?_)
  refine VC.condD rfl (fun c2 => ?_) (fun c2 => ?_)
  · refine VC.skip (VC.seq (VC.block (VC.seq (VC.text ?_))))
    refine VO.c (.ix (j := j) rfl rfl el164 (by omega)) ?_
    refine VO.r (.ld vt29) ?_
    refine VO.c (.assign rfl) ?_
    refine VO.go (VC.seq (VC.text ?_))
    refine VO.c (.move rfl) ?_
    refine VO.c (.neq) ?_
    refine VO.go ?_
    refine VC.condD rfl (fun c4 => ?_) (fun c4 => ?_)
    · refine VC.seq (VC.text ?_)
      refine VO.c (.move rfl) ?_
      refine VO.c (.assign rfl) ?_
      refine VO.go ?_
      refine VC.ret ?_
      exact VEnd.one rfl evT (pvI (by rw [hf, firstE_drop (by omega), if_neg c4]))
    refine VC.skip (VC.text ?_)
    refine VO.c (.add rfl rfl (by omega)) ?_
    refine VO.c (.move rfl) ?_
    refine VO.nil ?_
    refine ⟨_, [(5, .v y164 l), (6, I ((l.length : Nat) : Int)), (7, I (((j + 1) : Nat) : Int))], ?_, ⟨rfl, rfl, rfl, trivial⟩, (j + 1), rfl, rfl, rfl, (by omega), (by rw [hf, firstE_drop (by omega), if_pos (by simpa using c4)])⟩
    omega
  refine VC.exit (VC.seq (VC.text ?_))
  refine VO.c (.assign rfl) ?_
  refine VO.go ?_
  refine VC.ret ?_
  exact VEnd.one rfl evT (pvI (by rw [hf, firstE_end (by omega)]))
theorem rFirst_ok {l : List Int} (hl : l.length < 1000000) : VF Tryz.prog OA 79 [.v y37 l] (I (firstE l)) := by
  refine VF.enter Tryz.func79 rfl (fun _ _ => rfl) rfl ?_
  show VC _ _ _ _ _ [(0, .v y37 l)] [] _
  refine VC.seq (VC.text ?_)
  refine VO.c (.assign rfl) ?_
  refine VO.go (VC.seq (VC.seq (VC.text ?_)))
  refine VO.c (.assign rfl) ?_
  refine VO.go (VC.block ?_)
  refine VC.keep [(0, .v y37 l), (3, I ((0 : Nat) : Int))] ⟨rfl, rfl, trivial⟩ ?_
  refine VC.loop (I := fun kk ff ss => ∃ (j : Nat), kk = l.length - j ∧ ff = [(0, .v y37 l), (3, I ((j : Nat) : Int))] ∧ ss = [] ∧ (j ≤ l.length) ∧ (firstE l = firstE (l.drop j))) ?_ _ _ _ ⟨0, rfl, rfl, rfl, Nat.zero_le _, (by rfl)⟩
  rintro kk ff ss ⟨j, hk0, rfl, rfl, hj, hf⟩
  refine VC.seq (VC.seq (VC.text ?_))
  refine VO.c (.move rfl) ?_
  refine VO.c (.move rfl) ?_
  refine VO.r (.len el37) ?_
  refine VO.c (.lss) ?_
  refine VO.go ?_
  refine VC.condD rfl (fun c2 => ?_) (fun c2 => ?_)
  · refine VC.skip (VC.seq (VC.block (VC.seq (VC.text ?_))))
    refine VO.c (.move rfl) ?_
    refine VO.c (.move rfl) ?_
    refine VO.c (.ix (j := j) rfl rfl el37 (by omega)) ?_
    refine VO.r (.ld vt3) ?_
    refine VO.c (.neq) ?_
    refine VO.go ?_
    refine VC.condD rfl (fun c4 => ?_) (fun c4 => ?_)
    · refine VC.seq (VC.text ?_)
      refine VO.c (.move rfl) ?_
      refine VO.c (.move rfl) ?_
      refine VO.c (.ix (j := j) rfl rfl el37 (by omega)) ?_
      refine VO.r (.ld vt3) ?_
      refine VO.c (.assign rfl) ?_
      refine VO.go ?_
      refine VC.ret ?_
      exact VEnd.one rfl evT (pvI (by rw [hf, firstE_drop (by omega), if_neg c4]))
    refine VC.skip (VC.text ?_)
    refine VO.c (.move rfl) ?_
    refine VO.c (.add rfl rfl (by omega)) ?_
    refine VO.c (.assign rfl) ?_
    refine VO.nil ?_
    refine ⟨_, [(0, .v y37 l), (3, I (((j + 1) : Nat) : Int))], ?_, ⟨rfl, rfl, trivial⟩, (j + 1), rfl, rfl, rfl, (by omega), (by rw [hf, firstE_drop (by omega), if_pos (by simpa using c4)])⟩
    omega
  refine VC.exit (VC.seq (VC.text ?_))
  refine VO.c (.assign rfl) ?_
  refine VO.go ?_
  refine VC.ret ?_
  exact VEnd.one rfl evT (pvI (by rw [hf, firstE_end (by omega)]))
end Go.Proofs
namespace Go.Proofs
open Go.Fs Ieee
set_option linter.unusedVariables false

def letterB (c : Int) : Bool := decide (65 ≤ c ∧ c ≤ 90 ∨ 97 ≤ c ∧ c ≤ 122)
def otherB (c : Int) : Bool := decide (48 ≤ c ∧ c ≤ 57 ∨ c = 95)
def byteB (c : Int) (i : Nat) : Bool := letterB c || (decide (i ≠ 0) && otherB c)
def nameB (s : ByteArray) : Bool := decide (s.size ≠ 0 ∧ s.size ≤ 24 ∧ ∀ i, i < s.size → byteB (byteE s i) i = true)
theorem nameB_f {s : ByteArray} {i : Nat} (hi : i < s.size) (h : byteB (byteE s i) i = false) : false = nameB s := by
  refine (decide_eq_false fun hh => ?_).symm
  rw [hh.2.2 i hi] at h; cases h
theorem nameB_t {s : ByteArray} (h1 : s.size ≠ 0) (h2 : s.size ≤ 24) (h : ∀ i, i < s.size → byteB (byteE s i) i = true) : true = nameB s := (decide_eq_true ⟨h1, h2, h⟩).symm
theorem size_empty {s : ByteArray} : s ≠ ByteArray.empty ↔ s.size ≠ 0 := by
  constructor
  · intro h e
    exact h (ByteArray.ext (Array.eq_empty_of_size_eq_zero e))
  rintro h rfl; exact h rfl
theorem byteB_high {c : Int} {i : Nat} (h : 128 ≤ c) : byteB c i = false := by
  have h1 : letterB c = false := decide_eq_false (by omega)
  have h2 : otherB c = false := decide_eq_false (by omega)
  rw [byteB, h1, h2]; simp
theorem rune_f {s : ByteArray} {p : Nat} (h : byteB ((Utf8.decode s p).1 : Nat) p = false) : byteB (byteE s p) p = false := by
  by_cases hl : (s.get! p).toNat < 128
  · rw [decode_low hl] at h; exact h
  exact byteB_high (by rw [byteE_nat]; omega)
theorem rune_t {s : ByteArray} {p : Nat} (h : byteB ((Utf8.decode s p).1 : Nat) p = true) : byteB (byteE s p) p = true ∧ (Utf8.decode s p).2 = 1 := by
  by_cases hl : (s.get! p).toNat < 128
  · rw [decode_low hl] at h ⊢; exact ⟨h, rfl⟩
  have := Go.Fs.decode_high hl
  rw [byteB_high (by omega)] at h; cases h
theorem name_end {s : ByteArray} (h : ∀ i, i < s.size → byteB (byteE s i) i = true) : (decide (s ≠ ByteArray.empty) && decide (((s.size : Nat) : Int) ≤ 24)) = nameB s := by
  rw [← Bool.decide_and]
  exact decide_eq_decide.2 ⟨fun hh => ⟨size_empty.1 hh.1, by omega, h⟩, fun hh => ⟨size_empty.2 hh.1, by omega⟩⟩
theorem gName_ok {s : ByteArray} : VF Tryz.prog OA 32 [St s] (B (nameB s)) := by
  refine VF.enter Tryz.func32 rfl (fun _ _ => rfl) rfl ?_
  show VC _ _ _ _ _ [(0, St s)] [] _
  refine VC.seq (VC.text ?_)
  refine VO.c (.assign rfl) ?_
  refine VO.go (VC.seq (VC.seq (VC.text ?_)))
  refine VO.c (.move rfl) ?_
  refine VO.cell (.rng) ?_
  intro ww1
  refine VO.go (VC.block ?_)
  refine VC.keep [(0, St s), (8, .raw ww1)] ⟨rfl, rfl, trivial⟩ ?_
  refine VC.loop (I := fun kk ff ss => ∃ (p : Nat), kk = s.size - p ∧ ff = [(0, St s), (8, .raw ww1)] ∧ ss = [(ww1, .it s p)] ∧ (p ≤ s.size) ∧ (∀ i, i < p → byteB (byteE s i) i = true)) ?_ _ _ _ ⟨0, rfl, rfl, rfl, Nat.zero_le _, (by intro i hi; omega)⟩
  rintro kk ff ss ⟨p, hk0, rfl, rfl, hp, hq⟩
  refine VC.seq (VC.text ?_)
  refine VO.next rfl (fun h2_0 => ?_) (fun h2_0 => ?_)
  · refine VO.c (.extract) ?_
    refine VO.go (VC.seq ?_)
    refine VC.condT rfl ?_
    refine VC.skip (VC.block (VC.seq (VC.text ?_)))
    refine VO.c (.extract) ?_
    refine VO.c (.extract) ?_
    refine VO.c (.assign rfl) ?_
    refine VO.c (.assign rfl) ?_
    refine VO.go (VC.seq ?_)
    refine VC.join [(0, St s), (3, I ((p : Nat) : Int)), (4, .v (.int .i32) (((Utf8.decode s p).1 : Nat) : Int)), (5, B (letterB ((Utf8.decode s p).1 : Nat))), (8, .raw ww1)] [(ww1, .it s (p + (Utf8.decode s p).2))] ?_ ?_
    · skip
      refine VC.text ?_
      refine VO.c (.move rfl) ?_
      refine VO.c (.geq) ?_
      refine VO.c (.move rfl) ?_
      refine VO.splitD (x := 15) rfl (fun g4_2 => ?_) (fun g4_2 => ?_)
      · refine VO.c (.move rfl) ?_
        refine VO.c (.leq) ?_
        refine VO.c (.pickT rfl rfl) ?_
        refine VO.c (.move rfl) ?_
        refine VO.splitD (x := 19) rfl (fun g4_6 => ?_) (fun g4_6 => ?_)
        · refine VO.skip ?_
          refine VO.skip ?_
          refine VO.skip ?_
          refine VO.skip ?_
          refine VO.skip ?_
          refine VO.skip ?_
          refine VO.c (.pickT rfl rfl) ?_
          refine VO.c (.assign rfl) ?_
          refine VO.nil ?_
          exact ⟨⟨rfl, rfl, rfl, slE rfl (by rw [Bool.eq_iff_iff]; simp [letterB] <;> omega), rfl, trivial⟩, rfl⟩
        refine VO.c (.move rfl) ?_
        refine VO.c (.geq) ?_
        refine VO.c (.move rfl) ?_
        refine VO.cg (r := decide ((97 : Int) ≤ (((Utf8.decode s p).1 : Nat) : Int))) (w := true) [] trivial (fun hgd => have g4_9 : (97 : Int) ≤ (((Utf8.decode s p).1 : Nat) : Int) := (by simpa using hgd); (.move rfl)) ?_
        refine VO.cg (r := decide ((97 : Int) ≤ (((Utf8.decode s p).1 : Nat) : Int))) (w := true) [(23, .v (.int .i32) (((Utf8.decode s p).1 : Nat) : Int))] ⟨rfl, trivial⟩ (fun hgd => have g4_9 : (97 : Int) ≤ (((Utf8.decode s p).1 : Nat) : Int) := (by simpa using hgd); (.leq)) ?_
        refine VO.c (.and) ?_
        refine VO.c (.pickF rfl rfl) ?_
        refine VO.c (.assign rfl) ?_
        refine VO.nil ?_
        exact ⟨⟨rfl, rfl, rfl, slE rfl (by rw [Bool.eq_iff_iff]; simp [letterB] <;> omega), rfl, trivial⟩, rfl⟩
      refine VO.skip ?_
      refine VO.skip ?_
      refine VO.c (.pickF rfl rfl) ?_
      refine VO.c (.move rfl) ?_
      refine VO.c (.move rfl) ?_
      refine VO.c (.geq) ?_
      refine VO.c (.move rfl) ?_
      refine VO.cg (r := decide ((97 : Int) ≤ (((Utf8.decode s p).1 : Nat) : Int))) (w := true) [] trivial (fun hgd => have g4_9 : (97 : Int) ≤ (((Utf8.decode s p).1 : Nat) : Int) := (by simpa using hgd); (.move rfl)) ?_
      refine VO.cg (r := decide ((97 : Int) ≤ (((Utf8.decode s p).1 : Nat) : Int))) (w := true) [(23, .v (.int .i32) (((Utf8.decode s p).1 : Nat) : Int))] ⟨rfl, trivial⟩ (fun hgd => have g4_9 : (97 : Int) ≤ (((Utf8.decode s p).1 : Nat) : Int) := (by simpa using hgd); (.leq)) ?_
      refine VO.c (.and) ?_
      refine VO.c (.pickF rfl rfl) ?_
      refine VO.c (.assign rfl) ?_
      refine VO.nil ?_
      exact ⟨⟨rfl, rfl, rfl, slE rfl (by rw [Bool.eq_iff_iff]; simp [letterB] <;> omega), rfl, trivial⟩, rfl⟩
    refine VC.seq ?_
    refine VC.join [(0, St s), (3, I ((p : Nat) : Int)), (5, B (letterB ((Utf8.decode s p).1 : Nat))), (6, B (otherB ((Utf8.decode s p).1 : Nat))), (8, .raw ww1)] [(ww1, .it s (p + (Utf8.decode s p).2))] ?_ ?_
    · skip
      refine VC.text ?_
      refine VO.c (.move rfl) ?_
      refine VO.c (.geq) ?_
      refine VO.c (.move rfl) ?_
      refine VO.splitD (x := 29) rfl (fun g5_2 => ?_) (fun g5_2 => ?_)
      · refine VO.c (.move rfl) ?_
        refine VO.c (.leq) ?_
        refine VO.c (.pickT rfl rfl) ?_
        refine VO.c (.move rfl) ?_
        refine VO.cg (r := decide ((((Utf8.decode s p).1 : Nat) : Int) ≤ (57 : Int))) (w := false) [] trivial (fun hgd => have g5_6 : ¬ ((((Utf8.decode s p).1 : Nat) : Int) ≤ (57 : Int)) := (by simpa using hgd); (.move rfl)) ?_
        refine VO.cg (r := decide ((((Utf8.decode s p).1 : Nat) : Int) ≤ (57 : Int))) (w := false) [(34, .v (.int .i32) (((Utf8.decode s p).1 : Nat) : Int))] ⟨rfl, trivial⟩ (fun hgd => have g5_6 : ¬ ((((Utf8.decode s p).1 : Nat) : Int) ≤ (57 : Int)) := (by simpa using hgd); (.eql)) ?_
        refine VO.c (.or) ?_
        refine VO.c (.assign rfl) ?_
        refine VO.nil ?_
        exact ⟨⟨rfl, rfl, rfl, slE rfl (by rw [Bool.eq_iff_iff]; simp [otherB] <;> omega), rfl, trivial⟩, rfl⟩
      refine VO.skip ?_
      refine VO.skip ?_
      refine VO.c (.pickF rfl rfl) ?_
      refine VO.c (.move rfl) ?_
      refine VO.c (.move rfl) ?_
      refine VO.c (.eql) ?_
      refine VO.c (.pickF rfl rfl) ?_
      refine VO.c (.assign rfl) ?_
      refine VO.nil ?_
      exact ⟨⟨rfl, rfl, rfl, slE rfl (by rw [Bool.eq_iff_iff]; simp [otherB] <;> omega), rfl, trivial⟩, rfl⟩
    refine VC.seq ?_
    refine VC.join [(0, St s), (8, .raw ww1), (46, B (!byteB ((Utf8.decode s p).1 : Nat) p))] [(ww1, .it s (p + (Utf8.decode s p).2))] ?_ ?_
    · skip
      refine VC.text ?_
      refine VO.c (.move rfl) ?_
      refine VO.c (.not) ?_
      refine VO.c (.move rfl) ?_
      refine VO.splitB (x := 39) rfl (fun g6_2 => ?_) (fun g6_2 => ?_)
      · try simp only [Bool.and_eq_true, Bool.or_eq_true, Bool.and_eq_false_iff, Bool.or_eq_false_iff, Bool.not_eq_true', Bool.not_eq_false', decide_eq_true_eq, decide_eq_false_iff_not] at g6_2
        refine VO.c (.move rfl) ?_
        refine VO.c (.eql) ?_
        refine VO.c (.move rfl) ?_
        refine VO.cg (r := decide (((p : Nat) : Int) = (0 : Int))) (w := false) [] trivial (fun hgd => have g6_5 : ¬ (((p : Nat) : Int) = (0 : Int)) := (by simpa using hgd); (.move rfl)) ?_
        refine VO.cg (r := decide (((p : Nat) : Int) = (0 : Int))) (w := false) [(43, B (otherB ((Utf8.decode s p).1 : Nat)))] ⟨rfl, trivial⟩ (fun hgd => have g6_5 : ¬ (((p : Nat) : Int) = (0 : Int)) := (by simpa using hgd); (.not)) ?_
        refine VO.c (.or) ?_
        refine VO.c (.pickT rfl rfl) ?_
        refine VO.nil ?_
        exact ⟨⟨rfl, rfl, slE rfl (by simp [byteB, *]), trivial⟩, rfl⟩
      try simp only [Bool.and_eq_true, Bool.or_eq_true, Bool.and_eq_false_iff, Bool.or_eq_false_iff, Bool.not_eq_true', Bool.not_eq_false', decide_eq_true_eq, decide_eq_false_iff_not] at g6_2
      refine VO.skip ?_
      refine VO.skip ?_
      refine VO.skip ?_
      refine VO.skip ?_
      refine VO.skip ?_
      refine VO.skip ?_
      refine VO.c (.pickF rfl rfl) ?_
      refine VO.nil ?_
      exact ⟨⟨rfl, rfl, slE rfl (by simp [byteB, *]), trivial⟩, rfl⟩
    refine VC.condB rfl (fun c6 => ?_) (fun c6 => ?_)
    · try simp only [Bool.and_eq_true, Bool.or_eq_true, Bool.and_eq_false_iff, Bool.or_eq_false_iff, Bool.not_eq_true', Bool.not_eq_false', decide_eq_true_eq, decide_eq_false_iff_not] at c6
      refine VC.seq (VC.text ?_)
      refine VO.c (.assign rfl) ?_
      refine VO.go ?_
      refine VC.ret ?_
      exact VEnd.one rfl evT (pvE (by exact nameB_f h2_0 (rune_f c6)))
    try simp only [Bool.and_eq_true, Bool.or_eq_true, Bool.and_eq_false_iff, Bool.or_eq_false_iff, Bool.not_eq_true', Bool.not_eq_false', decide_eq_true_eq, decide_eq_false_iff_not] at c6
    refine VC.skip ?_
    refine ⟨_, [(0, St s), (8, .raw ww1)], ?_, ⟨rfl, rfl, trivial⟩, (p + 1), rfl, rfl, (by rw [(rune_t c6).2]), (by omega), (by intro i hi; rcases Nat.lt_succ_iff_lt_or_eq.1 hi with h | h; exact hq i h; subst h; exact (rune_t c6).1)⟩
    omega
  refine VO.c (.ext0) ?_
  refine VO.go (VC.seq ?_)
  refine VC.condF rfl ?_
  refine VC.exit (VC.seq (VC.text ?_))
  refine VO.c (.move rfl) ?_
  refine VO.c (.sneq) ?_
  refine VO.c (.move rfl) ?_
  refine VO.cg (r := decide (s ≠ ByteArray.empty)) (w := true) [] trivial (fun hgd => have g8_2 : s ≠ ByteArray.empty := (by simpa using hgd); (.move rfl)) ?_
  refine VO.rg (r := decide (s ≠ ByteArray.empty)) (w := true) [(50, St s)] ⟨rfl, trivial⟩ (fun hgd => have g8_2 : s ≠ ByteArray.empty := (by simpa using hgd); (.lenS)) ?_
  refine VO.cg (r := decide (s ≠ ByteArray.empty)) (w := true) [(51, I ((s.size : Nat) : Int))] ⟨rfl, trivial⟩ (fun hgd => have g8_2 : s ≠ ByteArray.empty := (by simpa using hgd); (.leq)) ?_
  refine VO.c (.and) ?_
  refine VO.c (.assign rfl) ?_
  refine VO.go ?_
  refine VC.ret ?_
  exact VEnd.one rfl evT (pvE (by exact name_end (fun i hi => hq i (by omega))))
theorem rName_ok {s : ByteArray} : VF Tryz.prog OA 33 [St s] (B (nameB s)) := by
  refine VF.enter Tryz.func33 rfl (fun _ _ => rfl) rfl ?_
  show VC _ _ _ _ _ [(0, St s)] [] _
  refine VC.seq (VC.text ?_)
  refine VO.c (.assign rfl) ?_
  refine VO.go (VC.seq (VC.seq (VC.text ?_)))
  refine VO.c (.move rfl) ?_
  refine VO.r (.lenS) ?_
  refine VO.c (.eql) ?_
  refine VO.c (.move rfl) ?_
  refine VO.cg (r := decide (((s.size : Nat) : Int) = (0 : Int))) (w := false) [] trivial (fun hgd => have g1_3 : ¬ (((s.size : Nat) : Int) = (0 : Int)) := (by simpa using hgd); (.move rfl)) ?_
  refine VO.rg (r := decide (((s.size : Nat) : Int) = (0 : Int))) (w := false) [(9, St s)] ⟨rfl, trivial⟩ (fun hgd => have g1_3 : ¬ (((s.size : Nat) : Int) = (0 : Int)) := (by simpa using hgd); (.lenS)) ?_
  refine VO.cg (r := decide (((s.size : Nat) : Int) = (0 : Int))) (w := false) [(10, I ((s.size : Nat) : Int))] ⟨rfl, trivial⟩ (fun hgd => have g1_3 : ¬ (((s.size : Nat) : Int) = (0 : Int)) := (by simpa using hgd); (.gtr)) ?_
  refine VO.c (.or) ?_
  refine VO.go ?_
  refine VC.condB rfl (fun c1 => ?_) (fun c1 => ?_)
  · try simp only [Bool.and_eq_true, Bool.or_eq_true, Bool.and_eq_false_iff, Bool.or_eq_false_iff, Bool.not_eq_true', Bool.not_eq_false', decide_eq_true_eq, decide_eq_false_iff_not] at c1
    refine VC.seq (VC.text ?_)
    refine VO.c (.assign rfl) ?_
    refine VO.go ?_
    refine VC.ret ?_
    exact VEnd.one rfl evT (pvE (by exact (decide_eq_false fun hh => by have := hh.1; have := hh.2.1; omega).symm))
  try simp only [Bool.and_eq_true, Bool.or_eq_true, Bool.and_eq_false_iff, Bool.or_eq_false_iff, Bool.not_eq_true', Bool.not_eq_false', decide_eq_true_eq, decide_eq_false_iff_not] at c1
  refine VC.skip (VC.seq (VC.seq (VC.text ?_)))
  refine VO.c (.assign rfl) ?_
  refine VO.go (VC.block ?_)
  refine VC.keep [(0, St s), (3, I ((0 : Nat) : Int))] ⟨rfl, rfl, trivial⟩ ?_
  refine VC.loop (I := fun kk ff ss => ∃ (i : Nat), kk = s.size - i ∧ ff = [(0, St s), (3, I ((i : Nat) : Int))] ∧ ss = [] ∧ (i ≤ s.size) ∧ (∀ k, k < i → byteB (byteE s k) k = true)) ?_ _ _ _ ⟨0, rfl, rfl, rfl, Nat.zero_le _, (by intro k hk; omega)⟩
  rintro kk ff ss ⟨i, hk0, rfl, rfl, hi, hq⟩
  refine VC.seq (VC.seq (VC.text ?_))
  refine VO.c (.move rfl) ?_
  refine VO.c (.move rfl) ?_
  refine VO.r (.lenS) ?_
  refine VO.c (.lss) ?_
  refine VO.go ?_
  refine VC.condD rfl (fun c4 => ?_) (fun c4 => ?_)
  · refine VC.skip (VC.seq (VC.block (VC.seq (VC.text ?_))))
    refine VO.c (.move rfl) ?_
    refine VO.c (.move rfl) ?_
    refine VO.c (.ixS rfl rfl (by omega) (by omega)) ?_
    refine VO.c (.assign rfl) ?_
    refine VO.go (VC.seq (VC.seq ?_))
    refine VC.join [(0, St s), (3, I ((i : Nat) : Int)), (4, .v (.int .u8) (byteE s ((i : Nat) : Int))), (35, B (letterB (byteE s i)))] [] ?_ ?_
    · skip
      refine VC.text ?_
      refine VO.c (.move rfl) ?_
      refine VO.c (.geq) ?_
      refine VO.c (.move rfl) ?_
      refine VO.splitD (x := 24) rfl (fun g7_2 => ?_) (fun g7_2 => ?_)
      · refine VO.c (.move rfl) ?_
        refine VO.c (.leq) ?_
        refine VO.c (.pickT rfl rfl) ?_
        refine VO.c (.move rfl) ?_
        refine VO.splitD (x := 28) rfl (fun g7_6 => ?_) (fun g7_6 => ?_)
        · refine VO.skip ?_
          refine VO.skip ?_
          refine VO.skip ?_
          refine VO.skip ?_
          refine VO.skip ?_
          refine VO.skip ?_
          refine VO.c (.pickT rfl rfl) ?_
          refine VO.nil ?_
          exact ⟨⟨rfl, rfl, rfl, slE rfl (by rw [Bool.eq_iff_iff]; simp [letterB] <;> omega), trivial⟩, rfl⟩
        refine VO.c (.move rfl) ?_
        refine VO.c (.geq) ?_
        refine VO.c (.move rfl) ?_
        refine VO.cg (r := decide ((65 : Int) ≤ (byteE s ((i : Nat) : Int)))) (w := true) [] trivial (fun hgd => have g7_9 : (65 : Int) ≤ (byteE s ((i : Nat) : Int)) := (by simpa using hgd); (.move rfl)) ?_
        refine VO.cg (r := decide ((65 : Int) ≤ (byteE s ((i : Nat) : Int)))) (w := true) [(32, .v (.int .u8) (byteE s ((i : Nat) : Int)))] ⟨rfl, trivial⟩ (fun hgd => have g7_9 : (65 : Int) ≤ (byteE s ((i : Nat) : Int)) := (by simpa using hgd); (.leq)) ?_
        refine VO.c (.and) ?_
        refine VO.c (.pickF rfl rfl) ?_
        refine VO.nil ?_
        exact ⟨⟨rfl, rfl, rfl, slE rfl (by rw [Bool.eq_iff_iff]; simp [letterB] <;> omega), trivial⟩, rfl⟩
      refine VO.skip ?_
      refine VO.skip ?_
      refine VO.c (.pickF rfl rfl) ?_
      refine VO.c (.move rfl) ?_
      refine VO.c (.move rfl) ?_
      refine VO.c (.geq) ?_
      refine VO.c (.move rfl) ?_
      refine VO.cg (r := decide ((65 : Int) ≤ (byteE s ((i : Nat) : Int)))) (w := true) [] trivial (fun hgd => have g7_9 : (65 : Int) ≤ (byteE s ((i : Nat) : Int)) := (by simpa using hgd); (.move rfl)) ?_
      refine VO.cg (r := decide ((65 : Int) ≤ (byteE s ((i : Nat) : Int)))) (w := true) [(32, .v (.int .u8) (byteE s ((i : Nat) : Int)))] ⟨rfl, trivial⟩ (fun hgd => have g7_9 : (65 : Int) ≤ (byteE s ((i : Nat) : Int)) := (by simpa using hgd); (.leq)) ?_
      refine VO.c (.and) ?_
      refine VO.c (.pickF rfl rfl) ?_
      refine VO.nil ?_
      exact ⟨⟨rfl, rfl, rfl, slE rfl (by rw [Bool.eq_iff_iff]; simp [letterB] <;> omega), trivial⟩, rfl⟩
    refine VC.condB rfl (fun c7 => ?_) (fun c7 => ?_)
    · have hok : byteB (byteE s i) i = true := by rw [byteB, c7] <;> rfl
      refine VC.exit (VC.text ?_)
      refine VO.c (.move rfl) ?_
      refine VO.c (.add rfl rfl (by omega)) ?_
      refine VO.c (.assign rfl) ?_
      refine VO.nil ?_
      refine ⟨_, [(0, St s), (3, I (((i + 1) : Nat) : Int))], ?_, ⟨rfl, rfl, trivial⟩, (i + 1), rfl, rfl, rfl, (by omega), (by intro k hk; rcases Nat.lt_succ_iff_lt_or_eq.1 hk with h | h; exact hq k h; subst h; exact hok)⟩
      omega
    refine VC.skip (VC.seq ?_)
    refine VC.join [(0, St s), (3, I ((i : Nat) : Int)), (49, B (!(decide (i ≠ 0) && otherB (byteE s i))))] [] ?_ ?_
    · skip
      refine VC.text ?_
      refine VO.c (.move rfl) ?_
      refine VO.c (.eql) ?_
      refine VO.c (.move rfl) ?_
      refine VO.splitD (x := 38) rfl (fun g8_2 => ?_) (fun g8_2 => ?_)
      · refine VO.skip ?_
        refine VO.skip ?_
        refine VO.skip ?_
        refine VO.skip ?_
        refine VO.skip ?_
        refine VO.skip ?_
        refine VO.skip ?_
        refine VO.skip ?_
        refine VO.skip ?_
        refine VO.skip ?_
        refine VO.c (.pickT rfl rfl) ?_
        refine VO.nil ?_
        exact ⟨⟨rfl, rfl, slE rfl (by rw [Bool.eq_iff_iff]; simp [otherB] <;> omega), trivial⟩, rfl⟩
      refine VO.c (.move rfl) ?_
      refine VO.c (.neq) ?_
      refine VO.c (.move rfl) ?_
      refine VO.splitD (x := 41) rfl (fun g8_5 => ?_) (fun g8_5 => ?_)
      · refine VO.c (.move rfl) ?_
        refine VO.c (.lss) ?_
        refine VO.c (.move rfl) ?_
        refine VO.cg (r := decide ((byteE s ((i : Nat) : Int)) < (48 : Int))) (w := false) [] trivial (fun hgd => have g8_8 : ¬ ((byteE s ((i : Nat) : Int)) < (48 : Int)) := (by simpa using hgd); (.move rfl)) ?_
        refine VO.cg (r := decide ((byteE s ((i : Nat) : Int)) < (48 : Int))) (w := false) [(45, .v (.int .u8) (byteE s ((i : Nat) : Int)))] ⟨rfl, trivial⟩ (fun hgd => have g8_8 : ¬ ((byteE s ((i : Nat) : Int)) < (48 : Int)) := (by simpa using hgd); (.gtr)) ?_
        refine VO.c (.or) ?_
        refine VO.c (.pickT rfl rfl) ?_
        refine VO.c (.pickF rfl rfl) ?_
        refine VO.nil ?_
        exact ⟨⟨rfl, rfl, slE rfl (by rw [Bool.eq_iff_iff]; simp [otherB] <;> omega), trivial⟩, rfl⟩
      refine VO.skip ?_
      refine VO.skip ?_
      refine VO.skip ?_
      refine VO.skip ?_
      refine VO.skip ?_
      refine VO.skip ?_
      refine VO.c (.pickF rfl rfl) ?_
      refine VO.c (.pickF rfl rfl) ?_
      refine VO.nil ?_
      exact ⟨⟨rfl, rfl, slE rfl (by rw [Bool.eq_iff_iff]; simp [otherB] <;> omega), trivial⟩, rfl⟩
    refine VC.condB rfl (fun c8 => ?_) (fun c8 => ?_)
    · try simp only [Bool.and_eq_true, Bool.or_eq_true, Bool.and_eq_false_iff, Bool.or_eq_false_iff, Bool.not_eq_true', Bool.not_eq_false', decide_eq_true_eq, decide_eq_false_iff_not] at c8
      refine VC.seq (VC.text ?_)
      refine VO.c (.assign rfl) ?_
      refine VO.go ?_
      refine VC.ret ?_
      exact VEnd.one rfl evT (pvE (by exact nameB_f (i := i) (by omega) (by simp only [byteB, c7, Bool.false_or, Bool.and_eq_false_iff, decide_eq_false_iff_not]; exact c8)))
    try simp only [Bool.and_eq_true, Bool.or_eq_true, Bool.and_eq_false_iff, Bool.or_eq_false_iff, Bool.not_eq_true', Bool.not_eq_false', decide_eq_true_eq, decide_eq_false_iff_not] at c8
    have hok : byteB (byteE s i) i = true := by simp [byteB, *]
    refine VC.skip (VC.text ?_)
    refine VO.c (.move rfl) ?_
    refine VO.c (.add rfl rfl (by omega)) ?_
    refine VO.c (.assign rfl) ?_
    refine VO.nil ?_
    refine ⟨_, [(0, St s), (3, I (((i + 1) : Nat) : Int))], ?_, ⟨rfl, rfl, trivial⟩, (i + 1), rfl, rfl, rfl, (by omega), (by intro k hk; rcases Nat.lt_succ_iff_lt_or_eq.1 hk with h | h; exact hq k h; subst h; exact hok)⟩
    omega
  refine VC.exit (VC.seq (VC.text ?_))
  refine VO.c (.assign rfl) ?_
  refine VO.go ?_
  refine VC.ret ?_
  exact VEnd.one rfl evT (pvE (by exact nameB_t (by omega) (by omega) (fun k hk => hq k (by omega))))
end Go.Proofs
namespace Go.Proofs
open Go.Fs
set_option linter.unusedVariables false
end Go.Proofs
namespace Go.Proofs.Sp
abbrev Sp := Int × Int
def Canon (m : Int) (l : List Sp) : Prop := (∀ s ∈ l, 0 ≤ s.1 ∧ s.1 < s.2 ∧ s.2 ≤ m) ∧ l.Pairwise fun s u => s.2 < u.1
def edgeE (l : List Sp) (d : Int) : List (Int × Int) := l.flatMap fun s => [(s.1, d), (s.2, -d)]
def sumTo : List (Int × Int) → Int → Int
  | [], _ => 0
  | e :: r, t => (if e.1 ≤ t then e.2 else 0) + sumTo r t
def scan1 (p : Int → Bool) (t : Int) (S : Int × List Sp) : Int × List Sp :=
  if p t = true ∧ S.1 < 0 then (t, S.2) else if p t = false ∧ 0 ≤ S.1 then (-1, S.2 ++ [(S.1, t)]) else S
def scanE (p : Int → Bool) : Nat → Int × List Sp
  | 0 => (-1, [])
  | t + 1 => scan1 p t (scanE p t)
def pE (ch : Int → Bool) (L : List (Int × Int)) (t : Int) : Bool := ch (sumTo L t)
structure CombI (ch : Int → Bool) (L l : List (Int × Int)) (st fr : Int) (out : List Sp) (v : Nat) : Prop where
  done : ∃ d, L = d ++ l ∧ ∀ e ∈ d, e.1 < v
  rest : ∀ e ∈ l, (v : Int) ≤ e.1
  state : st = sumTo L ((v : Int) - 1)
  outs : out = (scanE (pE ch L) v).2
  open_ : 0 ≤ (scanE (pE ch L) v).1 ↔ ch st = true
  from_ : ch st = true → fr = (scanE (pE ch L) v).1
end Go.Proofs.Sp
namespace Go.Proofs.Sp
end Go.Proofs.Sp
namespace Go.Proofs
open Go.Fs
set_option linter.unusedVariables false
set_option maxHeartbeats 2000000
end Go.Proofs
namespace Go.Fs
variable {P : Program} {fl : VL} {σ : Sto} {T T' : TypeId} {x y : Operand}
end Go.Fs
namespace Go.Proofs
open Go.Fs
set_option linter.unusedVariables false
set_option maxHeartbeats 2000000

end Go.Proofs
namespace Go.Proofs
open Go.Fs
set_option linter.unusedVariables false
set_option maxHeartbeats 2000000
theorem zt3 : ZerT Tryz.prog 3 (.int .i64) := zerT_of (z := .int .i64 0) (by kernel_rfl) rfl rfl
@[irreducible] def zeros : List Int := List.replicate 100001 0
end Go.Proofs
namespace Go.Fs
variable {P : Program} {fl : VL} {σ : Sto} {T : TypeId} {x y : Operand} {τ : Ty}
end Go.Fs
namespace Go.Proofs
open Go.Fs
set_option linter.unusedVariables false
set_option maxHeartbeats 2000000
theorem ltE {x y : Int × Int} : Go.Proofs.ltOf cmpE x y = decide (x.1 < y.1) := by
  unfold Go.Proofs.ltOf cmpE Lib.compareInt
  by_cases h1 : x.1 < y.1
  · simp [h1]
  by_cases h2 : y.1 < x.1 <;> simp [h1, h2]
theorem swoE : Go.Sort.SWO (Go.Proofs.ltOf cmpE) where
  irrefl x := by rw [ltE]; simp
  trans x y z h1 h2 := by rw [ltE] at *; simp at *; omega
  ntrans x y z h1 h2 := by rw [ltE] at *; simp at *; omega
end Go.Proofs
namespace Go.Proofs.Sp
structure EdgesOf (a b : List Sp) (L : List (Int × Int)) : Prop where
  ca : Canon 100000 a
  cb : Canon 100000 b
  perm : L.Perm (edgeE a 1 ++ edgeE b 2)
  sorted : L.Pairwise fun x y => x.1 ≤ y.1
end Go.Proofs.Sp
namespace Go.Proofs
open Go.Fs
set_option linter.unusedVariables false
set_option maxHeartbeats 2000000
theorem firstE_zero {l : List Int} : firstE l = 0 ↔ ∀ x ∈ l, x = 0 := by
  induction l with
  | nil => exact ⟨fun _ x hx => (by cases hx), fun _ => rfl⟩
  | cons y l ih =>
    rw [firstE]
    by_cases h : y = 0
    · rw [if_pos h, ih]
      exact ⟨fun h2 x hx => (by rcases List.mem_cons.1 hx with rfl | hx; exact h; exact h2 x hx), fun h2 x hx => h2 x (List.mem_cons_of_mem _ hx)⟩
    rw [if_neg h]
    exact ⟨fun h2 => absurd h2 h, fun h2 => h2 y List.mem_cons_self⟩
end Go.Proofs
namespace Go.Proofs
open Go.Fs
set_option linter.unusedVariables false
set_option maxHeartbeats 2000000
theorem awake_ok : VF Tryz.prog OA 15 [] (B true) := VF.oracle (fun _ => rfl) fun _ _ => ⟨rfl, rfl⟩
theorem four {P : Int → Prop} (h0 : P 0) (h1 : P 1) (h2 : P 2) (h3 : P 3) : ∀ n : Int, 0 ≤ n ∧ n < 4 → P n := fun n hn => by
  have h : n = 0 ∨ n = 1 ∨ n = 2 ∨ n = 3 := by omega
  rcases h with rfl | rfl | rfl | rfl <;> assumption
theorem lFirst_ok {l : List Int} (hl : l.length < 1000000) : VF Tryz.prog OA 17 [.v y37 l] (I (firstE l)) := by
  refine VF.enter Tryz.func17 rfl (fun _ _ => rfl) rfl ?_
  show VC _ _ _ _ _ [(0, .v y37 l)] [] _
  refine VC.seq (VC.text ?_)
  refine VO.c (.assign rfl) ?_
  refine VO.go (VC.seq (VC.text ?_))
  refine VO.c (.move rfl) ?_
  refine VO.call rfl rfl (VF.call (rFirst_ok (by first | assumption | omega | simp))) ?_
  refine VO.c (.assign rfl) ?_
  refine VO.go ?_
  refine VC.ret ?_
  exact VEnd.one rfl evT (pvI (by rfl))
end Go.Proofs
namespace Go.Fs
variable {P : Program} {h : Heap} {S : List Nat} {σ : Sto} {t : Tr} {fl : VL} {x : Operand} {T e : TypeId} {τ : Ty}
end Go.Fs
namespace Go.Fs
variable {P : Program} {σ : Sto} {fl : VL} {x y : Operand} {T T' : TypeId} {p q : Bool}
theorem equal_bool (hT : P.underlying T = some .bool) : runPure P (Op.equal T (.bool p) (.bool q)) = some (p == q) := by
  unfold Op.equal
  rw [show Op.maxDepth = 9999 + 1 from rfl, Op.equalIn]
  simp only [runPure_bind, runPure_underlying hT, Option.bind_some, runPure_pure]
theorem CalmV.beql (hT : P.underlying T = some .bool := by kernel_rfl) (hx : evV fl x = some (.v .bool p) := by rfl) (hy : evV fl y = some (.v .bool q) := by rfl) : CalmV P fl σ (.binOp .eql T x y T') (.v .bool (p == q)) :=
  .bin hx hy fun h S a c ha hc => by
    obtain rfl := RepV.bool ha
    obtain rfl := RepV.bool hc
    refine ⟨.bool (p == q), RepV.ofBool _, rfl, ?_⟩
    have h1 : runPure P (Op.equal T (.bool p) (.bool q) >>= fun b => pure (Value.bool b)) = some (.bool (p == q)) := by
      rw [runPure_bind, equal_bool hT]; rfl
    unfold purely
    show (runPure P (Op.equal T (.bool p) (.bool q) >>= fun b => pure (Value.bool b))).bind _ = _
    rw [h1]; rfl
end Go.Fs
namespace Go.Proofs
open Go.Fs
set_option linter.unusedVariables false
set_option maxHeartbeats 2000000

def nextX (x : Int) : Int := (742938285 * x).tmod 2147483647
def drE : Nat → Int → List Int → List Int
  | 0, _, o => o
  | 1, _, o => o
  | m + 2, x, o => drE (m + 1) (nextX x) (swp o (m + 1) ((nextX x).tmod ((m : Int) + 2)).toNat 0)
def rngE (n i : Nat) : List Int := (List.range i).map (fun j : Nat => (j : Int)) ++ List.replicate (n - i) 0
def drawE (key : Int) (n : Nat) : List Int := drE n key (rngE n n)
theorem rng_len {n i : Nat} (h : i ≤ n) : (rngE n i).length = n := by simp [rngE]; omega
theorem rng_set {n i : Nat} (h : i < n) : (rngE n i).set i (i : Int) = rngE n (i + 1) := by
  unfold rngE
  obtain ⟨k, hk⟩ : ∃ k, n - i = k + 1 := ⟨n - i - 1, by omega⟩
  rw [List.set_append_right _ _ (by simp), hk, show n - (i + 1) = k by omega]
  simp [List.range_succ, List.replicate_succ]
theorem next_ok {x : Int} (h0 : 0 ≤ x) : 0 ≤ nextX x ∧ nextX x < 2147483647 := by
  unfold nextX
  rw [Int.tmod_eq_emod_of_nonneg (by omega)]
  omega
theorem rDraw_ok {key : Int} {n : Nat} (h0 : 0 ≤ key) (h1 : key < 4294967296) (hn : n ≤ 100000) : VF Tryz.prog OA 31 [I key, I ((n : Nat) : Int)] (.v y37 (drawE key n)) := by
  refine VF.enter Tryz.func31 rfl (fun _ _ => rfl) rfl ?_
  show VC _ _ _ _ _ [(0, I key), (1, I ((n : Nat) : Int))] [] _
  refine VC.seq (VC.text ?_)
  refine VO.c (.assign rfl) ?_
  refine VO.go (VC.seq (VC.text ?_))
  refine VO.c (.move rfl) ?_
  refine VO.cell (.make (k := n) rfl rfl el37 zt3 (by omega)) ?_
  intro ww1
  refine VO.c (.assign rfl) ?_
  refine VO.go (VC.seq (VC.seq (VC.text ?_)))
  refine VO.c (.assign rfl) ?_
  refine VO.go (VC.block ?_)
  refine VC.keep [(0, I key), (1, I ((n : Nat) : Int)), (5, .raw ww1), (6, I ((0 : Nat) : Int))] ⟨rfl, rfl, rfl, rfl, trivial⟩ ?_
  refine VC.loop (I := fun kk ff ss => ∃ (i : Nat), kk = n - i ∧ ff = [(0, I key), (1, I ((n : Nat) : Int)), (5, .raw ww1), (6, I ((i : Nat) : Int))] ∧ ss = [(ww1, .row 3 (.int .i64) (rngE n i))] ∧ (i ≤ n)) ?_ _ _ _ ⟨0, rfl, rfl, (by rw [show rngE n 0 = List.replicate n (0 : Int) by simp [rngE]] <;> rfl), Nat.zero_le _⟩
  rintro kk ff ss ⟨i, hk0, rfl, rfl, hi⟩
  have hl := rng_len hi
  refine VC.seq (VC.seq (VC.text ?_))
  refine VO.c (.move rfl) ?_
  refine VO.c (.move rfl) ?_
  refine VO.c (.lss) ?_
  refine VO.go ?_
  refine VC.condD rfl (fun c3 => ?_) (fun c3 => ?_)
  · refine VC.skip (VC.seq (VC.block (VC.text ?_)))
    refine VO.c (.move rfl) ?_
    refine VO.c (.move rfl) ?_
    refine VO.c (.move rfl) ?_
    refine VO.c (.ixO (j := i) rfl rfl m0 el37 (by omega)) ?_
    refine VO.setE i rfl rfl vt3 (by omega) ?_
    refine VO.nil (VC.text ?_)
    refine VO.c (.move rfl) ?_
    refine VO.c (.add rfl rfl (by omega)) ?_
    refine VO.c (.assign rfl) ?_
    refine VO.nil ?_
    refine ⟨_, [(0, I key), (1, I ((n : Nat) : Int)), (5, .raw ww1), (6, I (((i + 1) : Nat) : Int))], ?_, ⟨rfl, rfl, rfl, rfl, trivial⟩, (i + 1), rfl, rfl, (by rw [rng_set (show i < n by omega)]), (by omega)⟩
    omega
  refine VC.exit (VC.seq (VC.text ?_))
  refine VO.c (.move rfl) ?_
  refine VO.c (.assign rfl) ?_
  refine VO.go (VC.seq (VC.seq (VC.text ?_)))
  refine VO.c (.move rfl) ?_
  refine VO.c (.sub rfl rfl (by omega)) ?_
  refine VO.c (.assign rfl) ?_
  refine VO.go (VC.block ?_)
  refine VC.keep [(5, .raw ww1), (7, I key), (8, I (((n : Nat) : Int) - 1))] ⟨rfl, rfl, rfl, trivial⟩ ?_
  refine VC.loop (I := fun kk ff ss => ∃ (m : Nat) (x : Int) (o : List Int), kk = m ∧ ff = [(5, .raw ww1), (7, I x), (8, I (((m : Nat) : Int) - 1))] ∧ ss = [(ww1, .row 3 (.int .i64) o)] ∧ (m ≤ n) ∧ (0 ≤ x ∧ x < 4294967296) ∧ (o.length = n) ∧ (drawE key n = drE m x o)) ?_ _ _ _ ⟨n, key, rngE n n, rfl, rfl, (by rw [show i = n by omega]), (by omega), (by omega), (by exact rng_len (Nat.le_refl _)), (by rfl)⟩
  rintro kk ff ss ⟨m, x, o, hk2, rfl, rfl, hm, hx, ho, hd⟩
  refine VC.seq (VC.seq (VC.text ?_))
  refine VO.c (.move rfl) ?_
  refine VO.c (.gtr) ?_
  refine VO.go ?_
  refine VC.condD rfl (fun c8 => ?_) (fun c8 => ?_)
  · have hm2 : 2 ≤ m := by omega
    have hnx := next_ok hx.1
    refine VC.skip (VC.seq (VC.block (VC.seq (VC.text ?_))))
    refine VO.c (.move rfl) ?_
    rw [show ((m : Nat) : Int) - 1 = ((m - 1 : Nat) : Int) by omega]
    refine VO.c (.mul rfl rfl (by omega)) ?_
    refine VO.c (.rem rfl rfl (by decide)) ?_
    rw [show (742938285 * x).tmod 2147483647 = nextX x from rfl]
    refine VO.c (.assign rfl) ?_
    refine VO.go (VC.seq (VC.text ?_))
    refine VO.c (.move rfl) ?_
    refine VO.c (.move rfl) ?_
    refine VO.c (.add rfl rfl (by omega)) ?_
    refine VO.c (.rem rfl rfl (by omega)) ?_
    have hk : 0 ≤ (nextX x).tmod (((m - 1 : Nat) : Int) + (1 : Int)) ∧ (nextX x).tmod (((m - 1 : Nat) : Int) + (1 : Int)) < m := by
      rw [Int.tmod_eq_emod_of_nonneg hnx.1]
      have := Int.emod_lt_of_pos (nextX x) (show (0 : Int) < ((m - 1 : Nat) : Int) + 1 by omega)
      have := Int.emod_nonneg (nextX x) (show (((m - 1 : Nat) : Int) + 1) ≠ 0 by omega)
      omega
    refine VO.c (.assign rfl) ?_
    refine VO.go (VC.drawn ?_)
    refine VD.c (.move rfl) ?_
    refine VD.c (.move rfl) ?_
    refine VD.c (.move rfl) ?_
    refine VD.c (.move rfl) ?_
    refine VD.c (.move rfl) ?_
    refine VD.c (.move rfl) ?_
    refine VD.nw [] ?_
    refine VD.co (.ixOZ (k := ((nextX x).tmod (((m - 1 : Nat) : Int) + (1 : Int)))) rfl rfl m0 el37 (by omega) (by omega)) ?_
    refine VD.r [(ww1, .row 3 (.int .i64) o)] (.ldOD 0 rfl m0 vt3 (by omega)) (.inr ⟨rfl, rfl⟩) ?_
    refine VD.c (.move rfl) ?_
    refine VD.c (.move rfl) ?_
    refine VD.co (.ixO (j := (m - 1)) rfl rfl m0 el37 (by omega)) ?_
    refine VD.r [(ww1, .row 3 (.int .i64) o)] (.ldOD 0 rfl m0 vt3 (by omega)) (.inr ⟨rfl, rfl⟩) ?_
    refine VD.co (.ixO (j := (m - 1)) rfl rfl m0 el37 (by omega)) ?_
    refine VD.nw [] ?_
    refine VD.mk0 (MakeV.setE (j := (m - 1)) vt3 (by omega) rfl rfl) ?_
    rintro _ _ tl2 ⟨rfl, rfl⟩
    refine VD.co (.ixOZ (k := ((nextX x).tmod (((m - 1 : Nat) : Int) + (1 : Int)))) rfl rfl m0 el37 (by omega) (by simp; omega)) ?_
    refine VD.mk0 (MakeV.setE (j := (Int.toNat ((nextX x).tmod (((m - 1 : Nat) : Int) + (1 : Int))))) vt3 (by simp; omega) rfl rfl) ?_
    rintro _ _ tl3 ⟨rfl, rfl⟩
    refine VD.nil ?_
    refine VC.text ?_
    refine VO.c (.move rfl) ?_
    refine VO.c (.sub rfl rfl (by omega)) ?_
    refine VO.c (.assign rfl) ?_
    refine VO.nil ?_
    refine ⟨_, [(5, .raw ww1), (7, I (nextX x)), (8, I ((((m - 1) : Nat) : Int) - 1))], ?_, ⟨rfl, slI rfl (by first | rfl | simp | omega), slI rfl (by omega), trivial⟩, (m - 1), (nextX x), (swp o (m - 1) ((nextX x).tmod (((m - 1 : Nat) : Int) + (1 : Int))).toNat 0), rfl, rfl, (by rfl), (by omega), (by have := next_ok hx.1; omega), (by rw [swp_len]; exact ho), (by obtain ⟨q, rfl⟩ : ∃ q, m = q + 2 := ⟨m - 2, by omega⟩; rw [hd, drE, show q + 2 - 1 = q + 1 from rfl, show (((q + 1 : Nat) : Int)) + (1 : Int) = (q : Int) + 2 by omega])⟩
    omega
  refine VC.exit (VC.seq (VC.text ?_))
  refine VO.c (.move rfl) ?_
  refine VO.c (.assign rfl) ?_
  refine VO.go ?_
  refine VC.ret ?_
  exact VEnd.one rfl (evC (.row m0)) (pvE (by rw [hd]; have h01 : m = 0 ∨ m = 1 := (by omega); rcases h01 with h | h <;> subst h <;> rfl))
def drawC (key n : Int) : Int := firstE [rangeE key 1 2147483646, rangeE n 0 256]
theorem rangeE_zero {n lo hi : Int} : rangeE n lo hi = 0 ↔ lo ≤ n ∧ n ≤ hi := by
  unfold rangeE
  split
  · exact ⟨fun h => absurd h (by decide), fun h => by omega⟩
  exact ⟨fun _ => by omega, fun _ => rfl⟩
theorem drawC_zero {key n : Int} : drawC key n = 0 ↔ (1 ≤ key ∧ key ≤ 2147483646) ∧ 0 ≤ n ∧ n ≤ 256 := by
  unfold drawC
  rw [firstE_zero]
  simp [rangeE_zero]
def drawP (key n : Int) : List Int := if drawC key n = 0 then drawE key n.toNat else []
theorem gDraw_ok {key : Int} {n : Int} : VF Tryz.prog OA 29 [I key, I n] (.tup [.v y37 (drawP key n), I (drawC key n)]) := by
  refine VF.enter Tryz.func29 rfl (fun _ _ => rfl) rfl ?_
  show VC _ _ _ _ _ [(0, I key), (1, I n)] [] _
  refine VC.seq (VC.text ?_)
  refine VO.c (.assign rfl) ?_
  refine VO.c (.assign rfl) ?_
  refine VO.go (VC.seq (VC.seq (VC.text ?_)))
  refine VO.c (.move rfl) ?_
  refine VO.call rfl rfl (VF.call (gWithin_ok )) ?_
  refine VO.c (.move rfl) ?_
  refine VO.call rfl rfl (VF.call (gWithin_ok )) ?_
  refine VO.new (.lit [rangeE key (1 : Int) (2147483646 : Int), rangeE n (0 : Int) (256 : Int)] el164) ?_
  refine VO.call rfl rfl (VF.call (gFirst_ok (by first | assumption | omega | simp))) ?_
  rw [show firstE [rangeE key 1 2147483646, rangeE n 0 256] = drawC key n from rfl]
  refine VO.c (.assign rfl) ?_
  refine VO.go (VC.seq (VC.text ?_))
  refine VO.c (.move rfl) ?_
  refine VO.c (.neq) ?_
  refine VO.go ?_
  refine VC.condD rfl (fun c2 => ?_) (fun c2 => ?_)
  · refine VC.seq (VC.text ?_)
    refine VO.c (.move rfl) ?_
    refine VO.c (.assign rfl) ?_
    refine VO.c (.assign rfl) ?_
    refine VO.go ?_
    refine VC.ret ?_
    exact VEnd.two rfl (evC .nil) evT (pvE (by exact (if_neg c2).symm)) (pvI (by first | rfl | simp))
  have hc : drawC key n = 0 := Classical.not_not.1 c2
  have hb := drawC_zero.1 hc
  obtain ⟨k, hk⟩ : ∃ k : Nat, n = (k : Int) := ⟨n.toNat, by omega⟩
  subst hk
  refine VC.skip (VC.seq (VC.text ?_))
  refine VO.c (.move rfl) ?_
  skip
  refine VO.cell (.make (k := k) rfl rfl el37 zt3 (by omega)) ?_
  intro ww4
  refine VO.c (.assign rfl) ?_
  refine VO.go (VC.seq (VC.seq (VC.text ?_)))
  refine VO.c (.move rfl) ?_
  refine VO.r (.lenO m0 el37) ?_
  refine VO.c (.move rfl) ?_
  refine VO.go (VC.block ?_)
  refine VC.keep [(0, I key), (1, I ((k : Nat) : Int)), (7, .raw ww4), (23, I (((List.replicate k 0).length : Nat) : Int)), (24, I ((0 : Nat) : Int))] ⟨rfl, rfl, rfl, rfl, rfl, trivial⟩ ?_
  refine VC.loop (I := fun kk ff ss => ∃ (i : Nat), kk = k - i ∧ ff = [(0, I key), (1, I ((k : Nat) : Int)), (7, .raw ww4), (23, I (((List.replicate k 0).length : Nat) : Int)), (24, I ((i : Nat) : Int))] ∧ ss = [(ww4, .row 3 (.int .i64) (rngE k i))] ∧ (i ≤ k)) ?_ _ _ _ ⟨0, rfl, rfl, (by rw [show rngE k 0 = List.replicate k (0 : Int) by simp [rngE]] <;> rfl), Nat.zero_le _⟩
  rintro kk ff ss ⟨i, hk0, rfl, rfl, hi⟩
  have hl := rng_len hi
  have hr := List.length_replicate (n := k) (a := (0 : Int))
  refine VC.seq (VC.text ?_)
  refine VO.c (.lss) ?_
  refine VO.go (VC.seq ?_)
  refine VC.condD rfl (fun c6 => ?_) (fun c6 => ?_)
  · refine VC.skip (VC.seq (VC.block (VC.seq (VC.text ?_))))
    refine VO.c (.move rfl) ?_
    refine VO.c (.assign rfl) ?_
    refine VO.go (VC.text ?_)
    refine VO.c (.move rfl) ?_
    refine VO.c (.move rfl) ?_
    refine VO.c (.move rfl) ?_
    refine VO.c (.ixO (j := i) rfl rfl m0 el37 (by omega)) ?_
    refine VO.setE i rfl rfl vt3 (by omega) ?_
    refine VO.nil (VC.text ?_)
    refine VO.c (.add rfl rfl (by omega)) ?_
    refine VO.c (.move rfl) ?_
    refine VO.nil ?_
    refine ⟨_, [(0, I key), (1, I ((k : Nat) : Int)), (7, .raw ww4), (23, I (((List.replicate k 0).length : Nat) : Int)), (24, I (((i + 1) : Nat) : Int))], ?_, ⟨rfl, rfl, rfl, rfl, rfl, trivial⟩, (i + 1), rfl, rfl, (by rw [rng_set (show i < k by omega)]), (by omega)⟩
    omega
  refine VC.exit (VC.seq (VC.seq (VC.text ?_)))
  refine VO.c (.move rfl) ?_
  refine VO.c (.sub rfl rfl (by omega)) ?_
  refine VO.c (.assign rfl) ?_
  refine VO.go (VC.block ?_)
  refine VC.keep [(0, I key), (7, .raw ww4), (9, I (((k : Nat) : Int) - 1))] ⟨rfl, rfl, rfl, trivial⟩ ?_
  refine VC.loop (I := fun kk ff ss => ∃ (m : Nat) (x : Int) (o : List Int), kk = m ∧ ff = [(0, I x), (7, .raw ww4), (9, I (((m : Nat) : Int) - 1))] ∧ ss = [(ww4, .row 3 (.int .i64) o)] ∧ (m ≤ k) ∧ (0 ≤ x ∧ x < 4294967296) ∧ (o.length = k) ∧ (drawE key k = drE m x o)) ?_ _ _ _ ⟨k, key, rngE k k, rfl, rfl, (by rw [show i = k by (have := List.length_replicate (n := k) (a := (0 : Int)); omega)]), (by omega), (by omega), (by exact rng_len (Nat.le_refl _)), (by rfl)⟩
  rintro kk ff ss ⟨m, x, o, hk2, rfl, rfl, hm, hx, ho, hd⟩
  refine VC.seq (VC.seq (VC.text ?_))
  refine VO.c (.move rfl) ?_
  refine VO.c (.gtr) ?_
  refine VO.go ?_
  refine VC.condD rfl (fun c11 => ?_) (fun c11 => ?_)
  · have hm2 : 2 ≤ m := by omega
    have hnx := next_ok hx.1
    refine VC.skip (VC.seq (VC.block (VC.seq (VC.text ?_))))
    refine VO.c (.move rfl) ?_
    rw [show ((m : Nat) : Int) - 1 = ((m - 1 : Nat) : Int) by omega]
    refine VO.c (.mul rfl rfl (by omega)) ?_
    refine VO.c (.rem rfl rfl (by decide)) ?_
    rw [show (742938285 * x).tmod 2147483647 = nextX x from rfl]
    refine VO.c (.assign rfl) ?_
    refine VO.go (VC.seq (VC.text ?_))
    refine VO.c (.move rfl) ?_
    refine VO.c (.move rfl) ?_
    refine VO.c (.add rfl rfl (by omega)) ?_
    refine VO.c (.rem rfl rfl (by omega)) ?_
    have hkk : 0 ≤ (nextX x).tmod (((m - 1 : Nat) : Int) + (1 : Int)) ∧ (nextX x).tmod (((m - 1 : Nat) : Int) + (1 : Int)) < m := by
      rw [Int.tmod_eq_emod_of_nonneg hnx.1]
      have := Int.emod_lt_of_pos (nextX x) (show (0 : Int) < ((m - 1 : Nat) : Int) + 1 by omega)
      have := Int.emod_nonneg (nextX x) (show (((m - 1 : Nat) : Int) + 1) ≠ 0 by omega)
      omega
    refine VO.c (.assign rfl) ?_
    refine VO.go (VC.drawn ?_)
    refine VD.c (.move rfl) ?_
    refine VD.c (.move rfl) ?_
    refine VD.c (.move rfl) ?_
    refine VD.c (.move rfl) ?_
    refine VD.c (.move rfl) ?_
    refine VD.c (.move rfl) ?_
    refine VD.nw [] ?_
    refine VD.co (.ixOZ (k := ((nextX x).tmod (((m - 1 : Nat) : Int) + (1 : Int)))) rfl rfl m0 el37 (by omega) (by omega)) ?_
    refine VD.r [(ww4, .row 3 (.int .i64) o)] (.ldOD 0 rfl m0 vt3 (by omega)) (.inr ⟨rfl, rfl⟩) ?_
    refine VD.c (.move rfl) ?_
    refine VD.c (.move rfl) ?_
    refine VD.co (.ixO (j := (m - 1)) rfl rfl m0 el37 (by omega)) ?_
    refine VD.r [(ww4, .row 3 (.int .i64) o)] (.ldOD 0 rfl m0 vt3 (by omega)) (.inr ⟨rfl, rfl⟩) ?_
    refine VD.co (.ixO (j := (m - 1)) rfl rfl m0 el37 (by omega)) ?_
    refine VD.nw [] ?_
    refine VD.mk0 (MakeV.setE (j := (m - 1)) vt3 (by omega) rfl rfl) ?_
    rintro _ _ tl5 ⟨rfl, rfl⟩
    refine VD.co (.ixOZ (k := ((nextX x).tmod (((m - 1 : Nat) : Int) + (1 : Int)))) rfl rfl m0 el37 (by omega) (by simp; omega)) ?_
    refine VD.mk0 (MakeV.setE (j := (Int.toNat ((nextX x).tmod (((m - 1 : Nat) : Int) + (1 : Int))))) vt3 (by simp; omega) rfl rfl) ?_
    rintro _ _ tl6 ⟨rfl, rfl⟩
    refine VD.nil ?_
    refine VC.text ?_
    refine VO.c (.move rfl) ?_
    refine VO.c (.sub rfl rfl (by omega)) ?_
    refine VO.c (.assign rfl) ?_
    refine VO.nil ?_
    refine ⟨_, [(0, I (nextX x)), (7, .raw ww4), (9, I ((((m - 1) : Nat) : Int) - 1))], ?_, ⟨slI rfl (by first | rfl | simp | omega), rfl, slI rfl (by omega), trivial⟩, (m - 1), (nextX x), (swp o (m - 1) ((nextX x).tmod (((m - 1 : Nat) : Int) + (1 : Int))).toNat 0), rfl, rfl, (by rfl), (by omega), (by have := next_ok hx.1; omega), (by rw [swp_len]; exact ho), (by obtain ⟨q, rfl⟩ : ∃ q, m = q + 2 := ⟨m - 2, by omega⟩; rw [hd, drE, show q + 2 - 1 = q + 1 from rfl, show (((q + 1 : Nat) : Int)) + (1 : Int) = (q : Int) + 2 by omega])⟩
    omega
  refine VC.exit (VC.seq (VC.text ?_))
  refine VO.c (.move rfl) ?_
  refine VO.c (.assign rfl) ?_
  refine VO.c (.assign rfl) ?_
  refine VO.go ?_
  refine VC.ret ?_
  exact VEnd.two rfl (evC (.row m0)) evT (pvE (by rw [drawP, if_pos hc, Int.toNat_natCast, hd]; have h01 : m = 0 ∨ m = 1 := (by omega); rcases h01 with h | h <;> subst h <;> rfl)) (pvI (by exact hc.symm))
end Go.Proofs
namespace Go.Proofs
open Go.Fs
set_option linter.unusedVariables false
set_option maxHeartbeats 2000000
abbrev y41 : Ty := (.pair (.int .i64) (.int .i64))
abbrev y43 : Ty := (.pair (.int .i64) (.int .i64))
theorem vt43 : ValT Tryz.prog 43 y43 := valT_of (by kernel_rfl)
theorem zt43 : ZerT Tryz.prog 43 y43 := zerT_of (z := .agg #[.int .i64 0, .int .i64 0]) (by kernel_rfl) rfl rfl
theorem bt43 : BldT Tryz.prog 43 y43 [(0, 1), (1, 1)] := bldT_of zt43 rfl (by kernel_rfl)
theorem eq43 : EqT Tryz.prog 43 y43 := eqT_of (by kernel_rfl)
def gcdE (x : Int × Int) : Nat := Nat.gcd x.1.natAbs x.2.toNat
def ratC (x : Int × Int) : Int := firstE [rangeE x.1 (-999999999) 999999999, rangeE x.2 1 999999999]
theorem ratC_zero {x : Int × Int} : ratC x = 0 ↔ (-999999999 ≤ x.1 ∧ x.1 ≤ 999999999) ∧ 1 ≤ x.2 ∧ x.2 ≤ 999999999 := by
  unfold ratC
  rw [firstE_zero]
  simp [rangeE_zero]
def ratioE (x : Int × Int) : Int := if ratC x = 0 then whenE (decide (((gcdE x : Nat) : Int) ≠ 1)) 1 else ratC x
theorem gcd_pos {x : Int × Int} (h : 1 ≤ x.2) : 1 ≤ gcdE x := Nat.gcd_pos_of_pos_right _ (by omega)
theorem tdiv_rng {n d m : Int} (h : -m ≤ n ∧ n ≤ m) (hd : 1 ≤ d) : -m ≤ n.tdiv d ∧ n.tdiv d ≤ m := by
  have h1 : (n.tdiv d).natAbs ≤ n.natAbs := by rw [Int.natAbs_tdiv]; exact Nat.div_le_self _ _
  omega
theorem low_iff {x : Int × Int} (h : 1 ≤ x.2) : x ≠ (x.1.tdiv ((gcdE x : Nat) : Int), x.2.tdiv ((gcdE x : Nat) : Int)) ↔ ((gcdE x : Nat) : Int) ≠ 1 := by
  have hg := gcd_pos h
  refine not_congr ⟨fun e => ?_, fun e => ?_⟩
  · have e2 : x.2 = x.2.tdiv ((gcdE x : Nat) : Int) := congrArg Prod.snd e
    obtain ⟨q, hq⟩ : ∃ q : Nat, x.2 = (q : Int) := ⟨x.2.toNat, by omega⟩
    rw [hq, ← Int.ofNat_tdiv] at e2
    have e3 : q = q / gcdE x := by exact_mod_cast e2
    by_cases h2 : gcdE x = 1
    · rw [h2] <;> rfl
    have := Nat.div_lt_self (show 0 < q by omega) (show 1 < gcdE x by omega)
    omega
  rw [e, Int.tdiv_one, Int.tdiv_one]
theorem gcd_swap {a b g : Nat} (h : Nat.gcd a b = g) : Nat.gcd b (a % b) = g := by
  rw [← h, Nat.gcd_comm b, ← Nat.gcd_rec b a, Nat.gcd_comm]
theorem gRatio_ok {x : Int × Int} : VF Tryz.prog OA 35 [.v y43 x] (I (ratioE x)) := by
  refine VF.enter Tryz.func35 rfl (fun _ _ => rfl) rfl ?_
  show VC _ _ _ _ _ [(0, .v y43 x)] [] _
  refine VC.seq (VC.text ?_)
  refine VO.new (.box) ?_
  refine VO.c (.assign rfl) ?_
  refine VO.go (VC.seq (VC.seq (VC.drawn ?_)))
  refine VD.c (.fa (.l .o)) ?_
  refine VD.r [] (.ld vt3) (.inl rfl) ?_
  refine VD.call rfl rfl (VF.call (gWithin_ok )) ?_
  refine VD.c (.fa (.r .o)) ?_
  refine VD.r [] (.ld vt3) (.inl rfl) ?_
  refine VD.call rfl rfl (VF.call (gWithin_ok )) ?_
  refine VD.nw [] ?_
  refine VD.new (.lit [rangeE x.1 (-999999999 : Int) (999999999 : Int), rangeE x.2 (1 : Int) (999999999 : Int)] el164) ?_
  refine VD.callO rfl rfl (VF.call (gFirst_ok (by first | assumption | omega | simp))) ?_
  rw [show firstE [rangeE x.1 (-999999999) 999999999, rangeE x.2 1 999999999] = ratC x from rfl]
  refine VD.c (.assign rfl) ?_
  refine VD.go (VC.seq (VC.text ?_))
  refine VO.c (.move rfl) ?_
  refine VO.c (.neq) ?_
  refine VO.go ?_
  refine VC.condD rfl (fun c2 => ?_) (fun c2 => ?_)
  · refine VC.seq (VC.text ?_)
    refine VO.c (.move rfl) ?_
    refine VO.c (.assign rfl) ?_
    refine VO.go ?_
    refine VC.ret ?_
    exact VEnd.one rfl evT (pvI (by exact (if_neg c2).symm))
  have hc : ratC x = 0 := Classical.not_not.1 c2
  have hb := ratC_zero.1 hc
  refine VC.skip (VC.seq (VC.drawn ?_))
  refine VD.c (.fa (.l .o)) ?_
  refine VD.r [] (.ld vt3) (.inl rfl) ?_
  refine VD.c (.fa (.l .o)) ?_
  refine VD.r [] (.ld vt3) (.inl rfl) ?_
  refine VD.c (.neg rfl (by omega)) ?_
  refine VD.r [] (.max) (.inl rfl) ?_
  rw [show max x.1 (-x.1) = ((x.1.natAbs : Nat) : Int) by omega]
  refine VD.nw [] ?_
  refine VD.c (.fa (.r .o)) ?_
  refine VD.r [] (.ld vt3) (.inl rfl) ?_
  refine VD.c (.assign rfl) ?_
  refine VD.c (.assign rfl) ?_
  refine VD.go (VC.seq (VC.block ?_))
  refine VC.keep [(4, I ((x.1.natAbs : Nat) : Int)), (5, I ((x.2.toNat : Nat) : Int))] ⟨rfl, slI rfl (by omega), trivial⟩ ?_
  refine VC.loop (I := fun kk ff ss => ∃ (a : Nat) (b : Nat), kk = b ∧ ff = [(4, I ((a : Nat) : Int)), (5, I ((b : Nat) : Int))] ∧ ss = [] ∧ (Nat.gcd a b = gcdE x) ∧ (a ≤ 999999999) ∧ (b ≤ 999999999)) ?_ _ _ _ ⟨x.1.natAbs, x.2.toNat, rfl, rfl, rfl, (by rfl), (by omega), (by omega)⟩
  rintro kk ff ss ⟨a, b, hk0, rfl, rfl, hg, ha, hbb⟩
  refine VC.seq (VC.seq (VC.text ?_))
  refine VO.c (.move rfl) ?_
  refine VO.c (.neq) ?_
  refine VO.go ?_
  refine VC.condD rfl (fun c5 => ?_) (fun c5 => ?_)
  · refine VC.skip (VC.block (VC.drawn ?_))
    refine VD.c (.move rfl) ?_
    refine VD.c (.move rfl) ?_
    refine VD.c (.move rfl) ?_
    refine VD.c (.rem rfl rfl (by omega)) ?_
    refine VD.c (.assign rfl) ?_
    refine VD.c (.assign rfl) ?_
    refine VD.nil ?_
    refine ⟨_, [(4, I ((b : Nat) : Int)), (5, I (((a % b) : Nat) : Int))], ?_, ⟨rfl, slI rfl (by exact (Int.ofNat_tmod a b).symm), trivial⟩, b, (a % b), rfl, rfl, rfl, (by exact gcd_swap hg), (by omega), (by exact Nat.le_trans (Nat.mod_le _ _) ha)⟩
    have := Nat.mod_lt a (show 0 < b by omega); omega
  have hb0 : b = 0 := by omega
  have ha2 : a = gcdE x := by rw [← hg, hb0, Nat.gcd_zero_right]
  refine VC.exit (VC.seq (VC.text ?_))
  refine VO.c (.move rfl) ?_
  refine VO.c (.neq) ?_
  refine VO.call rfl rfl (VF.call (gWhen_ok )) ?_
  refine VO.c (.assign rfl) ?_
  refine VO.go ?_
  refine VC.ret ?_
  exact VEnd.one rfl evT (pvI (by rw [ratioE, if_pos hc, ← ha2]))
theorem rLowest_ok {n : Int} {d : Int} (hn : -999999999 ≤ n ∧ n ≤ 999999999) (hd : 1 ≤ d ∧ d ≤ 999999999) : VF Tryz.prog OA 85 [I n, I d] (.v y43 (n.tdiv ((gcdE (n, d) : Nat) : Int), d.tdiv ((gcdE (n, d) : Nat) : Int))) := by
  refine VF.enter Tryz.func85 rfl (fun _ _ => rfl) rfl ?_
  show VC _ _ _ _ _ [(0, I n), (1, I d)] [] _
  refine VC.seq (VC.text ?_)
  refine VO.cell (.alloc zt43) ?_
  intro ww1
  refine VO.go (VC.seq (VC.seq (VC.text ?_)))
  refine VO.c (.move rfl) ?_
  refine VO.c (.lss) ?_
  refine VO.go ?_
  refine VC.condD rfl (fun c1 => ?_) (fun c1 => ?_)
  · exact absurd c1 (by omega)
  refine VC.skip (VC.seq (VC.text ?_))
  refine VO.c (.move rfl) ?_
  refine VO.c (.move rfl) ?_
  refine VO.c (.neg rfl (by omega)) ?_
  refine VO.r (.max) ?_
  rw [show max n (-n) = ((n.natAbs : Nat) : Int) by omega]
  refine VO.c (.move rfl) ?_
  refine VO.c (.assign rfl) ?_
  refine VO.c (.assign rfl) ?_
  refine VO.go (VC.seq (VC.block ?_))
  refine VC.keep [(0, I n), (1, I d), (4, .raw ww1), (5, I ((n.natAbs : Nat) : Int)), (6, I ((d.toNat : Nat) : Int))] ⟨rfl, rfl, rfl, rfl, slI rfl (by omega), trivial⟩ ?_
  refine VC.loop (I := fun kk ff ss => ∃ (a : Nat) (b : Nat), kk = b ∧ ff = [(0, I n), (1, I d), (4, .raw ww1), (5, I ((a : Nat) : Int)), (6, I ((b : Nat) : Int))] ∧ ss = [(ww1, .var [I (0 : Int), I (0 : Int)])] ∧ (Nat.gcd a b = gcdE (n, d)) ∧ (a ≤ 999999999) ∧ (b ≤ 999999999)) ?_ _ _ _ ⟨n.natAbs, d.toNat, rfl, rfl, rfl, (by rfl), (by omega), (by omega)⟩
  rintro kk ff ss ⟨a, b, hk0, rfl, rfl, hg, ha, hbb⟩
  refine VC.seq (VC.seq (VC.text ?_))
  refine VO.c (.move rfl) ?_
  refine VO.c (.neq) ?_
  refine VO.go ?_
  refine VC.condD rfl (fun c4 => ?_) (fun c4 => ?_)
  · refine VC.skip (VC.block (VC.drawn ?_))
    refine VD.c (.move rfl) ?_
    refine VD.c (.move rfl) ?_
    refine VD.c (.move rfl) ?_
    refine VD.c (.rem rfl rfl (by omega)) ?_
    refine VD.c (.assign rfl) ?_
    refine VD.c (.assign rfl) ?_
    refine VD.nil ?_
    refine ⟨_, [(0, I n), (1, I d), (4, .raw ww1), (5, I ((b : Nat) : Int)), (6, I (((a % b) : Nat) : Int))], ?_, ⟨rfl, rfl, rfl, rfl, slI rfl (by exact (Int.ofNat_tmod a b).symm), trivial⟩, b, (a % b), rfl, rfl, rfl, (by exact gcd_swap hg), (by omega), (by exact Nat.le_trans (Nat.mod_le _ _) ha)⟩
    have := Nat.mod_lt a (show 0 < b by omega); omega
  have hb0 : b = 0 := by omega
  have ha2 : a = gcdE (n, d) := by rw [← hg, hb0, Nat.gcd_zero_right]
  have hgp : 1 ≤ a := ha2 ▸ gcd_pos (x := (n, d)) hd.1
  have hq1 := tdiv_rng (d := ((a : Nat) : Int)) hn (by omega)
  have hq2 := tdiv_rng (n := d) (m := 999999999) (d := ((a : Nat) : Int)) (by omega) (by omega)
  refine VC.exit (VC.seq (VC.drawn ?_))
  refine VD.c (.move rfl) ?_
  refine VD.c (.move rfl) ?_
  refine VD.c (.quo rfl rfl (by omega) (by omega)) ?_
  refine VD.c (.move rfl) ?_
  refine VD.c (.move rfl) ?_
  refine VD.c (.quo rfl rfl (by omega) (by omega)) ?_
  refine VD.nw [] ?_
  refine VD.c (.build ((n.tdiv ((a : Nat) : Int)), (d.tdiv ((a : Nat) : Int))) bt43) ?_
  refine VD.mk0 (MakeV.setF (k := 0) vt43 .v (Nat.le_of_ble_eq_true rfl) (.inr ⟨rfl, rfl⟩) rfl rfl) ?_
  rintro _ _ tl2 ⟨rfl, rfl⟩
  refine VD.go ?_
  refine VC.ret ?_
  exact VEnd.one rfl (.cell (x := ((n.tdiv ((a : Nat) : Int)), (d.tdiv ((a : Nat) : Int)))) rfl m0 vt43 .refl) (pvE (by rw [ha2]))
theorem rRatio_ok {x : Int × Int} : VF Tryz.prog OA 36 [.v y43 x] (I (ratioE x)) := by
  refine VF.enter Tryz.func36 rfl (fun _ _ => rfl) rfl ?_
  show VC _ _ _ _ _ [(0, .v y43 x)] [] _
  refine VC.seq (VC.text ?_)
  refine VO.new (.box) ?_
  refine VO.c (.assign rfl) ?_
  refine VO.go (VC.seq (VC.seq (VC.drawn ?_)))
  refine VD.c (.fa (.l .o)) ?_
  refine VD.r [] (.ld vt3) (.inl rfl) ?_
  refine VD.call rfl rfl (VF.call (rCheckRange_ok )) ?_
  refine VD.c (.fa (.r .o)) ?_
  refine VD.r [] (.ld vt3) (.inl rfl) ?_
  refine VD.call rfl rfl (VF.call (rCheckRange_ok )) ?_
  refine VD.nw [] ?_
  refine VD.new (.lit [rangeE x.1 (-999999999 : Int) (999999999 : Int), rangeE x.2 (1 : Int) (999999999 : Int)] el37) ?_
  refine VD.callO rfl rfl (VF.call (rFirst_ok (by first | assumption | omega | simp))) ?_
  rw [show firstE [rangeE x.1 (-999999999) 999999999, rangeE x.2 1 999999999] = ratC x from rfl]
  refine VD.c (.assign rfl) ?_
  refine VD.go (VC.seq (VC.text ?_))
  refine VO.c (.move rfl) ?_
  refine VO.c (.neq) ?_
  refine VO.go ?_
  refine VC.condD rfl (fun c2 => ?_) (fun c2 => ?_)
  · refine VC.seq (VC.text ?_)
    refine VO.c (.move rfl) ?_
    refine VO.c (.assign rfl) ?_
    refine VO.go ?_
    refine VC.ret ?_
    exact VEnd.one rfl evT (pvI (by exact (if_neg c2).symm))
  have hc : ratC x = 0 := Classical.not_not.1 c2
  have hb := ratC_zero.1 hc
  refine VC.skip (VC.seq (VC.seq (VC.drawn ?_)))
  refine VD.r [] (.ld vt43) (.inl rfl) ?_
  refine VD.c (.fa (.l .o)) ?_
  refine VD.r [] (.ld vt3) (.inl rfl) ?_
  refine VD.c (.fa (.r .o)) ?_
  refine VD.r [] (.ld vt3) (.inl rfl) ?_
  refine VD.call rfl rfl (VF.call (rLowest_ok (by first | assumption | omega | simp) (by first | assumption | omega | simp))) ?_
  refine VD.nw [] ?_
  refine VD.c (.eneq eq43) ?_
  refine VD.go ?_
  refine VC.condD rfl (fun c4 => ?_) (fun c4 => ?_)
  · refine VC.seq (VC.text ?_)
    refine VO.c (.assign rfl) ?_
    refine VO.go ?_
    refine VC.ret ?_
    exact VEnd.one rfl evT (pvI (by rw [ratioE, if_pos hc, decide_eq_true ((low_iff hb.2.1).1 c4)] <;> rfl))
  refine VC.skip (VC.seq (VC.text ?_))
  refine VO.c (.assign rfl) ?_
  refine VO.go ?_
  refine VC.ret ?_
  exact VEnd.one rfl evT (pvI (by rw [ratioE, if_pos hc, decide_eq_false (fun h => c4 ((low_iff hb.2.1).2 h))] <;> rfl))
theorem rSameI_ok {a : List Int} {b : List Int} (ha : a.length < 1000000) (hb : b.length < 1000000) : VF Tryz.prog OA 34 [.v y37 a, .v y37 b] (B (decide (a = b))) := by
  refine VF.enter Tryz.func34 rfl (fun _ _ => rfl) rfl ?_
  show VC _ _ _ _ _ [(0, .v y37 a), (1, .v y37 b)] [] _
  refine VC.seq (VC.text ?_)
  refine VO.c (.assign rfl) ?_
  refine VO.go (VC.seq (VC.seq (VC.text ?_)))
  refine VO.c (.move rfl) ?_
  refine VO.r (.len el37) ?_
  refine VO.c (.move rfl) ?_
  refine VO.r (.len el37) ?_
  refine VO.c (.neq) ?_
  refine VO.go ?_
  refine VC.condD rfl (fun c1 => ?_) (fun c1 => ?_)
  · refine VC.seq (VC.text ?_)
    refine VO.c (.assign rfl) ?_
    refine VO.go ?_
    refine VC.ret ?_
    exact VEnd.one rfl evT (pvE (by exact (decide_eq_false (fun e => c1 (by rw [e]))).symm))
  refine VC.skip (VC.seq (VC.seq (VC.text ?_)))
  refine VO.c (.assign rfl) ?_
  refine VO.go (VC.block ?_)
  refine VC.keep [(0, .v y37 a), (1, .v y37 b), (5, I ((0 : Nat) : Int))] ⟨rfl, rfl, rfl, trivial⟩ ?_
  refine VC.loop (I := fun kk ff ss => ∃ (j : Nat), kk = a.length - j ∧ ff = [(0, .v y37 a), (1, .v y37 b), (5, I ((j : Nat) : Int))] ∧ ss = [] ∧ (j ≤ a.length) ∧ (a.length = b.length) ∧ (∀ k (h : k < a.length) (h2 : k < b.length), k < j → a[k] = b[k])) ?_ _ _ _ ⟨0, rfl, rfl, rfl, Nat.zero_le _, (by omega), (by exact fun k _ _ h => absurd h (by omega))⟩
  rintro kk ff ss ⟨j, hk0, rfl, rfl, hj, hl, hi⟩
  refine VC.seq (VC.seq (VC.text ?_))
  refine VO.c (.move rfl) ?_
  refine VO.c (.move rfl) ?_
  refine VO.r (.len el37) ?_
  refine VO.c (.lss) ?_
  refine VO.go ?_
  refine VC.condD rfl (fun c4 => ?_) (fun c4 => ?_)
  · refine VC.skip (VC.seq (VC.block (VC.seq (VC.drawn ?_))))
    refine VD.c (.move rfl) ?_
    refine VD.c (.move rfl) ?_
    refine VD.c (.ix (j := j) rfl rfl el37 (by omega)) ?_
    refine VD.r [] (.ld vt3) (.inl rfl) ?_
    refine VD.c (.move rfl) ?_
    refine VD.c (.move rfl) ?_
    refine VD.nw [] ?_
    refine VD.c (.ix (j := j) rfl rfl el37 (by omega)) ?_
    refine VD.r [] (.ld vt3) (.inl rfl) ?_
    refine VD.c (.neq) ?_
    refine VD.go ?_
    refine VC.condD rfl (fun c6 => ?_) (fun c6 => ?_)
    · refine VC.seq (VC.text ?_)
      refine VO.c (.assign rfl) ?_
      refine VO.go ?_
      refine VC.ret ?_
      exact VEnd.one rfl evT (pvE (by exact (decide_eq_false (fun h => c6 (List.getElem_of_eq h _))).symm))
    refine VC.skip (VC.text ?_)
    refine VO.c (.move rfl) ?_
    refine VO.c (.add rfl rfl (by omega)) ?_
    refine VO.c (.assign rfl) ?_
    refine VO.nil ?_
    refine ⟨_, [(0, .v y37 a), (1, .v y37 b), (5, I (((j + 1) : Nat) : Int))], ?_, ⟨rfl, rfl, rfl, trivial⟩, (j + 1), rfl, rfl, rfl, (by omega), (by omega), (by exact fun k h h2 h3 => if e : k = j then (by subst e; exact Classical.not_not.1 c6) else hi k h h2 (by omega))⟩
    omega
  refine VC.exit (VC.seq (VC.text ?_))
  refine VO.c (.assign rfl) ?_
  refine VO.go ?_
  refine VC.ret ?_
  exact VEnd.one rfl evT (pvE (by exact (decide_eq_true (List.ext_getElem hl (fun k h h2 => hi k h h2 (by omega)))).symm))
theorem dr_len : ∀ (m : Nat) (x : Int) (o : List Int), (drE m x o).length = o.length
  | 0, _, o => rfl
  | 1, _, o => rfl
  | m + 2, x, o => by rw [drE, dr_len, swp_len]
theorem drawP_len {key n : Int} : (drawP key n).length < 1000000 := by
  unfold drawP
  split
  · rename_i h
    have := drawC_zero.1 h
    unfold drawE
    rw [dr_len, rng_len (Nat.le_refl _)]; omega
  decide
theorem law5_ok {s : ByteArray} {n : Int × Int} {x : Int × Int} : VF Tryz.prog OA 5 [St s, .v y41 n, .v y43 x] (B true) := by
  refine VF.enter Tryz.func5 rfl (fun _ _ => rfl) rfl ?_
  show VC _ _ _ _ _ [(0, St s), (1, .v y41 n), (2, .v y43 x)] [] _
  refine VC.seq (VC.text ?_)
  refine VO.new (.box) ?_
  refine VO.new (.box) ?_
  refine VO.c (.assign rfl) ?_
  refine VO.go (VC.seq (VC.seq (VC.text ?_)))
  refine VO.call rfl rfl (VF.call (awake_ok )) ?_
  refine VO.c (.not) ?_
  refine VO.c (.move rfl) ?_
  refine VO.c (.move rfl) ?_
  refine VO.r (.lenS) ?_
  refine VO.c (.gtr) ?_
  refine VO.c (.pickF rfl rfl) ?_
  refine VO.go ?_
  refine VC.condD rfl (fun c1 => ?_) (fun c1 => ?_)
  · refine VC.seq (VC.text ?_)
    refine VO.call rfl rfl (VF.call (awake_ok )) ?_
    refine VO.c (.assign rfl) ?_
    refine VO.go ?_
    refine VC.ret ?_
    exact VEnd.one rfl evT (pvE (by rfl))
  have hdl := drawP_len (key := n.1) (n := n.2)
  refine VC.skip (VC.seq (VC.text ?_))
  refine VO.c (.ixP 0 (.l .o)) ?_
  refine VO.r (.ld vt3) ?_
  refine VO.c (.ixP 1 (.r .o)) ?_
  refine VO.r (.ld vt3) ?_
  refine VO.call rfl rfl (VF.call (gDraw_ok )) ?_
  refine VO.c (.move rfl) ?_
  refine VO.c (.extract) ?_
  refine VO.c (.extract) ?_
  refine VO.c (.assign rfl) ?_
  refine VO.c (.assign rfl) ?_
  refine VO.go (VC.seq (VC.drawn ?_))
  refine VD.c (.ixP 0 (.l .o)) ?_
  refine VD.r [] (.ld vt3) (.inl rfl) ?_
  refine VD.call rfl rfl (VF.call (rCheckRange_ok )) ?_
  refine VD.c (.ixP 1 (.r .o)) ?_
  refine VD.r [] (.ld vt3) (.inl rfl) ?_
  refine VD.call rfl rfl (VF.call (rCheckRange_ok )) ?_
  refine VD.nw [] ?_
  refine VD.new (.lit [rangeE n.1 (1 : Int) (2147483646 : Int), rangeE n.2 (0 : Int) (256 : Int)] el37) ?_
  refine VD.callO rfl rfl (VF.call (lFirst_ok (by first | assumption | omega | simp))) ?_
  rw [show firstE [rangeE n.1 1 2147483646, rangeE n.2 0 256] = drawC n.1 n.2 from rfl]
  refine VD.c (.assign rfl) ?_
  refine VD.go (VC.seq (VC.text ?_))
  refine VO.c (.assign rfl) ?_
  refine VO.go (VC.seq (VC.seq ?_))
  refine VC.nilD 10 (.int .i64) rfl ?_
  refine VC.text ?_
  refine VO.c (.move rfl) ?_
  refine VO.c (.eql) ?_
  refine VO.go ?_
  refine VC.join [(0, St s), (5, .p y43 x), (7, .v y37 (drawP n.1 n.2)), (8, I (drawC n.1 n.2)), (9, I (drawC n.1 n.2)), (10, .v y37 (drawP n.1 n.2))] [] ?_ ?_
  refine VC.condD rfl (fun c6 => ?_) (fun c6 => ?_)
  · have hb := drawC_zero.1 c6
    obtain ⟨k, hk⟩ : ∃ k : Nat, n.2 = (k : Int) := ⟨n.2.toNat, by omega⟩
    have hdp : drawE n.1 k = drawP n.1 (k : Int) := by rw [drawP, if_pos (hk ▸ c6), Int.toNat_natCast]
    refine VC.keep [(0, St s), (4, .p y41 n), (5, .p y43 x), (7, .v y37 (drawP n.1 n.2)), (8, I (drawC n.1 n.2)), (9, I (drawC n.1 n.2))] ⟨rfl, rfl, rfl, rfl, rfl, rfl, trivial⟩ ?_
    refine VC.text ?_
    refine VO.c (.ixP 0 (.l .o)) ?_
    refine VO.r (.ld vt3) ?_
    refine VO.c (.ixP 1 (.r .o)) ?_
    refine VO.r (.ld vt3) ?_
    rw [hk]
    refine VO.call rfl rfl (VF.call (rDraw_ok (by first | assumption | omega | simp) (by first | assumption | omega | simp) (by first | assumption | omega | simp))) ?_
    refine VO.c (.assign rfl) ?_
    refine VO.nil ?_
    exact ⟨⟨rfl, rfl, rfl, rfl, rfl, slE rfl (by first | exact hdp | exact (if_neg c6).symm), trivial⟩, rfl⟩
  · refine VC.skip ?_
    exact ⟨⟨rfl, rfl, rfl, rfl, rfl, slE rfl (by first | exact hdp | exact (if_neg c6).symm), trivial⟩, rfl⟩
  refine VC.seq ?_
  refine VC.keep [(0, St s), (5, .p y43 x), (7, .v y37 (drawP n.1 n.2)), (8, I (drawC n.1 n.2)), (9, I (drawC n.1 n.2)), (10, .v y37 (drawP n.1 n.2))] ⟨rfl, rfl, rfl, rfl, rfl, rfl, trivial⟩ ?_
  refine VC.drawn ?_
  refine VD.c (.move rfl) ?_
  refine VD.call rfl rfl (VF.call (gName_ok )) ?_
  refine VD.c (.move rfl) ?_
  refine VD.call rfl rfl (VF.call (rName_ok )) ?_
  refine VD.c (.beql) ?_
  refine VD.c (.move rfl) ?_
  refine VD.nw [] ?_
  refine VD.splitB (x := 47) rfl (fun g8_5 => ?_) (fun g8_5 => ?_)
  · refine VD.c (.move rfl) ?_
    refine VD.c (.move rfl) ?_
    refine VD.call rfl rfl (VF.call (rSameI_ok (by first | assumption | omega | simp) (by first | assumption | omega | simp))) ?_
    refine VD.c (.pickT rfl rfl) ?_
    refine VD.c (.move rfl) ?_
    refine VD.splitB (x := 52) rfl (fun g8_10 => ?_) (fun g8_10 => ?_)
    · try simp only [Bool.and_eq_true, Bool.or_eq_true, Bool.and_eq_false_iff, Bool.or_eq_false_iff, Bool.not_eq_true', Bool.not_eq_false', decide_eq_true_eq, decide_eq_false_iff_not] at g8_10
      refine VD.nw [] ?_
      refine VD.c (.move rfl) ?_
      refine VD.c (.move rfl) ?_
      refine VD.c (.eql) ?_
      refine VD.c (.pickT rfl rfl) ?_
      refine VD.c (.move rfl) ?_
      refine VD.splitD (x := 57) rfl (fun g8_15 => ?_) (fun g8_15 => ?_)
      · refine VD.r [] (.ld vt43) (.inl rfl) ?_
        refine VD.nw [] ?_
        refine VD.call rfl rfl (VF.call (gRatio_ok )) ?_
        refine VD.r [] (.ld vt43) (.inl rfl) ?_
        refine VD.call rfl rfl (VF.call (rRatio_ok )) ?_
        refine VD.c (.eql) ?_
        refine VD.c (.pickT rfl rfl) ?_
        refine VD.c (.assign rfl) ?_
        refine VD.go ?_
        refine VC.ret ?_
        exact VEnd.one rfl evT (pvE (by first | (simp; done) | exact absurd rfl g8_15 | exact absurd trivial g8_10 | (rw [beq_self_eq_true] at g8_5; cases g8_5)))
      refine VD.skip ?_
      refine VD.nw [] ?_
      refine VD.skip ?_
      refine VD.skip ?_
      refine VD.skip ?_
      refine VD.skip ?_
      refine VD.c (.pickF rfl rfl) ?_
      refine VD.c (.assign rfl) ?_
      refine VD.go ?_
      refine VC.ret ?_
      exact VEnd.one rfl evT (pvE (by first | (simp; done) | exact absurd rfl g8_15 | exact absurd trivial g8_10 | (rw [beq_self_eq_true] at g8_5; cases g8_5)))
    try simp only [Bool.and_eq_true, Bool.or_eq_true, Bool.and_eq_false_iff, Bool.or_eq_false_iff, Bool.not_eq_true', Bool.not_eq_false', decide_eq_true_eq, decide_eq_false_iff_not] at g8_10
    refine VD.nw [] ?_
    refine VD.skip ?_
    refine VD.skip ?_
    refine VD.skip ?_
    refine VD.c (.pickF rfl rfl) ?_
    refine VD.c (.move rfl) ?_
    refine VD.skip ?_
    refine VD.skip ?_
    refine VD.nw [] ?_
    refine VD.skip ?_
    refine VD.skip ?_
    refine VD.skip ?_
    refine VD.c (.pickF rfl rfl) ?_
    refine VD.c (.assign rfl) ?_
    refine VD.go ?_
    refine VC.ret ?_
    exact VEnd.one rfl evT (pvE (by first | (simp; done) | exact absurd rfl g8_15 | exact absurd trivial g8_10 | (rw [beq_self_eq_true] at g8_5; cases g8_5)))
  refine VD.skip ?_
  refine VD.skip ?_
  refine VD.skip ?_
  refine VD.c (.pickF rfl rfl) ?_
  refine VD.c (.move rfl) ?_
  refine VD.skip ?_
  refine VD.nw [] ?_
  refine VD.skip ?_
  refine VD.skip ?_
  refine VD.c (.pickF rfl rfl) ?_
  refine VD.c (.move rfl) ?_
  refine VD.skip ?_
  refine VD.skip ?_
  refine VD.skip ?_
  refine VD.nw [] ?_
  refine VD.skip ?_
  refine VD.skip ?_
  refine VD.c (.pickF rfl rfl) ?_
  refine VD.c (.assign rfl) ?_
  refine VD.go ?_
  refine VC.ret ?_
  exact VEnd.one rfl evT (pvE (by first | (simp; done) | exact absurd rfl g8_15 | exact absurd trivial g8_10 | (rw [beq_self_eq_true] at g8_5; cases g8_5)))
end Go.Proofs
namespace Go.Fs
open Go.RowKit (Below)
variable {P : Program}
def orcB (fi fj fc : FuncId) (T : TypeId) : FuncId → List Value → Heap → Option (Value × Heap) := fun f xs h =>
  bif Nat.beq f fc then
    match xs with
    | [.pointer (some ⟨b, 0, none⟩)] =>
      match h.get b with
      | some (.row e [p, v] true false) =>
        bif Nat.beq e T then
          match p with
          | .pointer none => some (.tuple #[], h.set b (.row e [.pointer (some ⟨b, 0, none⟩), v] true false))
          | .pointer (some ⟨b', 0, none⟩) => bif Nat.beq b' b then some (.tuple #[], h) else none
          | _ => none
        else none
      | _ => none
    | _ => none
  else orcS fi fj f xs h
theorem orcB_sound {B : Nat} {w0 : World} {fi fj fc : FuncId} {T : TypeId} (hz : w0.drawn = 0) (hS : CallSound P B w0 (orcS fi fj)) (hc : Enters P fc)
    (hF : ∀ (b : Nat) (w : World), w.cell? ⟨b, 0, none⟩ = some (.pointer none) → w.shape? b = some (T, 2) → w.frozen? ⟨b, 0, none⟩ = false →
      Calls P fc #[.pointer (some ⟨b, 0, none⟩)] w fun e w' => e = .returned (.tuple #[]) ∧ w' = w.setCell ⟨b, 0, none⟩ (.pointer (some ⟨b, 0, none⟩)))
    (hU : ∀ (b : Nat) (w : World), w.cell? ⟨b, 0, none⟩ = some (.pointer (some ⟨b, 0, none⟩)) → Calls P fc #[.pointer (some ⟨b, 0, none⟩)] w fun e w' => e = .returned (.tuple #[]) ∧ w' = w) :
    CallSound P B w0 (orcB fi fj fc T) := by
  intro f xs h v h' hf
  unfold orcB at hf
  cases hb : Nat.beq f fc with
  | false =>
    rw [hb] at hf
    exact hS f xs h v h' hf
  | true =>
    have := nbeq hb
    subst this
    rw [hb] at hf
    simp only [cond_true] at hf
    split at hf
    · rename_i b
      split at hf
      · rename_i e p u hg
        obtain ⟨he, hf2⟩ := bif_some hf
        obtain rfl := nbeq he
        refine ⟨hc, fun ρ S w args' hr ha nn => ?_⟩
        obtain ⟨hsb, cur, k1, k2, k3, k4, k5, k6, k7⟩ := hr.objs b _ hg
        have hcl : cur.length = 2 := (k6 rfl).symm
        match cur, hcl with
        | [p', u'], _ =>
        have hp : VR ρ S p p' := k7 0 (by simp)
        have hu : VR ρ S u u' := k7 1 (by simp)
        have hat : (ρ b).at 0 = ⟨(ρ b).block, 0, none⟩ := by unfold Loc.at; rw [k2]
        have harg : args' = [.pointer (some ⟨(ρ b).block, 0, none⟩)] := by
          have h1 := ha.1
          match args', h1 with
          | [a], _ =>
            have h2 : VR ρ S (.pointer (some ⟨b, 0, none⟩)) a := ha.2 0 (by simp)
            rw [h2.ptr_inv.2, hat]
        subst harg
        have hcell : w.cell? ⟨(ρ b).block, 0, none⟩ = some p' := by simp [World.cell?, k1]
        split at hf2
        · simp only [Option.some.injEq, Prod.mk.injEq] at hf2
          obtain ⟨rfl, rfl⟩ := hf2
          obtain rfl := hp.eq_of_af0 rfl
          have hC : CallsIn Fence.wide nn P f #[.pointer (some ⟨(ρ b).block, 0, none⟩)] w _ := callsIn_wide.2 (hF (ρ b).block w hcell (by simp [World.shape?, k1]) (frozen_soft k1 (by rw [k3]; exact Nat.zero_lt_succ _)))
          refine hC.mono fun e2 w' hret => ?_
          obtain ⟨rfl, rfl⟩ := hret
          refine ⟨ρ, Moved.set hr hg rfl rfl rfl rfl rfl (by simp [World.setCell]) (fun k hk => ?_) ?_, VR.tuple' LR.nil⟩
          · simp only [World.setCell, Array.getElem?_modify]
            rw [if_neg (fun e0 => hk e0.symm)]
          refine ⟨[.pointer (some ⟨(ρ b).block, 0, none⟩), u'], ?_, k2, k3, k4, Nat.le_refl _, fun _ => rfl, fun i hi => ?_⟩
          · simp only [World.setCell, Array.getElem?_modify, if_pos rfl, k1]
            simp
          match i, hi with
          | 0, _ => show VR ρ S (.pointer (some ⟨b, 0, none⟩)) (.pointer (some ⟨(ρ b).block, 0, none⟩)); rw [← hat]; exact .ptr b 0 hsb
          | 1, _ => exact hu
        · rename_i b'
          obtain ⟨hbb, hf3⟩ := bif_some hf2
          obtain rfl := nbeq hbb
          simp only [Option.some.injEq, Prod.mk.injEq] at hf3
          obtain ⟨rfl, rfl⟩ := hf3
          have hp2 := hp.ptr_inv.2
          rw [hat] at hp2
          subst hp2
          have hC : CallsIn Fence.wide nn P f #[.pointer (some ⟨(ρ b').block, 0, none⟩)] w _ := callsIn_wide.2 (hU (ρ b').block w hcell)
          refine hC.mono fun e2 w' hret => ?_
          obtain ⟨rfl, rfl⟩ := hret
          exact ⟨ρ, Moved.same hr, VR.tuple' LR.nil⟩
        cases hf2
      cases hf
    cases hf
end Go.Fs
namespace Go.Fs
open Go.RowKit (Below)
variable {P : Program} {ops : Array Oper} {n : Nat}
def sameV : Value → Value → Bool
  | .int k a, .int k' b => decide (k = k') && decide (a = b)
  | .bool a, .bool b => decide (a = b)
  | _, _ => false
theorem sameV_eq {a b : Value} (h : sameV a b = true) : a = b := by
  unfold sameV at h
  split at h
  · obtain ⟨h1, h2⟩ := band h
    rw [of_decide_eq_true h1, of_decide_eq_true h2]
  · rw [of_decide_eq_true h]
  cases h
def sameL : List Value → List Value → Bool
  | [], [] => true
  | a :: r, b :: q => sameV a b && sameL r q
  | _, _ => false
theorem sameL_eq : ∀ {a b : List Value}, sameL a b = true → a = b
  | [], [], _ => rfl
  | [], _ :: _, h => by cases h
  | _ :: _, [], h => by cases h
  | a :: r, b :: q, h => by
    obtain ⟨h1, h2⟩ := band (h : (sameV a b && sameL r q) = true)
    rw [sameV_eq h1, sameL_eq h2]
def sameO : AObj → AObj → Bool
  | .row e cs o m, .row e' cs' o' m' => Nat.beq e e' && sameL cs cs' && decide (o = o') && decide (m = m')
  | _, _ => false
theorem sameO_eq {a b : AObj} (h : sameO a b = true) : a = b := by
  unfold sameO at h
  split at h
  · obtain ⟨h, h1⟩ := band h
    obtain ⟨h, h2⟩ := band h
    obtain ⟨h, h3⟩ := band h
    rw [nbeq h, sameL_eq h3, of_decide_eq_true h2, of_decide_eq_true h1]
  cases h
def okRd (rd : List (Nat × AObj)) (h : Heap) : Bool := rd.all fun p => match h.get p.1 with
  | some ob => sameO ob p.2
  | none => false
theorem stLook_mem {b : Nat} {ob : AObj} : ∀ {l : List (Nat × AObj)}, look l b = some ob → (b, ob) ∈ l
  | [], h => by cases h
  | (c, oc) :: r, h => by
    simp only [look] at h
    cases hc : Nat.beq c b with
    | true =>
      rw [hc] at h
      simp only [cond_true, Option.some.injEq] at h
      rw [nbeq hc, h]; exact List.mem_cons_self
    | false =>
      rw [hc] at h
      simp only [cond_false] at h
      exact List.mem_cons_of_mem _ (stLook_mem h)
theorem okRd_get {rd : List (Nat × AObj)} {h : Heap} (hk : okRd rd h = true) {b : Nat} {ob : AObj} (hl : look rd b = some ob) : h.get b = some ob := by
  have := List.all_eq_true.1 hk _ (stLook_mem hl)
  simp only at this
  split at this
  · rename_i o2 hg
    rw [hg, sameO_eq this]
  cases this
def stillR (P : Program) (rd : List (Nat × AObj)) (ops : Array Oper) (n : Nat) (o : Oper) (s : DSt) : Option DSt :=
  match fsWanted ops s.t o, o.op with
  | some true, .load T a =>
    match evalO s.t a with
    | .pointer (some p) =>
      match look rd p.block with
      | some ob =>
        match fsLoad P T (evalO s.t a) { next := s.h.next, low := s.h.next, objs := [(p.block, ob)] } with
        | some v => (put n s.t o.dst v).map fun t => { s with t, bs := s.bs ++ [beforeOf s.bs o] }
        | none => none
      | none => none
    | _ => none
  | _, _ => none
def fsDrawnY (P : Program) (rd : List (Nat × AObj)) (step : Oper → (Operand → Value) → Heap → Option (Value × Heap)) (ops : Array Oper) (n : Nat) : List Oper → Nat → DSt → Option DSt
  | [], _, s => bif okRd rd s.h then some s else none
  | o :: r, i, s => bif okRd rd s.h then
      match fsDraw step ops n o i s with
      | some s' => fsDrawnY P rd step ops n r (i + 1) s'
      | none => match stillR P rd ops n o s with
        | some s' => fsDrawnY P rd step ops n r (i + 1) s'
        | none => none
    else none
def fsReads (P : Program) (h0 : Heap) (step : Oper → (Operand → Value) → Heap → Option (Value × Heap)) (ops : Array Oper) (n : Nat) : List Oper → Nat → DSt → List (Nat × AObj) → List (Nat × AObj)
  | [], _, _, l => l
  | o :: r, i, s, l => match fsDraw step ops n o i s with
    | some s' => fsReads P h0 step ops n r (i + 1) s' l
    | none => match stillO P h0 ops n o s with
      | some (s', b) => match h0.get (b - 1) with
        | some ob => fsReads P h0 step ops n r (i + 1) s' ((b - 1, ob) :: l)
        | none => l
      | none => l
def drawnY (P : Program) (h0 : Heap) (step : Oper → (Operand → Value) → Heap → Option (Value × Heap)) (ops : Array Oper) (n : Nat) (s : DSt) (rd : List (Nat × AObj)) : Option DSt :=
  bif rd.all fun p => Nat.blt p.1 h0.next then fsDrawnY P rd step ops n ops.toList 0 s else none

theorem stillR_of {call : FuncId → List Value → Heap → Option (Value × Heap)} {yield : Nat → List Value → Heap → Option (Value × Heap)} {X : Nat → AObj → Prop} {rd : List (Nat × AObj)} {o : Oper} {i : Nat} {s s' : DSt}
    (hf : stillR P rd ops n o s = some s') (hX : ∀ c ob, look rd c = some ob → X c ob) :
    s'.bs = s.bs ++ [beforeOf s.bs o] ∧ Did (fsOp P call yield) ops n X o i s s' := by
  unfold stillR at hf
  split at hf
  · rename_i T a hw hop
    split at hf
    · rename_i p hev
      split at hf
      · rename_i ob hg
        split at hf
        · rename_i v hv
          obtain ⟨t, h3, h4⟩ := Option.map_eq_some_iff.1 hf
          subst h4
          refine ⟨rfl, .still hw v [(p.block, ob)] (fun c oc hc => ?_) ?_ h3 rfl rfl rfl rfl⟩
          · simp only [look] at hc
            cases hbc : Nat.beq p.block c with
            | true =>
              rw [hbc] at hc
              simp only [cond_true, Option.some.injEq] at hc
              obtain rfl := nbeq hbc
              subst hc
              exact hX _ _ hg
            | false => rw [hbc] at hc; cases hc
          unfold fsOp
          rw [hop]
          simp only [hv, Option.map_some]
        cases hf
      cases hf
    cases hf
  cases hf
theorem drawnY_trace {call : FuncId → List Value → Heap → Option (Value × Heap)} {yield : Nat → List Value → Heap → Option (Value × Heap)} {rd : List (Nat × AObj)} : ∀ (l : List Oper) (i : Nat) (s s' : DSt), fsDrawnY P rd (fsOp P call yield) ops n l i s = some s' →
    ∃ st : Nat → DSt, st i = s ∧ st (i + l.length) = s' ∧ (∀ q, i ≤ q → q ≤ i + l.length → okRd rd (st q).h = true) ∧
    ∀ j o, l[j]? = some o → ∀ X : Nat → AObj → Prop, (∀ c ob, look rd c = some ob → X c ob) → (st (i + j + 1)).bs = (st (i + j)).bs ++ [beforeOf (st (i + j)).bs o] ∧ Did (fsOp P call yield) ops n X o (i + j) (st (i + j)) (st (i + j + 1))
  | [], i, s, s', h => by
    simp only [fsDrawnY] at h
    obtain ⟨h1, h2⟩ := bif_some h
    simp only [Option.some.injEq] at h2
    subst h2
    exact ⟨fun _ => s, rfl, rfl, fun _ _ _ => h1, fun j o hj => by simp at hj⟩
  | o :: l, i, s, s', h => by
    simp only [fsDrawnY] at h
    obtain ⟨hok, h⟩ := bif_some h
    have key : ∀ s1, fsDrawnY P rd (fsOp P call yield) ops n l (i + 1) s1 = some s' →
        (∀ X : Nat → AObj → Prop, (∀ c ob, look rd c = some ob → X c ob) → s1.bs = s.bs ++ [beforeOf s.bs o] ∧ Did (fsOp P call yield) ops n X o i s s1) →
      ∃ st : Nat → DSt, st i = s ∧ st (i + (o :: l).length) = s' ∧ (∀ q, i ≤ q → q ≤ i + (o :: l).length → okRd rd (st q).h = true) ∧
        ∀ j o', (o :: l)[j]? = some o' → ∀ X : Nat → AObj → Prop, (∀ c ob, look rd c = some ob → X c ob) → (st (i + j + 1)).bs = (st (i + j)).bs ++ [beforeOf (st (i + j)).bs o'] ∧ Did (fsOp P call yield) ops n X o' (i + j) (st (i + j)) (st (i + j + 1)) := fun s1 hr hd => by
      obtain ⟨st, h1, h2, hq, h3⟩ := drawnY_trace l (i + 1) s1 s' hr
      refine ⟨fun k => if k = i then s else st k, by simp, ?_, fun q hq1 hq2 => ?_, fun j o' hj X hX => ?_⟩
      · simp only [List.length_cons]
        rw [if_neg (by omega), ← h2]
        congr 1; omega
      · rw [List.length_cons] at hq2
        by_cases e : q = i
        · subst e; simpa using hok
        simp only [if_neg e]; exact hq q (by omega) (by omega)
      cases j with
      | zero =>
        simp at hj
        subst hj
        simpa [h1] using hd X hX
      | succ j =>
        simp only [List.getElem?_cons_succ] at hj
        have := h3 j o' hj X hX
        rw [show i + 1 + j = i + (j + 1) by omega] at this
        simp only
        rw [if_neg (by omega), if_neg (by omega)]
        exact this
    split at h
    · rename_i s1 hs1
      exact key s1 h fun X _ => did_of hs1
    split at h
    · rename_i s1 hs1
      exact key s1 h fun X hX => stillR_of hs1 hX
    cases h
theorem traceY_of {call : FuncId → List Value → Heap → Option (Value × Heap)} {yield : Nat → List Value → Heap → Option (Value × Heap)} {t0 : Tr} {h0 : Heap} {s : DSt} {rd : List (Nat × AObj)} (h : drawnY P h0 (fsOp P call yield) ops n ⟨t0, h0, [], [], 0, false⟩ rd = some s) : ∃ st, Trace (fsOp P call yield) ops n st t0 h0 ∧ st ops.size = s := by
  unfold drawnY at h
  obtain ⟨hb, h⟩ := bif_some h
  obtain ⟨st, h1, h2, hq, h3⟩ := drawnY_trace _ _ _ _ h
  have h2' : st ops.size = s := by simpa using h2
  refine ⟨st, ⟨h1, fun i o ho => ?_⟩, h2'⟩
  have := h3 i o (by simpa using ho) (fun b ob => h0.get b = some ob ∧ b < h0.next ∧ (b < (st ops.size).h.low ∨ ∀ q, q ≤ ops.size → (st q).h.get b = some ob)) (fun c ob hc => ?_)
  · simpa only [Nat.zero_add] using this
  have hall : ∀ q, q ≤ ops.size → (st q).h.get c = some ob := fun q hq2 => okRd_get (hq q (Nat.zero_le _) (by simpa using hq2)) hc
  have h0 := hall 0 (Nat.zero_le _)
  rw [h1] at h0
  exact ⟨h0, nblt (List.all_eq_true.1 hb _ (stLook_mem hc)), .inr hall⟩
variable {B : Nat} {w0 : World} {S : Nat → Prop} {ρ0 : Ren} {call : FuncId → List Value → Heap → Option (Value × Heap)} {yield : Nat → List Value → Heap → Option (Value × Heap)} {t0 : Tr} {h0 : Heap}
theorem drawn_wpY (hcs : CallSnd P B w0 call) (hys : YieldSound P B w0 yield) (hok : regionOk ops = true) {s : DSt} {rd : List (Nat × AObj)} (hf : drawnY P h0 (fsOp P call yield) ops n ⟨t0, h0, [], [], 0, false⟩ rd = some s)
    {w : World} {a : Act} (hr : HR P ρ0 S B w0 h0 w) (ht : TrR ρ0 S t0 n a.tmps) {r : Option Nat} {nn : Nat} {Q : Exit → Act → World → Prop}
    (k : ∀ ρ' w' a', Moved P B w0 ρ0 ρ' S h0 s.h w w' → TrR ρ' (Ext S h0 s.h) s.t n a'.tmps → a'.defers = a.defers → Q .normal a' w') (t : Nat) :
    wpOpsIn (Wide r) nn P ops Q (Region.schedule true ops t) a w := drawn_wpT hcs hys hok (traceY_of hf) hr ht k t
end Go.Fs
namespace Go.Fs
open Go.RowKit (Below)
variable {P : Program} {B : Nat} {w0 : World}

def fsStepX (P : Program) (orc : FuncId → List Value → Heap → Option (Value × Heap)) (rec : Rec) : Rec := fun rnd c fr h =>
  match c with
  | .region _ ops true => match drawnX P { next := h.next, low := h.next, objs := h.objs } (fsOp P (callOf P orc rec) (fsYield rec)) ops fr.n ⟨fr.t, { next := h.next, low := h.next, objs := h.objs }, [], [], 0, false⟩ with
    | some s => some (.normal, { t := s.t, n := fr.n, marks := fr.marks }, { next := s.h.next, low := min h.low s.h.low, objs := s.h.objs })
    | none => match drawnY P { next := h.next, low := h.next, objs := h.objs } (fsOp P (callOf P orc rec) (fsYield rec)) ops fr.n ⟨fr.t, { next := h.next, low := h.next, objs := h.objs }, [], [], 0, false⟩ (fsReads P { next := h.next, low := h.next, objs := h.objs } (fsOp P (callOf P orc rec) (fsYield rec)) ops fr.n ops.toList 0 ⟨fr.t, { next := h.next, low := h.next, objs := h.objs }, [], [], 0, false⟩ []) with
      | some s => some (.normal, { t := s.t, n := fr.n, marks := fr.marks }, { next := s.h.next, low := min h.low s.h.low, objs := s.h.objs })
      | none => fsStep P orc rec rnd c fr h
  | c => fsStep P orc rec rnd c fr h
def fsCodeX (P : Program) (orc : FuncId → List Value → Heap → Option (Value × Heap)) : Nat → Rec
  | 0 => fun _ _ _ _ => none
  | n + 1 => fsStepX P orc (fsCodeX P orc n)

theorem HR.low {ρ : Ren} {S : Nat → Prop} {h : Heap} {w : World} (hr : HR P ρ S B w0 h w) (l : Nat) : HR P ρ S B w0 { next := h.next, low := l, objs := h.objs } w :=
  { objs := hr.objs, inj := hr.inj, base := hr.base, ro := hr.ro, ids := hr.ids, pos := hr.pos, below := hr.below, drawn := hr.drawn, size := hr.size }
theorem Moved.lowered {ρ ρ' : Ren} {S : Nat → Prop} {h h' : Heap} {w w' : World} {l : Nat} (m : Moved P B w0 ρ ρ' S { next := h.next, low := l, objs := h.objs } h' w w') :
    Moved P B w0 ρ ρ' S h { next := h'.next, low := min h.low h'.low, objs := h'.objs } w w' where
  agree := m.agree
  next := m.next
  hr := m.hr.low _
  frame := ⟨m.frame.os, m.frame.tape, m.frame.output, m.frame.size, m.frame.block⟩
  low := Nat.min_le_left _ _
  keep := fun i hi hl => m.keep i hi (Nat.lt_of_lt_of_le hl (Nat.min_le_right _ _))
  old := m.old
  fresh := fun i o ho hi => by
    obtain ⟨h1, h2⟩ := m.fresh i o ho hi
    refine ⟨h1, ?_⟩
    rcases h2 with h2 | ⟨j, oj, h3, h4, h5, h6, h7⟩
    · exact .inl h2
    exact .inr ⟨j, oj, h3, h4, h5, Nat.le_trans (Nat.min_le_right _ _) h6, h7⟩
theorem stepX_sound (hP : ProgOk P) {orc : FuncId → List Value → Heap → Option (Value × Heap)} (horc : CallSound P B w0 orc) {m : Nat} {rec : Rec} (hrec : SoundR P B w0 m rec) : SoundR P B w0 (m + 1) (fsStepX P orc rec) := by
  have hcs : CallSnd P B w0 (callOf P orc rec) := call_sound hP horc hrec
  have hys : YieldSound P B w0 (fsYield rec) := yield_sound hrec
  have hold := step_sound hP horc hrec
  intro rnd c fr h e fr' h' hok hf
  cases c with
  | region id ops draw =>
    cases draw with
    | false => exact hold rnd _ fr h e fr' h' hok hf
    | true =>
      intro ρ S w a nn Q hr ht hm hs k
      simp only [fsStepX] at hf
      split at hf
      · rename_i s hrun
        simp only [Option.some.injEq, Prod.mk.injEq] at hf
        obtain ⟨rfl, rfl, rfl⟩ := hf
        refine wpIn_region_draw fun t => ?_
        rw [hP.mixed]
        exact drawn_wpX (h0 := { next := h.next, low := h.next, objs := h.objs }) (call := callOf P orc rec) (yield := fsYield rec) hcs hys hok hrun ((hr.drew _).low _) ht (fun ρ1 w1 a1 m1 ht1 hd1 => k _ _ _ ⟨(Moved.ofDrew m1).lowered, ht1, by rw [hd1]; exact hm.mono fun b hb => ⟨.inl hb, m1.agree b hb⟩⟩) t
      split at hf
      · rename_i s hrun
        simp only [Option.some.injEq, Prod.mk.injEq] at hf
        obtain ⟨rfl, rfl, rfl⟩ := hf
        refine wpIn_region_draw fun t => ?_
        rw [hP.mixed]
        exact drawn_wpY (h0 := { next := h.next, low := h.next, objs := h.objs }) (call := callOf P orc rec) (yield := fsYield rec) hcs hys hok hrun ((hr.drew _).low _) ht (fun ρ1 w1 a1 m1 ht1 hd1 => k _ _ _ ⟨(Moved.ofDrew m1).lowered, ht1, by rw [hd1]; exact hm.mono fun b hb => ⟨.inl hb, m1.agree b hb⟩⟩) t
      exact hold rnd _ fr h e fr' h' hok hf ρ S w a nn Q hr ht hm hs k
  | _ => exact hold rnd _ fr h e fr' h' hok hf

theorem codeX_sound (hP : ProgOk P) {orc : FuncId → List Value → Heap → Option (Value × Heap)} (horc : CallSound P B w0 orc) : ∀ m, SoundR P B w0 m (fsCodeX P orc m)
  | 0 => fun rnd c fr h e fr' h' _ hf => by cases hf
  | m + 1 => stepX_sound hP horc (codeX_sound hP horc m)
theorem fsX_calls (hP : ProgOk P) {orc : FuncId → List Value → Heap → Option (Value × Heap)} (horc : CallSound P B w0 orc) (m : Nat) : CallSound P B w0 (fsEnter P (fsCodeX P orc m)) := enter_sound hP (codeX_sound hP horc m)
theorem fsX_closed (hP : ProgOk P) {w : World} {orc : FuncId → List Value → Heap → Option (Value × Heap)} (horc : CallSound P w.heap.size (wz w) orc) {m : Nat} {f : FuncId} {args : List Value} {v : Value} (ha : args.all af = true)
    (hf : (fsEnter P (fsCodeX P orc m) f args ⟨1, 1, []⟩).map (·.1) = some v) (hv : af v = true) :
    Calls P f args.toArray w fun | .returned v', w' => v' = v ∧ Below w.heap.size w w' | _, _ => False := by
  obtain ⟨⟨v0, h0⟩, h1, h2⟩ := Option.map_eq_some_iff.1 hf
  simp only at h2
  subst h2
  have hr : HR P (fun _ => Loc.clean 0 0 0 0) (fun _ => False) w.heap.size (wz w) ⟨1, 1, []⟩ w :=
    { objs := fun i o hi => (by cases hi), inj := fun i j oi oj hi => (by cases hi), base := fun i o hi => (by cases hi), ro := fun i o hi => (by cases hi), ids := fun b hb => hb.elim, pos := by decide,
      below := z_below (Below.refl _ _), drawn := Nat.zero_le _, size := Nat.le_refl _ }
  have hc := ((fsX_calls hP horc m) f args _ _ _ h1).2 _ _ w args hr ⟨rfl, fun i hi => .of_af (List.all_eq_true.1 ha _ (mem_getD hi))⟩ 0
  refine Calls.mono (callsIn_wide.1 hc) fun e w' he => ?_
  cases e with
  | returned v' =>
    obtain ⟨ρ', m1, hv1⟩ := he
    exact ⟨hv1.eq_of_af hv, below_z m1.hr.below⟩
  | panicked c => exact he.elim
  | outgrown => exact he.elim
theorem awakeX_calls (hP : ProgOk P) {B : Nat} {w0 : World} {O : FuncId → List Value → Heap → Option (Value × Heap)} {fa : FuncId} (hS : ∀ w, Below B w0 w → CallSound P w.heap.size (wz w) O) {m : Nat}
    (hrun : (fsEnter P (fsCodeX P O m) fa [] ⟨1, 1, []⟩).map (·.1) = some (.bool true)) (w : World) (hw : Below B w0 w) :
    Calls P fa #[] w fun | .returned v', w' => v' = .bool true ∧ Below w.heap.size w w' | _, _ => False :=
  fsX_closed hP (hS w hw) (args := []) rfl hrun rfl
end Go.Fs
namespace Go.Fs
variable {P : Program} {orc : FuncId → List Value → Heap → Option (Value × Heap)}
def runPre (P : Program) (orc : FuncId → List Value → Heap → Option (Value × Heap)) : Nat → Nat → Code → Fr → Heap → Option (Nat × Code × Fr × Heap)
  | 0, n, c, fr, h => some (n, c, fr, h)
  | k + 1, n, c, fr, h => match n, c with
    | n + 1, .seq a b => match fsCodeX P orc n none a fr h with
      | some (.normal, fr1, h1) => runPre P orc k n b fr1 h1
      | _ => none
    | _, _ => none
theorem run_via : ∀ {k n : Nat} {c : Code} {fr : Fr} {h : Heap} {n' : Nat} {c' : Code} {fr' : Fr} {h' : Heap}, runPre P orc k n c fr h = some (n', c', fr', h') → fsCodeX P orc n none c fr h = fsCodeX P orc n' none c' fr' h'
  | 0, n, c, fr, h, n', c', fr', h', hr => by
    simp only [runPre, Option.some.injEq, Prod.mk.injEq] at hr
    obtain ⟨rfl, rfl, rfl, rfl⟩ := hr
    rfl
  | k + 1, n, c, fr, h, n', c', fr', h', hr => by
    simp only [runPre] at hr
    split at hr
    · rename_i n a b
      split at hr
      · rename_i fr1 h1 ha
        rw [← run_via hr]
        show fsStep P orc (fsCodeX P orc n) none (.seq a b) fr h = _
        simp only [fsStep, ha]
      cases hr
    cases hr
def endV (P : Program) (fn : Func) (h : Heap) (x : Ex × Fr × Heap) : Option Value :=
  bif x.1.goes then
    match dropMarks x.2.1.marks x.2.2 with
    | some h2 => (fsResults P x.2.1.t h2 fn.results.toList).map tupled
    | none => none
  else none
theorem enter_map {rec : Rec} {f : FuncId} {args : List Value} {h : Heap} {fn : Func} {c : Code} (hf : P.funcs[f]? = some fn) (hc : fn.body = some c) (hn : (Nat.blt 4000 fn.ntmps || Nat.blt fn.ntmps args.length) = false) :
    (fsEnter P rec f args h).map (·.1) = (rec none c ⟨fillTr .leaf 0 args, fn.ntmps, []⟩ { next := h.next, low := h.next, objs := h.objs }).bind (endV P fn h) := by
  unfold fsEnter fsEnterK endV
  simp only [hf, hc, hn, cond_false]
  cases rec none c ⟨fillTr .leaf 0 args, fn.ntmps, []⟩ { next := h.next, low := h.next, objs := h.objs } with
  | none => rfl
  | some x =>
    obtain ⟨e, fr, h1⟩ := x
    simp only [Option.bind_some]
    cases e.goes with
    | false => rfl
    | true =>
      simp only [cond_true]
      cases dropMarks fr.marks h1 with
      | none => rfl
      | some h2 =>
        simp only
        cases fsResults P fr.t h2 fn.results.toList with
        | none => rfl
        | some vs =>
          simp only [Option.map_some]
          generalize (!false && (af (tupled vs) && Nat.ble h.next h2.low)) = q
          cases q <;> rfl
def sufx : Nat → Code → Code
  | 0, c => c
  | k + 1, .seq _ b => sufx k b
  | _ + 1, c => c
def rfOf : Code → Option (Array Tmp × Code × Code)
  | .rangeFunc _ ps a b => some (ps, a, b)
  | .seq a b => (rfOf a).or (rfOf b)
  | .cond _ a b => (rfOf a).or (rfOf b)
  | .block _ b => rfOf b
  | .loop b => rfOf b
  | .scope b => rfOf b
  | _ => none
def rfIn (fn : Func) : Array Tmp × Code × Code := (fn.body.bind rfOf).getD (#[], .skip, .skip)
end Go.Fs
namespace Go.Fs
open Go.RowKit (Below)

variable {P : Program} {B : Nat} {w0 : World}
theorem orcI_sound {fi : FuncId} (hz : w0.drawn = 0) (hi : Enters P fi)
    (hI : ∀ (n : Int) (w : World), Below B w0 w → -9223372036854775808 ≤ n → n ≤ 9223372036854775807 → Calls P fi #[.int .i64 n] w fun e w' => e = .returned (.string ⟨(Lib.itoa n).toArray⟩) ∧ Below w.heap.size w w') : CallSound P B w0 (orcS fi fi) := by
  intro f xs h v h' hf
  unfold orcS at hf
  cases hfi : Nat.beq f fi with
  | true =>
    have := nbeq hfi
    subst this
    rw [hfi] at hf
    simp only [cond_true] at hf
    split at hf
    · rename_i n
      obtain ⟨hc, hf2⟩ := bif_some hf
      obtain ⟨h0, h1⟩ := band hc
      have h0 := of_decide_eq_true h0
      have h1 := of_decide_eq_true h1
      simp only [Option.some.injEq, Prod.mk.injEq] at hf2
      obtain ⟨rfl, rfl⟩ := hf2
      refine ⟨hi, fun ρ S w args' hr ha nn => ?_⟩
      have he : args' = [.int .i64 n] := ha.eq_of_af (by rfl)
      subst he
      have hC : CallsIn Fence.wide nn P f #[.int .i64 n] w _ := callsIn_wide.2 (hI n w hr.below (by omega) (by omega))
      refine hC.mono fun e w' hret => ?_
      obtain ⟨rfl, hb⟩ := hret
      exact ⟨ρ, Moved.grewWorld hr hb (by rw [hz]; exact Nat.zero_le _), by rw [itoaF_eq h0 h1]; exact .lit rfl⟩
    cases hf
  | false =>
    rw [hfi] at hf
    simp only [cond_false] at hf
    cases hf
end Go.Fs
