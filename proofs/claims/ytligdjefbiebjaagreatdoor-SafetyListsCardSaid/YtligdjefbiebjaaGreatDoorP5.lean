/- Parts of the proof: an evaluator of the model, what it is sound for, and contracts of functions. No condition. -/
import Derived.Test.YtligdjefbiebjaaGreatDoorP4
import Derived.Test.YtligdjefbiebjaaGreatDoorP3
import Derived.Laws.Strings
import Derived.Test.YtligdjefbiebjaaGreatDoorP2
import Ieee.Arith
import Derived.Sort.AssemblyPlain
import Derived.Shelf.SlSortCmp.InsertionK
import Derived.Test.YtligdjefbiebjaaGreatDoorChecked
set_option linter.all false
namespace Go.Fs
variable {P : Program} {orc : FuncId → List Value → Heap → Option (Value × Heap)} {h : Heap} {σ : Sto} {fl : VL} {n i mem : Nat} {l : List Oper} {K : VL → Sto → Prop} {ops : Array Oper} {bs nw0 : List Nat} {tail so : Bool}
theorem VD.nw (nw1 : List Nat) (hk : VD P orc ops n l i fl nw1 σ so bs mem tail K) (he : nw0 = nw1 := by rfl) : VD P orc ops n l i fl nw0 σ so bs mem tail K := he ▸ hk
theorem VF.oracle {f : FuncId} {τ : Ty} {dv : τ.den} {v : Value} (ho : ∀ h : Heap, orc f [] h = some (v, h)) (hv : ∀ (h : Heap) (S : List Nat), RepPV h S (.v τ dv) v) : VF P orc f [] (.v τ dv) := fun h S us hok hS hr => by
  obtain rfl : us = [] := by
    cases us with
    | nil => rfl
    | cons a r => cases hr
  exact EvF.oracle (ho h) ⟨Aft.refl _ _, hv h S, fun _ => rfl⟩
end Go.Fs
namespace Go.Fs
variable {P : Program} {h : Heap} {S : List Nat}
def eqF (E : Ty → TypeId → Bool) : List Field → Nat → Ty → Bool
  | [], _, .unit => true
  | f :: r, o, .pair a b => (!(f.name == "_") && Nat.beq f.offset o && E a f.type && eqF E r (o + a.size) b) || (r.isEmpty && !(f.name == "_") && Nat.beq f.offset o && E (.pair a b) f.type)
  | [f], o, τ => !(f.name == "_") && Nat.beq f.offset o && E τ f.type
  | _, _, _ => false
def eqV (P : Program) : Nat → Ty → TypeId → Bool
  | 0, _, _ => false
  | d + 1, τ, T => valB P T τ && match P.underlying T, τ with
    | some (.int k), .int k' => k == k'
    | some .bool, .bool => true
    | some .string, .str => true
    | some (.struct fs), .pair a b => !P.stoodInHeld T && eqF (eqV P d) fs.toList 0 (.pair a b)
    | _, _ => false
theorem bytes_beq_t {x y : ByteArray} (he : x = y) : (x == y) = true := by
  subst he
  show (x.data == x.data) = true
  simp
theorem bytes_beq_f {x y : ByteArray} (he : ¬ x = y) : (x == y) = false := by
  show (x.data == y.data) = false
  simp only [beq_eq_false_iff_ne, ne_eq]
  exact fun hd => he (ByteArray.ext hd)
theorem size_noagg {τ : Ty} (h : τ.agg = false) : τ.size = 1 := by cases τ <;> first | rfl | cases h
theorem part_rep {T : TypeId} {τ : Ty} (hT : ValT P T τ) {cs : Array Value} {o : Nat} {x : τ.den} (hr : RepC h S τ ((cs.toList.drop o).take τ.size) x) : ∃ v, runPure P (part T cs o) = some v ∧ RepV h S τ v x := by
  obtain ⟨i, hi, hsz⟩ := hT.info
  obtain ⟨d, hd, hag⟩ := hT.agg
  have hA : runPure P (isAgg T) = some τ.agg := by
    unfold isAgg
    rw [runPure_bind, runPure_underlying hd, ← hag]
    cases d <;> rfl
  unfold part
  rw [runPure_bind, hA]
  simp only [Option.bind_some]
  cases hga : τ.agg with
  | true =>
    simp only [if_true]
    rw [runPure_bind, runPure_sizeOf hi]
    refine ⟨_, rfl, hga.symm, ?_⟩
    show RepC h S τ (cs.extract o (o + i.size)).toList x
    rw [hsz, Array.toList_extract]
    simpa [List.extract_eq_take_drop] using hr
  | false =>
    simp only [Bool.false_eq_true, if_false]
    obtain ⟨v, h1, h2⟩ := RepC.one hga hr
    have h3 : cs[o]? = some v := by
      have := congrArg (fun l => l[0]?) h1
      simp only [size_noagg hga] at this
      simpa using this
    rw [h3]
    exact ⟨v, rfl, h2⟩
theorem fields_eq {E : Ty → TypeId → Bool} {n : Nat} {cs ds : Array Value} (hE : ∀ τ T, E τ T = true → ValT P T τ ∧ ∀ (u v : Value) (x y : τ.den) (inst : Decidable (x = y)), RepV h S τ u x → RepV h S τ v y → runPure P (Op.equalIn n T u v) = some (@decide (x = y) inst)) :
    ∀ (l : List Field) (o : Nat) (τ : Ty) (x y : τ.den) (inst : Decidable (x = y)), eqF E l o τ = true → RepC h S τ (cs.toList.drop o) x → RepC h S τ (ds.toList.drop o) y →
    runPure P (forIn l (none, ()) fun f __s =>
            if f.name ≠ "_" then do
              let __do_lift ← part f.type cs f.offset
              let __do_lift_1 ← part f.type ds f.offset
              let __do_lift ← Op.equalIn n f.type __do_lift __do_lift_1
              if (!__do_lift) = true then pure (ForInStep.done (some false, ())) else pure (ForInStep.yield (none, ()))
            else pure (ForInStep.yield (none, ()))) = some (if x = y then ((none : Option Bool), ()) else (some false, ())) := by
  intro l
  have key : ∀ (f : Field) (r : List Field) (o : Nat) (τ : Ty) (x y : τ.den) (inst : Decidable (x = y)) (R : Option (Option Bool × Unit)), (!(f.name == "_")) = true → Nat.beq f.offset o = true → E τ f.type = true → RepC h S τ ((cs.toList.drop o).take τ.size) x → RepC h S τ ((ds.toList.drop o).take τ.size) y →
      runPure P (forIn (f :: r) (none, ()) fun f __s =>
            if f.name ≠ "_" then do
              let __do_lift ← part f.type cs f.offset
              let __do_lift_1 ← part f.type ds f.offset
              let __do_lift ← Op.equalIn n f.type __do_lift __do_lift_1
              if (!__do_lift) = true then pure (ForInStep.done (some false, ())) else pure (ForInStep.yield (none, ()))
            else pure (ForInStep.yield (none, ()))) = if x = y then runPure P (forIn r (none, ()) fun f __s =>
            if f.name ≠ "_" then do
              let __do_lift ← part f.type cs f.offset
              let __do_lift_1 ← part f.type ds f.offset
              let __do_lift ← Op.equalIn n f.type __do_lift __do_lift_1
              if (!__do_lift) = true then pure (ForInStep.done (some false, ())) else pure (ForInStep.yield (none, ()))
            else pure (ForInStep.yield (none, ()))) else some (some false, ()) := by
    intro f r o τ x y inst R n1 n2 n3 r1 r2
    obtain ⟨hT, hq⟩ := hE _ _ n3
    obtain ⟨u, u1, u2⟩ := part_rep hT r1
    obtain ⟨v, v1, v2⟩ := part_rep hT r2
    have hn : f.name ≠ "_" := by simpa using n1
    have ho := nbeq n2
    rw [List.forIn_cons]
    simp only [hn, ne_eq, not_false_eq_true, if_true, runPure_bind, ho, u1, v1, Option.bind_some, hq u v x y inst u2 v2]
    by_cases he : x = y <;> simp [he, runPure_pure, runPure_bind]
  induction l with
  | nil =>
    intro o τ x y inst hb hx hy
    cases τ <;> first | (cases hb; done) | skip
    simp [runPure_pure]
  | cons f r ih =>
    intro o τ x y inst hb hx hy
    by_cases hp : (∀ a b, τ ≠ .pair a b) ∨ (r = [] ∧ (!(f.name == "_")) = true ∧ Nat.beq f.offset o = true ∧ E τ f.type = true)
    · have hs : r = [] ∧ (!(f.name == "_")) = true ∧ Nat.beq f.offset o = true ∧ E τ f.type = true := by
        rcases hp with hp | hp
        · cases τ with
          | pair a b => exact absurd rfl (hp a b)
          | _ =>
            cases r with
            | cons f' r => cases hb
            | nil =>
              obtain ⟨n1, n3⟩ := band (show (!(f.name == "_") && Nat.beq f.offset o && E _ f.type) = true from hb)
              obtain ⟨n1, n2⟩ := band n1
              exact ⟨rfl, n1, n2, n3⟩
        exact hp
      obtain ⟨rfl, n1, n2, n3⟩ := hs
      rw [key f [] o τ x y inst none n1 n2 n3 (by rw [List.take_of_length_le (Nat.le_of_eq hx.len)]; exact hx) (by rw [List.take_of_length_le (Nat.le_of_eq hy.len)]; exact hy)]
      by_cases he : x = y <;> simp [he, runPure_pure]
    cases τ with
    | pair a b =>
      have hb2 : ((!(f.name == "_") && Nat.beq f.offset o && E a f.type && eqF E r (o + a.size) b) || (r.isEmpty && !(f.name == "_") && Nat.beq f.offset o && E (.pair a b) f.type)) = true := hb
      rcases Bool.or_eq_true_iff.1 hb2 with h1 | h1
      · obtain ⟨h1, n4⟩ := band h1
        obtain ⟨h1, n3⟩ := band h1
        obtain ⟨n1, n2⟩ := band h1
        have hd := Classical.propDecidable (x.1 = y.1)
        have hd2 := Classical.propDecidable (x.2 = y.2)
        rw [key f r o a x.1 y.1 hd none n1 n2 n3 hx.1 hy.1]
        have h2 := ih (o + a.size) b x.2 y.2 hd2 n4 (by rw [← List.drop_drop]; exact hx.2) (by rw [← List.drop_drop]; exact hy.2)
        rw [h2]
        by_cases e1 : x.1 = y.1
        · by_cases e2 : x.2 = y.2
          · rw [if_pos e1, if_pos e2, if_pos (Prod.ext e1 e2)]
          rw [if_pos e1, if_neg e2, if_neg (fun e => e2 (by rw [e]))]
        rw [if_neg e1, if_neg (fun e => e1 (by rw [e]))]
      obtain ⟨h1, n3⟩ := band h1
      obtain ⟨h1, n2⟩ := band h1
      obtain ⟨h1, n1⟩ := band h1
      exact absurd (.inr ⟨by simpa using h1, n1, n2, n3⟩) hp
    | _ => exact absurd (.inl fun _ _ h => by cases h) hp
theorem eqV_ok : ∀ (d : Nat) (τ : Ty) (T : TypeId), eqV P d τ T = true → ∀ (D : Nat) (u v : Value) (x y : τ.den) (inst : Decidable (x = y)), RepV h S τ u x → RepV h S τ v y → runPure P (Op.equalIn (D + d) T u v) = some (@decide (x = y) inst) := by
  intro d
  induction d with
  | zero => intro τ T hb; cases hb
  | succ d ih =>
    intro τ T hb D u v x y inst hu hv
    unfold eqV at hb
    obtain ⟨hvt, hb⟩ := band hb
    cases hU : P.underlying T with
    | none => simp only [hU] at hb; cases hb
    | some dsc =>
      simp only [hU] at hb
      cases τ <;> cases dsc <;> try (cases hb; done)
      · rename_i k _ k'
        obtain rfl : k = k' := by
          have : (k' == k) = true := hb
          exact (by simpa using this : k' = k).symm
        obtain rfl := RepV.int hu
        obtain rfl := RepV.int hv
        rw [show D + (d + 1) = (D + d) + 1 from rfl, Op.equalIn, runPure_bind, runPure_underlying hU]
        simp only [Option.bind_some, if_true]
        show some (_ == _) = _
        by_cases he : x = y <;> simp [he]
      · obtain rfl := RepV.bool hu
        obtain rfl := RepV.bool hv
        rw [show D + (d + 1) = (D + d) + 1 from rfl, Op.equalIn, runPure_bind, runPure_underlying hU]
        simp only [Option.bind_some]
        show some (_ == _) = _
        by_cases he : x = y <;> simp [he]
      · obtain rfl := RepV.str hu
        obtain rfl := RepV.str hv
        rw [show D + (d + 1) = (D + d) + 1 from rfl, Op.equalIn, runPure_bind, runPure_underlying hU]
        simp only [Option.bind_some]
        show some (_ == _) = _
        by_cases he : x = y
        · rw [decide_eq_true he]; exact congrArg some (bytes_beq_t he)
        rw [decide_eq_false he]; exact congrArg some (bytes_beq_f he)
      rename_i a b fs
      obtain ⟨h1, h2⟩ := band hb
      have hs : P.stoodInHeld T = false := by simpa using h1
      obtain ⟨cs, rfl⟩ : ∃ cs, u = .agg cs := by
        have := hu.1
        cases u <;> first | exact ⟨_, rfl⟩ | cases this
      obtain ⟨ds, rfl⟩ : ∃ cs, v = .agg cs := by
        have := hv.1
        cases v <;> first | exact ⟨_, rfl⟩ | cases this
      rw [show D + (d + 1) = (D + d) + 1 from rfl, Op.equalIn]
      rw [runPure_bind, runPure_underlying hU]
      simp only [Option.bind_some, runPure_bind, runPure_program, hs, Bool.false_eq_true, if_false]
      simp only [← Array.forIn_toList]
      have hF := fields_eq (h := h) (S := S) (cs := cs) (ds := ds) (n := D + d) (fun τ T hb => ⟨valT_of ?_, fun u v x y inst => ih τ T hb D u v x y inst⟩) fs.toList 0 _ x y inst h2 hu.2 hv.2
      · rw [hF]
        by_cases he : x = y <;> simp [he, runPure_pure]
      cases d with
      | zero => cases hb
      | succ d => unfold eqV at hb; exact (band hb).1
structure EqT (P : Program) (T : TypeId) (τ : Ty) : Prop where
  eq : eqV P 40 τ T = true
  guard : P.eqGuardType P.depth T = false
  agg : τ.agg = true
  flat : τ.isFlat = true
theorem eqT_of {T : TypeId} {τ : Ty} (hb : (eqV P 40 τ T && !P.eqGuardType P.depth T && τ.agg && τ.isFlat) = true) : EqT P T τ := by
  obtain ⟨h1, h4⟩ := band hb
  obtain ⟨h1, h3⟩ := band h1
  obtain ⟨h1, h2⟩ := band h1
  exact ⟨h1, by simpa using h2, h3, h4⟩
theorem EqT.run {T : TypeId} {τ : Ty} (hT : EqT P T τ) {u v : Value} {x y : τ.den} {inst : Decidable (x = y)} (hu : RepV h S τ u x) (hv : RepV h S τ v y) : runPure P (Op.equal T u v) = some (@decide (x = y) inst) :=
  eqV_ok 40 τ T hT.eq 9960 u v x y inst hu hv
theorem aggOf {τ : Ty} {u : Value} {x : τ.den} (ha : τ.agg = true) (hu : RepV h S τ u x) : ∃ cs, u = .agg cs := by
  have h1 := hu.1.trans ha
  cases u <;> first | exact ⟨_, rfl⟩ | cases h1
variable {fl : VL} {σ : Sto} {x y : Operand} {T T' : TypeId} {τ : Ty}
theorem CalmV.eneq {p q : τ.den} [inst : Decidable (p = q)] (hT : EqT P T τ) (hx : evV fl x = some (.v τ p) := by rfl) (hy : evV fl y = some (.v τ q) := by rfl) : CalmV P fl σ (.binOp .neq T x y T') (.v .bool (decide (p ≠ q))) :=
  .bin hx hy fun h S a c ha hc => by
    have h1 := hT.run (inst := inst) ha hc
    obtain ⟨cs, rfl⟩ := aggOf hT.agg ha
    obtain ⟨ds, rfl⟩ := aggOf hT.agg hc
    refine ⟨.bool (decide (p ≠ q)), RepV.ofBool _, ?_, ?_⟩
    · rw [(RepPV.flat (pv := .v τ p) hT.flat ha).1, (RepPV.flat (pv := .v τ q) hT.flat hc).1]; rfl
    have he : runPure P (eqGuard .neq T x y (.agg cs) (.agg ds)) = some () := by
      unfold eqGuard
      simp [runPure_bind, runPure_program, hT.guard, runPure_pure]
    have hb : runPure P (binOp .neq T (.agg cs) (.agg ds)) = some (.bool (decide (p ≠ q))) := by
      unfold binOp
      simp only [runPure_bind, h1, Option.bind_some, runPure_pure]
      by_cases hpq : p = q <;> simp [hpq]
    unfold purely
    rw [runPure_bind, he]
    simp only [Option.bind_some, hb]; rfl
theorem bytes_list {a b : ByteArray} : (a.toList == b.toList) = decide (a = b) := by
  rw [ByteArray.toList_eq, ByteArray.toList_eq]
  by_cases h : a = b
  · subst h; simp
  rw [decide_eq_false h, beq_eq_false_iff_ne]
  exact fun he => h (ByteArray.ext (Array.toList_inj.1 he))
def ltS (a b : ByteArray) : Bool := Op.bytesLess a.toList b.toList
variable {p q : ByteArray}
theorem CalmV.binS (b : BinOp) {u : Value} {v : PV} (hx : evV fl x = some (.v .str p)) (hy : evV fl y = some (.v .str q)) (hu : runPure P (Op.stringOp b p q) = some u) (hf : af u = true) (hb : ∀ T : TypeId, (do eqGuard b T x y (.string p) (.string q); binOp b T (.string p) (.string q)) = Op.stringOp b p q) (hv : ∀ h S, RepPV h S v u) : CalmV P fl σ (.binOp b T x y T') v :=
  .bin hx hy fun h S a c ha hc => by
    obtain rfl := RepV.str ha
    obtain rfl := RepV.str hc
    refine ⟨u, hv h S, rfl, ?_⟩
    unfold purely
    rw [hb, hu]
    simp only [Option.bind_some, hf, if_true]
theorem CalmV.seql (hx : evV fl x = some (.v .str p) := by rfl) (hy : evV fl y = some (.v .str q) := by rfl) : CalmV P fl σ (.binOp .eql T x y T') (.v .bool (decide (p = q))) :=
  .binS .eql hx hy (u := .bool (decide (p = q))) (by rw [← bytes_list]; rfl) rfl (fun _ => rfl) fun h S => RepV.ofBool _
theorem CalmV.sneq (hx : evV fl x = some (.v .str p) := by rfl) (hy : evV fl y = some (.v .str q) := by rfl) : CalmV P fl σ (.binOp .neq T x y T') (.v .bool (decide (p ≠ q))) :=
  .binS .neq hx hy (u := .bool (decide (p ≠ q))) (by rw [decide_not, ← bytes_list]; rfl) rfl (fun _ => rfl) fun h S => RepV.ofBool _
theorem CalmV.slss (hx : evV fl x = some (.v .str p) := by rfl) (hy : evV fl y = some (.v .str q) := by rfl) : CalmV P fl σ (.binOp .lss T x y T') (.v .bool (ltS p q)) :=
  .binS .lss hx hy (u := .bool (ltS p q)) rfl rfl (fun _ => rfl) fun h S => RepV.ofBool _
end Go.Fs
namespace Go.Fs
variable {P : Program} {fl : VL} {σ γ : Sto} {Q : PV → Sto → Prop} {fn : Func}
end Go.Fs
namespace Go.Fs
variable {P : Program} {orc : FuncId → List Value → Heap → Option (Value × Heap)}
theorem slI {fl : VL} {k : Nat} {κ : IntKind} {a b : Int} (hk : lkV fl k = some (.v (.int κ) a)) (h : a = b) : lkV fl k = some (.v (.int κ) b) := by rw [hk, h]
theorem pvI {κ : IntKind} {a b : Int} (h : a = b) : PV.v (.int κ) a = PV.v (.int κ) b := by rw [h]
section
variable {h0 : Heap} {S0 : List Nat} {σ : Sto} {ms : List Nat} {fl : VL} {ops : Array Oper} {n i mem : Nat} {l : List Oper} {K : VL → Sto → Prop}
  {d : Tmp} {ty : TypeId} {pos : String} {after : Array Edge} {op : Op} {v : PV} {g : Option (Nat × Bool)} {bs nw : List Nat} {tail so : Bool}
theorem VD.co {b : Nat} (hc : CalmV P fl σ op v) (hk : VD P orc ops n l (i + 1) ((d, v) :: fl) (nwSet ((so && oldOp nw op) || v.flat0) d nw) σ so (bs ++ [b]) mem tail K)
    (hb : beforeOf bs ⟨some d, op, ty, pos, after, g⟩ = b := by rfl) (hw : wantV ops fl g = some true := by rfl) (hn : (Nat.blt d n && Nat.ble n 4000) = true := by rfl) :
    VD P orc ops n (⟨some d, op, ty, pos, after, g⟩ :: l) i fl nw σ so bs mem tail K := fun h0 G S0 t h ms segs I ho => by
  obtain ⟨n1, n2⟩ := fits hn
  obtain ⟨u, e1, e2⟩ := hc.2 h (own σ ++ S0) t I.slots.sees I.cells
  refine EvD.op (s' := ⟨t.set depth d u, h, bs ++ [b], segs, mem, tail⟩) ?_ (hk h0 G S0 _ h ms segs (I.set e1 n2) fun ht => (ho ht).set n2 fun hold hs a1 a2 a3 a4 a5 => ?_)
  · unfold fsDraw
    have hwt : fsWanted ops t ⟨some d, op, ty, pos, after, g⟩ = some true := want_ok I.slots hw
    simp only [hwt, hc.1, if_true, e2, Nat.beq_refl, cond_true, put_fits n1, Option.map_some, hb]
  rcases Bool.or_eq_true_iff.1 hold with hold | hold
  · obtain ⟨o1, o2⟩ := band hold
    obtain ⟨u', f1, f2⟩ := hc.2 hs (own σ ++ S0) t (old_op a4 o2) (a5 o1)
    have : u' = u := by
      have g1 := e2 none 0 "" #[] none h
      rw [f2 none 0 "" #[] none h] at g1
      simpa using g1
    rw [← this]; exact f1
  exact (RepPV.flat0 hold e1).2 _ _
end
end Go.Fs
namespace Go.Fs
variable {P : Program} {orc : FuncId → List Value → Heap → Option (Value × Heap)} {rnd : Option Nat} {h h' h0 h1 h2 : Heap} {S S' S0 G : List Nat} {σ σ' σr γ γ' : Sto} {t t' : Tr} {ms : List Nat} {fl nw : VL} {ops : Array Oper} {n i mem : Nat} {l : List Oper} {K : VL → Sto → Prop} {Q : Ex → VL → Sto → Prop}
  {d : Tmp} {ty : TypeId} {pos : String} {after : Array Edge} {op : Op} {v pv : PV} {g : Option (Nat × Bool)} {bs nw0 : List Nat} {tail so : Bool}
inductive ShutL (fl : VL) (γ : Sto) : VL → Prop where
  | nil : ShutL fl γ []
  | cons {k : Nat} {p p' : PV} {r : VL} (hk : lkV fl k = some p) (hc : Co γ p p') (hr : ShutL fl γ r) : ShutL fl γ ((k, p') :: r)
end Go.Fs
namespace Go.Fs
variable {P : Program} {orc : FuncId → List Value → Heap → Option (Value × Heap)} {fl : VL} {σ γ : Sto} {T : TypeId} {τ : Ty}
theorem row_one {h : Heap} {S : List Nat} {w : Value} {e : TypeId} {xs : List τ.den} (hc : CellR h S w (.row e τ xs)) : oneCell w = true := by
  rcases hc with ⟨h1, _⟩ | ⟨b, rs, m, h1, _⟩
  · rw [show w = _ from h1]; rfl
  rw [show w = _ from h1]; rfl
theorem VO.one {orc : FuncId → List Value → Heap → Option (Value × Heap)} {ops : Array Oper} {n : Nat} {l : List Oper} {K : VL → Sto → Prop} {w : Value} {e : TypeId} {xs : List τ.den} (hm : (w, Cell.row e τ xs) ∈ σ) (hk : oneCell w = true → VO P orc ops n l fl σ K) : VO P orc ops n l fl σ K := fun h0 G S0 t h ms I => hk (row_one (I.cells _ hm)) h0 G S0 t h ms I
end Go.Fs
namespace Go.Fs
variable {P : Program} {fl : VL} {σ γ : Sto} {Q : PV → Sto → Prop} {fn : Func}
theorem VEndG.one {r : ResultVar} {p : PV} (hr : fn.results = #[r]) (h1 : EndV P fl [] r p) (hQ : Q p σ) (ho : own σ = own γ) (hf : (σ.all fun c => c.2.flat) = true) : VEndG P fn γ Q .ret fl σ :=
  ⟨rfl, [p], by rw [hr]; exact .cons h1 .nil, hQ, .inr (.inl ⟨ho, fun c hc => List.all_eq_true.1 hf c hc⟩)⟩

theorem bless_irr : ∀ x : List UInt8, Op.bytesLess x x = false
  | [] => rfl
  | a :: x => by
    have h : (a < a) = False := by simp
    simp [Op.bytesLess, bless_irr x]
theorem bless_tot : ∀ x y : List UInt8, (Op.bytesLess x y || x == y) = !Op.bytesLess y x
  | [], [] => rfl
  | [], _ :: _ => rfl
  | _ :: _, [] => rfl
  | a :: x, b :: y => by
    have ih := bless_tot x y
    simp only [Op.bytesLess, List.cons_beq_cons]
    rcases Nat.lt_trichotomy a.toNat b.toNat with h | h | h
    · have h1 : a < b := h
      have h2 : ¬ b < a := fun h2 => by have : b.toNat < a.toNat := h2; omega
      have h3 : b ≠ a := fun e => by subst e; omega
      simp [h1, h2, h3]
    · have e : a = b := UInt8.toNat_inj.1 h
      subst e
      have h1 : ¬ a < a := fun h1 => by have : a.toNat < a.toNat := h1; omega
      simpa [h1] using ih
    have h1 : ¬ a < b := fun h1 => by have : a.toNat < b.toNat := h1; omega
    have h2 : b < a := h
    have h3 : a ≠ b := fun e => by subst e; omega
    simp [h1, h2, h3]
theorem bless_trans : ∀ {x y z : List UInt8}, Op.bytesLess x y = true → Op.bytesLess y z = true → Op.bytesLess x z = true
  | x, [], _, h, _ => by cases x <;> simp [Op.bytesLess] at h
  | _, _ :: _, [], _, h => by simp [Op.bytesLess] at h
  | [], _ :: _, _ :: _, _, _ => rfl
  | a :: x, b :: y, c :: z, h1, h2 => by
    simp only [Op.bytesLess, Bool.or_eq_true, decide_eq_true_eq, Bool.and_eq_true, beq_iff_eq] at *
    rcases h1 with h1 | ⟨h1, h3⟩ <;> rcases h2 with h2 | ⟨h2, h4⟩
    · left
      have e1 : a.toNat < b.toNat := h1
      have e2 : b.toNat < c.toNat := h2
      exact (show a.toNat < c.toNat by omega)
    · subst h2; exact .inl h1
    · subst h1; exact .inl h2
    subst h1; subst h2; exact .inr ⟨rfl, bless_trans h3 h4⟩
variable {p q r : ByteArray}
theorem ltS_irr : ltS p p = false := bless_irr _
theorem ltS_trans (h1 : ltS p q = true) (h2 : ltS q r = true) : ltS p r = true := bless_trans h1 h2
theorem leS_eq : (ltS p q || decide (p = q)) = !ltS q p := by
  rw [← bytes_list]
  exact bless_tot _ _
theorem ltS_asym (h : ltS p q = true) : ltS q p = false := by
  cases h2 : ltS q p with
  | false => rfl
  | true => rw [← ltS_trans h h2, ltS_irr]
theorem ltS_empty : ltS p ByteArray.empty = false := by
  unfold ltS
  have : (ByteArray.empty).toList = [] := by rw [ByteArray.toList_eq]; rfl
  rw [this]
  cases p.toList <;> rfl
theorem ltS_full (h : p.size ≠ 0) : ltS ByteArray.empty p = true := by
  have h1 := leS_eq (p := ByteArray.empty) (q := p)
  rw [ltS_empty] at h1
  have h2 : decide (ByteArray.empty = p) = false := decide_eq_false fun e => h (by rw [← e]; rfl)
  simpa [h2] using h1
variable {x y : Operand} {T T' : TypeId}
theorem CalmV.sleq (hx : evV fl x = some (.v .str p) := by rfl) (hy : evV fl y = some (.v .str q) := by rfl) : CalmV P fl σ (.binOp .leq T x y T') (.v .bool (!ltS q p)) := by
  have h := CalmV.binS (σ := σ) (T := T) (T' := T') (P := P) .leq hx hy (u := .bool (ltS p q || p.toList == q.toList)) (v := .v .bool (ltS p q || p.toList == q.toList)) rfl rfl (fun _ => rfl) fun h S => RepV.ofBool _
  rwa [bytes_list, leS_eq] at h
end Go.Fs
namespace Go.Fs
variable {P : Program} {orc : FuncId → List Value → Heap → Option (Value × Heap)} {rnd : Option Nat} {h h' h0 h1 h2 : Heap} {S S' S0 : List Nat} {σ σ' : Sto} {t t' : Tr} {ms : List Nat} {fl : VL} {ops : Array Oper} {n i mem : Nat} {l : List Oper} {K : VL → Sto → Prop}
  {d : Tmp} {ty : TypeId} {pos : String} {after : Array Edge} {op : Op} {v pv : PV} {g : Option (Nat × Bool)} {x y z : Operand} {T T' e : TypeId} {τ τ' : Ty}
theorem clo_fn {f : FuncId} {u : Value} (hu : RepPV h S (.clo f [] []) u) : RepPV h S (.v .fn (some f)) u := by
  obtain ⟨va, vc, h1, h2, h3⟩ := hu
  rw [show va = [] from h2, show vc = [] from h3] at h1
  rw [h1]
  exact RepV.ofFn (some f)
theorem fn_clo {f : FuncId} {df : Option Nat} (hd : df = some f) {u : Value} (hu : RepPV h S (.v .fn df) u) : RepPV h S (.clo f [] []) u := by
  have h1 : u = fnV df := RepV.fn hu
  subst hd
  exact ⟨[], [], h1, rfl, rfl⟩
inductive FnL : List PV → List PV → Prop where
  | nil : FnL [] []
  | same {p : PV} {l l' : List PV} (hl : FnL l l') : FnL (p :: l) (p :: l')
  | fn {f : FuncId} {l l' : List PV} (hl : FnL l l') : FnL (.clo f [] [] :: l) (.v .fn (some f) :: l')
theorem FnL.rep {ps ps' : List PV} (hF : FnL ps ps') : ∀ {us : List Value}, RepL h S ps us → RepL h S ps' us := by
  induction hF with
  | nil => exact fun hu => hu
  | same _ ih => exact fun ⟨u, r, h1, h2, h3⟩ => ⟨u, r, h1, h2, ih h3⟩
  | fn _ ih => exact fun ⟨u, r, h1, h2, h3⟩ => ⟨u, r, h1, clo_fn h2, ih h3⟩
theorem CalmV.buildF {ps0 : List PV} {pl : List (Nat × Nat)} {parts : Array (Nat × Operand)} {ps : List PV} (dx : τ.den) (hT : BldT P T τ pl) (hF : FnL ps0 ps) (hps : evVs fl (parts.toList.map (·.2)) = some ps0 := by rfl) (hb : bldL pl (cellsPV τ (zeroD τ)) (parts.toList.map (·.1)) ps = some (cellsPV τ dx) := by rfl) : CalmV P fl σ (.build T parts) (.v τ dx) :=
  ⟨rfl, fun h S t hs _ => by
    obtain ⟨z, z1, z2, z3⟩ := hT.zer.zero
    obtain ⟨y1, y2⟩ := zero_rep h S τ
    have hr : RepL h S ps ((parts.toList.map (·.2)).map (evalO t)) := hF.rep (sees_list (fun x hx => hs x (by simpa [Op.operands] using hx)) hps)
    obtain ⟨cs', f1, f2, f3, f4⟩ := fill_bld hb hr (cells_repC y1) (af0_one y2)
    refine ⟨.agg cs'.toArray, ⟨by rw [hT.agg]; rfl, by simpa [Value.cells] using repC_cells f2⟩, fun _ _ _ _ _ H => ?_⟩
    show (bif (parts.toList.all fun p => (evalO t p.2).cells.toList.all oneCell) && ((((P.info? T).bind (·.zero)).map fun z => z.cells.toList.all af0) == some true) then (runPure P (Instr.build T (parts.map fun p => (p.1, evalO t p.2)))).map fun v => (v, H) else none) = _
    have c1 : (parts.toList.all fun p => (evalO t p.2).cells.toList.all oneCell) = true := by
      rw [List.map_map, List.all_map] at f3
      exact f3
    have c2 : ((((P.info? T).bind (·.zero)).map fun z => z.cells.toList.all af0) == some true) = true := by
      rw [z1]
      have e : z.cells.toList.all af0 = true := by rw [z2]; exact y2
      simp only [Option.map_some, e]; rfl
    have hrun := hT.run z (parts.map fun p => (p.1, evalO t p.2)) cs'.toArray z1 (by
      rw [← f1, Array.toList_map, ← zip_map, List.map_map]
      congr 1
      rw [← z2])
    rw [c1, c2, hrun]
    rfl⟩
theorem VO.callF {fid0 : FuncId} {df : Option Nat} {f : Operand} {args : Array Operand} {ats : Array TypeId} {r : PV} {asl : List PV} (hf : evV fl f = some (.v .fn df)) (hd : df = some fid0) (ha : evVs fl args.toList = some asl) (hc : VCall P orc (.clo fid0 [] []) asl r) (hk : VO P orc ops n l ((d, r) :: fl) σ K)
    (hw : wantV ops fl g = some true := by rfl) (hn : (Nat.blt d n && Nat.ble n 4000) = true := by rfl) : VO P orc ops n (⟨some d, .call { callee := .value f, args := args, argTypes := ats }, ty, pos, after, g⟩ :: l) fl σ K := fun h0 G S0 t h ms I => by
  obtain ⟨n1, n2⟩ := fits hn
  obtain ⟨fid, a, c, h1, h2⟩ := hc.ev I.ok (Lc.lt I.lc) (fn_clo hd (evV_ok I.slots hf)) (evVs_ok I.slots ha)
  refine EvO.call (want_ok I.slots hw) rfl rfl h1 (h2.mono fun u h' hq => ?_)
  obtain ⟨q1, q2, _⟩ := hq
  exact ⟨_, put_fits n1 t u, hk h0 G S0 _ h' ms ((I.calm q1).set q2 n2)⟩
end Go.Fs
namespace Go.Fs
variable {P : Program} {orc : FuncId → List Value → Heap → Option (Value × Heap)} {rnd : Option Nat} {h h' h0 h1 h2 hr : Heap} {S S' S0 B G A : List Nat} {σ σ' σr ρ : Sto} {t t' : Tr} {ms : List Nat} {fl : VL} {ops : Array Oper} {n i mem : Nat} {l : List Oper} {K : VL → Sto → Prop} {Q : Ex → VL → Sto → Prop}
  {d : Tmp} {ty : TypeId} {pos : String} {after : Array Edge} {op : Op} {v pv : PV} {g : Option (Nat × Bool)} {x y z : Operand} {T T' e : TypeId} {τ τ' : Ty} {bs nw rd chg : List Nat} {segs : List (Nat × Nat × Nat)} {tail tl : Bool} {w w' : Value}

section
variable (P orc)
end
structure Late (hr h : Heap) (S0 A : List Nat) (σ ρ : Sto) (t : Tr) (fl : VL) (nw rd chg : List Nat) : Prop where
  ok : HOk hr
  lt : ∀ b ∈ A ++ S0, b < hr.next
  next : hr.next ≤ h.next
  goes : Goes hr (A ++ S0) h (own σ ++ S0)
  slots : ∀ k pv, lkV fl k = some pv → nwHas nw k = false → RepPV hr (A ++ S0) pv (t.get k)
  suf : ∃ σ1, σ = σ1 ++ ρ
  cells : ∀ c ∈ ρ, CellR hr (A ++ S0) c.1 c.2
  fix : ∀ b ∈ own ρ, b ∈ A
  new : ∀ b ∈ own σ, b ∈ A ∨ hr.next ≤ b
  rd : ∀ b ∈ rd, b < hr.next ∧ (b ∈ own ρ ∨ b ∉ A)
  chg : ∀ k ∈ chg, k ∉ own ρ ∧ (k ∈ A ∨ hr.next ≤ k)
section
variable (P orc)
end
end Go.Fs
namespace Ieee

namespace Format
variable (f : Format)
end Format
end Ieee
namespace Ieee
def sg (s : Bool) (r : Nat) : Int := if s then -(r : Int) else r
namespace Format
variable (f : Format)
def units (x : Nat) : Option Int := match f.read x with
  | .number s m p => some (sg s (m * 2 ^ (p - f.leastPlace).toNat))
  | _ => none
variable {f}
end Format
end Ieee
namespace Ieee
namespace Format
variable {f g : Format}
end Format
end Ieee
namespace Ieee
open Format
end Ieee
namespace Ieee
open Format
end Ieee
namespace Go.Fs
variable {P : Program} {h : Heap} {S : List Nat} {σ : Sto} {t : Tr} {fl : VL} {x y : Operand} {T T' : TypeId} {v pv : PV} {k k' : FloatKind} {p q : Nat}

end Go.Fs
namespace Go.Fs
variable {P : Program} {orc : FuncId → List Value → Heap → Option (Value × Heap)} {rnd : Option Nat} {h h' h0 h1 h2 : Heap} {S S' S0 B G : List Nat} {σ σ' : Sto} {t t' : Tr} {ms : List Nat} {fl : VL} {ops : Array Oper} {n : Nat} {l : List Oper} {K : VL → Sto → Prop} {Q : Ex → VL → Sto → Prop}
  {d : Tmp} {ty : TypeId} {pos : String} {after : Array Edge} {op : Op} {v pv : PV} {g : Option (Nat × Bool)} {x y z : Operand} {T T' e : TypeId} {κ ν : Ty} {w : Value}

section
variable {α β : Type} [DecidableEq α]
def mget : List (α × β) → α → Option β
  | [], _ => none
  | (k, v) :: r, x => if x = k then some v else mget r x
def mset : List (α × β) → α → β → List (α × β)
  | [], x, y => [(x, y)]
  | (k, v) :: r, x, y => if x = k then (x, y) :: r else (k, v) :: mset r x y
end

structure KeyT (P : Program) (K : TypeId) (κ : Ty) : Prop where
  flat : κ.isFlat = true
  und : ∃ td, P.underlying K = some td ∧ ((∀ {h : Heap} {S : List Nat} (u v : Value) (x y : κ.den) (inst : Decidable (x = y)), RepV h S κ u x → RepV h S κ v y → Instr.sameNow td u v = some (@decide (x = y) inst)) ∨
    ((∀ u v, Instr.sameNow td u v = none) ∧ ∀ {h : Heap} {S : List Nat} (u v : Value) (x y : κ.den) (inst : Decidable (x = y)), RepV h S κ u x → RepV h S κ v y → runPure P (Op.equal K u v) = some (@decide (x = y) inst)))
  chk : ∀ {h : Heap} {S : List Nat} (em : Bool) (u : Value) (x : κ.den), RepV h S κ u x → (runPure P (Instr.checkKey em 10000 K u)).isSome = true
  bits : ∀ {h : Heap} {S : List Nat} (u : Value) (x : κ.den), RepV h S κ u x → Instr.sameBits 10000 u u = true
structure MapT (P : Program) (T : TypeId) (κ ν : Ty) : Prop where
  key : ∃ K E, P.underlying T = some (.map K E) ∧ KeyT P K κ ∧ ZerT P E ν

section
variable [DecidableEq κ.den] {k : κ.den} {kvs : List (κ.den × ν.den)}
end
end Go.Fs
namespace Go.Fs
variable {P : Program} {orc : FuncId → List Value → Heap → Option (Value × Heap)} {h : Heap} {S : List Nat} {σ : Sto} {t : Tr} {fl : VL} {x y : Operand} {T T' : TypeId} {v pv : PV} {k k' : FloatKind} {p q : Nat}
end Go.Fs
namespace Ieee
open Format
end Ieee
namespace Go.Fs
variable {P : Program} {orc : FuncId → List Value → Heap → Option (Value × Heap)} {rnd : Option Nat} {h : Heap} {S : List Nat} {σ : Sto} {t : Tr} {fl : VL} {x y : Operand} {T : TypeId} {n : Nat} {τ τ' : Ty} {Q : Ex → VL → Sto → Prop}
theorem VC.unroll {c : Code} (hx : VC P orc rnd c n fl σ (thenV P orc rnd n (.loop c) Q)) : VC P orc rnd (.loop c) n fl σ Q := fun h0 G S0 t h ms I => by
  refine EvC.loop ((hx h0 G S0 t h ms I).mono fun e fr h' hq => ?_)
  obtain ⟨hn, fl', σ', I', q⟩ := hq
  cases e with
  | normal =>
    obtain ⟨t', n', ms'⟩ := fr
    obtain rfl : n' = n := hn
    exact q h0 G S0 t' h' ms' I'
  | exit i => exact ⟨hn, fl', σ', I', q⟩
  | ret => exact ⟨hn, fl', σ', I', q⟩
def aofB (P : Program) (T : TypeId) (j k : Nat) (τ' : Ty) : Bool :=
  match P.underlying T with
  | some (.array n e) => match P.info? e with
    | some i => Nat.blt j n && Nat.beq k (j * i.size) && valB P e τ'
    | none => false
  | _ => false
theorem aofB_inv {j k : Nat} (hb : aofB P T j k τ' = true) : ∃ m e i, P.underlying T = some (.array m e) ∧ P.info? e = some i ∧ j < m ∧ k = j * i.size ∧ ValT P e τ' := by
  unfold aofB at hb
  split at hb
  · rename_i m e hu
    split at hb
    · rename_i i hi
      obtain ⟨h1, h2⟩ := band hb
      obtain ⟨h3, h4⟩ := band h1
      exact ⟨m, e, i, hu, hi, nblt h3, nbeq h4, valT_of h2⟩
    cases hb
  cases hb
theorem CalmV.ixA (j : Nat) {k : Nat} {dx : τ.den} {dy : τ'.den} (hs : Sub τ dx k τ' dy) (ha : τ.agg = true := by rfl) (hb : aofB P T j k τ' = true := by kernel_rfl) (hx : evV fl x = some (.v τ dx) := by rfl) (hy : evV fl y = some (.v (.int .i64) ((j : Nat) : Int)) := by rfl) : CalmV P fl σ (.index T x y) (.v τ' dy) :=
  ⟨rfl, fun h S t hq _ => by
    have hv : RepV h S τ (evalO t x) dx := hq x (by simp [Op.operands]) _ hx
    have hi : evalO t y = .int .i64 ((j : Nat) : Int) := RepV.int (hq y (by simp [Op.operands]) _ hy : RepV h S (.int .i64) _ ((j : Nat) : Int))
    obtain ⟨m, e, i, u1, u2, u3, u4, u5⟩ := aofB_inv hb
    obtain ⟨cs, hcs⟩ := aggOf ha hv
    rw [hcs] at hv
    obtain ⟨h6, h7⟩ := hs.repC hv.2
    obtain ⟨v, v1, v2⟩ := part_rep u5 (cs := cs) (o := k) h7
    refine ⟨v, v2, fun _ _ _ _ _ H => ?_⟩
    show (if af (evalO t y) then (runPure P (Instr.index T (evalO t x) (evalO t y))).map _ else none) = _
    rw [hi, hcs, if_pos (show af (Value.int .i64 ((j : Nat) : Int)) = true from rfl)]
    have h8 : (0 : Int) ≤ ((j : Nat) : Int) ∧ ((j : Nat) : Int) < (m : Nat) := by omega
    have h9 : runPure P (Instr.index T (.agg cs) (.int .i64 ((j : Nat) : Int))) = some v := by
      unfold Instr.index
      simp only [runPure_bind, asIntOf, runPure_pure, Option.bind_some, runPure_underlying u1, if_pos h8, runPure_sizeOf u2, Int.toNat_natCast, ← u4]
      exact v1
    rw [h9]; rfl⟩
theorem part_int {e : TypeId} {i : TypeInfo} {cs : Array Value} {j : Nat} {a : Int} (hu : P.underlying e = some (.int .i64)) (hi : P.info? e = some i) (hs : i.size = 1) (hc : cs[j]? = some (.int .i64 a)) : runPure P (part e cs j) = some (.int .i64 a) := by
  obtain ⟨v, v1, v2⟩ := part_rep (h := ⟨0, 0, []⟩) (S := []) (T := e) (τ := .int .i64) ⟨⟨i, hi, hs⟩, _, hu, rfl⟩ (cs := cs) (o := j) (x := a) (by
    show (cs.toList.drop j).take 1 = [.int .i64 a]
    have hl : j < cs.toList.length := by
      have := (Array.getElem?_eq_some_iff.1 hc).1; simpa using this
    rw [List.drop_eq_getElem_cons hl]
    have := (Array.getElem?_eq_some_iff.1 hc).2
    simp [this])
  rw [v1, RepV.int v2]
theorem eq_int {d : Nat} {e : TypeId} {a b : Int} (hu : P.underlying e = some (.int .i64)) : runPure P (Op.equalIn (d + 1) e (.int .i64 a) (.int .i64 b)) = some (decide (a = b)) := by
  unfold Op.equalIn
  simp only [runPure_bind, runPure_underlying hu, Option.bind_some]
  show some (a == b) = _
  congr 1
theorem forIn_all {n : Nat} {c : Nat → Bool} {f : Nat → Option Bool × PUnit → Sem (ForInStep (Option Bool × PUnit))} (hf : ∀ j, j < n → ∀ s, runPure P (f j s) = some (if c j = true then .yield (none, ⟨⟩) else .done (some false, ⟨⟩))) :
    ∀ m j, j + m ≤ n → runPure P (forIn (List.range' j m) (none, ⟨⟩) f) = some (if (List.range' j m).all c = true then (none, ⟨⟩) else (some false, ⟨⟩))
  | 0, j, _ => by simp [List.range', runPure_pure]
  | m + 1, j, h => by
    rw [List.range'_succ, List.forIn_cons, runPure_bind, hf j (by omega), Option.bind_some, List.all_cons]
    cases hc : c j with
    | true =>
      simp only [if_true, Bool.true_and]
      exact forIn_all hf m (j + 1) (by omega)
    | false => simp [runPure_pure]
theorem eq_arr {d n : Nat} {e : TypeId} {i : TypeInfo} {xs ys : List Int} (hT : P.underlying T = some (.array n e)) (hu : P.underlying e = some (.int .i64)) (hi : P.info? e = some i) (hs : i.size = 1) (hx : xs.length = n) (hy : ys.length = n) :
    runPure P (Op.equalIn (d + 2) T (.agg (xs.map (Value.int .i64)).toArray) (.agg (ys.map (Value.int .i64)).toArray)) = some (decide (xs = ys)) := by
  unfold Op.equalIn
  simp only [runPure_bind, runPure_underlying hT, Option.bind_some, runPure_sizeOf hi, hs, Std.Legacy.Range.forIn_eq_forIn_range', Std.Legacy.Range.size]
  have hst : ∀ {β : Type} (g : Nat → β → Sem (ForInStep β)) (b : β), forIn (List.range' 0 ((n - 0 + 1 - 1) / 1)) b g = forIn (List.range' 0 n) b g := fun g b => by congr 2; simp
  rw [hst, forIn_all (n := n) (c := fun j => decide (xs.getD j 0 = ys.getD j 0)) (fun j hj s => ?_) n 0 (by omega)]
  · have hall : ((List.range' 0 n).all fun j => decide (xs.getD j 0 = ys.getD j 0)) = decide (xs = ys) := by
      by_cases h : xs = ys
      · subst h; simp
      rw [decide_eq_false h, ← Bool.not_eq_true, List.all_eq_true]
      intro hh
      apply h
      refine List.ext_getElem (by omega) fun k h1 h2 => ?_
      have := hh k (by simp; omega)
      simpa [List.getD_eq_getElem?_getD, List.getElem?_eq_getElem h1, List.getElem?_eq_getElem h2] using this
    rw [hall]
    by_cases h : xs = ys <;> simp [h, runPure_pure]
  have p1 : runPure P (part e (xs.map (Value.int .i64)).toArray (j * 1)) = some (.int .i64 (xs.getD j 0)) := part_int hu hi hs (by simp [List.getD_eq_getElem?_getD, List.getElem?_eq_getElem (show j < xs.length by omega)])
  have p2 : runPure P (part e (ys.map (Value.int .i64)).toArray (j * 1)) = some (.int .i64 (ys.getD j 0)) := part_int hu hi hs (by simp [List.getD_eq_getElem?_getD, List.getElem?_eq_getElem (show j < ys.length by omega)])
  simp only [runPure_bind, p1, p2, Option.bind_some, eq_int hu]
  by_cases h : xs.getD j 0 = ys.getD j 0 <;> simp [h, runPure_pure, -List.getD_eq_getElem?_getD]
def arrB (P : Program) (T : TypeId) (n : Nat) : Bool :=
  match P.underlying T with
  | some (.array m e) => Nat.beq m n && !P.eqGuardType P.depth T && (match P.underlying e with | some (.int k) => decide (k = .i64) | _ => false) && (match P.info? e with | some i => Nat.beq i.size 1 | none => false)
  | _ => false
section
variable {T' : TypeId}
theorem CalmV.arrCmp {b : BinOp} {dx dy : τ.den} {xs ys : List Int} {r : Bool} (hbop : (b = .eql ∧ r = decide (xs = ys)) ∨ (b = .neq ∧ r = !decide (xs = ys))) (ha : τ.agg = true) (hf : τ.isFlat = true) (hcx : τ.flatC dx = xs.map (Value.int .i64)) (hcy : τ.flatC dy = ys.map (Value.int .i64)) (hb : arrB P T xs.length = true) (hl : ys.length = xs.length)
    (hx : evV fl x = some (.v τ dx) := by rfl) (hy : evV fl y = some (.v τ dy) := by rfl) : CalmV P fl σ (.binOp b T x y T') (.v .bool r) :=
  .bin hx hy fun h S a c hu hv => by
    have e1 := flat_agg hu hf ha
    have e2 := flat_agg hv hf ha
    rw [hcx] at e1
    rw [hcy] at e2
    unfold arrB at hb
    split at hb
    · rename_i m e hU
      obtain ⟨hb, h4⟩ := band hb
      obtain ⟨hb, h3⟩ := band hb
      obtain ⟨h1, h2⟩ := band hb
      have h1 := nbeq h1
      have hg : P.eqGuardType P.depth T = false := by simpa using h2
      have hi : P.underlying e = some (.int .i64) := by
        split at h3
        · rename_i k hk; rw [of_decide_eq_true h3] at hk; exact hk
        cases h3
      obtain ⟨i, hi2, hi3⟩ : ∃ i, P.info? e = some i ∧ i.size = 1 := by
        split at h4
        · rename_i i hi; exact ⟨i, hi, nbeq h4⟩
        cases h4
      have hrun : runPure P (Op.equal T a c) = some (decide (xs = ys)) := by
        rw [e1, e2]; exact eq_arr (d := 9998) (by rw [hU, h1]) hi hi2 hi3 rfl hl
      subst e1 e2
      refine ⟨.bool r, RepV.ofBool _, ?_, ?_⟩
      · rw [(RepPV.flat (pv := .v τ dx) hf hu).1, (RepPV.flat (pv := .v τ dy) hf hv).1]; rfl
      have he : ∀ q, runPure P (eqGuard q T x y (.agg (xs.map (Value.int .i64)).toArray) (.agg (ys.map (Value.int .i64)).toArray)) = some () := fun q => by
        unfold eqGuard
        cases q <;> simp [runPure_bind, runPure_program, hg, runPure_pure]
      have hbo : runPure P (binOp b T (.agg (xs.map (Value.int .i64)).toArray) (.agg (ys.map (Value.int .i64)).toArray)) = some (.bool r) := by
        rcases hbop with ⟨rfl, rfl⟩ | ⟨rfl, rfl⟩
        · unfold binOp
          simp only [runPure_bind, hrun, Option.bind_some, runPure_pure]
        unfold binOp
        simp only [runPure_bind, hrun, Option.bind_some, runPure_pure]
      unfold purely
      rw [runPure_bind, he]
      simp only [Option.bind_some, hbo]; rfl
    cases hb
end
end Go.Fs
namespace Go.Fs
variable {P : Program} {orc : FuncId → List Value → Heap → Option (Value × Heap)} {rnd : Option Nat} {h h' h0 h1 h2 : Heap} {S S' S0 B G : List Nat} {σ σ' : Sto} {t t' : Tr} {ms : List Nat} {fl nw : VL} {ops : Array Oper} {n : Nat} {l : List Oper} {K : VL → Sto → Prop} {Q : Ex → VL → Sto → Prop}
  {d : Tmp} {ty : TypeId} {pos : String} {after : Array Edge} {op : Op} {v pv : PV} {g : Option (Nat × Bool)} {x y z : Operand} {T T' e : TypeId} {w : Value} {s : ByteArray} {p : Nat}

theorem FreshO.rng (hT : P.underlying T = some .string := by kernel_rfl) (hx : evV fl x = some (.v .str s) := by rfl) : FreshO P fl (.range T x) (.it s 0) :=
  ⟨rfl, fun h S t hs hok hS => by
    have hv : evalO t x = .string s := RepV.str (hs x (by simp [Op.operands]) _ hx : RepV h S .str _ s)
    refine ⟨fun k => .pointer (some ⟨k, 0, none⟩), .iter s 0, fun _ => rfl, fun S' hN hm => ⟨h.next, rfl, hm, by rw [Heap.get_push, if_pos rfl]⟩, fun H _ _ _ _ _ => ?_⟩
    show fsRange P T (evalO t x) H = _
    rw [hv]
    simp [fsRange, hT]⟩
theorem MakeV.nextT (hp : p < s.size) (hx : evV fl x = some (.raw w)) : MakeV P fl ((w, .it s p) :: σ) (.next x true) fun v σ' => v = .tup [.v .bool true, .v (.int .i64) ((p : Nat) : Int), .v (.int .i32) (((Utf8.decode s p).1 : Nat) : Int)] ∧ σ' = (w, .it s (p + (Utf8.decode s p).2)) :: σ :=
  ⟨rfl, fun S0 h t L => by
    have h1 : evalO t x = w := evV_ok L.slots hx
    obtain ⟨b, h3, h4, hg⟩ := L.cells _ List.mem_cons_self
    have hw : w = .pointer (some ⟨b, 0, none⟩) := h3
    have hbk : blk w = [b] := by rw [hw]; rfl
    refine ⟨.tuple #[.bool true, .int .i64 ((p : Nat) : Int), .int .i32 (((Utf8.decode s p).1 : Nat) : Int)], h.set b (.iter s (p + (Utf8.decode s p).2)), _, _, ⟨rfl, rfl⟩, Made.head L (Aft.set hg (by rw [hbk]; simp)) (fun b hb => .inl hb) (by rw [hbk]; simp) fun hN => ?_, ?_, fun _ _ _ _ _ => ?_⟩
    · refine ⟨b, h3, ?_, by rw [Heap.get_set hg, if_pos rfl]⟩
      rw [own_cons]; exact List.mem_append_left _ (List.mem_append_left _ (by rw [hbk]; simp))
    · exact ⟨_, rfl, _, _, rfl, RepV.ofBool _, _, _, rfl, RepV.ofInt _ _, _, _, rfl, RepV.ofInt _ _, rfl⟩
    show fsNext (evalO t x) true h = _
    rw [h1, hw]
    simp [fsNext, hg, hp]⟩
theorem MakeV.nextF (hp : ¬ p < s.size) (hx : evV fl x = some (.raw w)) : MakeV P fl ((w, .it s p) :: σ) (.next x true) fun v σ' => v = .tup [.v .bool false] ∧ σ' = (w, .it s p) :: σ :=
  ⟨rfl, fun S0 h t L => by
    have h1 : evalO t x = w := evV_ok L.slots hx
    obtain ⟨b, h3, h4, hg⟩ := L.cells _ List.mem_cons_self
    have hw : w = .pointer (some ⟨b, 0, none⟩) := h3
    refine ⟨.tuple #[.bool false], h, _, _, ⟨rfl, rfl⟩, Made.same L (Aft.refl h []), ⟨_, rfl, _, _, rfl, RepV.ofBool _, rfl⟩, fun _ _ _ _ _ => ?_⟩
    show fsNext (evalO t x) true h = _
    rw [h1, hw]
    simp [fsNext, hg, hp]⟩
theorem VO.next (hx : evV fl x = some (.raw w)) (h1 : p < s.size → VO P orc ops n l ((d, .tup [.v .bool true, .v (.int .i64) ((p : Nat) : Int), .v (.int .i32) (((Utf8.decode s p).1 : Nat) : Int)]) :: fl) ((w, .it s (p + (Utf8.decode s p).2)) :: σ) K) (h2 : ¬ p < s.size → VO P orc ops n l ((d, .tup [.v .bool false]) :: fl) ((w, .it s p) :: σ) K)
    (hw : wantV ops fl g = some true := by rfl) (hn : (Nat.blt d n && Nat.ble n 4000) = true := by rfl) : VO P orc ops n (⟨some d, .next x true, ty, pos, after, g⟩ :: l) fl ((w, .it s p) :: σ) K := by
  by_cases hp : p < s.size
  · exact VO.mk (MakeV.nextT hp hx) (by rintro _ _ ⟨rfl, rfl⟩; exact h1 hp) hw hn
  exact VO.mk (MakeV.nextF hp hx) (by rintro _ _ ⟨rfl, rfl⟩; exact h2 hp) hw hn
theorem CalmV.ext0 {b : Bool} (hx : evV fl x = some (.tup [.v .bool b]) := by rfl) : CalmV P fl σ (.extract x 0) (.v .bool b) := ⟨rfl, fun h S t hs _ => by
  obtain ⟨us, h1, u, r, rfl, h2, h3⟩ := (hs x (by simp [Op.operands]) _ hx : RepPV h S (.tup [.v .bool b]) _)
  obtain rfl : r = [] := h3
  have hu : u = .bool b := RepV.bool h2
  subst hu
  refine ⟨.bool b, RepV.ofBool _, fun _ _ _ _ _ H => ?_⟩
  show (bif isJunk (evalO t x) then none else (runPure P (Instr.extract (evalO t x) 0)).map _) = _
  rw [h1]
  have hj : isJunk (.tuple [Value.bool b].toArray) = false := rfl
  rw [hj]
  rfl⟩
theorem decode_low {i : Nat} (h : (s.get! i).toNat < 128) : Utf8.decode s i = ((s.get! i).toNat, 1) := by
  unfold Utf8.decode
  simp only [Nat.add_zero]
  rw [if_pos h]
theorem decode_high {i : Nat} (h : ¬ (s.get! i).toNat < 128) : 128 ≤ (Utf8.decode s i).1 := by
  unfold Utf8.decode
  simp only [Nat.add_zero]
  rw [if_neg h]
  have hr : 128 ≤ Utf8.runeError := by decide
  split
  · split
    · assumption
    exact hr
  split
  · split
    · rename_i hc
      have := (Bool.and_eq_true .. ▸ hc : _ ∧ _).1
      have := of_decide_eq_true this
      simp only; omega
    exact hr
  split
  · split
    · rename_i hc
      have := (Bool.and_eq_true .. ▸ hc : _ ∧ _).1
      have := of_decide_eq_true this
      simp only; omega
    exact hr
  exact hr

structure GdT (ops : Array Oper) (fl : VL) (g : Option (Nat × Bool)) (b : Bool) : Prop where
  want : ∀ {h : Heap} {S : List Nat} {t : Tr}, Slots h S t fl → ∀ o : Oper, o.guard = g → fsWanted ops t o = some b
end Go.Fs
namespace Go.Fs
instance : DecidableEq (Ty.den .str) := inferInstanceAs (DecidableEq ByteArray)
instance {k : IntKind} : DecidableEq (Ty.den (.int k)) := inferInstanceAs (DecidableEq Int)
instance : DecidableEq (Ty.den .bool) := inferInstanceAs (DecidableEq Bool)
instance {a b : Ty} [DecidableEq a.den] [DecidableEq b.den] : DecidableEq (Ty.den (.pair a b)) := inferInstanceAs (DecidableEq (a.den × b.den))
variable {P : Program} {orc : FuncId → List Value → Heap → Option (Value × Heap)} {fl : VL} {σ γ : Sto} {T : TypeId} {τ : Ty}
def byteE (s : ByteArray) (i : Int) : Int := (((s.get! i.toNat).toNat : Nat) : Int)
theorem byteE_nat (s : ByteArray) (i : Nat) : byteE s i = (((s.get! i).toNat : Nat) : Int) := rfl
theorem CalmV.ixS {x y : Operand} {s : ByteArray} {i : Int} (hx : evV fl x = some (.v .str s)) (hy : evV fl y = some (.v (.int .i64) i)) (h0 : 0 ≤ i) (h1 : i < (s.size : Nat)) (hT : P.underlying T = some .string := by kernel_rfl) : CalmV P fl σ (.index T x y) (.v (.int .u8) (byteE s i)) :=
  ⟨rfl, fun h S t hq _ => by
    have hv : evalO t x = .string s := RepV.str (hq x (by simp [Op.operands]) _ hx : RepV h S .str _ s)
    have hi : evalO t y = .int .i64 i := RepV.int (hq y (by simp [Op.operands]) _ hy : RepV h S (.int .i64) _ i)
    refine ⟨.int .u8 (byteE s i), RepV.ofInt _ _, fun _ _ _ _ _ H => ?_⟩
    show (if af (evalO t y) then (runPure P (Instr.index T (evalO t x) (evalO t y))).map _ else none) = _
    rw [hi, hv, if_pos (show af (Value.int .i64 i) = true from rfl)]
    have hb : i.toNat < s.size := by omega
    have h8 : s[i.toNat]? = some (s.get! i.toNat) := by
      rw [getElem?_pos s i.toNat hb]
      congr 1
      show s.data[i.toNat] = s.data[i.toNat]!
      rw [getElem!_pos s.data i.toNat hb]
    have h9 : runPure P (Instr.index T (.string s) (.int .i64 i)) = some (.int .u8 (byteE s i)) := by
      unfold Instr.index
      simp only [runPure_bind, asIntOf, runPure_pure, Option.bind_some, runPure_underlying hT, if_pos h0, h8]
      rfl
    rw [h9]; rfl⟩
end Go.Fs
namespace Go.Fs
variable {P : Program} {orc : FuncId → List Value → Heap → Option (Value × Heap)} {fl : VL} {σ : Sto} {T T' e ty : TypeId} {τ : Ty} {ops : Array Oper} {n : Nat} {l : List Oper} {K : VL → Sto → Prop} {d : Tmp} {pos : String} {after : Array Edge} {g : Option (Nat × Bool)} {x y : Operand} {xs : List τ.den}
theorem agg_one {w : Value} (h : oneCell w = true) : isAggV w = false := by
  cases w <;> first | rfl | cases h
end Go.Fs
namespace Go.Fs
variable {P : Program} {orc : FuncId → List Value → Heap → Option (Value × Heap)} {h h1 h2 h' : Heap} {S S0 : List Nat} {σ γ σr : Sto} {fl : VL} {ops : Array Oper} {n : Nat} {l : List Oper} {K : VL → Sto → Prop} {d : Tmp} {ty : TypeId} {pos : String} {after : Array Edge} {g : Option (Nat × Bool)}

theorem stepAt_yield {o : Oper} {c : Call} {f : Operand} {j : Nat} {ev : Operand → Value} (ho : o.op = .call c) (hc : c.callee = .value f) (hf : ev f = .func (.yield j) #[] #[]) (m : Nat) (h : Heap) :
    stepAt P orc m o ev h = fsYield (fsCode P orc m) j (c.args.toList.map ev) h := by
  unfold stepAt fsOp
  rw [ho]
  simp only [hc, hf]
theorem EvO.yield {QO : Tr → Heap → Prop} {o : Oper} {t : Tr} {c : Call} {f : Operand} {j : Nat} (hw : fsWanted ops t o = some true) (ho : o.op = .call c) (hc : c.callee = .value f) (hf : evalO t f = .func (.yield j) #[] #[])
    (hl : EvY P orc j (c.args.toList.map (evalO t)) h fun v h' => ∃ t', put n t o.dst v = some t' ∧ EvO P orc ops n l t' h' QO) : EvO P orc ops n (o :: l) t h QO := by
  obtain ⟨m, v, h1, hr, t1, hp, k, t2, h2, hr2, hq⟩ := hl
  refine ⟨max m k, t2, h2, ?_, hq⟩
  have h3 := fsYield_mono (fsCode_mono (P := P) (orc := orc) (Nat.le_max_left m k)) _ _ _ _ hr
  simp only [fsOps, hw, stepAt_yield ho hc hf, h3, hp]
  exact fsOps_mono (stepAt_mono (Nat.le_max_right m k)) _ _ _ _ hr2
theorem EvY.mono {j : Nat} {args : List Value} {Q Q' : Value → Heap → Prop} (hc : EvY P orc j args h Q) (hq : ∀ v h', Q v h' → Q' v h') : EvY P orc j args h Q' :=
  let ⟨m, v, h', h1, h2⟩ := hc; ⟨m, v, h', h1, hq _ _ h2⟩
theorem EvY.round {Q : Value → Heap → Prop} {j : Nat} {j0 : Option Code} {tmps t : Tr} {params : Array Tmp} {assign body : Code} {dm : Nat} {args : List Value} (hg : h.get j = some (.loopo .ready j0 tmps n params assign body dm)) (hlen : Nat.beq args.length params.size = true) (ht : setAll n tmps (params.toList.zip args) = some t)
    (ha : EvC P orc (some j) assign ⟨t, n, []⟩ h fun e fr h1 => e = .normal ∧ ∃ jp tm n' ps' as' bo' d', h1.get j = some (.loopo .ready jp tm n' ps' as' bo' d') ∧
      EvC P orc (some j) body fr (h1.set j (.loopo .busy jp tm n' ps' as' bo' d')) fun e _ h2 => ∃ st jp2 tm2 n2 ps2 as2 bo2 d2, h2.get j = some (.loopo st jp2 tm2 n2 ps2 as2 bo2 d2) ∧
        Q (.bool (jumpOf e).isNone) (h2.set j (.loopo (bif (jumpOf e).isNone then .ready else .done) (jumpOf e) tm2 n2 ps2 as2 bo2 d2))) : EvY P orc j args h Q := by
  obtain ⟨m, e, fr, h1, hr, rfl, jp, tm, n', ps', as', bo', d', hg1, k, e2, fr2, h2, hr2, st, jp2, tm2, n2, ps2, as2, bo2, d2, hg2, hq⟩ := ha
  refine ⟨max m k, _, _, ?_, hq⟩
  have a1 := fsCode_mono (P := P) (orc := orc) (Nat.le_max_left m k) _ _ _ _ _ hr
  have a2 := fsCode_mono (P := P) (orc := orc) (Nat.le_max_right m k) _ _ _ _ _ hr2
  unfold fsYield
  simp only [hg, hlen, cond_true, ht, a1, hg1, a2, hg2]
def EvFK (P : Program) (orc : FuncId → List Value → Heap → Option (Value × Heap)) (f : FuncId) (args : List Value) (h : Heap) (Q : Value → Heap → Prop) : Prop := ∃ m v h', fsEnterK P true (fsCode P orc m) f args h = some (v, h') ∧ Q v h'
theorem EvFK.mono {f : FuncId} {args : List Value} {Q Q' : Value → Heap → Prop} (hc : EvFK P orc f args h Q) (hq : ∀ v h', Q v h' → Q' v h') : EvFK P orc f args h Q' :=
  let ⟨m, v, h', h1, h2⟩ := hc; ⟨m, v, h', h1, hq _ _ h2⟩
theorem EvFK.enter {f : FuncId} {args : List Value} {fn : Func} {c : Code} {QF : Value → Heap → Prop} (hfn : P.funcs[f]? = some fn) (hc : fn.body = some c) (hn : (Nat.blt 4000 fn.ntmps || Nat.blt fn.ntmps args.length) = false)
    (hb : EvC P orc none c ⟨fillTr .leaf 0 args, fn.ntmps, []⟩ { next := h.next, low := h.next, objs := h.objs } fun e fr h1 =>
      e.goes = true ∧ ∃ h2 vs, dropMarks fr.marks h1 = some h2 ∧ fsResults P fr.t h2 fn.results.toList = some vs ∧ QF (tupled vs) { next := h2.next, low := min h.low h2.low, objs := h2.objs }) : EvFK P orc f args h QF := by
  obtain ⟨m, e, fr, h1, hr, hg, h2, vs, hd, hvs, hq⟩ := hb
  refine ⟨m, _, _, ?_, hq⟩
  unfold fsEnterK
  simp only [hfn, hc, hn, cond_false, hr, hg, cond_true, hd, hvs, Bool.not_true, Bool.false_and]
theorem EvC.rangeFunc {fr : Fr} {Q : Ex → Fr → Heap → Prop} {x : Operand} {f : FuncId} {a c : Array Value} {ps : Array Tmp} {assign body : Code} (hgv : evalO fr.t x = .func (.func f) a c)
    (hl : EvFK P orc f (a.toList ++ [.func (.yield (h.push .defd).next) #[] #[]] ++ c.toList) ((h.push .defd).push (.loopo .ready none fr.t fr.n ps assign body h.next)) fun _ h3 =>
      ∃ st e tm n' ps' as' bo' d', h3.get (h.push .defd).next = some (.loopo st (jumpOf e) tm n' ps' as' bo' d') ∧ st ≠ .busy ∧ Q e ⟨fr.t, fr.n, h.next :: fr.marks⟩ (h3.set (h.push .defd).next (.loopo .exhausted (jumpOf e) tm n' ps' as' bo' d'))) :
    EvC P orc none (.rangeFunc x ps assign body) fr h Q := by
  obtain ⟨m, v, h3, hr, st, e, tm, n', ps', as', bo', d', hg, hst, hq⟩ := hl
  refine ⟨m + 1, e, _, _, ?_, hq⟩
  show fsRangeFunc P (fsCode P orc m) none x ps assign body fr h = _
  unfold fsRangeFunc fsMark
  simp only [hgv, hr, hg]
  cases st with
  | busy => exact absurd rfl hst
  | _ => cases e <;> rfl

section
variable (P orc)
def VYG (yv : Value) (args : List PV) (γ : Sto) (Q : PV → Sto → Prop) : Prop := ∀ (h : Heap) (S : List Nat) (us : List Value), HOk h → (∀ b ∈ S, b < h.next) → (∀ c ∈ γ, CellR h (own γ ++ S) c.1 c.2) → (own γ).Nodup → (∀ b ∈ own γ, b ∉ S) → RepL h (own γ ++ S) args us →
  ∃ j, yv = .func (.yield j) #[] #[] ∧ EvY P orc j us h fun u h' => ∃ r γ', Q r γ' ∧ Made S h h' γ γ' ∧ RepPV h' (own γ' ++ S) r u
end
theorem VO.callY {f : Operand} {args : Array Operand} {ats : Array TypeId} {yv : Value} {asl : List PV} {Q : PV → Sto → Prop} (γ : Sto) (hσ : γ ++ σ = σr) (hf : evV fl f = some (.raw yv)) (ha : evVs fl args.toList = some asl) (hc : VYG P orc yv asl γ Q) (hk : ∀ r γ', Q r γ' → VO P orc ops n l ((d, r) :: fl) (γ' ++ σ) K)
    (hw : wantV ops fl g = some true := by rfl) (hn : (Nat.blt d n && Nat.ble n 4000) = true := by rfl) : VO P orc ops n (⟨some d, .call { callee := .value f, args := args, argTypes := ats }, ty, pos, after, g⟩ :: l) fl σr K := fun h0 G S0 t h ms Iv0 => by
  subst hσ
  obtain ⟨n1, n2⟩ := fits hn
  have L := Iv0.lc
  have hap := L.apart
  rw [own_app] at hap
  obtain ⟨hap1, hap2, hap3⟩ := List.nodup_append.1 hap
  have hfv : evalO t f = yv := evV_ok Iv0.slots hf
  have hargs := evVs_ok Iv0.slots ha
  rw [own_app, List.append_assoc] at hargs
  have hcells : ∀ c ∈ γ, CellR h (own γ ++ (own σ ++ S0)) c.1 c.2 := fun c hc => by
    have := L.cells c (List.mem_append_left _ hc)
    rwa [own_app, List.append_assoc] at this
  obtain ⟨j, hj, hY⟩ := hc h (own σ ++ S0) _ Iv0.ok (fun b hb => L.lt b (by
    rcases List.mem_append.1 hb with hb | hb
    · exact List.mem_append_left _ (by rw [own_app]; exact List.mem_append_right _ hb)
    · exact List.mem_append_right _ hb)) hcells hap1 (fun b hb hm => by
    rcases List.mem_append.1 hm with hm | hm
    · exact hap3 b hb b hm rfl
    exact L.sep b (by rw [own_app]; exact List.mem_append_left _ hb) hm) hargs
  refine EvO.yield (want_ok Iv0.slots hw) rfl rfl (hfv.trans hj) (hY.mono fun u h' hq => ?_)
  obtain ⟨r, γ', q1, q2, q3⟩ := hq
  refine ⟨_, put_fits n1 t u, hk r γ' q1 h0 G S0 _ h' ms ((Iv0.made (Made.app L q2)).set ?_ n2)⟩
  rw [own_app, List.append_assoc]; exact q3

def prmVL : List Tmp → List PV → VL → VL
  | p :: ps, a :: asl, fl => prmVL ps asl ((p, a) :: fl)
  | _, _, fl => fl
theorem slots_setAll (hn4 : n ≤ 4000) : ∀ {ps : List Tmp} {asl : List PV} {us : List Value} {t : Tr} {fl : VL}, (∀ p ∈ ps, Nat.blt p n = true) → Slots h S t fl → RepL h S asl us → ps.length = asl.length →
    ∃ t', setAll n t (ps.zip us) = some t' ∧ Slots h S t' (prmVL ps asl fl)
  | [], asl, us, t, fl, _, hs, hr, _ => ⟨t, by cases us <;> rfl, by cases asl <;> exact hs⟩
  | p :: ps, [], us, t, fl, _, hs, hr, hl => by cases hl
  | p :: ps, a :: asl, us, t, fl, hp, hs, ⟨u, r, h1, h2, h3⟩, hl => by
    subst h1
    have hpn := hp p List.mem_cons_self
    have hp4 : p < 4000 := Nat.lt_of_lt_of_le (nblt hpn) hn4
    obtain ⟨t', e1, e2⟩ := slots_setAll (ps := ps) (asl := asl) (us := r) (t := t.set depth p u) (fl := (p, a) :: fl) hn4 (fun q hq => hp q (List.mem_cons_of_mem _ hq)) (hs.set h2 hp4) h3 (by simpa using hl)
    refine ⟨t', ?_, e2⟩
    show setAll n t ((p, u) :: ps.zip r) = _
    unfold setAll
    rw [put_fits hpn]
    exact e1
theorem VYG.round {yv : Value} {fl0 : VL} {ps : Array Tmp} {assign body : Code} {args : List PV} {Qb : Ex → VL → Sto → Prop} (hlen : ps.size = args.length) (hps : ∀ p ∈ ps.toList, Nat.blt p n = true) (hn4 : n ≤ 4000)
    (hb : ∀ j, VC P orc (some j) assign n (prmVL ps.toList args fl0) γ (fun e fl σ => e = .normal ∧ VC P orc (some j) body n fl σ Qb)) :
    VYG P orc yv args ((yv, .loop .ready none n fl0 ps assign body) :: γ) (fun r γ' => ∃ e fl σ', Qb e fl σ' ∧ r = .v .bool (jumpOf e).isNone ∧ γ' = (yv, .loop (bif (jumpOf e).isNone then .ready else .done) (jumpOf e) n fl0 ps assign body) :: σ') := by
  intro h S us hok hS hcells hnd hsep ha
  obtain ⟨j, tmps, dm, hyv, hjS, hg, hsl⟩ := hcells _ List.mem_cons_self
  have hyv' : yv = .func (.yield j) #[] #[] := hyv
  subst hyv'
  have how : ∀ (c : Cell) (s : Sto), own ((.func (.yield j) #[] #[], c) :: s) = j :: own s := fun c s => rfl
  rw [how] at hcells hnd hsep ha hsl
  obtain ⟨hj1, hnd2⟩ := List.nodup_cons.1 hnd
  have hjn : j < h.next := hok j _ hg
  have hjS' : j ∉ S := hsep j List.mem_cons_self
  have goes0 : Goes h (j :: own γ ++ S) h (own γ ++ (j :: S)) := Goes.less fun b hb => by
    rcases List.mem_append.1 hb with hb | hb
    · exact List.mem_append_left _ (List.mem_cons_of_mem _ hb)
    rcases List.mem_cons.1 hb with hb | hb
    · subst hb; exact List.mem_append_left _ List.mem_cons_self
    exact List.mem_append_right _ hb
  obtain ⟨t1, hset, hsl1⟩ := slots_setAll (n := n) hn4 hps hsl ha hlen
  have hlu := ha.len
  have I1 : Iv h (own γ) (j :: S) h γ t1 [] (prmVL ps.toList args fl0) := {
    ok := hok
    s0 := fun b hb => by
      rcases List.mem_cons.1 hb with hb | hb
      · subst hb; exact hjn
      exact hS b hb
    aft := Aft.refl _ _
    cells := fun c hc => (hcells c (List.mem_cons_of_mem _ hc)).keep (fun _ _ => rfl) goes0 fun b hb => List.mem_append_left _ (List.mem_flatMap.2 ⟨c, hc, hb⟩)
    new := fun b hb => ⟨.inl hb, fun hm => by
      rcases List.mem_cons.1 hm with hm | hm
      · subst hm; exact hj1 hb
      exact hsep b (List.mem_cons_of_mem _ hb) hm⟩
    apart := hnd2
    mark := fun d hd => by cases hd
    marks := List.nodup_nil
    slots := hsl1.nx goes0 }
  refine ⟨j, rfl, EvY.round hg (by rw [hlu, ← hlen]; exact Nat.beq_refl _) hset ((hb j h (own γ) (j :: S) t1 h [] I1).mono fun e fr h1 hq => ?_)⟩
  obtain ⟨hfn, fl1, σ1, Iv1, he, hbody⟩ := hq
  have g1 : h1.get j = h.get j := Iv1.aft.get j hjn hj1
  have hg1 := g1.trans hg
  refine ⟨he, _, _, _, _, _, _, _, hg1, ?_⟩
  let B : AObj := .loopo .busy none tmps n ps assign body dm
  have hgB : ∀ b, (h1.set j B).get b = if b = j then some B else h1.get b := fun b => Heap.get_set hg1 ..
  have hgA : ∀ b, (h.set j B).get b = if b = j then some B else h.get b := fun b => Heap.get_set hg ..
  have hj2 : j ∉ own σ1 := fun hm => (Iv1.new j hm).2 List.mem_cons_self
  have goes1 : Goes h1 (own σ1 ++ (j :: S)) (h1.set j B) (own σ1 ++ (j :: S)) := fun b o hb hn => ⟨by
    rw [hgB, if_neg (fun e => hn (by subst e; exact List.mem_append_right _ List.mem_cons_self))]; exact hb, hn⟩
  have a2 := (Aft.set (h := h1) (o' := B) (B := [j]) hg1 List.mem_cons_self)
  have I2 : Iv (h.set j B) (own γ) (j :: S) (h1.set j B) σ1 fr.t fr.marks fl1 := {
    ok := a2.ok Iv1.ok
    s0 := I1.s0
    aft := {
      next := Iv1.aft.next
      get := fun b hb hn => by
        rw [hgB, hgA]
        split
        · rfl
        exact Iv1.aft.get b hb hn
      ok := fun _ => a2.ok Iv1.ok
      low := fun e h3 h4 h5 => by
        have h6 : e ≤ h.low := Nat.le_trans h3 (Nat.min_le_left _ _)
        have h7 : e ≤ j := Nat.le_trans h3 (Nat.min_le_right _ _)
        exact Nat.le_min.2 ⟨Iv1.aft.low e h6 h4 h5, h7⟩
      chg := fun b hb => by
        rw [hgB, hgA]
        by_cases e : b = j
        · rw [if_pos e, if_pos e]; exact .inl rfl
        rw [if_neg e, if_neg e]
        rcases Iv1.aft.chg b hb with h3 | h3
        · exact .inl h3
        exact .inr (Nat.le_trans (Nat.min_le_left _ _) h3)
      lowle := by
        show min h1.low j ≤ min h.low j
        have := Iv1.aft.lowle
        omega }
    cells := fun c hc => (Iv1.cells c hc).keep (fun b hb => by
      rw [hgB, if_neg (fun e => hj2 (by subst e; exact List.mem_flatMap.2 ⟨c, hc, hb⟩))]) goes1 fun b hb => List.mem_append_left _ (List.mem_flatMap.2 ⟨c, hc, hb⟩)
    new := Iv1.new
    apart := Iv1.apart
    mark := fun d hd => by
      obtain ⟨m1, m2⟩ := Iv1.mark d hd
      refine ⟨m1, ?_⟩
      rw [hgB, if_neg (fun e => by subst e; rw [hg1] at m2; cases m2)]; exact m2
    marks := Iv1.marks
    slots := Iv1.slots.nx goes1 }
  have hfr : fr = ⟨fr.t, n, fr.marks⟩ := by cases fr; cases hfn; rfl
  rw [hfr]
  refine (hbody (h.set j B) (own γ) (j :: S) fr.t (h1.set j B) fr.marks I2).mono fun e2 fr2 h2 hq2 => ?_
  obtain ⟨_, fl2, σ2, Iv2, hQb⟩ := hq2
  have hj3 : j ∉ own σ2 := fun hm => (Iv2.new j hm).2 List.mem_cons_self
  have g2 : h2.get j = some B := by
    rw [Iv2.aft.get j hjn hj1, hgA, if_pos rfl]
  refine ⟨_, _, _, _, _, _, _, _, g2, .v .bool (jumpOf e2).isNone, _, ⟨e2, fl2, σ2, hQb, rfl, rfl⟩, ?_, RepV.ofBool _⟩
  let C : AObj := .loopo (bif (jumpOf e2).isNone then .ready else .done) (jumpOf e2) tmps n ps assign body dm
  have hgC : ∀ b, (h2.set j C).get b = if b = j then some C else h2.get b := fun b => Heap.get_set g2 ..
  have at1 : Aft h (h.set j B) (j :: own γ) := Aft.set hg List.mem_cons_self
  have at2 : Aft h h2 (j :: own γ) := at1.trans Iv2.aft fun i hi => .inl (List.mem_cons_of_mem _ hi)
  have at3 : Aft h (h2.set j C) (j :: own γ) := at2.trans (Aft.set (B := [j]) g2 List.mem_cons_self) fun i hi => .inl (by rw [List.mem_singleton.1 hi]; exact List.mem_cons_self)
  have hnew : ∀ b ∈ j :: own σ2, b ∈ j :: own γ ∨ h.next ≤ b := fun b hb => by
    rcases List.mem_cons.1 hb with hb | hb
    · subst hb; exact .inl List.mem_cons_self
    rcases (Iv2.new b hb).1 with h3 | h3
    · exact .inl (List.mem_cons_of_mem _ h3)
    exact .inr h3
  have goes3 : Goes h (j :: own γ ++ S) (h2.set j C) (j :: own σ2 ++ S) := at3.goes hok (fun b hb => List.mem_append_left _ hb) fun b hb => by
    rcases List.mem_append.1 hb with hb | hb
    · rcases hnew b hb with h3 | h3
      · exact .inl (List.mem_append_left _ h3)
      exact .inr h3
    exact .inl (List.mem_append_right _ hb)
  refine ⟨at3, hnew, List.nodup_cons.2 ⟨hj3, Iv2.apart⟩, fun c hc => ?_⟩
  show CellR (h2.set j C) (j :: own σ2 ++ S) c.1 c.2
  rcases List.mem_cons.1 hc with hc' | hc'
  · subst hc'
    exact ⟨j, tmps, dm, rfl, List.mem_append_left _ List.mem_cons_self, by rw [hgC, if_pos rfl], hsl.nx goes3⟩
  refine (Iv2.cells c hc').keep (fun b hb => ?_) (fun b o hb hn => ⟨?_, fun hm => ?_⟩) fun b hb => List.mem_append_left _ (List.mem_cons_of_mem _ (List.mem_flatMap.2 ⟨c, hc', hb⟩))
  · rw [hgC, if_neg (fun e => hj3 (by subst e; exact List.mem_flatMap.2 ⟨c, hc', hb⟩))]
  · rw [hgC, if_neg (fun e => hn (by subst e; exact List.mem_append_right _ List.mem_cons_self))]; exact hb
  rcases List.mem_append.1 hm with hm | hm
  · rcases List.mem_cons.1 hm with hm | hm
    · exact hn (by subst hm; exact List.mem_append_right _ List.mem_cons_self)
    exact hn (List.mem_append_left _ hm)
  exact hn (List.mem_append_right _ (List.mem_cons_of_mem _ hm))
theorem VYG.mono {yv : Value} {args : List PV} {Q Q' : PV → Sto → Prop} (hy : VYG P orc yv args γ Q) (hq : ∀ r s, Q r s → Q' r s) : VYG P orc yv args γ Q' := fun h S us a1 a2 a3 a4 a5 a6 => by
  obtain ⟨j, e, hY⟩ := hy h S us a1 a2 a3 a4 a5 a6
  exact ⟨j, e, hY.mono fun u h' ⟨r, γ', q1, q2⟩ => ⟨r, γ', hq _ _ q1, q2⟩⟩

section
variable (P orc)
def VFGK (f : FuncId) (args : List PV) (γ : Sto) (Q : Sto → Prop) : Prop := ∀ (h : Heap) (S : List Nat) (us : List Value), HOk h → (∀ b ∈ S, b < h.next) → (∀ c ∈ γ, CellR h (own γ ++ S) c.1 c.2) → (own γ).Nodup → (∀ b ∈ own γ, b ∉ S) → RepL h (own γ ++ S) args us →
  EvFK P orc f us h fun _ h' => ∃ γ', Q γ' ∧ Made S h h' γ γ'
def IterC {X : Type} (f : FuncId) (a c : List PV) (asl : X → List PV) (xs : List X) : Prop := ∀ (yv : Value) (I : List X → Sto → Prop) (E : Sto → Prop) (γ : Sto),
  (∀ x rest γ, I (x :: rest) γ → VYG P orc yv (asl x) γ fun r γ' => (r = .v .bool true ∧ I rest γ') ∨ (r = .v .bool false ∧ E γ')) → I xs γ → VFGK P orc f (a ++ [.raw yv] ++ c) γ fun γ' => I [] γ' ∨ E γ'
end
theorem VFGK.enter {f : FuncId} {args : List PV} {fn : Func} {c : Code} {Q : Sto → Prop} (hfn : P.funcs[f]? = some fn) (hc : fn.body = some c) (hres : fn.results.toList = []) (hn : (Nat.blt 4000 fn.ntmps || Nat.blt fn.ntmps args.length) = false)
    (hb : VC P orc none c fn.ntmps (argVL 0 args) γ (fun e _ σ => e.goes = true ∧ Q σ)) : VFGK P orc f args γ Q := fun h S us hok hS hcells hnd hsep ha => by
  have hl := ha.len
  have hn2 : Nat.blt 4000 fn.ntmps = false ∧ Nat.blt fn.ntmps args.length = false := by simpa using hn
  have n3 := nble_no hn2.1
  have n4 := nble_no hn2.2
  have ha' : RepL (entry h) (own γ ++ S) args us := RepL.nx (h := h) (h' := entry h) (fun _ _ a b => ⟨a, b⟩) ha
  have I0 : Iv (entry h) (own γ) S (entry h) γ (fillTr .leaf 0 us) [] (argVL 0 args) := {
    ok := hok
    s0 := hS
    aft := Aft.refl _ _
    cells := fun c hc => (hcells c hc).keep (fun _ _ => rfl) (fun _ _ a b => ⟨a, b⟩) fun b hb => List.mem_append_left _ (List.mem_flatMap.2 ⟨c, hc, hb⟩)
    new := fun b hb => ⟨.inl hb, hsep b hb⟩
    apart := hnd
    mark := fun d hd => by cases hd
    marks := List.nodup_nil
    slots := slots_args ha' (by omega) }
  refine EvFK.enter hfn hc (by rw [hl]; exact hn) ((hb (entry h) (own γ) S _ (entry h) [] I0).mono fun e fr h1 hq => ?_)
  obtain ⟨_, fl', σ', Iv1, he, hQ⟩ := hq
  obtain ⟨h2, d1, d2, d3⟩ := drops_ok Iv1.marks fun d hd => (Iv1.mark d hd).2
  have hgd : ∀ b o, h1.get b = some o → o ≠ .defd → h2.get b = some o := fun b o hg hne => by
    rw [d3 b (fun hm => hne (by have := (Iv1.mark b hm).2; rw [hg] at this; exact Option.some.inj this))]; exact hg
  have a2 : Aft (entry h) h2 (own γ) := Iv1.aft.trans d2 fun i hi => .inr (Iv1.mark i hi).1
  have hrow : ∀ c ∈ σ', ∀ b ∈ blk c.1, h2.get b = h1.get b := fun c hc b hb => by
    obtain ⟨o, hg, hne⟩ := (Iv1.cells c hc).isObj b hb
    rw [hgd b _ hg hne, hg]
  have hcell2 : ∀ c ∈ σ', CellR h2 (own σ' ++ S) c.1 c.2 := fun c hc => by
    have hx := Iv1.cells c hc
    have hN : GoesR h1 (own σ' ++ S) h2 (own σ' ++ S) := fun b _ hg hne hbS => ⟨hgd b _ hg hne, hbS⟩
    have hgb := hrow c hc
    obtain ⟨w, cc⟩ := c
    cases cc with
    | row e τ xs =>
      rcases hx with hx | ⟨b, rs, m, h3, h4, h5, h6⟩
      · exact .inl hx
      exact .inr ⟨b, rs, m, h3, h4, hgd b _ h5 (by simp), h6.1, fun i hi => (h6.2 i hi).nxR hN⟩
    | var cs =>
      obtain ⟨b, e, vs, h3, h4, h5, h6, h7⟩ := hx
      exact ⟨b, e, vs, h3, h4, hgd b _ h5 (by simp), h6.nxR hN, h7⟩
    | cap e k τ xs =>
      obtain ⟨b, rs, m, h3, h4, h5, h6, h7, h8⟩ := hx
      exact ⟨b, rs, m, h3, h4, hgd b _ h5 (by simp), h6, h7, h8.1, fun i hi => (h8.2 i hi).nxR hN⟩
    | mp κ ν kvs =>
      obtain ⟨b, es, c, h3, h4, h5, h6, h7⟩ := hx
      exact ⟨b, es, c, h3, h4, hgd b _ h5 (by simp), h6, fun i hi hj => ⟨⟨(h7 i hi hj).1.1, (h7 i hi hj).1.2.nxR hN⟩, ⟨(h7 i hi hj).2.1, (h7 i hi hj).2.2.nxR hN⟩⟩⟩
    | it s pos =>
      obtain ⟨b, h3, h4, h5⟩ := hx
      exact ⟨b, h3, h4, hgd b _ h5 (by simp)⟩
    | loop st jump n fl ps assign body =>
      obtain ⟨l, tmps, d, h3, h4, h5, h6⟩ := hx
      exact ⟨l, tmps, d, h3, h4, hgd l _ h5 (by simp), h6.nxR hN⟩
    | cel e n cs =>
      rcases hx with hx | ⟨b, rs, m, h3, h4, h5, h6, h7⟩
      · exact .inl hx
      exact .inr ⟨b, rs, m, h3, h4, hgd b _ h5 (by simp), h6.nxR hN, h7⟩
  have hnew2 : ∀ b ∈ own σ', b ∈ own γ ∨ h.next ≤ b := fun b hb => (Iv1.new b hb).1
  refine ⟨he, h2, [], d1, by rw [hres]; rfl, σ', hQ, ⟨⟨a2.next, a2.get, fun x => a2.ok x, fun e h3 h4 h5 => Nat.le_min.2 ⟨h3, a2.low e (Nat.le_trans h4 (Nat.le_refl _)) h4 h5⟩, fun b hb => ?_, Nat.min_le_left _ _⟩, hnew2, Iv1.apart, fun c hc => (hcell2 c hc).keep (fun _ _ => rfl) (fun _ _ a b => ⟨a, b⟩) fun b hb => List.mem_append_left _ (List.mem_flatMap.2 ⟨c, hc, hb⟩)⟩⟩
  rcases a2.chg b hb with h3 | h3
  · exact .inl h3
  exact .inr (Nat.le_trans (Nat.min_le_right _ _) h3)
theorem IterC.enter {X : Type} {f : FuncId} {a c : List PV} {asl : X → List PV} {xs : List X} {fn : Func} {cd : Code} (hfn : P.funcs[f]? = some fn) (hc : fn.body = some cd) (hres : fn.results.toList = []) (hn : ∀ yv : Value, (Nat.blt 4000 fn.ntmps || Nat.blt fn.ntmps (a ++ [PV.raw yv] ++ c).length) = false)
    (hb : ∀ (yv : Value) (I : List X → Sto → Prop) (E : Sto → Prop) (γ : Sto), (∀ x rest γ, I (x :: rest) γ → VYG P orc yv (asl x) γ fun r γ' => (r = .v .bool true ∧ I rest γ') ∨ (r = .v .bool false ∧ E γ')) → I xs γ →
      VC P orc none cd fn.ntmps (argVL 0 (a ++ [.raw yv] ++ c)) γ (fun e _ σ => e.goes = true ∧ (I [] σ ∨ E σ))) : IterC P orc f a c asl xs := fun yv I E γ hy h0 => VFGK.enter hfn hc hres (hn yv) (hb yv I E γ hy h0)
theorem VC.rangeFunc {X : Type} {asl : X → List PV} {xs : List X} {f : FuncId} {a c : List PV} {x : Operand} {ps : Array Tmp} {assign body : Code} {Q : Ex → VL → Sto → Prop} (hg : evV fl x = some (.clo f a c)) (hit : IterC P orc f a c asl xs) (hlen : ∀ y, ps.size = (asl y).length) (hps : ps.toList.all (fun p => Nat.blt p n) = true) (hn4 : Nat.ble n 4000 = true)
    (I : List X → Sto → Prop) (E : Ex → Sto → Prop) (h0 : I xs σ)
    (hb : ∀ j y rest σ, I (y :: rest) σ → VC P orc (some j) assign n (prmVL ps.toList (asl y) fl) σ fun e fl' σ' => e = .normal ∧ VC P orc (some j) body n fl' σ' fun e _ σ' => (e = .normal ∧ I rest σ') ∨ (e ≠ .normal ∧ E e σ'))
    (h1 : ∀ σ', I [] σ' → Q .normal fl σ') (h2 : ∀ e σ', e ≠ .normal → E e σ' → Q e fl σ') : VC P orc none (.rangeFunc x ps assign body) n fl σ Q := fun hb0 G S0 t h ms Iv0 => by
  obtain ⟨va, vc, hv, ra, rc⟩ := (evV_ok Iv0.slots hg : RepPV h _ (.clo f a c) (evalO t x))
  let hm := h.push .defd
  let j := hm.next
  let yv : Value := .func (.yield j) #[] #[]
  let L : AObj := .loopo .ready none t n ps assign body h.next
  have hjd : j = h.next + 1 := rfl
  have hg2 : ∀ b, (hm.push L).get b = if b = h.next + 1 then some L else if b = h.next then some .defd else h.get b := fun b => by
    rw [Heap.get_push]
    show (if b = h.next + 1 then _ else (h.push .defd).get b) = _
    rw [Heap.get_push]
  have ap : Aft h (hm.push L) (j :: own σ) := (Aft.push h .defd _).trans (Aft.push hm L (j :: own σ)) fun i hi => .inl hi
  have hlt : ∀ b ∈ own σ, b < h.next := own_lt Iv0.cells Iv0.ok
  have Lc0 := Iv0.lc
  have goes0 : Goes h (own σ ++ S0) (hm.push L) (j :: own σ ++ S0) := fun b o hb hn => by
    have hbn : b < h.next := Iv0.ok b o hb
    refine ⟨by rw [hg2, if_neg (by omega), if_neg (by omega)]; exact hb, fun hm2 => ?_⟩
    rcases List.mem_append.1 hm2 with hm2 | hm2
    · rcases List.mem_cons.1 hm2 with hm2 | hm2
      · omega
      exact hn (List.mem_append_left _ hm2)
    exact hn (List.mem_append_right _ hm2)
  have hS0 : ∀ b ∈ S0, b < h.next := Lc0.s0
  have hj1 : j ∉ own σ := fun hm2 => by have := hlt j hm2; omega
  have hit2 := hit yv (fun rest γ => ∃ σ', γ = (yv, .loop .ready none n fl ps assign body) :: σ' ∧ I rest σ') (fun γ => ∃ e σ', e ≠ .normal ∧ γ = (yv, .loop .done (jumpOf e) n fl ps assign body) :: σ' ∧ E e σ') ((yv, .loop .ready none n fl ps assign body) :: σ)
    (fun y rest γ ⟨σ', hγ, hI⟩ => by
      subst hγ
      refine (VYG.round (hlen y) (fun p hp => List.all_eq_true.1 hps p hp) (nble hn4) (fun jj => hb jj y rest σ' hI)).mono fun r s hq => ?_
      obtain ⟨e, fl', σ2, hQ, rfl, rfl⟩ := hq
      rcases hQ with ⟨rfl, hI2⟩ | ⟨hne, hE⟩
      · exact .inl ⟨rfl, σ2, rfl, hI2⟩
      refine .inr ⟨?_, e, σ2, hne, ?_, hE⟩
      · cases e <;> first | exact absurd rfl hne | rfl
      cases e <;> first | exact absurd rfl hne | rfl)
    ⟨σ, rfl, h0⟩
  have how : ∀ (c : Cell) (s : Sto), own ((yv, c) :: s) = j :: own s := fun c s => rfl
  refine EvC.rangeFunc (fr := ⟨t, n, ms⟩) hv ((hit2 (hm.push L) S0 _ (ap.ok Iv0.ok) (fun b hb => by have := hS0 b hb; have := ap.next; omega) (fun cc hc => ?_) (by rw [how]; exact List.nodup_cons.2 ⟨hj1, Iv0.apart⟩) (fun b hb => ?_) ?_).mono fun u h3 hq => ?_)
  · rw [how]
    rcases List.mem_cons.1 hc with hc' | hc'
    · subst hc'
      exact ⟨j, t, h.next, rfl, List.mem_append_left _ List.mem_cons_self, by rw [hg2, if_pos hjd], Iv0.slots.nx goes0⟩
    refine (Iv0.cells cc hc').keep (fun b hb => ?_) goes0 fun b hb => List.mem_append_left _ (List.mem_cons_of_mem _ (List.mem_flatMap.2 ⟨cc, hc', hb⟩))
    have := hlt b (List.mem_flatMap.2 ⟨cc, hc', hb⟩)
    rw [hg2, if_neg (by omega), if_neg (by omega)]
  · rw [how] at hb
    intro hbs
    rcases List.mem_cons.1 hb with hb | hb
    · have := hS0 b hbs; omega
    exact (Iv0.new b hb).2 hbs
  · rw [how]
    have ry : RepL (hm.push L) (j :: own σ ++ S0) [.raw yv] [yv] := ⟨yv, [], rfl, rfl, rfl⟩
    exact ((ra.nx goes0).append ry).append (rc.nx goes0)
  obtain ⟨γ', hq, made⟩ := hq
  have key : ∃ st e σ', st ≠ .busy ∧ γ' = (yv, .loop st (jumpOf e) n fl ps assign body) :: σ' ∧ Q e fl σ' := by
    rcases hq with ⟨σ', rfl, hI⟩ | ⟨e, σ', hne, rfl, hE⟩
    · exact ⟨.ready, .normal, σ', (fun e => by cases e), rfl, h1 σ' hI⟩
    exact ⟨.done, e, σ', (fun e => by cases e), rfl, h2 e σ' hne hE⟩
  obtain ⟨st, e, σ', hst, rfl, hQ⟩ := key
  obtain ⟨j', tm, dm, hj', hjS, hgj, _⟩ := made.cells _ List.mem_cons_self
  have hjj : j = j' := by
    have : yv = .func (.yield j') #[] #[] := hj'
    injection this with h5
    injection h5
  subst hjj
  refine ⟨st, e, tm, n, ps, assign, body, dm, hgj, hst, rfl, fl, σ', ?_, hQ⟩
  have hnd := made.apart
  rw [how] at hnd
  obtain ⟨hj3, hnd2⟩ := List.nodup_cons.1 hnd
  let C : AObj := .loopo .exhausted (jumpOf e) tm n ps assign body dm
  have hgC : ∀ b, (h3.set j C).get b = if b = j then some C else h3.get b := fun b => Heap.get_set hgj ..
  have ma : Aft (hm.push L) h3 (j :: own σ) := made.aft
  have at3 : Aft h (h3.set j C) (j :: own σ) := (ap.trans ma fun i hi => .inl hi).trans (Aft.set (B := [j]) hgj List.mem_cons_self) fun i hi => .inl (by rw [List.mem_singleton.1 hi]; exact List.mem_cons_self)
  have hnew : ∀ b ∈ own σ', b ∈ own σ ∨ h.next ≤ b := fun b hb => by
    rcases made.new b (by rw [how]; exact List.mem_cons_of_mem _ hb) with h5 | h5
    · rw [how] at h5
      rcases List.mem_cons.1 h5 with h5 | h5
      · subst h5; exact absurd hb hj3
      exact .inl h5
    have := ap.next; exact .inr (by omega)
  have goes3 : Goes h (own σ ++ S0) (h3.set j C) (own σ' ++ S0) := fun b o hb hn => by
    have hbn : b < h.next := Iv0.ok b o hb
    refine ⟨by rw [at3.get b hbn (fun hm2 => by
      rcases List.mem_cons.1 hm2 with hm2 | hm2
      · omega
      exact hn (List.mem_append_left _ hm2))]; exact hb, fun hm2 => ?_⟩
    rcases List.mem_append.1 hm2 with hm2 | hm2
    · rcases hnew b hm2 with h5 | h5
      · exact hn (List.mem_append_left _ h5)
      omega
    exact hn (List.mem_append_right _ hm2)
  have hdef : h3.get h.next = some .defd := by
    rw [ma.get h.next (by show h.next < h.next + 1 + 1; omega) (fun hm2 => by
      rcases List.mem_cons.1 hm2 with hm2 | hm2
      · omega
      have := hlt _ hm2; omega), hg2, if_neg (by omega), if_pos rfl]
  exact {
    ok := at3.ok Iv0.ok
    s0 := Iv0.s0
    aft := Iv0.aft.trans at3 fun i hi => by
      have := Iv0.aft.next
      rcases List.mem_cons.1 hi with hi | hi
      · right; omega
      exact (Iv0.new i hi).1
    cells := fun c hc => (made.cells c (List.mem_cons_of_mem _ hc)).keep (fun b hb => by
        rw [hgC, if_neg (fun e => hj3 (by subst e; exact List.mem_flatMap.2 ⟨c, hc, hb⟩))]) (fun b o hb hn => ⟨by
        rw [hgC, if_neg (fun e => hn (by subst e; exact List.mem_append_left _ List.mem_cons_self))]; exact hb, fun hm2 => hn (by
        rcases List.mem_append.1 hm2 with hm2 | hm2
        · exact List.mem_append_left _ (List.mem_cons_of_mem _ hm2)
        exact List.mem_append_right _ hm2)⟩) fun b hb => List.mem_append_left _ (List.mem_flatMap.2 ⟨c, hc, hb⟩)
    new := fun b hb => by
      have := Iv0.aft.next
      rcases hnew b hb with h5 | h5
      · exact Iv0.new b h5
      exact ⟨.inr (by omega), fun hm2 => by have := hS0 b hm2; omega⟩
    apart := hnd2
    mark := fun d hd => by
      have := Iv0.aft.next
      rcases List.mem_cons.1 hd with hd | hd
      · subst hd
        exact ⟨this, by rw [hgC, if_neg (by omega)]; exact hdef⟩
      obtain ⟨m1, m2⟩ := Iv0.mark d hd
      refine ⟨m1, ?_⟩
      have hdn : d < h.next := Iv0.ok d _ m2
      rw [at3.get d hdn (fun hm2 => by
        rcases List.mem_cons.1 hm2 with hm2 | hm2
        · omega
        obtain ⟨c, hc, hb⟩ := List.mem_flatMap.1 hm2
        obtain ⟨o, hgo, hne⟩ := (Iv0.cells c hc).isObj d hb
        rw [m2] at hgo
        exact hne (Option.some.inj hgo).symm)]
      exact m2
    marks := List.nodup_cons.2 ⟨fun hm2 => by have := Iv0.ok _ _ (Iv0.mark _ hm2).2; omega, Iv0.marks⟩
    slots := Iv0.slots.nx goes3 }
theorem VO.callY0 {f : Operand} {args : Array Operand} {ats : Array TypeId} {yv : Value} {asl : List PV} {Q : PV → Sto → Prop} (hf : evV fl f = some (.raw yv)) (ha : evVs fl args.toList = some asl) (hc : VYG P orc yv asl σ Q) (hk : ∀ r σ', Q r σ' → VO P orc ops n l ((d, r) :: fl) σ' K)
    (hw : wantV ops fl g = some true := by rfl) (hn : (Nat.blt d n && Nat.ble n 4000) = true := by rfl) : VO P orc ops n (⟨some d, .call { callee := .value f, args := args, argTypes := ats }, ty, pos, after, g⟩ :: l) fl σ K :=
  VO.callY (σ := []) σ (List.append_nil _) hf ha hc (fun r σ' hq => by rw [List.append_nil]; exact hk r σ' hq) hw hn
end Go.Fs
namespace Go.Fs
variable {P : Program} {orc : FuncId → List Value → Heap → Option (Value × Heap)} {h h' h0 h1 h2 : Heap} {S S' S0 B G : List Nat} {σ σ' σr : Sto} {t t' : Tr} {ms : List Nat} {fl : VL} {ops : Array Oper} {n i mem : Nat} {l : List Oper} {K : VL → Sto → Prop} {Q : Ex → VL → Sto → Prop}
  {d : Tmp} {ty : TypeId} {pos : String} {after : Array Edge} {op : Op} {v pv : PV} {g : Option (Nat × Bool)} {x y z : Operand} {T T' e : TypeId} {τ τ' : Ty} {w : Value}

def rowFrom (w : Value) (sz k : Nat) : Value :=
  match w with
  | .slice (some ⟨b, o, none⟩) n mk => cutAt sz b o k n mk
  | u => u
theorem rest_run {xs : List τ.den} {k b : Nat} {rs : List Value} {m : Bool} {H : Heap} (hT : ElT P T e τ) (hk : k ≤ xs.length) (hg : H.get b = some (.row e rs true m)) : fsSlice P T (.slice (some ⟨b, 0, none⟩) xs.length 0) (some (.int .i64 (k : Nat))) none none H = some (rowFrom (.slice (some ⟨b, 0, none⟩) xs.length 0) τ.size k) := by
  obtain ⟨i, z, hi1, hi2, _⟩ := hT.sl.info
  have e1 : Nat.ble k xs.length = true := by rw [Nat.ble_eq]; exact hk
  have e2 : Nat.ble xs.length xs.length = true := by rw [Nat.ble_eq]; exact Nat.le_refl _
  have e3 : Nat.beq e e = true := Nat.beq_refl _
  have e4 : Nat.beq 0 1 = false := rfl
  have e5 : Nat.beq 0 0 = true := rfl
  have h0 : (0 : Int) ≤ (k : Nat) := Int.natCast_nonneg _
  have hmk : markOf e b k 0 H = 0 := by
    unfold markOf
    rw [hg]
    cases Nat.beq k 0 <;> simp [e3, e5]
  simp only [fsSlice, hT.sl.sl, hi1, boundOf, if_pos h0, Int.toNat_natCast, e1, e2, e4, Bool.and_self, cond_true, cond_false, hmk, hi2, rowFrom]
theorem ReadV.restO {xs : List τ.den} {k : Nat} {lo : Operand} (hx : evV fl x = some (.raw w)) (hl : evV fl lo = some (.v (.int .i64) ((k : Nat) : Int))) (hm : (w, Cell.row e τ xs) ∈ σ) (hT : ElT P T e τ) (h0 : 0 < xs.length) (hk : k ≤ xs.length) : ReadV P fl σ (.slice T x (some lo) none none) (.raw (rowFrom w τ.size k)) :=
  ⟨rfl, fun h S t hs hc => by
    have h1 : evalO t x = w := hs x (by simp [Op.operands]) _ hx
    have h2 := RepV.int (hs lo (by simp [Op.operands]) _ hl)
    rcases hc _ hm with ⟨_, rfl⟩ | ⟨b, rs, m, h3, h4, h5, h6⟩
    · simp at h0
    have hw : w = _ := h3
    refine ⟨_, rfl, fun H hH _ _ _ _ _ => ?_⟩
    show (fsSlice P T (evalO t x) (some (evalO t lo)) none none H).map _ = _
    rw [h1, h2, hw, rest_run hT hk (hH _ _ h5)]; rfl⟩
theorem rest_eq {xs : List τ.den} {k b : Nat} (hk : k < xs.length) : rowFrom (.slice (some ⟨b, 0, none⟩) xs.length 0) τ.size k = .slice (some ⟨b, 0 + k * τ.size, none⟩) (xs.length - k) 0 := by
  have e1 : Nat.blt k xs.length = true := by show Nat.ble (k + 1) xs.length = true; rw [Nat.ble_eq]; exact hk
  simp [rowFrom, cutAt, e1]
theorem ReadV.lenF {xs : List τ.den} {k : Nat} (hm : (w, Cell.row e τ xs) ∈ σ) (hT : ElT P T e τ) (hk : k < xs.length) (hx : evV fl x = some (.raw (rowFrom w τ.size k)) := by rfl) : ReadV P fl σ (.call { callee := .builtin .len, args := #[x], argTypes := #[T] }) (.v (.int .i64) ((xs.length - k : Nat) : Int)) :=
  ⟨rfl, fun h S t hs hc => by
    have h1 : evalO t x = rowFrom w τ.size k := hs x (by simp [Op.operands, Call.operands]) _ hx
    refine ⟨_, RepV.ofInt _ _, fun H _ _ _ _ _ _ => ?_⟩
    show (fsLen P #[T] (evalO t x) H).map _ = _
    rw [h1]
    rcases hc _ hm with ⟨_, rfl⟩ | ⟨b, rs, m, h3, h4, h5, h6⟩
    · simp at hk
    have hw : w = _ := h3
    rw [hw, rest_eq hk]
    simp [fsLen, hT.sl.sl]⟩
theorem CalmV.ixF {xs : List τ.den} {j k : Nat} (hx : evV fl x = some (.raw (rowFrom w τ.size k))) (hy : evV fl y = some (.v (.int .i64) ((j : Nat) : Int))) (hm : (w, Cell.row e τ xs) ∈ σ) (hT : ElT P T e τ) (hj : j < xs.length - k) : CalmV P fl σ (.indexAddr T x y) (.raw (ptrAt w τ.size (k + j))) :=
  ⟨rfl, fun h S t hs hc => by
    have h1 : evalO t x = rowFrom w τ.size k := hs x (by simp [Op.operands]) _ hx
    have h2 := RepV.int (hs y (by simp [Op.operands]) _ hy)
    refine ⟨_, rfl, fun _ _ _ _ _ H => ?_⟩
    show (if af (evalO t y) then (runPure P (Instr.indexAt T (evalO t x) (evalO t y))).map fun v => (v, H) else none) = _
    rcases hc _ hm with ⟨_, rfl⟩ | ⟨b, rs, m, h3, h4, h5, h6⟩
    · simp at hj
    have hw : w = _ := h3
    obtain ⟨i, z, hinf, hsz, _⟩ := hT.sl.info
    rw [h1, h2, hw, rest_eq (by omega), if_pos (show af (Value.int .i64 ((j : Nat) : Int)) = true from rfl)]
    have h7 : (0 : Int) ≤ (j : Int) ∧ (j : Int) < ((xs.length - k : Nat) : Int) := by omega
    unfold Instr.indexAt
    simp only [runPure_bind, asIntOf, runPure_pure, Option.bind_some, runPure_underlying hT.sl.sl, if_pos h7, runPure_sizeOf hinf, hsz, add_none, Int.toNat_natCast, ptrAt, Option.map_some]
    rw [Nat.add_mul, Nat.zero_add, Nat.zero_add]⟩
theorem CalmV.ixFZ {xs : List τ.den} {k : Nat} {z : Int} (hx : evV fl x = some (.raw (rowFrom w τ.size k))) (hy : evV fl y = some (.v (.int .i64) z)) (hm : (w, Cell.row e τ xs) ∈ σ) (hT : ElT P T e τ) (h0 : 0 ≤ z) (hz : z < ((xs.length - k : Nat) : Int)) : CalmV P fl σ (.indexAddr T x y) (.raw (ptrAt w τ.size (k + z.toNat))) := by
  obtain ⟨j, rfl⟩ := Int.eq_ofNat_of_zero_le h0
  exact CalmV.ixF hx hy hm hT (by omega)
theorem splice_zero {rs : List Value} {xs : List τ.den} {k : Nat} {cs : List Value} {dx : τ.den} (he : Elems h S τ rs xs) (hk : k ≤ xs.length) (hx : RepC h S τ cs dx) : Elems h S τ (splice rs (k * τ.size) (List.replicate (xs.length - k) cs).flatten) (xs.take k ++ List.replicate (xs.length - k) dx) := by
  have hrl := he.1
  have hk2 : k * τ.size ≤ xs.length * τ.size := Nat.mul_le_mul_right _ hk
  have hel : Elems h S τ (rs.take (k * τ.size)) (xs.take k) := ⟨by rw [List.length_take, List.length_take, Nat.min_eq_left hk, Nat.min_eq_left (by omega)], fun i hi => by
    have hi1 : i < k := by rw [List.length_take] at hi; omega
    have h2 : (i + 1) * τ.size ≤ k * τ.size := Nat.mul_le_mul_right _ hi1
    rw [Nat.add_mul, Nat.one_mul] at h2
    rw [List.drop_take, List.take_take, Nat.min_eq_left (by omega), List.getElem_take]
    exact he.2 i (by omega)⟩
  have hrep := elems_rep hx (xs.length - k)
  have hlen := hrep.1
  rw [List.length_replicate] at hlen
  have hdrop : rs.drop (k * τ.size + (List.replicate (xs.length - k) cs).flatten.length) = [] := List.drop_eq_nil_of_le (by
    rw [hlen, hrl, ← Nat.add_mul]
    exact Nat.mul_le_mul_right _ (by omega))
  unfold splice
  rw [hdrop, List.append_nil]
  exact hel.append hrep
theorem MakeV.clearF {xs : List τ.den} {k : Nat} (hT : ElT P T e τ) (hZ : ZerT P e τ) (hk : k ≤ xs.length) (h0 : 0 < xs.length) (hx : evV fl x = some (.raw (rowFrom w τ.size k))) :
    MakeV P fl ((w, .row e τ xs) :: σ) (.call { callee := .builtin .clear, args := #[x], argTypes := #[T] }) fun v σ' => v = .raw undef ∧ σ' = (w, .row e τ (xs.take k ++ List.replicate (xs.length - k) (zeroD τ))) :: σ :=
  ⟨rfl, fun S0 h t L => by
    have h1 : evalO t x = rowFrom w τ.size k := evV_ok L.slots hx
    rcases L.cells _ List.mem_cons_self with ⟨_, rfl⟩ | ⟨b, rs, m, h3, h4, h5, h6⟩
    · simp at h0
    have hw : w = _ := h3
    have hbk : blk w = [b] := by rw [hw]; rfl
    obtain ⟨z, z1, z2, z3⟩ := hZ.zero
    obtain ⟨i, z', hi1, hi2, hi3, hi3', hi4, hi5, hi6⟩ := hT.sl.info
    obtain rfl : z' = z := by
      rw [hi1] at z1
      simpa [hi4] using z1
    have hpos := hT.sl.pos
    have hrl := h6.1
    rcases Nat.lt_or_eq_of_le hk with hk1 | hk1
    · refine ⟨undef, h.set b (.row e (splice rs (k * τ.size) (List.replicate (xs.length - k) z'.cells.toList).flatten) true m), .raw undef, _, ⟨rfl, rfl⟩, Made.head L (Aft.set h5 (by rw [hbk]; simp)) (fun b hb => .inl hb) (by rw [hbk]; simp) fun hN => ?_, rfl, fun _ _ _ _ _ => ?_⟩
      · refine .inr ⟨b, _, m, by rw [List.length_append, List.length_take, List.length_replicate, Nat.min_eq_left hk]; rw [show k + (xs.length - k) = xs.length by omega]; exact h3, ?_, by rw [Heap.get_set h5, if_pos rfl], ?_⟩
        · rw [own_cons]; exact List.mem_append_left _ (List.mem_append_left _ (by rw [hbk]; simp))
        exact splice_zero (h6.nx hN) hk (by rw [z2]; exact (zero_rep _ _ τ).1)
      show (fsClear P #[T] (evalO t x) h).map _ = _
      have e1 : Nat.beq (xs.length - k) 0 = false := beq_no (by omega)
      have hf : zeros z' (xs.length - k) = (List.replicate (xs.length - k) z'.cells.toList).flatten := zeros_flat (by omega) _
      have e2 : (zeros z' (xs.length - k)).all af0 = true := by
        rw [hf, List.all_eq_true]
        intro q hq
        obtain ⟨r, hr, hqr⟩ := List.mem_flatten.1 hq
        rw [(List.mem_replicate.1 hr).2] at hqr
        exact List.all_eq_true.1 hi6 q hqr
      have e3 : Nat.ble (0 + k * τ.size + (zeros z' (xs.length - k)).length) rs.length = true := by
        rw [Nat.ble_eq, zeros_len, hi5, hrl, Nat.zero_add, ← Nat.add_mul]
        exact Nat.mul_le_mul_right _ (by omega)
      rw [h1, hw, rest_eq hk1]
      simp only [fsClear, List.getElem?_toArray, List.getElem?_cons_zero, hT.sl.sl, e1, cond_false, hi1, h5, hi4, e2, e3, Bool.and_self, cond_true, Option.map_some]
      rw [hf, Nat.zero_add]; rfl
    subst hk1
    refine ⟨undef, h, .raw undef, _, ⟨rfl, rfl⟩, ?_, rfl, fun _ _ _ _ _ => ?_⟩
    · rw [List.take_length, Nat.sub_self, List.replicate_zero, List.append_nil]
      exact Made.same L (Aft.refl _ _)
    show (fsClear P #[T] (evalO t x) h).map _ = _
    have e0 : Nat.blt xs.length xs.length = false := by show Nat.ble (xs.length + 1) xs.length = false; exact Bool.eq_false_iff.2 fun hh => by rw [Nat.ble_eq] at hh; omega
    have e1 : Nat.beq xs.length 0 = false := beq_no (by omega)
    have e2 : Nat.beq 0 0 = true := rfl
    rw [h1, hw]
    simp only [rowFrom, cutAt, e0, e1, Bool.or_self, cond_false, fsClear, List.getElem?_toArray, List.getElem?_cons_zero, hT.sl.sl, e2, cond_true, Option.map_some]; rfl⟩
theorem VO.clear0 {xs : List τ.den} {k : Nat} (hT : ElT P T e τ) (hZ : ZerT P e τ) (hk : k ≤ xs.length) (h0 : 0 < xs.length) (hK : VO P orc ops n l fl ((w, .row e τ (xs.take k ++ List.replicate (xs.length - k) (zeroD τ))) :: σ) K) (hx : evV fl x = some (.raw (rowFrom w τ.size k)) := by rfl) (hw : wantV ops fl g = some true := by rfl) :
    VO P orc ops n (⟨none, .call { callee := .builtin .clear, args := #[x], argTypes := #[T] }, ty, pos, after, g⟩ :: l) fl ((w, .row e τ xs) :: σ) K :=
  VO.mk0 (MakeV.clearF hT hZ hk h0 hx) (by rintro _ _ ⟨rfl, rfl⟩; exact hK) hw
theorem VFG.enterC {γ : Sto} {f : FuncId} {args : List PV} {fn : Func} {c : Code} {r : PV} (hfn : P.funcs[f]? = some fn) (hc : fn.body = some c) (ho : ∀ us h, orc f us h = none) (hn : (Nat.blt 4000 fn.ntmps || Nat.blt fn.ntmps args.length) = false)
    (hb : VC P orc none c fn.ntmps (argVL 0 args) γ (VEnd P fn r)) : VFG P orc f args γ (fun r' g => r' = r ∧ g = []) := fun h S us hok hS hcells hnd hsep ha => by
  have hl := ha.len
  have hn2 : Nat.blt 4000 fn.ntmps = false ∧ Nat.blt fn.ntmps args.length = false := by simpa using hn
  have n3 := nble_no hn2.1
  have n4 := nble_no hn2.2
  have ha' : RepL (entry h) (own γ ++ S) args us := RepL.nx (h := h) (h' := entry h) (fun _ _ a b => ⟨a, b⟩) ha
  have I0 : Iv (entry h) (own γ) S (entry h) γ (fillTr .leaf 0 us) [] (argVL 0 args) := {
    ok := hok
    s0 := hS
    aft := Aft.refl _ _
    cells := fun c hc => (hcells c hc).keep (fun _ _ => rfl) (fun _ _ a b => ⟨a, b⟩) fun b hb => List.mem_append_left _ (List.mem_flatMap.2 ⟨c, hc, hb⟩)
    new := fun b hb => ⟨.inl hb, hsep b hb⟩
    apart := hnd
    mark := fun d hd => by cases hd
    marks := List.nodup_nil
    slots := slots_args ha' (by omega) }
  refine EvF.enter hfn hc (ho us h) (by rw [hl]; exact hn) ((hb (entry h) (own γ) S _ (entry h) [] I0).mono fun e fr h1 hq => ?_)
  obtain ⟨_, fl', σ', I, he, ps, hps, rfl⟩ := hq
  obtain ⟨h2, d1, d2, d3⟩ := drops_ok I.marks fun d hd => (I.mark d hd).2
  have hgd : ∀ b o, h1.get b = some o → o ≠ .defd → h2.get b = some o := fun b o hg hne => by
    rw [d3 b (fun hm => hne (by have := (I.mark b hm).2; rw [hg] at this; exact Option.some.inj this))]; exact hg
  have a2 : Aft (entry h) h2 (own γ) := I.aft.trans d2 fun i hi => .inr (I.mark i hi).1
  have hN : GoesR h1 S h2 S := fun b _ hg hne hbS => ⟨hgd b _ hg hne, hbS⟩
  obtain ⟨us', e1, e2⟩ := hps.ok I.lc hgd hN
  have hrep := tup_rep e2
  refine ⟨he, h2, us', d1, e1, ?_⟩
  unfold leftOf
  cases haf : (af (tupled us') && Nat.ble h.next h2.low) with
  | true => exact ⟨_, [], ⟨rfl, rfl⟩, ⟨Aft.refl _ _, fun b hb => (by cases hb), List.nodup_nil, fun c hc => (by cases hc)⟩, hrep.anyAf (band haf).1⟩
  | false =>
    refine ⟨_, [], ⟨rfl, rfl⟩, ⟨⟨a2.next, a2.get, fun x => a2.ok x, fun e h3 h4 h5 => Nat.le_min.2 ⟨h3, a2.low e (Nat.le_trans h4 (Nat.le_refl _)) h4 h5⟩, fun b hb => ?_, Nat.min_le_left _ _⟩, fun b hb => (by cases hb), List.nodup_nil, fun c hc => (by cases hc)⟩, RepPV.nx (h := h2) (h' := { next := h2.next, low := min h.low h2.low, objs := h2.objs }) (fun _ _ a b => ⟨a, b⟩) hrep⟩
    rcases a2.chg b hb with h3 | h3
    · exact .inl h3
    exact .inr (Nat.le_trans (Nat.min_le_right _ _) h3)

theorem getDg {α : Type} (xs : List α) (d : α) {i : Nat} (h : i < xs.length) : xs.getD i d = xs[i] := by rw [List.getD_eq_getElem?_getD, List.getElem?_eq_getElem h]; rfl
def cptA {α : Type} [DecidableEq α] (d : α) (xs : List α) : Nat → List α
  | 0 => []
  | i + 1 => if 0 < i ∧ xs.getD i d = xs.getD (i - 1) d then cptA d xs i else cptA d xs i ++ [xs.getD i d]
def cptR {α : Type} [DecidableEq α] (d : α) (xs : List α) (m : Nat) : List α := cptA d xs m ++ xs.drop (cptA d xs m).length
section
variable {α : Type} [DecidableEq α] {dd : α} {xs : List α}
theorem cptA_len : ∀ {i : Nat}, (cptA dd xs i).length ≤ i
  | 0 => Nat.le_refl _
  | i + 1 => by
    unfold cptA
    have := cptA_len (i := i)
    split
    · omega
    rw [List.length_append, List.length_singleton]; omega
theorem cptA_all : ∀ {i : Nat}, i ≤ xs.length → (∀ j, 0 < j → j < i → xs.getD j dd ≠ xs.getD (j - 1) dd) → cptA dd xs i = xs.take i
  | 0, _, _ => by simp [cptA]
  | i + 1, hi, h => by
    unfold cptA
    rw [if_neg fun hh => h i hh.1 (Nat.lt_succ_self _) hh.2, cptA_all (by omega) fun j h1 h2 => h j h1 (by omega), List.take_succ_eq_append_getElem (by omega), getDg _ _ (by omega)]
theorem cptA_eq {i : Nat} (h0 : 0 < i) (h : xs.getD i dd = xs.getD (i - 1) dd) : cptA dd xs (i + 1) = cptA dd xs i := by rw [cptA, if_pos ⟨h0, h⟩]
theorem cptA_ne {i : Nat} (h : xs.getD i dd ≠ xs.getD (i - 1) dd) : cptA dd xs (i + 1) = cptA dd xs i ++ [xs.getD i dd] := by rw [cptA, if_neg fun hh => h hh.2]
theorem cptR_len {m : Nat} (hm : m ≤ xs.length) : (cptR dd xs m).length = xs.length := by
  have := cptA_len (dd := dd) (xs := xs) (i := m)
  rw [cptR, List.length_append, List.length_drop]; omega
theorem cptR_at {m i : Nat} (h : (cptA dd xs m).length ≤ i) : (cptR dd xs m).getD i dd = xs.getD i dd := by
  rw [cptR, List.getD_eq_getElem?_getD, List.getElem?_append_right h, List.getElem?_drop, List.getD_eq_getElem?_getD]
  congr 2; omega
theorem cptR_eq {i : Nat} (h0 : 0 < i) (h : xs.getD i dd = xs.getD (i - 1) dd) : cptR dd xs (i + 1) = cptR dd xs i := by rw [cptR, cptA_eq h0 h]; rfl
theorem cptR_ne {i : Nat} (hi : i < xs.length) (h : xs.getD i dd ≠ xs.getD (i - 1) dd) : cptR dd xs (i + 1) = (cptR dd xs i).set (cptA dd xs i).length (xs.getD i dd) := by
  have := cptA_len (dd := dd) (xs := xs) (i := i)
  unfold cptR
  rw [cptA_ne h, List.length_append, List.length_singleton, List.set_append_right _ _ (Nat.le_refl _), Nat.sub_self, List.drop_eq_getElem_cons (i := (cptA dd xs i).length) (by omega), List.set_cons_zero, List.append_assoc]
  rfl
theorem cptR_start {k : Nat} (hk : k ≤ xs.length) (hall : ∀ j, 0 < j → j < k → xs.getD j dd ≠ xs.getD (j - 1) dd) : cptR dd xs k = xs := by
  rw [cptR, cptA_all hk hall, List.length_take, Nat.min_eq_left hk, List.take_append_drop]
theorem cptR_take {m : Nat} : (cptR dd xs m).take (cptA dd xs m).length = cptA dd xs m := by rw [cptR, List.take_left]
end
end Go.Fs
namespace Go.Fs
variable {α : Type}

structure Weak (lt : α → α → Bool) : Prop where
  asym : ∀ a b, lt a b = true → lt b a = false
  neg : ∀ a b c, lt a b = false → lt b c = false → lt a c = false
variable {lt : α → α → Bool}
def eqv (lt : α → α → Bool) (a b : α) : Bool := !lt a b && !lt b a
def SameEq (lt : α → α → Bool) (xs ys : List α) : Prop := ∀ a, xs.filter (eqv lt a) = ys.filter (eqv lt a)
def insS (lt : α → α → Bool) (x : α) : List α → List α
  | [] => [x]
  | y :: ys => if lt y x then y :: insS lt x ys else x :: y :: ys
def sortS (lt : α → α → Bool) : List α → List α
  | [] => []
  | x :: xs => insS lt x (sortS lt xs)
variable {d : α}
abbrev at_ (xs : List α) (i : Nat) (d : α) : α := xs.getD i d
structure Seg (lt : α → α → Bool) (xs ys : List α) (a b : Nat) : Prop where
  len : ys.length = xs.length
  lo : ys.take a = xs.take a
  hi : ys.drop b = xs.drop b
  same : SameEq lt xs ys
theorem three (xs : List α) {a b : Nat} (h : a ≤ b) : xs = xs.take a ++ ((xs.take b).drop a ++ xs.drop b) := by
  conv => lhs; rw [← List.take_append_drop b xs]
  rw [← List.append_assoc]
  congr 1
  conv => lhs; rw [← List.take_append_drop a (xs.take b)]
  rw [List.take_take, Nat.min_eq_left h]
structure Insd (lt : α → α → Bool) (d : α) (ys : List α) (a j i : Nat) : Prop where
  srt : ∀ p q, a ≤ p → p < q → q ≤ i → q ≠ j → p ≠ j → lt (ys.getD q d) (ys.getD p d) = false
  less : ∀ q, j < q → q ≤ i → lt (ys.getD j d) (ys.getD q d) = true
end Go.Fs
namespace Go.Fs
variable {α : Type} {lt : α → α → Bool} {d : α} {ys : List α} {a b m n s e i j k : Nat}

theorem four (h1 : s ≤ m) (h2 : m ≤ e) : ys = ys.take s ++ ((ys.drop s).take (m - s) ++ ((ys.drop m).take (e - m) ++ ys.drop e)) := by
  conv => lhs; rw [← List.take_append_drop s ys, ← List.take_append_drop (m - s) (ys.drop s), List.drop_drop, show s + (m - s) = m by omega, ← List.take_append_drop (e - m) (ys.drop m), List.drop_drop, show m + (e - m) = e by omega]
structure Cut (lt : α → α → Bool) (d : α) (ys : List α) (a m b s e : Nat) : Prop where
  le : s ≤ m ∧ m ≤ e ∧ a ≤ s ∧ e ≤ b
  lo : a < s → e < b → lt (ys.getD e d) (ys.getD (s - 1) d) = false
  hi : s < m → m < e → lt (ys.getD (e - 1) d) (ys.getD s d) = true
end Go.Fs
namespace Go.Fs
variable {P : Program} {orc : FuncId → List Value → Heap → Option (Value × Heap)} {h h' h0 h1 h2 : Heap} {S S' S0 B G : List Nat} {σ σ' σr : Sto} {t t' : Tr} {ms : List Nat} {fl : VL} {ops : Array Oper} {n i mem : Nat} {l : List Oper} {K : VL → Sto → Prop} {Q : Ex → VL → Sto → Prop}
  {d : Tmp} {ty : TypeId} {pos : String} {after : Array Edge} {op : Op} {v pv : PV} {g : Option (Nat × Bool)} {x y z : Operand} {T T' e : TypeId} {τ τ' : Ty} {w : Value}
end Go.Fs
namespace Go.Fs
variable {P : Program} {orc : FuncId → List Value → Heap → Option (Value × Heap)} {rnd : Option Nat} {h h' h0 h1 h2 : Heap} {S S' S0 B G : List Nat} {σ σ' σr : Sto} {t t' : Tr} {ms : List Nat} {fl : VL} {ops : Array Oper} {n i mem : Nat} {l : List Oper} {K : VL → Sto → Prop} {Q : Ex → VL → Sto → Prop}
  {d : Tmp} {ty : TypeId} {pos : String} {after : Array Edge} {op : Op} {v pv : PV} {g : Option (Nat × Bool)} {x y z : Operand} {T T' e : TypeId} {τ τ' : Ty} {w : Value}
theorem VC.nilRow {c : Code} (e : TypeId) (τ : Ty) (hx : VC P orc rnd c n fl ((.slice none 0 0, .row e τ []) :: σ) Q) : VC P orc rnd c n fl σ Q := fun h0 G S0 t h ms I => by
  refine hx h0 G S0 t h ms { I with cells := fun c hc => ?_, new := I.new, apart := I.apart, slots := I.slots }
  rcases List.mem_cons.1 hc with rfl | hc
  · exact .inl ⟨rfl, rfl⟩
  exact I.cells c hc
end Go.Fs
namespace Go.Fs
variable {P : Program} {orc : FuncId → List Value → Heap → Option (Value × Heap)} {rnd : Option Nat} {h h' h0 h1 h2 : Heap} {S S' S0 B G : List Nat} {σ σ' σr : Sto} {t t' : Tr} {ms : List Nat} {fl : VL} {ops : Array Oper} {n i mem : Nat} {l : List Oper} {K : VL → Sto → Prop} {Q : Ex → VL → Sto → Prop}
  {d : Tmp} {ty : TypeId} {pos : String} {after : Array Edge} {op : Op} {v pv : PV} {g : Option (Nat × Bool)} {x y z : Operand} {T T' e : TypeId} {τ τ' : Ty} {w : Value}
inductive SetP : (τ : Ty) → τ.den → Nat → (τ' : Ty) → τ'.den → τ.den → Prop where
  | o {τ : Ty} {x y : τ.den} : SetP τ x 0 τ y y
  | l {a b : Ty} {x : (Ty.pair a b).den} {k : Nat} {τ' : Ty} {y : τ'.den} {z : a.den} (hs : SetP a x.1 k τ' y z) : SetP (.pair a b) x k τ' y (z, x.2)
  | r {a b : Ty} {x : (Ty.pair a b).den} {k k' : Nat} {τ' : Ty} {y : τ'.den} {z : b.den} (hs : SetP b x.2 k τ' y z) (hk : k' = a.size + k := by rfl) : SetP (.pair a b) x k' τ' y (x.1, z)
end Go.Fs
namespace Go.Fs
variable {P : Program} {orc : FuncId → List Value → Heap → Option (Value × Heap)} {rnd : Option Nat} {h h' h0 h1 h2 : Heap} {S S' S0 B G : List Nat} {σ σ' σr : Sto} {t t' : Tr} {ms : List Nat} {fl : VL} {ops : Array Oper} {n i mem : Nat} {l : List Oper} {K : VL → Sto → Prop} {Q : Ex → VL → Sto → Prop}
  {d : Tmp} {ty : TypeId} {pos : String} {after : Array Edge} {op : Op} {v pv : PV} {g : Option (Nat × Bool)} {x y z : Operand} {T T' e : TypeId} {τ τ' : Ty} {w : Value}
theorem VC.nilD {c : Code} (k : Nat) (τ : Ty) (hk : lkV fl k = some (.raw (.slice none 0 0))) (hx : VC P orc rnd c n ((k, .v (.sl τ) []) :: fl) σ Q) : VC P orc rnd c n fl σ Q := fun h0 G S0 t h ms I =>
  hx h0 G S0 t h ms { I with slots := I.slots.cons (by
    have : t.get k = .slice none 0 0 := I.slots _ _ hk
    rw [this]; exact SlV.nil.rep) }
end Go.Fs
namespace Go.Fs
variable {P : Program} {orc : FuncId → List Value → Heap → Option (Value × Heap)} {rnd : Option Nat} {h h' h0 h1 h2 : Heap} {S S' S0 B G : List Nat} {σ σ' σr : Sto} {t t' : Tr} {ms : List Nat} {fl : VL} {ops : Array Oper} {n i mem : Nat} {l : List Oper} {K : VL → Sto → Prop} {Q : Ex → VL → Sto → Prop}
  {d : Tmp} {ty : TypeId} {pos : String} {after : Array Edge} {op : Op} {v pv : PV} {g : Option (Nat × Bool)} {x y z : Operand} {T T' e : TypeId} {τ τ' : Ty} {w : Value} {ρ : Sto} {bs nw : List Nat} {tl : Bool}
end Go.Fs
namespace Go.Fs
variable {P : Program} {O : FuncId → List Value → Heap → Option (Value × Heap)} {h h' : Heap} {S : List Nat}
theorem strs_map : ∀ xs : List ByteArray, strs (xs.map .string) = some xs
  | [] => rfl
  | x :: r => by simp only [List.map_cons, strs, strs_map r, Option.map_some]
theorem elems_str {rs : List Value} {xs : List ByteArray} (he : Elems h S .str rs xs) : rs = xs.map .string := by
  obtain ⟨h1, h2⟩ := he
  have h1 : rs.length = xs.length := by simpa [Ty.size] using h1
  apply List.ext_getElem?
  intro i
  by_cases hi : i < xs.length
  · have h3 := h2 i hi
    have h4 : ((rs.drop (i * 1)).take 1) = [.string xs[i]] := h3
    rw [Nat.mul_one, List.drop_eq_getElem_cons (by omega)] at h4
    simp only [List.take_succ_cons, List.take_zero, List.cons.injEq, and_true] at h4
    rw [List.getElem?_eq_getElem (by omega), h4]
    simp [hi]
  rw [List.getElem?_eq_none (by omega), List.getElem?_eq_none (by simp; omega)]
theorem str_elems {xs : List ByteArray} : Elems h S .str (xs.map .string) xs := ⟨by simp [Ty.size], fun i hi => by
  show (((xs.map Value.string).drop (i * 1)).take 1) = [.string xs[i]]
  rw [Nat.mul_one, List.drop_eq_getElem_cons (by simpa using hi)]
  simp⟩
theorem VFG.sortS {O2 : FuncId → List Value → Heap → Option (Value × Heap)} {fs : FuncId} {e : TypeId} {w : Value} {xs : List ByteArray} (hn : xs.length ≤ 1000000) (hE : ∀ us h, O2 fs us h = orcT fs O fs us h) :
    VFG P O2 fs [.raw w] [(w, .row e .str xs)] fun r γ' => r = .tup [] ∧ γ' = [(w, .row e .str (sortB xs))] := fun h S us hok hS hcells hnd hsep ha => by
  obtain ⟨u, r, rfl, h1, h2⟩ := ha
  obtain rfl : r = [] := h2
  obtain rfl : u = w := h1
  rcases hcells _ List.mem_cons_self with ⟨hw, hx⟩ | ⟨b, rs, m, hw, h3, h4, h5⟩
  · have hw : u = .slice none 0 0 := hw
    have hx : xs = [] := hx
    subst hw hx
    refine EvF.oracle (v := .tuple #[]) (h' := h) (by rw [hE]; simp only [orcT, Nat.beq_refl, cond_true]) ?_
    refine ⟨_, _, ⟨rfl, rfl⟩, ⟨Aft.refl _ _, fun b hb => (by cases hb), List.nodup_nil, fun c hc => ?_⟩, ⟨[], rfl, rfl⟩⟩
    obtain rfl : c = _ := by simpa using hc
    exact .inl ⟨rfl, by simp [sortB]⟩
  have hw : u = .slice (some ⟨b, 0, none⟩) xs.length 0 := hw
  have hrs := elems_str h5
  subst hw hrs
  have ho : orcT fs O fs [.slice (some ⟨b, 0, none⟩) xs.length 0] h = some (.tuple #[], h.set b (.row e ((sortB xs).map .string) true m)) := by
    have e1 : Nat.ble xs.length (xs.map Value.string).length = true := by rw [Nat.ble_eq]; simp
    have e2 : Nat.ble xs.length 1000000 = true := by rw [Nat.ble_eq]; exact hn
    have e3 : (xs.map Value.string).take xs.length = xs.map .string := List.take_of_length_le (by simp)
    have e4 : splice (xs.map Value.string) 0 ((sortB xs).map .string) = (sortB xs).map .string := by
      unfold splice
      rw [List.take_zero, List.nil_append, List.drop_of_length_le (by simp [sortB_length]), List.append_nil]
    simp only [orcT, Nat.beq_refl, cond_true, h4, e1, e2, Bool.and_self, e3, strs_map, e4]
  refine EvF.oracle ((hE _ _).trans ho) ⟨_, _, ⟨rfl, rfl⟩, ⟨Aft.set h4 (by simp [own, blk]), fun b' hb' => .inl (by simpa [own, blk] using hb'), by simp [own, blk], fun c hc => ?_⟩, ⟨[], rfl, rfl⟩⟩
  obtain rfl : c = _ := by simpa using hc
  refine .inr ⟨b, _, m, by rw [sortB_length], by simp [own, blk], by rw [Heap.get_set h4, if_pos rfl], str_elems⟩
end Go.Fs
namespace Go.Fs
open Go.RowKit (Below)
open Go.Sort Go.Proofs
abbrev Cl3 := Int × Int × ByteArray
def encC (x : Cl3) : List Value := [.int .i64 x.1, .int .i64 x.2.1, .string x.2.2]
def decC : List Value → Option (List Cl3)
  | [] => some []
  | .int .i64 a :: .int .i64 b :: .string s :: r => match decC r with
    | some xs => some ((a, b, s) :: xs)
    | none => none
  | _ => none
theorem dec_enc : ∀ {vs : List Value} {xs : List Cl3}, decC vs = some xs → vs = xs.flatMap encC := by
  intro vs
  induction vs using decC.induct with
  | case1 => intro xs h; rw [decC] at h; cases h; rfl
  | case2 a b s r ys hd ih =>
    intro xs h
    rw [decC, hd] at h
    cases h
    rw [List.flatMap_cons, ← ih hd]; rfl
  | case3 a b s r hd ih => intro xs h; rw [decC, hd] at h; cases h
  | case4 vs h1 h2 =>
    intro xs h
    rw [decC] at h
    · cases h
    · exact h1
    exact h2
theorem enc_dec : ∀ xs : List Cl3, decC (xs.flatMap encC) = some xs
  | [] => rfl
  | x :: r => by
    have := enc_dec r
    rw [List.flatMap_cons]
    show decC (.int .i64 x.1 :: .int .i64 x.2.1 :: .string x.2.2 :: r.flatMap encC) = _
    rw [decC, this]
theorem encC_len : ∀ xs : List Cl3, (xs.flatMap encC).length = xs.length * 3
  | [] => rfl
  | x :: r => by rw [List.flatMap_cons, List.length_append, encC_len r]; simp [encC]; omega
theorem encC_af : ∀ xs : List Cl3, (xs.flatMap encC).all af0 = true
  | [] => rfl
  | x :: r => by rw [List.flatMap_cons, List.all_append, encC_af r]; rfl
def cmpI (a b : Int) : Int := Lib.compareInt a b
def cmpC (x y : Cl3) : Int := if cmpI x.1 y.1 = 0 then cmpI x.2.1 y.2.1 else cmpI x.1 y.1
theorem ltC {x y : Cl3} : ltOf cmpC x y = decide (x.1 < y.1 ∨ (x.1 = y.1 ∧ x.2.1 < y.2.1)) := by
  unfold ltOf cmpC cmpI Lib.compareInt
  by_cases h1 : x.1 < y.1
  · simp [h1]
  by_cases h2 : y.1 < x.1
  · have : ¬ x.1 = y.1 := by omega
    simp [h1, h2, this]
  have e : x.1 = y.1 := by omega
  simp only [e]
  by_cases h3 : x.2.1 < y.2.1
  · simp [h3]
  by_cases h4 : y.2.1 < x.2.1 <;> simp [h3, h4]
theorem swoC : SWO (ltOf cmpC) where
  irrefl x := by rw [ltC]; simp
  trans x y z h1 h2 := by rw [ltC] at *; simp at *; omega
  ntrans x y z h1 h2 := by rw [ltC] at *; simp at *; omega
def sortC (xs : List Cl3) : List Cl3 := (pdq (ltOf cmpC) xs.toArray 0 xs.toArray.size (Lib.bitLen xs.toArray.size) true true).toList
theorem sortC_spec (xs : List Cl3) : PermIn 0 xs.toArray.size xs.toArray (sortC xs).toArray ∧ SortedIn (ltOf cmpC) 0 xs.toArray.size (sortC xs).toArray := by
  have := pdq_sorts (ltOf cmpC) swoC xs.toArray 0 xs.toArray.size (Lib.bitLen xs.toArray.size) true true (Nat.zero_le _) (Nat.le_refl _) (Or.inl rfl)
  exact this
theorem sortC_len (xs : List Cl3) : (sortC xs).length = xs.length := by
  have := (sortC_spec xs).1.1
  simpa using this
theorem sortC_perm (xs : List Cl3) : (sortC xs).Perm xs := by
  have h := (sortC_spec xs).1.2.2
  have h2 := sortC_len xs
  have h3 : ((sortC xs).take xs.length).Perm xs := by simpa using h
  rwa [List.take_of_length_le (by omega)] at h3
theorem sortC_sorted (xs : List Cl3) : (sortC xs).Pairwise fun a b => ltOf cmpC b a = false := by
  rw [List.pairwise_iff_getElem]
  intro i j hi hj hij
  have h := (sortC_spec xs).2 i j (Nat.zero_le _) hij (by simpa [sortC_len] using hj)
  simpa [hi, hj] using h
def srtV (vs : List Value) : Option (List Value) := match decC vs with
  | some xs => some ((sortC xs).flatMap encC)
  | none => none
theorem srtV_inv {vs vs' : List Value} (h : srtV vs = some vs') : ∃ xs, vs = xs.flatMap encC ∧ vs' = (sortC xs).flatMap encC := by
  unfold srtV at h
  split at h
  · rename_i xs hd
    cases h
    exact ⟨xs, dec_enc hd, rfl⟩
  cases h
theorem srtV_of (xs : List Cl3) : srtV (xs.flatMap encC) = some ((sortC xs).flatMap encC) := by unfold srtV; rw [enc_dec]
theorem srtV_ok : SortV srtV where
  len vs vs' h := by obtain ⟨xs, rfl, rfl⟩ := srtV_inv h; rw [encC_len, encC_len, sortC_len]
  ino vs vs' h := by obtain ⟨xs, rfl, rfl⟩ := srtV_inv h; exact encC_af _
  out vs vs' h := by obtain ⟨xs, rfl, rfl⟩ := srtV_inv h; exact encC_af _
abbrev yC : Ty := .pair (.int .i64) (.pair (.int .i64) .str)
variable {P : Program} {O : FuncId → List Value → Heap → Option (Value × Heap)} {h h' : Heap} {S : List Nat}
theorem repC_C {cs : List Value} {x : Cl3} (hc : cs.length = 3) (hr : RepC h S yC cs x) : cs = encC x := by
  obtain ⟨h1, h2, h3⟩ := hr
  have h1 : cs.take 1 = [.int .i64 x.1] := h1
  have h2 : (cs.drop 1).take 1 = [.int .i64 x.2.1] := h2
  have h3 : (cs.drop 1).drop 1 = [.string x.2.2] := h3
  have e : cs = cs.take 1 ++ ((cs.drop 1).take 1 ++ (cs.drop 1).drop 1) := by rw [List.take_append_drop, List.take_append_drop]
  rw [e, h1, h2, h3]; rfl
theorem elems_C : ∀ {xs : List Cl3} {rs : List Value}, Elems h S yC rs xs → rs = xs.flatMap encC
  | [], rs, he => by
    have := he.1
    simp at this
    subst this; rfl
  | x :: xs, rs, he => by
    have hl : rs.length = (xs.length + 1) * 3 := he.1
    have h0 : RepC h S yC ((rs.drop (0 * 3)).take 3) x := he.2 0 (by simp)
    rw [Nat.zero_mul, List.drop_zero] at h0
    have h1 := repC_C (by rw [List.length_take]; omega) h0
    have h2 : Elems h S yC (rs.drop 3) xs := ⟨by show (rs.drop 3).length = xs.length * 3; rw [List.length_drop]; omega, fun i hi => by
      have h3 : RepC h S yC ((rs.drop ((i + 1) * 3)).take 3) xs[i] := he.2 (i + 1) (Nat.succ_lt_succ hi)
      show RepC h S yC (((rs.drop 3).drop (i * 3)).take 3) xs[i]
      rw [List.drop_drop]
      have e : 3 + i * 3 = (i + 1) * 3 := by omega
      rw [e]
      exact h3⟩
    have h3 := elems_C h2
    rw [List.flatMap_cons, ← h1, ← h3, List.take_append_drop]
theorem C_elems {xs : List Cl3} : Elems h S yC (xs.flatMap encC) xs := by
  induction xs with
  | nil => exact Elems.nil
  | cons x xs ih =>
    have h1 : Elems h S yC (encC x) [x] := ⟨rfl, fun i hi => by
      obtain rfl : i = 0 := by simp at hi; omega
      exact ⟨rfl, rfl, rfl⟩⟩
    exact h1.append ih
theorem VFG.sortC {fs g : FuncId} {e : TypeId} {w : Value} {xs : List Cl3} (hn : xs.length ≤ 1000000) :
    VFG P (orcF fs g 3 srtV O) fs [.raw w, .clo g [] []] [(w, .row e yC xs)] fun r γ' => r = .tup [] ∧ γ' = [(w, .row e yC (Fs.sortC xs))] := fun h S us hok hS hcells hnd hsep ha => by
  obtain ⟨u, r, rfl, h1, h2⟩ := ha
  obtain ⟨u2, r2, rfl, h3, h4⟩ := h2
  obtain rfl : r2 = [] := h4
  obtain rfl : u = w := h1
  obtain ⟨va, vc, rfl, h5, h6⟩ := h3
  obtain rfl : va = [] := h5
  obtain rfl : vc = [] := h6
  rcases hcells _ List.mem_cons_self with ⟨hw, hx⟩ | ⟨b, rs, m, hw, h3, h4, h5⟩
  · have hw : u = .slice none 0 0 := hw
    have hx : xs = [] := hx
    subst hw hx
    refine EvF.oracle (v := .tuple #[]) (h' := h) (by simp only [orcF, Nat.beq_refl, cond_true]; rfl) ?_
    refine ⟨_, _, ⟨rfl, rfl⟩, ⟨Aft.refl _ _, fun b hb => (by cases hb), List.nodup_nil, fun c hc => ?_⟩, ⟨[], rfl, rfl⟩⟩
    obtain rfl : c = _ := by simpa using hc
    exact .inl ⟨rfl, List.length_eq_zero_iff.1 (sortC_len [])⟩
  have hw : u = .slice (some ⟨b, 0, none⟩) xs.length 0 := hw
  have hrs := elems_C h5
  subst hw hrs
  have ho : orcF fs g 3 srtV O fs [.slice (some ⟨b, 0, none⟩) xs.length 0, .func (.func g) #[] #[]] h = some (.tuple #[], h.set b (.row e ((Fs.sortC xs).flatMap encC) true m)) := by
    have e1 : Nat.ble (xs.length * 3) (xs.flatMap encC).length = true := by rw [Nat.ble_eq, encC_len]; exact Nat.le_refl _
    have e2 : Nat.ble xs.length 1000000 = true := by rw [Nat.ble_eq]; exact hn
    have e3 : (xs.flatMap encC).take (xs.length * 3) = xs.flatMap encC := List.take_of_length_le (by rw [encC_len]; exact Nat.le_refl _)
    have e4 : splice (xs.flatMap encC) 0 ((Fs.sortC xs).flatMap encC) = (Fs.sortC xs).flatMap encC := by
      unfold splice
      rw [List.take_zero, List.nil_append, List.drop_of_length_le (by rw [encC_len, encC_len, sortC_len]; omega), List.append_nil]
    have e5 : (Nat.beq g g && (Nat.beq (#[] : Array Value).size 0 && Nat.beq (#[] : Array Value).size 0)) = true := by rw [Nat.beq_refl]; rfl
    simp only [orcF, Nat.beq_refl, cond_true, h4, e1, e2, Bool.and_self, e3, srtV_of, e4, e5]
    rfl
  refine EvF.oracle ho ⟨_, _, ⟨rfl, rfl⟩, ⟨Aft.set h4 (by simp [own, blk]), fun b' hb' => .inl (by simpa [own, blk] using hb'), by simp [own, blk], fun c hc => ?_⟩, ⟨[], rfl, rfl⟩⟩
  obtain rfl : c = _ := by simpa using hc
  refine .inr ⟨b, _, m, by rw [sortC_len], by simp [own, blk], by rw [Heap.get_set h4, if_pos rfl], C_elems⟩
end Go.Fs
namespace Go.Proofs
open Go.Fs
set_option linter.unusedVariables false
def OA := orcF 137 138 3 srtV (orcT 178 (orcA 182 147 16))
abbrev y39 : Ty := (.sl (.int .i64))
abbrev y204 : Ty := (.sl (.int .i64))
theorem vt3 : ValT Tryz.prog 3 (.int .i64) := valT_of (by kernel_rfl)
theorem vt32 : ValT Tryz.prog 32 (.int .i64) := valT_of (by kernel_rfl)
theorem el39 : ElT Tryz.prog 39 3 (.int .i64) := elT_of (by kernel_rfl)
theorem el204 : ElT Tryz.prog 204 32 (.int .i64) := elT_of (by kernel_rfl)
def whenE (c : Bool) (e : Int) : Int := bif c then e else 0
theorem sWhen_ok {c : Bool} {e : Int} : VF Tryz.prog OA 94 [B c, I e] (I (whenE c e)) := by
  refine VF.enter Tryz.func94 rfl (fun _ _ => rfl) rfl ?_
  show VC _ _ _ _ _ [(0, B c), (1, I e)] [] _
  refine VC.seq (VC.text ?_)
  refine VO.c (.assign rfl) ?_
  refine VO.go (VC.seq (VC.seq (VC.text ?_)))
  refine VO.c (.move rfl) ?_
  refine VO.go ?_
  refine VC.condB rfl (fun c1 => ?_) (fun c1 => ?_)
  · subst c1
    refine VC.seq (VC.text ?_)
    refine VO.c (.move rfl) ?_
    refine VO.c (.assign rfl) ?_
    refine VO.go ?_
    refine VC.ret ?_
    exact VEnd.one rfl evT (pvI (by rfl))
  subst c1
  refine VC.skip (VC.seq (VC.text ?_))
  refine VO.c (.assign rfl) ?_
  refine VO.go ?_
  refine VC.ret ?_
  exact VEnd.one rfl evT (pvI (by rfl))
def rangeE (n lo hi : Int) : Int := if n < lo ∨ hi < n then 3 else 0
theorem rCheckRange_ok {n : Int} {lo : Int} {hi : Int} : VF Tryz.prog OA 100 [I n, I lo, I hi] (I (rangeE n lo hi)) := by
  refine VF.enter Tryz.func100 rfl (fun _ _ => rfl) rfl ?_
  show VC _ _ _ _ _ [(0, I n), (1, I lo), (2, I hi)] [] _
  refine VC.seq (VC.text ?_)
  refine VO.c (.assign rfl) ?_
  refine VO.go (VC.seq (VC.seq (VC.text ?_)))
  refine VO.c (.move rfl) ?_
  refine VO.c (.move rfl) ?_
  refine VO.c (.lss) ?_
  refine VO.c (.move rfl) ?_
  refine VO.cg (r := decide (n < lo)) (w := false) [] trivial (fun hgd => have g1_3 : ¬ (n < lo) := (by simpa using hgd); (.move rfl)) ?_
  refine VO.cg (r := decide (n < lo)) (w := false) [] trivial (fun hgd => have g1_3 : ¬ (n < lo) := (by simpa using hgd); (.move rfl)) ?_
  refine VO.cg (r := decide (n < lo)) (w := false) [(11, I n), (12, I hi)] ⟨rfl, rfl, trivial⟩ (fun hgd => have g1_3 : ¬ (n < lo) := (by simpa using hgd); (.gtr)) ?_
  refine VO.c (.or) ?_
  refine VO.go ?_
  refine VC.condB rfl (fun c1 => ?_) (fun c1 => ?_)
  · try simp only [Bool.and_eq_true, Bool.or_eq_true, Bool.and_eq_false_iff, Bool.or_eq_false_iff, Bool.not_eq_true', Bool.not_eq_false', decide_eq_true_eq, decide_eq_false_iff_not] at c1
    refine VC.seq (VC.text ?_)
    refine VO.c (.assign rfl) ?_
    refine VO.go ?_
    refine VC.ret ?_
    exact VEnd.one rfl evT (pvI (by simp only [rangeE, ← Bool.decide_or, decide_eq_true_eq, decide_eq_false_iff_not, Bool.or_eq_true, Bool.or_eq_false_iff] at *; first | rw [if_pos (by omega)] | rw [if_neg (by omega)]))
  try simp only [Bool.and_eq_true, Bool.or_eq_true, Bool.and_eq_false_iff, Bool.or_eq_false_iff, Bool.not_eq_true', Bool.not_eq_false', decide_eq_true_eq, decide_eq_false_iff_not] at c1
  refine VC.skip (VC.seq (VC.text ?_))
  refine VO.c (.assign rfl) ?_
  refine VO.go ?_
  refine VC.ret ?_
  exact VEnd.one rfl evT (pvI (by simp only [rangeE, ← Bool.decide_or, decide_eq_true_eq, decide_eq_false_iff_not, Bool.or_eq_true, Bool.or_eq_false_iff] at *; first | rw [if_pos (by omega)] | rw [if_neg (by omega)]))
theorem whenE_range {n lo hi : Int} : whenE (decide (n < lo) || decide (hi < n)) 3 = rangeE n lo hi := by
  unfold whenE rangeE
  by_cases h1 : n < lo <;> by_cases h2 : hi < n <;> simp [h1, h2]
theorem sWithin_ok {n : Int} {lo : Int} {hi : Int} : VF Tryz.prog OA 99 [I n, I lo, I hi] (I (rangeE n lo hi)) := by
  refine VF.enter Tryz.func99 rfl (fun _ _ => rfl) rfl ?_
  show VC _ _ _ _ _ [(0, I n), (1, I lo), (2, I hi)] [] _
  refine VC.seq (VC.text ?_)
  refine VO.c (.assign rfl) ?_
  refine VO.go (VC.seq (VC.text ?_))
  refine VO.c (.move rfl) ?_
  refine VO.c (.move rfl) ?_
  refine VO.c (.lss) ?_
  refine VO.c (.move rfl) ?_
  refine VO.cg (r := decide (n < lo)) (w := false) [] trivial (fun hgd => have g1_3 : ¬ (n < lo) := (by simpa using hgd); (.move rfl)) ?_
  refine VO.cg (r := decide (n < lo)) (w := false) [] trivial (fun hgd => have g1_3 : ¬ (n < lo) := (by simpa using hgd); (.move rfl)) ?_
  refine VO.cg (r := decide (n < lo)) (w := false) [(11, I n), (12, I hi)] ⟨rfl, rfl, trivial⟩ (fun hgd => have g1_3 : ¬ (n < lo) := (by simpa using hgd); (.gtr)) ?_
  refine VO.c (.or) ?_
  refine VO.call rfl rfl (VF.call (sWhen_ok )) ?_
  refine VO.c (.assign rfl) ?_
  refine VO.go ?_
  refine VC.ret ?_
  exact VEnd.one rfl evT (pvI (by exact whenE_range))
def firstE : List Int → Int
  | [] => 0
  | x :: r => if x = 0 then firstE r else x
theorem firstE_drop {xs : List Int} {j : Nat} (hj : j < xs.length) : firstE (xs.drop j) = if xs[j] = 0 then firstE (xs.drop (j + 1)) else xs[j] := by
  rw [List.drop_eq_getElem_cons hj] <;> rfl
theorem firstE_end {xs : List Int} {j : Nat} (hj : xs.length ≤ j) : firstE (xs.drop j) = 0 := by rw [List.drop_eq_nil_of_le hj] <;> rfl
theorem sFirst_ok {l : List Int} (hl : l.length < 1000000) : VF Tryz.prog OA 89 [.v y204 l] (I (firstE l)) := by
  refine VF.enter Tryz.func89 rfl (fun _ _ => rfl) rfl ?_
  show VC _ _ _ _ _ [(0, .v y204 l)] [] _
  refine VC.seq (VC.text ?_)
  refine VO.c (.assign rfl) ?_
  refine VO.go (VC.seq (VC.seq (VC.text ?_)))
  refine VO.c (.move rfl) ?_
  refine VO.r (.len el204) ?_
  refine VO.c (.move rfl) ?_
  refine VO.go (VC.block ?_)
  refine VC.keep [(5, .v y204 l), (6, I ((l.length : Nat) : Int)), (7, I ((0 : Nat) : Int))] ⟨rfl, rfl, rfl, trivial⟩ ?_
  refine VC.loop (I := fun kk ff ss => ∃ (j : Nat), kk = l.length - j ∧ ff = [(5, .v y204 l), (6, I ((l.length : Nat) : Int)), (7, I ((j : Nat) : Int))] ∧ ss = [] ∧ (j ≤ l.length) ∧ (firstE l = firstE (l.drop j))) ?_ _ _ _ ⟨0, rfl, rfl, rfl, Nat.zero_le _, (by rfl)⟩
  rintro kk ff ss ⟨j, hk0, rfl, rfl, hj, hf⟩
  refine VC.seq (VC.text ?_)
  refine VO.c (.lss) ?_
  refine VO.go (VC.seq ?_)
  refine VC.condD rfl (fun c2 => ?_) (fun c2 => ?_)
  · refine VC.skip (VC.seq (VC.block (VC.seq (VC.text ?_))))
    refine VO.c (.ix (j := j) rfl rfl el204 (by omega)) ?_
    refine VO.r (.ld vt32) ?_
    refine VO.c (.assign rfl) ?_
    refine VO.go (VC.seq (VC.text ?_))
    refine VO.c (.move rfl) ?_
    refine VO.c (.neq) ?_
    refine VO.go ?_
    refine VC.condD rfl (fun c4 => ?_) (fun c4 => ?_)
    · refine VC.seq (VC.text ?_)
      refine VO.c (.move rfl) ?_
      refine VO.c (.assign rfl) ?_
      refine VO.go ?_
      refine VC.ret ?_
      exact VEnd.one rfl evT (pvI (by rw [hf, firstE_drop (by omega), if_neg c4]))
    refine VC.skip (VC.text ?_)
    refine VO.c (.add rfl rfl (by omega)) ?_
    refine VO.c (.move rfl) ?_
    refine VO.nil ?_
    refine ⟨_, [(5, .v y204 l), (6, I ((l.length : Nat) : Int)), (7, I (((j + 1) : Nat) : Int))], ?_, ⟨rfl, rfl, rfl, trivial⟩, (j + 1), rfl, rfl, rfl, (by omega), (by rw [hf, firstE_drop (by omega), if_pos (by simpa using c4)])⟩
    omega
  refine VC.exit (VC.seq (VC.text ?_))
  refine VO.c (.assign rfl) ?_
  refine VO.go ?_
  refine VC.ret ?_
  exact VEnd.one rfl evT (pvI (by rw [hf, firstE_end (by omega)]))
theorem rFirst_ok {l : List Int} (hl : l.length < 1000000) : VF Tryz.prog OA 19 [.v y39 l] (I (firstE l)) := by
  refine VF.enter Tryz.func19 rfl (fun _ _ => rfl) rfl ?_
  show VC _ _ _ _ _ [(0, .v y39 l)] [] _
  refine VC.seq (VC.text ?_)
  refine VO.c (.assign rfl) ?_
  refine VO.go (VC.seq (VC.seq (VC.text ?_)))
  refine VO.c (.assign rfl) ?_
  refine VO.go (VC.block ?_)
  refine VC.keep [(0, .v y39 l), (3, I ((0 : Nat) : Int))] ⟨rfl, rfl, trivial⟩ ?_
  refine VC.loop (I := fun kk ff ss => ∃ (j : Nat), kk = l.length - j ∧ ff = [(0, .v y39 l), (3, I ((j : Nat) : Int))] ∧ ss = [] ∧ (j ≤ l.length) ∧ (firstE l = firstE (l.drop j))) ?_ _ _ _ ⟨0, rfl, rfl, rfl, Nat.zero_le _, (by rfl)⟩
  rintro kk ff ss ⟨j, hk0, rfl, rfl, hj, hf⟩
  refine VC.seq (VC.seq (VC.text ?_))
  refine VO.c (.move rfl) ?_
  refine VO.c (.move rfl) ?_
  refine VO.r (.len el39) ?_
  refine VO.c (.lss) ?_
  refine VO.go ?_
  refine VC.condD rfl (fun c2 => ?_) (fun c2 => ?_)
  · refine VC.skip (VC.seq (VC.block (VC.seq (VC.text ?_))))
    refine VO.c (.move rfl) ?_
    refine VO.c (.move rfl) ?_
    refine VO.c (.ix (j := j) rfl rfl el39 (by omega)) ?_
    refine VO.r (.ld vt3) ?_
    refine VO.c (.neq) ?_
    refine VO.go ?_
    refine VC.condD rfl (fun c4 => ?_) (fun c4 => ?_)
    · refine VC.seq (VC.text ?_)
      refine VO.c (.move rfl) ?_
      refine VO.c (.move rfl) ?_
      refine VO.c (.ix (j := j) rfl rfl el39 (by omega)) ?_
      refine VO.r (.ld vt3) ?_
      refine VO.c (.assign rfl) ?_
      refine VO.go ?_
      refine VC.ret ?_
      exact VEnd.one rfl evT (pvI (by rw [hf, firstE_drop (by omega), if_neg c4]))
    refine VC.skip (VC.text ?_)
    refine VO.c (.move rfl) ?_
    refine VO.c (.add rfl rfl (by omega)) ?_
    refine VO.c (.assign rfl) ?_
    refine VO.nil ?_
    refine ⟨_, [(0, .v y39 l), (3, I (((j + 1) : Nat) : Int))], ?_, ⟨rfl, rfl, trivial⟩, (j + 1), rfl, rfl, rfl, (by omega), (by rw [hf, firstE_drop (by omega), if_pos (by simpa using c4)])⟩
    omega
  refine VC.exit (VC.seq (VC.text ?_))
  refine VO.c (.assign rfl) ?_
  refine VO.go ?_
  refine VC.ret ?_
  exact VEnd.one rfl evT (pvI (by rw [hf, firstE_end (by omega)]))
end Go.Proofs
namespace Go.Proofs
open Go.Fs Ieee
set_option linter.unusedVariables false

def letterB (c : Int) : Bool := decide (65 ≤ c ∧ c ≤ 90 ∨ 97 ≤ c ∧ c ≤ 122)
def otherB (c : Int) : Bool := decide (48 ≤ c ∧ c ≤ 57 ∨ c = 95)
def byteB (c : Int) (i : Nat) : Bool := letterB c || (decide (i ≠ 0) && otherB c)
def nameB (s : ByteArray) : Bool := decide (s.size ≠ 0 ∧ s.size ≤ 24 ∧ ∀ i, i < s.size → byteB (byteE s i) i = true)
theorem nameB_f {s : ByteArray} {i : Nat} (hi : i < s.size) (h : byteB (byteE s i) i = false) : false = nameB s := by
  refine (decide_eq_false fun hh => ?_).symm
  rw [hh.2.2 i hi] at h; cases h
theorem nameB_t {s : ByteArray} (h1 : s.size ≠ 0) (h2 : s.size ≤ 24) (h : ∀ i, i < s.size → byteB (byteE s i) i = true) : true = nameB s := (decide_eq_true ⟨h1, h2, h⟩).symm
theorem size_empty {s : ByteArray} : s ≠ ByteArray.empty ↔ s.size ≠ 0 := by
  constructor
  · intro h e
    exact h (ByteArray.ext (Array.eq_empty_of_size_eq_zero e))
  rintro h rfl; exact h rfl
theorem byteB_high {c : Int} {i : Nat} (h : 128 ≤ c) : byteB c i = false := by
  have h1 : letterB c = false := decide_eq_false (by omega)
  have h2 : otherB c = false := decide_eq_false (by omega)
  rw [byteB, h1, h2]; simp
theorem rune_f {s : ByteArray} {p : Nat} (h : byteB ((Utf8.decode s p).1 : Nat) p = false) : byteB (byteE s p) p = false := by
  by_cases hl : (s.get! p).toNat < 128
  · rw [decode_low hl] at h; exact h
  exact byteB_high (by rw [byteE_nat]; omega)
theorem rune_t {s : ByteArray} {p : Nat} (h : byteB ((Utf8.decode s p).1 : Nat) p = true) : byteB (byteE s p) p = true ∧ (Utf8.decode s p).2 = 1 := by
  by_cases hl : (s.get! p).toNat < 128
  · rw [decode_low hl] at h ⊢; exact ⟨h, rfl⟩
  have := Go.Fs.decode_high hl
  rw [byteB_high (by omega)] at h; cases h
theorem name_end {s : ByteArray} (h : ∀ i, i < s.size → byteB (byteE s i) i = true) : (decide (s ≠ ByteArray.empty) && decide (((s.size : Nat) : Int) ≤ 24)) = nameB s := by
  rw [← Bool.decide_and]
  exact decide_eq_decide.2 ⟨fun hh => ⟨size_empty.1 hh.1, by omega, h⟩, fun hh => ⟨size_empty.2 hh.1, by omega⟩⟩
theorem gName_ok {s : ByteArray} : VF Tryz.prog OA 153 [St s] (B (nameB s)) := by
  refine VF.enter Tryz.func153 rfl (fun _ _ => rfl) rfl ?_
  show VC _ _ _ _ _ [(0, St s)] [] _
  refine VC.seq (VC.text ?_)
  refine VO.c (.assign rfl) ?_
  refine VO.go (VC.seq (VC.seq (VC.text ?_)))
  refine VO.c (.move rfl) ?_
  refine VO.cell (.rng) ?_
  intro ww1
  refine VO.go (VC.block ?_)
  refine VC.keep [(0, St s), (8, .raw ww1)] ⟨rfl, rfl, trivial⟩ ?_
  refine VC.loop (I := fun kk ff ss => ∃ (p : Nat), kk = s.size - p ∧ ff = [(0, St s), (8, .raw ww1)] ∧ ss = [(ww1, .it s p)] ∧ (p ≤ s.size) ∧ (∀ i, i < p → byteB (byteE s i) i = true)) ?_ _ _ _ ⟨0, rfl, rfl, rfl, Nat.zero_le _, (by intro i hi; omega)⟩
  rintro kk ff ss ⟨p, hk0, rfl, rfl, hp, hq⟩
  refine VC.seq (VC.text ?_)
  refine VO.next rfl (fun h2_0 => ?_) (fun h2_0 => ?_)
  · refine VO.c (.extract) ?_
    refine VO.go (VC.seq ?_)
    refine VC.condT rfl ?_
    refine VC.skip (VC.block (VC.seq (VC.text ?_)))
    refine VO.c (.extract) ?_
    refine VO.c (.extract) ?_
    refine VO.c (.assign rfl) ?_
    refine VO.c (.assign rfl) ?_
    refine VO.go (VC.seq ?_)
    refine VC.join [(0, St s), (3, I ((p : Nat) : Int)), (4, .v (.int .i32) (((Utf8.decode s p).1 : Nat) : Int)), (5, B (letterB ((Utf8.decode s p).1 : Nat))), (8, .raw ww1)] [(ww1, .it s (p + (Utf8.decode s p).2))] ?_ ?_
    · skip
      refine VC.text ?_
      refine VO.c (.move rfl) ?_
      refine VO.c (.geq) ?_
      refine VO.c (.move rfl) ?_
      refine VO.splitD (x := 15) rfl (fun g4_2 => ?_) (fun g4_2 => ?_)
      · refine VO.c (.move rfl) ?_
        refine VO.c (.leq) ?_
        refine VO.c (.pickT rfl rfl) ?_
        refine VO.c (.move rfl) ?_
        refine VO.splitD (x := 19) rfl (fun g4_6 => ?_) (fun g4_6 => ?_)
        · refine VO.skip ?_
          refine VO.skip ?_
          refine VO.skip ?_
          refine VO.skip ?_
          refine VO.skip ?_
          refine VO.skip ?_
          refine VO.c (.pickT rfl rfl) ?_
          refine VO.c (.assign rfl) ?_
          refine VO.nil ?_
          exact ⟨⟨rfl, rfl, rfl, slE rfl (by rw [Bool.eq_iff_iff]; simp [letterB] <;> omega), rfl, trivial⟩, rfl⟩
        refine VO.c (.move rfl) ?_
        refine VO.c (.geq) ?_
        refine VO.c (.move rfl) ?_
        refine VO.cg (r := decide ((97 : Int) ≤ (((Utf8.decode s p).1 : Nat) : Int))) (w := true) [] trivial (fun hgd => have g4_9 : (97 : Int) ≤ (((Utf8.decode s p).1 : Nat) : Int) := (by simpa using hgd); (.move rfl)) ?_
        refine VO.cg (r := decide ((97 : Int) ≤ (((Utf8.decode s p).1 : Nat) : Int))) (w := true) [(23, .v (.int .i32) (((Utf8.decode s p).1 : Nat) : Int))] ⟨rfl, trivial⟩ (fun hgd => have g4_9 : (97 : Int) ≤ (((Utf8.decode s p).1 : Nat) : Int) := (by simpa using hgd); (.leq)) ?_
        refine VO.c (.and) ?_
        refine VO.c (.pickF rfl rfl) ?_
        refine VO.c (.assign rfl) ?_
        refine VO.nil ?_
        exact ⟨⟨rfl, rfl, rfl, slE rfl (by rw [Bool.eq_iff_iff]; simp [letterB] <;> omega), rfl, trivial⟩, rfl⟩
      refine VO.skip ?_
      refine VO.skip ?_
      refine VO.c (.pickF rfl rfl) ?_
      refine VO.c (.move rfl) ?_
      refine VO.c (.move rfl) ?_
      refine VO.c (.geq) ?_
      refine VO.c (.move rfl) ?_
      refine VO.cg (r := decide ((97 : Int) ≤ (((Utf8.decode s p).1 : Nat) : Int))) (w := true) [] trivial (fun hgd => have g4_9 : (97 : Int) ≤ (((Utf8.decode s p).1 : Nat) : Int) := (by simpa using hgd); (.move rfl)) ?_
      refine VO.cg (r := decide ((97 : Int) ≤ (((Utf8.decode s p).1 : Nat) : Int))) (w := true) [(23, .v (.int .i32) (((Utf8.decode s p).1 : Nat) : Int))] ⟨rfl, trivial⟩ (fun hgd => have g4_9 : (97 : Int) ≤ (((Utf8.decode s p).1 : Nat) : Int) := (by simpa using hgd); (.leq)) ?_
      refine VO.c (.and) ?_
      refine VO.c (.pickF rfl rfl) ?_
      refine VO.c (.assign rfl) ?_
      refine VO.nil ?_
      exact ⟨⟨rfl, rfl, rfl, slE rfl (by rw [Bool.eq_iff_iff]; simp [letterB] <;> omega), rfl, trivial⟩, rfl⟩
    refine VC.seq ?_
    refine VC.join [(0, St s), (3, I ((p : Nat) : Int)), (5, B (letterB ((Utf8.decode s p).1 : Nat))), (6, B (otherB ((Utf8.decode s p).1 : Nat))), (8, .raw ww1)] [(ww1, .it s (p + (Utf8.decode s p).2))] ?_ ?_
    · skip
      refine VC.text ?_
      refine VO.c (.move rfl) ?_
      refine VO.c (.geq) ?_
      refine VO.c (.move rfl) ?_
      refine VO.splitD (x := 29) rfl (fun g5_2 => ?_) (fun g5_2 => ?_)
      · refine VO.c (.move rfl) ?_
        refine VO.c (.leq) ?_
        refine VO.c (.pickT rfl rfl) ?_
        refine VO.c (.move rfl) ?_
        refine VO.cg (r := decide ((((Utf8.decode s p).1 : Nat) : Int) ≤ (57 : Int))) (w := false) [] trivial (fun hgd => have g5_6 : ¬ ((((Utf8.decode s p).1 : Nat) : Int) ≤ (57 : Int)) := (by simpa using hgd); (.move rfl)) ?_
        refine VO.cg (r := decide ((((Utf8.decode s p).1 : Nat) : Int) ≤ (57 : Int))) (w := false) [(34, .v (.int .i32) (((Utf8.decode s p).1 : Nat) : Int))] ⟨rfl, trivial⟩ (fun hgd => have g5_6 : ¬ ((((Utf8.decode s p).1 : Nat) : Int) ≤ (57 : Int)) := (by simpa using hgd); (.eql)) ?_
        refine VO.c (.or) ?_
        refine VO.c (.assign rfl) ?_
        refine VO.nil ?_
        exact ⟨⟨rfl, rfl, rfl, slE rfl (by rw [Bool.eq_iff_iff]; simp [otherB] <;> omega), rfl, trivial⟩, rfl⟩
      refine VO.skip ?_
      refine VO.skip ?_
      refine VO.c (.pickF rfl rfl) ?_
      refine VO.c (.move rfl) ?_
      refine VO.c (.move rfl) ?_
      refine VO.c (.eql) ?_
      refine VO.c (.pickF rfl rfl) ?_
      refine VO.c (.assign rfl) ?_
      refine VO.nil ?_
      exact ⟨⟨rfl, rfl, rfl, slE rfl (by rw [Bool.eq_iff_iff]; simp [otherB] <;> omega), rfl, trivial⟩, rfl⟩
    refine VC.seq ?_
    refine VC.join [(0, St s), (8, .raw ww1), (46, B (!byteB ((Utf8.decode s p).1 : Nat) p))] [(ww1, .it s (p + (Utf8.decode s p).2))] ?_ ?_
    · skip
      refine VC.text ?_
      refine VO.c (.move rfl) ?_
      refine VO.c (.not) ?_
      refine VO.c (.move rfl) ?_
      refine VO.splitB (x := 39) rfl (fun g6_2 => ?_) (fun g6_2 => ?_)
      · try simp only [Bool.and_eq_true, Bool.or_eq_true, Bool.and_eq_false_iff, Bool.or_eq_false_iff, Bool.not_eq_true', Bool.not_eq_false', decide_eq_true_eq, decide_eq_false_iff_not] at g6_2
        refine VO.c (.move rfl) ?_
        refine VO.c (.eql) ?_
        refine VO.c (.move rfl) ?_
        refine VO.cg (r := decide (((p : Nat) : Int) = (0 : Int))) (w := false) [] trivial (fun hgd => have g6_5 : ¬ (((p : Nat) : Int) = (0 : Int)) := (by simpa using hgd); (.move rfl)) ?_
        refine VO.cg (r := decide (((p : Nat) : Int) = (0 : Int))) (w := false) [(43, B (otherB ((Utf8.decode s p).1 : Nat)))] ⟨rfl, trivial⟩ (fun hgd => have g6_5 : ¬ (((p : Nat) : Int) = (0 : Int)) := (by simpa using hgd); (.not)) ?_
        refine VO.c (.or) ?_
        refine VO.c (.pickT rfl rfl) ?_
        refine VO.nil ?_
        exact ⟨⟨rfl, rfl, slE rfl (by simp [byteB, *]), trivial⟩, rfl⟩
      try simp only [Bool.and_eq_true, Bool.or_eq_true, Bool.and_eq_false_iff, Bool.or_eq_false_iff, Bool.not_eq_true', Bool.not_eq_false', decide_eq_true_eq, decide_eq_false_iff_not] at g6_2
      refine VO.skip ?_
      refine VO.skip ?_
      refine VO.skip ?_
      refine VO.skip ?_
      refine VO.skip ?_
      refine VO.skip ?_
      refine VO.c (.pickF rfl rfl) ?_
      refine VO.nil ?_
      exact ⟨⟨rfl, rfl, slE rfl (by simp [byteB, *]), trivial⟩, rfl⟩
    refine VC.condB rfl (fun c6 => ?_) (fun c6 => ?_)
    · try simp only [Bool.and_eq_true, Bool.or_eq_true, Bool.and_eq_false_iff, Bool.or_eq_false_iff, Bool.not_eq_true', Bool.not_eq_false', decide_eq_true_eq, decide_eq_false_iff_not] at c6
      refine VC.seq (VC.text ?_)
      refine VO.c (.assign rfl) ?_
      refine VO.go ?_
      refine VC.ret ?_
      exact VEnd.one rfl evT (pvE (by exact nameB_f h2_0 (rune_f c6)))
    try simp only [Bool.and_eq_true, Bool.or_eq_true, Bool.and_eq_false_iff, Bool.or_eq_false_iff, Bool.not_eq_true', Bool.not_eq_false', decide_eq_true_eq, decide_eq_false_iff_not] at c6
    refine VC.skip ?_
    refine ⟨_, [(0, St s), (8, .raw ww1)], ?_, ⟨rfl, rfl, trivial⟩, (p + 1), rfl, rfl, (by rw [(rune_t c6).2]), (by omega), (by intro i hi; rcases Nat.lt_succ_iff_lt_or_eq.1 hi with h | h; exact hq i h; subst h; exact (rune_t c6).1)⟩
    omega
  refine VO.c (.ext0) ?_
  refine VO.go (VC.seq ?_)
  refine VC.condF rfl ?_
  refine VC.exit (VC.seq (VC.text ?_))
  refine VO.c (.move rfl) ?_
  refine VO.c (.sneq) ?_
  refine VO.c (.move rfl) ?_
  refine VO.cg (r := decide (s ≠ ByteArray.empty)) (w := true) [] trivial (fun hgd => have g8_2 : s ≠ ByteArray.empty := (by simpa using hgd); (.move rfl)) ?_
  refine VO.rg (r := decide (s ≠ ByteArray.empty)) (w := true) [(50, St s)] ⟨rfl, trivial⟩ (fun hgd => have g8_2 : s ≠ ByteArray.empty := (by simpa using hgd); (.lenS)) ?_
  refine VO.cg (r := decide (s ≠ ByteArray.empty)) (w := true) [(51, I ((s.size : Nat) : Int))] ⟨rfl, trivial⟩ (fun hgd => have g8_2 : s ≠ ByteArray.empty := (by simpa using hgd); (.leq)) ?_
  refine VO.c (.and) ?_
  refine VO.c (.assign rfl) ?_
  refine VO.go ?_
  refine VC.ret ?_
  exact VEnd.one rfl evT (pvE (by exact name_end (fun i hi => hq i (by omega))))
theorem rName_ok {s : ByteArray} : VF Tryz.prog OA 152 [St s] (B (nameB s)) := by
  refine VF.enter Tryz.func152 rfl (fun _ _ => rfl) rfl ?_
  show VC _ _ _ _ _ [(0, St s)] [] _
  refine VC.seq (VC.text ?_)
  refine VO.c (.assign rfl) ?_
  refine VO.go (VC.seq (VC.seq (VC.text ?_)))
  refine VO.c (.move rfl) ?_
  refine VO.r (.lenS) ?_
  refine VO.c (.eql) ?_
  refine VO.c (.move rfl) ?_
  refine VO.cg (r := decide (((s.size : Nat) : Int) = (0 : Int))) (w := false) [] trivial (fun hgd => have g1_3 : ¬ (((s.size : Nat) : Int) = (0 : Int)) := (by simpa using hgd); (.move rfl)) ?_
  refine VO.rg (r := decide (((s.size : Nat) : Int) = (0 : Int))) (w := false) [(9, St s)] ⟨rfl, trivial⟩ (fun hgd => have g1_3 : ¬ (((s.size : Nat) : Int) = (0 : Int)) := (by simpa using hgd); (.lenS)) ?_
  refine VO.cg (r := decide (((s.size : Nat) : Int) = (0 : Int))) (w := false) [(10, I ((s.size : Nat) : Int))] ⟨rfl, trivial⟩ (fun hgd => have g1_3 : ¬ (((s.size : Nat) : Int) = (0 : Int)) := (by simpa using hgd); (.gtr)) ?_
  refine VO.c (.or) ?_
  refine VO.go ?_
  refine VC.condB rfl (fun c1 => ?_) (fun c1 => ?_)
  · try simp only [Bool.and_eq_true, Bool.or_eq_true, Bool.and_eq_false_iff, Bool.or_eq_false_iff, Bool.not_eq_true', Bool.not_eq_false', decide_eq_true_eq, decide_eq_false_iff_not] at c1
    refine VC.seq (VC.text ?_)
    refine VO.c (.assign rfl) ?_
    refine VO.go ?_
    refine VC.ret ?_
    exact VEnd.one rfl evT (pvE (by exact (decide_eq_false fun hh => by have := hh.1; have := hh.2.1; omega).symm))
  try simp only [Bool.and_eq_true, Bool.or_eq_true, Bool.and_eq_false_iff, Bool.or_eq_false_iff, Bool.not_eq_true', Bool.not_eq_false', decide_eq_true_eq, decide_eq_false_iff_not] at c1
  refine VC.skip (VC.seq (VC.seq (VC.text ?_)))
  refine VO.c (.assign rfl) ?_
  refine VO.go (VC.block ?_)
  refine VC.keep [(0, St s), (3, I ((0 : Nat) : Int))] ⟨rfl, rfl, trivial⟩ ?_
  refine VC.loop (I := fun kk ff ss => ∃ (i : Nat), kk = s.size - i ∧ ff = [(0, St s), (3, I ((i : Nat) : Int))] ∧ ss = [] ∧ (i ≤ s.size) ∧ (∀ k, k < i → byteB (byteE s k) k = true)) ?_ _ _ _ ⟨0, rfl, rfl, rfl, Nat.zero_le _, (by intro k hk; omega)⟩
  rintro kk ff ss ⟨i, hk0, rfl, rfl, hi, hq⟩
  refine VC.seq (VC.seq (VC.text ?_))
  refine VO.c (.move rfl) ?_
  refine VO.c (.move rfl) ?_
  refine VO.r (.lenS) ?_
  refine VO.c (.lss) ?_
  refine VO.go ?_
  refine VC.condD rfl (fun c4 => ?_) (fun c4 => ?_)
  · refine VC.skip (VC.seq (VC.block (VC.seq (VC.text ?_))))
    refine VO.c (.move rfl) ?_
    refine VO.c (.move rfl) ?_
    refine VO.c (.ixS rfl rfl (by omega) (by omega)) ?_
    refine VO.c (.assign rfl) ?_
    refine VO.go (VC.seq (VC.seq ?_))
    refine VC.join [(0, St s), (3, I ((i : Nat) : Int)), (4, .v (.int .u8) (byteE s ((i : Nat) : Int))), (35, B (letterB (byteE s i)))] [] ?_ ?_
    · skip
      refine VC.text ?_
      refine VO.c (.move rfl) ?_
      refine VO.c (.geq) ?_
      refine VO.c (.move rfl) ?_
      refine VO.splitD (x := 24) rfl (fun g7_2 => ?_) (fun g7_2 => ?_)
      · refine VO.c (.move rfl) ?_
        refine VO.c (.leq) ?_
        refine VO.c (.pickT rfl rfl) ?_
        refine VO.c (.move rfl) ?_
        refine VO.splitD (x := 28) rfl (fun g7_6 => ?_) (fun g7_6 => ?_)
        · refine VO.skip ?_
          refine VO.skip ?_
          refine VO.skip ?_
          refine VO.skip ?_
          refine VO.skip ?_
          refine VO.skip ?_
          refine VO.c (.pickT rfl rfl) ?_
          refine VO.nil ?_
          exact ⟨⟨rfl, rfl, rfl, slE rfl (by rw [Bool.eq_iff_iff]; simp [letterB] <;> omega), trivial⟩, rfl⟩
        refine VO.c (.move rfl) ?_
        refine VO.c (.geq) ?_
        refine VO.c (.move rfl) ?_
        refine VO.cg (r := decide ((65 : Int) ≤ (byteE s ((i : Nat) : Int)))) (w := true) [] trivial (fun hgd => have g7_9 : (65 : Int) ≤ (byteE s ((i : Nat) : Int)) := (by simpa using hgd); (.move rfl)) ?_
        refine VO.cg (r := decide ((65 : Int) ≤ (byteE s ((i : Nat) : Int)))) (w := true) [(32, .v (.int .u8) (byteE s ((i : Nat) : Int)))] ⟨rfl, trivial⟩ (fun hgd => have g7_9 : (65 : Int) ≤ (byteE s ((i : Nat) : Int)) := (by simpa using hgd); (.leq)) ?_
        refine VO.c (.and) ?_
        refine VO.c (.pickF rfl rfl) ?_
        refine VO.nil ?_
        exact ⟨⟨rfl, rfl, rfl, slE rfl (by rw [Bool.eq_iff_iff]; simp [letterB] <;> omega), trivial⟩, rfl⟩
      refine VO.skip ?_
      refine VO.skip ?_
      refine VO.c (.pickF rfl rfl) ?_
      refine VO.c (.move rfl) ?_
      refine VO.c (.move rfl) ?_
      refine VO.c (.geq) ?_
      refine VO.c (.move rfl) ?_
      refine VO.cg (r := decide ((65 : Int) ≤ (byteE s ((i : Nat) : Int)))) (w := true) [] trivial (fun hgd => have g7_9 : (65 : Int) ≤ (byteE s ((i : Nat) : Int)) := (by simpa using hgd); (.move rfl)) ?_
      refine VO.cg (r := decide ((65 : Int) ≤ (byteE s ((i : Nat) : Int)))) (w := true) [(32, .v (.int .u8) (byteE s ((i : Nat) : Int)))] ⟨rfl, trivial⟩ (fun hgd => have g7_9 : (65 : Int) ≤ (byteE s ((i : Nat) : Int)) := (by simpa using hgd); (.leq)) ?_
      refine VO.c (.and) ?_
      refine VO.c (.pickF rfl rfl) ?_
      refine VO.nil ?_
      exact ⟨⟨rfl, rfl, rfl, slE rfl (by rw [Bool.eq_iff_iff]; simp [letterB] <;> omega), trivial⟩, rfl⟩
    refine VC.condB rfl (fun c7 => ?_) (fun c7 => ?_)
    · have hok : byteB (byteE s i) i = true := by rw [byteB, c7] <;> rfl
      refine VC.exit (VC.text ?_)
      refine VO.c (.move rfl) ?_
      refine VO.c (.add rfl rfl (by omega)) ?_
      refine VO.c (.assign rfl) ?_
      refine VO.nil ?_
      refine ⟨_, [(0, St s), (3, I (((i + 1) : Nat) : Int))], ?_, ⟨rfl, rfl, trivial⟩, (i + 1), rfl, rfl, rfl, (by omega), (by intro k hk; rcases Nat.lt_succ_iff_lt_or_eq.1 hk with h | h; exact hq k h; subst h; exact hok)⟩
      omega
    refine VC.skip (VC.seq ?_)
    refine VC.join [(0, St s), (3, I ((i : Nat) : Int)), (49, B (!(decide (i ≠ 0) && otherB (byteE s i))))] [] ?_ ?_
    · skip
      refine VC.text ?_
      refine VO.c (.move rfl) ?_
      refine VO.c (.eql) ?_
      refine VO.c (.move rfl) ?_
      refine VO.splitD (x := 38) rfl (fun g8_2 => ?_) (fun g8_2 => ?_)
      · refine VO.skip ?_
        refine VO.skip ?_
        refine VO.skip ?_
        refine VO.skip ?_
        refine VO.skip ?_
        refine VO.skip ?_
        refine VO.skip ?_
        refine VO.skip ?_
        refine VO.skip ?_
        refine VO.skip ?_
        refine VO.c (.pickT rfl rfl) ?_
        refine VO.nil ?_
        exact ⟨⟨rfl, rfl, slE rfl (by rw [Bool.eq_iff_iff]; simp [otherB] <;> omega), trivial⟩, rfl⟩
      refine VO.c (.move rfl) ?_
      refine VO.c (.neq) ?_
      refine VO.c (.move rfl) ?_
      refine VO.splitD (x := 41) rfl (fun g8_5 => ?_) (fun g8_5 => ?_)
      · refine VO.c (.move rfl) ?_
        refine VO.c (.lss) ?_
        refine VO.c (.move rfl) ?_
        refine VO.cg (r := decide ((byteE s ((i : Nat) : Int)) < (48 : Int))) (w := false) [] trivial (fun hgd => have g8_8 : ¬ ((byteE s ((i : Nat) : Int)) < (48 : Int)) := (by simpa using hgd); (.move rfl)) ?_
        refine VO.cg (r := decide ((byteE s ((i : Nat) : Int)) < (48 : Int))) (w := false) [(45, .v (.int .u8) (byteE s ((i : Nat) : Int)))] ⟨rfl, trivial⟩ (fun hgd => have g8_8 : ¬ ((byteE s ((i : Nat) : Int)) < (48 : Int)) := (by simpa using hgd); (.gtr)) ?_
        refine VO.c (.or) ?_
        refine VO.c (.pickT rfl rfl) ?_
        refine VO.c (.pickF rfl rfl) ?_
        refine VO.nil ?_
        exact ⟨⟨rfl, rfl, slE rfl (by rw [Bool.eq_iff_iff]; simp [otherB] <;> omega), trivial⟩, rfl⟩
      refine VO.skip ?_
      refine VO.skip ?_
      refine VO.skip ?_
      refine VO.skip ?_
      refine VO.skip ?_
      refine VO.skip ?_
      refine VO.c (.pickF rfl rfl) ?_
      refine VO.c (.pickF rfl rfl) ?_
      refine VO.nil ?_
      exact ⟨⟨rfl, rfl, slE rfl (by rw [Bool.eq_iff_iff]; simp [otherB] <;> omega), trivial⟩, rfl⟩
    refine VC.condB rfl (fun c8 => ?_) (fun c8 => ?_)
    · try simp only [Bool.and_eq_true, Bool.or_eq_true, Bool.and_eq_false_iff, Bool.or_eq_false_iff, Bool.not_eq_true', Bool.not_eq_false', decide_eq_true_eq, decide_eq_false_iff_not] at c8
      refine VC.seq (VC.text ?_)
      refine VO.c (.assign rfl) ?_
      refine VO.go ?_
      refine VC.ret ?_
      exact VEnd.one rfl evT (pvE (by exact nameB_f (i := i) (by omega) (by simp only [byteB, c7, Bool.false_or, Bool.and_eq_false_iff, decide_eq_false_iff_not]; exact c8)))
    try simp only [Bool.and_eq_true, Bool.or_eq_true, Bool.and_eq_false_iff, Bool.or_eq_false_iff, Bool.not_eq_true', Bool.not_eq_false', decide_eq_true_eq, decide_eq_false_iff_not] at c8
    have hok : byteB (byteE s i) i = true := by simp [byteB, *]
    refine VC.skip (VC.text ?_)
    refine VO.c (.move rfl) ?_
    refine VO.c (.add rfl rfl (by omega)) ?_
    refine VO.c (.assign rfl) ?_
    refine VO.nil ?_
    refine ⟨_, [(0, St s), (3, I (((i + 1) : Nat) : Int))], ?_, ⟨rfl, rfl, trivial⟩, (i + 1), rfl, rfl, rfl, (by omega), (by intro k hk; rcases Nat.lt_succ_iff_lt_or_eq.1 hk with h | h; exact hq k h; subst h; exact hok)⟩
    omega
  refine VC.exit (VC.seq (VC.text ?_))
  refine VO.c (.assign rfl) ?_
  refine VO.go ?_
  refine VC.ret ?_
  exact VEnd.one rfl evT (pvE (by exact nameB_t (by omega) (by omega) (fun k hk => hq k (by omega))))
theorem rNameE_ok {s : ByteArray} : VF Tryz.prog OA 91 [St s] (I (whenE (!nameB s) 8)) := by
  refine VF.enter Tryz.func91 rfl (fun _ _ => rfl) rfl ?_
  show VC _ _ _ _ _ [(0, St s)] [] _
  refine VC.seq (VC.text ?_)
  refine VO.c (.assign rfl) ?_
  refine VO.go (VC.seq (VC.seq (VC.text ?_)))
  refine VO.c (.move rfl) ?_
  refine VO.call rfl rfl (VF.call (rName_ok )) ?_
  refine VO.c (.not) ?_
  refine VO.go ?_
  refine VC.condB rfl (fun c1 => ?_) (fun c1 => ?_)
  · try simp only [Bool.and_eq_true, Bool.or_eq_true, Bool.and_eq_false_iff, Bool.or_eq_false_iff, Bool.not_eq_true', Bool.not_eq_false', decide_eq_true_eq, decide_eq_false_iff_not] at c1
    refine VC.seq (VC.text ?_)
    refine VO.c (.assign rfl) ?_
    refine VO.go ?_
    refine VC.ret ?_
    exact VEnd.one rfl evT (pvI (by simp [whenE, *]))
  try simp only [Bool.and_eq_true, Bool.or_eq_true, Bool.and_eq_false_iff, Bool.or_eq_false_iff, Bool.not_eq_true', Bool.not_eq_false', decide_eq_true_eq, decide_eq_false_iff_not] at c1
  refine VC.skip (VC.seq (VC.text ?_))
  refine VO.c (.assign rfl) ?_
  refine VO.go ?_
  refine VC.ret ?_
  exact VEnd.one rfl evT (pvI (by simp [whenE, *]))
end Go.Proofs
namespace Go.Proofs
open Go.Fs
set_option linter.unusedVariables false
abbrev y29 : Ty := (.pair (.int .i64) (.int .i64))
theorem vt9 : ValT Tryz.prog 9 .str := valT_of (by kernel_rfl)
theorem vt29 : ValT Tryz.prog 29 y29 := valT_of (by kernel_rfl)
theorem el27 : ElT Tryz.prog 27 9 .str := elT_of (by kernel_rfl)
theorem gWhen_ok {c : Bool} {e : Int} : VF Tryz.prog OA 189 [B c, I e] (I (whenE c e)) := by
  refine VF.enter Tryz.func189 rfl (fun _ _ => rfl) rfl ?_
  show VC _ _ _ _ _ [(0, B c), (1, I e)] [] _
  refine VC.seq (VC.text ?_)
  refine VO.c (.assign rfl) ?_
  refine VO.go (VC.seq (VC.seq (VC.text ?_)))
  refine VO.c (.move rfl) ?_
  refine VO.go ?_
  refine VC.condB rfl (fun c1 => ?_) (fun c1 => ?_)
  · subst c1
    refine VC.seq (VC.text ?_)
    refine VO.c (.move rfl) ?_
    refine VO.c (.assign rfl) ?_
    refine VO.go ?_
    refine VC.ret ?_
    exact VEnd.one rfl evT (pvI (by rfl))
  subst c1
  refine VC.skip (VC.seq (VC.text ?_))
  refine VO.c (.assign rfl) ?_
  refine VO.go ?_
  refine VC.ret ?_
  exact VEnd.one rfl evT (pvI (by rfl))
def spanE (p : Int × Int) : Int := if p.1 < 0 ∨ p.2 ≤ p.1 ∨ 100000 < p.2 then 14 else 0
theorem whenE_span {p : Int × Int} : whenE (decide (p.1 < 0) || decide (p.2 ≤ p.1) || decide (100000 < p.2)) 14 = spanE p := by
  unfold whenE spanE
  by_cases h1 : p.1 < 0 <;> by_cases h2 : p.2 ≤ p.1 <;> by_cases h3 : 100000 < p.2 <;> simp [h1, h2, h3]
theorem gSpan_ok {p : Int × Int} : VF Tryz.prog OA 154 [.v y29 p] (I (spanE p)) := by
  refine VF.enter Tryz.func154 rfl (fun _ _ => rfl) rfl ?_
  show VC _ _ _ _ _ [(0, .v y29 p)] [] _
  refine VC.seq (VC.text ?_)
  refine VO.new (.box) ?_
  refine VO.c (.assign rfl) ?_
  refine VO.go (VC.seq (VC.text ?_))
  refine VO.c (.fa (.l .o)) ?_
  refine VO.r (.ld vt3) ?_
  refine VO.c (.lss) ?_
  refine VO.c (.move rfl) ?_
  refine VO.cg (r := decide (p.1 < (0 : Int))) (w := false) [] trivial (fun hgd => have g1_3 : ¬ (p.1 < (0 : Int)) := (by simpa using hgd); (.fa (.l .o))) ?_
  refine VO.rg (r := decide (p.1 < (0 : Int))) (w := false) [(7, .p (.int .i64) p.1)] ⟨rfl, trivial⟩ (fun hgd => have g1_3 : ¬ (p.1 < (0 : Int)) := (by simpa using hgd); (.ld vt3)) ?_
  refine VO.cg (r := decide (p.1 < (0 : Int))) (w := false) [] trivial (fun hgd => have g1_3 : ¬ (p.1 < (0 : Int)) := (by simpa using hgd); (.fa (.r .o))) ?_
  refine VO.rg (r := decide (p.1 < (0 : Int))) (w := false) [(9, .p (.int .i64) p.2)] ⟨rfl, trivial⟩ (fun hgd => have g1_3 : ¬ (p.1 < (0 : Int)) := (by simpa using hgd); (.ld vt3)) ?_
  refine VO.cg (r := decide (p.1 < (0 : Int))) (w := false) [(8, I p.1), (10, I p.2)] ⟨rfl, rfl, trivial⟩ (fun hgd => have g1_3 : ¬ (p.1 < (0 : Int)) := (by simpa using hgd); (.geq)) ?_
  refine VO.c (.or) ?_
  refine VO.c (.move rfl) ?_
  refine VO.cg (r := ((decide (p.1 < (0 : Int))) || (decide (p.2 ≤ p.1)))) (w := false) [] trivial (fun hgd => have g1_10 : ((decide (p.1 < (0 : Int))) || (decide (p.2 ≤ p.1))) = false := (by simpa using hgd); (.fa (.r .o))) ?_
  refine VO.rg (r := ((decide (p.1 < (0 : Int))) || (decide (p.2 ≤ p.1)))) (w := false) [(14, .p (.int .i64) p.2)] ⟨rfl, trivial⟩ (fun hgd => have g1_10 : ((decide (p.1 < (0 : Int))) || (decide (p.2 ≤ p.1))) = false := (by simpa using hgd); (.ld vt3)) ?_
  refine VO.cg (r := ((decide (p.1 < (0 : Int))) || (decide (p.2 ≤ p.1)))) (w := false) [(15, I p.2)] ⟨rfl, trivial⟩ (fun hgd => have g1_10 : ((decide (p.1 < (0 : Int))) || (decide (p.2 ≤ p.1))) = false := (by simpa using hgd); (.gtr)) ?_
  refine VO.c (.or) ?_
  refine VO.call rfl rfl (VF.call (gWhen_ok )) ?_
  refine VO.c (.assign rfl) ?_
  refine VO.go ?_
  refine VC.ret ?_
  exact VEnd.one rfl evT (pvI (by exact whenE_span))
theorem sSpan_ok {p : Int × Int} : VF Tryz.prog OA 97 [.v y29 p] (I (spanE p)) := by
  refine VF.enter Tryz.func97 rfl (fun _ _ => rfl) rfl ?_
  show VC _ _ _ _ _ [(0, .v y29 p)] [] _
  refine VC.seq (VC.text ?_)
  refine VO.new (.box) ?_
  refine VO.c (.assign rfl) ?_
  refine VO.go (VC.seq (VC.text ?_))
  refine VO.r (.ld vt29) ?_
  refine VO.call rfl rfl (VF.call (gSpan_ok )) ?_
  refine VO.c (.neq) ?_
  refine VO.call rfl rfl (VF.call (sWhen_ok )) ?_
  refine VO.c (.assign rfl) ?_
  refine VO.go ?_
  refine VC.ret ?_
  exact VEnd.one rfl evT (pvI (by unfold whenE spanE; split <;> simp))
theorem rSpan_ok {p : Int × Int} : VF Tryz.prog OA 82 [.v y29 p] (I (spanE p)) := by
  refine VF.enter Tryz.func82 rfl (fun _ _ => rfl) rfl ?_
  show VC _ _ _ _ _ [(0, .v y29 p)] [] _
  refine VC.seq (VC.text ?_)
  refine VO.new (.box) ?_
  refine VO.c (.assign rfl) ?_
  refine VO.go (VC.seq (VC.seq (VC.text ?_)))
  refine VO.c (.fa (.l .o)) ?_
  refine VO.r (.ld vt3) ?_
  refine VO.c (.lss) ?_
  refine VO.c (.move rfl) ?_
  refine VO.cg (r := decide (p.1 < (0 : Int))) (w := false) [] trivial (fun hgd => have g1_3 : ¬ (p.1 < (0 : Int)) := (by simpa using hgd); (.fa (.r .o))) ?_
  refine VO.rg (r := decide (p.1 < (0 : Int))) (w := false) [(7, .p (.int .i64) p.2)] ⟨rfl, trivial⟩ (fun hgd => have g1_3 : ¬ (p.1 < (0 : Int)) := (by simpa using hgd); (.ld vt3)) ?_
  refine VO.cg (r := decide (p.1 < (0 : Int))) (w := false) [] trivial (fun hgd => have g1_3 : ¬ (p.1 < (0 : Int)) := (by simpa using hgd); (.fa (.l .o))) ?_
  refine VO.rg (r := decide (p.1 < (0 : Int))) (w := false) [(9, .p (.int .i64) p.1)] ⟨rfl, trivial⟩ (fun hgd => have g1_3 : ¬ (p.1 < (0 : Int)) := (by simpa using hgd); (.ld vt3)) ?_
  refine VO.cg (r := decide (p.1 < (0 : Int))) (w := false) [(8, I p.2), (10, I p.1)] ⟨rfl, rfl, trivial⟩ (fun hgd => have g1_3 : ¬ (p.1 < (0 : Int)) := (by simpa using hgd); (.leq)) ?_
  refine VO.c (.or) ?_
  refine VO.c (.move rfl) ?_
  refine VO.cg (r := ((decide (p.1 < (0 : Int))) || (decide (p.2 ≤ p.1)))) (w := false) [] trivial (fun hgd => have g1_10 : ((decide (p.1 < (0 : Int))) || (decide (p.2 ≤ p.1))) = false := (by simpa using hgd); (.fa (.r .o))) ?_
  refine VO.rg (r := ((decide (p.1 < (0 : Int))) || (decide (p.2 ≤ p.1)))) (w := false) [(14, .p (.int .i64) p.2)] ⟨rfl, trivial⟩ (fun hgd => have g1_10 : ((decide (p.1 < (0 : Int))) || (decide (p.2 ≤ p.1))) = false := (by simpa using hgd); (.ld vt3)) ?_
  refine VO.cg (r := ((decide (p.1 < (0 : Int))) || (decide (p.2 ≤ p.1)))) (w := false) [(15, I p.2)] ⟨rfl, trivial⟩ (fun hgd => have g1_10 : ((decide (p.1 < (0 : Int))) || (decide (p.2 ≤ p.1))) = false := (by simpa using hgd); (.gtr)) ?_
  refine VO.c (.or) ?_
  refine VO.go ?_
  refine VC.condB rfl (fun c1 => ?_) (fun c1 => ?_)
  · try simp only [Bool.and_eq_true, Bool.or_eq_true, Bool.and_eq_false_iff, Bool.or_eq_false_iff, Bool.not_eq_true', Bool.not_eq_false', decide_eq_true_eq, decide_eq_false_iff_not] at c1
    refine VC.seq (VC.text ?_)
    refine VO.c (.assign rfl) ?_
    refine VO.go ?_
    refine VC.ret ?_
    exact VEnd.one rfl evT (pvI (by simp only [spanE, ← Bool.decide_or, decide_eq_true_eq, decide_eq_false_iff_not, Bool.or_eq_true, Bool.or_eq_false_iff] at *; first | rw [if_pos (by omega)] | rw [if_neg (by omega)]))
  try simp only [Bool.and_eq_true, Bool.or_eq_true, Bool.and_eq_false_iff, Bool.or_eq_false_iff, Bool.not_eq_true', Bool.not_eq_false', decide_eq_true_eq, decide_eq_false_iff_not] at c1
  refine VC.skip (VC.seq (VC.text ?_))
  refine VO.c (.assign rfl) ?_
  refine VO.go ?_
  refine VC.ret ?_
  exact VEnd.one rfl evT (pvI (by simp only [spanE, ← Bool.decide_or, decide_eq_true_eq, decide_eq_false_iff_not, Bool.or_eq_true, Bool.or_eq_false_iff] at *; first | rw [if_pos (by omega)] | rw [if_neg (by omega)]))
theorem sNm_ok {s : ByteArray} : VF Tryz.prog OA 93 [St s] (I (whenE (!nameB s) 8)) := by
  refine VF.enter Tryz.func93 rfl (fun _ _ => rfl) rfl ?_
  show VC _ _ _ _ _ [(0, St s)] [] _
  refine VC.seq (VC.text ?_)
  refine VO.c (.assign rfl) ?_
  refine VO.go (VC.seq (VC.text ?_))
  refine VO.c (.move rfl) ?_
  refine VO.call rfl rfl (VF.call (gName_ok )) ?_
  refine VO.c (.not) ?_
  refine VO.call rfl rfl (VF.call (sWhen_ok )) ?_
  refine VO.c (.assign rfl) ?_
  refine VO.go ?_
  refine VC.ret ?_
  exact VEnd.one rfl evT (pvI (by rfl))
def wst {α β : Type} (e : β → α → Int) (nx : β → α → β) : β → List α → Int × β
  | s, [] => (0, s)
  | s, x :: r => if e s x = 0 then wst e nx (nx s x) r else (e s x, nx s x)
theorem wst_drop {α β : Type} {e : β → α → Int} {nx : β → α → β} {s : β} {l : List α} {j : Nat} (hj : j < l.length) : wst e nx s (l.drop j) = if e s l[j] = 0 then wst e nx (nx s l[j]) (l.drop (j + 1)) else (e s l[j], nx s l[j]) := by
  rw [List.drop_eq_getElem_cons hj] <;> rfl
theorem wst_end {α β : Type} {e : β → α → Int} {nx : β → α → β} {s : β} {l : List α} {j : Nat} (hj : l.length ≤ j) : wst e nx s (l.drop j) = (0, s) := by rw [List.drop_eq_nil_of_le hj] <;> rfl
theorem sWorstG {l : List ByteArray} {f : PV} {β : Type} {e : β → ByteArray → Int} {nx : β → ByteArray → β} {γ : β → Sto} {s0 : β} (hl : l.length < 1000000) (hown : ∀ s, own (γ s) = own (γ s0)) (hflat : ∀ s, ((γ s).all fun c => c.2.flat) = true)
    (hf : ∀ s x, VCallG Tryz.prog OA f [.v .str x] (γ s) (fun r g => r = I (e s x) ∧ g = γ (nx s x))) : VFG Tryz.prog OA 96 [.v (.sl .str) l, f] (γ s0) (fun r g => r = I (wst e nx s0 l).1 ∧ g = γ (wst e nx s0 l).2) := by
  refine VFG.enter Tryz.func96 rfl (fun _ _ => rfl) rfl ?_
  show VC _ _ _ _ _ [(0, .v (.sl .str) l), (1, f)] _ _
  refine VC.seq (VC.text ?_)
  refine VO.c (.assign rfl) ?_
  refine VO.go (VC.seq (VC.seq (VC.text ?_)))
  refine VO.c (.move rfl) ?_
  refine VO.r (.len el27) ?_
  refine VO.c (.move rfl) ?_
  refine VO.go (VC.block ?_)
  refine VC.keep [(1, f), (8, .v (.sl .str) l), (9, I ((l.length : Nat) : Int)), (10, I ((0 : Nat) : Int))] ⟨rfl, rfl, rfl, rfl, trivial⟩ ?_
  refine VC.loop (I := fun kk ff ss => ∃ (j : Nat) (s : β), kk = l.length - j ∧ ff = [(1, f), (8, .v (.sl .str) l), (9, I ((l.length : Nat) : Int)), (10, I ((j : Nat) : Int))] ∧ ss = γ s ∧ (j ≤ l.length) ∧ (wst e nx s0 l = wst e nx s (l.drop j))) ?_ _ _ _ ⟨0, s0, rfl, rfl, rfl, Nat.zero_le _, rfl⟩
  rintro kk ff ss ⟨j, s, hk0, rfl, rfl, hj, hw⟩
  refine VC.seq (VC.text ?_)
  refine VO.c (.lss) ?_
  refine VO.go (VC.seq ?_)
  refine VC.condD rfl (fun c2 => ?_) (fun c2 => ?_)
  · refine VC.skip (VC.seq (VC.block (VC.seq (VC.text ?_))))
    refine VO.c (.ix (j := j) rfl rfl el27 (by omega)) ?_
    refine VO.r (.ld vt9) ?_
    refine VO.c (.assign rfl) ?_
    refine VO.go (VC.seq (VC.text ?_))
    refine VO.c (.move rfl) ?_
    refine VO.c (.move rfl) ?_
    refine VO.callG (γ s) (List.append_nil _) rfl rfl (hf s _) ?_
    rintro r g ⟨rfl, rfl⟩
    rw [List.append_nil]
    refine VO.c (.assign rfl) ?_
    refine VO.go (VC.seq (VC.text ?_))
    refine VO.c (.move rfl) ?_
    refine VO.c (.neq) ?_
    refine VO.go ?_
    rw [wst_drop (by omega)] at hw
    refine VC.condD rfl (fun c5 => ?_) (fun c5 => ?_)
    · rw [if_neg c5] at hw
      refine VC.seq (VC.text ?_)
      refine VO.c (.move rfl) ?_
      refine VO.c (.assign rfl) ?_
      refine VO.go ?_
      refine VC.ret ?_
      refine VEndG.one (P := Tryz.prog) (fn := Tryz.f96) (γ := γ s0) (Q := fun r g => r = I (wst e nx s0 l).1 ∧ g = γ (wst e nx s0 l).2) rfl evT ?_ (hown _) (hflat _)
      exact ⟨by rw [hw], by rw [hw]⟩
    rw [if_pos (by simpa using c5)] at hw
    refine VC.skip (VC.text ?_)
    refine VO.c (.add rfl rfl (by omega)) ?_
    refine VO.c (.move rfl) ?_
    refine VO.nil ?_
    refine ⟨_, [(1, f), (8, .v (.sl .str) l), (9, I ((l.length : Nat) : Int)), (10, I (((j + 1) : Nat) : Int))], ?_, ⟨rfl, rfl, rfl, rfl, trivial⟩, (j + 1), _, rfl, rfl, rfl, (by omega), hw⟩
    omega
  rw [wst_end (by omega)] at hw
  refine VC.exit (VC.seq (VC.text ?_))
  refine VO.c (.assign rfl) ?_
  refine VO.go ?_
  refine VC.ret ?_
  refine VEndG.one (P := Tryz.prog) (fn := Tryz.f96) (γ := γ s0) (Q := fun r g => r = I (wst e nx s0 l).1 ∧ g = γ (wst e nx s0 l).2) rfl evT ?_ (hown _) (hflat _)
  exact ⟨by rw [hw], by rw [hw]⟩
end Go.Proofs
namespace Go.Proofs
open Go.Fs
set_option linter.unusedVariables false
abbrev y31 : Ty := (.pair .str (.pair .str (.pair .str (.pair (.sl .str) (.pair (.int .i64) (.int .i64))))))
abbrev y35 : Ty := (.pair .str (.pair .str (.pair .str (.pair (.sl .str) (.pair (.int .i64) (.int .i64))))))
theorem vt27 : ValT Tryz.prog 27 (.sl .str) := valT_of (by kernel_rfl)
theorem zt9 : ZerT Tryz.prog 9 .str := zerT_of (z := .string ByteArray.empty) (by kernel_rfl) rfl rfl
def lockE (last s : ByteArray) : Int := firstE [whenE (!nameB s) 8, whenE (!ltS last s) 11]
theorem sLock_ok {s : ByteArray} {w_last : Value} {last : ByteArray} : VFG Tryz.prog OA 95 [St s, .raw w_last] [(w_last, .var [St last])] (fun r g => r = I (lockE last s) ∧ g = [(w_last, .var [St s])]) := by
  refine VFG.enter Tryz.func95 rfl (fun _ _ => rfl) rfl ?_
  show VC _ _ _ _ _ [(0, St s), (1, .raw w_last)] [(w_last, .var [St last])] _
  refine VC.seq (VC.text ?_)
  refine VO.c (.assign rfl) ?_
  refine VO.go (VC.seq (VC.drawn ?_))
  refine VD.c (.move rfl) ?_
  refine VD.call rfl rfl (VF.call (sNm_ok )) ?_
  refine VD.c (.move rfl) ?_
  refine VD.r [(w_last, .var [St last])] (.ldV m0 vt9) (.inr ⟨rfl, rfl⟩) ?_
  refine VD.c (.sleq) ?_
  refine VD.call rfl rfl (VF.call (sWhen_ok )) ?_
  refine VD.nw [] ?_
  refine VD.new (.lit [whenE (!nameB s) 8, whenE (!ltS last s) (11 : Int)] el204) ?_
  refine VD.callO rfl rfl (VF.call (sFirst_ok (by simp))) ?_
  refine VD.c (.assign rfl) ?_
  refine VD.go (VC.seq (VC.text ?_))
  refine VO.c (.move rfl) ?_
  refine VO.setV (cs' := [St s]) vt9 .v ?_
  refine VO.go (VC.seq (VC.text ?_))
  refine VO.c (.move rfl) ?_
  refine VO.c (.assign rfl) ?_
  refine VO.go ?_
  refine VC.ret ?_
  refine VEndG.one (P := Tryz.prog) (fn := Tryz.f95) (γ := [(w_last, .var [St last])]) (Q := fun r g => r = I (lockE last s) ∧ g = [(w_last, .var [St s])]) rfl evT ?_ rfl rfl
  exact ⟨pvI (by rfl), by rfl⟩
def locksE (last : ByteArray) (l : List ByteArray) : Int := (wst lockE (fun _ s => s) last l).1
def permE (p : ByteArray × ByteArray × ByteArray × List ByteArray × Int × Int) : Int :=
  firstE [whenE (!nameB p.1) 8, whenE (!nameB p.2.1) 8, whenE (!nameB p.2.2.1) 8, whenE (decide (8 < (p.2.2.2.1.length : Int))) 5, locksE ByteArray.empty p.2.2.2.1, spanE p.2.2.2.2]
theorem firstE_app : ∀ xs ys : List Int, firstE (xs ++ ys) = if firstE xs = 0 then firstE ys else firstE xs
  | [], ys => by simp [firstE]
  | x :: xs, ys => by
    have e1 : firstE (x :: xs ++ ys) = if x = 0 then firstE (xs ++ ys) else x := rfl
    have e2 : firstE (x :: xs) = if x = 0 then firstE xs else x := rfl
    by_cases h : x = 0
    · rw [if_pos h] at e1 e2
      rw [e1, e2]
      exact firstE_app xs ys
    rw [if_neg h] at e1 e2
    rw [e1, e2, if_neg h]
variable {p : ByteArray × ByteArray × ByteArray × List ByteArray × Int × Int}
theorem firstE_one {x : Int} : firstE [x] = x := by
  simp only [firstE]
  by_cases h : x = 0 <;> simp [h]
theorem firstE_two {x y : Int} : firstE [x, y] = if x = 0 then y else x := by
  show (if x = 0 then firstE [y] else x) = _
  rw [firstE_one]
theorem permE_s {a b c d : Int} (ha : a = whenE (!nameB p.1) 8) (hb : b = whenE (!nameB p.2.1) 8) (hc : c = whenE (!nameB p.2.2.1) 8) (hd : d = whenE (decide (8 < (p.2.2.2.1.length : Int))) 5) :
    permE p = if firstE [a, b, c, d] = 0 then (if locksE ByteArray.empty p.2.2.2.1 = 0 then spanE p.2.2.2.2 else locksE ByteArray.empty p.2.2.2.1) else firstE [a, b, c, d] := by
  subst ha hb hc hd
  show firstE ([_, _, _, _] ++ [_, _]) = _
  rw [firstE_app, firstE_two]
theorem permE_r {a b c : Int} (ha : a = whenE (!nameB p.1) 8) (hb : b = whenE (!nameB p.2.1) 8) (hc : c = whenE (!nameB p.2.2.1) 8) :
    permE p = if firstE [a, b, c] = 0 then (if 8 < (p.2.2.2.1.length : Int) then 5 else if locksE ByteArray.empty p.2.2.2.1 = 0 then spanE p.2.2.2.2 else locksE ByteArray.empty p.2.2.2.1) else firstE [a, b, c] := by
  rw [permE_s ha hb hc rfl, show firstE [a, b, c, whenE (decide (8 < (p.2.2.2.1.length : Int))) 5] = firstE ([a, b, c] ++ [whenE (decide (8 < (p.2.2.2.1.length : Int))) 5]) from rfl, firstE_app, firstE_one]
  generalize firstE [a, b, c] = F
  by_cases h1 : F = 0 <;> by_cases h2 : 8 < (p.2.2.2.1.length : Int) <;> simp [h1, h2, whenE]
def prevL (l : List ByteArray) (i : Nat) : ByteArray := if i = 0 then ByteArray.empty else l.getD (i - 1) ByteArray.empty
theorem prevL_succ {l : List ByteArray} {i : Nat} (hi : i < l.length) : prevL l (i + 1) = l[i] := by simp [prevL, hi]
theorem prevL_pos {l : List ByteArray} {i : Nat} (h0 : i ≠ 0) (hi : i - 1 < l.length) : prevL l i = l[i - 1] := by simp [prevL, h0, hi]
theorem prevL_int {l : List ByteArray} {i : Nat} (h0 : 0 < (i : Int)) (h : ((i : Int) - 1).toNat < l.length) : prevL l i = l[((i : Int) - 1).toNat] := by
  rw [prevL_pos (by omega) (by omega)]
  simp only [show ((i : Int) - 1).toNat = i - 1 by omega]
theorem locksE_drop {last : ByteArray} {l : List ByteArray} {i : Nat} (hi : i < l.length) : locksE last (l.drop i) = if lockE last l[i] = 0 then locksE l[i] (l.drop (i + 1)) else lockE last l[i] := by
  unfold locksE
  rw [wst_drop hi]
  by_cases h : lockE last l[i] = 0 <;> simp [h]
theorem locksE_end {last : ByteArray} {l : List ByteArray} {i : Nat} (hi : l.length ≤ i) : locksE last (l.drop i) = 0 := by
  unfold locksE
  rw [wst_end hi]
theorem lockE_name {last s : ByteArray} (h : nameB s = false) : lockE last s = 8 := by simp [lockE, h, whenE, firstE]
theorem lockE_ord {last s : ByteArray} (h : nameB s = true) : lockE last s = if ltS last s = true then 0 else 11 := by
  cases h2 : ltS last s <;> simp [lockE, h, h2, whenE, firstE]
theorem nameB_size {s : ByteArray} (h : nameB s = true) : s.size ≠ 0 := (of_decide_eq_true h).1
theorem nameE_name {s : ByteArray} (h : whenE (!nameB s) 8 ≠ 0) : nameB s = false := by
  cases h2 : nameB s with
  | false => rfl
  | true => rw [h2] at h; exact absurd rfl h
theorem nameE_ok {s : ByteArray} (h : whenE (!nameB s) 8 = 0) : nameB s = true := by
  cases h2 : nameB s with
  | true => rfl
  | false => rw [h2] at h; cases h
theorem sPermit_ok {p : ByteArray × ByteArray × ByteArray × (List ByteArray) × (Int × Int)} (hl : p.2.2.2.1.length < 1000000) : VF Tryz.prog OA 22 [.v y35 p] (I (permE p)) := by
  refine VF.enter Tryz.func22 rfl (fun _ _ => rfl) rfl ?_
  show VC _ _ _ _ _ [(0, .v y35 p)] [] _
  refine VC.seq (VC.text ?_)
  refine VO.new (.box) ?_
  refine VO.c (.assign rfl) ?_
  refine VO.go (VC.seq (VC.seq (VC.drawn ?_)))
  refine VD.c (.fa (.l .o)) ?_
  refine VD.r [] (.ld vt9) (.inl rfl) ?_
  refine VD.call rfl rfl (VF.call (sNm_ok )) ?_
  refine VD.c (.fa (.r (.l .o))) ?_
  refine VD.r [] (.ld vt9) (.inl rfl) ?_
  refine VD.call rfl rfl (VF.call (sNm_ok )) ?_
  refine VD.nw [] ?_
  refine VD.c (.fa (.r (.r (.l .o)))) ?_
  refine VD.r [] (.ld vt9) (.inl rfl) ?_
  refine VD.call rfl rfl (VF.call (sNm_ok )) ?_
  refine VD.c (.fa (.r (.r (.r (.l .o))))) ?_
  refine VD.r [] (.ld vt27) (.inl rfl) ?_
  refine VD.r [] (.len el27) (.inl rfl) ?_
  refine VD.c (.gtr) ?_
  refine VD.nw [] ?_
  refine VD.call rfl rfl (VF.call (sWhen_ok )) ?_
  refine VD.new (.lit [whenE (!nameB p.1) 8, whenE (!nameB p.2.1) 8, whenE (!nameB p.2.2.1) 8, whenE (decide ((8 : Int) < ((p.2.2.2.1.length : Nat) : Int))) (5 : Int)] el204) ?_
  refine VD.callO rfl rfl (VF.call (sFirst_ok (by simp))) ?_
  refine VD.c (.assign rfl) ?_
  refine VD.go (VC.seq (VC.text ?_))
  refine VO.c (.move rfl) ?_
  refine VO.c (.neq) ?_
  refine VO.go ?_
  refine VC.condD rfl (fun c2 => ?_) (fun c2 => ?_)
  · refine VC.seq (VC.text ?_)
    refine VO.c (.move rfl) ?_
    refine VO.c (.assign rfl) ?_
    refine VO.go ?_
    refine VC.ret ?_
    exact VEnd.one rfl evT (pvI (by rw [permE_s rfl rfl rfl rfl, if_neg c2]))
  refine VC.skip (VC.seq (VC.text ?_))
  refine VO.cell (.alloc zt9) ?_
  intro ww1
  refine VO.setV (cs' := [St ByteArray.empty]) vt9 .v ?_
  refine VO.go (VC.seq (VC.text ?_))
  refine VO.c (.func) ?_
  refine VO.c (.assign rfl) ?_
  refine VO.go (VC.seq (VC.seq (VC.text ?_)))
  refine VO.c (.fa (.r (.r (.r (.l .o))))) ?_
  refine VO.r (.ld vt27) ?_
  refine VO.c (.move rfl) ?_
  refine VO.callG [(ww1, .var [St ByteArray.empty])] rfl rfl rfl (VFG.call (sWorstG (e := lockE) (nx := fun _ s => s) (γ := fun s => [(ww1, .var [St s])]) (s0 := ByteArray.empty) hl (fun _ => rfl) (fun _ => rfl) (fun s x => VFG.clo sLock_ok))) ?_
  rintro _ _ ⟨rfl, rfl⟩
  show VO _ _ _ _ _ _ [(ww1, .var [St ((wst lockE (fun _ s => s) ByteArray.empty p.2.2.2.1).2)])] _
  refine VO.c (.assign rfl) ?_
  refine VO.go (VC.seq (VC.text ?_))
  refine VO.c (.move rfl) ?_
  refine VO.c (.neq) ?_
  refine VO.go ?_
  refine VC.condD rfl (fun c7 => ?_) (fun c7 => ?_)
  · refine VC.seq ?_
    refine VC.keep [(1, .p y35 p), (6, I (locksE ByteArray.empty p.2.2.2.1))] ⟨rfl, rfl, trivial⟩ ?_
    refine VC.text ?_
    refine VO.c (.move rfl) ?_
    refine VO.c (.assign rfl) ?_
    refine VO.go ?_
    refine VC.ret ?_
    exact VEnd.one rfl evT (pvI (by rw [permE_s rfl rfl rfl rfl, if_pos (by simpa using c2), if_neg (show locksE _ _ ≠ 0 from c7)]))
  refine VC.skip (VC.seq ?_)
  refine VC.keep [(1, .p y35 p)] ⟨rfl, trivial⟩ ?_
  refine VC.text ?_
  refine VO.c (.fa (.r (.r (.r (.r .o))))) ?_
  refine VO.r (.ld vt29) ?_
  refine VO.call rfl rfl (VF.call (sSpan_ok )) ?_
  refine VO.c (.assign rfl) ?_
  refine VO.go ?_
  refine VC.ret ?_
  exact VEnd.one rfl evT (pvI (by rw [permE_s rfl rfl rfl rfl, if_pos (by simpa using c2), if_pos (show locksE _ _ = 0 from Decidable.not_not.1 c7)]))
theorem rPermit_ok {p : ByteArray × ByteArray × ByteArray × (List ByteArray) × (Int × Int)} (hl : p.2.2.2.1.length < 1000000) : VF Tryz.prog OA 20 [.v y31 p] (I (permE p)) := by
  refine VF.enter Tryz.func20 rfl (fun _ _ => rfl) rfl ?_
  show VC _ _ _ _ _ [(0, .v y31 p)] [] _
  refine VC.seq (VC.text ?_)
  refine VO.new (.box) ?_
  refine VO.c (.assign rfl) ?_
  refine VO.go (VC.seq (VC.seq (VC.drawn ?_)))
  refine VD.c (.fa (.l .o)) ?_
  refine VD.r [] (.ld vt9) (.inl rfl) ?_
  refine VD.call rfl rfl (VF.call (rNameE_ok )) ?_
  refine VD.c (.fa (.r (.l .o))) ?_
  refine VD.r [] (.ld vt9) (.inl rfl) ?_
  refine VD.call rfl rfl (VF.call (rNameE_ok )) ?_
  refine VD.nw [] ?_
  refine VD.c (.fa (.r (.r (.l .o)))) ?_
  refine VD.r [] (.ld vt9) (.inl rfl) ?_
  refine VD.call rfl rfl (VF.call (rNameE_ok )) ?_
  refine VD.new (.lit [whenE (!nameB p.1) 8, whenE (!nameB p.2.1) 8, whenE (!nameB p.2.2.1) 8] el39) ?_
  refine VD.callO rfl rfl (VF.call (rFirst_ok (by simp))) ?_
  refine VD.c (.assign rfl) ?_
  refine VD.go (VC.seq (VC.text ?_))
  refine VO.c (.move rfl) ?_
  refine VO.c (.neq) ?_
  refine VO.go ?_
  refine VC.condD rfl (fun c2 => ?_) (fun c2 => ?_)
  · refine VC.seq (VC.text ?_)
    refine VO.c (.move rfl) ?_
    refine VO.c (.assign rfl) ?_
    refine VO.go ?_
    refine VC.ret ?_
    exact VEnd.one rfl evT (pvI (by rw [permE_r rfl rfl rfl, if_neg c2]))
  refine VC.skip (VC.seq (VC.seq (VC.text ?_)))
  refine VO.c (.fa (.r (.r (.r (.l .o))))) ?_
  refine VO.r (.ld vt27) ?_
  refine VO.r (.len el27) ?_
  refine VO.c (.gtr) ?_
  refine VO.go ?_
  refine VC.condD rfl (fun c4 => ?_) (fun c4 => ?_)
  · refine VC.seq (VC.text ?_)
    refine VO.c (.assign rfl) ?_
    refine VO.go ?_
    refine VC.ret ?_
    exact VEnd.one rfl evT (pvI (by rw [permE_r rfl rfl rfl, if_pos (by simpa using c2), if_pos c4]))
  have hp : permE p = if locksE ByteArray.empty p.2.2.2.1 = 0 then spanE p.2.2.2.2 else locksE ByteArray.empty p.2.2.2.1 := by rw [permE_r rfl rfl rfl, if_pos (by simpa using c2), if_neg c4]
  refine VC.skip (VC.seq (VC.seq (VC.text ?_)))
  refine VO.c (.assign rfl) ?_
  refine VO.go (VC.block ?_)
  refine VC.keep [(1, .p y31 p), (4, I ((0 : Nat) : Int))] ⟨rfl, rfl, trivial⟩ ?_
  refine VC.loop (I := fun kk ff ss => ∃ (i : Nat), kk = p.2.2.2.1.length - i ∧ ff = [(1, .p y31 p), (4, I ((i : Nat) : Int))] ∧ ss = [] ∧ (i ≤ p.2.2.2.1.length) ∧ (locksE ByteArray.empty p.2.2.2.1 = locksE (prevL p.2.2.2.1 i) (p.2.2.2.1.drop i))) ?_ _ _ _ ⟨0, rfl, rfl, rfl, Nat.zero_le _, (by rfl)⟩
  rintro kk ff ss ⟨i, hk0, rfl, rfl, hi, hq⟩
  refine VC.seq (VC.seq (VC.text ?_))
  refine VO.c (.move rfl) ?_
  refine VO.c (.fa (.r (.r (.r (.l .o))))) ?_
  refine VO.r (.ld vt27) ?_
  refine VO.r (.len el27) ?_
  refine VO.c (.lss) ?_
  refine VO.go ?_
  refine VC.condD rfl (fun c7 => ?_) (fun c7 => ?_)
  · refine VC.skip (VC.seq (VC.block (VC.seq (VC.seq (VC.text ?_)))))
    refine VO.c (.fa (.r (.r (.r (.l .o))))) ?_
    refine VO.r (.ld vt27) ?_
    refine VO.c (.move rfl) ?_
    refine VO.c (.ix (j := i) rfl rfl el27 (by omega)) ?_
    refine VO.r (.ld vt9) ?_
    refine VO.call rfl rfl (VF.call (rNameE_ok )) ?_
    refine VO.c (.assign rfl) ?_
    refine VO.go (VC.seq (VC.text ?_))
    refine VO.c (.move rfl) ?_
    refine VO.c (.neq) ?_
    refine VO.go ?_
    refine VC.condD rfl (fun c10 => ?_) (fun c10 => ?_)
    · have hv : locksE ByteArray.empty p.2.2.2.1 = 8 := by rw [hq, locksE_drop (by omega), lockE_name (nameE_name c10), if_neg (by decide)]
      refine VC.seq (VC.text ?_)
      refine VO.c (.move rfl) ?_
      refine VO.c (.assign rfl) ?_
      refine VO.go ?_
      refine VC.ret ?_
      exact VEnd.one rfl evT (pvI (by rw [hp, hv, if_neg (by decide)]; rw [nameE_name c10] <;> rfl))
    have hn := nameE_ok (by simpa using c10)
    refine VC.skip (VC.seq (VC.drawn ?_))
    refine VD.c (.move rfl) ?_
    refine VD.c (.gtr) ?_
    refine VD.c (.move rfl) ?_
    refine VD.splitD (x := 42) rfl (fun g12_2 => ?_) (fun g12_2 => ?_)
    · refine VD.c (.fa (.r (.r (.r (.l .o))))) ?_
      refine VD.r [] (.ld vt27) (.inl rfl) ?_
      refine VD.nw [] ?_
      refine VD.c (.move rfl) ?_
      refine VD.c (.ix (j := i) rfl rfl el27 (by omega)) ?_
      refine VD.r [] (.ld vt9) (.inl rfl) ?_
      refine VD.c (.fa (.r (.r (.r (.l .o))))) ?_
      refine VD.r [] (.ld vt27) (.inl rfl) ?_
      refine VD.c (.move rfl) ?_
      refine VD.c (.sub rfl rfl (by omega)) ?_
      refine VD.nw [] ?_
      refine VD.c (.ixZ (k := (((i : Nat) : Int) - (1 : Int))) rfl rfl el27 (by omega) (by omega)) ?_
      refine VD.r [] (.ld vt9) (.inl rfl) ?_
      refine VD.c (.sleq) ?_
      refine VD.c (.pickT rfl rfl) ?_
      refine VD.go ?_
      refine VC.condB rfl (fun c12 => ?_) (fun c12 => ?_)
      · try simp only [Bool.and_eq_true, Bool.or_eq_true, Bool.and_eq_false_iff, Bool.or_eq_false_iff, Bool.not_eq_true', Bool.not_eq_false', decide_eq_true_eq, decide_eq_false_iff_not] at c12
        refine VC.seq (VC.text ?_)
        refine VO.c (.assign rfl) ?_
        refine VO.go ?_
        refine VC.ret ?_
        exact VEnd.one rfl evT (pvI (by rw [hp, hq, locksE_drop (by omega), lockE_ord hn, prevL_int g12_2 (by omega), c12] <;> rfl))
      try simp only [Bool.and_eq_true, Bool.or_eq_true, Bool.and_eq_false_iff, Bool.or_eq_false_iff, Bool.not_eq_true', Bool.not_eq_false', decide_eq_true_eq, decide_eq_false_iff_not] at c12
      have hz : lockE (prevL p.2.2.2.1 i) p.2.2.2.1[i] = 0 := by rw [lockE_ord hn, prevL_int g12_2 (by omega), c12] <;> rfl
      refine VC.skip (VC.text ?_)
      refine VO.c (.move rfl) ?_
      refine VO.c (.add rfl rfl (by omega)) ?_
      refine VO.c (.assign rfl) ?_
      refine VO.nil ?_
      refine ⟨_, [(1, .p y31 p), (4, I (((i + 1) : Nat) : Int))], ?_, ⟨rfl, rfl, trivial⟩, (i + 1), rfl, rfl, rfl, (by omega), (by rw [hq, locksE_drop (by omega), if_pos hz, prevL_succ (by omega)])⟩
      omega
    have hz : lockE (prevL p.2.2.2.1 i) p.2.2.2.1[i] = 0 := by rw [lockE_ord hn, if_pos]; rw [show prevL p.2.2.2.1 i = ByteArray.empty from if_pos (by omega)]; exact ltS_full (nameB_size hn)
    refine VD.skip ?_
    refine VD.skip ?_
    refine VD.nw [] ?_
    refine VD.skip ?_
    refine VD.skip ?_
    refine VD.skip ?_
    refine VD.skip ?_
    refine VD.skip ?_
    refine VD.skip ?_
    refine VD.skip ?_
    refine VD.nw [] ?_
    refine VD.skip ?_
    refine VD.skip ?_
    refine VD.skip ?_
    refine VD.c (.pickF rfl rfl) ?_
    refine VD.go ?_
    refine VC.condF rfl ?_
    refine VC.skip (VC.text ?_)
    refine VO.c (.move rfl) ?_
    refine VO.c (.add rfl rfl (by omega)) ?_
    refine VO.c (.assign rfl) ?_
    refine VO.nil ?_
    refine ⟨_, [(1, .p y31 p), (4, I (((i + 1) : Nat) : Int))], ?_, ⟨rfl, rfl, trivial⟩, (i + 1), rfl, rfl, rfl, (by omega), (by rw [hq, locksE_drop (by omega), if_pos hz, prevL_succ (by omega)])⟩
    omega
  refine VC.exit (VC.seq (VC.text ?_))
  refine VO.c (.fa (.r (.r (.r (.r .o))))) ?_
  refine VO.r (.ld vt29) ?_
  refine VO.call rfl rfl (VF.call (rSpan_ok )) ?_
  refine VO.c (.assign rfl) ?_
  refine VO.go ?_
  refine VC.ret ?_
  exact VEnd.one rfl evT (pvI (by rw [hp, hq, locksE_end (by omega), if_pos rfl]))
end Go.Proofs
namespace Go.Proofs
open Go.Fs
set_option linter.unusedVariables false
abbrev y22 : Ty := (.sl (.pair .str (.pair .str (.pair .str (.pair (.sl .str) (.pair (.int .i64) (.int .i64)))))))
abbrev y43 : Ty := (.sl (.pair .str (.pair .str (.pair .str (.pair (.sl .str) (.pair (.int .i64) (.int .i64)))))))
theorem vt31 : ValT Tryz.prog 31 y31 := valT_of (by kernel_rfl)
theorem vt35 : ValT Tryz.prog 35 y35 := valT_of (by kernel_rfl)
theorem el22 : ElT Tryz.prog 22 31 y31 := elT_of (by kernel_rfl)
theorem el43 : ElT Tryz.prog 43 35 y35 := elT_of (by kernel_rfl)
theorem zt35 : ZerT Tryz.prog 35 y35 := zerT_of (z := .agg #[.string ByteArray.empty, .string ByteArray.empty, .string ByteArray.empty, .slice none 0 0, .int .i64 0, .int .i64 0]) (by kernel_rfl) rfl rfl
theorem worstE_drop {α : Type} {f : α → Int} {l : List α} {j : Nat} (hj : j < l.length) : firstE ((l.drop j).map f) = if f l[j] = 0 then firstE ((l.drop (j + 1)).map f) else f l[j] := by
  rw [List.drop_eq_getElem_cons hj] <;> rfl
theorem worstE_end {α : Type} {f : α → Int} {l : List α} {j : Nat} (hj : l.length ≤ j) : firstE ((l.drop j).map f) = 0 := by rw [List.drop_eq_nil_of_le hj] <;> rfl
theorem sWorstP_ok {F : ByteArray × ByteArray × ByteArray × List ByteArray × Int × Int → Int} {l : List (ByteArray × ByteArray × ByteArray × (List ByteArray) × (Int × Int))} {f : PV} (hl : l.length < 1000000) (hf : ∀ x ∈ l, VCall Tryz.prog OA f [.v y35 x] (I (F x))) : VF Tryz.prog OA 98 [.v y43 l, f] (I (firstE (l.map F))) := by
  refine VF.enter Tryz.func98 rfl (fun _ _ => rfl) rfl ?_
  show VC _ _ _ _ _ [(0, .v y43 l), (1, f)] [] _
  refine VC.seq (VC.text ?_)
  refine VO.c (.assign rfl) ?_
  refine VO.go (VC.seq (VC.seq (VC.text ?_)))
  refine VO.c (.move rfl) ?_
  refine VO.r (.len el43) ?_
  refine VO.c (.move rfl) ?_
  refine VO.go (VC.block ?_)
  refine VC.keep [(1, f), (8, .v y43 l), (9, I ((l.length : Nat) : Int)), (10, I ((0 : Nat) : Int))] ⟨rfl, rfl, rfl, rfl, trivial⟩ ?_
  refine VC.loop (I := fun kk ff ss => ∃ (j : Nat), kk = l.length - j ∧ ff = [(1, f), (8, .v y43 l), (9, I ((l.length : Nat) : Int)), (10, I ((j : Nat) : Int))] ∧ ss = [] ∧ (j ≤ l.length) ∧ (firstE (l.map F) = firstE ((l.drop j).map F))) ?_ _ _ _ ⟨0, rfl, rfl, rfl, Nat.zero_le _, (by rfl)⟩
  rintro kk ff ss ⟨j, hk0, rfl, rfl, hj, hw⟩
  refine VC.seq (VC.text ?_)
  refine VO.c (.lss) ?_
  refine VO.go (VC.seq ?_)
  refine VC.condD rfl (fun c2 => ?_) (fun c2 => ?_)
  · refine VC.skip (VC.seq (VC.block (VC.seq (VC.text ?_))))
    refine VO.c (.ix (j := j) rfl rfl el43 (by omega)) ?_
    refine VO.r (.ld vt35) ?_
    refine VO.cell (.alloc zt35) ?_
    intro ww1
    refine VO.setV (cs' := [St ((l[j]).1), St ((l[j]).2.1), St ((l[j]).2.2.1), .v (.sl .str) ((l[j]).2.2.2.1), I (((l[j]).2.2.2.2).1), I (((l[j]).2.2.2.2).2)]) vt35 .v ?_
    refine VO.shut [(6, .p y35 (l[j]))] (.cons rfl (.var m0 .refl) .nil) ?_
    refine VO.go (VC.seq (VC.text ?_))
    refine VO.c (.move rfl) ?_
    refine VO.r (.ld vt35) ?_
    refine VO.call rfl rfl ((hf _ (List.getElem_mem _)) ) ?_
    refine VO.c (.assign rfl) ?_
    refine VO.go (VC.seq (VC.text ?_))
    refine VO.c (.move rfl) ?_
    refine VO.c (.neq) ?_
    refine VO.go ?_
    refine VC.condD rfl (fun c5 => ?_) (fun c5 => ?_)
    · refine VC.seq (VC.text ?_)
      refine VO.c (.move rfl) ?_
      refine VO.c (.assign rfl) ?_
      refine VO.go ?_
      refine VC.ret ?_
      exact VEnd.one rfl evT (pvI (by rw [hw, worstE_drop (by omega), if_neg c5]))
    refine VC.skip (VC.text ?_)
    refine VO.c (.add rfl rfl (by omega)) ?_
    refine VO.c (.move rfl) ?_
    refine VO.nil ?_
    refine ⟨_, [(1, f), (8, .v y43 l), (9, I ((l.length : Nat) : Int)), (10, I (((j + 1) : Nat) : Int))], ?_, ⟨rfl, rfl, rfl, rfl, trivial⟩, (j + 1), rfl, rfl, rfl, (by omega), (by rw [hw, worstE_drop (by omega), if_pos (by simpa using c5)])⟩
    omega
  refine VC.exit (VC.seq (VC.text ?_))
  refine VO.c (.assign rfl) ?_
  refine VO.go ?_
  refine VC.ret ?_
  exact VEnd.one rfl evT (pvI (by rw [hw, worstE_end (by omega)]))
def PermOk (l : List (ByteArray × ByteArray × ByteArray × List ByteArray × Int × Int)) : Prop := ∀ p ∈ l, p.2.2.2.1.length < 1000000
def permsE (l : List (ByteArray × ByteArray × ByteArray × List ByteArray × Int × Int)) : Int := if 64 < (l.length : Int) then 5 else firstE (l.map permE)
theorem sPermits_ok {l : List (ByteArray × ByteArray × ByteArray × (List ByteArray) × (Int × Int))} (hl : l.length < 1000000) (hp : PermOk l) : VF Tryz.prog OA 23 [.v y43 l] (I (permsE l)) := by
  refine VF.enter Tryz.func23 rfl (fun _ _ => rfl) rfl ?_
  show VC _ _ _ _ _ [(0, .v y43 l)] [] _
  refine VC.seq (VC.text ?_)
  refine VO.c (.assign rfl) ?_
  refine VO.go (VC.seq (VC.seq (VC.text ?_)))
  refine VO.c (.move rfl) ?_
  refine VO.r (.len el43) ?_
  refine VO.c (.gtr) ?_
  refine VO.go ?_
  refine VC.condD rfl (fun c1 => ?_) (fun c1 => ?_)
  · refine VC.seq (VC.text ?_)
    refine VO.c (.assign rfl) ?_
    refine VO.go ?_
    refine VC.ret ?_
    exact VEnd.one rfl evT (pvI (by rw [permsE, if_pos c1]))
  refine VC.skip (VC.seq (VC.text ?_))
  refine VO.c (.move rfl) ?_
  refine VO.call rfl rfl (VF.call (sWorstP_ok (F := permE) hl (fun _ m => VF.call (sPermit_ok (hp _ m))))) ?_
  refine VO.c (.assign rfl) ?_
  refine VO.go ?_
  refine VC.ret ?_
  exact VEnd.one rfl evT (pvI (by rw [permsE, if_neg c1]))
theorem rPermits_ok {l : List (ByteArray × ByteArray × ByteArray × (List ByteArray) × (Int × Int))} (hl : l.length < 1000000) (hp : PermOk l) : VF Tryz.prog OA 25 [.v y22 l] (I (permsE l)) := by
  refine VF.enter Tryz.func25 rfl (fun _ _ => rfl) rfl ?_
  show VC _ _ _ _ _ [(0, .v y22 l)] [] _
  refine VC.seq (VC.text ?_)
  refine VO.c (.assign rfl) ?_
  refine VO.go (VC.seq (VC.seq (VC.text ?_)))
  refine VO.c (.move rfl) ?_
  refine VO.r (.len el22) ?_
  refine VO.c (.gtr) ?_
  refine VO.go ?_
  refine VC.condD rfl (fun c1 => ?_) (fun c1 => ?_)
  · refine VC.seq (VC.text ?_)
    refine VO.c (.assign rfl) ?_
    refine VO.go ?_
    refine VC.ret ?_
    exact VEnd.one rfl evT (pvI (by rw [permsE, if_pos c1]))
  refine VC.skip (VC.seq (VC.seq (VC.text ?_)))
  refine VO.c (.assign rfl) ?_
  refine VO.go (VC.block ?_)
  refine VC.keep [(0, .v y22 l), (3, I ((0 : Nat) : Int))] ⟨rfl, rfl, trivial⟩ ?_
  refine VC.loop (I := fun kk ff ss => ∃ (j : Nat), kk = l.length - j ∧ ff = [(0, .v y22 l), (3, I ((j : Nat) : Int))] ∧ ss = [] ∧ (j ≤ l.length) ∧ (permsE l = firstE ((l.drop j).map permE))) ?_ _ _ _ ⟨0, rfl, rfl, rfl, Nat.zero_le _, (by exact if_neg c1)⟩
  rintro kk ff ss ⟨j, hk0, rfl, rfl, hj, hw⟩
  refine VC.seq (VC.seq (VC.text ?_))
  refine VO.c (.move rfl) ?_
  refine VO.c (.move rfl) ?_
  refine VO.r (.len el22) ?_
  refine VO.c (.lss) ?_
  refine VO.go ?_
  refine VC.condD rfl (fun c4 => ?_) (fun c4 => ?_)
  · refine VC.skip (VC.seq (VC.block (VC.seq (VC.text ?_))))
    refine VO.c (.move rfl) ?_
    refine VO.c (.move rfl) ?_
    refine VO.c (.ix (j := j) rfl rfl el22 (by omega)) ?_
    refine VO.r (.ld vt31) ?_
    refine VO.call rfl rfl (VF.call (rPermit_ok (hp _ (List.getElem_mem _)))) ?_
    refine VO.c (.assign rfl) ?_
    refine VO.go (VC.seq (VC.text ?_))
    refine VO.c (.move rfl) ?_
    refine VO.c (.neq) ?_
    refine VO.go ?_
    refine VC.condD rfl (fun c7 => ?_) (fun c7 => ?_)
    · refine VC.seq (VC.text ?_)
      refine VO.c (.move rfl) ?_
      refine VO.c (.assign rfl) ?_
      refine VO.go ?_
      refine VC.ret ?_
      exact VEnd.one rfl evT (pvI (by rw [hw, worstE_drop (by omega), if_neg c7]))
    refine VC.skip (VC.text ?_)
    refine VO.c (.move rfl) ?_
    refine VO.c (.add rfl rfl (by omega)) ?_
    refine VO.c (.assign rfl) ?_
    refine VO.nil ?_
    refine ⟨_, [(0, .v y22 l), (3, I (((j + 1) : Nat) : Int))], ?_, ⟨rfl, rfl, trivial⟩, (j + 1), rfl, rfl, rfl, (by omega), (by rw [hw, worstE_drop (by omega), if_pos (by simpa using c7)])⟩
    omega
  refine VC.exit (VC.seq (VC.text ?_))
  refine VO.c (.assign rfl) ?_
  refine VO.go ?_
  refine VC.ret ?_
  exact VEnd.one rfl evT (pvI (by rw [hw, worstE_end (by omega)]))
theorem spanE_ok {p : Int × Int} (h : spanE p = 0) : 0 ≤ p.1 ∧ p.1 < p.2 ∧ p.2 ≤ 100000 := by
  unfold spanE at h
  by_cases h1 : p.1 < 0 ∨ p.2 ≤ p.1 ∨ 100000 < p.2
  · rw [if_pos h1] at h; cases h
  omega
end Go.Proofs
