/- Parts of the proof: an evaluator of the model, what it is sound for, and contracts of functions. No condition. -/
import Derived.Test.YtedakjflddcbbaaGreatDoorP4
import Derived.Test.YtedakjflddcbbaaGreatDoorP3
import Derived.Laws.Strings
import Ieee.Arith
import Derived.Test.YtedakjflddcbbaaGreatDoorP2
import Derived.Test.YtedakjflddcbbaaGreatDoorChecked
set_option linter.all false
namespace Go.Fs
variable {P : Program} {orc : FuncId → List Value → Heap → Option (Value × Heap)} {h : Heap} {σ : Sto} {fl : VL} {n i mem : Nat} {l : List Oper} {K : VL → Sto → Prop} {ops : Array Oper} {bs nw0 : List Nat} {tail so : Bool}
theorem VD.nw (nw1 : List Nat) (hk : VD P orc ops n l i fl nw1 σ so bs mem tail K) (he : nw0 = nw1 := by rfl) : VD P orc ops n l i fl nw0 σ so bs mem tail K := he ▸ hk
theorem VF.oracle {f : FuncId} {τ : Ty} {dv : τ.den} {v : Value} (ho : ∀ h : Heap, orc f [] h = some (v, h)) (hv : ∀ (h : Heap) (S : List Nat), RepPV h S (.v τ dv) v) : VF P orc f [] (.v τ dv) := fun h S us hok hS hr => by
  obtain rfl : us = [] := by
    cases us with
    | nil => rfl
    | cons a r => cases hr
  exact EvF.oracle (ho h) ⟨Aft.refl _ _, hv h S, fun _ => rfl⟩
end Go.Fs
namespace Go.Fs
variable {P : Program} {h : Heap} {S : List Nat}
def eqF (E : Ty → TypeId → Bool) : List Field → Nat → Ty → Bool
  | [], _, .unit => true
  | f :: r, o, .pair a b => (!(f.name == "_") && Nat.beq f.offset o && E a f.type && eqF E r (o + a.size) b) || (r.isEmpty && !(f.name == "_") && Nat.beq f.offset o && E (.pair a b) f.type)
  | [f], o, τ => !(f.name == "_") && Nat.beq f.offset o && E τ f.type
  | _, _, _ => false
def eqV (P : Program) : Nat → Ty → TypeId → Bool
  | 0, _, _ => false
  | d + 1, τ, T => valB P T τ && match P.underlying T, τ with
    | some (.int k), .int k' => k == k'
    | some .bool, .bool => true
    | some .string, .str => true
    | some (.struct fs), .pair a b => !P.stoodInHeld T && eqF (eqV P d) fs.toList 0 (.pair a b)
    | _, _ => false
theorem bytes_beq_t {x y : ByteArray} (he : x = y) : (x == y) = true := by
  subst he; show (x.data == x.data) = true; simp
theorem bytes_beq_f {x y : ByteArray} (he : ¬ x = y) : (x == y) = false := by
  show (x.data == y.data) = false; simp only [beq_eq_false_iff_ne, ne_eq]; exact fun hd => he (ByteArray.ext hd)
theorem size_noagg {τ : Ty} (h : τ.agg = false) : τ.size = 1 := by cases τ <;> first | rfl | cases h
theorem part_rep {T : TypeId} {τ : Ty} (hT : ValT P T τ) {cs : Array Value} {o : Nat} {x : τ.den} (hr : RepC h S τ ((cs.toList.drop o).take τ.size) x) : ∃ v, runPure P (part T cs o) = some v ∧ RepV h S τ v x := by
  obtain ⟨i, hi, hsz⟩ := hT.info; obtain ⟨d, hd, hag⟩ := hT.agg
  have hA : runPure P (isAgg T) = some τ.agg := by
    unfold isAgg; rw [runPure_bind, runPure_underlying hd, ← hag]; cases d <;> rfl
  unfold part; rw [runPure_bind, hA]; simp only [Option.bind_some]
  cases hga : τ.agg with
  | true =>
    simp only [if_true]; rw [runPure_bind, runPure_sizeOf hi]; refine ⟨_, rfl, hga.symm, ?_⟩; show RepC h S τ (cs.extract o (o + i.size)).toList x; rw [hsz, Array.toList_extract]
    simpa [List.extract_eq_take_drop] using hr
  | false =>
    simp only [Bool.false_eq_true, if_false]; obtain ⟨v, h1, h2⟩ := RepC.one hga hr
    have h3 : cs[o]? = some v := by
      have := congrArg (fun l => l[0]?) h1; simp only [size_noagg hga] at this; simpa using this
    rw [h3]; exact ⟨v, rfl, h2⟩
theorem fields_eq {E : Ty → TypeId → Bool} {n : Nat} {cs ds : Array Value} (hE : ∀ τ T, E τ T = true → ValT P T τ ∧ ∀ (u v : Value) (x y : τ.den) (inst : Decidable (x = y)), RepV h S τ u x → RepV h S τ v y → runPure P (Op.equalIn n T u v) = some (@decide (x = y) inst)) :
    ∀ (l : List Field) (o : Nat) (τ : Ty) (x y : τ.den) (inst : Decidable (x = y)), eqF E l o τ = true → RepC h S τ (cs.toList.drop o) x → RepC h S τ (ds.toList.drop o) y →
    runPure P (forIn l (none, ()) fun f __s =>
            if f.name ≠ "_" then do
              let __do_lift ← part f.type cs f.offset
              let __do_lift_1 ← part f.type ds f.offset
              let __do_lift ← Op.equalIn n f.type __do_lift __do_lift_1
              if (!__do_lift) = true then pure (ForInStep.done (some false, ())) else pure (ForInStep.yield (none, ()))
            else pure (ForInStep.yield (none, ()))) = some (if x = y then ((none : Option Bool), ()) else (some false, ())) := by
  intro l
  have key : ∀ (f : Field) (r : List Field) (o : Nat) (τ : Ty) (x y : τ.den) (inst : Decidable (x = y)) (R : Option (Option Bool × Unit)), (!(f.name == "_")) = true → Nat.beq f.offset o = true → E τ f.type = true → RepC h S τ ((cs.toList.drop o).take τ.size) x → RepC h S τ ((ds.toList.drop o).take τ.size) y →
      runPure P (forIn (f :: r) (none, ()) fun f __s =>
            if f.name ≠ "_" then do
              let __do_lift ← part f.type cs f.offset
              let __do_lift_1 ← part f.type ds f.offset
              let __do_lift ← Op.equalIn n f.type __do_lift __do_lift_1
              if (!__do_lift) = true then pure (ForInStep.done (some false, ())) else pure (ForInStep.yield (none, ()))
            else pure (ForInStep.yield (none, ()))) = if x = y then runPure P (forIn r (none, ()) fun f __s =>
            if f.name ≠ "_" then do
              let __do_lift ← part f.type cs f.offset
              let __do_lift_1 ← part f.type ds f.offset
              let __do_lift ← Op.equalIn n f.type __do_lift __do_lift_1
              if (!__do_lift) = true then pure (ForInStep.done (some false, ())) else pure (ForInStep.yield (none, ()))
            else pure (ForInStep.yield (none, ()))) else some (some false, ()) := by
    intro f r o τ x y inst R n1 n2 n3 r1 r2; obtain ⟨hT, hq⟩ := hE _ _ n3; obtain ⟨u, u1, u2⟩ := part_rep hT r1; obtain ⟨v, v1, v2⟩ := part_rep hT r2
    have hn : f.name ≠ "_" := by simpa using n1
    have ho := nbeq n2; rw [List.forIn_cons]; simp only [hn, ne_eq, not_false_eq_true, if_true, runPure_bind, ho, u1, v1, Option.bind_some, hq u v x y inst u2 v2]; by_cases he : x = y <;> simp [he, runPure_pure, runPure_bind]
  induction l with
  | nil =>
    intro o τ x y inst hb hx hy; cases τ <;> first | (cases hb; done) | skip
    simp [runPure_pure]
  | cons f r ih =>
    intro o τ x y inst hb hx hy; by_cases hp : (∀ a b, τ ≠ .pair a b) ∨ (r = [] ∧ (!(f.name == "_")) = true ∧ Nat.beq f.offset o = true ∧ E τ f.type = true)
    · have hs : r = [] ∧ (!(f.name == "_")) = true ∧ Nat.beq f.offset o = true ∧ E τ f.type = true := by
        rcases hp with hp | hp
        · cases τ with
          | pair a b => exact absurd rfl (hp a b)
          | _ =>
            cases r with
            | cons f' r => cases hb
            | nil =>
              obtain ⟨n1, n3⟩ := band (show (!(f.name == "_") && Nat.beq f.offset o && E _ f.type) = true from hb); obtain ⟨n1, n2⟩ := band n1; exact ⟨rfl, n1, n2, n3⟩
        exact hp
      obtain ⟨rfl, n1, n2, n3⟩ := hs; rw [key f [] o τ x y inst none n1 n2 n3 (by rw [List.take_of_length_le (Nat.le_of_eq hx.len)]; exact hx) (by rw [List.take_of_length_le (Nat.le_of_eq hy.len)]; exact hy)]; by_cases he : x = y <;> simp [he, runPure_pure]
    cases τ with
    | pair a b =>
      have hb2 : ((!(f.name == "_") && Nat.beq f.offset o && E a f.type && eqF E r (o + a.size) b) || (r.isEmpty && !(f.name == "_") && Nat.beq f.offset o && E (.pair a b) f.type)) = true := hb; rcases Bool.or_eq_true_iff.1 hb2 with h1 | h1
      · obtain ⟨h1, n4⟩ := band h1; obtain ⟨h1, n3⟩ := band h1; obtain ⟨n1, n2⟩ := band h1; have hd := Classical.propDecidable (x.1 = y.1); have hd2 := Classical.propDecidable (x.2 = y.2); rw [key f r o a x.1 y.1 hd none n1 n2 n3 hx.1 hy.1]; have h2 := ih (o + a.size) b x.2 y.2 hd2 n4 (by rw [← List.drop_drop]; exact hx.2) (by rw [← List.drop_drop]; exact hy.2); rw [h2]; by_cases e1 : x.1 = y.1
        · by_cases e2 : x.2 = y.2
          · rw [if_pos e1, if_pos e2, if_pos (Prod.ext e1 e2)]
          rw [if_pos e1, if_neg e2, if_neg (fun e => e2 (by rw [e]))]
        rw [if_neg e1, if_neg (fun e => e1 (by rw [e]))]
      obtain ⟨h1, n3⟩ := band h1; obtain ⟨h1, n2⟩ := band h1; obtain ⟨h1, n1⟩ := band h1
      exact absurd (.inr ⟨by simpa using h1, n1, n2, n3⟩) hp
    | _ => exact absurd (.inl fun _ _ h => by cases h) hp
theorem eqV_ok : ∀ (d : Nat) (τ : Ty) (T : TypeId), eqV P d τ T = true → ∀ (D : Nat) (u v : Value) (x y : τ.den) (inst : Decidable (x = y)), RepV h S τ u x → RepV h S τ v y → runPure P (Op.equalIn (D + d) T u v) = some (@decide (x = y) inst) := by
  intro d
  induction d with
  | zero => intro τ T hb; cases hb
  | succ d ih =>
    intro τ T hb D u v x y inst hu hv; unfold eqV at hb; obtain ⟨hvt, hb⟩ := band hb
    cases hU : P.underlying T with
    | none => simp only [hU] at hb; cases hb
    | some dsc =>
      simp only [hU] at hb; cases τ <;> cases dsc <;> try (cases hb; done)
      · rename_i k _ k'
        obtain rfl : k = k' := by
          have : (k' == k) = true := hb; exact (by simpa using this : k' = k).symm
        obtain rfl := RepV.int hu; obtain rfl := RepV.int hv; rw [show D + (d + 1) = (D + d) + 1 from rfl, Op.equalIn, runPure_bind, runPure_underlying hU]; simp only [Option.bind_some, if_true]; show some (_ == _) = _; by_cases he : x = y <;> simp [he]
      · obtain rfl := RepV.bool hu; obtain rfl := RepV.bool hv; rw [show D + (d + 1) = (D + d) + 1 from rfl, Op.equalIn, runPure_bind, runPure_underlying hU]; simp only [Option.bind_some]; show some (_ == _) = _; by_cases he : x = y <;> simp [he]
      · obtain rfl := RepV.str hu; obtain rfl := RepV.str hv; rw [show D + (d + 1) = (D + d) + 1 from rfl, Op.equalIn, runPure_bind, runPure_underlying hU]; simp only [Option.bind_some]; show some (_ == _) = _; by_cases he : x = y
        · rw [decide_eq_true he]; exact congrArg some (bytes_beq_t he)
        rw [decide_eq_false he]; exact congrArg some (bytes_beq_f he)
      rename_i a b fs; obtain ⟨h1, h2⟩ := band hb
      have hs : P.stoodInHeld T = false := by simpa using h1
      obtain ⟨cs, rfl⟩ : ∃ cs, u = .agg cs := by
        have := hu.1; cases u <;> first | exact ⟨_, rfl⟩ | cases this
      obtain ⟨ds, rfl⟩ : ∃ cs, v = .agg cs := by
        have := hv.1; cases v <;> first | exact ⟨_, rfl⟩ | cases this
      rw [show D + (d + 1) = (D + d) + 1 from rfl, Op.equalIn]; rw [runPure_bind, runPure_underlying hU]; simp only [Option.bind_some, runPure_bind, runPure_program, hs, Bool.false_eq_true, if_false]; simp only [← Array.forIn_toList]; have hF := fields_eq (h := h) (S := S) (cs := cs) (ds := ds) (n := D + d) (fun τ T hb => ⟨valT_of ?_, fun u v x y inst => ih τ T hb D u v x y inst⟩) fs.toList 0 _ x y inst h2 hu.2 hv.2
      · rw [hF]; by_cases he : x = y <;> simp [he, runPure_pure]
      cases d with
      | zero => cases hb
      | succ d => unfold eqV at hb; exact (band hb).1
structure EqT (P : Program) (T : TypeId) (τ : Ty) : Prop where
  eq : eqV P 40 τ T = true
  guard : P.eqGuardType P.depth T = false
  agg : τ.agg = true
  flat : τ.isFlat = true
theorem eqT_of {T : TypeId} {τ : Ty} (hb : (eqV P 40 τ T && !P.eqGuardType P.depth T && τ.agg && τ.isFlat) = true) : EqT P T τ := by
  obtain ⟨h1, h4⟩ := band hb; obtain ⟨h1, h3⟩ := band h1; obtain ⟨h1, h2⟩ := band h1; exact ⟨h1, by simpa using h2, h3, h4⟩
theorem EqT.run {T : TypeId} {τ : Ty} (hT : EqT P T τ) {u v : Value} {x y : τ.den} {inst : Decidable (x = y)} (hu : RepV h S τ u x) (hv : RepV h S τ v y) : runPure P (Op.equal T u v) = some (@decide (x = y) inst) :=
  eqV_ok 40 τ T hT.eq 9960 u v x y inst hu hv
theorem aggOf {τ : Ty} {u : Value} {x : τ.den} (ha : τ.agg = true) (hu : RepV h S τ u x) : ∃ cs, u = .agg cs := by
  have h1 := hu.1.trans ha; cases u <;> first | exact ⟨_, rfl⟩ | cases h1
variable {fl : VL} {σ : Sto} {x y : Operand} {T T' : TypeId} {τ : Ty}
theorem CalmV.eneq {p q : τ.den} [inst : Decidable (p = q)] (hT : EqT P T τ) (hx : evV fl x = some (.v τ p) := by rfl) (hy : evV fl y = some (.v τ q) := by rfl) : CalmV P fl σ (.binOp .neq T x y T') (.v .bool (decide (p ≠ q))) :=
  .bin hx hy fun h S a c ha hc => by
    have h1 := hT.run (inst := inst) ha hc; obtain ⟨cs, rfl⟩ := aggOf hT.agg ha; obtain ⟨ds, rfl⟩ := aggOf hT.agg hc; refine ⟨.bool (decide (p ≠ q)), RepV.ofBool _, ?_, ?_⟩
    · rw [(RepPV.flat (pv := .v τ p) hT.flat ha).1, (RepPV.flat (pv := .v τ q) hT.flat hc).1]; rfl
    have he : runPure P (eqGuard .neq T x y (.agg cs) (.agg ds)) = some () := by
      unfold eqGuard; simp [runPure_bind, runPure_program, hT.guard, runPure_pure]
    have hb : runPure P (binOp .neq T (.agg cs) (.agg ds)) = some (.bool (decide (p ≠ q))) := by
      unfold binOp; simp only [runPure_bind, h1, Option.bind_some, runPure_pure]; by_cases hpq : p = q <;> simp [hpq]
    unfold purely; rw [runPure_bind, he]; simp only [Option.bind_some, hb]; rfl
theorem bytes_list {a b : ByteArray} : (a.toList == b.toList) = decide (a = b) := by
  rw [ByteArray.toList_eq, ByteArray.toList_eq]; by_cases h : a = b
  · subst h; simp
  rw [decide_eq_false h, beq_eq_false_iff_ne]; exact fun he => h (ByteArray.ext (Array.toList_inj.1 he))
variable {p q : ByteArray}
theorem CalmV.binS (b : BinOp) {u : Value} {v : PV} (hx : evV fl x = some (.v .str p)) (hy : evV fl y = some (.v .str q)) (hu : runPure P (Op.stringOp b p q) = some u) (hf : af u = true) (hb : ∀ T : TypeId, (do eqGuard b T x y (.string p) (.string q); binOp b T (.string p) (.string q)) = Op.stringOp b p q) (hv : ∀ h S, RepPV h S v u) : CalmV P fl σ (.binOp b T x y T') v :=
  .bin hx hy fun h S a c ha hc => by
    obtain rfl := RepV.str ha; obtain rfl := RepV.str hc; refine ⟨u, hv h S, rfl, ?_⟩; unfold purely; rw [hb, hu]; simp only [Option.bind_some, hf, if_true]
theorem CalmV.seql (hx : evV fl x = some (.v .str p) := by rfl) (hy : evV fl y = some (.v .str q) := by rfl) : CalmV P fl σ (.binOp .eql T x y T') (.v .bool (decide (p = q))) :=
  .binS .eql hx hy (u := .bool (decide (p = q))) (by rw [← bytes_list]; rfl) rfl (fun _ => rfl) fun h S => RepV.ofBool _
theorem CalmV.sneq (hx : evV fl x = some (.v .str p) := by rfl) (hy : evV fl y = some (.v .str q) := by rfl) : CalmV P fl σ (.binOp .neq T x y T') (.v .bool (decide (p ≠ q))) :=
  .binS .neq hx hy (u := .bool (decide (p ≠ q))) (by rw [decide_not, ← bytes_list]; rfl) rfl (fun _ => rfl) fun h S => RepV.ofBool _
theorem CalmV.sadd (hb : p.size + q.size ≤ 1000000) (hx : evV fl x = some (.v .str p) := by rfl) (hy : evV fl y = some (.v .str q) := by rfl) : CalmV P fl σ (.binOp .add T x y T') (.v .str (p ++ q)) :=
  .binS .add hx hy (u := .string (p ++ q)) (by
    unfold Op.stringOp
    have h1 : IntKind.i64.max = 9223372036854775807 := by decide
    simp only []
    rw [if_neg (by omega)]; rfl) rfl (fun _ => rfl) fun h S => RepV.ofStr _
end Go.Fs
namespace Go.Fs
variable {P : Program} {fl : VL} {σ γ : Sto} {Q : PV → Sto → Prop} {fn : Func}
end Go.Fs
namespace Go.Fs
variable {P : Program} {orc : FuncId → List Value → Heap → Option (Value × Heap)}
theorem slI {fl : VL} {k : Nat} {κ : IntKind} {a b : Int} (hk : lkV fl k = some (.v (.int κ) a)) (h : a = b) : lkV fl k = some (.v (.int κ) b) := by rw [hk, h]
theorem pvI {κ : IntKind} {a b : Int} (h : a = b) : PV.v (.int κ) a = PV.v (.int κ) b := by rw [h]
section
variable {h0 : Heap} {S0 : List Nat} {σ : Sto} {ms : List Nat} {fl : VL} {ops : Array Oper} {n i mem : Nat} {l : List Oper} {K : VL → Sto → Prop}
  {d : Tmp} {ty : TypeId} {pos : String} {after : Array Edge} {op : Op} {v : PV} {g : Option (Nat × Bool)} {bs nw : List Nat} {tail so : Bool}
theorem VD.co {b : Nat} (hc : CalmV P fl σ op v) (hk : VD P orc ops n l (i + 1) ((d, v) :: fl) (nwSet ((so && oldOp nw op) || v.flat0) d nw) σ so (bs ++ [b]) mem tail K)
    (hb : beforeOf bs ⟨some d, op, ty, pos, after, g⟩ = b := by rfl) (hw : wantV ops fl g = some true := by rfl) (hn : (Nat.blt d n && Nat.ble n 4000) = true := by rfl) :
    VD P orc ops n (⟨some d, op, ty, pos, after, g⟩ :: l) i fl nw σ so bs mem tail K := fun h0 G S0 t h ms segs I ho => by
  obtain ⟨n1, n2⟩ := fits hn; obtain ⟨u, e1, e2⟩ := hc.2 h (own σ ++ S0) t I.slots.sees I.cells; refine EvD.op (s' := ⟨t.set depth d u, h, bs ++ [b], segs, mem, tail⟩) ?_ (hk h0 G S0 _ h ms segs (I.set e1 n2) fun ht => (ho ht).set n2 fun hold hs a1 a2 a3 a4 a5 => ?_)
  · unfold fsDraw; have hwt : fsWanted ops t ⟨some d, op, ty, pos, after, g⟩ = some true := want_ok I.slots hw; simp only [hwt, hc.1, if_true, e2, Nat.beq_refl, cond_true, put_fits n1, Option.map_some, hb]
  rcases Bool.or_eq_true_iff.1 hold with hold | hold
  · obtain ⟨o1, o2⟩ := band hold; obtain ⟨u', f1, f2⟩ := hc.2 hs (own σ ++ S0) t (old_op a4 o2) (a5 o1)
    have : u' = u := by
      have g1 := e2 none 0 "" #[] none h; rw [f2 none 0 "" #[] none h] at g1; simpa using g1
    rw [← this]; exact f1
  exact (RepPV.flat0 hold e1).2 _ _
end
end Go.Fs
namespace Go.Fs
variable {P : Program} {orc : FuncId → List Value → Heap → Option (Value × Heap)} {rnd : Option Nat} {h h' h0 h1 h2 : Heap} {S S' S0 G : List Nat} {σ σ' σr γ γ' : Sto} {t t' : Tr} {ms : List Nat} {fl nw : VL} {ops : Array Oper} {n i mem : Nat} {l : List Oper} {K : VL → Sto → Prop} {Q : Ex → VL → Sto → Prop}
  {d : Tmp} {ty : TypeId} {pos : String} {after : Array Edge} {op : Op} {v pv : PV} {g : Option (Nat × Bool)} {bs nw0 : List Nat} {tail so : Bool}
inductive ShutL (fl : VL) (γ : Sto) : VL → Prop where
  | nil : ShutL fl γ []
  | cons {k : Nat} {p p' : PV} {r : VL} (hk : lkV fl k = some p) (hc : Co γ p p') (hr : ShutL fl γ r) : ShutL fl γ ((k, p') :: r)
theorem Iv.forgetL : ∀ {γ : Sto}, Iv h0 G S0 h (γ ++ σ) t ms fl → Iv h0 G S0 h σ t ms (fl)
  | [], I => I
  | _ :: γ, I => Iv.forgetL (γ := γ) I.forget
theorem Iv.shutL (I : Iv h0 G S0 h (γ ++ σ) t ms fl) (hs : ShutL fl γ nw) : Iv h0 G S0 h σ t ms (nw ++ fl) := by
  have I' := I.forgetL
  have hsl : Slots h (own σ ++ S0) t (nw ++ fl) := by
    induction hs with
    | nil => exact I'.slots
    | cons hk hc hr ih =>
      refine ih.cons (Co.ok (σ := γ) (S0 := own σ ++ S0) (fun c hd => ?_) (fun b hb => ?_) hc ?_)
      · have := I.cells c (List.mem_append_left _ hd); rw [own_app, List.append_assoc] at this; exact this
      · have h1 := I.apart; rw [own_app] at h1; intro hm; rcases List.mem_append.1 hm with hm | hm
        · exact (List.nodup_append.1 h1).2.2 b hb b hm rfl
        exact (I.new b (by rw [own_app]; exact List.mem_append_left _ hb)).2 hm
      have := I.slots _ _ hk; rw [own_app, List.append_assoc] at this; exact this
  exact { I' with slots := hsl }
theorem VC.shutL {a : Code} (γ : Sto) (nw : VL) (hσ : γ ++ σ = σr) (hs : ShutL fl γ nw) (hx : VC P orc rnd a n (nw ++ fl) σ Q) : VC P orc rnd a n fl σr Q := fun h0 G S0 t h ms I => by
  subst hσ; exact hx h0 G S0 t h ms (I.shutL hs)
end Go.Fs
namespace Go.Fs
variable {P : Program} {orc : FuncId → List Value → Heap → Option (Value × Heap)} {fl : VL} {σ γ : Sto} {T : TypeId} {τ : Ty}
theorem row_one {h : Heap} {S : List Nat} {w : Value} {e : TypeId} {xs : List τ.den} (hc : CellR h S w (.row e τ xs)) : oneCell w = true := by
  rcases hc with ⟨h1, _⟩ | ⟨b, rs, m, h1, _⟩
  · rw [show w = _ from h1]; rfl
  rw [show w = _ from h1]; rfl
theorem VO.one {orc : FuncId → List Value → Heap → Option (Value × Heap)} {ops : Array Oper} {n : Nat} {l : List Oper} {K : VL → Sto → Prop} {w : Value} {e : TypeId} {xs : List τ.den} (hm : (w, Cell.row e τ xs) ∈ σ) (hk : oneCell w = true → VO P orc ops n l fl σ K) : VO P orc ops n l fl σ K := fun h0 G S0 t h ms I => hk (row_one (I.cells _ hm)) h0 G S0 t h ms I
theorem VD.one {orc : FuncId → List Value → Heap → Option (Value × Heap)} {ops : Array Oper} {n i mem : Nat} {l : List Oper} {K : VL → Sto → Prop} {nw bs : List Nat} {so tail : Bool} {w : Value} {e : TypeId} {xs : List τ.den} (hm : (w, Cell.row e τ xs) ∈ σ) (hk : oneCell w = true → VD P orc ops n l i fl nw σ so bs mem tail K) : VD P orc ops n l i fl nw σ so bs mem tail K := fun h0 G S0 t h ms segs I => hk (row_one (I.cells _ hm)) h0 G S0 t h ms segs I
theorem VD.perm {orc : FuncId → List Value → Heap → Option (Value × Heap)} {ops : Array Oper} {n i mem : Nat} {l : List Oper} {K : VL → Sto → Prop} {nw bs : List Nat} {so tail : Bool} {σ' : Sto} (hp : σ.Perm σ') (hx : VD P orc ops n l i fl nw σ' false bs mem tail K) : VD P orc ops n l i fl nw σ so bs mem tail K := fun h0 G S0 t h ms segs I ho => hx h0 G S0 t h ms segs (I.perm hp) fun ht => by
  obtain ⟨hs, a1, a2, a3, a4, a5, a6⟩ := ho ht; refine ⟨hs, a1, a2, a3, a4, fun k pv hk hn => (a5 k pv hk hn).nx (h := hs) fun b ob hg hb => ⟨hg, fun hm => hb ?_⟩, fun e => by cases e⟩; rcases List.mem_append.1 hm with hm | hm
  · obtain ⟨c, hc, hb⟩ := List.mem_flatMap.1 hm; exact List.mem_append_left _ (List.mem_flatMap.2 ⟨c, hp.mem_iff.2 hc, hb⟩)
  exact List.mem_append_right _ hm
end Go.Fs
namespace Ieee
namespace Format
variable (f : Format)
end Format
end Ieee
namespace Ieee
def sg (s : Bool) (r : Nat) : Int := if s then -(r : Int) else r
namespace Format
variable (f : Format)
def units (x : Nat) : Option Int := match f.read x with
  | .number s m p => some (sg s (m * 2 ^ (p - f.leastPlace).toNat))
  | _ => none
variable {f}
end Format
end Ieee
namespace Ieee
namespace Format
variable {f g : Format}
end Format
end Ieee
namespace Ieee
open Format
end Ieee
namespace Ieee
open Format
end Ieee
namespace Go.Fs
variable {P : Program} {h : Heap} {S : List Nat} {σ : Sto} {t : Tr} {fl : VL} {x y : Operand} {T T' : TypeId} {v pv : PV} {k k' : FloatKind} {p q : Nat}
end Go.Fs
namespace Go.Fs
variable {P : Program} {orc : FuncId → List Value → Heap → Option (Value × Heap)} {rnd : Option Nat} {h h' h0 h1 h2 : Heap} {S S' S0 B G : List Nat} {σ σ' : Sto} {t t' : Tr} {ms : List Nat} {fl : VL} {ops : Array Oper} {n : Nat} {l : List Oper} {K : VL → Sto → Prop} {Q : Ex → VL → Sto → Prop}
  {d : Tmp} {ty : TypeId} {pos : String} {after : Array Edge} {op : Op} {v pv : PV} {g : Option (Nat × Bool)} {x y z : Operand} {T T' e : TypeId} {κ ν : Ty} {w : Value}
section
variable {α β : Type} [DecidableEq α]
def mget : List (α × β) → α → Option β
  | [], _ => none
  | (k, v) :: r, x => if x = k then some v else mget r x
def mset : List (α × β) → α → β → List (α × β)
  | [], x, y => [(x, y)]
  | (k, v) :: r, x, y => if x = k then (x, y) :: r else (k, v) :: mset r x y
def mix : List (α × β) → α → Nat → Option Nat
  | [], _, _ => none
  | (k, _) :: r, x, i => if x = k then some i else mix r x (i + 1)
theorem mix_get : ∀ {l : List (α × β)} {x : α} {i : Nat}, match mix l x i with
    | none => mget l x = none
    | some j => i ≤ j ∧ ∃ (hj : j - i < l.length), (l[j - i]).1 = x ∧ mget l x = some (l[j - i]).2
  | [], _, _ => rfl
  | (k, v) :: r, x, i => by
    unfold mix mget; by_cases hk : x = k
    · rw [if_pos hk, if_pos hk]
      have e0 : i - i = 0 := by omega
      refine ⟨Nat.le_refl _, by rw [e0]; simp, ?_, ?_⟩
      · simp only [e0]; exact hk.symm
      simp only [e0]; rfl
    rw [if_neg hk, if_neg hk]; have := mix_get (l := r) (x := x) (i := i + 1); split at this
    · exact this
    rename_i j hj; obtain ⟨h1, h2, h3, h4⟩ := this
    have e1 : j - i = (j - (i + 1)) + 1 := by omega
    refine ⟨by omega, by rw [e1]; simpa using h2, ?_, ?_⟩
    · simp only [e1, List.getElem_cons_succ]; exact h3
    simp only [e1, List.getElem_cons_succ]; exact h4
theorem mix_set : ∀ {l : List (α × β)} {x : α} {y : β} {i : Nat}, match mix l x i with
    | none => mset l x y = l ++ [(x, y)]
    | some j => i ≤ j ∧ mset l x y = l.set (j - i) (x, y)
  | [], _, _, _ => rfl
  | (k, v) :: r, x, y, i => by
    unfold mix mset; by_cases hk : x = k
    · rw [if_pos hk, if_pos hk]
      have e0 : i - i = 0 := by omega
      exact ⟨Nat.le_refl _, by rw [e0]; rfl⟩
    rw [if_neg hk, if_neg hk]; have := mix_set (l := r) (x := x) (y := y) (i := i + 1); split at this
    · rw [this]; rfl
    rename_i j hj; obtain ⟨h1, h2⟩ := this
    have e1 : j - i = (j - (i + 1)) + 1 := by omega
    exact ⟨by omega, by rw [e1, List.set_cons_succ, h2]⟩
end
structure KeyT (P : Program) (K : TypeId) (κ : Ty) : Prop where
  flat : κ.isFlat = true
  und : ∃ td, P.underlying K = some td ∧ ((∀ {h : Heap} {S : List Nat} (u v : Value) (x y : κ.den) (inst : Decidable (x = y)), RepV h S κ u x → RepV h S κ v y → Instr.sameNow td u v = some (@decide (x = y) inst)) ∨
    ((∀ u v, Instr.sameNow td u v = none) ∧ ∀ {h : Heap} {S : List Nat} (u v : Value) (x y : κ.den) (inst : Decidable (x = y)), RepV h S κ u x → RepV h S κ v y → runPure P (Op.equal K u v) = some (@decide (x = y) inst)))
  chk : ∀ {h : Heap} {S : List Nat} (em : Bool) (u : Value) (x : κ.den), RepV h S κ u x → (runPure P (Instr.checkKey em 10000 K u)).isSome = true
  bits : ∀ {h : Heap} {S : List Nat} (u : Value) (x : κ.den), RepV h S κ u x → Instr.sameBits 10000 u u = true
theorem keyStr {K : TypeId} (hK : P.underlying K = some .string) : KeyT P K .str where
  flat := rfl
  und := ⟨.string, hK, .inl fun u v x y inst hu hv => by
    rw [hu.str, hv.str]; show some (x == y) = _; congr 1; by_cases h : x = y
    · rw [bytes_beq_t h]; simp [h]
    rw [bytes_beq_f h]; simp [h]⟩
  chk := fun em u x hu => by
    rw [hu.str]; unfold Instr.checkKey; simp only [runPure_bind, runPure_underlying hK, Option.bind_some]; rfl
  bits := fun u x hu => by
    rw [hu.str]; show (x == x) = true; exact bytes_beq_t rfl
structure MapT (P : Program) (T : TypeId) (κ ν : Ty) : Prop where
  key : ∃ K E, P.underlying T = some (.map K E) ∧ KeyT P K κ ∧ ZerT P E ν
def EntR (h : Heap) (S : List Nat) (κ ν : Ty) (es : List MapEntry) (kvs : List (κ.den × ν.den)) : Prop := es.length = kvs.length ∧ ∀ i (hi : i < kvs.length) (hj : i < es.length), RepV h S κ es[i].key kvs[i].1 ∧ RepV h S ν es[i].val kvs[i].2
theorem EntR.tail {e : MapEntry} {es : List MapEntry} {p : κ.den × ν.den} {kvs : List (κ.den × ν.den)} (hE : EntR h S κ ν (e :: es) (p :: kvs)) : (RepV h S κ e.key p.1 ∧ RepV h S ν e.val p.2) ∧ EntR h S κ ν es kvs := by
  obtain ⟨h1, h2⟩ := hE; refine ⟨h2 0 (by simp) (by simp), by simpa using h1, fun i hi hj => ?_⟩; have := h2 (i + 1) (by simpa using hi) (by simpa using hj); simpa using this
theorem find_mix [DecidableEq κ.den] {K : TypeId} {u : Value} {k : κ.den} (hK : KeyT P K κ) (hu : RepV h S κ u k) {es : List MapEntry} {kvs : List (κ.den × ν.den)} (hE : EntR h S κ ν es kvs) : fsFind P K u es = some (mix kvs k 0) := by
  obtain ⟨td, hU, hk⟩ := hK.und; unfold fsFind; rw [hU]; simp only; rcases hk with hk | ⟨hn, hk⟩
  · have key : ∀ (es : List MapEntry) (kvs : List (κ.den × ν.den)) (i : Nat), EntR h S κ ν es kvs → ∃ r, Instr.findNow td u es i = some r ∧ r.map (·.1) = mix kvs k i := by
      intro es
      induction es with
      | nil =>
        intro kvs i hE
        cases kvs with
        | nil => exact ⟨none, rfl, rfl⟩
        | cons p kvs => have := hE.1; simp at this
      | cons e es ih =>
        intro kvs i hE
        cases kvs with
        | nil => have := hE.1; simp at this
        | cons p kvs =>
          obtain ⟨⟨h1, _⟩, h3⟩ := hE.tail; obtain ⟨k', v'⟩ := p; unfold Instr.findNow mix; rw [hk u e.key k k' inferInstance hu h1]; by_cases hkk : k = k'
          · rw [if_pos hkk]; exact ⟨some (i, e.val), by simp [hkk], rfl⟩
          rw [if_neg hkk]; obtain ⟨r, r1, r2⟩ := ih kvs (i + 1) h3; exact ⟨r, by simp [hkk, r1], r2⟩
    obtain ⟨r, r1, r2⟩ := key es kvs 0 hE; rw [r1]; simp only; rw [r2]
  cases es with
  | nil =>
    cases kvs with
    | nil => rfl
    | cons p kvs => have := hE.1; simp at this
  | cons e0 es0 =>
    have hnow : Instr.findNow td u (e0 :: es0) 0 = none := by
      unfold Instr.findNow; rw [hn]
    rw [hnow]; simp only
    have key : ∀ (es : List MapEntry) (kvs : List (κ.den × ν.den)) (i : Nat), EntR h S κ ν es kvs → ∃ r, runPure P (Instr.findAsking K u es i) = some r ∧ r.map (·.1) = mix kvs k i := by
      intro es
      induction es with
      | nil =>
        intro kvs i hE
        cases kvs with
        | nil => exact ⟨none, rfl, rfl⟩
        | cons p kvs => have := hE.1; simp at this
      | cons e es ih =>
        intro kvs i hE
        cases kvs with
        | nil => have := hE.1; simp at this
        | cons p kvs =>
          obtain ⟨⟨h1, _⟩, h3⟩ := hE.tail; obtain ⟨k', v'⟩ := p; unfold Instr.findAsking mix; simp only [runPure_bind, hk u e.key k k' inferInstance hu h1, Option.bind_some]; by_cases hkk : k = k'
          · rw [if_pos hkk]; exact ⟨some (i, e.val), by simp [hkk, runPure_pure], rfl⟩
          rw [if_neg hkk]; obtain ⟨r, r1, r2⟩ := ih kvs (i + 1) h3; exact ⟨r, by simp [hkk, r1], r2⟩
    obtain ⟨r, r1, r2⟩ := key _ kvs 0 hE; have r1' : runPure P (Instr.findAsking K u (e0 :: es0)) = some r := r1; rw [r1']; simp only [Option.map_some]; rw [r2]
theorem lookup_eq [DecidableEq κ.den] (hT : MapT P T κ ν) {u m : Value} {k : κ.den} {kvs : List (κ.den × ν.den)} (hu : RepV h S κ u k) (hm : MpV h S κ ν m kvs) :
    ∃ r, RepV h S ν r ((mget kvs k).getD (zeroD ν)) ∧ (∀ H : Heap, (∀ b o, h.get b = some o → H.get b = some o) → fsLookup P T m u false H = some r ∧ fsLookup P T m u true H = some (.tuple #[r, .bool (mget kvs k).isSome])) := by
  obtain ⟨K, E, hU, hK, hZ⟩ := hT.key; obtain ⟨z, hz, hzc, hza⟩ := hZ.zero; obtain ⟨z1, z2⟩ := zero_rep h S ν; obtain ⟨a1, a2⟩ := af_cells (u := z) (by rw [hzc]; exact z2); have hzr : RepV h S ν z (zeroD ν) := ⟨hza, by rw [hzc]; exact z1⟩; have hau : af u = true := af_of_af1 (repV_af1 hK.flat hu); rcases hm with ⟨rfl, rfl⟩ | ⟨b, es, c, rfl, hbS, hg, hE⟩
  · refine ⟨z, hzr, fun H hH => ?_⟩; have hf : fsFind P K u [] = some none := find_mix (kvs := ([] : List (κ.den × ν.den))) hK hu ⟨rfl, fun i hi => by simp at hi⟩; have hch := hK.chk (h := h) (S := S) true u k hu; constructor <;> simp [fsLookup, hU, hz, hau, a1, hf, hch, mget]
  have hE' : EntR h S κ ν es kvs := hE; have hf := find_mix (ν := ν) hK hu hE'; have hch := hK.chk (h := h) (S := S) es.isEmpty u k hu; have hmg := mix_get (l := kvs) (x := k) (i := 0)
  cases hmx : mix kvs k 0 with
  | none =>
    rw [hmx] at hmg hf; have hmg' : mget kvs k = none := hmg; refine ⟨z, by rw [hmg']; exact hzr, fun H hH => ?_⟩
    constructor <;> simp [fsLookup, hU, hz, hau, a1, hf, hch, hmg', hH b _ hg]
  | some j =>
    rw [hmx] at hmg hf; obtain ⟨_, hj, hk1, hk2⟩ := hmg; simp only [Nat.sub_zero] at hj hk1 hk2
    have hj2 : j < es.length := by rw [hE'.1]; exact hj
    refine ⟨es[j].val, by rw [hk2]; exact (hE'.2 j hj hj2).2, fun H hH => ?_⟩; constructor <;> simp [fsLookup, hU, hz, hau, a1, hf, hch, hk2, hH b _ hg, List.getElem?_eq_getElem hj2]
theorem EntR.set {kvs : List (κ.den × ν.den)} {es : List MapEntry} {j : Nat} {e : MapEntry} {p : κ.den × ν.den} (hE : EntR h S κ ν es kvs) (hk : RepV h S κ e.key p.1) (hv : RepV h S ν e.val p.2) : EntR h S κ ν (es.set j e) (kvs.set j p) := by
  refine ⟨by simpa using hE.1, fun i hi hj => ?_⟩; rw [List.length_set] at hi hj; by_cases hij : j = i
  · subst hij; simp only [List.getElem_set_self]; exact ⟨hk, hv⟩
  simp only [List.getElem_set_ne hij]; exact hE.2 i hi hj
theorem EntR.push {kvs : List (κ.den × ν.den)} {es : List MapEntry} {e : MapEntry} {p : κ.den × ν.den} (hE : EntR h S κ ν es kvs) (hk : RepV h S κ e.key p.1) (hv : RepV h S ν e.val p.2) : EntR h S κ ν (es ++ [e]) (kvs ++ [p]) := by
  refine ⟨by simpa using hE.1, fun i hi hj => ?_⟩
  have hi' : i < kvs.length + 1 := by simpa using hi
  by_cases hlt : i < kvs.length
  · rw [List.getElem_append_left hlt, List.getElem_append_left (by rw [hE.1]; exact hlt)]; exact hE.2 i hlt _
  have e1 : i = kvs.length := by omega
  subst e1; have e2 := hE.1
  have q1 : (es ++ [e])[kvs.length]'hj = e := by rw [List.getElem_append_right (by omega)]; simp [e2]
  have q2 : (kvs ++ [p])[kvs.length]'hi = p := by rw [List.getElem_append_right (by omega)]; simp
  rw [q1, q2]; exact ⟨hk, hv⟩
section
variable [DecidableEq κ.den] {k : κ.den} {kvs : List (κ.den × ν.den)}
theorem ReadV.look (hT : MapT P T κ ν) (hx : evV fl x = some (.v (.mp κ ν) kvs) := by rfl) (hy : evV fl y = some (.v κ k) := by rfl) : ReadV P fl σ (.lookup T x y false) (.v ν ((mget kvs k).getD (zeroD ν))) :=
  ⟨rfl, fun h S t hs hc => by
    obtain ⟨r, r1, r2⟩ := lookup_eq hT (hs y (by simp [Op.operands]) _ hy : RepV h S κ _ k) (RepV.mp (hs x (by simp [Op.operands]) _ hx))
    exact ⟨r, r1, fun H hH _ _ _ _ _ => by
      show (fsLookup P T (evalO t x) (evalO t y) false H).map _ = _
      rw [(r2 H hH).1]; rfl⟩⟩
theorem ReadV.lookOk (hT : MapT P T κ ν) (hx : evV fl x = some (.v (.mp κ ν) kvs) := by rfl) (hy : evV fl y = some (.v κ k) := by rfl) : ReadV P fl σ (.lookup T x y true) (.tup [.v ν ((mget kvs k).getD (zeroD ν)), .v .bool (mget kvs k).isSome]) :=
  ⟨rfl, fun h S t hs hc => by
    obtain ⟨r, r1, r2⟩ := lookup_eq hT (hs y (by simp [Op.operands]) _ hy : RepV h S κ _ k) (RepV.mp (hs x (by simp [Op.operands]) _ hx))
    exact ⟨.tuple #[r, .bool (mget kvs k).isSome], ⟨[r, .bool (mget kvs k).isSome], rfl, r, _, rfl, r1, _, _, rfl, RepV.ofBool _, rfl⟩, fun H hH _ _ _ _ _ => by
      show (fsLookup P T (evalO t x) (evalO t y) true H).map _ = _
      rw [(r2 H hH).2]; rfl⟩⟩
theorem lookup_own (hT : MapT P T κ ν) {u : Value} (hu : RepV h S κ u k) (hc : CellR h S w (.mp κ ν kvs)) :
    ∃ r, RepV h S ν r ((mget kvs k).getD (zeroD ν)) ∧ (∀ H : Heap, (∀ b o, h.get b = some o → H.get b = some o) → fsLookup P T w u false H = some r ∧ fsLookup P T w u true H = some (.tuple #[r, .bool (mget kvs k).isSome])) := by
  obtain ⟨K, E, hU, hK, hZ⟩ := hT.key; obtain ⟨z, hz, hzc, hza⟩ := hZ.zero; obtain ⟨z1, z2⟩ := zero_rep h S ν; obtain ⟨a1, a2⟩ := af_cells (u := z) (by rw [hzc]; exact z2); have hzr : RepV h S ν z (zeroD ν) := ⟨hza, by rw [hzc]; exact z1⟩; have hau : af u = true := af_of_af1 (repV_af1 hK.flat hu); obtain ⟨b, es, c, rfl, hbS, hg, hE⟩ := hc; have hE' : EntR h S κ ν es kvs := hE; have hf := find_mix (ν := ν) hK hu hE'; have hch := hK.chk (h := h) (S := S) es.isEmpty u k hu; have hmg := mix_get (l := kvs) (x := k) (i := 0)
  cases hmx : mix kvs k 0 with
  | none =>
    rw [hmx] at hmg hf; have hmg' : mget kvs k = none := hmg; refine ⟨z, by rw [hmg']; exact hzr, fun H hH => ?_⟩
    constructor <;> simp [fsLookup, hU, hz, hau, a1, hf, hch, hmg', hH b _ hg]
  | some j =>
    rw [hmx] at hmg hf; obtain ⟨_, hj, hk1, hk2⟩ := hmg; simp only [Nat.sub_zero] at hj hk1 hk2
    have hj2 : j < es.length := by rw [hE'.1]; exact hj
    refine ⟨es[j].val, by rw [hk2]; exact (hE'.2 j hj hj2).2, fun H hH => ?_⟩; constructor <;> simp [fsLookup, hU, hz, hau, a1, hf, hch, hk2, hH b _ hg, List.getElem?_eq_getElem hj2]
theorem ReadV.lookO (hT : MapT P T κ ν) (hm : (w, Cell.mp κ ν kvs) ∈ σ) (hx : evV fl x = some (.raw w) := by rfl) (hy : evV fl y = some (.v κ k) := by rfl) : ReadV P fl σ (.lookup T x y false) (.v ν ((mget kvs k).getD (zeroD ν))) :=
  ⟨rfl, fun h S t hs hc => by
    have h1 : evalO t x = w := hs x (by simp [Op.operands]) _ hx; obtain ⟨r, r1, r2⟩ := lookup_own hT (hs y (by simp [Op.operands]) _ hy : RepV h S κ _ k) (hc _ hm)
    exact ⟨r, r1, fun H hH _ _ _ _ _ => by
      show (fsLookup P T (evalO t x) (evalO t y) false H).map _ = _
      rw [h1, (r2 H hH).1]; rfl⟩⟩
theorem ReadV.lookOkO (hT : MapT P T κ ν) (hm : (w, Cell.mp κ ν kvs) ∈ σ) (hx : evV fl x = some (.raw w) := by rfl) (hy : evV fl y = some (.v κ k) := by rfl) : ReadV P fl σ (.lookup T x y true) (.tup [.v ν ((mget kvs k).getD (zeroD ν)), .v .bool (mget kvs k).isSome]) :=
  ⟨rfl, fun h S t hs hc => by
    have h1 : evalO t x = w := hs x (by simp [Op.operands]) _ hx; obtain ⟨r, r1, r2⟩ := lookup_own hT (hs y (by simp [Op.operands]) _ hy : RepV h S κ _ k) (hc _ hm)
    exact ⟨.tuple #[r, .bool (mget kvs k).isSome], ⟨[r, .bool (mget kvs k).isSome], rfl, r, _, rfl, r1, _, _, rfl, RepV.ofBool _, rfl⟩, fun H hH _ _ _ _ _ => by
      show (fsLookup P T (evalO t x) (evalO t y) true H).map _ = _
      rw [h1, (r2 H hH).2]; rfl⟩⟩
theorem MakeV.mput {u : ν.den} (hT : MapT P T κ ν) (hx : evV fl x = some (.raw w)) (hy : evV fl y = some (.v κ k)) (hz : evV fl z = some (.v ν u)) :
    MakeV P fl ((w, .mp κ ν kvs) :: σ) (.mapUpdate T x y z) fun v σ' => v = .raw undef ∧ σ' = (w, .mp κ ν (mset kvs k u)) :: σ :=
  ⟨rfl, fun S0 h t L => by
    have h1 : evalO t x = w := evV_ok L.slots hx; have hk := (evV_ok L.slots hy : RepV h _ κ (evalO t y) k); have hv := (evV_ok L.slots hz : RepV h _ ν (evalO t z) u); obtain ⟨K, E, hU, hK, hZ⟩ := hT.key; obtain ⟨b, es, c, h3, h4, hg, hE⟩ := L.cells _ List.mem_cons_self; have hw : w = .map (some b) := h3; have hE' : EntR h (own ((w, .mp κ ν kvs) :: σ) ++ S0) κ ν es kvs := hE
    have hbk : blk w = [b] := by rw [hw]; rfl
    have hf := find_mix (ν := ν) hK hk hE'; have hau : af (evalO t y) = true := af_of_af1 (repV_af1 hK.flat hk); have hch := hK.chk (h := h) false _ k hk; have hms := mix_set (l := kvs) (x := k) (y := u) (i := 0); have hmg := mix_get (l := kvs) (x := k) (i := 0)
    have fin : ∀ (es' : List MapEntry) (c' : Nat), fsMapUpdate P T w (evalO t y) (evalO t z) h = some (h.set b (.mapo es' c')) → EntR h (own ((w, .mp κ ν kvs) :: σ) ++ S0) κ ν es' (mset kvs k u) →
        ∃ uu h' v σ', (v = .raw undef ∧ σ' = (w, .mp κ ν (mset kvs k u)) :: σ) ∧ Made S0 h h' ((w, .mp κ ν kvs) :: σ) σ' ∧ RepPV h' (own σ' ++ S0) v uu ∧ ∀ (d : Option Tmp) (ty : TypeId) (pos : String) (after : Array Edge) (g : Option (Nat × Bool)), stepO P ⟨d, .mapUpdate T x y z, ty, pos, after, g⟩ (evalO t) h = some (uu, h') := fun es' c' hup hEn => by
      refine ⟨undef, h.set b (.mapo es' c'), .raw undef, _, ⟨rfl, rfl⟩, Made.head L (Aft.set hg (by rw [hbk]; simp)) (fun b hb => .inl hb) (by rw [hbk]; simp) fun hN => ?_, rfl, fun _ _ _ _ _ => ?_⟩
      · refine ⟨b, es', c', h3, ?_, by rw [Heap.get_set hg, if_pos rfl], hEn.1, fun i hi hj => ⟨(hEn.2 i hi hj).1.nx hN, (hEn.2 i hi hj).2.nx hN⟩⟩; rw [own_cons]; exact List.mem_append_left _ (List.mem_append_left _ (by rw [hbk]; simp))
      show (fsMapUpdate P T (evalO t x) (evalO t y) (evalO t z) h).map _ = _; rw [h1, hup]; rfl
    cases hmx : mix kvs k 0 with
    | none =>
      rw [hmx] at hms hf; have hms' : Fs.mset kvs k u = kvs ++ [(k, u)] := hms; refine fin (es ++ [{ key := evalO t y, val := evalO t z, born := c }]) (c + 1) ?_ (by rw [hms']; exact hE'.push hk hv); rw [hw]
      simp [fsMapUpdate, hU, hg, hau, hch, hf]
    | some j =>
      rw [hmx] at hms hf hmg; obtain ⟨_, hms'⟩ := hms; obtain ⟨_, hj, hk1, _⟩ := hmg; simp only [Nat.sub_zero] at hms' hj hk1
      have hj2 : j < es.length := by rw [hE'.1]; exact hj
      have hke : es[j].key = evalO t y := by
        have q1 := (hE'.2 j hj hj2).1; rw [hk1] at q1; have c1 := flat_cells q1.2 hK.flat; have c2 := flat_cells hk.2 hK.flat
        cases hag : κ.agg with
        | true => rw [flat_agg q1 hK.flat hag, flat_agg hk hK.flat hag]
        | false =>
          have d1 := cells_one (q1.1.trans hag); have d2 := cells_one (hk.1.trans hag); rw [d1] at c1; rw [d2] at c2; have : [es[j].key] = [evalO t y] := c1.trans c2.symm; simpa using this
      have hsb : Instr.sameBits 10000 es[j].key (evalO t y) = true := by rw [hke]; exact hK.bits _ k hk
      refine fin (es.set j { es[j] with key := evalO t y, val := evalO t z }) c ?_ (by rw [hms']; exact hE'.set hk hv); rw [hw]
      simp [fsMapUpdate, hU, hg, hau, hch, hf, List.getElem?_eq_getElem hj2, hsb]⟩
theorem VO.mput {u : ν.den} (hT : MapT P T κ ν) (hk : VO P orc ops n l fl ((w, .mp κ ν (mset kvs k u)) :: σ) K) (hx : evV fl x = some (.raw w) := by rfl) (hy : evV fl y = some (.v κ k) := by rfl) (hz : evV fl z = some (.v ν u) := by rfl) (hw : wantV ops fl g = some true := by rfl) :
    VO P orc ops n (⟨none, .mapUpdate T x y z, ty, pos, after, g⟩ :: l) fl ((w, .mp κ ν kvs) :: σ) K :=
  VO.mk0 (MakeV.mput hT hx hy hz) (by rintro _ _ ⟨rfl, rfl⟩; exact hk) hw
end
theorem FreshO.mkMap (κ ν : Ty) : FreshO P fl (.makeMap T none) (.mp κ ν []) :=
  ⟨rfl, fun h S t hs hok hS => ⟨fun k => .map (some k), .mapo [] 0, fun _ => rfl, fun S' hN hm => ⟨h.next, [], 0, rfl, hm, by rw [Heap.get_push, if_pos rfl], rfl, fun i hi => by simp at hi⟩, fun H _ _ _ _ _ => rfl⟩⟩
end Go.Fs
namespace Go.Fs
variable {P : Program} {orc : FuncId → List Value → Heap → Option (Value × Heap)} {h : Heap} {S : List Nat} {σ : Sto} {t : Tr} {fl : VL} {x y : Operand} {T T' : TypeId} {v pv : PV} {k k' : FloatKind} {p q : Nat}
theorem VF.ext {f : FuncId} {args : List PV} {r : PV} {fn : Func} {e : Array Value → Sem Value} {us : List Value} {w : Value} (hfn : P.funcs[f]? = some fn) (ho : ∀ us h, orc f us h = none) (hb : (fn.body.isNone && !(fn.name == "runtime.NumGoroutine")) = true) (h1 : (Extern.findNext fn).isNone = true) (h2 : Extern.find fn = some e)
    (ha : us.all af = true) (hus : ∀ (h : Heap) (S : List Nat) (us' : List Value), RepL h S args us' → us' = us) (hv : purely P (e us.toArray) = some w) (hr : ∀ (h : Heap) (S : List Nat), RepPV h S r w) : VF P orc f args r := fun h S us' hok hS hrep => by
  obtain rfl := hus h S us' hrep; exact EvF.ext (ho _ _) hfn hb h1 h2 ha hv ⟨Aft.refl _ _, hr _ _, fun _ => rfl⟩
end Go.Fs
namespace Ieee
open Format
end Ieee
namespace Go.Fs
variable {P : Program} {orc : FuncId → List Value → Heap → Option (Value × Heap)} {rnd : Option Nat} {h : Heap} {S : List Nat} {σ : Sto} {t : Tr} {fl : VL} {x y : Operand} {T : TypeId} {n : Nat} {τ τ' : Ty} {Q : Ex → VL → Sto → Prop}
section
variable {T' : TypeId}
end
end Go.Fs
namespace Go.Fs
variable {P : Program} {orc : FuncId → List Value → Heap → Option (Value × Heap)} {rnd : Option Nat} {h h' h0 h1 h2 : Heap} {S S' S0 B G : List Nat} {σ σ' : Sto} {t t' : Tr} {ms : List Nat} {fl nw : VL} {ops : Array Oper} {n : Nat} {l : List Oper} {K : VL → Sto → Prop} {Q : Ex → VL → Sto → Prop}
  {d : Tmp} {ty : TypeId} {pos : String} {after : Array Edge} {op : Op} {v pv : PV} {g : Option (Nat × Bool)} {x y z : Operand} {T T' e : TypeId} {w : Value} {s : ByteArray} {p : Nat}
theorem FreshO.rng (hT : P.underlying T = some .string := by kernel_rfl) (hx : evV fl x = some (.v .str s) := by rfl) : FreshO P fl (.range T x) (.it s 0) :=
  ⟨rfl, fun h S t hs hok hS => by
    have hv : evalO t x = .string s := RepV.str (hs x (by simp [Op.operands]) _ hx : RepV h S .str _ s); refine ⟨fun k => .pointer (some ⟨k, 0, none⟩), .iter s 0, fun _ => rfl, fun S' hN hm => ⟨h.next, rfl, hm, by rw [Heap.get_push, if_pos rfl]⟩, fun H _ _ _ _ _ => ?_⟩; show fsRange P T (evalO t x) H = _; rw [hv]
    simp [fsRange, hT]⟩
theorem MakeV.nextT (hp : p < s.size) (hx : evV fl x = some (.raw w)) : MakeV P fl ((w, .it s p) :: σ) (.next x true) fun v σ' => v = .tup [.v .bool true, .v (.int .i64) ((p : Nat) : Int), .v (.int .i32) (((Utf8.decode s p).1 : Nat) : Int)] ∧ σ' = (w, .it s (p + (Utf8.decode s p).2)) :: σ :=
  ⟨rfl, fun S0 h t L => by
    have h1 : evalO t x = w := evV_ok L.slots hx; obtain ⟨b, h3, h4, hg⟩ := L.cells _ List.mem_cons_self; have hw : w = .pointer (some ⟨b, 0, none⟩) := h3
    have hbk : blk w = [b] := by rw [hw]; rfl
    refine ⟨.tuple #[.bool true, .int .i64 ((p : Nat) : Int), .int .i32 (((Utf8.decode s p).1 : Nat) : Int)], h.set b (.iter s (p + (Utf8.decode s p).2)), _, _, ⟨rfl, rfl⟩, Made.head L (Aft.set hg (by rw [hbk]; simp)) (fun b hb => .inl hb) (by rw [hbk]; simp) fun hN => ?_, ?_, fun _ _ _ _ _ => ?_⟩
    · refine ⟨b, h3, ?_, by rw [Heap.get_set hg, if_pos rfl]⟩; rw [own_cons]; exact List.mem_append_left _ (List.mem_append_left _ (by rw [hbk]; simp))
    · exact ⟨_, rfl, _, _, rfl, RepV.ofBool _, _, _, rfl, RepV.ofInt _ _, _, _, rfl, RepV.ofInt _ _, rfl⟩
    show fsNext (evalO t x) true h = _; rw [h1, hw]
    simp [fsNext, hg, hp]⟩
theorem MakeV.nextF (hp : ¬ p < s.size) (hx : evV fl x = some (.raw w)) : MakeV P fl ((w, .it s p) :: σ) (.next x true) fun v σ' => v = .tup [.v .bool false] ∧ σ' = (w, .it s p) :: σ :=
  ⟨rfl, fun S0 h t L => by
    have h1 : evalO t x = w := evV_ok L.slots hx; obtain ⟨b, h3, h4, hg⟩ := L.cells _ List.mem_cons_self; have hw : w = .pointer (some ⟨b, 0, none⟩) := h3; refine ⟨.tuple #[.bool false], h, _, _, ⟨rfl, rfl⟩, Made.same L (Aft.refl h []), ⟨_, rfl, _, _, rfl, RepV.ofBool _, rfl⟩, fun _ _ _ _ _ => ?_⟩; show fsNext (evalO t x) true h = _; rw [h1, hw]
    simp [fsNext, hg, hp]⟩
theorem VO.next (hx : evV fl x = some (.raw w)) (h1 : p < s.size → VO P orc ops n l ((d, .tup [.v .bool true, .v (.int .i64) ((p : Nat) : Int), .v (.int .i32) (((Utf8.decode s p).1 : Nat) : Int)]) :: fl) ((w, .it s (p + (Utf8.decode s p).2)) :: σ) K) (h2 : ¬ p < s.size → VO P orc ops n l ((d, .tup [.v .bool false]) :: fl) ((w, .it s p) :: σ) K)
    (hw : wantV ops fl g = some true := by rfl) (hn : (Nat.blt d n && Nat.ble n 4000) = true := by rfl) : VO P orc ops n (⟨some d, .next x true, ty, pos, after, g⟩ :: l) fl ((w, .it s p) :: σ) K := by
  by_cases hp : p < s.size
  · exact VO.mk (MakeV.nextT hp hx) (by rintro _ _ ⟨rfl, rfl⟩; exact h1 hp) hw hn
  exact VO.mk (MakeV.nextF hp hx) (by rintro _ _ ⟨rfl, rfl⟩; exact h2 hp) hw hn
theorem CalmV.ext0 {b : Bool} (hx : evV fl x = some (.tup [.v .bool b]) := by rfl) : CalmV P fl σ (.extract x 0) (.v .bool b) := ⟨rfl, fun h S t hs _ => by
  obtain ⟨us, h1, u, r, rfl, h2, h3⟩ := (hs x (by simp [Op.operands]) _ hx : RepPV h S (.tup [.v .bool b]) _); obtain rfl : r = [] := h3; have hu : u = .bool b := RepV.bool h2; subst hu; refine ⟨.bool b, RepV.ofBool _, fun _ _ _ _ _ H => ?_⟩; show (bif isJunk (evalO t x) then none else (runPure P (Instr.extract (evalO t x) 0)).map _) = _; rw [h1]; have hj : isJunk (.tuple [Value.bool b].toArray) = false := rfl; rw [hj]
  rfl⟩
theorem decode_low {i : Nat} (h : (s.get! i).toNat < 128) : Utf8.decode s i = ((s.get! i).toNat, 1) := by
  unfold Utf8.decode; simp only [Nat.add_zero]; rw [if_pos h]
theorem decode_high {i : Nat} (h : ¬ (s.get! i).toNat < 128) : 128 ≤ (Utf8.decode s i).1 := by
  unfold Utf8.decode; simp only [Nat.add_zero]; rw [if_neg h]
  have hr : 128 ≤ Utf8.runeError := by decide
  split
  · split
    · assumption
    exact hr
  split
  · split
    · rename_i hc; have := (Bool.and_eq_true .. ▸ hc : _ ∧ _).1; have := of_decide_eq_true this; simp only; omega
    exact hr
  split
  · split
    · rename_i hc; have := (Bool.and_eq_true .. ▸ hc : _ ∧ _).1; have := of_decide_eq_true this; simp only; omega
    exact hr
  exact hr
structure GdT (ops : Array Oper) (fl : VL) (g : Option (Nat × Bool)) (b : Bool) : Prop where
  want : ∀ {h : Heap} {S : List Nat} {t : Tr}, Slots h S t fl → ∀ o : Oper, o.guard = g → fsWanted ops t o = some b
end Go.Fs
namespace Go.Fs
instance : DecidableEq (Ty.den .str) := inferInstanceAs (DecidableEq ByteArray)
instance {k : IntKind} : DecidableEq (Ty.den (.int k)) := inferInstanceAs (DecidableEq Int)
instance : DecidableEq (Ty.den .bool) := inferInstanceAs (DecidableEq Bool)
instance {a b : Ty} [DecidableEq a.den] [DecidableEq b.den] : DecidableEq (Ty.den (.pair a b)) := inferInstanceAs (DecidableEq (a.den × b.den))
variable {P : Program} {orc : FuncId → List Value → Heap → Option (Value × Heap)} {fl : VL} {σ γ : Sto} {T : TypeId} {τ : Ty}
theorem repL_raw {h : Heap} {S : List Nat} : ∀ (us : List Value), RepL h S (us.map PV.raw) us
  | [] => rfl
  | u :: r => ⟨u, r, rfl, rfl, repL_raw r⟩
theorem CalmV.buildA {pl : List (Nat × Nat)} {parts : Array (Nat × Operand)} {zs : List Value} {ps cs : List PV} (hT : BldT P T τ pl) (hz : zeroC τ = zs := by rfl) (hps : evVs fl (parts.toList.map (·.2)) = some ps := by rfl) (hb : bldL pl (zs.map .raw) (parts.toList.map (·.1)) ps = some cs := by rfl) : CalmV P fl σ (.build T parts) (.agg cs) :=
  ⟨rfl, fun h S t hs _ => by
    obtain ⟨z, z1, z2, z3⟩ := hT.zer.zero; obtain ⟨y1, y2⟩ := zero_rep h S τ; have hr : RepL h S ps ((parts.toList.map (·.2)).map (evalO t)) := sees_list (fun x hx => hs x (by simpa [Op.operands] using hx)) hps; obtain ⟨cs', f1, f2, f3, f4⟩ := fill_bld hb hr (show RepL h S (zs.map .raw) (zeroC τ) from by rw [hz]; exact repL_raw zs) (af0_one y2); refine ⟨.agg cs'.toArray, ⟨cs', rfl, f2⟩, fun _ _ _ _ _ H => ?_⟩; show (bif (parts.toList.all fun p => (evalO t p.2).cells.toList.all oneCell) && ((((P.info? T).bind (·.zero)).map fun z => z.cells.toList.all af0) == some true) then (runPure P (Instr.build T (parts.map fun p => (p.1, evalO t p.2)))).map fun v => (v, H) else none) = _
    have c1 : (parts.toList.all fun p => (evalO t p.2).cells.toList.all oneCell) = true := by
      rw [List.map_map, List.all_map] at f3; exact f3
    have c2 : ((((P.info? T).bind (·.zero)).map fun z => z.cells.toList.all af0) == some true) = true := by
      rw [z1]
      have e : z.cells.toList.all af0 = true := by rw [z2]; exact y2
      simp only [Option.map_some, e]; rfl
    have hrun := hT.run z (parts.map fun p => (p.1, evalO t p.2)) cs'.toArray z1 (by
      rw [← f1, Array.toList_map, ← zip_map, List.map_map]; congr 1
      rw [← z2])
    rw [c1, c2, hrun]
    rfl⟩
def byteE (s : ByteArray) (i : Int) : Int := (((s.get! i.toNat).toNat : Nat) : Int)
theorem byteE_nat (s : ByteArray) (i : Nat) : byteE s i = (((s.get! i).toNat : Nat) : Int) := rfl
theorem byteE_range (s : ByteArray) (i : Int) : 0 ≤ byteE s i ∧ byteE s i < 256 := by
  have := (s.get! i.toNat).toNat_lt; unfold byteE; omega
theorem CalmV.ixS {x y : Operand} {s : ByteArray} {i : Int} (hx : evV fl x = some (.v .str s)) (hy : evV fl y = some (.v (.int .i64) i)) (h0 : 0 ≤ i) (h1 : i < (s.size : Nat)) (hT : P.underlying T = some .string := by kernel_rfl) : CalmV P fl σ (.index T x y) (.v (.int .u8) (byteE s i)) :=
  ⟨rfl, fun h S t hq _ => by
    have hv : evalO t x = .string s := RepV.str (hq x (by simp [Op.operands]) _ hx : RepV h S .str _ s); have hi : evalO t y = .int .i64 i := RepV.int (hq y (by simp [Op.operands]) _ hy : RepV h S (.int .i64) _ i); refine ⟨.int .u8 (byteE s i), RepV.ofInt _ _, fun _ _ _ _ _ H => ?_⟩; show (if af (evalO t y) then (runPure P (Instr.index T (evalO t x) (evalO t y))).map _ else none) = _; rw [hi, hv, if_pos (show af (Value.int .i64 i) = true from rfl)]
    have hb : i.toNat < s.size := by omega
    have h8 : s[i.toNat]? = some (s.get! i.toNat) := by
      rw [getElem?_pos s i.toNat hb]; congr 1; show s.data[i.toNat] = s.data[i.toNat]!; rw [getElem!_pos s.data i.toNat hb]
    have h9 : runPure P (Instr.index T (.string s) (.int .i64 i)) = some (.int .u8 (byteE s i)) := by
      unfold Instr.index; simp only [runPure_bind, asIntOf, runPure_pure, Option.bind_some, runPure_underlying hT, if_pos h0, h8]; rfl
    rw [h9]; rfl⟩
end Go.Fs
namespace Go.Fs
variable {P : Program} {orc : FuncId → List Value → Heap → Option (Value × Heap)} {fl : VL} {σ : Sto} {T T' e ty : TypeId} {τ : Ty} {ops : Array Oper} {n : Nat} {l : List Oper} {K : VL → Sto → Prop} {d : Tmp} {pos : String} {after : Array Edge} {g : Option (Nat × Bool)} {x y : Operand} {xs : List τ.den}
theorem agg_one {w : Value} (h : oneCell w = true) : isAggV w = false := by
  cases w <;> first | rfl | cases h
end Go.Fs
namespace Go.Fs
variable {P : Program} {orc : FuncId → List Value → Heap → Option (Value × Heap)} {h h1 h2 h' : Heap} {S S0 : List Nat} {σ γ σr : Sto} {fl : VL} {ops : Array Oper} {n : Nat} {l : List Oper} {K : VL → Sto → Prop} {d : Tmp} {ty : TypeId} {pos : String} {after : Array Edge} {g : Option (Nat × Bool)}
theorem stepAt_yield {o : Oper} {c : Call} {f : Operand} {j : Nat} {ev : Operand → Value} (ho : o.op = .call c) (hc : c.callee = .value f) (hf : ev f = .func (.yield j) #[] #[]) (m : Nat) (h : Heap) :
    stepAt P orc m o ev h = fsYield (fsCode P orc m) j (c.args.toList.map ev) h := by
  unfold stepAt fsOp; rw [ho]; simp only [hc, hf]
theorem EvO.yield {QO : Tr → Heap → Prop} {o : Oper} {t : Tr} {c : Call} {f : Operand} {j : Nat} (hw : fsWanted ops t o = some true) (ho : o.op = .call c) (hc : c.callee = .value f) (hf : evalO t f = .func (.yield j) #[] #[])
    (hl : EvY P orc j (c.args.toList.map (evalO t)) h fun v h' => ∃ t', put n t o.dst v = some t' ∧ EvO P orc ops n l t' h' QO) : EvO P orc ops n (o :: l) t h QO := by
  obtain ⟨m, v, h1, hr, t1, hp, k, t2, h2, hr2, hq⟩ := hl; refine ⟨max m k, t2, h2, ?_, hq⟩; have h3 := fsYield_mono (fsCode_mono (P := P) (orc := orc) (Nat.le_max_left m k)) _ _ _ _ hr; have h4 : stepM P orc (max m k) o (evalO t) h = some (v, h1) := stepAt_M _ _ _ _ (by rw [stepAt_yield ho hc hf]; exact h3); simp only [fsOps, hw, h4, hp]; exact fsOps_mono (stepM_mono (Nat.le_max_right m k)) _ _ _ _ hr2
theorem EvY.mono {j : Nat} {args : List Value} {Q Q' : Value → Heap → Prop} (hc : EvY P orc j args h Q) (hq : ∀ v h', Q v h' → Q' v h') : EvY P orc j args h Q' :=
  let ⟨m, v, h', h1, h2⟩ := hc; ⟨m, v, h', h1, hq _ _ h2⟩
theorem EvY.round {Q : Value → Heap → Prop} {j : Nat} {j0 : Option Code} {tmps t : Tr} {params : Array Tmp} {assign body : Code} {dm : Nat} {args : List Value} (hg : h.get j = some (.loopo .ready j0 tmps n params assign body dm)) (hlen : Nat.beq args.length params.size = true) (ht : setAll n tmps (params.toList.zip args) = some t)
    (ha : EvC P orc (some j) assign ⟨t, n, []⟩ h fun e fr h1 => e = .normal ∧ ∃ jp tm n' ps' as' bo' d', h1.get j = some (.loopo .ready jp tm n' ps' as' bo' d') ∧
      EvC P orc (some j) body fr (h1.set j (.loopo .busy jp tm n' ps' as' bo' d')) fun e _ h2 => ∃ st jp2 tm2 n2 ps2 as2 bo2 d2, h2.get j = some (.loopo st jp2 tm2 n2 ps2 as2 bo2 d2) ∧
        Q (.bool (jumpOf e).isNone) (h2.set j (.loopo (bif (jumpOf e).isNone then .ready else .done) (jumpOf e) tm2 n2 ps2 as2 bo2 d2))) : EvY P orc j args h Q := by
  obtain ⟨m, e, fr, h1, hr, rfl, jp, tm, n', ps', as', bo', d', hg1, k, e2, fr2, h2, hr2, st, jp2, tm2, n2, ps2, as2, bo2, d2, hg2, hq⟩ := ha; refine ⟨max m k, _, _, ?_, hq⟩; have a1 := fsCode_mono (P := P) (orc := orc) (Nat.le_max_left m k) _ _ _ _ _ hr; have a2 := fsCode_mono (P := P) (orc := orc) (Nat.le_max_right m k) _ _ _ _ _ hr2; unfold fsYield; simp only [hg, hlen, cond_true, ht, a1, hg1, a2, hg2]
def EvFK (P : Program) (orc : FuncId → List Value → Heap → Option (Value × Heap)) (f : FuncId) (args : List Value) (h : Heap) (Q : Value → Heap → Prop) : Prop := ∃ m v h', fsEnterK P true (fsCode P orc m) f args h = some (v, h') ∧ Q v h'
theorem EvFK.mono {f : FuncId} {args : List Value} {Q Q' : Value → Heap → Prop} (hc : EvFK P orc f args h Q) (hq : ∀ v h', Q v h' → Q' v h') : EvFK P orc f args h Q' :=
  let ⟨m, v, h', h1, h2⟩ := hc; ⟨m, v, h', h1, hq _ _ h2⟩
theorem EvFK.enter {f : FuncId} {args : List Value} {fn : Func} {c : Code} {QF : Value → Heap → Prop} (hfn : P.funcs[f]? = some fn) (hc : fn.body = some c) (hn : (Nat.blt 4000 fn.ntmps || Nat.blt fn.ntmps args.length) = false)
    (hb : EvC P orc none c ⟨fillTr .leaf 0 args, fn.ntmps, []⟩ { next := h.next, low := h.next, objs := h.objs } fun e fr h1 =>
      e.goes = true ∧ ∃ h2 vs, dropMarks fr.marks h1 = some h2 ∧ fsResults P fr.t h2 fn.results.toList = some vs ∧ QF (tupled vs) { next := h2.next, low := min h.low h2.low, objs := h2.objs }) : EvFK P orc f args h QF := by
  obtain ⟨m, e, fr, h1, hr, hg, h2, vs, hd, hvs, hq⟩ := hb; refine ⟨m, _, _, ?_, hq⟩; unfold fsEnterK; simp only [hfn, hc, hn, cond_false, hr, hg, cond_true, hd, hvs, Bool.not_true, Bool.false_and]
theorem EvC.rangeFunc {fr : Fr} {Q : Ex → Fr → Heap → Prop} {x : Operand} {f : FuncId} {a c : Array Value} {ps : Array Tmp} {assign body : Code} (hgv : evalO fr.t x = .func (.func f) a c)
    (hl : EvFK P orc f (a.toList ++ [.func (.yield (h.push .defd).next) #[] #[]] ++ c.toList) ((h.push .defd).push (.loopo .ready none fr.t fr.n ps assign body h.next)) fun _ h3 =>
      ∃ st e tm n' ps' as' bo' d', h3.get (h.push .defd).next = some (.loopo st (jumpOf e) tm n' ps' as' bo' d') ∧ st ≠ .busy ∧ Q e ⟨fr.t, fr.n, h.next :: fr.marks⟩ (h3.set (h.push .defd).next (.loopo .exhausted (jumpOf e) tm n' ps' as' bo' d'))) :
    EvC P orc none (.rangeFunc x ps assign body) fr h Q := by
  obtain ⟨m, v, h3, hr, st, e, tm, n', ps', as', bo', d', hg, hst, hq⟩ := hl; refine ⟨m + 1, e, _, _, ?_, hq⟩; show fsRangeFunc P (fsCode P orc m) none x ps assign body fr h = _; unfold fsRangeFunc fsMark; simp only [hgv, hr, hg]
  cases st with
  | busy => exact absurd rfl hst
  | _ => cases e <;> rfl
section
variable (P orc)
def VYG (yv : Value) (args : List PV) (γ : Sto) (Q : PV → Sto → Prop) : Prop := ∀ (h : Heap) (S : List Nat) (us : List Value), HOk h → SOk h S → (∀ c ∈ γ, CellR h (own γ ++ S) c.1 c.2) → (own γ).Nodup → (∀ b ∈ own γ, b ∉ S) → RepL h (own γ ++ S) args us →
  ∃ j, yv = .func (.yield j) #[] #[] ∧ EvY P orc j us h fun u h' => ∃ r γ', Q r γ' ∧ Made S h h' γ γ' ∧ RepPV h' (own γ' ++ S) r u
end
theorem VO.callY {f : Operand} {args : Array Operand} {ats : Array TypeId} {yv : Value} {asl : List PV} {Q : PV → Sto → Prop} (γ : Sto) (hσ : γ ++ σ = σr) (hf : evV fl f = some (.raw yv)) (ha : evVs fl args.toList = some asl) (hc : VYG P orc yv asl γ Q) (hk : ∀ r γ', Q r γ' → VO P orc ops n l ((d, r) :: fl) (γ' ++ σ) K)
    (hw : wantV ops fl g = some true := by rfl) (hn : (Nat.blt d n && Nat.ble n 4000) = true := by rfl) : VO P orc ops n (⟨some d, .call { callee := .value f, args := args, argTypes := ats }, ty, pos, after, g⟩ :: l) fl σr K := fun h0 G S0 t h ms Iv0 => by
  subst hσ; obtain ⟨n1, n2⟩ := fits hn; have L := Iv0.lc; have hap := L.apart; rw [own_app] at hap; obtain ⟨hap1, hap2, hap3⟩ := List.nodup_append.1 hap; have hfv : evalO t f = yv := evV_ok Iv0.slots hf; have hargs := evVs_ok Iv0.slots ha; rw [own_app, List.append_assoc] at hargs
  have hcells : ∀ c ∈ γ, CellR h (own γ ++ (own σ ++ S0)) c.1 c.2 := fun c hc => by
    have := L.cells c (List.mem_append_left _ hc)
    rwa [own_app, List.append_assoc] at this
  obtain ⟨j, hj, hY⟩ := hc h (own σ ++ S0) _ Iv0.ok L.sokR hcells hap1 (fun b hb hm => by
    rcases List.mem_append.1 hm with hm | hm
    · exact hap3 b hb b hm rfl
    exact L.sep b (by rw [own_app]; exact List.mem_append_left _ hb) hm) hargs
  refine EvO.yield (want_ok Iv0.slots hw) rfl rfl (hfv.trans hj) (hY.mono fun u h' hq => ?_); obtain ⟨r, γ', q1, q2, q3⟩ := hq; refine ⟨_, put_fits n1 t u, hk r γ' q1 h0 G S0 _ h' ms ((Iv0.made (Made.app L q2)).set ?_ n2)⟩; rw [own_app, List.append_assoc]; exact q3
def prmVL : List Tmp → List PV → VL → VL
  | p :: ps, a :: asl, fl => prmVL ps asl ((p, a) :: fl)
  | _, _, fl => fl
theorem slots_setAll (hn4 : n ≤ 4000) : ∀ {ps : List Tmp} {asl : List PV} {us : List Value} {t : Tr} {fl : VL}, (∀ p ∈ ps, Nat.blt p n = true) → Slots h S t fl → RepL h S asl us → ps.length = asl.length →
    ∃ t', setAll n t (ps.zip us) = some t' ∧ Slots h S t' (prmVL ps asl fl)
  | [], asl, us, t, fl, _, hs, hr, _ => ⟨t, by cases us <;> rfl, by cases asl <;> exact hs⟩
  | p :: ps, [], us, t, fl, _, hs, hr, hl => by cases hl
  | p :: ps, a :: asl, us, t, fl, hp, hs, ⟨u, r, h1, h2, h3⟩, hl => by
    subst h1; have hpn := hp p List.mem_cons_self; have hp4 : p < 4000 := Nat.lt_of_lt_of_le (nblt hpn) hn4; obtain ⟨t', e1, e2⟩ := slots_setAll (ps := ps) (asl := asl) (us := r) (t := t.set depth p u) (fl := (p, a) :: fl) hn4 (fun q hq => hp q (List.mem_cons_of_mem _ hq)) (hs.set h2 hp4) h3 (by simpa using hl); refine ⟨t', ?_, e2⟩; show setAll n t ((p, u) :: ps.zip r) = _; unfold setAll; rw [put_fits hpn]; exact e1
theorem VYG.round {yv : Value} {fl0 : VL} {ps : Array Tmp} {assign body : Code} {args : List PV} {Qb : Ex → VL → Sto → Prop} (hlen : ps.size = args.length) (hps : ∀ p ∈ ps.toList, Nat.blt p n = true) (hn4 : n ≤ 4000)
    (hb : ∀ j, VC P orc (some j) assign n (prmVL ps.toList args fl0) γ (fun e fl σ => e = .normal ∧ VC P orc (some j) body n fl σ Qb)) :
    VYG P orc yv args ((yv, .loop .ready none n fl0 ps assign body) :: γ) (fun r γ' => ∃ e fl σ', Qb e fl σ' ∧ r = .v .bool (jumpOf e).isNone ∧ γ' = (yv, .loop (bif (jumpOf e).isNone then .ready else .done) (jumpOf e) n fl0 ps assign body) :: σ') := by
  intro h S us hok hS hcells hnd hsep ha; obtain ⟨j, tmps, dm, hyv, hjS, hg, hsl⟩ := hcells _ List.mem_cons_self; have hyv' : yv = .func (.yield j) #[] #[] := hyv; subst hyv'; have how : ∀ (c : Cell) (s : Sto), own ((.func (.yield j) #[] #[], c) :: s) = j :: own s := fun c s => rfl; rw [how] at hcells hnd hsep ha hsl; obtain ⟨hj1, hnd2⟩ := List.nodup_cons.1 hnd; have hjn : j < h.next := hok j _ hg; have hjS' : j ∉ S := hsep j List.mem_cons_self
  have goes0 : Goes h (j :: own γ ++ S) h (own γ ++ (j :: S)) := Goes.less fun b hb => by
    rcases List.mem_append.1 hb with hb | hb
    · exact List.mem_append_left _ (List.mem_cons_of_mem _ hb)
    rcases List.mem_cons.1 hb with hb | hb
    · subst hb; exact List.mem_append_left _ List.mem_cons_self
    exact List.mem_append_right _ hb
  obtain ⟨t1, hset, hsl1⟩ := slots_setAll (n := n) hn4 hps hsl ha hlen; have hlu := ha.len
  have I1 : Iv h (own γ) (j :: S) h γ t1 [] (prmVL ps.toList args fl0) := {
    ok := hok
    s0 := fun b hb => by
      rcases List.mem_cons.1 hb with hb | hb
      · subst hb; exact hjn
      exact hS b hb
    aft := Aft.refl _ _
    cells := fun c hc => (hcells c (List.mem_cons_of_mem _ hc)).keep (fun _ _ => rfl) goes0 fun b hb => List.mem_append_left _ (List.mem_flatMap.2 ⟨c, hc, hb⟩)
    new := fun b hb => ⟨.inl hb, fun hm => by
      rcases List.mem_cons.1 hm with hm | hm
      · subst hm; exact hj1 hb
      exact hsep b (List.mem_cons_of_mem _ hb) hm⟩
    apart := hnd2
    mark := fun d hd => by cases hd
    marks := List.nodup_nil
    slots := hsl1.nx goes0 }
  refine ⟨j, rfl, EvY.round hg (by rw [hlu, ← hlen]; exact Nat.beq_refl _) hset ((hb j h (own γ) (j :: S) t1 h [] I1).mono fun e fr h1 hq => ?_)⟩; obtain ⟨hfn, fl1, σ1, Iv1, he, hbody⟩ := hq; have g1 : h1.get j = h.get j := Iv1.aft.get j hjn hj1; have hg1 := g1.trans hg; refine ⟨he, _, _, _, _, _, _, _, hg1, ?_⟩
  let B : AObj := .loopo .busy none tmps n ps assign body dm
  have hgB : ∀ b, (h1.set j B).get b = if b = j then some B else h1.get b := fun b => Heap.get_set hg1 ..; have hgA : ∀ b, (h.set j B).get b = if b = j then some B else h.get b := fun b => Heap.get_set hg ..; have hj2 : j ∉ own σ1 := fun hm => (Iv1.new j hm).2 List.mem_cons_self
  have goes1 : Goes h1 (own σ1 ++ (j :: S)) (h1.set j B) (own σ1 ++ (j :: S)) := fun b o hb hn => ⟨by
    rw [hgB, if_neg (fun e => hn (by subst e; exact List.mem_append_right _ List.mem_cons_self))]; exact hb, hn⟩
  have a2 := (Aft.set (h := h1) (o' := B) (B := [j]) hg1 List.mem_cons_self)
  have I2 : Iv (h.set j B) (own γ) (j :: S) (h1.set j B) σ1 fr.t fr.marks fl1 := {
    ok := a2.ok Iv1.ok
    s0 := I1.s0
    aft := {
      next := Iv1.aft.next
      get := fun b hb hn => by
        rw [hgB, hgA]; split
        · rfl
        exact Iv1.aft.get b hb hn
      ok := fun _ => a2.ok Iv1.ok
      low := fun e h3 h4 h5 => by
        have h6 : e ≤ h.low := Nat.le_trans h3 (Nat.min_le_left _ _); have h7 : e ≤ j := Nat.le_trans h3 (Nat.min_le_right _ _); exact Nat.le_min.2 ⟨Iv1.aft.low e h6 h4 h5, h7⟩
      chg := fun b hb => by
        rw [hgB, hgA]; by_cases e : b = j
        · rw [if_pos e, if_pos e]; exact .inl rfl
        rw [if_neg e, if_neg e]; rcases Iv1.aft.chg b hb with h3 | h3
        · exact .inl h3
        exact .inr (Nat.le_trans (Nat.min_le_left _ _) h3)
      lowle := by
        show min h1.low j ≤ min h.low j; have := Iv1.aft.lowle
        omega }
    cells := fun c hc => (Iv1.cells c hc).keep (fun b hb => by
      rw [hgB, if_neg (fun e => hj2 (by subst e; exact List.mem_flatMap.2 ⟨c, hc, hb⟩))]) goes1 fun b hb => List.mem_append_left _ (List.mem_flatMap.2 ⟨c, hc, hb⟩)
    new := Iv1.new
    apart := Iv1.apart
    mark := fun d hd => by
      obtain ⟨m1, m2⟩ := Iv1.mark d hd; refine ⟨m1, ?_⟩; rw [hgB, if_neg (fun e => by subst e; rw [hg1] at m2; cases m2)]; exact m2
    marks := Iv1.marks
    slots := Iv1.slots.nx goes1 }
  have hfr : fr = ⟨fr.t, n, fr.marks⟩ := by cases fr; cases hfn; rfl
  rw [hfr]; refine (hbody (h.set j B) (own γ) (j :: S) fr.t (h1.set j B) fr.marks I2).mono fun e2 fr2 h2 hq2 => ?_; obtain ⟨_, fl2, σ2, Iv2, hQb⟩ := hq2; have hj3 : j ∉ own σ2 := fun hm => (Iv2.new j hm).2 List.mem_cons_self
  have g2 : h2.get j = some B := by
    rw [Iv2.aft.get j hjn hj1, hgA, if_pos rfl]
  refine ⟨_, _, _, _, _, _, _, _, g2, .v .bool (jumpOf e2).isNone, _, ⟨e2, fl2, σ2, hQb, rfl, rfl⟩, ?_, RepV.ofBool _⟩
  let C : AObj := .loopo (bif (jumpOf e2).isNone then .ready else .done) (jumpOf e2) tmps n ps assign body dm
  have hgC : ∀ b, (h2.set j C).get b = if b = j then some C else h2.get b := fun b => Heap.get_set g2 ..; have at1 : Aft h (h.set j B) (j :: own γ) := Aft.set hg List.mem_cons_self; have at2 : Aft h h2 (j :: own γ) := at1.trans Iv2.aft fun i hi => .inl (List.mem_cons_of_mem _ hi); have at3 : Aft h (h2.set j C) (j :: own γ) := at2.trans (Aft.set (B := [j]) g2 List.mem_cons_self) fun i hi => .inl (by rw [List.mem_singleton.1 hi]; exact List.mem_cons_self)
  have hnew : ∀ b ∈ j :: own σ2, b ∈ j :: own γ ∨ h.next ≤ b := fun b hb => by
    rcases List.mem_cons.1 hb with hb | hb
    · subst hb; exact .inl List.mem_cons_self
    rcases (Iv2.new b hb).1 with h3 | h3
    · exact .inl (List.mem_cons_of_mem _ h3)
    exact .inr h3
  have goes3 : Goes h (j :: own γ ++ S) (h2.set j C) (j :: own σ2 ++ S) := at3.goes hok (fun b hb => List.mem_append_left _ hb) fun b hb => by
    rcases List.mem_append.1 hb with hb | hb
    · rcases hnew b hb with h3 | h3
      · exact .inl (List.mem_append_left _ h3)
      exact .inr h3
    exact .inl (List.mem_append_right _ hb)
  refine ⟨at3, hnew, List.nodup_cons.2 ⟨hj3, Iv2.apart⟩, fun c hc => ?_⟩; show CellR (h2.set j C) (j :: own σ2 ++ S) c.1 c.2; rcases List.mem_cons.1 hc with hc' | hc'
  · subst hc'; exact ⟨j, tmps, dm, rfl, List.mem_append_left _ List.mem_cons_self, by rw [hgC, if_pos rfl], hsl.nx goes3⟩
  refine (Iv2.cells c hc').keep (fun b hb => ?_) (fun b o hb hn => ⟨?_, fun hm => ?_⟩) fun b hb => List.mem_append_left _ (List.mem_cons_of_mem _ (List.mem_flatMap.2 ⟨c, hc', hb⟩))
  · rw [hgC, if_neg (fun e => hj3 (by subst e; exact List.mem_flatMap.2 ⟨c, hc', hb⟩))]
  · rw [hgC, if_neg (fun e => hn (by subst e; exact List.mem_append_right _ List.mem_cons_self))]; exact hb
  rcases List.mem_append.1 hm with hm | hm
  · rcases List.mem_cons.1 hm with hm | hm
    · exact hn (by subst hm; exact List.mem_append_right _ List.mem_cons_self)
    exact hn (List.mem_append_left _ hm)
  exact hn (List.mem_append_right _ (List.mem_cons_of_mem _ hm))
theorem VYG.mono {yv : Value} {args : List PV} {Q Q' : PV → Sto → Prop} (hy : VYG P orc yv args γ Q) (hq : ∀ r s, Q r s → Q' r s) : VYG P orc yv args γ Q' := fun h S us a1 a2 a3 a4 a5 a6 => by
  obtain ⟨j, e, hY⟩ := hy h S us a1 a2 a3 a4 a5 a6; exact ⟨j, e, hY.mono fun u h' ⟨r, γ', q1, q2⟩ => ⟨r, γ', hq _ _ q1, q2⟩⟩
section
variable (P orc)
def VFGK (f : FuncId) (args : List PV) (γ : Sto) (Q : Sto → Prop) : Prop := ∀ (h : Heap) (S : List Nat) (us : List Value), HOk h → SOk h S → (∀ c ∈ γ, CellR h (own γ ++ S) c.1 c.2) → (own γ).Nodup → (∀ b ∈ own γ, b ∉ S) → RepL h (own γ ++ S) args us →
  EvFK P orc f us h fun _ h' => ∃ γ', Q γ' ∧ Made S h h' γ γ'
end
theorem VFGK.enter {f : FuncId} {args : List PV} {fn : Func} {c : Code} {Q : Sto → Prop} (hfn : P.funcs[f]? = some fn) (hc : fn.body = some c) (hres : fn.results.toList = []) (hn : (Nat.blt 4000 fn.ntmps || Nat.blt fn.ntmps args.length) = false)
    (hb : VC P orc none c fn.ntmps (argVL 0 args) γ (fun e _ σ => e.goes = true ∧ Q σ)) : VFGK P orc f args γ Q := fun h S us hok hS hcells hnd hsep ha => by
  have hl := ha.len
  have hn2 : Nat.blt 4000 fn.ntmps = false ∧ Nat.blt fn.ntmps args.length = false := by simpa using hn
  have n3 := nble_no hn2.1; have n4 := nble_no hn2.2; have ha' : RepL (entry h) (own γ ++ S) args us := RepL.nx (h := h) (h' := entry h) (fun _ _ a b => ⟨a, b⟩) ha
  have I0 : Iv (entry h) (own γ) S (entry h) γ (fillTr .leaf 0 us) [] (argVL 0 args) := {
    ok := hok
    s0 := hS.1
    aft := Aft.refl _ _
    cells := fun c hc => (hcells c hc).keep (fun _ _ => rfl) (fun _ _ a b => ⟨a, b⟩) fun b hb => List.mem_append_left _ (List.mem_flatMap.2 ⟨c, hc, hb⟩)
    new := fun b hb => ⟨.inl hb, hsep b hb⟩
    apart := hnd
    mark := fun d hd => by cases hd
    marks := List.nodup_nil
    slots := slots_args (hS.2.ent hcells) ha' (by omega) }
  refine EvFK.enter hfn hc (by rw [hl]; exact hn) ((hb (entry h) (own γ) S _ (entry h) [] I0).mono fun e fr h1 hq => ?_); obtain ⟨_, fl', σ', Iv1, he, hQ⟩ := hq; obtain ⟨h2, d1, d2, d3⟩ := drops_ok Iv1.marks fun d hd => (Iv1.mark d hd).2
  have hgd : ∀ b o, h1.get b = some o → o ≠ .defd → h2.get b = some o := fun b o hg hne => by
    rw [d3 b (fun hm => hne (by have := (Iv1.mark b hm).2; rw [hg] at this; exact Option.some.inj this))]; exact hg
  have a2 : Aft (entry h) h2 (own γ) := Iv1.aft.trans d2 fun i hi => .inr (Iv1.mark i hi).1
  have hrow : ∀ c ∈ σ', ∀ b ∈ blk c.1, h2.get b = h1.get b := fun c hc b hb => by
    obtain ⟨o, hg, hne⟩ := (Iv1.cells c hc).isObj b hb; rw [hgd b _ hg hne, hg]
  have hcell2 : ∀ c ∈ σ', CellR h2 (own σ' ++ S) c.1 c.2 := fun c hc => by
    have hx := Iv1.cells c hc; have hN : GoesR h1 (own σ' ++ S) h2 (own σ' ++ S) := fun b _ hg hne hbS => ⟨hgd b _ hg hne, hbS⟩; have hgb := hrow c hc; obtain ⟨w, cc⟩ := c
    cases cc with
    | row e τ xs =>
      rcases hx with hx | ⟨b, rs, m, h3, h4, h5, h6⟩
      · exact .inl hx
      exact .inr ⟨b, rs, m, h3, h4, hgd b _ h5 (by simp), h6.1, fun i hi => (h6.2 i hi).nxR hN⟩
    | var cs =>
      obtain ⟨b, e, vs, h3, h4, h5, h6, h7⟩ := hx
      exact ⟨b, e, vs, h3, h4, hgd b _ h5 (by simp), h6.nxR hN, h7⟩
    | cap e k τ xs =>
      obtain ⟨b, rs, m, h3, h4, h5, h6, h7, h8⟩ := hx
      exact ⟨b, rs, m, h3, h4, hgd b _ h5 (by simp), h6, h7, h8.1, fun i hi => (h8.2 i hi).nxR hN⟩
    | mp κ ν kvs =>
      obtain ⟨b, es, c, h3, h4, h5, h6, h7⟩ := hx
      exact ⟨b, es, c, h3, h4, hgd b _ h5 (by simp), h6, fun i hi hj => ⟨⟨(h7 i hi hj).1.1, (h7 i hi hj).1.2.nxR hN⟩, ⟨(h7 i hi hj).2.1, (h7 i hi hj).2.2.nxR hN⟩⟩⟩
    | it s pos =>
      obtain ⟨b, h3, h4, h5⟩ := hx
      exact ⟨b, h3, h4, hgd b _ h5 (by simp)⟩
    | loop st jump n fl ps assign body =>
      obtain ⟨l, tmps, d, h3, h4, h5, h6⟩ := hx
      exact ⟨l, tmps, d, h3, h4, hgd l _ h5 (by simp), h6.nxR hN⟩
    | cel e n cs =>
      rcases hx with hx | ⟨b, rs, m, h3, h4, h5, h6, h7⟩
      · exact .inl hx
      exact .inr ⟨b, rs, m, h3, h4, hgd b _ h5 (by simp), h6.nxR hN, h7⟩
  have hnew2 : ∀ b ∈ own σ', b ∈ own γ ∨ h.next ≤ b := fun b hb => (Iv1.new b hb).1; refine ⟨he, h2, [], d1, by rw [hres]; rfl, σ', hQ, ⟨⟨a2.next, a2.get, fun x => a2.ok x, fun e h3 h4 h5 => Nat.le_min.2 ⟨h3, a2.low e (Nat.le_trans h4 (Nat.le_refl _)) h4 h5⟩, fun b hb => ?_, Nat.min_le_left _ _⟩, hnew2, Iv1.apart, fun c hc => (hcell2 c hc).keep (fun _ _ => rfl) (fun _ _ a b => ⟨a, b⟩) fun b hb => List.mem_append_left _ (List.mem_flatMap.2 ⟨c, hc, hb⟩)⟩⟩; rcases a2.chg b hb with h3 | h3
  · exact .inl h3
  exact .inr (Nat.le_trans (Nat.min_le_right _ _) h3)
end Go.Fs
namespace Go.Fs
variable {P : Program} {orc : FuncId → List Value → Heap → Option (Value × Heap)} {h h' h0 h1 h2 : Heap} {S S' S0 B G : List Nat} {σ σ' σr : Sto} {t t' : Tr} {ms : List Nat} {fl : VL} {ops : Array Oper} {n i mem : Nat} {l : List Oper} {K : VL → Sto → Prop} {Q : Ex → VL → Sto → Prop}
  {d : Tmp} {ty : TypeId} {pos : String} {after : Array Edge} {op : Op} {v pv : PV} {g : Option (Nat × Bool)} {x y z : Operand} {T T' e : TypeId} {τ τ' : Ty} {w : Value}
section
variable {α : Type} [DecidableEq α] {dd : α} {xs : List α}
end
end Go.Fs
namespace Go.Fs
variable {α : Type}
structure Weak (lt : α → α → Bool) : Prop where
  asym : ∀ a b, lt a b = true → lt b a = false
  neg : ∀ a b c, lt a b = false → lt b c = false → lt a c = false
variable {lt : α → α → Bool}
def eqv (lt : α → α → Bool) (a b : α) : Bool := !lt a b && !lt b a
def SameEq (lt : α → α → Bool) (xs ys : List α) : Prop := ∀ a, xs.filter (eqv lt a) = ys.filter (eqv lt a)
variable {d : α}
abbrev at_ (xs : List α) (i : Nat) (d : α) : α := xs.getD i d
structure Seg (lt : α → α → Bool) (xs ys : List α) (a b : Nat) : Prop where
  len : ys.length = xs.length
  lo : ys.take a = xs.take a
  hi : ys.drop b = xs.drop b
  same : SameEq lt xs ys
theorem three (xs : List α) {a b : Nat} (h : a ≤ b) : xs = xs.take a ++ ((xs.take b).drop a ++ xs.drop b) := by
  conv => lhs; rw [← List.take_append_drop b xs]
  rw [← List.append_assoc]; congr 1
  conv => lhs; rw [← List.take_append_drop a (xs.take b)]
  rw [List.take_take, Nat.min_eq_left h]
structure Insd (lt : α → α → Bool) (d : α) (ys : List α) (a j i : Nat) : Prop where
  srt : ∀ p q, a ≤ p → p < q → q ≤ i → q ≠ j → p ≠ j → lt (ys.getD q d) (ys.getD p d) = false
  less : ∀ q, j < q → q ≤ i → lt (ys.getD j d) (ys.getD q d) = true
end Go.Fs
namespace Go.Fs
variable {α : Type} {lt : α → α → Bool} {d : α} {ys : List α} {a b m n s e i j k : Nat}
theorem four (h1 : s ≤ m) (h2 : m ≤ e) : ys = ys.take s ++ ((ys.drop s).take (m - s) ++ ((ys.drop m).take (e - m) ++ ys.drop e)) := by
  conv => lhs; rw [← List.take_append_drop s ys, ← List.take_append_drop (m - s) (ys.drop s), List.drop_drop, show s + (m - s) = m by omega, ← List.take_append_drop (e - m) (ys.drop m), List.drop_drop, show m + (e - m) = e by omega]
structure Cut (lt : α → α → Bool) (d : α) (ys : List α) (a m b s e : Nat) : Prop where
  le : s ≤ m ∧ m ≤ e ∧ a ≤ s ∧ e ≤ b
  lo : a < s → e < b → lt (ys.getD e d) (ys.getD (s - 1) d) = false
  hi : s < m → m < e → lt (ys.getD (e - 1) d) (ys.getD s d) = true
end Go.Fs
namespace Go.Fs
variable {P : Program} {orc : FuncId → List Value → Heap → Option (Value × Heap)} {h h' h0 h1 h2 : Heap} {S S' S0 B G : List Nat} {σ σ' σr : Sto} {t t' : Tr} {ms : List Nat} {fl : VL} {ops : Array Oper} {n i mem : Nat} {l : List Oper} {K : VL → Sto → Prop} {Q : Ex → VL → Sto → Prop}
  {d : Tmp} {ty : TypeId} {pos : String} {after : Array Edge} {op : Op} {v pv : PV} {g : Option (Nat × Bool)} {x y z : Operand} {T T' e : TypeId} {τ τ' : Ty} {w : Value}
theorem RepC.same (hg : ∀ b o, h.get b = some o → h2.get b = some o) : ∀ {τ : Ty} {cs : List Value} {x y : τ.den}, RepC h S τ cs x → RepC h2 S' τ cs y → x = y := by
  intro τ
  induction τ with
  | int k => intro cs x y hx hy; have hx' : cs = [.int k x] := hx; have hy' : cs = [.int k y] := hy; rw [hx'] at hy'; simpa using hy'
  | bool => intro cs x y hx hy; have hx' : cs = [.bool x] := hx; have hy' : cs = [.bool y] := hy; rw [hx'] at hy'; simpa using hy'
  | str => intro cs x y hx hy; have hx' : cs = [.string x] := hx; have hy' : cs = [.string y] := hy; rw [hx'] at hy'; simpa using hy'
  | flt k => intro cs x y hx hy; have hx' : cs = [.float k x] := hx; have hy' : cs = [.float k y] := hy; rw [hx'] at hy'; simpa using hy'
  | unit => intro cs x y _ _; rfl
  | fn =>
    intro cs x y hx hy; have hx' : cs = [fnV x] := hx; have hy' : cs = [fnV y] := hy; rw [hx'] at hy'
    have h3 : fnV x = fnV y := by simpa using hy'
    cases x with
    | none => cases y with
      | none => rfl
      | some b => cases h3
    | some a => cases y with
      | none => cases h3
      | some b => injection h3 with h4; injection h4 with h5; rw [h5]
  | hnd =>
    intro cs x y hx hy; have hx' : cs = [hndV x] := hx; have hy' : cs = [hndV y] := hy; rw [hx'] at hy'
    have h3 : hndV x = hndV y := by simpa using hy'
    cases x with
    | none => cases y with
      | none => rfl
      | some b => cases h3
    | some a => cases y with
      | none => cases h3
      | some b =>
        obtain ⟨a1, a2⟩ := a; obtain ⟨b1, b2⟩ := b; simp only [hndV, Value.slice.injEq, Option.some.injEq, Addr.mk.injEq, and_true, true_and] at h3
        rw [h3.1, h3.2]
  | pair a b iha ihb => intro cs x y hx hy; exact Prod.ext (iha hx.1 hy.1) (ihb hx.2 hy.2)
  | sl e ih =>
    rintro cs x y ⟨v, h1, hv⟩ ⟨v', h1', hv'⟩
    obtain rfl : v = v' := by rw [h1] at h1'; simpa using h1'
    have key : List.length (x : List e.den) = List.length (y : List e.den) ∧ ∀ i (hi : i < List.length (x : List e.den)) (hj : i < List.length (y : List e.den)), (x : List e.den)[i] = (y : List e.den)[i] := by
      rcases hv with ⟨rfl, rfl⟩ | ⟨b, o, mk, rfl, hv⟩
      · rcases hv' with ⟨_, rfl⟩ | ⟨_, _, _, h3, _⟩
        · exact ⟨rfl, fun i hi => absurd hi (Nat.not_lt_zero i)⟩
        cases h3
      rcases hv' with ⟨h3, _⟩ | ⟨b', o', mk', h3, hv'⟩
      · cases h3
      injection h3 with h4 h5 h6; injection h4 with h7; injection h7 with h8 h9 h10; subst h8; subst h9; refine ⟨h5, fun i hi hj => ?_⟩; rcases hv with rfl | ⟨_, e1, rs, ow, mo, g1, _, g3⟩
      · exact absurd hi (Nat.not_lt_zero i)
      rcases hv' with rfl | ⟨_, e1', rs', ow', mo', g1', _, g3'⟩
      · exact absurd hj (Nat.not_lt_zero i)
      have h11 := hg _ _ g1; rw [g1'] at h11; injection h11 with h12; injection h12 with _ h13; subst h13; exact ih (g3 i hi) (g3' i hj)
    exact List.ext_getElem key.1 key.2
  | mp a b iha ihb =>
    rintro cs x y ⟨v, h1, hv⟩ ⟨v', h1', hv'⟩
    obtain rfl : v = v' := by rw [h1] at h1'; simpa using h1'
    have key : List.length (x : List (a.den × b.den)) = List.length (y : List (a.den × b.den)) ∧ ∀ i (hi : i < List.length (x : List (a.den × b.den))) (hj : i < List.length (y : List (a.den × b.den))), (x : List (a.den × b.den))[i] = (y : List (a.den × b.den))[i] := by
      rcases hv with ⟨rfl, rfl⟩ | ⟨bb, es, c, rfl, _, g1, g2, g3⟩
      · rcases hv' with ⟨_, rfl⟩ | ⟨_, _, _, h3, _⟩
        · exact ⟨rfl, fun i hi => absurd hi (Nat.not_lt_zero i)⟩
        cases h3
      rcases hv' with ⟨h3, _⟩ | ⟨b', es', c', h3, _, g1', g2', g3'⟩
      · cases h3
      injection h3 with h4; injection h4 with h5; subst h5; have h11 := hg _ _ g1; rw [g1'] at h11; injection h11 with h12; injection h12 with h13 _; subst h13; refine ⟨g2.symm.trans g2', fun i hi hj => ?_⟩; have q1 := g3 i hi (by omega); have q2 := g3' i hj (by omega); exact Prod.ext (iha q1.1.2 q2.1.2) (ihb q1.2.2 q2.2.2)
    exact List.ext_getElem key.1 key.2
end Go.Fs
namespace Go.Fs
variable {P : Program} {orc : FuncId → List Value → Heap → Option (Value × Heap)} {rnd : Option Nat} {h h' h0 h1 h2 : Heap} {S S' S0 B G : List Nat} {σ σ' σr : Sto} {t t' : Tr} {ms : List Nat} {fl : VL} {ops : Array Oper} {n i mem : Nat} {l : List Oper} {K : VL → Sto → Prop} {Q : Ex → VL → Sto → Prop}
  {d : Tmp} {ty : TypeId} {pos : String} {after : Array Edge} {op : Op} {v pv : PV} {g : Option (Nat × Bool)} {x y z : Operand} {T T' e : TypeId} {τ τ' : Ty} {w : Value}
end Go.Fs
namespace Go.Fs
variable {P : Program} {orc : FuncId → List Value → Heap → Option (Value × Heap)} {rnd : Option Nat} {h h' h0 h1 h2 : Heap} {S S' S0 B G : List Nat} {σ σ' σr : Sto} {t t' : Tr} {ms : List Nat} {fl : VL} {ops : Array Oper} {n i mem : Nat} {l : List Oper} {K : VL → Sto → Prop} {Q : Ex → VL → Sto → Prop}
  {d : Tmp} {ty : TypeId} {pos : String} {after : Array Edge} {op : Op} {v pv : PV} {g : Option (Nat × Bool)} {x y z : Operand} {T T' e : TypeId} {τ τ' : Ty} {w : Value}
inductive SetP : (τ : Ty) → τ.den → Nat → (τ' : Ty) → τ'.den → τ.den → Prop where
  | o {τ : Ty} {x y : τ.den} : SetP τ x 0 τ y y
  | l {a b : Ty} {x : (Ty.pair a b).den} {k : Nat} {τ' : Ty} {y : τ'.den} {z : a.den} (hs : SetP a x.1 k τ' y z) : SetP (.pair a b) x k τ' y (z, x.2)
  | r {a b : Ty} {x : (Ty.pair a b).den} {k k' : Nat} {τ' : Ty} {y : τ'.den} {z : b.den} (hs : SetP b x.2 k τ' y z) (hk : k' = a.size + k := by rfl) : SetP (.pair a b) x k' τ' y (x.1, z)
end Go.Fs
namespace Go.Fs
variable {P : Program} {orc : FuncId → List Value → Heap → Option (Value × Heap)} {rnd : Option Nat} {h h' h0 h1 h2 : Heap} {S S' S0 B G : List Nat} {σ σ' σr : Sto} {t t' : Tr} {ms : List Nat} {fl : VL} {ops : Array Oper} {n i mem : Nat} {l : List Oper} {K : VL → Sto → Prop} {Q : Ex → VL → Sto → Prop}
  {d : Tmp} {ty : TypeId} {pos : String} {after : Array Edge} {op : Op} {v pv : PV} {g : Option (Nat × Bool)} {x y z : Operand} {T T' e : TypeId} {τ τ' : Ty} {w : Value}
end Go.Fs
namespace Go.Fs
variable {P : Program} {orc : FuncId → List Value → Heap → Option (Value × Heap)} {h h' : Heap} {S S' : List Nat} {σ : Sto}
end Go.Fs
namespace Go.Fs
variable {P : Program} {fl : VL} {σ : Sto} {x y : Operand} {T T' : TypeId} {p q : Int}
end Go.Fs
namespace Go.Fs
variable {P : Program} {fl : VL} {σ γ : Sto} {Q : PV → Sto → Prop} {fn : Func}
variable {p q r : ByteArray}
variable {x y : Operand} {T T' : TypeId}
end Go.Fs
namespace Go.Fs
variable {P : Program} {orc : FuncId → List Value → Heap → Option (Value × Heap)} {rnd : Option Nat} {h h' h0 h1 h2 : Heap} {S S' S0 : List Nat} {σ σ' : Sto} {t t' : Tr} {ms : List Nat} {fl : VL} {ops : Array Oper} {n i mem : Nat} {l : List Oper} {K : VL → Sto → Prop}
  {d : Tmp} {ty : TypeId} {pos : String} {after : Array Edge} {op : Op} {v pv : PV} {g : Option (Nat × Bool)} {x y z : Operand} {T T' e : TypeId} {τ τ' : Ty}
inductive FnL : List PV → List PV → Prop where
  | nil : FnL [] []
  | same {p : PV} {l l' : List PV} (hl : FnL l l') : FnL (p :: l) (p :: l')
  | fn {f : FuncId} {l l' : List PV} (hl : FnL l l') : FnL (.clo f [] [] :: l) (.v .fn (some f) :: l')
end Go.Fs
namespace Go.Fs
variable {P : Program} {orc : FuncId → List Value → Heap → Option (Value × Heap)} {rnd : Option Nat} {h h' h0 h1 h2 hr : Heap} {S S' S0 B G A : List Nat} {σ σ' σr ρ : Sto} {t t' : Tr} {ms : List Nat} {fl : VL} {ops : Array Oper} {n i mem : Nat} {l : List Oper} {K : VL → Sto → Prop} {Q : Ex → VL → Sto → Prop}
  {d : Tmp} {ty : TypeId} {pos : String} {after : Array Edge} {op : Op} {v pv : PV} {g : Option (Nat × Bool)} {x y z : Operand} {T T' e : TypeId} {τ τ' : Ty} {bs nw rd chg : List Nat} {segs : List (Nat × Nat × Nat)} {tail tl : Bool} {w w' : Value}
section
variable (P orc)
def EvL (hr : Heap) (ops : Array Oper) (n : Nat) (l : List Oper) (i : Nat) (x : LSt) (Q : LSt → Prop) : Prop := ∃ m x', lateDrawn P hr (stepAt P orc m) ops n l i x = some x' ∧ Q x'
end
theorem EvL.nil {x : LSt} {QL : LSt → Prop} (hq : QL x) : EvL P orc hr ops n [] i x QL := ⟨0, x, rfl, hq⟩
theorem EvL.opr {o : Oper} {x x' : LSt} {QL : LSt → Prop} (hs : lateDraw P hr (stepO P) ops n o i x = some x') (hl : EvL P orc hr ops n l (i + 1) x' QL) : EvL P orc hr ops n (o :: l) i x QL := by
  obtain ⟨m, s2, hf, hq⟩ := hl; refine ⟨m, s2, ?_, hq⟩; simp only [lateDrawn, lateDraw_mono (stepO_le m) hs]; exact hf
def quietOp : Op → Bool
  | .load .. => true
  | .call { callee := .builtin .len, .. } => true
  | .slice .. => true
  | _ => false
theorem quiet_no {ev : Operand → Value} {nx : Nat} (hq : quietOp op = false) : quietV P hr op ev nx = none := by
  unfold quietV; split
  · cases hq
  · cases hq
  · cases hq
  rfl
theorem EvC.late {id : Nat} {fr : Fr} {QC : Ex → Fr → Heap → Prop} (hl : lateB ops = true) (ho : EvL P orc h ops fr.n ops.toList 0 (⟨fr.t, h, [], [], 0, false⟩, [], []) fun x => apartB x = true ∧ QC .normal { t := x.1.t, n := fr.n, marks := fr.marks } x.1.h) : EvC P orc rnd (.region id ops true) fr h QC := by
  obtain ⟨m, x, hf, ha, hq⟩ := ho; refine ⟨m + 1, .normal, _, _, ?_, hq⟩; show fsStep P orc (fsCode P orc m) rnd (.region id ops true) fr h = _; unfold stepAt at hf; simp only [fsStep, hl, cond_true, drawnL, hf, ha]
structure Late (hr h : Heap) (S0 A : List Nat) (σ ρ : Sto) (t : Tr) (fl : VL) (nw rd chg : List Nat) : Prop where
  ok : HOk hr
  lt : SLt hr (A ++ S0)
  next : hr.next ≤ h.next
  goes : Goes hr (A ++ S0) h (own σ ++ S0)
  slots : ∀ k pv, lkV fl k = some pv → nwHas nw k = false → RepPV hr (A ++ S0) pv (t.get k)
  suf : ∃ σ1, σ = σ1 ++ ρ
  cells : ∀ c ∈ ρ, CellR hr (A ++ S0) c.1 c.2
  fix : ∀ b ∈ own ρ, b ∈ A
  new : ∀ b ∈ own σ, b ∈ A ∨ hr.next ≤ b
  rd : ∀ b ∈ rd, b < hr.next ∧ (b ∈ own ρ ∨ b ∉ A)
  chg : ∀ k ∈ chg, k ∉ own ρ ∧ (k ∈ A ∨ hr.next ≤ k)
section
variable (P orc)
def VLt (ops : Array Oper) (n : Nat) (l : List Oper) (i : Nat) (fl : VL) (nw : List Nat) (σ ρ : Sto) (bs : List Nat) (mem : Nat) (tl : Bool) (K : VL → Sto → Prop) : Prop :=
  ∀ (hr h0 : Heap) (G S0 A : List Nat) (t : Tr) (h : Heap) (ms rd chg : List Nat) (segs : List (Nat × Nat × Nat)) (tail : Bool), (tl = false → tail = false) → Iv h0 G S0 h σ t ms fl → Late hr h S0 A σ ρ t fl nw rd chg →
    EvL P orc hr ops n l i (⟨t, h, bs, segs, mem, tail⟩, rd, chg) fun x => apartB x = true ∧ ∃ fl' σ', Iv h0 G S0 x.1.h σ' x.1.t ms fl' ∧ K fl' σ'
end
theorem VC.late {id : Nat} {ops : Array Oper} (ρ : Sto) (hs : ∃ σ1, σ = σ1 ++ ρ) (hx : VLt P orc ops n ops.toList 0 fl [] σ ρ [] 0 false fun fl' σ' => Q .normal fl' σ') (hl : lateB ops = true := by kernel_rfl) : VC P orc rnd (.region id ops true) n fl σ Q := fun h0 G S0 t h ms I => by
  refine EvC.late hl ?_; have hA := I.lc.lt
  have hfix : ∀ b ∈ own ρ, b ∈ own σ := fun b hb => by
    obtain ⟨σ1, rfl⟩ := hs; rw [own_app]; exact List.mem_append_right _ hb
  obtain ⟨m, x, h1, ha, fl', σ', h2, h3⟩ := hx h h0 G S0 (own σ) t h ms [] [] [] false (fun _ => rfl) I
    { ok := I.ok, lt := I.slots.1.slt I.ok hA, next := Nat.le_refl _, goes := fun b o hg hb => ⟨hg, hb⟩, slots := fun k pv hk _ => I.slots k pv hk, suf := hs,
      cells := fun c hc => I.cells c (by obtain ⟨σ1, rfl⟩ := hs; exact List.mem_append_right _ hc), fix := hfix, new := fun b hb => .inl hb, rd := fun b hb => (by cases hb), chg := fun k hk => (by cases hk) }
  exact ⟨m, x, h1, ha, rfl, fl', σ', h2, h3⟩
theorem VLt.nil (hk : K fl σ) : VLt P orc ops n [] i fl nw σ ρ bs mem tl K := fun hr h0 G S0 A t h ms rd chg segs tail ht I L => by
  refine EvL.nil ⟨?_, fl, σ, I, hk⟩; refine List.all_eq_true.2 fun b hb => List.all_eq_true.2 fun k hk => ?_; obtain ⟨r1, r2⟩ := L.rd b hb; obtain ⟨c1, c2⟩ := L.chg k hk
  have hne : b ≠ k := by
    intro e; subst e; rcases r2 with r2 | r2
    · exact c1 r2
    rcases c2 with c2 | c2
    · exact r2 c2
    omega
  rw [beq_no hne]; rfl
theorem VLt.go {b : Code} (hx : VC P orc rnd b n fl σ Q) : VLt P orc ops n [] i fl nw σ ρ bs mem tl fun fl σ => thenV P orc rnd n b Q .normal fl σ := VLt.nil hx
theorem Late.set {u : Value} {old : Bool} (L : Late hr h S0 A σ ρ t fl nw rd chg) (hd : d < 4000) (hu : old = true → RepPV hr (A ++ S0) v u) : Late hr h S0 A σ ρ (t.set depth d u) ((d, v) :: fl) (nwSet old d nw) rd chg :=
  { L with
    slots := fun k pv hk hn => by
      rw [get_setD t d u k hd]; simp only [lkV] at hk
      cases hb : Nat.beq d k with
      | true =>
        rw [hb] at hk; simp only [cond_true, Option.some.injEq] at hk; subst hk; rw [if_pos (nbeq hb).symm]
        cases old with
        | true => exact hu rfl
        | false =>
          simp only [nwSet, cond_false, nwHas, hb, cond_true] at hn
          cases hn
      | false =>
        rw [hb] at hk; simp only [cond_false] at hk; have hne := ne_of_no hb; rw [if_neg (Ne.symm hne)]; refine L.slots k pv hk ?_
        cases old with
        | true => rw [nwSet, cond_true, nwHas_filter (Ne.symm hne)] at hn; exact hn
        | false => simpa only [nwSet, cond_false, nwHas, hb] using hn }
theorem Late.read (L : Late hr h S0 A σ ρ t fl nw rd chg) {b : Nat} (hb : b < hr.next ∧ (b ∈ own ρ ∨ b ∉ A)) : Late hr h S0 A σ ρ t fl nw (b :: rd) chg :=
  { L with
    rd := fun k hk => by
      rcases List.mem_cons.1 hk with rfl | hk
      · exact hb
      exact L.rd k hk }
theorem Late.made (L : Late hr h S0 A σ ρ t fl nw rd chg) (I : Iv h0 G S0 h σ t ms fl) (m : Made S0 h h' σ σ') (hs : ∃ σ1, σ' = σ1 ++ ρ) : Late hr h' S0 A σ' ρ t fl nw rd chg :=
  { L with
    next := Nat.le_trans L.next m.aft.next
    goes := L.goes.trans (I.goes (fun _ hb => hb) m.aft m.new)
    suf := hs
    new := fun b hb => by
      rcases m.new b hb with h3 | h3
      · exact L.new b h3
      have := L.next
      exact .inr (by omega) }
theorem VLt.c {b : Nat} (hc : CalmV P fl [] op v) (hk : VLt P orc ops n l (i + 1) ((d, v) :: fl) (nwSet (oldOp nw op || v.flat0) d nw) σ ρ (bs ++ [b]) mem tl K)
    (hb : beforeOf bs ⟨some d, op, ty, pos, after, g⟩ = b := by rfl) (hw : wantV ops fl g = some true := by rfl) (hn : (Nat.blt d n && Nat.ble n 4000) = true := by rfl) :
    VLt P orc ops n (⟨some d, op, ty, pos, after, g⟩ :: l) i fl nw σ ρ bs mem tl K := fun hr h0 G S0 A t h ms rd chg segs tail ht I L => by
  obtain ⟨n1, n2⟩ := fits hn; obtain ⟨u, e1, e2⟩ := hc.2 h (own σ ++ S0) t I.slots.sees (fun _ hc => by cases hc); refine EvL.opr (x' := (⟨t.set depth d u, h, bs ++ [b], segs, mem, tail⟩, rd, chg)) ?_ (hk hr h0 G S0 A _ h ms rd chg segs tail ht (I.set e1 n2) (L.set n2 fun hold => ?_))
  · unfold lateDraw; have hwt : fsWanted ops t ⟨some d, op, ty, pos, after, g⟩ = some true := want_ok I.slots hw; simp only [hwt, hc.1, if_true, e2, Nat.beq_refl, cond_true, put_fits n1, Option.map_some, hb]
  rcases Bool.or_eq_true_iff.1 hold with hold | hold
  · obtain ⟨u', f1, f2⟩ := hc.2 hr (A ++ S0) t (old_op L.slots hold) (fun _ hc => by cases hc)
    have : u' = u := by
      have g1 := e2 none 0 "" #[] none h; rw [f2 none 0 "" #[] none h] at g1; simpa using g1
    rw [← this]; exact f1
  exact (RepPV.flat0 hold e1).2 _ _
theorem fsLoad_at {b o : Nat} {ob : AObj} {H : Heap} {nx : Nat} {u : Value} (hg : H.get b = some ob) (hv : fsLoad P T (.pointer (some ⟨b, o, none⟩)) H = some u) : fsLoad P T (.pointer (some ⟨b, o, none⟩)) { next := nx, low := nx, objs := [(b, ob)] } = some u := by
  unfold fsLoad at hv ⊢; simp only at hv ⊢
  have : Heap.get { next := nx, low := nx, objs := [(b, ob)] } b = some ob := by
    show look [(b, ob)] b = some ob; simp [look]
  rw [this]; rw [hg] at hv; exact hv
theorem late_quiet {b b0 o0 : Nat} {ob : AObj} {u : Value} (hx : evalO t x = .pointer (some ⟨b0, o0, none⟩)) (hg : hr.get b0 = some ob) (hlt : b0 < hr.next) (hv : fsLoad P T (.pointer (some ⟨b0, o0, none⟩)) hr = some u)
    (hb : beforeOf bs ⟨some d, .load T x, ty, pos, after, g⟩ = b) (hw : fsWanted ops t ⟨some d, .load T x, ty, pos, after, g⟩ = some true) (n1 : Nat.blt d n = true) :
    lateDraw P hr (stepO P) ops n ⟨some d, .load T x, ty, pos, after, g⟩ i (⟨t, h, bs, segs, mem, tail⟩, rd, chg) = some (⟨t.set depth d u, h, bs ++ [b], segs, mem, tail⟩, b0 :: rd, chg) := by
  have hq : quietV P hr (.load T x) (evalO t) h.next = some (u, [b0]) := by
    have hbl : Nat.blt b0 hr.next = true := by rw [Nat.blt_eq]; exact hlt
    simp only [quietV, hx, hg, hbl, cond_true, fsLoad_at (nx := h.next) hg hv, Option.map_some]
  unfold lateDraw; simp only [hw, show calm (Op.load T x) = false from rfl, Bool.false_eq_true, if_false, hq, put_fits n1, Option.map_some, hb]; rfl
theorem VLt.qo {b : Nat} {q : Value} {cs : List PV} (hx : evV fl x = some (.raw q)) (hm : (w, Cell.var cs) ∈ ρ) (hq : q = w ∨ ∃ k, q = padd w k) (hc : ReadV P fl ρ (.load T x) v) (hk : VLt P orc ops n l (i + 1) ((d, v) :: fl) (nwSet true d nw) σ ρ (bs ++ [b]) mem tl K)
    (hb : beforeOf bs ⟨some d, .load T x, ty, pos, after, g⟩ = b := by rfl) (hw : wantV ops fl g = some true := by rfl) (hn : (Nat.blt d n && Nat.ble n 4000) = true := by rfl) :
    VLt P orc ops n (⟨some d, .load T x, ty, pos, after, g⟩ :: l) i fl nw σ ρ bs mem tl K := fun hr h0 G S0 A t h ms rd chg segs tail ht I L => by
  obtain ⟨n1, n2⟩ := fits hn; have hxq : evalO t x = q := (evV_ok I.slots hx : RepPV _ _ (.raw q) _); obtain ⟨b0, e', vs, h1, h2, h3, h4, h5⟩ := L.cells _ hm
  obtain ⟨o0, hqb⟩ : ∃ o0, q = .pointer (some ⟨b0, o0, none⟩) := by
    simp only at h1; rcases hq with hq | ⟨k, hq⟩
    · exact ⟨0, hq.trans h1⟩
    exact ⟨0 + k, by rw [hq, h1]; rfl⟩
  obtain ⟨u, e1, e2⟩ := hc.2 hr (A ++ S0) t (fun z hz pv hp => by
    obtain rfl : z = x := by simpa [Op.operands] using hz
    rw [hx] at hp; obtain rfl := Option.some.inj hp
    exact hxq) L.cells
  have hst := e2 hr (fun _ _ hg => hg) none 0 "" #[] none
  have hv : fsLoad P T (.pointer (some ⟨b0, o0, none⟩)) hr = some u := by
    have h5 : (fsLoad P T (evalO t x) hr).map (fun v => (v, hr)) = some (u, hr) := hst; obtain ⟨v', h6, h7⟩ := Option.map_eq_some_iff.1 h5; simp only [Prod.mk.injEq, and_true] at h7; rw [← hqb, ← hxq, h6, h7]
  have hlt := L.ok b0 _ h3; have hbo : b0 ∈ own ρ := List.mem_flatMap.2 ⟨_, hm, by simp only at h1; rw [h1]; exact List.mem_cons_self⟩; exact EvL.opr (late_quiet (hxq.trans hqb) h3 hlt hv hb (want_ok I.slots hw) n1) (hk hr h0 G S0 A _ h ms _ chg segs tail ht (I.set (e1.nx L.goes) n2) ((L.set (old := true) n2 fun _ => e1).read ⟨hlt, .inl hbo⟩))
theorem late_make {b : Nat} {o : Oper} {u : Value} {t2 : Tr} (hb : beforeOf bs o = b) (hp : put n t o.dst u = some t2) (hcalm : calm o.op = false) (hqo : quietOp o.op = false) (hw : fsWanted ops t o = some true) (hord : Nat.beq (mem &&& b) mem = true) (hok : HOk h) (hst : stepO P o (evalO t) (entry h) = some (u, h')) (hB : Aft (entry h) h' B)
    (htu : h.next ≤ h'.low ∨ ∃ k, turned o.op (evalO t) = some k) :
    ∃ h2 tail' chg', lateDraw P hr (stepO P) ops n o i (⟨t, h, bs, segs, mem, tail⟩, rd, chg) = some (⟨t2, h2, bs ++ [b], (i, h.next, h'.next) :: segs, mem ||| 2 ^ i, tail'⟩, rd, chg') ∧ (∀ b, h2.get b = h'.get b) ∧ h2.next = h'.next ∧ Aft h h2 B ∧ ((chg' = chg ∧ tail' = tail) ∨ ∃ k, turned o.op (evalO t) = some k ∧ ¬ h.next ≤ h'.low ∧ chg' = k :: chg) := by
  have hnx := hB.next; have hnx' : Nat.blt h'.next h.next = false := blt_of_le hnx; unfold lateDraw; simp only [hw, hcalm, Bool.false_eq_true, if_false, quiet_no hqo]; unfold lateMem; simp only [hb, hord, Bool.not_true, Bool.and_false, cond_false, cond_true]; unfold entry at hst; rw [hst]; simp only [hnx', cond_false, hp]
  cases hlow : Nat.ble h.next h'.low with
  | true =>
    have hl := nble hlow
    have hsame : ∀ b, b < h.next → h'.get b = h.get b := fun b hb => by
      rcases hB.chg b hb with h3 | h3
      · exact h3
      omega
    have hget : ∀ b, look (newer h.next h'.next h'.objs ++ h.objs) b = h'.get b := fun b => by
      rw [look_append]; by_cases hb : b < h.next
      · cases hl2 : look (newer h.next h'.next h'.objs) b with
        | some o => have := (newer_some _ _ _ hl2).1; omega
        | none => exact (hsame b hb).symm
      have hold : look h.objs b = none := by
        cases hl2 : look h.objs b with
        | none => rfl
        | some o => exact absurd (hok b o hl2) hb
      rw [hold, Option.or_none]
      cases hl2 : look h'.objs b with
      | some o =>
        have : b < h'.next := hB.ok hok b o hl2; rw [newer_in _ _ (by omega) this, hl2]
        exact hl2.symm
      | none =>
        cases hl3 : look (newer h.next h'.next h'.objs) b with
        | none => exact hl2.symm
        | some o => rw [(newer_some _ _ _ hl3).2] at hl2; cases hl2
    refine ⟨_, _, _, rfl, hget, rfl, ⟨hnx, fun b hb hn => (hget b).trans (hB.get b hb hn), fun _ b o hg => ?_, fun e h3 _ _ => h3, fun b hb => .inl ((hget b).trans (hsame b hb)), Nat.le_refl _⟩, .inl ⟨rfl, rfl⟩⟩
    exact hB.ok hok b o ((hget b).symm.trans hg)
  | false =>
    rcases htu with htu | ⟨k, htu⟩
    · have : Nat.ble h.next h'.low = true := by rw [Nat.ble_eq]; exact htu
      rw [this] at hlow; cases hlow
    simp only [htu, cond_false, cond_true]; refine ⟨_, _, _, rfl, fun _ => rfl, rfl, ⟨hnx, hB.get, fun _ => hB.ok hok, fun e h3 h4 h5 => Nat.le_min.2 ⟨h3, hB.low e h4 h4 h5⟩, fun b hb => ?_, Nat.min_le_left _ _⟩, .inr ⟨k, rfl, fun hle => (by have e : Nat.ble h.next h'.low = true := (by rw [Nat.ble_eq]; exact hle); rw [e] at hlow; cases hlow), rfl⟩⟩; rcases hB.chg b hb with h3 | h3
    · exact .inl h3
    exact .inr (Nat.le_trans (Nat.min_le_right _ _) h3)
def TurnV (P : Program) (fl : VL) (op : Op) (w : Value) (c : Cell) : Prop := quietOp op = false ∧ ∀ (h h' : Heap) (S : List Nat) (t : Tr) (u : Value) (d : Option Tmp) (ty : TypeId) (pos : String) (after : Array Edge) (g : Option (Nat × Bool)), Sees h S t fl op → CellR h S w c → stepO P ⟨d, op, ty, pos, after, g⟩ (evalO t) h = some (u, h') →
  (∀ k, turned op (evalO t) = some k → k ∈ blk w) ∧ (h.low ≤ h'.low ∨ ∃ k, turned op (evalO t) = some k)
theorem TurnV.store {q : Value} {cs : List PV} (hx : evV fl x = some (.raw q)) (hq : q = w ∨ ∃ k, q = padd w k) : TurnV P fl (.store T x y) w (.var cs) := ⟨rfl, fun h h' S t u d ty pos after g hs hc _ => by
  have hxq : evalO t x = q := (hs x (by simp [Op.operands]) _ hx : RepPV _ _ (.raw q) _); obtain ⟨b0, e', vs, h1, h2, h3, h4, h5⟩ := hc
  obtain ⟨o0, hqb⟩ : ∃ o0, q = .pointer (some ⟨b0, o0, none⟩) := by
    rcases hq with hq | ⟨k, hq⟩
    · exact ⟨0, hq.trans h1⟩
    exact ⟨0 + k, by rw [hq, h1]; rfl⟩
  have ht : turned (.store T x y) (evalO t) = some b0 := by simp only [turned, hxq, hqb]
  refine ⟨fun k hk => ?_, .inr ⟨b0, ht⟩⟩; rw [ht] at hk; obtain rfl := Option.some.inj hk
  rw [h1]; exact List.mem_cons_self⟩
theorem Late.turn {c : Cell} (L : Late hr h S0 A ((w, c) :: σr) ρ t fl nw rd chg) (hap : (own ((w, c) :: σr)).Nodup) (hs : ∃ σ1, σr = σ1 ++ ρ) {k : Nat} (hk : k ∈ blk w) : Late hr h S0 A ((w, c) :: σr) ρ t fl nw rd (k :: chg) :=
  { L with
    chg := fun j hj => by
      rcases List.mem_cons.1 hj with rfl | hj
      · rw [own_cons] at hap; refine ⟨fun hm => (List.nodup_append.1 hap).2.2 j hk j ?_ rfl, L.new j (by rw [own_cons]; exact List.mem_append_left _ hk)⟩; obtain ⟨σ1, rfl⟩ := hs; rw [own_app]; exact List.mem_append_right _ hm
      exact L.chg j hj }
theorem VLt.mk0 {c : Cell} {b : Nat} {Tt : PV → Sto → Prop} (hs : MakeV P fl ((w, c) :: σr) op Tt) (hT : TurnV P fl op w c) (hρ : ∃ σ1, σr = σ1 ++ ρ) (hk : ∀ v σ', Tt v σ' → (∃ σ1, σ' = σ1 ++ ρ) ∧ VLt P orc ops n l (i + 1) fl nw σ' ρ (bs ++ [b]) (mem ||| 2 ^ i) true K)
    (hb : beforeOf bs ⟨none, op, ty, pos, after, g⟩ = b := by rfl) (hord : Nat.beq (mem &&& b) mem = true := by rfl) (hw : wantV ops fl g = some true := by rfl) :
    VLt P orc ops n (⟨none, op, ty, pos, after, g⟩ :: l) i fl nw ((w, c) :: σr) ρ bs mem tl K := fun hr h0 G S0 A t h ms rd chg segs tail ht I L => by
  have Le := I.lc.objs (h' := entry h) (fun _ => rfl) rfl; obtain ⟨u, h', v, σ', e1, e2, e3, e4⟩ := hs.2 S0 (entry h) t Le; have hst := e4 none ty pos after g; obtain ⟨t1, t2⟩ := hT.2 (entry h) h' _ t u _ _ _ _ _ Le.slots.sees (Le.cells _ List.mem_cons_self) hst; obtain ⟨h2, tail', chg', f1, f2, f3, f4, f5⟩ := late_make (n := n) (hr := hr) (rd := rd) (chg := chg) (i := i) (segs := segs) (tail := tail) (o := ⟨none, op, ty, pos, after, g⟩) hb (put_none n t u) hs.1 hT.1 (want_ok I.slots hw) hord I.ok hst e2.aft t2; have m2 := made_objs e2 f2 f4; obtain ⟨hσ, hk⟩ := hk v σ' e1
  have L2 : Late hr h S0 A ((w, c) :: σr) ρ t fl nw rd chg' := by
    rcases f5 with ⟨rfl, _⟩ | ⟨k, g1, _, rfl⟩
    · exact L
    exact L.turn I.apart hρ (t1 k g1)
  exact EvL.opr f1 (hk hr h0 G S0 A _ _ ms rd chg' _ tail' (fun e => by cases e) (I.made m2) (L2.made I m2 hσ))
theorem VLt.perm (hp : σ.Perm σ') (hs : ∃ σ1, σ' = σ1 ++ ρ) (hx : VLt P orc ops n l i fl nw σ' ρ bs mem tl K) : VLt P orc ops n l i fl nw σ ρ bs mem tl K := fun hr h0 G S0 A t h ms rd chg segs tail ht I L =>
  hx hr h0 G S0 A t h ms rd chg segs tail ht (I.perm hp) { L with
    goes := fun b o hg hb => by
      obtain ⟨g1, g2⟩ := L.goes b o hg hb; refine ⟨g1, fun hm => g2 ?_⟩; rcases List.mem_append.1 hm with hm | hm
      · exact List.mem_append_left _ ((own_perm hp).mem_iff.2 hm)
      exact List.mem_append_right _ hm
    suf := hs
    new := fun b hb => L.new b ((own_perm hp).mem_iff.2 hb) }
end Go.Fs
namespace Go.Fs
variable {P : Program} {orc : FuncId → List Value → Heap → Option (Value × Heap)} {rnd : Option Nat} {h h' h0 h1 h2 : Heap} {S S' S0 B G : List Nat} {σ σ' σr : Sto} {t t' : Tr} {ms : List Nat} {fl : VL} {ops : Array Oper} {n i mem : Nat} {l : List Oper} {K : VL → Sto → Prop} {Q : Ex → VL → Sto → Prop}
  {d : Tmp} {ty : TypeId} {pos : String} {after : Array Edge} {op : Op} {v pv : PV} {g : Option (Nat × Bool)} {x y z : Operand} {T T' e : TypeId} {τ τ' : Ty} {w : Value} {ρ : Sto} {bs nw : List Nat} {tl : Bool}
end Go.Fs
namespace Go.Fs
variable {P : Program} {O : FuncId → List Value → Heap → Option (Value × Heap)} {h h' : Heap} {S : List Nat}
end Go.Fs
namespace Go.Proofs
open Go.Fs
def OA := orcC 90 91 (orcA 92 43 6)
abbrev y161 : Ty := (.sl (.int .i64))
abbrev y167 : Ty := (.sl (.int .i64))
theorem vt3 : ValT Tryz.prog 3 (.int .i64) := valT_of (by kernel_rfl)
theorem vt29 : ValT Tryz.prog 29 (.int .i64) := valT_of (by kernel_rfl)
theorem el161 : ElT Tryz.prog 161 3 (.int .i64) := elT_of (by kernel_rfl)
theorem el167 : ElT Tryz.prog 167 29 (.int .i64) := elT_of (by kernel_rfl)
def whenE (c : Bool) (e : Int) : Int := bif c then e else 0
theorem sWhen_ok {c : Bool} {e : Int} : VF Tryz.prog OA 67 [B c, I e] (I (whenE c e)) := by
  refine VF.enter Tryz.func67 rfl (fun _ _ => rfl) rfl ?_; show VC _ _ _ _ _ [(0, B c), (1, I e)] [] _; refine VC.seq (VC.text ?_); refine VO.c (.assign rfl) ?_; refine VO.go (VC.seq (VC.seq (VC.text ?_))); refine VO.c (.move rfl) (VO.go ?_); refine VC.condB rfl (fun c1 => ?_) (fun c1 => ?_)
  · subst c1; refine VC.seq (VC.text ?_); refine VO.c (.move rfl) (VO.c (.assign rfl) (VO.go ?_)); refine VC.ret ?_; exact VEnd.one rfl evT (pvI (by rfl))
  subst c1; refine VC.skip (VC.seq (VC.text ?_)); refine VO.c (.assign rfl) (VO.go ?_); refine VC.ret ?_; exact VEnd.one rfl evT (pvI (by rfl))
def rangeE (n lo hi : Int) : Int := if n < lo ∨ hi < n then 3 else 0
theorem rCheckRange_ok {n : Int} {lo : Int} {hi : Int} : VF Tryz.prog OA 101 [I n, I lo, I hi] (I (rangeE n lo hi)) := by
  refine VF.enter Tryz.func101 rfl (fun _ _ => rfl) rfl ?_; show VC _ _ _ _ _ [(0, I n), (1, I lo), (2, I hi)] [] _; refine VC.seq (VC.text ?_); refine VO.c (.assign rfl) ?_; refine VO.go (VC.seq (VC.seq (VC.text ?_))); refine VO.c (.move rfl) (VO.c (.move rfl) (VO.c (.lss) (VO.c (.move rfl) ?_))); refine VO.cg (r := decide (n < lo)) (w := false) [] trivial (fun _ => (.move rfl)) ?_; refine VO.cg (r := decide (n < lo)) (w := false) [] trivial (fun _ => (.move rfl)) ?_; refine VO.cg (r := decide (n < lo)) (w := false) [(11, I n), (12, I hi)] ⟨rfl, rfl, trivial⟩ (fun _ => (.gtr)) ?_; refine VO.c (.or) (VO.go ?_); refine VC.condB rfl (fun c1 => ?_) (fun c1 => ?_)
  · try simp only [Bool.and_eq_true, Bool.or_eq_true, Bool.and_eq_false_iff, Bool.or_eq_false_iff, Bool.not_eq_true', Bool.not_eq_false', decide_eq_true_eq, decide_eq_false_iff_not] at c1
    refine VC.seq (VC.text ?_); refine VO.c (.assign rfl) (VO.go ?_); refine VC.ret ?_; exact VEnd.one rfl evT (pvI (by simp only [rangeE, ← Bool.decide_or, decide_eq_true_eq, decide_eq_false_iff_not, Bool.or_eq_true, Bool.or_eq_false_iff] at *; first | rw [if_pos (by omega)] | rw [if_neg (by omega)]))
  try simp only [Bool.and_eq_true, Bool.or_eq_true, Bool.and_eq_false_iff, Bool.or_eq_false_iff, Bool.not_eq_true', Bool.not_eq_false', decide_eq_true_eq, decide_eq_false_iff_not] at c1
  refine VC.skip (VC.seq (VC.text ?_)); refine VO.c (.assign rfl) (VO.go ?_); refine VC.ret ?_; exact VEnd.one rfl evT (pvI (by simp only [rangeE, ← Bool.decide_or, decide_eq_true_eq, decide_eq_false_iff_not, Bool.or_eq_true, Bool.or_eq_false_iff] at *; first | rw [if_pos (by omega)] | rw [if_neg (by omega)]))
theorem whenE_range {n lo hi : Int} : whenE (decide (n < lo) || decide (hi < n)) 3 = rangeE n lo hi := by
  unfold whenE rangeE; by_cases h1 : n < lo <;> by_cases h2 : hi < n <;> simp [h1, h2]
theorem sWithin_ok {n : Int} {lo : Int} {hi : Int} : VF Tryz.prog OA 111 [I n, I lo, I hi] (I (rangeE n lo hi)) := by
  refine VF.enter Tryz.func111 rfl (fun _ _ => rfl) rfl ?_; show VC _ _ _ _ _ [(0, I n), (1, I lo), (2, I hi)] [] _; refine VC.seq (VC.text ?_); refine VO.c (.assign rfl) ?_; refine VO.go (VC.seq (VC.text ?_)); refine VO.c (.move rfl) (VO.c (.move rfl) (VO.c (.lss) (VO.c (.move rfl) ?_))); refine VO.cg (r := decide (n < lo)) (w := false) [] trivial (fun _ => (.move rfl)) ?_; refine VO.cg (r := decide (n < lo)) (w := false) [] trivial (fun _ => (.move rfl)) ?_; refine VO.cg (r := decide (n < lo)) (w := false) [(11, I n), (12, I hi)] ⟨rfl, rfl, trivial⟩ (fun _ => (.gtr)) ?_; refine VO.c (.or) ?_; refine VO.call rfl rfl (VF.call (sWhen_ok )) ?_; refine VO.c (.assign rfl) (VO.go ?_); refine VC.ret ?_; exact VEnd.one rfl evT (pvI (by exact whenE_range))
def firstE : List Int → Int
  | [] => 0
  | x :: r => if x = 0 then firstE r else x
theorem firstE_drop {xs : List Int} {j : Nat} (hj : j < xs.length) : firstE (xs.drop j) = if xs[j] = 0 then firstE (xs.drop (j + 1)) else xs[j] := by
  rw [List.drop_eq_getElem_cons hj] <;> rfl
theorem firstE_end {xs : List Int} {j : Nat} (hj : xs.length ≤ j) : firstE (xs.drop j) = 0 := by rw [List.drop_eq_nil_of_le hj] <;> rfl
theorem sFirst_ok {l : List Int} (hl : l.length < 1000000) : VF Tryz.prog OA 57 [.v y167 l] (I (firstE l)) := by
  refine VF.enter Tryz.func57 rfl (fun _ _ => rfl) rfl ?_; show VC _ _ _ _ _ [(0, .v y167 l)] [] _; refine VC.seq (VC.text ?_); refine VO.c (.assign rfl) ?_; refine VO.go (VC.seq (VC.seq (VC.text ?_))); refine VO.c (.move rfl) ?_; refine VO.r (.len el167) ?_; refine VO.c (.move rfl) ?_; refine VO.go (VC.block ?_); refine VC.keep [(5, .v y167 l), (6, I ((l.length : Nat) : Int)), (7, I ((0 : Nat) : Int))] ⟨rfl, rfl, rfl, trivial⟩ ?_; refine VC.loop (I := fun kk ff ss => ∃ (j : Nat), kk = l.length - j ∧ ff = [(5, .v y167 l), (6, I ((l.length : Nat) : Int)), (7, I ((j : Nat) : Int))] ∧ ss = [] ∧ (j ≤ l.length) ∧ (firstE l = firstE (l.drop j))) ?_ _ _ _ ⟨0, rfl, rfl, rfl, Nat.zero_le _, (by rfl)⟩; rintro kk ff ss ⟨j, hk0, rfl, rfl, hj, hf⟩; refine VC.seq (VC.text ?_); refine VO.c (.lss) ?_; refine VO.go (VC.seq ?_); refine VC.condD rfl (fun c2 => ?_) (fun c2 => ?_)
  · refine VC.skip (VC.seq (VC.block (VC.seq (VC.text ?_)))); refine VO.c (.ix (j := j) rfl rfl el167 (by omega)) ?_; refine VO.r (.ld vt29) ?_; refine VO.c (.assign rfl) ?_; refine VO.go (VC.seq (VC.text ?_)); refine VO.c (.move rfl) (VO.c (.neq) (VO.go ?_)); refine VC.condD rfl (fun c4 => ?_) (fun c4 => ?_)
    · refine VC.seq (VC.text ?_); refine VO.c (.move rfl) (VO.c (.assign rfl) (VO.go ?_)); refine VC.ret ?_; exact VEnd.one rfl evT (pvI (by rw [hf, firstE_drop (by omega), if_neg c4]))
    refine VC.skip (VC.text ?_); refine VO.c (.add rfl rfl (by omega)) (VO.c (.move rfl) ?_); refine VO.nil ?_; refine ⟨_, [(5, .v y167 l), (6, I ((l.length : Nat) : Int)), (7, I (((j + 1) : Nat) : Int))], ?_, ⟨rfl, rfl, rfl, trivial⟩, (j + 1), rfl, rfl, rfl, (by omega), (by rw [hf, firstE_drop (by omega), if_pos (by simpa using c4)])⟩; omega
  refine VC.exit (VC.seq (VC.text ?_)); refine VO.c (.assign rfl) (VO.go ?_); refine VC.ret ?_; exact VEnd.one rfl evT (pvI (by rw [hf, firstE_end (by omega)]))
theorem rFirst_ok {l : List Int} (hl : l.length < 1000000) : VF Tryz.prog OA 99 [.v y161 l] (I (firstE l)) := by
  refine VF.enter Tryz.func99 rfl (fun _ _ => rfl) rfl ?_; show VC _ _ _ _ _ [(0, .v y161 l)] [] _; refine VC.seq (VC.text ?_); refine VO.c (.assign rfl) ?_; refine VO.go (VC.seq (VC.seq (VC.text ?_))); refine VO.c (.assign rfl) ?_; refine VO.go (VC.block ?_); refine VC.keep [(0, .v y161 l), (3, I ((0 : Nat) : Int))] ⟨rfl, rfl, trivial⟩ ?_; refine VC.loop (I := fun kk ff ss => ∃ (j : Nat), kk = l.length - j ∧ ff = [(0, .v y161 l), (3, I ((j : Nat) : Int))] ∧ ss = [] ∧ (j ≤ l.length) ∧ (firstE l = firstE (l.drop j))) ?_ _ _ _ ⟨0, rfl, rfl, rfl, Nat.zero_le _, (by rfl)⟩; rintro kk ff ss ⟨j, hk0, rfl, rfl, hj, hf⟩; refine VC.seq (VC.seq (VC.text ?_)); refine VO.c (.move rfl) (VO.c (.move rfl) ?_); refine VO.r (.len el161) ?_; refine VO.c (.lss) (VO.go ?_); refine VC.condD rfl (fun c2 => ?_) (fun c2 => ?_)
  · refine VC.skip (VC.seq (VC.block (VC.seq (VC.text ?_)))); refine VO.c (.move rfl) (VO.c (.move rfl) (VO.c (.ix (j := j) rfl rfl el161 (by omega)) ?_)); refine VO.r (.ld vt3) ?_; refine VO.c (.neq) (VO.go ?_); refine VC.condD rfl (fun c4 => ?_) (fun c4 => ?_)
    · refine VC.seq (VC.text ?_); refine VO.c (.move rfl) (VO.c (.move rfl) (VO.c (.ix (j := j) rfl rfl el161 (by omega)) ?_)); refine VO.r (.ld vt3) ?_; refine VO.c (.assign rfl) (VO.go ?_); refine VC.ret ?_; exact VEnd.one rfl evT (pvI (by rw [hf, firstE_drop (by omega), if_neg c4]))
    refine VC.skip (VC.text ?_); refine VO.c (.move rfl) (VO.c (.add rfl rfl (by omega)) (VO.c (.assign rfl) ?_)); refine VO.nil ?_; refine ⟨_, [(0, .v y161 l), (3, I (((j + 1) : Nat) : Int))], ?_, ⟨rfl, rfl, trivial⟩, (j + 1), rfl, rfl, rfl, (by omega), (by rw [hf, firstE_drop (by omega), if_pos (by simpa using c4)])⟩; omega
  refine VC.exit (VC.seq (VC.text ?_)); refine VO.c (.assign rfl) (VO.go ?_); refine VC.ret ?_; exact VEnd.one rfl evT (pvI (by rw [hf, firstE_end (by omega)]))
end Go.Proofs
namespace Go.Proofs
open Go.Fs Ieee
def letterB (c : Int) : Bool := decide (65 ≤ c ∧ c ≤ 90 ∨ 97 ≤ c ∧ c ≤ 122)
def otherB (c : Int) : Bool := decide (48 ≤ c ∧ c ≤ 57 ∨ c = 95)
def byteB (c : Int) (i : Nat) : Bool := letterB c || (decide (i ≠ 0) && otherB c)
def nameB (s : ByteArray) : Bool := decide (s.size ≠ 0 ∧ s.size ≤ 24 ∧ ∀ i, i < s.size → byteB (byteE s i) i = true)
theorem nameB_f {s : ByteArray} {i : Nat} (hi : i < s.size) (h : byteB (byteE s i) i = false) : false = nameB s := by
  refine (decide_eq_false fun hh => ?_).symm; rw [hh.2.2 i hi] at h; cases h
theorem nameB_t {s : ByteArray} (h1 : s.size ≠ 0) (h2 : s.size ≤ 24) (h : ∀ i, i < s.size → byteB (byteE s i) i = true) : true = nameB s := (decide_eq_true ⟨h1, h2, h⟩).symm
theorem size_empty {s : ByteArray} : s ≠ ByteArray.empty ↔ s.size ≠ 0 := by
  constructor
  · intro h e; exact h (ByteArray.ext (Array.eq_empty_of_size_eq_zero e))
  rintro h rfl; exact h rfl
theorem byteB_high {c : Int} {i : Nat} (h : 128 ≤ c) : byteB c i = false := by
  have h1 : letterB c = false := decide_eq_false (by omega); have h2 : otherB c = false := decide_eq_false (by omega); rw [byteB, h1, h2]; simp
theorem rune_f {s : ByteArray} {p : Nat} (h : byteB ((Utf8.decode s p).1 : Nat) p = false) : byteB (byteE s p) p = false := by
  by_cases hl : (s.get! p).toNat < 128
  · rw [decode_low hl] at h; exact h
  exact byteB_high (by rw [byteE_nat]; omega)
theorem rune_t {s : ByteArray} {p : Nat} (h : byteB ((Utf8.decode s p).1 : Nat) p = true) : byteB (byteE s p) p = true ∧ (Utf8.decode s p).2 = 1 := by
  by_cases hl : (s.get! p).toNat < 128
  · rw [decode_low hl] at h ⊢; exact ⟨h, rfl⟩
  have := Go.Fs.decode_high hl; rw [byteB_high (by omega)] at h; cases h
theorem name_end {s : ByteArray} (h : ∀ i, i < s.size → byteB (byteE s i) i = true) : (decide (s ≠ ByteArray.empty) && decide (((s.size : Nat) : Int) ≤ 24)) = nameB s := by
  rw [← Bool.decide_and]; exact decide_eq_decide.2 ⟨fun hh => ⟨size_empty.1 hh.1, by omega, h⟩, fun hh => ⟨size_empty.2 hh.1, by omega⟩⟩
theorem gName_ok {s : ByteArray} : VF Tryz.prog OA 134 [St s] (B (nameB s)) := by
  refine VF.enter Tryz.func134 rfl (fun _ _ => rfl) rfl ?_; show VC _ _ _ _ _ [(0, St s)] [] _; refine VC.seq (VC.text ?_); refine VO.c (.assign rfl) ?_; refine VO.go (VC.seq (VC.seq (VC.text ?_))); refine VO.c (.move rfl) ?_; refine VO.cell (.rng) ?_; intro ww1; refine VO.go (VC.block ?_); refine VC.keep [(0, St s), (8, .raw ww1)] ⟨rfl, rfl, trivial⟩ ?_; refine VC.loop (I := fun kk ff ss => ∃ (p : Nat), kk = s.size - p ∧ ff = [(0, St s), (8, .raw ww1)] ∧ ss = [(ww1, .it s p)] ∧ (p ≤ s.size) ∧ (∀ i, i < p → byteB (byteE s i) i = true)) ?_ _ _ _ ⟨0, rfl, rfl, rfl, Nat.zero_le _, (by intro i hi; omega)⟩; rintro kk ff ss ⟨p, hk0, rfl, rfl, hp, hq⟩; refine VC.seq (VC.text ?_); refine VO.next rfl (fun h2_0 => ?_) (fun h2_0 => ?_)
  · refine VO.c (.extract) ?_; refine VO.go (VC.seq ?_); refine VC.condT rfl ?_; refine VC.skip (VC.block (VC.seq (VC.text ?_))); refine VO.c (.extract) (VO.c (.extract) (VO.c (.assign rfl) (VO.c (.assign rfl) ?_))); refine VO.go (VC.seq ?_); refine VC.join [(0, St s), (3, I ((p : Nat) : Int)), (4, .v (.int .i32) (((Utf8.decode s p).1 : Nat) : Int)), (5, B (letterB ((Utf8.decode s p).1 : Nat))), (8, .raw ww1)] [(ww1, .it s (p + (Utf8.decode s p).2))] ?_ ?_
    · skip
      refine VC.text ?_; refine VO.c (.move rfl) (VO.c (.geq) (VO.c (.move rfl) ?_)); refine VO.splitD (x := 15) rfl (fun g4_2 => ?_) (fun g4_2 => ?_)
      · refine VO.c (.move rfl) (VO.c (.leq) (VO.c (.pickT rfl rfl) (VO.c (.move rfl) ?_))); refine VO.splitD (x := 19) rfl (fun g4_6 => ?_) (fun g4_6 => ?_)
        · refine VO.skip (VO.skip (VO.skip (VO.skip ?_))); refine VO.skip (VO.skip (VO.c (.pickT rfl rfl) (VO.c (.assign rfl) ?_))); refine VO.nil ?_; exact ⟨⟨rfl, rfl, rfl, slE rfl (by rw [Bool.eq_iff_iff]; simp [letterB] <;> omega), rfl, trivial⟩, rfl⟩
        refine VO.c (.move rfl) (VO.c (.geq) (VO.c (.move rfl) ?_)); refine VO.cg (r := decide ((97 : Int) ≤ (((Utf8.decode s p).1 : Nat) : Int))) (w := true) [] trivial (fun _ => (.move rfl)) ?_; refine VO.cg (r := decide ((97 : Int) ≤ (((Utf8.decode s p).1 : Nat) : Int))) (w := true) [(23, .v (.int .i32) (((Utf8.decode s p).1 : Nat) : Int))] ⟨rfl, trivial⟩ (fun _ => (.leq)) ?_; refine VO.c (.and) (VO.c (.pickF rfl rfl) (VO.c (.assign rfl) ?_)); refine VO.nil ?_; exact ⟨⟨rfl, rfl, rfl, slE rfl (by rw [Bool.eq_iff_iff]; simp [letterB] <;> omega), rfl, trivial⟩, rfl⟩
      refine VO.skip (VO.skip (VO.c (.pickF rfl rfl) (VO.c (.move rfl) ?_))); refine VO.c (.move rfl) (VO.c (.geq) (VO.c (.move rfl) ?_)); refine VO.cg (r := decide ((97 : Int) ≤ (((Utf8.decode s p).1 : Nat) : Int))) (w := true) [] trivial (fun _ => (.move rfl)) ?_; refine VO.cg (r := decide ((97 : Int) ≤ (((Utf8.decode s p).1 : Nat) : Int))) (w := true) [(23, .v (.int .i32) (((Utf8.decode s p).1 : Nat) : Int))] ⟨rfl, trivial⟩ (fun _ => (.leq)) ?_; refine VO.c (.and) (VO.c (.pickF rfl rfl) (VO.c (.assign rfl) ?_)); refine VO.nil ?_; exact ⟨⟨rfl, rfl, rfl, slE rfl (by rw [Bool.eq_iff_iff]; simp [letterB] <;> omega), rfl, trivial⟩, rfl⟩
    refine VC.seq ?_; refine VC.join [(0, St s), (3, I ((p : Nat) : Int)), (5, B (letterB ((Utf8.decode s p).1 : Nat))), (6, B (otherB ((Utf8.decode s p).1 : Nat))), (8, .raw ww1)] [(ww1, .it s (p + (Utf8.decode s p).2))] ?_ ?_
    · skip
      refine VC.text ?_; refine VO.c (.move rfl) (VO.c (.geq) (VO.c (.move rfl) ?_)); refine VO.splitD (x := 29) rfl (fun g5_2 => ?_) (fun g5_2 => ?_)
      · refine VO.c (.move rfl) (VO.c (.leq) (VO.c (.pickT rfl rfl) (VO.c (.move rfl) ?_))); refine VO.cg (r := decide ((((Utf8.decode s p).1 : Nat) : Int) ≤ (57 : Int))) (w := false) [] trivial (fun _ => (.move rfl)) ?_; refine VO.cg (r := decide ((((Utf8.decode s p).1 : Nat) : Int) ≤ (57 : Int))) (w := false) [(34, .v (.int .i32) (((Utf8.decode s p).1 : Nat) : Int))] ⟨rfl, trivial⟩ (fun _ => (.eql)) ?_; refine VO.c (.or) (VO.c (.assign rfl) ?_); refine VO.nil ?_; exact ⟨⟨rfl, rfl, rfl, slE rfl (by rw [Bool.eq_iff_iff]; simp [otherB] <;> omega), rfl, trivial⟩, rfl⟩
      refine VO.skip (VO.skip (VO.c (.pickF rfl rfl) (VO.c (.move rfl) ?_))); refine VO.c (.move rfl) (VO.c (.eql) (VO.c (.pickF rfl rfl) (VO.c (.assign rfl) ?_))); refine VO.nil ?_; exact ⟨⟨rfl, rfl, rfl, slE rfl (by rw [Bool.eq_iff_iff]; simp [otherB] <;> omega), rfl, trivial⟩, rfl⟩
    refine VC.seq ?_; refine VC.join [(0, St s), (8, .raw ww1), (46, B (!byteB ((Utf8.decode s p).1 : Nat) p))] [(ww1, .it s (p + (Utf8.decode s p).2))] ?_ ?_
    · skip
      refine VC.text ?_; refine VO.c (.move rfl) (VO.c (.not) (VO.c (.move rfl) ?_)); refine VO.splitB (x := 39) rfl (fun g6_2 => ?_) (fun g6_2 => ?_)
      · try simp only [Bool.and_eq_true, Bool.or_eq_true, Bool.and_eq_false_iff, Bool.or_eq_false_iff, Bool.not_eq_true', Bool.not_eq_false', decide_eq_true_eq, decide_eq_false_iff_not] at g6_2
        refine VO.c (.move rfl) (VO.c (.eql) (VO.c (.move rfl) ?_)); refine VO.cg (r := decide (((p : Nat) : Int) = (0 : Int))) (w := false) [] trivial (fun _ => (.move rfl)) ?_; refine VO.cg (r := decide (((p : Nat) : Int) = (0 : Int))) (w := false) [(43, B (otherB ((Utf8.decode s p).1 : Nat)))] ⟨rfl, trivial⟩ (fun _ => (.not)) ?_; refine VO.c (.or) (VO.c (.pickT rfl rfl) ?_); refine VO.nil ?_; exact ⟨⟨rfl, rfl, slE rfl (by simp [byteB, *]), trivial⟩, rfl⟩
      try simp only [Bool.and_eq_true, Bool.or_eq_true, Bool.and_eq_false_iff, Bool.or_eq_false_iff, Bool.not_eq_true', Bool.not_eq_false', decide_eq_true_eq, decide_eq_false_iff_not] at g6_2
      refine VO.skip (VO.skip (VO.skip (VO.skip ?_))); refine VO.skip (VO.skip (VO.c (.pickF rfl rfl) ?_)); refine VO.nil ?_; exact ⟨⟨rfl, rfl, slE rfl (by simp [byteB, *]), trivial⟩, rfl⟩
    refine VC.condB rfl (fun c6 => ?_) (fun c6 => ?_)
    · try simp only [Bool.and_eq_true, Bool.or_eq_true, Bool.and_eq_false_iff, Bool.or_eq_false_iff, Bool.not_eq_true', Bool.not_eq_false', decide_eq_true_eq, decide_eq_false_iff_not] at c6
      refine VC.seq (VC.text ?_); refine VO.c (.assign rfl) (VO.go ?_); refine VC.ret ?_; exact VEnd.one rfl evT (pvE (by exact nameB_f h2_0 (rune_f c6)))
    try simp only [Bool.and_eq_true, Bool.or_eq_true, Bool.and_eq_false_iff, Bool.or_eq_false_iff, Bool.not_eq_true', Bool.not_eq_false', decide_eq_true_eq, decide_eq_false_iff_not] at c6
    refine VC.skip ?_; refine ⟨_, [(0, St s), (8, .raw ww1)], ?_, ⟨rfl, rfl, trivial⟩, (p + 1), rfl, rfl, (by rw [(rune_t c6).2]), (by omega), (by intro i hi; rcases Nat.lt_succ_iff_lt_or_eq.1 hi with h | h; exact hq i h; subst h; exact (rune_t c6).1)⟩; omega
  refine VO.c (.ext0) ?_; refine VO.go (VC.seq ?_); refine VC.condF rfl ?_; refine VC.exit (VC.seq (VC.text ?_)); refine VO.c (.move rfl) (VO.c (.sneq) (VO.c (.move rfl) ?_)); refine VO.cg (r := decide (s ≠ ByteArray.empty)) (w := true) [] trivial (fun _ => (.move rfl)) ?_; refine VO.rg (r := decide (s ≠ ByteArray.empty)) (w := true) [(50, St s)] ⟨rfl, trivial⟩ (fun _ => (.lenS)) ?_; refine VO.cg (r := decide (s ≠ ByteArray.empty)) (w := true) [(51, I ((s.size : Nat) : Int))] ⟨rfl, trivial⟩ (fun _ => (.leq)) ?_; refine VO.c (.and) (VO.c (.assign rfl) (VO.go ?_)); refine VC.ret ?_; exact VEnd.one rfl evT (pvE (by exact name_end (fun i hi => hq i (by omega))))
theorem rName_ok {s : ByteArray} : VF Tryz.prog OA 103 [St s] (B (nameB s)) := by
  refine VF.enter Tryz.func103 rfl (fun _ _ => rfl) rfl ?_; show VC _ _ _ _ _ [(0, St s)] [] _; refine VC.seq (VC.text ?_); refine VO.c (.assign rfl) ?_; refine VO.go (VC.seq (VC.seq (VC.text ?_))); refine VO.c (.move rfl) ?_; refine VO.r (.lenS) ?_; refine VO.c (.eql) (VO.c (.move rfl) ?_); refine VO.cg (r := decide (((s.size : Nat) : Int) = (0 : Int))) (w := false) [] trivial (fun _ => (.move rfl)) ?_; refine VO.rg (r := decide (((s.size : Nat) : Int) = (0 : Int))) (w := false) [(9, St s)] ⟨rfl, trivial⟩ (fun _ => (.lenS)) ?_; refine VO.cg (r := decide (((s.size : Nat) : Int) = (0 : Int))) (w := false) [(10, I ((s.size : Nat) : Int))] ⟨rfl, trivial⟩ (fun _ => (.gtr)) ?_; refine VO.c (.or) (VO.go ?_); refine VC.condB rfl (fun c1 => ?_) (fun c1 => ?_)
  · try simp only [Bool.and_eq_true, Bool.or_eq_true, Bool.and_eq_false_iff, Bool.or_eq_false_iff, Bool.not_eq_true', Bool.not_eq_false', decide_eq_true_eq, decide_eq_false_iff_not] at c1
    refine VC.seq (VC.text ?_); refine VO.c (.assign rfl) (VO.go ?_); refine VC.ret ?_; exact VEnd.one rfl evT (pvE (by exact (decide_eq_false fun hh => by have := hh.1; have := hh.2.1; omega).symm))
  try simp only [Bool.and_eq_true, Bool.or_eq_true, Bool.and_eq_false_iff, Bool.or_eq_false_iff, Bool.not_eq_true', Bool.not_eq_false', decide_eq_true_eq, decide_eq_false_iff_not] at c1
  refine VC.skip (VC.seq (VC.seq (VC.text ?_))); refine VO.c (.assign rfl) ?_; refine VO.go (VC.block ?_); refine VC.keep [(0, St s), (3, I ((0 : Nat) : Int))] ⟨rfl, rfl, trivial⟩ ?_; refine VC.loop (I := fun kk ff ss => ∃ (i : Nat), kk = s.size - i ∧ ff = [(0, St s), (3, I ((i : Nat) : Int))] ∧ ss = [] ∧ (i ≤ s.size) ∧ (∀ k, k < i → byteB (byteE s k) k = true)) ?_ _ _ _ ⟨0, rfl, rfl, rfl, Nat.zero_le _, (by intro k hk; omega)⟩; rintro kk ff ss ⟨i, hk0, rfl, rfl, hi, hq⟩; refine VC.seq (VC.seq (VC.text ?_)); refine VO.c (.move rfl) (VO.c (.move rfl) ?_); refine VO.r (.lenS) ?_; refine VO.c (.lss) (VO.go ?_); refine VC.condD rfl (fun c4 => ?_) (fun c4 => ?_)
  · refine VC.skip (VC.seq (VC.block (VC.seq (VC.text ?_)))); refine VO.c (.move rfl) (VO.c (.move rfl) (VO.c (.ixS rfl rfl (by omega) (by omega)) (VO.c (.assign rfl) ?_))); refine VO.go (VC.seq (VC.seq ?_)); refine VC.join [(0, St s), (3, I ((i : Nat) : Int)), (4, .v (.int .u8) (byteE s ((i : Nat) : Int))), (35, B (letterB (byteE s i)))] [] ?_ ?_
    · skip
      refine VC.text ?_; refine VO.c (.move rfl) (VO.c (.geq) (VO.c (.move rfl) ?_)); refine VO.splitD (x := 24) rfl (fun g7_2 => ?_) (fun g7_2 => ?_)
      · refine VO.c (.move rfl) (VO.c (.leq) (VO.c (.pickT rfl rfl) (VO.c (.move rfl) ?_))); refine VO.splitD (x := 28) rfl (fun g7_6 => ?_) (fun g7_6 => ?_)
        · refine VO.skip (VO.skip (VO.skip (VO.skip ?_))); refine VO.skip (VO.skip (VO.c (.pickT rfl rfl) ?_)); refine VO.nil ?_; exact ⟨⟨rfl, rfl, rfl, slE rfl (by rw [Bool.eq_iff_iff]; simp [letterB] <;> omega), trivial⟩, rfl⟩
        refine VO.c (.move rfl) (VO.c (.geq) (VO.c (.move rfl) ?_)); refine VO.cg (r := decide ((65 : Int) ≤ (byteE s ((i : Nat) : Int)))) (w := true) [] trivial (fun _ => (.move rfl)) ?_; refine VO.cg (r := decide ((65 : Int) ≤ (byteE s ((i : Nat) : Int)))) (w := true) [(32, .v (.int .u8) (byteE s ((i : Nat) : Int)))] ⟨rfl, trivial⟩ (fun _ => (.leq)) ?_; refine VO.c (.and) (VO.c (.pickF rfl rfl) ?_); refine VO.nil ?_; exact ⟨⟨rfl, rfl, rfl, slE rfl (by rw [Bool.eq_iff_iff]; simp [letterB] <;> omega), trivial⟩, rfl⟩
      refine VO.skip (VO.skip (VO.c (.pickF rfl rfl) (VO.c (.move rfl) ?_))); refine VO.c (.move rfl) (VO.c (.geq) (VO.c (.move rfl) ?_)); refine VO.cg (r := decide ((65 : Int) ≤ (byteE s ((i : Nat) : Int)))) (w := true) [] trivial (fun _ => (.move rfl)) ?_; refine VO.cg (r := decide ((65 : Int) ≤ (byteE s ((i : Nat) : Int)))) (w := true) [(32, .v (.int .u8) (byteE s ((i : Nat) : Int)))] ⟨rfl, trivial⟩ (fun _ => (.leq)) ?_; refine VO.c (.and) (VO.c (.pickF rfl rfl) ?_); refine VO.nil ?_; exact ⟨⟨rfl, rfl, rfl, slE rfl (by rw [Bool.eq_iff_iff]; simp [letterB] <;> omega), trivial⟩, rfl⟩
    refine VC.condB rfl (fun c7 => ?_) (fun c7 => ?_)
    · have hok : byteB (byteE s i) i = true := by rw [byteB, c7] <;> rfl
      refine VC.exit (VC.text ?_); refine VO.c (.move rfl) (VO.c (.add rfl rfl (by omega)) (VO.c (.assign rfl) ?_)); refine VO.nil ?_; refine ⟨_, [(0, St s), (3, I (((i + 1) : Nat) : Int))], ?_, ⟨rfl, rfl, trivial⟩, (i + 1), rfl, rfl, rfl, (by omega), (by intro k hk; rcases Nat.lt_succ_iff_lt_or_eq.1 hk with h | h; exact hq k h; subst h; exact hok)⟩; omega
    refine VC.skip (VC.seq ?_); refine VC.join [(0, St s), (3, I ((i : Nat) : Int)), (49, B (!(decide (i ≠ 0) && otherB (byteE s i))))] [] ?_ ?_
    · skip
      refine VC.text ?_; refine VO.c (.move rfl) (VO.c (.eql) (VO.c (.move rfl) ?_)); refine VO.splitD (x := 38) rfl (fun g8_2 => ?_) (fun g8_2 => ?_)
      · refine VO.skip (VO.skip (VO.skip (VO.skip ?_))); refine VO.skip (VO.skip (VO.skip (VO.skip ?_))); refine VO.skip (VO.skip (VO.c (.pickT rfl rfl) ?_)); refine VO.nil ?_; exact ⟨⟨rfl, rfl, slE rfl (by rw [Bool.eq_iff_iff]; simp [otherB] <;> omega), trivial⟩, rfl⟩
      refine VO.c (.move rfl) (VO.c (.neq) (VO.c (.move rfl) ?_)); refine VO.splitD (x := 41) rfl (fun g8_5 => ?_) (fun g8_5 => ?_)
      · refine VO.c (.move rfl) (VO.c (.lss) (VO.c (.move rfl) ?_)); refine VO.cg (r := decide ((byteE s ((i : Nat) : Int)) < (48 : Int))) (w := false) [] trivial (fun _ => (.move rfl)) ?_; refine VO.cg (r := decide ((byteE s ((i : Nat) : Int)) < (48 : Int))) (w := false) [(45, .v (.int .u8) (byteE s ((i : Nat) : Int)))] ⟨rfl, trivial⟩ (fun _ => (.gtr)) ?_; refine VO.c (.or) (VO.c (.pickT rfl rfl) (VO.c (.pickF rfl rfl) ?_)); refine VO.nil ?_; exact ⟨⟨rfl, rfl, slE rfl (by rw [Bool.eq_iff_iff]; simp [otherB] <;> omega), trivial⟩, rfl⟩
      refine VO.skip (VO.skip (VO.skip (VO.skip ?_))); refine VO.skip (VO.skip (VO.c (.pickF rfl rfl) (VO.c (.pickF rfl rfl) ?_))); refine VO.nil ?_; exact ⟨⟨rfl, rfl, slE rfl (by rw [Bool.eq_iff_iff]; simp [otherB] <;> omega), trivial⟩, rfl⟩
    refine VC.condB rfl (fun c8 => ?_) (fun c8 => ?_)
    · try simp only [Bool.and_eq_true, Bool.or_eq_true, Bool.and_eq_false_iff, Bool.or_eq_false_iff, Bool.not_eq_true', Bool.not_eq_false', decide_eq_true_eq, decide_eq_false_iff_not] at c8
      refine VC.seq (VC.text ?_); refine VO.c (.assign rfl) (VO.go ?_); refine VC.ret ?_; exact VEnd.one rfl evT (pvE (by exact nameB_f (i := i) (by omega) (by simp only [byteB, c7, Bool.false_or, Bool.and_eq_false_iff, decide_eq_false_iff_not]; exact c8)))
    try simp only [Bool.and_eq_true, Bool.or_eq_true, Bool.and_eq_false_iff, Bool.or_eq_false_iff, Bool.not_eq_true', Bool.not_eq_false', decide_eq_true_eq, decide_eq_false_iff_not] at c8
    have hok : byteB (byteE s i) i = true := by simp [byteB, *]
    refine VC.skip (VC.text ?_); refine VO.c (.move rfl) (VO.c (.add rfl rfl (by omega)) (VO.c (.assign rfl) ?_)); refine VO.nil ?_; refine ⟨_, [(0, St s), (3, I (((i + 1) : Nat) : Int))], ?_, ⟨rfl, rfl, trivial⟩, (i + 1), rfl, rfl, rfl, (by omega), (by intro k hk; rcases Nat.lt_succ_iff_lt_or_eq.1 hk with h | h; exact hq k h; subst h; exact hok)⟩; omega
  refine VC.exit (VC.seq (VC.text ?_)); refine VO.c (.assign rfl) (VO.go ?_); refine VC.ret ?_; exact VEnd.one rfl evT (pvE (by exact nameB_t (by omega) (by omega) (fun k hk => hq k (by omega))))
theorem rNameE_ok {s : ByteArray} : VF Tryz.prog OA 100 [St s] (I (whenE (!nameB s) 8)) := by
  refine VF.enter Tryz.func100 rfl (fun _ _ => rfl) rfl ?_; show VC _ _ _ _ _ [(0, St s)] [] _; refine VC.seq (VC.text ?_); refine VO.c (.assign rfl) ?_; refine VO.go (VC.seq (VC.seq (VC.text ?_))); refine VO.c (.move rfl) ?_; refine VO.call rfl rfl (VF.call (rName_ok )) ?_; refine VO.c (.not) (VO.go ?_); refine VC.condB rfl (fun c1 => ?_) (fun c1 => ?_)
  · try simp only [Bool.and_eq_true, Bool.or_eq_true, Bool.and_eq_false_iff, Bool.or_eq_false_iff, Bool.not_eq_true', Bool.not_eq_false', decide_eq_true_eq, decide_eq_false_iff_not] at c1
    refine VC.seq (VC.text ?_); refine VO.c (.assign rfl) (VO.go ?_); refine VC.ret ?_; exact VEnd.one rfl evT (pvI (by simp [whenE, *]))
  try simp only [Bool.and_eq_true, Bool.or_eq_true, Bool.and_eq_false_iff, Bool.or_eq_false_iff, Bool.not_eq_true', Bool.not_eq_false', decide_eq_true_eq, decide_eq_false_iff_not] at c1
  refine VC.skip (VC.seq (VC.text ?_)); refine VO.c (.assign rfl) (VO.go ?_); refine VC.ret ?_; exact VEnd.one rfl evT (pvI (by simp [whenE, *]))
end Go.Proofs
namespace Go.Proofs
open Go.Fs
theorem firstE_app : ∀ xs ys : List Int, firstE (xs ++ ys) = if firstE xs = 0 then firstE ys else firstE xs
  | [], ys => by simp [firstE]
  | x :: xs, ys => by
    have e1 : firstE (x :: xs ++ ys) = if x = 0 then firstE (xs ++ ys) else x := rfl; have e2 : firstE (x :: xs) = if x = 0 then firstE xs else x := rfl; by_cases h : x = 0
    · rw [if_pos h] at e1 e2; rw [e1, e2]; exact firstE_app xs ys
    rw [if_neg h] at e1 e2; rw [e1, e2, if_neg h]
theorem firstE_one {x : Int} : firstE [x] = x := by
  simp only [firstE]; by_cases h : x = 0 <;> simp [h]
theorem firstE_two {x y : Int} : firstE [x, y] = if x = 0 then y else x := by
  show (if x = 0 then firstE [y] else x) = _; rw [firstE_one]
theorem firstE_all {l : List Int} : firstE l = 0 ↔ ∀ x ∈ l, x = 0 := by
  induction l with
  | nil => simp [firstE]
  | cons x l ih => by_cases h : x = 0 <;> simp [firstE, h, ih]
theorem sNm_ok {s : ByteArray} : VF Tryz.prog OA 87 [St s] (I (whenE (!nameB s) 8)) := by
  refine VF.enter Tryz.func87 rfl (fun _ _ => rfl) rfl ?_; show VC _ _ _ _ _ [(0, St s)] [] _; refine VC.seq (VC.text ?_); refine VO.c (.assign rfl) ?_; refine VO.go (VC.seq (VC.text ?_)); refine VO.c (.move rfl) ?_; refine VO.call rfl rfl (VF.call (gName_ok )) ?_; refine VO.c (.not) ?_; refine VO.call rfl rfl (VF.call (sWhen_ok )) ?_; refine VO.c (.assign rfl) (VO.go ?_); refine VC.ret ?_; exact VEnd.one rfl evT (pvI (by rfl))
end Go.Proofs
namespace Go.Proofs
open Go.Fs
theorem vt9 : ValT Tryz.prog 9 .str := valT_of (by kernel_rfl)
theorem vt48 : ValT Tryz.prog 48 (.sl .str) := valT_of (by kernel_rfl)
theorem el48 : ElT Tryz.prog 48 9 .str := elT_of (by kernel_rfl)
def idxG {α : Type} (F : α → Bool) : List α → Int → Int
  | [], _ => -1
  | x :: l, k => if F x = true then k else idxG F l (k + 1)
theorem idxG_drop {α : Type} {F : α → Bool} {l : List α} {j : Nat} (hj : j < l.length) : idxG F (l.drop j) (j : Nat) = if F l[j] = true then ((j : Nat) : Int) else idxG F (l.drop (j + 1)) ((j + 1 : Nat) : Int) := by
  rw [List.drop_eq_getElem_cons hj] <;> rfl
theorem idxG_end {α : Type} {F : α → Bool} {l : List α} {j : Nat} {k : Int} (hj : l.length ≤ j) : idxG F (l.drop j) k = -1 := by rw [List.drop_eq_nil_of_le hj] <;> rfl
theorem idxG_any {α : Type} {F : α → Bool} : ∀ {l : List α} {k : Int}, 0 ≤ k → ((0 ≤ idxG F l k) ↔ l.any F = true)
  | [], k, _ => by simp [idxG]
  | x :: l, k, h => by
    unfold idxG; rw [List.any_cons]; by_cases hx : F x = true
    · rw [if_pos hx, hx]; simp [h]
    rw [if_neg hx, idxG_any (l := l) (by omega)]; simp [hx]
theorem any_drop {α : Type} {F : α → Bool} {l : List α} {j : Nat} (hj : j < l.length) : (l.drop j).any F = (F l[j] || (l.drop (j + 1)).any F) := by
  rw [List.drop_eq_getElem_cons hj, List.any_cons]
theorem any_end {α : Type} {F : α → Bool} {l : List α} {j : Nat} (hj : l.length ≤ j) : (l.drop j).any F = false := by rw [List.drop_eq_nil_of_le hj] <;> rfl
theorem zIndex_ok {l : List ByteArray} {v : ByteArray} (hl : l.length < 1000000) : VF Tryz.prog OA 124 [.v (.sl .str) l, St v] (I (idxG (fun x => decide (v = x)) l 0)) := by
  refine VF.enter Tryz.func124 rfl (fun _ _ => rfl) rfl ?_; show VC _ _ _ _ _ [(0, .v (.sl .str) l), (1, St v)] [] _; refine VC.seq (VC.text ?_); refine VO.c (.assign rfl) ?_; refine VO.go (VC.seq (VC.seq (VC.text ?_))); refine VO.c (.move rfl) ?_; refine VO.r (.len el48) ?_; refine VO.c (.move rfl) ?_; refine VO.go (VC.block ?_); refine VC.keep [(0, .v (.sl .str) l), (1, St v), (7, I ((l.length : Nat) : Int)), (8, I ((0 : Nat) : Int))] ⟨rfl, rfl, rfl, rfl, trivial⟩ ?_; refine VC.loop (I := fun kk ff ss => ∃ (j : Nat), kk = l.length - j ∧ ff = [(0, .v (.sl .str) l), (1, St v), (7, I ((l.length : Nat) : Int)), (8, I ((j : Nat) : Int))] ∧ ss = [] ∧ (j ≤ l.length) ∧ (idxG (fun x => decide (v = x)) l 0 = idxG (fun x => decide (v = x)) (l.drop j) (j : Nat))) ?_ _ _ _ ⟨0, rfl, rfl, rfl, Nat.zero_le _, (by rfl)⟩; rintro kk ff ss ⟨j, hk0, rfl, rfl, hj, hi⟩; refine VC.seq (VC.text ?_); refine VO.c (.lss) ?_; refine VO.go (VC.seq ?_); refine VC.condD rfl (fun c2 => ?_) (fun c2 => ?_)
  · refine VC.skip (VC.seq (VC.block (VC.seq (VC.text ?_)))); refine VO.c (.move rfl) (VO.c (.assign rfl) ?_); refine VO.go (VC.seq (VC.text ?_)); refine VO.c (.move rfl) (VO.c (.move rfl) (VO.c (.move rfl) (VO.c (.ix (j := j) rfl rfl el48 (by omega)) ?_))); refine VO.r (.ld vt9) ?_; refine VO.c (.seql) (VO.go ?_); refine VC.condD rfl (fun c4 => ?_) (fun c4 => ?_)
    · refine VC.seq (VC.text ?_); refine VO.c (.move rfl) (VO.c (.assign rfl) (VO.go ?_)); refine VC.ret ?_; exact VEnd.one rfl evT (pvI (by rw [hi, idxG_drop (by omega), if_pos (by simpa using c4)]))
    refine VC.skip (VC.text ?_); refine VO.c (.add rfl rfl (by omega)) (VO.c (.move rfl) ?_); refine VO.nil ?_; refine ⟨_, [(0, .v (.sl .str) l), (1, St v), (7, I ((l.length : Nat) : Int)), (8, I (((j + 1) : Nat) : Int))], ?_, ⟨rfl, rfl, rfl, rfl, trivial⟩, (j + 1), rfl, rfl, rfl, (by omega), (by rw [hi, idxG_drop (by omega), if_neg (by simpa using c4)])⟩; omega
  refine VC.exit (VC.seq (VC.text ?_)); refine VO.c (.assign rfl) (VO.go ?_); refine VC.ret ?_; exact VEnd.one rfl evT (pvI (by rw [hi, idxG_end (by omega)]))
def hasB (l : List ByteArray) (v : ByteArray) : Bool := l.any fun x => decide (x = v)
theorem hasB_comm {l : List ByteArray} {v : ByteArray} : (l.any fun x => decide (v = x)) = hasB l v := by
  unfold hasB; congr 1; funext x; exact decide_eq_decide.2 ⟨Eq.symm, Eq.symm⟩
theorem zContains_ok {l : List ByteArray} {v : ByteArray} (hl : l.length < 1000000) : VF Tryz.prog OA 78 [.v (.sl .str) l, St v] (B (hasB l v)) := by
  refine VF.enter Tryz.func78 rfl (fun _ _ => rfl) rfl ?_; show VC _ _ _ _ _ [(0, .v (.sl .str) l), (1, St v)] [] _; refine VC.seq (VC.text ?_); refine VO.c (.assign rfl) ?_; refine VO.go (VC.seq (VC.text ?_)); refine VO.c (.move rfl) (VO.c (.move rfl) ?_); refine VO.call rfl rfl (VF.call (zIndex_ok hl)) ?_; refine VO.c (.geq) (VO.c (.assign rfl) (VO.go ?_)); refine VC.ret ?_; exact VEnd.one rfl evT (pvE (by have h9 := idxG_any (F := fun x => decide (v = x)) (l := l) (k := 0) (by omega); rw [hasB_comm] at h9; cases h8 : hasB l v <;> simp_all))
theorem rHas_ok {l : List ByteArray} {s : ByteArray} (hl : l.length < 1000000) : VF Tryz.prog OA 106 [.v (.sl .str) l, St s] (B (hasB l s)) := by
  refine VF.enter Tryz.func106 rfl (fun _ _ => rfl) rfl ?_; show VC _ _ _ _ _ [(0, .v (.sl .str) l), (1, St s)] [] _; refine VC.seq (VC.text ?_); refine VO.c (.assign rfl) ?_; refine VO.go (VC.seq (VC.seq (VC.text ?_))); refine VO.c (.assign rfl) ?_; refine VO.go (VC.block ?_); refine VC.keep [(0, .v (.sl .str) l), (1, St s), (5, I ((0 : Nat) : Int))] ⟨rfl, rfl, rfl, trivial⟩ ?_; refine VC.loop (I := fun kk ff ss => ∃ (j : Nat), kk = l.length - j ∧ ff = [(0, .v (.sl .str) l), (1, St s), (5, I ((j : Nat) : Int))] ∧ ss = [] ∧ (j ≤ l.length) ∧ (hasB l s = hasB (l.drop j) s)) ?_ _ _ _ ⟨0, rfl, rfl, rfl, Nat.zero_le _, (by rfl)⟩; rintro kk ff ss ⟨j, hk0, rfl, rfl, hj, hi⟩; refine VC.seq (VC.seq (VC.text ?_)); refine VO.c (.move rfl) (VO.c (.move rfl) ?_); refine VO.r (.len el48) ?_; refine VO.c (.lss) (VO.go ?_); refine VC.condD rfl (fun c2 => ?_) (fun c2 => ?_)
  · refine VC.skip (VC.seq (VC.block (VC.seq (VC.text ?_)))); refine VO.c (.move rfl) (VO.c (.move rfl) (VO.c (.ix (j := j) rfl rfl el48 (by omega)) ?_)); refine VO.r (.ld vt9) ?_; refine VO.c (.move rfl) (VO.c (.seql) (VO.go ?_)); refine VC.condD rfl (fun c4 => ?_) (fun c4 => ?_)
    · refine VC.seq (VC.text ?_); refine VO.c (.assign rfl) (VO.go ?_); refine VC.ret ?_; exact VEnd.one rfl evT (pvE (by rw [hi, hasB, any_drop (by omega), decide_eq_true c4] <;> rfl))
    refine VC.skip (VC.text ?_); refine VO.c (.move rfl) (VO.c (.add rfl rfl (by omega)) (VO.c (.assign rfl) ?_)); refine VO.nil ?_; refine ⟨_, [(0, .v (.sl .str) l), (1, St s), (5, I (((j + 1) : Nat) : Int))], ?_, ⟨rfl, rfl, rfl, trivial⟩, (j + 1), rfl, rfl, rfl, (by omega), (by rw [hi, hasB, any_drop (by omega), decide_eq_false c4] <;> rfl)⟩; omega
  refine VC.exit (VC.seq (VC.text ?_)); refine VO.c (.assign rfl) (VO.go ?_); refine VC.ret ?_; exact VEnd.one rfl evT (pvE (by rw [hi, hasB, any_end (by omega)]))
end Go.Proofs
namespace Go.Proofs
open Go.Fs
theorem any_all {α : Type} {F : α → Bool} {l : List α} {j : Nat} (hj : j < l.length) : (l.drop j).all F = (F l[j] && (l.drop (j + 1)).all F) := by
  rw [List.drop_eq_getElem_cons hj, List.all_cons]
def shortW (l : List ByteArray) : Bool := l.all fun w => decide (w.size ≤ 60)
theorem rShort_ok {l : List ByteArray} (hl : l.length < 1000000) : VF Tryz.prog OA 17 [.v (.sl .str) l] (B (shortW l)) := by
  refine VF.enter Tryz.func17 rfl (fun _ _ => rfl) rfl ?_; show VC _ _ _ _ _ [(0, .v (.sl .str) l)] [] _; refine VC.seq (VC.text ?_); refine VO.c (.assign rfl) ?_; refine VO.go (VC.seq (VC.seq (VC.text ?_))); refine VO.c (.assign rfl) ?_; refine VO.go (VC.block ?_); refine VC.keep [(0, .v (.sl .str) l), (3, I ((0 : Nat) : Int))] ⟨rfl, rfl, trivial⟩ ?_; refine VC.loop (I := fun kk ff ss => ∃ (j : Nat), kk = l.length - j ∧ ff = [(0, .v (.sl .str) l), (3, I ((j : Nat) : Int))] ∧ ss = [] ∧ (j ≤ l.length) ∧ (shortW l = shortW (l.drop j))) ?_ _ _ _ ⟨0, rfl, rfl, rfl, Nat.zero_le _, (by rfl)⟩; rintro kk ff ss ⟨j, hk0, rfl, rfl, hj, hi⟩; refine VC.seq (VC.seq (VC.text ?_)); refine VO.c (.move rfl) (VO.c (.move rfl) ?_); refine VO.r (.len el48) ?_; refine VO.c (.lss) (VO.go ?_); refine VC.condD rfl (fun c2 => ?_) (fun c2 => ?_)
  · refine VC.skip (VC.seq (VC.block (VC.seq (VC.text ?_)))); refine VO.c (.move rfl) (VO.c (.move rfl) (VO.c (.ix (j := j) rfl rfl el48 (by omega)) ?_)); refine VO.r (.ld vt9) ?_; refine VO.r (.lenS) ?_; refine VO.c (.gtr) (VO.go ?_); refine VC.condD rfl (fun c4 => ?_) (fun c4 => ?_)
    · refine VC.seq (VC.text ?_); refine VO.c (.assign rfl) (VO.go ?_); refine VC.ret ?_; exact VEnd.one rfl evT (pvE (by rw [hi, shortW, any_all (by omega), decide_eq_false (by omega)] <;> rfl))
    refine VC.skip (VC.text ?_); refine VO.c (.move rfl) (VO.c (.add rfl rfl (by omega)) (VO.c (.assign rfl) ?_)); refine VO.nil ?_; refine ⟨_, [(0, .v (.sl .str) l), (3, I (((j + 1) : Nat) : Int))], ?_, ⟨rfl, rfl, trivial⟩, (j + 1), rfl, rfl, rfl, (by omega), (by rw [hi, shortW, any_all (by omega), decide_eq_true (by omega)] <;> rfl)⟩; omega
  refine VC.exit (VC.seq (VC.text ?_)); refine VO.c (.assign rfl) (VO.go ?_); refine VC.ret ?_; exact VEnd.one rfl evT (pvE (by rw [hi, shortW, List.drop_eq_nil_of_le (by omega)] <;> rfl))
theorem lWords_ok {l : List ByteArray} (hl : l.length < 1000000) : VF Tryz.prog OA 47 [.v (.sl .str) l] (.v (.sl .str) l) := by
  refine VF.enter Tryz.func47 rfl (fun _ _ => rfl) rfl ?_; show VC _ _ _ _ _ [(0, .v (.sl .str) l)] [] _; refine VC.seq (VC.text ?_); refine VO.c (.assign rfl) ?_; refine VO.go (VC.seq (VC.text ?_)); refine VO.cell (.lit0 el48) ?_; intro ww1; refine VO.c (.move rfl) ?_; refine VO.app rfl rfl el48 el48 (by simp; omega) ?_; intro ww2; refine VO.c (.assign rfl) (VO.go ?_); refine VC.ret ?_; exact VEnd.one rfl (evC (.row m0)) (pvE (by rfl))
end Go.Proofs
namespace Go.Proofs
open Go.Fs
abbrev y22 : Ty := (.sl (.pair .str (.int .i64)))
abbrev y24 : Ty := (.sl (.pair .str (.pair .bool (.sl .str))))
abbrev y26 : Ty := (.pair (.sl (.pair .str (.int .i64))) (.pair (.sl (.pair .str (.sl (.pair .str (.int .i64))))) (.sl (.pair .str (.pair .bool (.sl .str))))))
abbrev y32 : Ty := (.sl (.pair .str (.int .i64)))
abbrev y34 : Ty := (.sl (.pair .str (.pair .bool (.sl .str))))
abbrev y36 : Ty := (.pair (.sl (.pair .str (.int .i64))) (.pair (.sl (.pair .str (.sl (.pair .str (.int .i64))))) (.sl (.pair .str (.pair .bool (.sl .str))))))
abbrev y98 : Ty := (.pair .str (.int .i64))
abbrev y102 : Ty := (.pair .str (.pair .bool (.sl .str)))
theorem vt23 : ValT Tryz.prog 23 (.sl (.pair .str (.sl (.pair .str (.int .i64))))) := valT_of (by kernel_rfl)
theorem vt32 : ValT Tryz.prog 32 y32 := valT_of (by kernel_rfl)
theorem vt34 : ValT Tryz.prog 34 y34 := valT_of (by kernel_rfl)
theorem vt98 : ValT Tryz.prog 98 y98 := valT_of (by kernel_rfl)
theorem vt102 : ValT Tryz.prog 102 y102 := valT_of (by kernel_rfl)
theorem el22 : ElT Tryz.prog 22 52 (.pair .str (.int .i64)) := elT_of (by kernel_rfl)
theorem el23 : ElT Tryz.prog 23 54 (.pair .str (.sl (.pair .str (.int .i64)))) := elT_of (by kernel_rfl)
theorem el24 : ElT Tryz.prog 24 56 (.pair .str (.pair .bool (.sl .str))) := elT_of (by kernel_rfl)
theorem el32 : ElT Tryz.prog 32 98 y98 := elT_of (by kernel_rfl)
theorem el34 : ElT Tryz.prog 34 102 y102 := elT_of (by kernel_rfl)
abbrev Vers := ByteArray × Int
abbrev Evid := ByteArray × List Vers
abbrev Clm := ByteArray × Bool × List ByteArray
abbrev Cse := List Vers × List Evid × List Clm
theorem rFew_ok {n : Int} : VF Tryz.prog OA 16 [I n] (B (decide (n ≤ 8) || decide (n = 65))) := by
  refine VF.enter Tryz.func16 rfl (fun _ _ => rfl) rfl ?_; show VC _ _ _ _ _ [(0, I n)] [] _; refine VC.seq (VC.text ?_); refine VO.c (.assign rfl) ?_; refine VO.go (VC.seq (VC.text ?_)); refine VO.c (.move rfl) (VO.c (.leq) (VO.c (.move rfl) ?_)); refine VO.cg (r := decide (n ≤ (8 : Int))) (w := false) [] trivial (fun _ => (.move rfl)) ?_; refine VO.cg (r := decide (n ≤ (8 : Int))) (w := false) [(6, I n)] ⟨rfl, trivial⟩ (fun _ => (.eql)) ?_; refine VO.c (.or) (VO.c (.assign rfl) (VO.go ?_)); refine VC.ret ?_; exact VEnd.one rfl evT (pvE (by rfl))
def thingE (l : List Vers) (s : ByteArray) : Int := idxG (fun v => decide (v.1 = s)) l 0
def evidE (l : List Evid) (s : ByteArray) : Int := idxG (fun v => decide (v.1 = s)) l 0
def claimE (l : List Clm) (s : ByteArray) : Int := idxG (fun v => decide (v.1 = s)) l 0
theorem rThing_ok {l : List (ByteArray × Int)} {s : ByteArray} (hl : l.length < 1000000) : VF Tryz.prog OA 102 [.v y22 l, St s] (I (thingE l s)) := by
  refine VF.enter Tryz.func102 rfl (fun _ _ => rfl) rfl ?_; show VC _ _ _ _ _ [(0, .v y22 l), (1, St s)] [] _; refine VC.seq (VC.text ?_); refine VO.c (.assign rfl) ?_; refine VO.go (VC.seq (VC.seq (VC.text ?_))); refine VO.c (.assign rfl) ?_; refine VO.go (VC.block ?_); refine VC.keep [(0, .v y22 l), (1, St s), (5, I ((0 : Nat) : Int))] ⟨rfl, rfl, rfl, trivial⟩ ?_; refine VC.loop (I := fun kk ff ss => ∃ (j : Nat), kk = l.length - j ∧ ff = [(0, .v y22 l), (1, St s), (5, I ((j : Nat) : Int))] ∧ ss = [] ∧ (j ≤ l.length) ∧ (thingE l s = idxG (fun v => decide (v.1 = s)) (l.drop j) (j : Nat))) ?_ _ _ _ ⟨0, rfl, rfl, rfl, Nat.zero_le _, (by rfl)⟩; rintro kk ff ss ⟨j, hk0, rfl, rfl, hj, hi⟩; refine VC.seq (VC.seq (VC.text ?_)); refine VO.c (.move rfl) (VO.c (.move rfl) ?_); refine VO.r (.len el22) ?_; refine VO.c (.lss) (VO.go ?_); refine VC.condD rfl (fun c2 => ?_) (fun c2 => ?_)
  · refine VC.skip (VC.seq (VC.block (VC.seq (VC.text ?_)))); refine VO.c (.move rfl) (VO.c (.move rfl) (VO.c (.ix (j := j) rfl rfl el22 (by omega)) (VO.c (.fa (.l .o)) ?_))); refine VO.r (.ld vt9) ?_; refine VO.c (.move rfl) (VO.c (.seql) (VO.go ?_)); refine VC.condD rfl (fun c4 => ?_) (fun c4 => ?_)
    · refine VC.seq (VC.text ?_); refine VO.c (.move rfl) (VO.c (.assign rfl) (VO.go ?_)); refine VC.ret ?_; exact VEnd.one rfl evT (pvI (by rw [hi, idxG_drop (by omega), if_pos (by simpa using c4)]))
    refine VC.skip (VC.text ?_); refine VO.c (.move rfl) (VO.c (.add rfl rfl (by omega)) (VO.c (.assign rfl) ?_)); refine VO.nil ?_; refine ⟨_, [(0, .v y22 l), (1, St s), (5, I (((j + 1) : Nat) : Int))], ?_, ⟨rfl, rfl, rfl, trivial⟩, (j + 1), rfl, rfl, rfl, (by omega), (by rw [hi, idxG_drop (by omega), if_neg (by simpa using c4)])⟩; omega
  refine VC.exit (VC.seq (VC.text ?_)); refine VO.c (.assign rfl) (VO.go ?_); refine VC.ret ?_; exact VEnd.one rfl evT (pvI (by rw [hi, idxG_end (by omega)]))
theorem rEvid_ok {c : (List (ByteArray × Int)) × (List (ByteArray × (List (ByteArray × Int)))) × (List (ByteArray × Bool × (List ByteArray)))} {s : ByteArray} (hl : c.2.1.length < 1000000) : VF Tryz.prog OA 104 [.v y26 c, St s] (I (evidE c.2.1 s)) := by
  refine VF.enter Tryz.func104 rfl (fun _ _ => rfl) rfl ?_; show VC _ _ _ _ _ [(0, .v y26 c), (1, St s)] [] _; refine VC.seq (VC.text ?_); refine VO.new (.box) ?_; refine VO.c (.assign rfl) ?_; refine VO.go (VC.seq (VC.seq (VC.text ?_))); refine VO.c (.assign rfl) ?_; refine VO.go (VC.block ?_); refine VC.keep [(1, St s), (2, .p y26 c), (5, I ((0 : Nat) : Int))] ⟨rfl, rfl, rfl, trivial⟩ ?_; refine VC.loop (I := fun kk ff ss => ∃ (j : Nat), kk = c.2.1.length - j ∧ ff = [(1, St s), (2, .p y26 c), (5, I ((j : Nat) : Int))] ∧ ss = [] ∧ (j ≤ c.2.1.length) ∧ (evidE c.2.1 s = idxG (fun v => decide (v.1 = s)) (c.2.1.drop j) (j : Nat))) ?_ _ _ _ ⟨0, rfl, rfl, rfl, Nat.zero_le _, (by rfl)⟩; rintro kk ff ss ⟨j, hk0, rfl, rfl, hj, hi⟩; refine VC.seq (VC.seq (VC.text ?_)); refine VO.c (.move rfl) (VO.c (.fa (.r (.l .o))) ?_); refine VO.r (.ld vt23) ?_; refine VO.r (.len el23) ?_; refine VO.c (.lss) (VO.go ?_); refine VC.condD rfl (fun c2 => ?_) (fun c2 => ?_)
  · refine VC.skip (VC.seq (VC.block (VC.seq (VC.text ?_)))); refine VO.c (.fa (.r (.l .o))) ?_; refine VO.r (.ld vt23) ?_; refine VO.c (.move rfl) (VO.c (.ix (j := j) rfl rfl el23 (by omega)) (VO.c (.fa (.l .o)) ?_)); refine VO.r (.ld vt9) ?_; refine VO.c (.move rfl) (VO.c (.seql) (VO.go ?_)); refine VC.condD rfl (fun c4 => ?_) (fun c4 => ?_)
    · refine VC.seq (VC.text ?_); refine VO.c (.move rfl) (VO.c (.assign rfl) (VO.go ?_)); refine VC.ret ?_; exact VEnd.one rfl evT (pvI (by rw [hi, idxG_drop (by omega), if_pos (by simpa using c4)]))
    refine VC.skip (VC.text ?_); refine VO.c (.move rfl) (VO.c (.add rfl rfl (by omega)) (VO.c (.assign rfl) ?_)); refine VO.nil ?_; refine ⟨_, [(1, St s), (2, .p y26 c), (5, I (((j + 1) : Nat) : Int))], ?_, ⟨rfl, rfl, rfl, trivial⟩, (j + 1), rfl, rfl, rfl, (by omega), (by rw [hi, idxG_drop (by omega), if_neg (by simpa using c4)])⟩; omega
  refine VC.exit (VC.seq (VC.text ?_)); refine VO.c (.assign rfl) (VO.go ?_); refine VC.ret ?_; exact VEnd.one rfl evT (pvI (by rw [hi, idxG_end (by omega)]))
theorem rClaim_ok {l : List (ByteArray × Bool × (List ByteArray))} {s : ByteArray} (hl : l.length < 1000000) : VF Tryz.prog OA 105 [.v y24 l, St s] (I (claimE l s)) := by
  refine VF.enter Tryz.func105 rfl (fun _ _ => rfl) rfl ?_; show VC _ _ _ _ _ [(0, .v y24 l), (1, St s)] [] _; refine VC.seq (VC.text ?_); refine VO.c (.assign rfl) ?_; refine VO.go (VC.seq (VC.seq (VC.text ?_))); refine VO.c (.assign rfl) ?_; refine VO.go (VC.block ?_); refine VC.keep [(0, .v y24 l), (1, St s), (5, I ((0 : Nat) : Int))] ⟨rfl, rfl, rfl, trivial⟩ ?_; refine VC.loop (I := fun kk ff ss => ∃ (j : Nat), kk = l.length - j ∧ ff = [(0, .v y24 l), (1, St s), (5, I ((j : Nat) : Int))] ∧ ss = [] ∧ (j ≤ l.length) ∧ (claimE l s = idxG (fun v => decide (v.1 = s)) (l.drop j) (j : Nat))) ?_ _ _ _ ⟨0, rfl, rfl, rfl, Nat.zero_le _, (by rfl)⟩; rintro kk ff ss ⟨j, hk0, rfl, rfl, hj, hi⟩; refine VC.seq (VC.seq (VC.text ?_)); refine VO.c (.move rfl) (VO.c (.move rfl) ?_); refine VO.r (.len el24) ?_; refine VO.c (.lss) (VO.go ?_); refine VC.condD rfl (fun c2 => ?_) (fun c2 => ?_)
  · refine VC.skip (VC.seq (VC.block (VC.seq (VC.text ?_)))); refine VO.c (.move rfl) (VO.c (.move rfl) (VO.c (.ix (j := j) rfl rfl el24 (by omega)) (VO.c (.fa (.l .o)) ?_))); refine VO.r (.ld vt9) ?_; refine VO.c (.move rfl) (VO.c (.seql) (VO.go ?_)); refine VC.condD rfl (fun c4 => ?_) (fun c4 => ?_)
    · refine VC.seq (VC.text ?_); refine VO.c (.move rfl) (VO.c (.assign rfl) (VO.go ?_)); refine VC.ret ?_; exact VEnd.one rfl evT (pvI (by rw [hi, idxG_drop (by omega), if_pos (by simpa using c4)]))
    refine VC.skip (VC.text ?_); refine VO.c (.move rfl) (VO.c (.add rfl rfl (by omega)) (VO.c (.assign rfl) ?_)); refine VO.nil ?_; refine ⟨_, [(0, .v y24 l), (1, St s), (5, I (((j + 1) : Nat) : Int))], ?_, ⟨rfl, rfl, rfl, trivial⟩, (j + 1), rfl, rfl, rfl, (by omega), (by rw [hi, idxG_drop (by omega), if_neg (by simpa using c4)])⟩; omega
  refine VC.exit (VC.seq (VC.text ?_)); refine VO.c (.assign rfl) (VO.go ?_); refine VC.ret ?_; exact VEnd.one rfl evT (pvI (by rw [hi, idxG_end (by omega)]))
theorem sNumber_ok {n : Int} : VF Tryz.prog OA 80 [I n] (I (rangeE n 0 999)) := by
  refine VF.enter Tryz.func80 rfl (fun _ _ => rfl) rfl ?_; show VC _ _ _ _ _ [(0, I n)] [] _; refine VC.seq (VC.text ?_); refine VO.c (.assign rfl) ?_; refine VO.go (VC.seq (VC.text ?_)); refine VO.c (.move rfl) ?_; refine VO.call rfl rfl (VF.call (sWithin_ok )) ?_; refine VO.c (.assign rfl) (VO.go ?_); refine VC.ret ?_; exact VEnd.one rfl evT (pvI (by first | rfl | simp))
end Go.Proofs
namespace Go.Proofs
open Go.Fs
abbrev y144 : Ty := (.mp .str (.int .i64))
theorem zt3 : ZerT Tryz.prog 3 (.int .i64) := zerT_of (z := .int .i64 0) (by kernel_rfl) rfl rfl
theorem zt98 : ZerT Tryz.prog 98 y98 := zerT_of (z := .agg #[.string ByteArray.empty, .int .i64 0]) (by kernel_rfl) rfl rfl
theorem mt144 : MapT Tryz.prog 144 .str (.int .i64) := ⟨9, 3, by kernel_rfl, keyStr (by kernel_rfl), zt3⟩
def firstR (f : Nat → Int) (i n : Nat) : Int := firstE ((List.range' i (n - i)).map f)
theorem firstR_step {f : Nat → Int} {i n : Nat} (h : i < n) : firstR f i n = if f i = 0 then firstR f (i + 1) n else f i := by
  unfold firstR; rw [show n - i = (n - (i + 1)) + 1 by omega, List.range'_succ]; rfl
theorem firstR_end {f : Nat → Int} {i n : Nat} (h : n ≤ i) : firstR f i n = 0 := by
  unfold firstR; rw [show n - i = 0 by omega] <;> rfl
theorem mget_mset {α β : Type} [DecidableEq α] : ∀ (m : List (α × β)) (x z : α) (y : β), mget (mset m x y) z = if z = x then some y else mget m z
  | [], x, z, y => by simp [mset, mget]
  | (a, b) :: r, x, z, y => by
    by_cases h : x = a
    · subst h; simp only [mset, if_pos, mget]; by_cases h2 : z = x <;> simp [h2]
    simp only [mset, if_neg h, mget, mget_mset r x z y]; by_cases h2 : z = a
    · subst h2; have : ¬ z = x := fun e => h e.symm; simp [this]
    simp [h2]
def vAt (l : List Vers) (i : Nat) : Vers := l.getD i (ByteArray.empty, 0)
theorem vAt_eq {l : List Vers} {i : Nat} (h : i < l.length) : vAt l i = l[i] := by simp [vAt, h]
def verAt (l : List Vers) (i : Nat) : Int := firstE [whenE (!nameB (vAt l i).1) 8, rangeE (vAt l i).2 0 999, whenE (decide (0 ≤ thingE (l.take i) (vAt l i).1)) 9]
def versE (l : List Vers) : Int := if 64 < (l.length : Int) then 5 else firstR (verAt l) 0 l.length
theorem verAt_two {l : List Vers} {i : Nat} (h : i < l.length) : verAt l i = if firstE [whenE (!nameB l[i].1) 8, rangeE l[i].2 0 999] = 0 then whenE (decide (0 ≤ thingE (l.take i) l[i].1)) 9 else firstE [whenE (!nameB l[i].1) 8, rangeE l[i].2 0 999] := by
  unfold verAt; rw [vAt_eq h]; show firstE ([_, _] ++ [_]) = _; rw [firstE_app, firstE_one]
theorem rVersions_ok {l : List (ByteArray × Int)} (hl : l.length < 1000000) : VF Tryz.prog OA 52 [.v y22 l] (I (versE l)) := by
  refine VF.enter Tryz.func52 rfl (fun _ _ => rfl) rfl ?_; show VC _ _ _ _ _ [(0, .v y22 l)] [] _; refine VC.seq (VC.text ?_); refine VO.c (.assign rfl) ?_; refine VO.go (VC.seq (VC.seq (VC.text ?_))); refine VO.c (.move rfl) ?_; refine VO.r (.len el22) ?_; refine VO.c (.gtr) (VO.go ?_); refine VC.condD rfl (fun c1 => ?_) (fun c1 => ?_)
  · refine VC.seq (VC.text ?_); refine VO.c (.assign rfl) (VO.go ?_); refine VC.ret ?_; exact VEnd.one rfl evT (pvI (by rw [versE, if_pos c1]))
  refine VC.skip (VC.seq (VC.seq (VC.text ?_))); refine VO.c (.assign rfl) ?_; refine VO.go (VC.block ?_); refine VC.keep [(0, .v y22 l), (3, I ((0 : Nat) : Int))] ⟨rfl, rfl, trivial⟩ ?_; refine VC.loop (I := fun kk ff ss => ∃ (i : Nat), kk = l.length - i ∧ ff = [(0, .v y22 l), (3, I ((i : Nat) : Int))] ∧ ss = [] ∧ (i ≤ l.length) ∧ (versE l = firstR (verAt l) i l.length)) ?_ _ _ _ ⟨0, rfl, rfl, rfl, Nat.zero_le _, (by exact if_neg c1)⟩; rintro kk ff ss ⟨i, hk0, rfl, rfl, hi, hw⟩; refine VC.seq (VC.seq (VC.text ?_)); refine VO.c (.move rfl) (VO.c (.move rfl) ?_); refine VO.r (.len el22) ?_; refine VO.c (.lss) (VO.go ?_); refine VC.condD rfl (fun c4 => ?_) (fun c4 => ?_)
  · refine VC.skip (VC.seq (VC.block (VC.seq (VC.seq (VC.drawn ?_))))); refine VD.c (.move rfl) (VD.c (.move rfl) (VD.c (.ix (j := i) rfl rfl el22 (by omega)) (VD.c (.fa (.l .o)) ?_))); refine VD.r [] (.ld vt9) (.inl rfl) ?_; refine VD.call rfl rfl (VF.call (rNameE_ok )) ?_; refine VD.nw [] (VD.c (.move rfl) (VD.c (.move rfl) (VD.c (.ix (j := i) rfl rfl el22 (by omega)) ?_))); refine VD.c (.fa (.r .o)) ?_; refine VD.r [] (.ld vt3) (.inl rfl) ?_; refine VD.call rfl rfl (VF.call (rCheckRange_ok )) ?_; refine VD.new (.lit [whenE (!nameB ((l[i]).1)) 8, rangeE ((l[i]).2) (0 : Int) (999 : Int)] el161) ?_; refine VD.nw [26] ?_; refine VD.callO rfl rfl (VF.call (rFirst_ok (by simp))) ?_; refine VD.c (.assign rfl) ?_; refine VD.go (VC.seq (VC.text ?_)); refine VO.c (.move rfl) (VO.c (.neq) (VO.go ?_)); refine VC.condD rfl (fun c7 => ?_) (fun c7 => ?_)
    · have hlt : i < l.length := by omega
      have hv : verAt l i = firstE [whenE (!nameB l[i].1) 8, rangeE l[i].2 0 999] := by rw [verAt_two hlt, if_neg c7]
      refine VC.seq (VC.text ?_); refine VO.c (.move rfl) (VO.c (.assign rfl) (VO.go ?_)); refine VC.ret ?_; exact VEnd.one rfl evT (pvI (by rw [hw, firstR_step hlt, hv, if_neg c7]))
    have hlt : i < l.length := by omega
    have hv : verAt l i = whenE (decide (0 ≤ thingE (l.take i) l[i].1)) 9 := by rw [verAt_two hlt, if_pos (Decidable.not_not.1 c7)]
    refine VC.skip (VC.seq (VC.drawn ?_)); refine VD.c (.move rfl) (VD.c (.move rfl) ?_); refine VD.r [] (.cutH rfl rfl el22 (by omega)) (.inl rfl) ?_; refine VD.c (.move rfl) (VD.c (.move rfl) (VD.c (.ix (j := i) rfl rfl el22 (by omega)) (VD.nw [] ?_))); refine VD.c (.fa (.l .o)) ?_; refine VD.r [] (.ld vt9) (.inl rfl) ?_; refine VD.call rfl rfl (VF.call (rThing_ok (by simp; omega))) ?_; refine VD.c (.geq) (VD.go ?_); refine VC.condD rfl (fun c9 => ?_) (fun c9 => ?_)
    · have hv2 : verAt l i = 9 := by rw [hv, decide_eq_true (by simpa using c9)] <;> rfl
      refine VC.seq ?_; refine VC.keep [(0, .v y22 l), (3, I ((i : Nat) : Int))] ⟨rfl, rfl, trivial⟩ ?_; refine VC.text ?_; refine VO.c (.assign rfl) (VO.go ?_); refine VC.ret ?_; exact VEnd.one rfl evT (pvI (by rw [hw, firstR_step hlt, hv2] <;> rfl))
    have hz : verAt l i = 0 := by rw [hv, decide_eq_false (by simpa using c9)] <;> rfl
    refine VC.skip ?_; refine VC.keep [(0, .v y22 l), (3, I ((i : Nat) : Int))] ⟨rfl, rfl, trivial⟩ ?_; refine VC.text ?_; refine VO.c (.move rfl) (VO.c (.add rfl rfl (by omega)) (VO.c (.assign rfl) ?_)); refine VO.nil ?_; refine ⟨_, [(0, .v y22 l), (3, I (((i + 1) : Nat) : Int))], ?_, ⟨rfl, rfl, trivial⟩, (i + 1), rfl, rfl, rfl, (by omega), (by rw [hw, firstR_step hlt, if_pos hz])⟩; omega
  refine VC.exit (VC.seq (VC.text ?_)); refine VO.c (.assign rfl) (VO.go ?_); refine VC.ret ?_; exact VEnd.one rfl evT (pvI (by rw [hw, firstR_end (by omega)]))
def verM (l : List Vers) : Nat → List (ByteArray × Int)
  | 0 => []
  | i + 1 => mset (verM l i) (vAt l i).1 (vAt l i).2
theorem idxG_none {α : Type} {F : α → Bool} {l : List α} : (0 ≤ idxG F l 0) ↔ ∃ x ∈ l, F x = true := by
  rw [idxG_any (by omega), List.any_eq_true]
theorem verM_has {l : List Vers} {s : ByteArray} : ∀ i, i ≤ l.length → ((mget (verM l i) s).isSome = true ↔ 0 ≤ thingE (l.take i) s)
  | 0, _ => by simp [verM, mget, thingE, idxG]
  | i + 1, h => by
    have hlt : i < l.length := by omega
    rw [verM, mget_mset, thingE, idxG_none, List.take_succ_eq_append_getElem hlt, vAt_eq hlt]; have ih := verM_has (l := l) (s := s) i (by omega); rw [thingE, idxG_none] at ih; by_cases hs : s = l[i].1
    · rw [if_pos hs]; simp only [Option.isSome_some, true_iff]; exact ⟨l[i], List.mem_append_right _ List.mem_cons_self, decide_eq_true hs.symm⟩
    rw [if_neg hs, ih]; constructor
    · rintro ⟨x, hx, he⟩; exact ⟨x, List.mem_append_left _ hx, he⟩
    rintro ⟨x, hx, he⟩; rcases List.mem_append.1 hx with hx | hx
    · exact ⟨x, hx, he⟩
    obtain rfl := List.mem_singleton.1 hx; exact absurd (of_decide_eq_true he).symm hs
theorem verM_dec {l : List Vers} {s : ByteArray} {i : Nat} (h : i ≤ l.length) : (mget (verM l i) s).isSome = decide (0 ≤ thingE (l.take i) s) := by
  have := verM_has (l := l) (s := s) i h
  cases hb : (mget (verM l i) s).isSome with
  | true => exact (decide_eq_true (this.1 hb)).symm
  | false => exact (decide_eq_false fun h2 => by rw [this.2 h2] at hb; cases hb).symm
theorem verAt_m {l : List Vers} {i : Nat} (h : i < l.length) : firstE [whenE (!nameB l[i].1) 8, rangeE l[i].2 0 999, whenE ((mget (verM l i) l[i].1).isSome) 9] = verAt l i := by
  unfold verAt; rw [vAt_eq h, verM_dec (l := l) (i := i) (by omega)]
theorem sVersions_ok {c : (List (ByteArray × Int)) × (List (ByteArray × (List (ByteArray × Int)))) × (List (ByteArray × Bool × (List ByteArray)))} (hl : c.1.length < 1000000) : VF Tryz.prog OA 86 [.v y36 c] (.tup [.v y144 (if versE c.1 = 0 then verM c.1 c.1.length else []), I (versE c.1)]) := by
  refine VF.enter Tryz.func86 rfl (fun _ _ => rfl) rfl ?_; show VC _ _ _ _ _ [(0, .v y36 c)] [] _; refine VC.seq (VC.text ?_); refine VO.new (.box) ?_; refine VO.c (.assign rfl) (VO.c (.assign rfl) ?_); refine VO.go (VC.seq (VC.seq (VC.text ?_))); refine VO.c (.fa (.l .o)) ?_; refine VO.r (.ld vt32) ?_; refine VO.r (.len el32) ?_; refine VO.c (.gtr) (VO.go ?_); refine VC.condD rfl (fun c1 => ?_) (fun c1 => ?_)
  · refine VC.seq (VC.text ?_); refine VO.c (.assign rfl) (VO.c (.assign rfl) (VO.go ?_)); refine VC.ret ?_; exact VEnd.two rfl (evC .nilm) evT (pvE (by rw [versE, if_pos c1, if_neg (by decide)])) (pvI (by rw [versE, if_pos c1]))
  refine VC.skip (VC.seq (VC.text ?_)); refine VO.cell (.mkMap .str (.int .i64)) ?_; intro ww1; refine VO.c (.assign rfl) ?_; refine VO.go (VC.seq (VC.seq (VC.text ?_))); refine VO.c (.fa (.l .o)) ?_; refine VO.r (.ld vt32) ?_; refine VO.r (.len el32) ?_; refine VO.c (.move rfl) ?_; refine VO.go (VC.block ?_); refine VC.keep [(4, .raw ww1), (16, .v y32 c.1), (17, I ((c.1.length : Nat) : Int)), (18, I ((0 : Nat) : Int))] ⟨rfl, rfl, rfl, rfl, trivial⟩ ?_; refine VC.loop (I := fun kk ff ss => ∃ (i : Nat), kk = c.1.length - i ∧ ff = [(4, .raw ww1), (16, .v y32 c.1), (17, I ((c.1.length : Nat) : Int)), (18, I ((i : Nat) : Int))] ∧ ss = [(ww1, .mp .str (.int .i64) (verM c.1 i))] ∧ (i ≤ c.1.length) ∧ (versE c.1 = firstR (verAt c.1) i c.1.length)) ?_ _ _ _ ⟨0, rfl, rfl, rfl, Nat.zero_le _, (by exact if_neg c1)⟩; rintro kk ff ss ⟨i, hk0, rfl, rfl, hi, hw⟩; refine VC.seq (VC.text ?_); refine VO.c (.lss) ?_; refine VO.go (VC.seq ?_); refine VC.condD rfl (fun c5 => ?_) (fun c5 => ?_)
  · refine VC.skip (VC.seq (VC.block (VC.seq (VC.text ?_)))); refine VO.c (.ix (j := i) rfl rfl el32 (by omega)) ?_; refine VO.r (.ld vt98) ?_; refine VO.cell (.alloc zt98) ?_; intro ww2; refine VO.setV (cs' := [St ((c.1[i]).1), I ((c.1[i]).2)]) vt98 .v ?_; refine VO.shut [(6, .p y98 (c.1[i]))] (.cons rfl (.var m0 .refl) .nil) ?_; refine VO.go (VC.seq (VC.text ?_)); refine VO.c (.move rfl) (VO.c (.fa (.l .o)) ?_); refine VO.r (.ld vt9) ?_; refine VO.r (.lookOkO mt144 m0) ?_; refine VO.c (.move rfl) (VO.c (.extract) (VO.c (.extract) (VO.c (.assign rfl) ?_))); refine VO.c (.assign rfl) ?_; refine VO.go (VC.seq (VC.seq (VC.drawn ?_))); refine VD.c (.fa (.l .o)) ?_; refine VD.r [] (.ld vt9) (.inl rfl) ?_; refine VD.call rfl rfl (VF.call (sNm_ok )) ?_; refine VD.c (.fa (.r .o)) ?_; refine VD.r [] (.ld vt3) (.inl rfl) ?_; refine VD.call rfl rfl (VF.call (sNumber_ok )) ?_; refine VD.nw [] (VD.c (.move rfl) ?_); refine VD.call rfl rfl (VF.call (sWhen_ok )) ?_; refine VD.new (.lit [whenE (!nameB ((c.1[i]).1)) 8, rangeE ((c.1[i]).2) 0 999, whenE ((mget (verM c.1 i) ((c.1[i]).1)).isSome) (9 : Int)] el167) ?_; refine VD.callO rfl rfl (VF.call (sFirst_ok (by simp))) ?_; refine VD.c (.assign rfl) ?_; refine VD.go (VC.seq (VC.text ?_)); refine VO.c (.move rfl) (VO.c (.neq) (VO.go ?_)); refine VC.condD rfl (fun c9 => ?_) (fun c9 => ?_)
    · have hlt : i < c.1.length := by omega
      have hv := verAt_m hlt
      have hb : versE c.1 = verAt c.1 i := by rw [hw, firstR_step hlt, if_neg (by rw [← hv]; exact c9)]
      have hb0 : ¬ versE c.1 = 0 := by rw [hb, ← hv]; exact c9
      refine VC.seq (VC.text ?_); refine VO.c (.move rfl) (VO.c (.assign rfl) (VO.c (.assign rfl) (VO.go ?_))); refine VC.ret ?_; exact VEnd.two rfl (evC .nilm) evT (pvE (by rw [if_neg hb0])) (pvI (by rw [hb]; exact hv))
    have hlt : i < c.1.length := by omega
    have hz : verAt c.1 i = 0 := by rw [← verAt_m hlt]; exact Decidable.not_not.1 c9
    refine VC.skip (VC.text ?_); refine VO.c (.move rfl) (VO.c (.fa (.l .o)) ?_); refine VO.r (.ld vt9) ?_; refine VO.c (.fa (.r .o)) ?_; refine VO.r (.ld vt3) ?_; refine VO.mput mt144 ?_; refine VO.nil ?_; refine VC.keep [(4, .raw ww1), (16, .v y32 c.1), (17, I ((c.1.length : Nat) : Int)), (18, I ((i : Nat) : Int))] ⟨rfl, rfl, rfl, rfl, trivial⟩ ?_; refine VC.text ?_; refine VO.c (.add rfl rfl (by omega)) (VO.c (.move rfl) ?_); refine VO.nil ?_; refine ⟨_, [(4, .raw ww1), (16, .v y32 c.1), (17, I ((c.1.length : Nat) : Int)), (18, I (((i + 1) : Nat) : Int))], ?_, ⟨rfl, rfl, rfl, rfl, trivial⟩, (i + 1), rfl, rfl, (by rw [verM, vAt_eq hlt]), (by omega), (by rw [hw, firstR_step hlt, if_pos hz])⟩; omega
  refine VC.exit (VC.seq (VC.text ?_)); refine VO.c (.move rfl) (VO.c (.assign rfl) (VO.c (.assign rfl) (VO.go ?_))); refine VC.ret ?_; exact VEnd.two rfl (evC (.mp m0)) evT (pvE (by rw [show versE c.1 = 0 by rw [hw, firstR_end (by omega)], if_pos rfl, show i = c.1.length by omega])) (pvI (by rw [hw, firstR_end (by omega)]))
end Go.Proofs
namespace Go.Proofs
open Go.Fs
abbrev y133 : Ty := (.mp .str .bool)
theorem zt4 : ZerT Tryz.prog 4 .bool := zerT_of (z := .bool false) (by kernel_rfl) rfl rfl
theorem mt133 : MapT Tryz.prog 133 .str .bool := ⟨9, 4, by kernel_rfl, keyStr (by kernel_rfl), zt4⟩
def withAt (K : ByteArray → Bool) (l : List Vers) (i : Nat) : Int := firstE [whenE (!K (vAt l i).1) 10, rangeE (vAt l i).2 0 999, whenE (decide (0 ≤ thingE (l.take i) (vAt l i).1)) 9]
def withE (K : ByteArray → Bool) (l : List Vers) : Int := if 16 < (l.length : Int) then 5 else firstR (withAt K l) 0 l.length
def seenM (l : List Vers) : Nat → List (ByteArray × Bool)
  | 0 => []
  | i + 1 => mset (seenM l i) (vAt l i).1 true
theorem seenM_has {l : List Vers} {s : ByteArray} : ∀ i, i ≤ l.length → ((mget (seenM l i) s).getD false = true ↔ 0 ≤ thingE (l.take i) s)
  | 0, _ => by simp [seenM, mget, thingE, idxG]
  | i + 1, h => by
    have hlt : i < l.length := by omega
    rw [seenM, mget_mset, thingE, idxG_none, List.take_succ_eq_append_getElem hlt, vAt_eq hlt]; have ih := seenM_has (l := l) (s := s) i (by omega); rw [thingE, idxG_none] at ih; by_cases hs : s = l[i].1
    · rw [if_pos hs]; simp only [Option.getD_some, true_iff]; exact ⟨l[i], List.mem_append_right _ List.mem_cons_self, decide_eq_true hs.symm⟩
    rw [if_neg hs, ih]; constructor
    · rintro ⟨x, hx, he⟩; exact ⟨x, List.mem_append_left _ hx, he⟩
    rintro ⟨x, hx, he⟩; rcases List.mem_append.1 hx with hx | hx
    · exact ⟨x, hx, he⟩
    obtain rfl := List.mem_singleton.1 hx; exact absurd (of_decide_eq_true he).symm hs
theorem seenM_dec {l : List Vers} {s : ByteArray} {i : Nat} (h : i ≤ l.length) : (mget (seenM l i) s).getD false = decide (0 ≤ thingE (l.take i) s) := by
  have := seenM_has (l := l) (s := s) i h
  cases hb : (mget (seenM l i) s).getD false with
  | true => exact (decide_eq_true (this.1 hb)).symm
  | false => exact (decide_eq_false fun h2 => by rw [this.2 h2] at hb; cases hb).symm
theorem withAt_m {m : List (ByteArray × Int)} {l : List Vers} {i : Nat} (h : i < l.length) :
    firstE [whenE (!(mget m l[i].1).isSome) 10, rangeE l[i].2 0 999, whenE ((mget (seenM l i) l[i].1).getD false) 9] = withAt (fun s => (mget m s).isSome) l i := by
  unfold withAt; rw [vAt_eq h, seenM_dec (l := l) (i := i) (by omega)]
theorem sWith_ok {l : List (ByteArray × Int)} {m : List (ByteArray × Int)} (hl : l.length < 1000000) : VF Tryz.prog OA 88 [.v y32 l, .v y144 m] (I (withE (fun s => (mget m s).isSome) l)) := by
  refine VF.enter Tryz.func88 rfl (fun _ _ => rfl) rfl ?_; show VC _ _ _ _ _ [(0, .v y32 l), (1, .v y144 m)] [] _; refine VC.seq (VC.text ?_); refine VO.c (.assign rfl) ?_; refine VO.go (VC.seq (VC.seq (VC.text ?_))); refine VO.c (.move rfl) ?_; refine VO.r (.len el32) ?_; refine VO.c (.gtr) (VO.go ?_); refine VC.condD rfl (fun c1 => ?_) (fun c1 => ?_)
  · refine VC.seq (VC.text ?_); refine VO.c (.assign rfl) (VO.go ?_); refine VC.ret ?_; exact VEnd.one rfl evT (pvI (by rw [withE, if_pos c1]))
  refine VC.skip (VC.seq (VC.text ?_)); refine VO.cell (.mkMap .str .bool) ?_; intro ww1; refine VO.c (.assign rfl) ?_; refine VO.go (VC.seq (VC.seq (VC.text ?_))); refine VO.c (.move rfl) ?_; refine VO.r (.len el32) ?_; refine VO.c (.move rfl) ?_; refine VO.go (VC.block ?_); refine VC.keep [(1, .v y144 m), (5, .raw ww1), (15, .v y32 l), (16, I ((l.length : Nat) : Int)), (17, I ((0 : Nat) : Int))] ⟨rfl, rfl, rfl, rfl, rfl, trivial⟩ ?_; refine VC.loop (I := fun kk ff ss => ∃ (i : Nat), kk = l.length - i ∧ ff = [(1, .v y144 m), (5, .raw ww1), (15, .v y32 l), (16, I ((l.length : Nat) : Int)), (17, I ((i : Nat) : Int))] ∧ ss = [(ww1, .mp .str .bool (seenM l i))] ∧ (i ≤ l.length) ∧ (withE (fun s => (mget m s).isSome) l = firstR (withAt (fun s => (mget m s).isSome) l) i l.length)) ?_ _ _ _ ⟨0, rfl, rfl, rfl, Nat.zero_le _, (by exact if_neg c1)⟩; rintro kk ff ss ⟨i, hk0, rfl, rfl, hi, hw⟩; refine VC.seq (VC.text ?_); refine VO.c (.lss) ?_; refine VO.go (VC.seq ?_); refine VC.condD rfl (fun c5 => ?_) (fun c5 => ?_)
  · refine VC.skip (VC.seq (VC.block (VC.seq (VC.text ?_)))); refine VO.c (.ix (j := i) rfl rfl el32 (by omega)) ?_; refine VO.r (.ld vt98) ?_; refine VO.cell (.alloc zt98) ?_; intro ww2; refine VO.setV (cs' := [St ((l[i]).1), I ((l[i]).2)]) vt98 .v ?_; refine VO.shut [(7, .p y98 (l[i]))] (.cons rfl (.var m0 .refl) .nil) ?_; refine VO.go (VC.seq (VC.text ?_)); refine VO.c (.move rfl) (VO.c (.fa (.l .o)) ?_); refine VO.r (.ld vt9) ?_; refine VO.r (.lookOk mt144) ?_; refine VO.c (.move rfl) (VO.c (.extract) (VO.c (.extract) (VO.c (.assign rfl) ?_))); refine VO.c (.assign rfl) ?_; refine VO.go (VC.seq (VC.seq (VC.drawn ?_))); refine VD.c (.move rfl) (VD.c (.not) ?_); refine VD.call rfl rfl (VF.call (sWhen_ok )) ?_; refine VD.c (.fa (.r .o)) ?_; refine VD.r [] (.ld vt3) (.inl rfl) ?_; refine VD.call rfl rfl (VF.call (sNumber_ok )) ?_; refine VD.nw [] (VD.c (.move rfl) (VD.c (.fa (.l .o)) ?_)); refine VD.r [] (.ld vt9) (.inl rfl) ?_; refine VD.r [(ww1, .mp .str .bool (seenM l i))] (.lookO mt133 m0) (.inr ⟨rfl, rfl⟩) ?_; refine VD.call rfl rfl (VF.call (sWhen_ok )) ?_; refine VD.new (.lit [whenE (!((mget m ((l[i]).1)).isSome)) (10 : Int), rangeE ((l[i]).2) 0 999, whenE ((mget (seenM l i) ((l[i]).1)).getD false) (9 : Int)] el167) ?_; refine VD.callO rfl rfl (VF.call (sFirst_ok (by simp))) ?_; refine VD.nw [39] (VD.c (.assign rfl) ?_); refine VD.go (VC.seq (VC.text ?_)); refine VO.c (.move rfl) (VO.c (.neq) (VO.go ?_)); refine VC.condD rfl (fun c9 => ?_) (fun c9 => ?_)
    · have hlt : i < l.length := by omega
      have hv := withAt_m (m := m) hlt; refine VC.seq (VC.text ?_); refine VO.c (.move rfl) (VO.c (.assign rfl) (VO.go ?_)); refine VC.ret ?_; exact VEnd.one rfl evT (pvI (by rw [hw, firstR_step hlt, ← hv, if_neg c9]))
    have hlt : i < l.length := by omega
    have hz : withAt (fun s => (mget m s).isSome) l i = 0 := by rw [← withAt_m hlt]; exact Decidable.not_not.1 c9
    refine VC.skip (VC.text ?_); refine VO.c (.move rfl) (VO.c (.fa (.l .o)) ?_); refine VO.r (.ld vt9) ?_; refine VO.mput mt133 ?_; refine VO.nil ?_; refine VC.keep [(1, .v y144 m), (5, .raw ww1), (15, .v y32 l), (16, I ((l.length : Nat) : Int)), (17, I ((i : Nat) : Int))] ⟨rfl, rfl, rfl, rfl, rfl, trivial⟩ ?_; refine VC.text ?_; refine VO.c (.add rfl rfl (by omega)) (VO.c (.move rfl) ?_); refine VO.nil ?_; refine ⟨_, [(1, .v y144 m), (5, .raw ww1), (15, .v y32 l), (16, I ((l.length : Nat) : Int)), (17, I (((i + 1) : Nat) : Int))], ?_, ⟨rfl, rfl, rfl, rfl, rfl, trivial⟩, (i + 1), rfl, rfl, (by rw [seenM, vAt_eq hlt]), (by omega), (by rw [hw, firstR_step hlt, if_pos hz])⟩; omega
  refine VC.exit (VC.seq (VC.text ?_)); refine VO.c (.assign rfl) (VO.go ?_); refine VC.ret ?_; exact VEnd.one rfl evT (pvI (by rw [hw, firstR_end (by omega)]))
def usesAt (K : ByteArray → Bool) (l : List ByteArray) (i : Nat) : Int := firstE [whenE (!K (l.getD i ByteArray.empty)) 10, whenE (hasB (l.take i) (l.getD i ByteArray.empty)) 9]
def usesE (K : ByteArray → Bool) (l : List ByteArray) : Int := if firstE [whenE (decide ((l.length : Int) = 0)) 12, whenE (decide (16 < (l.length : Int))) 5] = 0 then firstR (usesAt K l) 0 l.length else firstE [whenE (decide ((l.length : Int) = 0)) 12, whenE (decide (16 < (l.length : Int))) 5]
theorem usesAt_m {m : List (ByteArray × Bool)} {l : List ByteArray} {i : Nat} (h : i < l.length) : firstE [whenE (!(mget m l[i]).getD false) 10, whenE (hasB (l.take i) l[i]) 9] = usesAt (fun s => (mget m s).getD false) l i := by
  unfold usesAt; rw [show l.getD i ByteArray.empty = l[i] by simp [h]]
theorem sUses_ok {l : List ByteArray} {m : List (ByteArray × Bool)} (hl : l.length < 1000000) : VF Tryz.prog OA 89 [.v (.sl .str) l, .v y133 m] (I (usesE (fun s => (mget m s).getD false) l)) := by
  refine VF.enter Tryz.func89 rfl (fun _ _ => rfl) rfl ?_; show VC _ _ _ _ _ [(0, .v (.sl .str) l), (1, .v y133 m)] [] _; refine VC.seq (VC.text ?_); refine VO.c (.assign rfl) ?_; refine VO.go (VC.seq (VC.seq (VC.text ?_))); refine VO.c (.move rfl) ?_; refine VO.r (.len el48) ?_; refine VO.c (.eql) ?_; refine VO.call rfl rfl (VF.call (sWhen_ok )) ?_; refine VO.c (.move rfl) ?_; refine VO.r (.len el48) ?_; refine VO.c (.gtr) ?_; refine VO.call rfl rfl (VF.call (sWhen_ok )) ?_; refine VO.new (.lit [whenE (decide (((l.length : Nat) : Int) = (0 : Int))) (12 : Int), whenE (decide ((16 : Int) < ((l.length : Nat) : Int))) (5 : Int)] el167) ?_; refine VO.call rfl rfl (VF.call (sFirst_ok (by simp))) ?_; refine VO.c (.assign rfl) ?_; refine VO.go (VC.seq (VC.text ?_)); refine VO.c (.move rfl) (VO.c (.neq) (VO.go ?_)); refine VC.condD rfl (fun c2 => ?_) (fun c2 => ?_)
  · refine VC.seq (VC.text ?_); refine VO.c (.move rfl) (VO.c (.assign rfl) (VO.go ?_)); refine VC.ret ?_; exact VEnd.one rfl evT (pvI (by rw [usesE, if_neg c2]))
  refine VC.skip (VC.seq (VC.seq (VC.text ?_))); refine VO.c (.move rfl) ?_; refine VO.r (.len el48) ?_; refine VO.c (.move rfl) ?_; refine VO.go (VC.block ?_); refine VC.keep [(0, .v (.sl .str) l), (1, .v y133 m), (22, .v (.sl .str) l), (23, I ((l.length : Nat) : Int)), (24, I ((0 : Nat) : Int))] ⟨rfl, rfl, rfl, rfl, rfl, trivial⟩ ?_; refine VC.loop (I := fun kk ff ss => ∃ (i : Nat), kk = l.length - i ∧ ff = [(0, .v (.sl .str) l), (1, .v y133 m), (22, .v (.sl .str) l), (23, I ((l.length : Nat) : Int)), (24, I ((i : Nat) : Int))] ∧ ss = [] ∧ (i ≤ l.length) ∧ (usesE (fun s => (mget m s).getD false) l = firstR (usesAt (fun s => (mget m s).getD false) l) i l.length)) ?_ _ _ _ ⟨0, rfl, rfl, rfl, Nat.zero_le _, (by exact if_pos (Decidable.not_not.1 c2))⟩; rintro kk ff ss ⟨i, hk0, rfl, rfl, hi, hw⟩; refine VC.seq (VC.text ?_); refine VO.c (.lss) ?_; refine VO.go (VC.seq ?_); refine VC.condD rfl (fun c5 => ?_) (fun c5 => ?_)
  · refine VC.skip (VC.seq (VC.block (VC.seq (VC.text ?_)))); refine VO.c (.move rfl) (VO.c (.ix (j := i) rfl rfl el48 (by omega)) ?_); refine VO.r (.ld vt9) ?_; refine VO.c (.assign rfl) (VO.c (.assign rfl) ?_); refine VO.go (VC.seq (VC.drawn ?_)); refine VD.c (.move rfl) (VD.c (.move rfl) ?_); refine VD.r [] (.look mt133) (.inl rfl) ?_; refine VD.c (.not) ?_; refine VD.call rfl rfl (VF.call (sWhen_ok )) ?_; refine VD.c (.move rfl) (VD.nw [] (VD.c (.move rfl) ?_)); refine VD.r [] (.cutH rfl rfl el48 (by omega)) (.inl rfl) ?_; refine VD.c (.move rfl) ?_; refine VD.call rfl rfl (VF.call (zContains_ok (by simp; omega))) ?_; refine VD.call rfl rfl (VF.call (sWhen_ok )) ?_; refine VD.new (.lit [whenE (!((mget m (l[i])).getD false)) (10 : Int), whenE (hasB (l.take (((i : Nat) : Int)).toNat) (l[i])) (9 : Int)] el167) ?_; refine VD.callO rfl rfl (VF.call (sFirst_ok (by simp))) ?_; refine VD.nw [40] (VD.c (.assign rfl) ?_); refine VD.go (VC.seq (VC.text ?_)); refine VO.c (.move rfl) (VO.c (.neq) (VO.go ?_)); refine VC.condD rfl (fun c8 => ?_) (fun c8 => ?_)
    · have hlt : i < l.length := by omega
      have hv := usesAt_m (m := m) hlt; refine VC.seq (VC.text ?_); refine VO.c (.move rfl) (VO.c (.assign rfl) (VO.go ?_)); refine VC.ret ?_; exact VEnd.one rfl evT (pvI (by rw [hw, firstR_step hlt, ← hv]; exact (if_neg c8).symm))
    have hlt : i < l.length := by omega
    have hz : usesAt (fun s => (mget m s).getD false) l i = 0 := by rw [← usesAt_m hlt]; exact Decidable.not_not.1 c8
    refine VC.skip (VC.text ?_); refine VO.c (.add rfl rfl (by omega)) (VO.c (.move rfl) ?_); refine VO.nil ?_; refine ⟨_, [(0, .v (.sl .str) l), (1, .v y133 m), (22, .v (.sl .str) l), (23, I ((l.length : Nat) : Int)), (24, I (((i + 1) : Nat) : Int))], ?_, ⟨rfl, rfl, rfl, rfl, rfl, trivial⟩, (i + 1), rfl, rfl, rfl, (by omega), (by rw [hw, firstR_step hlt, if_pos hz])⟩; omega
  refine VC.exit (VC.seq (VC.text ?_)); refine VO.c (.assign rfl) (VO.go ?_); refine VC.ret ?_; exact VEnd.one rfl evT (pvI (by rw [hw, firstR_end (by omega)]))
end Go.Proofs
namespace Go.Proofs
open Go.Fs
abbrev y54 : Ty := (.pair .str (.sl (.pair .str (.int .i64))))
theorem vt22 : ValT Tryz.prog 22 y22 := valT_of (by kernel_rfl)
theorem vt26 : ValT Tryz.prog 26 y26 := valT_of (by kernel_rfl)
theorem vt54 : ValT Tryz.prog 54 y54 := valT_of (by kernel_rfl)
theorem zt54 : ZerT Tryz.prog 54 y54 := zerT_of (z := .agg #[.string ByteArray.empty, .slice none 0 0]) (by kernel_rfl) rfl rfl
theorem idxG_app {α : Type} {F : α → Bool} {b : List α} : ∀ {a : List α} {k : Int}, idxG F (a ++ b) k = if a.any F = true then idxG F a k else idxG F b (k + (a.length : Int))
  | [], k => by simp
  | x :: a, k => by
    show (if F x = true then k else idxG F (a ++ b) (k + 1)) = if (x :: a).any F = true then (if F x = true then k else idxG F a (k + 1)) else idxG F b (k + ((x :: a).length : Int)); rw [List.any_cons]; by_cases hx : F x = true
    · simp [hx]
    rw [if_neg hx, if_neg hx, idxG_app (a := a)]; simp only [hx, Bool.false_or, List.length_cons]; rw [show k + 1 + (a.length : Int) = k + ((a.length + 1 : Nat) : Int) by omega]
theorem idxG_bound {α : Type} {F : α → Bool} : ∀ {a : List α} {k : Int}, a.any F = true → idxG F a k < k + (a.length : Int)
  | [], k, h => by cases h
  | x :: a, k, h => by
    unfold idxG; by_cases hx : F x = true
    · rw [if_pos hx]; simp only [List.length_cons]; omega
    rw [if_neg hx]; have := idxG_bound (a := a) (k := k + 1) (by simpa [hx] using h); simp only [List.length_cons]; omega
theorem idxG_lt {α : Type} {F : α → Bool} {l : List α} {i : Nat} (h : i < l.length) (hF : F l[i] = true) : idxG F l 0 < (i : Int) ↔ 0 ≤ idxG F (l.take i) 0 := by
  have e : idxG F l 0 = idxG F (l.take i ++ l.drop i) 0 := by rw [List.take_append_drop]
  rw [e, idxG_app, idxG_any (l := l.take i) (by omega)]; by_cases ha : (l.take i).any F = true
  · rw [if_pos ha]; have := idxG_bound (k := 0) ha; rw [List.length_take] at this; constructor
    · exact fun _ => ha
    intro _; omega
  rw [if_neg ha, List.drop_eq_getElem_cons h, idxG, if_pos hF, List.length_take]; constructor
  · intro h2; omega
  exact fun h2 => absurd h2 ha
def knowsV (c : Cse) (s : ByteArray) : Bool := decide (0 ≤ thingE c.1 s)
def eAt (c : Cse) (i : Nat) : Evid := c.2.1.getD i (ByteArray.empty, [])
theorem eAt_eq {c : Cse} {i : Nat} (h : i < c.2.1.length) : eAt c i = c.2.1[i] := by simp [eAt, h]
def evAt (c : Cse) (i : Nat) : Int := firstE [whenE (!nameB (eAt c i).1) 8, whenE (decide (0 ≤ evidE (c.2.1.take i) (eAt c i).1)) 9, withE (knowsV c) (eAt c i).2]
theorem evid_lt {c : Cse} {i : Nat} (h : i < c.2.1.length) : evidE c.2.1 c.2.1[i].1 < (i : Int) ↔ 0 ≤ evidE (c.2.1.take i) c.2.1[i].1 := idxG_lt h (decide_eq_true rfl)
theorem withAt_r {K : ByteArray → Bool} {l : List Vers} {i : Nat} (h : i < l.length) : withAt K l i = if K l[i].1 = true then (if rangeE l[i].2 0 999 = 0 then whenE (decide (0 ≤ thingE (l.take i) l[i].1)) 9 else rangeE l[i].2 0 999) else 10 := by
  unfold withAt; rw [vAt_eq h]; show (if _ = 0 then firstE [_, _] else _) = _; rw [firstE_two]; cases hk : K l[i].1 <;> simp [whenE]
theorem rEvidC_ok {c : (List (ByteArray × Int)) × (List (ByteArray × (List (ByteArray × Int)))) × (List (ByteArray × Bool × (List ByteArray)))} {i : Nat} (hl : c.1.length < 1000000) (hm : c.2.1.length < 1000000) (hw0 : ∀ x ∈ c.2.1, x.2.length < 1000000) (hi0 : i < c.2.1.length) : VF Tryz.prog OA 53 [.v y26 c, I ((i : Nat) : Int)] (I (evAt c i)) := by
  refine VF.enter Tryz.func53 rfl (fun _ _ => rfl) rfl ?_; show VC _ _ _ _ _ [(0, .v y26 c), (1, I ((i : Nat) : Int))] [] _; refine VC.seq (VC.text ?_); refine VO.new (.box) ?_; refine VO.c (.assign rfl) ?_; refine VO.go (VC.seq (VC.text ?_)); refine VO.c (.fa (.r (.l .o))) ?_; refine VO.r (.ld vt23) ?_; refine VO.c (.move rfl) (VO.c (.ix (j := i) rfl rfl el23 (by omega)) ?_); refine VO.r (.ld vt54) ?_; refine VO.cell (.alloc zt54) ?_; intro ww1; refine VO.setV (cs' := [St ((c.2.1[i]).1), .v y22 ((c.2.1[i]).2)]) vt54 .v ?_; refine VO.shut [(5, .p y54 (c.2.1[i]))] (.cons rfl (.var m0 .refl) .nil) ?_; refine VO.go (VC.seq (VC.seq (VC.text ?_))); refine VO.c (.fa (.l .o)) ?_; refine VO.r (.ld vt9) ?_; refine VO.call rfl rfl (VF.call (rName_ok )) ?_; refine VO.c (.not) (VO.go ?_); refine VC.condB rfl (fun c2 => ?_) (fun c2 => ?_)
  · try simp only [Bool.and_eq_true, Bool.or_eq_true, Bool.and_eq_false_iff, Bool.or_eq_false_iff, Bool.not_eq_true', Bool.not_eq_false', decide_eq_true_eq, decide_eq_false_iff_not] at c2
    refine VC.seq (VC.text ?_); refine VO.c (.assign rfl) (VO.go ?_); refine VC.ret ?_; exact VEnd.one rfl evT (pvI (by rw [evAt, eAt_eq hi0, c2] <;> rfl))
  try simp only [Bool.and_eq_true, Bool.or_eq_true, Bool.and_eq_false_iff, Bool.or_eq_false_iff, Bool.not_eq_true', Bool.not_eq_false', decide_eq_true_eq, decide_eq_false_iff_not] at c2
  refine VC.skip (VC.seq (VC.seq (VC.text ?_))); refine VO.r (.ld vt26) ?_; refine VO.c (.fa (.l .o)) ?_; refine VO.r (.ld vt9) ?_; refine VO.call rfl rfl (VF.call (rEvid_ok (by first | assumption | omega | simp))) ?_; refine VO.c (.move rfl) (VO.c (.lss) (VO.go ?_)); refine VC.condD rfl (fun c4 => ?_) (fun c4 => ?_)
  · refine VC.seq (VC.text ?_); refine VO.c (.assign rfl) (VO.go ?_); refine VC.ret ?_; exact VEnd.one rfl evT (pvI (by rw [evAt, eAt_eq hi0, c2, decide_eq_true ((evid_lt hi0).1 c4)] <;> rfl))
  have hwl := hw0 _ (List.getElem_mem hi0); have h4 : ¬ 0 ≤ evidE (c.2.1.take i) c.2.1[i].1 := fun h => c4 ((evid_lt hi0).2 h)
  have hev : evAt c i = withE (knowsV c) c.2.1[i].2 := by rw [evAt, eAt_eq hi0, c2, decide_eq_false h4]; show (if _ = 0 then firstE [_, _] else _) = _; rw [firstE_two] <;> rfl
  refine VC.skip (VC.seq (VC.seq (VC.text ?_))); refine VO.c (.fa (.r .o)) ?_; refine VO.r (.ld vt22) ?_; refine VO.r (.len el22) ?_; refine VO.c (.gtr) (VO.go ?_); refine VC.condD rfl (fun c6 => ?_) (fun c6 => ?_)
  · refine VC.seq (VC.text ?_); refine VO.c (.assign rfl) (VO.go ?_); refine VC.ret ?_; exact VEnd.one rfl evT (pvI (by rw [hev, withE, if_pos c6]))
  refine VC.skip (VC.seq (VC.seq (VC.text ?_))); refine VO.c (.assign rfl) ?_; refine VO.go (VC.block ?_); refine VC.keep [(2, .p y26 c), (5, .p y54 (c.2.1[i])), (6, I ((0 : Nat) : Int))] ⟨rfl, rfl, rfl, trivial⟩ ?_; refine VC.loop (I := fun kk ff ss => ∃ (k : Nat), kk = c.2.1[i].2.length - k ∧ ff = [(2, .p y26 c), (5, .p y54 (c.2.1[i])), (6, I ((k : Nat) : Int))] ∧ ss = [] ∧ (k ≤ c.2.1[i].2.length) ∧ (withE (knowsV c) c.2.1[i].2 = firstR (withAt (knowsV c) c.2.1[i].2) k c.2.1[i].2.length)) ?_ _ _ _ ⟨0, rfl, rfl, rfl, (by omega), (by exact if_neg c6)⟩; rintro kk ff ss ⟨k, hk0, rfl, rfl, hk, hw⟩; refine VC.seq (VC.seq (VC.text ?_)); refine VO.c (.move rfl) (VO.c (.fa (.r .o)) ?_); refine VO.r (.ld vt22) ?_; refine VO.r (.len el22) ?_; refine VO.c (.lss) (VO.go ?_); refine VC.condD rfl (fun c9 => ?_) (fun c9 => ?_)
  · refine VC.skip (VC.seq (VC.block (VC.seq (VC.seq (VC.drawn ?_))))); refine VD.c (.fa (.l .o)) ?_; refine VD.r [] (.ld vt22) (.inl rfl) ?_; refine VD.c (.fa (.r .o)) ?_; refine VD.r [] (.ld vt22) (.inl rfl) ?_; refine VD.c (.move rfl) (VD.c (.ix (j := k) rfl rfl el22 (by omega)) (VD.nw [] (VD.c (.fa (.l .o)) ?_))); refine VD.r [] (.ld vt9) (.inl rfl) ?_; refine VD.call rfl rfl (VF.call (rThing_ok (by first | assumption | omega | simp))) ?_; refine VD.c (.lss) (VD.go ?_); refine VC.condD rfl (fun c11 => ?_) (fun c11 => ?_)
    · have hlt : k < c.2.1[i].2.length := by omega
      have hz : withAt (knowsV c) c.2.1[i].2 k = 10 := by rw [withAt_r hlt, if_neg (by unfold knowsV; rw [decide_eq_false (by omega)]; decide)]
      refine VC.seq (VC.text ?_); refine VO.c (.assign rfl) (VO.go ?_); refine VC.ret ?_; exact VEnd.one rfl evT (pvI (by rw [hev, hw, firstR_step hlt, hz] <;> rfl))
    have hlt : k < c.2.1[i].2.length := by omega
    have hy : withAt (knowsV c) c.2.1[i].2 k = (if rangeE c.2.1[i].2[k].2 0 999 = 0 then whenE (decide (0 ≤ thingE (c.2.1[i].2.take k) c.2.1[i].2[k].1)) 9 else rangeE c.2.1[i].2[k].2 0 999) := by rw [withAt_r hlt, if_pos (by unfold knowsV; exact decide_eq_true (by omega))]
    refine VC.skip (VC.seq (VC.seq (VC.text ?_))); refine VO.c (.fa (.r .o)) ?_; refine VO.r (.ld vt22) ?_; refine VO.c (.move rfl) (VO.c (.ix (j := k) rfl rfl el22 (by omega)) (VO.c (.fa (.r .o)) ?_)); refine VO.r (.ld vt3) ?_; refine VO.call rfl rfl (VF.call (rCheckRange_ok )) ?_; refine VO.c (.assign rfl) ?_; refine VO.go (VC.seq (VC.text ?_)); refine VO.c (.move rfl) (VO.c (.neq) (VO.go ?_)); refine VC.condD rfl (fun c14 => ?_) (fun c14 => ?_)
    · refine VC.seq (VC.text ?_); refine VO.c (.move rfl) (VO.c (.assign rfl) (VO.go ?_)); refine VC.ret ?_; exact VEnd.one rfl evT (pvI (by rw [hev, hw, firstR_step hlt, hy, if_neg c14, if_neg c14]))
    refine VC.skip (VC.seq (VC.drawn ?_)); refine VD.c (.fa (.r .o)) ?_; refine VD.r [] (.ld vt22) (.inl rfl) ?_; refine VD.c (.move rfl) ?_; refine VD.r [] (.cutH rfl rfl el22 (by omega)) (.inl rfl) ?_; refine VD.c (.fa (.r .o)) ?_; refine VD.r [] (.ld vt22) (.inl rfl) ?_; refine VD.nw [] (VD.c (.move rfl) (VD.c (.ix (j := k) rfl rfl el22 (by omega)) (VD.c (.fa (.l .o)) ?_))); refine VD.r [] (.ld vt9) (.inl rfl) ?_; refine VD.call rfl rfl (VF.call (rThing_ok (by simp; omega))) ?_; refine VD.c (.geq) (VD.go ?_); refine VC.condD rfl (fun c16 => ?_) (fun c16 => ?_)
    · have hz : withAt (knowsV c) c.2.1[i].2 k = 9 := by rw [hy, if_pos (Decidable.not_not.1 c14), decide_eq_true (show 0 ≤ thingE (c.2.1[i].2.take k) c.2.1[i].2[k].1 from c16)] <;> rfl
      refine VC.seq ?_; refine VC.keep [(2, .p y26 c), (5, .p y54 (c.2.1[i])), (6, I ((k : Nat) : Int))] ⟨rfl, rfl, rfl, trivial⟩ ?_; refine VC.text ?_; refine VO.c (.assign rfl) (VO.go ?_); refine VC.ret ?_; exact VEnd.one rfl evT (pvI (by rw [hev, hw, firstR_step hlt, hz] <;> rfl))
    have hz : withAt (knowsV c) c.2.1[i].2 k = 0 := by rw [hy, if_pos (Decidable.not_not.1 c14), decide_eq_false (show ¬ 0 ≤ thingE (c.2.1[i].2.take k) c.2.1[i].2[k].1 from c16)] <;> rfl
    refine VC.skip ?_; refine VC.keep [(2, .p y26 c), (5, .p y54 (c.2.1[i])), (6, I ((k : Nat) : Int))] ⟨rfl, rfl, rfl, trivial⟩ ?_; refine VC.text ?_; refine VO.c (.move rfl) (VO.c (.add rfl rfl (by omega)) (VO.c (.assign rfl) ?_)); refine VO.nil ?_; refine ⟨_, [(2, .p y26 c), (5, .p y54 (c.2.1[i])), (6, I (((k + 1) : Nat) : Int))], ?_, ⟨rfl, rfl, rfl, trivial⟩, (k + 1), rfl, rfl, rfl, (by omega), (by rw [hw, firstR_step hlt, if_pos hz])⟩; omega
  have hkl : k = c.2.1[i].2.length := by omega
  refine VC.exit (VC.seq (VC.text ?_)); refine VO.c (.assign rfl) (VO.go ?_); refine VC.ret ?_; exact VEnd.one rfl evT (pvI (by rw [hev, hw, firstR_end (by omega)]))
end Go.Proofs
