/- Parts of the proof: an evaluator of the model, what it is sound for, and contracts of functions. No condition. -/
import Derived.Test.YtlkhimnkbboedaaGreatDoorP3
import Derived.Test.YtlkhimnkbboedaaGreatDoorP2
import Derived.Laws.Strings
import Derived.Test.YtlkhimnkbboedaaGreatDoorP0
set_option linter.all false
namespace Go.Fs
variable {P : Program} {orc : FuncId → List Value → Heap → Option (Value × Heap)} {h : Heap} {σ : Sto} {fl : VL} {n i mem : Nat} {l : List Oper} {K : VL → Sto → Prop} {ops : Array Oper} {bs nw0 : List Nat} {tail so : Bool}
theorem VD.nw (nw1 : List Nat) (hk : VD P orc ops n l i fl nw1 σ so bs mem tail K) (he : nw0 = nw1 := by rfl) : VD P orc ops n l i fl nw0 σ so bs mem tail K := he ▸ hk
theorem VF.oracle {f : FuncId} {τ : Ty} {dv : τ.den} {v : Value} (ho : ∀ h : Heap, orc f [] h = some (v, h)) (hv : ∀ (h : Heap) (S : List Nat), RepPV h S (.v τ dv) v) : VF P orc f [] (.v τ dv) := fun h S us hok hS hr => by
  obtain rfl : us = [] := by
    cases us with
    | nil => rfl
    | cons a r => cases hr
  exact EvF.oracle (ho h) ⟨Aft.refl _ _, hv h S, fun _ => rfl⟩
end Go.Fs
namespace Go.Fs
variable {P : Program} {h : Heap} {S : List Nat}
def eqF (E : Ty → TypeId → Bool) : List Field → Nat → Ty → Bool
  | [], _, .unit => true
  | f :: r, o, .pair a b => (!(f.name == "_") && Nat.beq f.offset o && E a f.type && eqF E r (o + a.size) b) || (r.isEmpty && !(f.name == "_") && Nat.beq f.offset o && E (.pair a b) f.type)
  | [f], o, τ => !(f.name == "_") && Nat.beq f.offset o && E τ f.type
  | _, _, _ => false
def eqV (P : Program) : Nat → Ty → TypeId → Bool
  | 0, _, _ => false
  | d + 1, τ, T => valB P T τ && match P.underlying T, τ with
    | some (.int k), .int k' => k == k'
    | some .bool, .bool => true
    | some .string, .str => true
    | some (.struct fs), .pair a b => !P.stoodInHeld T && eqF (eqV P d) fs.toList 0 (.pair a b)
    | _, _ => false
theorem bytes_beq_t {x y : ByteArray} (he : x = y) : (x == y) = true := by
  subst he; show (x.data == x.data) = true; simp
theorem bytes_beq_f {x y : ByteArray} (he : ¬ x = y) : (x == y) = false := by
  show (x.data == y.data) = false; simp only [beq_eq_false_iff_ne, ne_eq]; exact fun hd => he (ByteArray.ext hd)
theorem size_noagg {τ : Ty} (h : τ.agg = false) : τ.size = 1 := by cases τ <;> first | rfl | cases h
theorem part_rep {T : TypeId} {τ : Ty} (hT : ValT P T τ) {cs : Array Value} {o : Nat} {x : τ.den} (hr : RepC h S τ ((cs.toList.drop o).take τ.size) x) : ∃ v, runPure P (part T cs o) = some v ∧ RepV h S τ v x := by
  obtain ⟨i, hi, hsz⟩ := hT.info; obtain ⟨d, hd, hag⟩ := hT.agg
  have hA : runPure P (isAgg T) = some τ.agg := by
    unfold isAgg; rw [runPure_bind, runPure_underlying hd, ← hag]; cases d <;> rfl
  unfold part; rw [runPure_bind, hA]; simp only [Option.bind_some]
  cases hga : τ.agg with
  | true =>
    simp only [if_true]; rw [runPure_bind, runPure_sizeOf hi]; refine ⟨_, rfl, hga.symm, ?_⟩; show RepC h S τ (cs.extract o (o + i.size)).toList x; rw [hsz, Array.toList_extract]
    simpa [List.extract_eq_take_drop] using hr
  | false =>
    simp only [Bool.false_eq_true, if_false]; obtain ⟨v, h1, h2⟩ := RepC.one hga hr
    have h3 : cs[o]? = some v := by
      have := congrArg (fun l => l[0]?) h1; simp only [size_noagg hga] at this; simpa using this
    rw [h3]; exact ⟨v, rfl, h2⟩
theorem fields_eq {E : Ty → TypeId → Bool} {n : Nat} {cs ds : Array Value} (hE : ∀ τ T, E τ T = true → ValT P T τ ∧ ∀ (u v : Value) (x y : τ.den) (inst : Decidable (x = y)), RepV h S τ u x → RepV h S τ v y → runPure P (Op.equalIn n T u v) = some (@decide (x = y) inst)) :
    ∀ (l : List Field) (o : Nat) (τ : Ty) (x y : τ.den) (inst : Decidable (x = y)), eqF E l o τ = true → RepC h S τ (cs.toList.drop o) x → RepC h S τ (ds.toList.drop o) y →
    runPure P (forIn l (none, ()) fun f __s =>
            if f.name ≠ "_" then do
              let __do_lift ← part f.type cs f.offset
              let __do_lift_1 ← part f.type ds f.offset
              let __do_lift ← Op.equalIn n f.type __do_lift __do_lift_1
              if (!__do_lift) = true then pure (ForInStep.done (some false, ())) else pure (ForInStep.yield (none, ()))
            else pure (ForInStep.yield (none, ()))) = some (if x = y then ((none : Option Bool), ()) else (some false, ())) := by
  intro l
  have key : ∀ (f : Field) (r : List Field) (o : Nat) (τ : Ty) (x y : τ.den) (inst : Decidable (x = y)) (R : Option (Option Bool × Unit)), (!(f.name == "_")) = true → Nat.beq f.offset o = true → E τ f.type = true → RepC h S τ ((cs.toList.drop o).take τ.size) x → RepC h S τ ((ds.toList.drop o).take τ.size) y →
      runPure P (forIn (f :: r) (none, ()) fun f __s =>
            if f.name ≠ "_" then do
              let __do_lift ← part f.type cs f.offset
              let __do_lift_1 ← part f.type ds f.offset
              let __do_lift ← Op.equalIn n f.type __do_lift __do_lift_1
              if (!__do_lift) = true then pure (ForInStep.done (some false, ())) else pure (ForInStep.yield (none, ()))
            else pure (ForInStep.yield (none, ()))) = if x = y then runPure P (forIn r (none, ()) fun f __s =>
            if f.name ≠ "_" then do
              let __do_lift ← part f.type cs f.offset
              let __do_lift_1 ← part f.type ds f.offset
              let __do_lift ← Op.equalIn n f.type __do_lift __do_lift_1
              if (!__do_lift) = true then pure (ForInStep.done (some false, ())) else pure (ForInStep.yield (none, ()))
            else pure (ForInStep.yield (none, ()))) else some (some false, ()) := by
    intro f r o τ x y inst R n1 n2 n3 r1 r2; obtain ⟨hT, hq⟩ := hE _ _ n3; obtain ⟨u, u1, u2⟩ := part_rep hT r1; obtain ⟨v, v1, v2⟩ := part_rep hT r2
    have hn : f.name ≠ "_" := by simpa using n1
    have ho := nbeq n2; rw [List.forIn_cons]; simp only [hn, ne_eq, not_false_eq_true, if_true, runPure_bind, ho, u1, v1, Option.bind_some, hq u v x y inst u2 v2]; by_cases he : x = y <;> simp [he, runPure_pure, runPure_bind]
  induction l with
  | nil =>
    intro o τ x y inst hb hx hy; cases τ <;> first | (cases hb; done) | skip
    simp [runPure_pure]
  | cons f r ih =>
    intro o τ x y inst hb hx hy; by_cases hp : (∀ a b, τ ≠ .pair a b) ∨ (r = [] ∧ (!(f.name == "_")) = true ∧ Nat.beq f.offset o = true ∧ E τ f.type = true)
    · have hs : r = [] ∧ (!(f.name == "_")) = true ∧ Nat.beq f.offset o = true ∧ E τ f.type = true := by
        rcases hp with hp | hp
        · cases τ with
          | pair a b => exact absurd rfl (hp a b)
          | _ =>
            cases r with
            | cons f' r => cases hb
            | nil =>
              obtain ⟨n1, n3⟩ := band (show (!(f.name == "_") && Nat.beq f.offset o && E _ f.type) = true from hb); obtain ⟨n1, n2⟩ := band n1; exact ⟨rfl, n1, n2, n3⟩
        exact hp
      obtain ⟨rfl, n1, n2, n3⟩ := hs; rw [key f [] o τ x y inst none n1 n2 n3 (by rw [List.take_of_length_le (Nat.le_of_eq hx.len)]; exact hx) (by rw [List.take_of_length_le (Nat.le_of_eq hy.len)]; exact hy)]; by_cases he : x = y <;> simp [he, runPure_pure]
    cases τ with
    | pair a b =>
      have hb2 : ((!(f.name == "_") && Nat.beq f.offset o && E a f.type && eqF E r (o + a.size) b) || (r.isEmpty && !(f.name == "_") && Nat.beq f.offset o && E (.pair a b) f.type)) = true := hb; rcases Bool.or_eq_true_iff.1 hb2 with h1 | h1
      · obtain ⟨h1, n4⟩ := band h1; obtain ⟨h1, n3⟩ := band h1; obtain ⟨n1, n2⟩ := band h1; have hd := Classical.propDecidable (x.1 = y.1); have hd2 := Classical.propDecidable (x.2 = y.2); rw [key f r o a x.1 y.1 hd none n1 n2 n3 hx.1 hy.1]; have h2 := ih (o + a.size) b x.2 y.2 hd2 n4 (by rw [← List.drop_drop]; exact hx.2) (by rw [← List.drop_drop]; exact hy.2); rw [h2]; by_cases e1 : x.1 = y.1
        · by_cases e2 : x.2 = y.2
          · rw [if_pos e1, if_pos e2, if_pos (Prod.ext e1 e2)]
          rw [if_pos e1, if_neg e2, if_neg (fun e => e2 (by rw [e]))]
        rw [if_neg e1, if_neg (fun e => e1 (by rw [e]))]
      obtain ⟨h1, n3⟩ := band h1; obtain ⟨h1, n2⟩ := band h1; obtain ⟨h1, n1⟩ := band h1
      exact absurd (.inr ⟨by simpa using h1, n1, n2, n3⟩) hp
    | _ => exact absurd (.inl fun _ _ h => by cases h) hp
theorem eqV_ok : ∀ (d : Nat) (τ : Ty) (T : TypeId), eqV P d τ T = true → ∀ (D : Nat) (u v : Value) (x y : τ.den) (inst : Decidable (x = y)), RepV h S τ u x → RepV h S τ v y → runPure P (Op.equalIn (D + d) T u v) = some (@decide (x = y) inst) := by
  intro d
  induction d with
  | zero => intro τ T hb; cases hb
  | succ d ih =>
    intro τ T hb D u v x y inst hu hv; unfold eqV at hb; obtain ⟨hvt, hb⟩ := band hb
    cases hU : P.underlying T with
    | none => simp only [hU] at hb; cases hb
    | some dsc =>
      simp only [hU] at hb; cases τ <;> cases dsc <;> try (cases hb; done)
      · rename_i k _ k'
        obtain rfl : k = k' := by
          have : (k' == k) = true := hb; exact (by simpa using this : k' = k).symm
        obtain rfl := RepV.int hu; obtain rfl := RepV.int hv; rw [show D + (d + 1) = (D + d) + 1 from rfl, Op.equalIn, runPure_bind, runPure_underlying hU]; simp only [Option.bind_some, if_true]; show some (_ == _) = _; by_cases he : x = y <;> simp [he]
      · obtain rfl := RepV.bool hu; obtain rfl := RepV.bool hv; rw [show D + (d + 1) = (D + d) + 1 from rfl, Op.equalIn, runPure_bind, runPure_underlying hU]; simp only [Option.bind_some]; show some (_ == _) = _; by_cases he : x = y <;> simp [he]
      · obtain rfl := RepV.str hu; obtain rfl := RepV.str hv; rw [show D + (d + 1) = (D + d) + 1 from rfl, Op.equalIn, runPure_bind, runPure_underlying hU]; simp only [Option.bind_some]; show some (_ == _) = _; by_cases he : x = y
        · rw [decide_eq_true he]; exact congrArg some (bytes_beq_t he)
        rw [decide_eq_false he]; exact congrArg some (bytes_beq_f he)
      rename_i a b fs; obtain ⟨h1, h2⟩ := band hb
      have hs : P.stoodInHeld T = false := by simpa using h1
      obtain ⟨cs, rfl⟩ : ∃ cs, u = .agg cs := by
        have := hu.1; cases u <;> first | exact ⟨_, rfl⟩ | cases this
      obtain ⟨ds, rfl⟩ : ∃ cs, v = .agg cs := by
        have := hv.1; cases v <;> first | exact ⟨_, rfl⟩ | cases this
      rw [show D + (d + 1) = (D + d) + 1 from rfl, Op.equalIn]; rw [runPure_bind, runPure_underlying hU]; simp only [Option.bind_some, runPure_bind, runPure_program, hs, Bool.false_eq_true, if_false]; simp only [← Array.forIn_toList]; have hF := fields_eq (h := h) (S := S) (cs := cs) (ds := ds) (n := D + d) (fun τ T hb => ⟨valT_of ?_, fun u v x y inst => ih τ T hb D u v x y inst⟩) fs.toList 0 _ x y inst h2 hu.2 hv.2
      · rw [hF]; by_cases he : x = y <;> simp [he, runPure_pure]
      cases d with
      | zero => cases hb
      | succ d => unfold eqV at hb; exact (band hb).1
structure EqT (P : Program) (T : TypeId) (τ : Ty) : Prop where
  eq : eqV P 40 τ T = true
  guard : P.eqGuardType P.depth T = false
  agg : τ.agg = true
  flat : τ.isFlat = true
theorem eqT_of {T : TypeId} {τ : Ty} (hb : (eqV P 40 τ T && !P.eqGuardType P.depth T && τ.agg && τ.isFlat) = true) : EqT P T τ := by
  obtain ⟨h1, h4⟩ := band hb; obtain ⟨h1, h3⟩ := band h1; obtain ⟨h1, h2⟩ := band h1; exact ⟨h1, by simpa using h2, h3, h4⟩
theorem EqT.run {T : TypeId} {τ : Ty} (hT : EqT P T τ) {u v : Value} {x y : τ.den} {inst : Decidable (x = y)} (hu : RepV h S τ u x) (hv : RepV h S τ v y) : runPure P (Op.equal T u v) = some (@decide (x = y) inst) :=
  eqV_ok 40 τ T hT.eq 9960 u v x y inst hu hv
theorem aggOf {τ : Ty} {u : Value} {x : τ.den} (ha : τ.agg = true) (hu : RepV h S τ u x) : ∃ cs, u = .agg cs := by
  have h1 := hu.1.trans ha; cases u <;> first | exact ⟨_, rfl⟩ | cases h1
variable {fl : VL} {σ : Sto} {x y : Operand} {T T' : TypeId} {τ : Ty}
theorem CalmV.eeql {p q : τ.den} [inst : Decidable (p = q)] (hT : EqT P T τ) (hx : evV fl x = some (.v τ p) := by rfl) (hy : evV fl y = some (.v τ q) := by rfl) : CalmV P fl σ (.binOp .eql T x y T') (.v .bool (decide (p = q))) :=
  .bin hx hy fun h S a c ha hc => by
    have h1 := hT.run (inst := inst) ha hc; obtain ⟨cs, rfl⟩ := aggOf hT.agg ha; obtain ⟨ds, rfl⟩ := aggOf hT.agg hc; refine ⟨.bool (decide (p = q)), RepV.ofBool _, ?_, ?_⟩
    · rw [(RepPV.flat (pv := .v τ p) hT.flat ha).1, (RepPV.flat (pv := .v τ q) hT.flat hc).1]; rfl
    have he : runPure P (eqGuard .eql T x y (.agg cs) (.agg ds)) = some () := by
      unfold eqGuard; simp [runPure_bind, runPure_program, hT.guard, runPure_pure]
    have hb : runPure P (binOp .eql T (.agg cs) (.agg ds)) = some (.bool (decide (p = q))) := by
      unfold binOp; simp only [runPure_bind, h1, Option.bind_some, runPure_pure]
    unfold purely; rw [runPure_bind, he]; simp only [Option.bind_some, hb]; rfl
theorem CalmV.eneq {p q : τ.den} [inst : Decidable (p = q)] (hT : EqT P T τ) (hx : evV fl x = some (.v τ p) := by rfl) (hy : evV fl y = some (.v τ q) := by rfl) : CalmV P fl σ (.binOp .neq T x y T') (.v .bool (decide (p ≠ q))) :=
  .bin hx hy fun h S a c ha hc => by
    have h1 := hT.run (inst := inst) ha hc; obtain ⟨cs, rfl⟩ := aggOf hT.agg ha; obtain ⟨ds, rfl⟩ := aggOf hT.agg hc; refine ⟨.bool (decide (p ≠ q)), RepV.ofBool _, ?_, ?_⟩
    · rw [(RepPV.flat (pv := .v τ p) hT.flat ha).1, (RepPV.flat (pv := .v τ q) hT.flat hc).1]; rfl
    have he : runPure P (eqGuard .neq T x y (.agg cs) (.agg ds)) = some () := by
      unfold eqGuard; simp [runPure_bind, runPure_program, hT.guard, runPure_pure]
    have hb : runPure P (binOp .neq T (.agg cs) (.agg ds)) = some (.bool (decide (p ≠ q))) := by
      unfold binOp; simp only [runPure_bind, h1, Option.bind_some, runPure_pure]; by_cases hpq : p = q <;> simp [hpq]
    unfold purely; rw [runPure_bind, he]; simp only [Option.bind_some, hb]; rfl
theorem bytes_list {a b : ByteArray} : (a.toList == b.toList) = decide (a = b) := by
  rw [ByteArray.toList_eq, ByteArray.toList_eq]; by_cases h : a = b
  · subst h; simp
  rw [decide_eq_false h, beq_eq_false_iff_ne]; exact fun he => h (ByteArray.ext (Array.toList_inj.1 he))
variable {p q : ByteArray}
theorem CalmV.binS (b : BinOp) {u : Value} {v : PV} (hx : evV fl x = some (.v .str p)) (hy : evV fl y = some (.v .str q)) (hu : runPure P (Op.stringOp b p q) = some u) (hf : af u = true) (hb : ∀ T : TypeId, (do eqGuard b T x y (.string p) (.string q); binOp b T (.string p) (.string q)) = Op.stringOp b p q) (hv : ∀ h S, RepPV h S v u) : CalmV P fl σ (.binOp b T x y T') v :=
  .bin hx hy fun h S a c ha hc => by
    obtain rfl := RepV.str ha; obtain rfl := RepV.str hc; refine ⟨u, hv h S, rfl, ?_⟩; unfold purely; rw [hb, hu]; simp only [Option.bind_some, hf, if_true]
theorem CalmV.seql (hx : evV fl x = some (.v .str p) := by rfl) (hy : evV fl y = some (.v .str q) := by rfl) : CalmV P fl σ (.binOp .eql T x y T') (.v .bool (decide (p = q))) :=
  .binS .eql hx hy (u := .bool (decide (p = q))) (by rw [← bytes_list]; rfl) rfl (fun _ => rfl) fun h S => RepV.ofBool _
theorem CalmV.sneq (hx : evV fl x = some (.v .str p) := by rfl) (hy : evV fl y = some (.v .str q) := by rfl) : CalmV P fl σ (.binOp .neq T x y T') (.v .bool (decide (p ≠ q))) :=
  .binS .neq hx hy (u := .bool (decide (p ≠ q))) (by rw [decide_not, ← bytes_list]; rfl) rfl (fun _ => rfl) fun h S => RepV.ofBool _
end Go.Fs
namespace Go.Fs
variable {P : Program} {fl : VL} {σ γ : Sto} {Q : PV → Sto → Prop} {fn : Func}
theorem VEndG.cap {r : ResultVar} {w : Value} {e : TypeId} {k : Nat} {τ : Ty} {xs : List τ.den} (hr : fn.results = #[r]) (h1 : EndV P fl [] r (.raw w)) (hc : (w, Cell.cap e k τ xs) ∈ σ) (hQ : Q (.raw w) σ) : VEndG P fn γ Q .ret fl σ :=
  ⟨rfl, [.raw w], by rw [hr]; exact .cons h1 .nil, hQ, .inl ⟨w, e, k, τ, xs, rfl, hc⟩⟩
theorem VEndG.row {r : ResultVar} {w : Value} {e : TypeId} {τ : Ty} {xs : List τ.den} (hr : fn.results = #[r]) (h1 : EndV P fl [] r (.raw w)) (hQ : Q (.raw w) [(w, Cell.row e τ xs)]) : VEndG P fn [] Q .ret fl [(w, Cell.row e τ xs)] :=
  ⟨rfl, [.raw w], by rw [hr]; exact .cons h1 .nil, hQ, .inr (.inr (.inl ⟨w, e, τ, xs, rfl, rfl, rfl⟩))⟩
end Go.Fs
namespace Go.Fs
variable {P : Program} {orc : FuncId → List Value → Heap → Option (Value × Heap)}
theorem repl_int {k : IntKind} {x : Int} (h : Heap) (S : List Nat) (us : List Value) (hr : RepL h S [.v (.int k) x] us) : us = [.int k x] := by
  obtain ⟨u, r, rfl, h1, h2⟩ := hr
  cases r with
  | nil => rw [RepV.int h1]
  | cons a r => cases h2
theorem slI {fl : VL} {k : Nat} {κ : IntKind} {a b : Int} (hk : lkV fl k = some (.v (.int κ) a)) (h : a = b) : lkV fl k = some (.v (.int κ) b) := by rw [hk, h]
theorem pvI {κ : IntKind} {a b : Int} (h : a = b) : PV.v (.int κ) a = PV.v (.int κ) b := by rw [h]
section
variable {h0 : Heap} {S0 : List Nat} {σ : Sto} {ms : List Nat} {fl : VL} {ops : Array Oper} {n i mem : Nat} {l : List Oper} {K : VL → Sto → Prop}
  {d : Tmp} {ty : TypeId} {pos : String} {after : Array Edge} {op : Op} {v : PV} {g : Option (Nat × Bool)} {bs nw : List Nat} {tail so : Bool}
theorem VD.co {b : Nat} (hc : CalmV P fl σ op v) (hk : VD P orc ops n l (i + 1) ((d, v) :: fl) (nwSet ((so && oldOp nw op) || v.flat0) d nw) σ so (bs ++ [b]) mem tail K)
    (hb : beforeOf bs ⟨some d, op, ty, pos, after, g⟩ = b := by rfl) (hw : wantV ops fl g = some true := by rfl) (hn : (Nat.blt d n && Nat.ble n 4000) = true := by rfl) :
    VD P orc ops n (⟨some d, op, ty, pos, after, g⟩ :: l) i fl nw σ so bs mem tail K := fun h0 G S0 t h ms segs I ho => by
  obtain ⟨n1, n2⟩ := fits hn; obtain ⟨u, e1, e2⟩ := hc.2 h (own σ ++ S0) t I.slots.sees I.cells; refine EvD.op (s' := ⟨t.set depth d u, h, bs ++ [b], segs, mem, tail⟩) ?_ (hk h0 G S0 _ h ms segs (I.set e1 n2) fun ht => (ho ht).set n2 fun hold hs a1 a2 a3 a4 a5 => ?_)
  · unfold fsDraw; have hwt : fsWanted ops t ⟨some d, op, ty, pos, after, g⟩ = some true := want_ok I.slots hw; simp only [hwt, hc.1, if_true, e2, Nat.beq_refl, cond_true, put_fits n1, Option.map_some, hb]
  rcases Bool.or_eq_true_iff.1 hold with hold | hold
  · obtain ⟨o1, o2⟩ := band hold; obtain ⟨u', f1, f2⟩ := hc.2 hs (own σ ++ S0) t (old_op a4 o2) (a5 o1)
    have : u' = u := by
      have g1 := e2 none 0 "" #[] none h; rw [f2 none 0 "" #[] none h] at g1; simpa using g1
    rw [← this]; exact f1
  exact (RepPV.flat0 hold e1).2 _ _
end
end Go.Fs
namespace Go.Fs
variable {P : Program} {orc : FuncId → List Value → Heap → Option (Value × Heap)} {rnd : Option Nat} {h h' h0 h1 h2 : Heap} {S S' S0 G : List Nat} {σ σ' σr γ γ' : Sto} {t t' : Tr} {ms : List Nat} {fl nw : VL} {ops : Array Oper} {n i mem : Nat} {l : List Oper} {K : VL → Sto → Prop} {Q : Ex → VL → Sto → Prop}
  {d : Tmp} {ty : TypeId} {pos : String} {after : Array Edge} {op : Op} {v pv : PV} {g : Option (Nat × Bool)} {bs nw0 : List Nat} {tail so : Bool}
inductive ShutL (fl : VL) (γ : Sto) : VL → Prop where
  | nil : ShutL fl γ []
  | cons {k : Nat} {p p' : PV} {r : VL} (hk : lkV fl k = some p) (hc : Co γ p p') (hr : ShutL fl γ r) : ShutL fl γ ((k, p') :: r)
theorem Iv.forgetL : ∀ {γ : Sto}, Iv h0 G S0 h (γ ++ σ) t ms fl → Iv h0 G S0 h σ t ms (fl)
  | [], I => I
  | _ :: γ, I => Iv.forgetL (γ := γ) I.forget
theorem Iv.shutL (I : Iv h0 G S0 h (γ ++ σ) t ms fl) (hs : ShutL fl γ nw) : Iv h0 G S0 h σ t ms (nw ++ fl) := by
  have I' := I.forgetL
  have hsl : Slots h (own σ ++ S0) t (nw ++ fl) := by
    induction hs with
    | nil => exact I'.slots
    | cons hk hc hr ih =>
      refine ih.cons (Co.ok (σ := γ) (S0 := own σ ++ S0) (fun c hd => ?_) (fun b hb => ?_) hc ?_)
      · have := I.cells c (List.mem_append_left _ hd); rw [own_app, List.append_assoc] at this; exact this
      · have h1 := I.apart; rw [own_app] at h1; intro hm; rcases List.mem_append.1 hm with hm | hm
        · exact (List.nodup_append.1 h1).2.2 b hb b hm rfl
        exact (I.new b (by rw [own_app]; exact List.mem_append_left _ hb)).2 hm
      have := I.slots _ _ hk; rw [own_app, List.append_assoc] at this; exact this
  exact { I' with slots := hsl }
theorem VC.shutL {a : Code} (γ : Sto) (nw : VL) (hσ : γ ++ σ = σr) (hs : ShutL fl γ nw) (hx : VC P orc rnd a n (nw ++ fl) σ Q) : VC P orc rnd a n fl σr Q := fun h0 G S0 t h ms I => by
  subst hσ; exact hx h0 G S0 t h ms (I.shutL hs)
theorem VD.callG {b : Nat} {f : Operand} {args : Array Operand} {ats : Array TypeId} {F : PV} {asl : List PV} {Qr : PV → Sto → Prop} (hf : evV fl f = some F) (ha : evVs fl args.toList = some asl) (hc : VCallG P orc F asl [] Qr) (hk : ∀ r γ', Qr r γ' → VD P orc ops n l (i + 1) ((d, r) :: fl) (nwSet false d nw0) (γ' ++ σ) false (bs ++ [b]) (mem ||| 2 ^ i) tail K)
    (hb : beforeOf bs ⟨some d, .call { callee := .value f, args := args, argTypes := ats }, ty, pos, after, g⟩ = b := by rfl) (hord : Nat.beq (mem &&& b) mem = true := by rfl) (hw : wantV ops fl g = some true := by rfl) (hn : (Nat.blt d n && Nat.ble n 4000) = true := by rfl) :
    VD P orc ops n (⟨some d, .call { callee := .value f, args := args, argTypes := ats }, ty, pos, after, g⟩ :: l) i fl nw0 σ so bs mem tail K := fun h0 G S0 t h ms segs I ho => by
  obtain ⟨n1, n2⟩ := fits hn; obtain ⟨M, m1, m2, m3, m4, m5, m6, m7⟩ := seen_ok (mem := mem) I hb ho; obtain rfl := m6 hord; have Le := I.lc.objs (h' := entry h) (fun _ => rfl) rfl; obtain ⟨fid, a, c, rfl, hv⟩ := hc; obtain ⟨va, vc, h1, h2, h3⟩ := (evV_ok Le.slots hf : RepPV (entry h) _ (.clo fid a c) (evalO t f)); have hargs := (h2.append (evVs_ok Le.slots ha)).append h3; refine EvD.call (o := ⟨some d, .call { callee := .value f, args := args, argTypes := ats }, ty, pos, after, g⟩) (want_ok I.slots hw) rfl rfl h1 (by simp only [hb, hord]; simp) ?_; rw [m1]; refine (hv (entry h) (own σ ++ S0) _ m2 Le.lt (fun c hc => by cases hc) List.nodup_nil (fun b hb => by cases hb) hargs).mono fun u h' hq => ?_; obtain ⟨r, γ', q1, q2, q3⟩ := hq; have hA : After (entry h) h' := q2.aft.after; have hl : h.next ≤ h'.low := hA.low h.next (Nat.le_refl _) (Nat.le_refl _)
  have hlow : Nat.ble h.next h'.low = true := by rw [Nat.ble_eq]; exact hl
  have hnx : h.next ≤ h'.next := hA.next; refine ⟨blt_of_le hnx, by simp only [hlow, Bool.true_or], _, put_fits n1 t u, ?_⟩
  have hd : drewOn ⟨some d, .call { callee := .value f, args := args, argTypes := ats }, ty, pos, after, g⟩ i ⟨t, h, bs, segs, mem, tail⟩ (t.set depth d u) h' =
      ⟨t.set depth d u, { next := h'.next, low := h.low, objs := newer h.next h'.next h'.objs ++ h.objs }, bs ++ [b], (i, h.next, h'.next) :: segs, mem ||| 2 ^ i, tail⟩ := by
    unfold drewOn; simp only [hlow, cond_true, hb]
  rw [hd]; obtain ⟨e1, e2⟩ := newer_left (h' := h') I.ok m5 rfl hA m2
  have hm : Made (own σ ++ S0) h { next := h'.next, low := h.low, objs := newer h.next h'.next h'.objs ++ h.objs } [] γ' := {
    aft := ⟨e1.next, fun b hb _ => e1.get b hb, e1.ok, fun e h3 h4 _ => e1.low e h3 h4, fun b hb => .inl (e1.get b hb), Nat.le_refl _⟩
    new := q2.new
    apart := q2.apart
    cells := fun c hc => (q2.cells c hc).keep (fun b hb => by
      obtain ⟨o, hg, _⟩ := (q2.cells c hc).isObj b hb
      exact ((e2 []) b _ hg (by simp)).1.trans hg.symm) (e2 _) fun b hb => List.mem_append_left _ (List.mem_flatMap.2 ⟨c, hc, hb⟩) }
  have hm2 := Made.app (γ := []) I.lc hm
  have q3' : RepPV { next := h'.next, low := h.low, objs := newer h.next h'.next h'.objs ++ h.objs } (own (γ' ++ σ) ++ S0) r u := by
    rw [own_app, List.append_assoc]; exact q3.nx (e2 _)
  refine hk r γ' q1 h0 G S0 _ _ ms _ ((I.made hm2).set q3' n2) fun ht => ?_
  obtain ⟨hs', a1, a2, a3, a4, a5, a6⟩ := (ho ht).set (v := r) (u := u) (old := false) n2 fun e => by cases e
  refine ⟨hs', a1, a2.trans e1, SegsOk.cons a2.next a3, a4, fun k pv hk hn => (a5 k pv hk hn).nx (h := hs') fun b ob hg hb => ⟨hg, ?_⟩, fun e => by cases e⟩; have h3 := a1 b ob hg; have h4 := a2.next; intro hmm; rcases List.mem_append.1 hmm with hmm | hmm
  · rcases hm2.new b hmm with h5 | h5
    · exact hb (List.mem_append_left _ h5)
    omega
  exact hb (List.mem_append_right _ hmm)
end Go.Fs
namespace Go.Fs
variable {P : Program} {orc : FuncId → List Value → Heap → Option (Value × Heap)} {fl : VL} {σ γ : Sto} {T : TypeId} {τ : Ty}
theorem row_one {h : Heap} {S : List Nat} {w : Value} {e : TypeId} {xs : List τ.den} (hc : CellR h S w (.row e τ xs)) : oneCell w = true := by
  rcases hc with ⟨h1, _⟩ | ⟨b, rs, m, h1, _⟩
  · rw [show w = _ from h1]; rfl
  rw [show w = _ from h1]; rfl
theorem VO.one {orc : FuncId → List Value → Heap → Option (Value × Heap)} {ops : Array Oper} {n : Nat} {l : List Oper} {K : VL → Sto → Prop} {w : Value} {e : TypeId} {xs : List τ.den} (hm : (w, Cell.row e τ xs) ∈ σ) (hk : oneCell w = true → VO P orc ops n l fl σ K) : VO P orc ops n l fl σ K := fun h0 G S0 t h ms I => hk (row_one (I.cells _ hm)) h0 G S0 t h ms I
theorem VD.perm {orc : FuncId → List Value → Heap → Option (Value × Heap)} {ops : Array Oper} {n i mem : Nat} {l : List Oper} {K : VL → Sto → Prop} {nw bs : List Nat} {so tail : Bool} {σ' : Sto} (hp : σ.Perm σ') (hx : VD P orc ops n l i fl nw σ' false bs mem tail K) : VD P orc ops n l i fl nw σ so bs mem tail K := fun h0 G S0 t h ms segs I ho => hx h0 G S0 t h ms segs (I.perm hp) fun ht => by
  obtain ⟨hs, a1, a2, a3, a4, a5, a6⟩ := ho ht; refine ⟨hs, a1, a2, a3, a4, fun k pv hk hn => (a5 k pv hk hn).nx (h := hs) fun b ob hg hb => ⟨hg, fun hm => hb ?_⟩, fun e => by cases e⟩; rcases List.mem_append.1 hm with hm | hm
  · obtain ⟨c, hc, hb⟩ := List.mem_flatMap.1 hm; exact List.mem_append_left _ (List.mem_flatMap.2 ⟨c, hp.mem_iff.2 hc, hb⟩)
  exact List.mem_append_right _ hm
def VEndR (P : Program) (fn : Func) (Q : PV → Sto → Prop) : Ex → VL → Sto → Prop := fun e fl σ => e.goes = true ∧ ∃ (a : Nat) (ty : TypeId) (p w : Value) (cs : List PV) (us : List Value) (τs : Ty) (e' : TypeId) (τ : Ty) (xs : List τ.den),
  fn.results = #[.cell a ty] ∧ lkV fl a = some (.raw p) ∧ σ = [(p, .var cs), (w, .row e' τ xs)] ∧ (∀ h S vs, RepL h S cs vs → vs = us) ∧ w ∈ us ∧ ValT P ty τs ∧ τs.agg = true ∧ us.length = τs.size ∧ Q (.raw (.agg us.toArray)) [(w, .row e' τ xs)]
theorem VFG.enterR {f : FuncId} {args : List PV} {fn : Func} {c : Code} {Q : PV → Sto → Prop} (hfn : P.funcs[f]? = some fn) (hc : fn.body = some c) (ho : ∀ us h, orc f us h = none) (hn : (Nat.blt 4000 fn.ntmps || Nat.blt fn.ntmps args.length) = false)
    (hb : VC P orc none c fn.ntmps (argVL 0 args) [] (VEndR P fn Q)) : VFG P orc f args [] Q := fun h S us hok hS hcells hnd hsep ha => by
  have hl := ha.len
  have hn2 : Nat.blt 4000 fn.ntmps = false ∧ Nat.blt fn.ntmps args.length = false := by simpa using hn
  have n3 := nble_no hn2.1; have n4 := nble_no hn2.2; have ha' : RepL (entry h) (own [] ++ S) args us := RepL.nx (h := h) (h' := entry h) (fun _ _ a b => ⟨a, b⟩) ha
  have I0 : Iv (entry h) (own []) S (entry h) [] (fillTr .leaf 0 us) [] (argVL 0 args) := {
    ok := hok
    s0 := hS
    aft := Aft.refl _ _
    cells := fun c hc => by cases hc
    new := fun b hb => by cases hb
    apart := hnd
    mark := fun d hd => by cases hd
    marks := List.nodup_nil
    slots := slots_args ha' (by omega) }
  refine EvF.enter hfn hc (ho us h) (by rw [hl]; exact hn) ((hb (entry h) (own []) S _ (entry h) [] I0).mono fun e fr h1 hq => ?_); obtain ⟨_, fl', σ', Iv1, he, a, ty, p, w, cs, us', τs, e', τ, xs, hr, hlk, rfl, hdet, hw, hvt, hag, hlen, hQ⟩ := hq; obtain ⟨h2, d1, d2, d3⟩ := drops_ok Iv1.marks fun d hd => (Iv1.mark d hd).2
  have hgd : ∀ b o, h1.get b = some o → o ≠ .defd → h2.get b = some o := fun b o hg hne => by
    rw [d3 b (fun hm => hne (by have := (Iv1.mark b hm).2; rw [hg] at this; exact Option.some.inj this))]; exact hg
  have a2 : Aft (entry h) h2 [] := Iv1.aft.trans d2 fun i hi => .inr (Iv1.mark i hi).1; have L1 := Iv1.lc; have hp : fr.t.get a = p := L1.slots _ _ hlk; obtain ⟨b, eb, vs, k1, k2, k3, k4, k5⟩ := Iv1.cells _ List.mem_cons_self; obtain rfl := hdet _ _ _ k4; have k1' : p = .pointer (some ⟨b, 0, none⟩) := k1; obtain ⟨i, hi, hs⟩ := hvt.info; obtain ⟨d, hd, hda⟩ := hvt.agg
  have hload : fsLoad P ty p h2 = some (.agg vs.toArray) := by
    rw [k1']; have k3' := hgd b _ k3 (by simp); simp only [fsLoad, k3', hd, hi, hda, hag, if_true, hs]; rw [if_pos (by omega), List.drop_zero, List.take_of_length_le (by omega)]
  have hres : fsResults P fr.t h2 fn.results.toList = some [.agg vs.toArray] := by
    rw [hr]; show (match fsResult P fr.t h2 (.cell a ty), some [] with | some v, some vs => some (v :: vs) | _, _ => none) = _
    have : fsResult P fr.t h2 (.cell a ty) = some (.agg vs.toArray) := by
      show fsLoad P ty (fr.t.get a) h2 = _; rw [hp, hload]
    rw [this]
  refine ⟨he, h2, _, d1, hres, ?_⟩; have ht : tupled [Value.agg vs.toArray] = .agg vs.toArray := rfl; rw [ht]; have hcw := Iv1.cells (w, .row e' τ xs) (List.mem_cons_of_mem _ List.mem_cons_self)
  have hown : own [(w, Cell.row e' τ xs)] = blk w := by show blk w ++ [] = _; rw [List.append_nil]
  have hnew1 : ∀ b ∈ blk w, h.next ≤ b := fun b hb => by
    rcases (Iv1.new b (List.mem_flatMap.2 ⟨_, List.mem_cons_of_mem _ List.mem_cons_self, hb⟩)).1 with h3 | h3
    · cases h3
    exact h3
  have hnod : (blk w).Nodup := by
    have := Iv1.apart; unfold own at this; rw [List.flatMap_cons] at this; have := (List.nodup_append.1 this).2.1; simpa using this
  unfold leftOf
  cases haf : (af (.agg vs.toArray) && Nat.ble h.next h2.low) with
  | true =>
    obtain ⟨af1', _⟩ := band haf; have hwa : af0 w = true := List.all_eq_true.1 (show vs.toArray.toList.all af0 = true from af1') w (by simpa using hw); rcases hcw with ⟨hn1, hn2⟩ | ⟨b', rs, m, h3, _⟩
    · have hn1' : w = .slice none 0 0 := hn1; refine ⟨_, _, hQ, ⟨Aft.refl _ _, fun b hb => ?_, ?_, fun c hc => ?_⟩, rfl⟩
      · rw [hown, hn1'] at hb; cases hb
      · rw [hown]; exact hnod
      rw [List.mem_singleton.1 hc]; exact .inl ⟨hn1, hn2⟩
    exfalso; have h3' : w = .slice (some ⟨b', 0, none⟩) xs.length 0 := h3; rw [h3'] at hwa
    cases hwa
  | false =>
    refine ⟨_, _, hQ, ⟨⟨a2.next, a2.get, fun x => a2.ok x, fun e h3 h4 h5 => Nat.le_min.2 ⟨h3, a2.low e (Nat.le_trans h4 (Nat.le_refl _)) h4 h5⟩, fun b hb => ?_, Nat.min_le_left _ _⟩, fun b hb => .inr (hnew1 b (by rw [← hown]; exact hb)), by rw [hown]; exact hnod, fun c hc => ?_⟩, rfl⟩
    · rcases a2.chg b hb with h3 | h3
      · exact .inl h3
      exact .inr (Nat.le_trans (Nat.min_le_right _ _) h3)
    rw [List.mem_singleton.1 hc]; rcases hcw with hx | ⟨b', rs, m, h3, h4, h5, h6⟩
    · exact .inl hx
    have h3' : w = .slice (some ⟨b', 0, none⟩) xs.length 0 := h3
    have hN : GoesR h1 (own [(p, Cell.var cs), (w, Cell.row e' τ xs)] ++ S) { next := h2.next, low := min h.low h2.low, objs := h2.objs } (own [(w, Cell.row e' τ xs)] ++ S) := fun b _ hg hne hbS => ⟨hgd b _ hg hne, fun hm => hbS (by
      rcases List.mem_append.1 hm with hm | hm
      · exact List.mem_append_left _ (List.mem_flatMap.2 ⟨_, List.mem_cons_of_mem _ List.mem_cons_self, by rw [hown] at hm; exact hm⟩)
      exact List.mem_append_right _ hm)⟩
    exact .inr ⟨b', rs, m, h3, List.mem_append_left _ (by rw [hown, h3']; simp [blk]), hgd b' _ h5 (by simp), h6.1, fun i hi => (h6.2 i hi).nxR hN⟩
end Go.Fs
namespace Go.Fs
variable {P : Program}
theorem store_keep {t : TypeId} {a x : Value} {h h' : Heap} {b o : Nat} (ha : a = .pointer (some ⟨b, o, none⟩)) (hs : fsStore P t a x h = some h') (c : Nat) (hc : c ≠ b) : h'.get c = h.get c := by
  subst ha; unfold fsStore at hs; simp only at hs; split at hs
  · rename_i e cs more i hg hi; split at hs
    · simp only [Option.some.injEq] at hs; subst hs; rw [Heap.get_set hg, if_neg hc]
    cases hs
  cases hs
theorem grown_keep {e : TypeId} {m : Nat} {news : List Value} {h : Heap} {v : Value} {h' : Heap} (hg : grown e m news h = (v, h')) (c : Nat) (hc : c < h.next) : h'.get c = h.get c := by
  unfold grown at hg; simp only [Prod.mk.injEq] at hg; obtain ⟨_, rfl⟩ := hg; rw [Heap.get_push, if_neg (by omega)]
theorem grow_keep {e : TypeId} {i : TypeInfo} {s : Value} {m n mk b o : Nat} {news : List Value} {h h' : Heap} {v : Value} (ha : s = .slice (some ⟨b, o, none⟩) n mk) (hs : fsGrow e i s m news h = some (v, h')) (c : Nat) (hc : c ≠ b) (hn : c < h.next) : h'.get c = h.get c := by
  subst ha; unfold fsGrow at hs; simp only at hs
  cases h1 : (Nat.beq m 0 && Nat.beq mk 1) with
  | true =>
    rw [h1] at hs; simp only [cond_true, Option.some.injEq, Prod.mk.injEq] at hs
    rw [hs.2]
  | false =>
    rw [h1] at hs; simp only [cond_false] at hs
    cases hg : h.get b with
    | none => rw [hg] at hs; cases hs
    | some ob =>
      rw [hg] at hs
      cases ob with
      | row e' cs own more =>
        simp only at hs; obtain ⟨_, hs⟩ := bif_some hs
        cases h3 : Nat.beq mk 1 with
        | true =>
          rw [h3] at hs; simp only [cond_true, Option.some.injEq] at hs
          exact grown_keep hs c hn
        | false =>
          rw [h3] at hs; simp only [cond_false] at hs; obtain ⟨_, hs⟩ := bif_some hs
          cases h5 : Nat.ble (o + (n + m) * i.size) cs.length with
          | true =>
            rw [h5] at hs; simp only [cond_true, Option.some.injEq, Prod.mk.injEq] at hs; rw [← hs.2]
            cases Nat.beq m 0 with
            | true => rfl
            | false => simp only [cond_false]; rw [Heap.get_set hg, if_neg hc]
          | false =>
            rw [h5] at hs; simp only [cond_false] at hs
            cases more with
            | false =>
              simp only [Bool.not_false, cond_true, Option.some.injEq] at hs
              exact grown_keep hs c hn
            | true =>
              simp only [Bool.not_true, cond_false] at hs; obtain ⟨_, hs⟩ := bif_some hs; simp only [Option.some.injEq] at hs
              rw [grown_keep hs c hn, Heap.get_drop, if_neg hc]
      | _ => cases hs
theorem append_keep {at_ : Array TypeId} {s x : Value} {n mk b o : Nat} {h h' : Heap} {v : Value} (ha : s = .slice (some ⟨b, o, none⟩) n mk) (hs : fsAppend P at_ s x h = some (v, h')) (c : Nat) (hc : c ≠ b) (hn : c < h.next) : h'.get c = h.get c := by
  unfold fsAppend at hs; split at hs
  · split at hs
    · split at hs
      · split at hs
        · split at hs
          · obtain ⟨_, hs⟩ := bif_some hs; exact grow_keep ha hs c hc hn
          cases hs
        cases hs
      cases hs
    cases hs
  cases hs
theorem turned_keep {call : FuncId → List Value → Heap → Option (Value × Heap)} {yield : Nat → List Value → Heap → Option (Value × Heap)} {o : Oper} {ev : Operand → Value} {h h' : Heap} {v : Value} {k : Nat}
    (hs : fsOp P call yield o ev h = some (v, h')) (ht : turned o.op ev = some k) (c : Nat) (hc : c ≠ k) (hn : c < h.next) : h'.get c = h.get c := by
  unfold turned at ht; split at ht
  · rename_i T a x hop; split at ht
    · rename_i b o' hev; simp only [Option.some.injEq] at ht; subst ht; unfold fsOp at hs; rw [hop] at hs; simp only at hs; obtain ⟨h2, h3, h4⟩ := Option.map_eq_some_iff.1 hs; simp only [Prod.mk.injEq] at h4; rw [← h4.2]; exact store_keep hev h3 c hc
    cases ht
  · rename_i hop; split at ht
    · rename_i b o' n' mk' rest hev; simp only [Option.some.injEq] at ht; subst ht; unfold fsOp at hs; rw [hop] at hs; simp only at hs; unfold fsBuiltin at hs; rw [hev] at hs
      cases rest with
      | nil => cases hs
      | cons x rest =>
        cases rest with
        | nil => exact append_keep rfl hs c hc hn
        | cons y rest => cases hs
    cases ht
  cases ht
section
variable {h0 : Heap} {ops : Array Oper} {n : Nat} {call : FuncId → List Value → Heap → Option (Value × Heap)} {yield : Nat → List Value → Heap → Option (Value × Heap)}
structure LDid (P : Program) (call : FuncId → List Value → Heap → Option (Value × Heap)) (yield : Nat → List Value → Heap → Option (Value × Heap)) (ops : Array Oper) (n : Nat) (h0 : Heap) (rd chg : List Nat) (o : Oper) (i : Nat) (s s' : DSt) : Prop where
  bs : s'.bs = s.bs ++ [beforeOf s.bs o]
  did : Did (fsOp P call yield) ops n (fun b ob => h0.get b = some ob ∧ b < h0.next ∧ b ∈ rd) o i s s'
  next : s.h.next ≤ s'.h.next
  keep : ∀ b, b < s.h.next → b ∉ chg → s'.h.get b = s.h.get b
theorem Did.mono {step : Oper → (Operand → Value) → Heap → Option (Value × Heap)} {X X' : Nat → AObj → Prop} {o : Oper} {i : Nat} {s s' : DSt} (h : Did step ops n X o i s s') (hX : ∀ b ob, X b ob → X' b ob) : Did step ops n X' o i s s' := by
  cases h with
  | skip hw hp hh hs hm ht => exact .skip hw hp hh hs hm ht
  | calm hw hc v h' hst hn hp hh hs hm ht => exact .calm hw hc v h' hst hn hp hh hs hm ht
  | still hw v objs hX0 hst hp hh hs hm ht => exact .still hw v objs (fun b ob hl => hX b ob (hX0 b ob hl)) hst hp hh hs hm ht
  | mem hw hc v h' ord ho htail hst hn hp hm hs hnx hk => exact .mem hw hc v h' ord ho htail hst hn hp hm hs hnx hk
theorem LDid.mono {rd rd' chg chg' : List Nat} {o : Oper} {i : Nat} {s s' : DSt} (h : LDid P call yield ops n h0 rd chg o i s s') (h1 : ∀ b ∈ rd, b ∈ rd') (h2 : ∀ b ∈ chg, b ∈ chg') : LDid P call yield ops n h0 rd' chg' o i s s' :=
  ⟨h.bs, h.did.mono fun b ob ⟨a, b1, c⟩ => ⟨a, b1, h1 b c⟩, h.next, fun b hb hn => h.keep b hb fun hm => hn (h2 b hm)⟩
theorem newer_keep {lo hi : Nat} {l objs : List (Nat × AObj)} {c : Nat} (hc : c < lo) : look (newer lo hi l ++ objs) c = look objs c := by
  rw [look_append]
  cases hl : look (newer lo hi l) c with
  | none => rfl
  | some o => have := (newer_some _ _ _ hl).1; omega
theorem lateMem_did {o : Oper} {i : Nat} {x x' : LSt} (hw : fsWanted ops x.1.t o = some true) (hc : calm o.op = false) (hf : lateMem P (fsOp P call yield) ops n o i x = some x') :
    x'.2.1 = x.2.1 ∧ (∀ k ∈ x.2.2, k ∈ x'.2.2) ∧ LDid P call yield ops n h0 x'.2.1 x'.2.2 o i x.1 x'.1 := by
  unfold lateMem at hf; simp only at hf; generalize hord : Nat.beq (x.1.mem &&& beforeOf x.1.bs o) x.1.mem = ord at hf
  cases htl : (x.1.tail && !ord) with
  | true => rw [htl] at hf; cases hf
  | false =>
    rw [htl] at hf; simp only [cond_false] at hf
    have htail : x.1.tail = true → ord = true := fun h => by rw [h] at htl; simpa using htl
    split at hf
    · rename_i v h' hst
      cases hlt : Nat.blt h'.next x.1.h.next with
      | true => rw [hlt] at hf; cases hf
      | false =>
        rw [hlt] at hf; simp only [cond_false] at hf
        have hn : x.1.h.next ≤ h'.next := by have := nble_no hlt; omega
        split at hf
        · rename_i t hp
          cases hlow : Nat.ble x.1.h.next h'.low with
          | true =>
            rw [hlow] at hf; simp only [cond_true, Option.some.injEq] at hf; subst hf
            exact ⟨rfl, fun k hk => hk, rfl, .mem hw hc v h' ord hord.symm htail hst hn hp rfl rfl rfl (.inl ⟨nble hlow, rfl, rfl, rfl⟩), hn, fun b hb _ => newer_keep hb⟩
          | false =>
            rw [hlow] at hf; simp only [cond_false] at hf; obtain ⟨h5, h6⟩ := bif_some hf; split at h6
            · rename_i k hk; simp only [Option.some.injEq] at h6; subst h6; refine ⟨rfl, fun k' hk' => List.mem_cons_of_mem _ hk', rfl, .mem hw hc v h' ord hord.symm htail hst hn hp rfl rfl rfl (.inr ⟨h5, rfl, rfl, rfl⟩), hn, fun b hb hnb => ?_⟩; subst h5; have := turned_keep hst hk b (fun e => hnb (by subst e; exact List.mem_cons_self)) hb; exact this
            cases h6
        cases hf
    cases hf
theorem lateDraw_did {o : Oper} {i : Nat} {x x' : LSt} (hf : lateDraw P h0 (fsOp P call yield) ops n o i x = some x') :
    (∀ b ∈ x.2.1, b ∈ x'.2.1) ∧ (∀ k ∈ x.2.2, k ∈ x'.2.2) ∧ LDid P call yield ops n h0 x'.2.1 x'.2.2 o i x.1 x'.1 := by
  unfold lateDraw at hf; simp only at hf; split at hf
  · rename_i hw; obtain ⟨t, h1, h2⟩ := Option.map_eq_some_iff.1 hf; subst h2; exact ⟨fun _ h => h, fun _ h => h, rfl, .skip hw h1 rfl rfl rfl rfl, Nat.le_refl _, fun _ _ _ => rfl⟩
  · cases hf
  rename_i hw; split at hf
  · rename_i hc; split at hf
    · rename_i v h' hst; obtain ⟨h3, h4⟩ := bif_some hf; obtain ⟨t, h1, h2⟩ := Option.map_eq_some_iff.1 h4; subst h2; exact ⟨fun _ h => h, fun _ h => h, rfl, .calm hw hc v h' hst (nbeq h3) h1 rfl rfl rfl rfl, Nat.le_refl _, fun _ _ _ => rfl⟩
    cases hf
  rename_i hc
  have hc : calm o.op = false := by simpa using hc
  split at hf
  · rename_i v b hq; obtain ⟨t, h1, h2⟩ := Option.map_eq_some_iff.1 hf; subst h2; refine ⟨fun _ h => List.mem_append_right _ h, fun _ h => h, rfl, ?_, Nat.le_refl _, fun _ _ _ => rfl⟩; unfold quietV at hq; split at hq
    · rename_i T a hop; split at hq
      · rename_i b' o' hev; split at hq
        · rename_i ob hg; obtain ⟨h3, h4⟩ := bif_some hq; obtain ⟨v', h5, h6⟩ := Option.map_eq_some_iff.1 h4; simp only [Prod.mk.injEq] at h6; obtain ⟨rfl, rfl⟩ := h6; refine .still hw v' [(b', ob)] (fun c oc hl => ?_) ?_ h1 rfl rfl rfl rfl
          · simp only [look] at hl
            cases hbc : Nat.beq b' c with
            | true =>
              rw [hbc] at hl; simp only [cond_true, Option.some.injEq] at hl; obtain rfl := nbeq hbc; subst hl
              exact ⟨hg, nblt h3, List.mem_append_left _ List.mem_cons_self⟩
            | false => rw [hbc] at hl; cases hl
          unfold fsOp; rw [hop]; simp only [hev, h5, Option.map_some]
        cases hq
      cases hq
    · rename_i hop; split at hq
      · rename_i y hargs; obtain ⟨v', h5, h6⟩ := Option.map_eq_some_iff.1 hq; simp only [Prod.mk.injEq] at h6; obtain ⟨rfl, rfl⟩ := h6; refine .still hw v' [] (fun c oc hl => by cases hl) ?_ h1 rfl rfl rfl rfl; unfold fsOp; rw [hop]; simp only [fsBuiltin, hargs, List.map_cons, List.map_nil, h5, Option.map_some]
      cases hq
    · rename_i T a lo hi mx hop; split at hq
      · rename_i p' mk' hev; obtain ⟨v', h5, h6⟩ := Option.map_eq_some_iff.1 hq; simp only [Prod.mk.injEq] at h6; obtain ⟨rfl, rfl⟩ := h6; refine .still hw v' [] (fun c oc hl => by cases hl) ?_ h1 rfl rfl rfl rfl; unfold fsOp; rw [hop]; simp only [hev, h5, Option.map_some]
      · rename_i b' o' n' mk' hne hev; split at hq
        · rename_i ob hg; obtain ⟨h3, h4⟩ := bif_some hq; obtain ⟨v', h5, h6⟩ := Option.map_eq_some_iff.1 h4; simp only [Prod.mk.injEq] at h6; obtain ⟨rfl, rfl⟩ := h6; refine .still hw v' [(b', ob)] (fun c oc hl => ?_) ?_ h1 rfl rfl rfl rfl
          · simp only [look] at hl
            cases hbc : Nat.beq b' c with
            | true =>
              rw [hbc] at hl; simp only [cond_true, Option.some.injEq] at hl; obtain rfl := nbeq hbc; subst hl
              exact ⟨hg, nblt h3, List.mem_append_left _ List.mem_cons_self⟩
            | false => rw [hbc] at hl; cases hl
          unfold fsOp; rw [hop]; simp only [hev, h5, Option.map_some]
        cases hq
      cases hq
    cases hq
  obtain ⟨e1, e2, e3⟩ := lateMem_did (h0 := h0) hw hc hf; exact ⟨fun b hb => by rw [e1]; exact hb, e2, e3⟩
theorem late_trace : ∀ (l : List Oper) (i : Nat) (x x' : LSt), lateDrawn P h0 (fsOp P call yield) ops n l i x = some x' → (∀ b ∈ x.2.1, b ∈ x'.2.1) ∧ (∀ k ∈ x.2.2, k ∈ x'.2.2) ∧ ∃ st : Nat → DSt, st i = x.1 ∧ st (i + l.length) = x'.1 ∧
    ∀ j o, l[j]? = some o → LDid P call yield ops n h0 x'.2.1 x'.2.2 o (i + j) (st (i + j)) (st (i + j + 1))
  | [], i, x, x', h => by
    simp only [lateDrawn, Option.some.injEq] at h; subst h
    exact ⟨fun _ h => h, fun _ h => h, fun _ => x.1, rfl, rfl, fun j o hj => by simp at hj⟩
  | o :: l, i, x, x', h => by
    simp only [lateDrawn] at h; split at h
    · rename_i x1 hx1; obtain ⟨a1, a2, a3⟩ := lateDraw_did hx1; obtain ⟨b1, b2, st, h1, h2, h3⟩ := late_trace l (i + 1) x1 x' h; refine ⟨fun b hb => b1 b (a1 b hb), fun k hk => b2 k (a2 k hk), fun k => if k = i then x.1 else st k, by simp, ?_, fun j o' hj => ?_⟩
      · simp only [List.length_cons]; rw [if_neg (by omega), ← h2]; congr 1; omega
      cases j with
      | zero =>
        simp at hj; subst hj
        simpa [h1] using a3.mono b1 b2
      | succ j =>
        simp only [List.getElem?_cons_succ] at hj; have := h3 j o' hj; rw [show i + 1 + j = i + (j + 1) by omega] at this; simp only; rw [if_neg (by omega), if_neg (by omega)]; exact this
    cases h
theorem traceL_of {t0 : Tr} {s : DSt} (h : drawnL P h0 (fsOp P call yield) ops n ⟨t0, h0, [], [], 0, false⟩ = some s) : ∃ st, Trace (fsOp P call yield) ops n st t0 h0 ∧ st ops.size = s := by
  unfold drawnL at h; split at h
  · rename_i x hr; obtain ⟨hl, h⟩ := bif_some h; simp only [Option.some.injEq] at h; subst h; obtain ⟨_, _, st, h1, h2, h3⟩ := late_trace _ _ _ _ hr
    have h2' : st ops.size = x.1 := by simpa using h2
    have h3' : ∀ i o, ops[i]? = some o → LDid P call yield ops n h0 x.2.1 x.2.2 o i (st i) (st (i + 1)) := fun i o ho => by
      have := h3 i o (by simpa using ho); simpa only [Nat.zero_add] using this
    have hap : ∀ b ∈ x.2.1, b ∉ x.2.2 := fun b hb hk => by
      have := List.all_eq_true.1 (List.all_eq_true.1 hl b hb) b hk; simp at this
    have hst : ∀ q, q ≤ ops.size → h0.next ≤ (st q).h.next ∧ ∀ b, b < h0.next → b ∉ x.2.2 → (st q).h.get b = h0.get b := fun q => by
      induction q with
      | zero => intro _; rw [h1]; exact ⟨Nat.le_refl _, fun _ _ _ => rfl⟩
      | succ q ih =>
        intro hq; obtain ⟨i1, i2⟩ := ih (by omega); have hd := h3' q ops[q] (Array.getElem?_eq_getElem (by omega)); exact ⟨Nat.le_trans i1 hd.next, fun b hb hn => (hd.keep b (by omega) hn).trans (i2 b hb hn)⟩
    refine ⟨st, ⟨h1, fun i o ho => ?_⟩, h2'⟩; have hd := h3' i o ho; refine ⟨hd.bs, hd.did.mono fun b ob ⟨a, b1, c⟩ => ⟨a, b1, .inr fun q hq => ?_⟩⟩; rw [(hst q hq).2 b b1 (hap b c)]; exact a
  cases h
end
section
variable {call : FuncId → List Value → Heap → Option (Value × Heap)} {yield : Nat → List Value → Heap → Option (Value × Heap)} {ops : Array Oper} {n : Nat} {t0 : Tr} {h0 : Heap} {S : Nat → Prop} {ρ0 : Ren} {B : Nat} {w0 : World}
theorem drawn_wpL (hcs : CallSnd P B w0 call) (hys : YieldSound P B w0 yield) (hok : regionOk ops = true) {s : DSt} (hf : drawnL P h0 (fsOp P call yield) ops n ⟨t0, h0, [], [], 0, false⟩ = some s)
    {w : World} {a : Act} (hr : HR P ρ0 S B w0 h0 w) (ht : TrR ρ0 S t0 n a.tmps) {r : Option Nat} {nn : Nat} {Q : Exit → Act → World → Prop}
    (k : ∀ ρ' w' a', Moved P B w0 ρ0 ρ' S h0 s.h w w' → TrR ρ' (Ext S h0 s.h) s.t n a'.tmps → a'.defers = a.defers → Q .normal a' w') (t : Nat) :
    wpOpsIn (Wide r) nn P ops Q (Region.schedule true ops t) a w := drawn_wpT hcs hys hok (traceL_of hf) hr ht k t
end
end Go.Fs
