/- Parts of the proof: an evaluator of the model, what it is sound for, and contracts of functions. No condition. -/
import Derived.Test.YtleidlkgigpmmaaGreatDoorP4
import Derived.Test.YtleidlkgigpmmaaGreatDoorP3
import Derived.Laws.Strings
import Derived.Test.YtleidlkgigpmmaaGreatDoorP2
import Ieee.Arith
import Derived.Sort.AssemblyPlain
import Derived.Shelf.SlSortCmp.InsertionK
set_option linter.all false
namespace Go.Fs
variable {P : Program} {orc : FuncId → List Value → Heap → Option (Value × Heap)} {h : Heap} {σ : Sto} {fl : VL} {n i mem : Nat} {l : List Oper} {K : VL → Sto → Prop} {ops : Array Oper} {bs nw0 : List Nat} {tail so : Bool}
theorem VD.nw (nw1 : List Nat) (hk : VD P orc ops n l i fl nw1 σ so bs mem tail K) (he : nw0 = nw1 := by rfl) : VD P orc ops n l i fl nw0 σ so bs mem tail K := he ▸ hk
theorem VF.oracle {f : FuncId} {τ : Ty} {dv : τ.den} {v : Value} (ho : ∀ h : Heap, orc f [] h = some (v, h)) (hv : ∀ (h : Heap) (S : List Nat), RepPV h S (.v τ dv) v) : VF P orc f [] (.v τ dv) := fun h S us hok hS hr => by
  obtain rfl : us = [] := by
    cases us with
    | nil => rfl
    | cons a r => cases hr
  exact EvF.oracle (ho h) ⟨Aft.refl _ _, hv h S, fun _ => rfl⟩
end Go.Fs
namespace Go.Fs
variable {P : Program} {h : Heap} {S : List Nat}
def eqF (E : Ty → TypeId → Bool) : List Field → Nat → Ty → Bool
  | [], _, .unit => true
  | f :: r, o, .pair a b => (!(f.name == "_") && Nat.beq f.offset o && E a f.type && eqF E r (o + a.size) b) || (r.isEmpty && !(f.name == "_") && Nat.beq f.offset o && E (.pair a b) f.type)
  | [f], o, τ => !(f.name == "_") && Nat.beq f.offset o && E τ f.type
  | _, _, _ => false
def eqV (P : Program) : Nat → Ty → TypeId → Bool
  | 0, _, _ => false
  | d + 1, τ, T => valB P T τ && match P.underlying T, τ with
    | some (.int k), .int k' => k == k'
    | some .bool, .bool => true
    | some .string, .str => true
    | some (.struct fs), .pair a b => !P.stoodInHeld T && eqF (eqV P d) fs.toList 0 (.pair a b)
    | _, _ => false
theorem bytes_beq_t {x y : ByteArray} (he : x = y) : (x == y) = true := by
  subst he; show (x.data == x.data) = true; simp
theorem bytes_beq_f {x y : ByteArray} (he : ¬ x = y) : (x == y) = false := by
  show (x.data == y.data) = false; simp only [beq_eq_false_iff_ne, ne_eq]; exact fun hd => he (ByteArray.ext hd)
theorem size_noagg {τ : Ty} (h : τ.agg = false) : τ.size = 1 := by cases τ <;> first | rfl | cases h
theorem part_rep {T : TypeId} {τ : Ty} (hT : ValT P T τ) {cs : Array Value} {o : Nat} {x : τ.den} (hr : RepC h S τ ((cs.toList.drop o).take τ.size) x) : ∃ v, runPure P (part T cs o) = some v ∧ RepV h S τ v x := by
  obtain ⟨i, hi, hsz⟩ := hT.info; obtain ⟨d, hd, hag⟩ := hT.agg
  have hA : runPure P (isAgg T) = some τ.agg := by
    unfold isAgg; rw [runPure_bind, runPure_underlying hd, ← hag]; cases d <;> rfl
  unfold part; rw [runPure_bind, hA]; simp only [Option.bind_some]
  cases hga : τ.agg with
  | true =>
    simp only [if_true]; rw [runPure_bind, runPure_sizeOf hi]; refine ⟨_, rfl, hga.symm, ?_⟩; show RepC h S τ (cs.extract o (o + i.size)).toList x; rw [hsz, Array.toList_extract]
    simpa [List.extract_eq_take_drop] using hr
  | false =>
    simp only [Bool.false_eq_true, if_false]; obtain ⟨v, h1, h2⟩ := RepC.one hga hr
    have h3 : cs[o]? = some v := by
      have := congrArg (fun l => l[0]?) h1; simp only [size_noagg hga] at this; simpa using this
    rw [h3]; exact ⟨v, rfl, h2⟩
theorem fields_eq {E : Ty → TypeId → Bool} {n : Nat} {cs ds : Array Value} (hE : ∀ τ T, E τ T = true → ValT P T τ ∧ ∀ (u v : Value) (x y : τ.den) (inst : Decidable (x = y)), RepV h S τ u x → RepV h S τ v y → runPure P (Op.equalIn n T u v) = some (@decide (x = y) inst)) :
    ∀ (l : List Field) (o : Nat) (τ : Ty) (x y : τ.den) (inst : Decidable (x = y)), eqF E l o τ = true → RepC h S τ (cs.toList.drop o) x → RepC h S τ (ds.toList.drop o) y →
    runPure P (forIn l (none, ()) fun f __s =>
            if f.name ≠ "_" then do
              let __do_lift ← part f.type cs f.offset
              let __do_lift_1 ← part f.type ds f.offset
              let __do_lift ← Op.equalIn n f.type __do_lift __do_lift_1
              if (!__do_lift) = true then pure (ForInStep.done (some false, ())) else pure (ForInStep.yield (none, ()))
            else pure (ForInStep.yield (none, ()))) = some (if x = y then ((none : Option Bool), ()) else (some false, ())) := by
  intro l
  have key : ∀ (f : Field) (r : List Field) (o : Nat) (τ : Ty) (x y : τ.den) (inst : Decidable (x = y)) (R : Option (Option Bool × Unit)), (!(f.name == "_")) = true → Nat.beq f.offset o = true → E τ f.type = true → RepC h S τ ((cs.toList.drop o).take τ.size) x → RepC h S τ ((ds.toList.drop o).take τ.size) y →
      runPure P (forIn (f :: r) (none, ()) fun f __s =>
            if f.name ≠ "_" then do
              let __do_lift ← part f.type cs f.offset
              let __do_lift_1 ← part f.type ds f.offset
              let __do_lift ← Op.equalIn n f.type __do_lift __do_lift_1
              if (!__do_lift) = true then pure (ForInStep.done (some false, ())) else pure (ForInStep.yield (none, ()))
            else pure (ForInStep.yield (none, ()))) = if x = y then runPure P (forIn r (none, ()) fun f __s =>
            if f.name ≠ "_" then do
              let __do_lift ← part f.type cs f.offset
              let __do_lift_1 ← part f.type ds f.offset
              let __do_lift ← Op.equalIn n f.type __do_lift __do_lift_1
              if (!__do_lift) = true then pure (ForInStep.done (some false, ())) else pure (ForInStep.yield (none, ()))
            else pure (ForInStep.yield (none, ()))) else some (some false, ()) := by
    intro f r o τ x y inst R n1 n2 n3 r1 r2; obtain ⟨hT, hq⟩ := hE _ _ n3; obtain ⟨u, u1, u2⟩ := part_rep hT r1; obtain ⟨v, v1, v2⟩ := part_rep hT r2
    have hn : f.name ≠ "_" := by simpa using n1
    have ho := nbeq n2; rw [List.forIn_cons]; simp only [hn, ne_eq, not_false_eq_true, if_true, runPure_bind, ho, u1, v1, Option.bind_some, hq u v x y inst u2 v2]; by_cases he : x = y <;> simp [he, runPure_pure, runPure_bind]
  induction l with
  | nil =>
    intro o τ x y inst hb hx hy; cases τ <;> first | (cases hb; done) | skip
    simp [runPure_pure]
  | cons f r ih =>
    intro o τ x y inst hb hx hy; by_cases hp : (∀ a b, τ ≠ .pair a b) ∨ (r = [] ∧ (!(f.name == "_")) = true ∧ Nat.beq f.offset o = true ∧ E τ f.type = true)
    · have hs : r = [] ∧ (!(f.name == "_")) = true ∧ Nat.beq f.offset o = true ∧ E τ f.type = true := by
        rcases hp with hp | hp
        · cases τ with
          | pair a b => exact absurd rfl (hp a b)
          | _ =>
            cases r with
            | cons f' r => cases hb
            | nil =>
              obtain ⟨n1, n3⟩ := band (show (!(f.name == "_") && Nat.beq f.offset o && E _ f.type) = true from hb); obtain ⟨n1, n2⟩ := band n1; exact ⟨rfl, n1, n2, n3⟩
        exact hp
      obtain ⟨rfl, n1, n2, n3⟩ := hs; rw [key f [] o τ x y inst none n1 n2 n3 (by rw [List.take_of_length_le (Nat.le_of_eq hx.len)]; exact hx) (by rw [List.take_of_length_le (Nat.le_of_eq hy.len)]; exact hy)]; by_cases he : x = y <;> simp [he, runPure_pure]
    cases τ with
    | pair a b =>
      have hb2 : ((!(f.name == "_") && Nat.beq f.offset o && E a f.type && eqF E r (o + a.size) b) || (r.isEmpty && !(f.name == "_") && Nat.beq f.offset o && E (.pair a b) f.type)) = true := hb; rcases Bool.or_eq_true_iff.1 hb2 with h1 | h1
      · obtain ⟨h1, n4⟩ := band h1; obtain ⟨h1, n3⟩ := band h1; obtain ⟨n1, n2⟩ := band h1; have hd := Classical.propDecidable (x.1 = y.1); have hd2 := Classical.propDecidable (x.2 = y.2); rw [key f r o a x.1 y.1 hd none n1 n2 n3 hx.1 hy.1]; have h2 := ih (o + a.size) b x.2 y.2 hd2 n4 (by rw [← List.drop_drop]; exact hx.2) (by rw [← List.drop_drop]; exact hy.2); rw [h2]; by_cases e1 : x.1 = y.1
        · by_cases e2 : x.2 = y.2
          · rw [if_pos e1, if_pos e2, if_pos (Prod.ext e1 e2)]
          rw [if_pos e1, if_neg e2, if_neg (fun e => e2 (by rw [e]))]
        rw [if_neg e1, if_neg (fun e => e1 (by rw [e]))]
      obtain ⟨h1, n3⟩ := band h1; obtain ⟨h1, n2⟩ := band h1; obtain ⟨h1, n1⟩ := band h1
      exact absurd (.inr ⟨by simpa using h1, n1, n2, n3⟩) hp
    | _ => exact absurd (.inl fun _ _ h => by cases h) hp
theorem eqV_ok : ∀ (d : Nat) (τ : Ty) (T : TypeId), eqV P d τ T = true → ∀ (D : Nat) (u v : Value) (x y : τ.den) (inst : Decidable (x = y)), RepV h S τ u x → RepV h S τ v y → runPure P (Op.equalIn (D + d) T u v) = some (@decide (x = y) inst) := by
  intro d
  induction d with
  | zero => intro τ T hb; cases hb
  | succ d ih =>
    intro τ T hb D u v x y inst hu hv; unfold eqV at hb; obtain ⟨hvt, hb⟩ := band hb
    cases hU : P.underlying T with
    | none => simp only [hU] at hb; cases hb
    | some dsc =>
      simp only [hU] at hb; cases τ <;> cases dsc <;> try (cases hb; done)
      · rename_i k _ k'
        obtain rfl : k = k' := by
          have : (k' == k) = true := hb; exact (by simpa using this : k' = k).symm
        obtain rfl := RepV.int hu; obtain rfl := RepV.int hv; rw [show D + (d + 1) = (D + d) + 1 from rfl, Op.equalIn, runPure_bind, runPure_underlying hU]; simp only [Option.bind_some, if_true]; show some (_ == _) = _; by_cases he : x = y <;> simp [he]
      · obtain rfl := RepV.bool hu; obtain rfl := RepV.bool hv; rw [show D + (d + 1) = (D + d) + 1 from rfl, Op.equalIn, runPure_bind, runPure_underlying hU]; simp only [Option.bind_some]; show some (_ == _) = _; by_cases he : x = y <;> simp [he]
      · obtain rfl := RepV.str hu; obtain rfl := RepV.str hv; rw [show D + (d + 1) = (D + d) + 1 from rfl, Op.equalIn, runPure_bind, runPure_underlying hU]; simp only [Option.bind_some]; show some (_ == _) = _; by_cases he : x = y
        · rw [decide_eq_true he]; exact congrArg some (bytes_beq_t he)
        rw [decide_eq_false he]; exact congrArg some (bytes_beq_f he)
      rename_i a b fs; obtain ⟨h1, h2⟩ := band hb
      have hs : P.stoodInHeld T = false := by simpa using h1
      obtain ⟨cs, rfl⟩ : ∃ cs, u = .agg cs := by
        have := hu.1; cases u <;> first | exact ⟨_, rfl⟩ | cases this
      obtain ⟨ds, rfl⟩ : ∃ cs, v = .agg cs := by
        have := hv.1; cases v <;> first | exact ⟨_, rfl⟩ | cases this
      rw [show D + (d + 1) = (D + d) + 1 from rfl, Op.equalIn]; rw [runPure_bind, runPure_underlying hU]; simp only [Option.bind_some, runPure_bind, runPure_program, hs, Bool.false_eq_true, if_false]; simp only [← Array.forIn_toList]; have hF := fields_eq (h := h) (S := S) (cs := cs) (ds := ds) (n := D + d) (fun τ T hb => ⟨valT_of ?_, fun u v x y inst => ih τ T hb D u v x y inst⟩) fs.toList 0 _ x y inst h2 hu.2 hv.2
      · rw [hF]; by_cases he : x = y <;> simp [he, runPure_pure]
      cases d with
      | zero => cases hb
      | succ d => unfold eqV at hb; exact (band hb).1
structure EqT (P : Program) (T : TypeId) (τ : Ty) : Prop where
  eq : eqV P 40 τ T = true
  guard : P.eqGuardType P.depth T = false
  agg : τ.agg = true
  flat : τ.isFlat = true
theorem eqT_of {T : TypeId} {τ : Ty} (hb : (eqV P 40 τ T && !P.eqGuardType P.depth T && τ.agg && τ.isFlat) = true) : EqT P T τ := by
  obtain ⟨h1, h4⟩ := band hb; obtain ⟨h1, h3⟩ := band h1; obtain ⟨h1, h2⟩ := band h1; exact ⟨h1, by simpa using h2, h3, h4⟩
theorem EqT.run {T : TypeId} {τ : Ty} (hT : EqT P T τ) {u v : Value} {x y : τ.den} {inst : Decidable (x = y)} (hu : RepV h S τ u x) (hv : RepV h S τ v y) : runPure P (Op.equal T u v) = some (@decide (x = y) inst) :=
  eqV_ok 40 τ T hT.eq 9960 u v x y inst hu hv
theorem aggOf {τ : Ty} {u : Value} {x : τ.den} (ha : τ.agg = true) (hu : RepV h S τ u x) : ∃ cs, u = .agg cs := by
  have h1 := hu.1.trans ha; cases u <;> first | exact ⟨_, rfl⟩ | cases h1
variable {fl : VL} {σ : Sto} {x y : Operand} {T T' : TypeId} {τ : Ty}
theorem CalmV.eneq {p q : τ.den} [inst : Decidable (p = q)] (hT : EqT P T τ) (hx : evV fl x = some (.v τ p) := by rfl) (hy : evV fl y = some (.v τ q) := by rfl) : CalmV P fl σ (.binOp .neq T x y T') (.v .bool (decide (p ≠ q))) :=
  .bin hx hy fun h S a c ha hc => by
    have h1 := hT.run (inst := inst) ha hc; obtain ⟨cs, rfl⟩ := aggOf hT.agg ha; obtain ⟨ds, rfl⟩ := aggOf hT.agg hc; refine ⟨.bool (decide (p ≠ q)), RepV.ofBool _, ?_, ?_⟩
    · rw [(RepPV.flat (pv := .v τ p) hT.flat ha).1, (RepPV.flat (pv := .v τ q) hT.flat hc).1]; rfl
    have he : runPure P (eqGuard .neq T x y (.agg cs) (.agg ds)) = some () := by
      unfold eqGuard; simp [runPure_bind, runPure_program, hT.guard, runPure_pure]
    have hb : runPure P (binOp .neq T (.agg cs) (.agg ds)) = some (.bool (decide (p ≠ q))) := by
      unfold binOp; simp only [runPure_bind, h1, Option.bind_some, runPure_pure]; by_cases hpq : p = q <;> simp [hpq]
    unfold purely; rw [runPure_bind, he]; simp only [Option.bind_some, hb]; rfl
theorem bytes_list {a b : ByteArray} : (a.toList == b.toList) = decide (a = b) := by
  rw [ByteArray.toList_eq, ByteArray.toList_eq]; by_cases h : a = b
  · subst h; simp
  rw [decide_eq_false h, beq_eq_false_iff_ne]; exact fun he => h (ByteArray.ext (Array.toList_inj.1 he))
variable {p q : ByteArray}
theorem CalmV.binS (b : BinOp) {u : Value} {v : PV} (hx : evV fl x = some (.v .str p)) (hy : evV fl y = some (.v .str q)) (hu : runPure P (Op.stringOp b p q) = some u) (hf : af u = true) (hb : ∀ T : TypeId, (do eqGuard b T x y (.string p) (.string q); binOp b T (.string p) (.string q)) = Op.stringOp b p q) (hv : ∀ h S, RepPV h S v u) : CalmV P fl σ (.binOp b T x y T') v :=
  .bin hx hy fun h S a c ha hc => by
    obtain rfl := RepV.str ha; obtain rfl := RepV.str hc; refine ⟨u, hv h S, rfl, ?_⟩; unfold purely; rw [hb, hu]; simp only [Option.bind_some, hf, if_true]
theorem CalmV.sneq (hx : evV fl x = some (.v .str p) := by rfl) (hy : evV fl y = some (.v .str q) := by rfl) : CalmV P fl σ (.binOp .neq T x y T') (.v .bool (decide (p ≠ q))) :=
  .binS .neq hx hy (u := .bool (decide (p ≠ q))) (by rw [decide_not, ← bytes_list]; rfl) rfl (fun _ => rfl) fun h S => RepV.ofBool _
end Go.Fs
namespace Go.Fs
variable {P : Program} {fl : VL} {σ γ : Sto} {Q : PV → Sto → Prop} {fn : Func}
theorem VEndG.row {r : ResultVar} {w : Value} {e : TypeId} {τ : Ty} {xs : List τ.den} (hr : fn.results = #[r]) (h1 : EndV P fl [] r (.raw w)) (hQ : Q (.raw w) [(w, Cell.row e τ xs)]) : VEndG P fn [] Q .ret fl [(w, Cell.row e τ xs)] :=
  ⟨rfl, [.raw w], by rw [hr]; exact .cons h1 .nil, hQ, .inr (.inr (.inl ⟨w, e, τ, xs, rfl, rfl, rfl⟩))⟩
end Go.Fs
namespace Go.Fs
variable {P : Program} {orc : FuncId → List Value → Heap → Option (Value × Heap)}
theorem VF.run1 {f : FuncId} {args : List PV} {us : List Value} {fn : Func} {c : Code} {r : PV} {v : Value} (m : Nat) (hfn : P.funcs[f]? = some fn) (hc : fn.body = some c) (ho : ∀ h, orc f us h = none) (hn : (Nat.blt 4000 fn.ntmps || Nat.blt fn.ntmps us.length) = false)
    (hus : ∀ (h : Heap) (S : List Nat) (us' : List Value), RepL h S args us' → us' = us)
    (hrun : ∀ (nx : Nat) (objs : List (Nat × AObj)), ((fsCode P orc m none c ⟨fillTr .leaf 0 us, fn.ntmps, []⟩ ⟨nx, nx, objs⟩).bind fun q => if q.1.goes = true then (dropMarks q.2.1.marks q.2.2).bind fun h2 => (fsResults P q.2.1.t h2 fn.results.toList).map fun vs => (tupled vs, h2) else none) = some (v, ⟨nx, nx, objs⟩))
    (haf : af v = true) (hrep : ∀ (h : Heap) (S : List Nat), RepPV h S r v) : VF P orc f args r := fun h S us' hok hS hr => by
  obtain rfl := hus h S us' hr; have hx := hrun h.next h.objs; refine EvF.enter hfn hc (ho _) hn ?_
  cases hq : fsCode P orc m none c ⟨fillTr .leaf 0 us', fn.ntmps, []⟩ ⟨h.next, h.next, h.objs⟩ with
  | none => rw [hq] at hx; cases hx
  | some q =>
    rw [hq] at hx; simp only [Option.bind_some] at hx; split at hx
    · rename_i hg
      cases hd : dropMarks q.2.1.marks q.2.2 with
      | none => rw [hd] at hx; cases hx
      | some h2 =>
        rw [hd] at hx; simp only [Option.bind_some] at hx
        cases hv : fsResults P q.2.1.t h2 fn.results.toList with
        | none => rw [hv] at hx; cases hx
        | some vs =>
          rw [hv] at hx; simp only [Option.map_some, Option.some.injEq, Prod.mk.injEq] at hx; obtain ⟨e1, e2⟩ := hx; refine ⟨m, q.1, q.2.1, q.2.2, hq, hg, h2, vs, hd, hv, ?_⟩
          have hl : leftOf h h2 (tupled vs) = h := by
            unfold leftOf
            have hb : Nat.ble h.next h.next = true := by rw [Nat.ble_eq]; exact Nat.le_refl _
            rw [e1, haf, e2]; simp only [hb, Bool.and_self, cond_true]
          rw [hl, e1]; exact ⟨Aft.refl _ _, hrep _ _, fun _ => rfl⟩
    cases hx
theorem VF.run {f : FuncId} {args : List PV} {us : List Value} {fn : Func} {c : Code} {r : PV} {v : Value} (m : Nat) (hfn : P.funcs[f]? = some fn) (hc : fn.body = some c) (ho : ∀ us h, orc f us h = none) (hn : (Nat.blt 4000 fn.ntmps || Nat.blt fn.ntmps us.length) = false)
    (hus : ∀ (h : Heap) (S : List Nat) (us' : List Value), RepL h S args us' → us' = us)
    (hrun : ∀ (nx : Nat) (objs : List (Nat × AObj)), ((fsCode P orc m none c ⟨fillTr .leaf 0 us, fn.ntmps, []⟩ ⟨nx, nx, objs⟩).bind fun q => if q.1.goes = true then (dropMarks q.2.1.marks q.2.2).bind fun h2 => (fsResults P q.2.1.t h2 fn.results.toList).map fun vs => (tupled vs, h2) else none) = some (v, ⟨nx, nx, objs⟩))
    (haf : af v = true) (hrep : ∀ (h : Heap) (S : List Nat), RepPV h S r v) : VF P orc f args r := VF.run1 m hfn hc (ho us) hn hus hrun haf hrep
theorem repl_int {k : IntKind} {x : Int} (h : Heap) (S : List Nat) (us : List Value) (hr : RepL h S [.v (.int k) x] us) : us = [.int k x] := by
  obtain ⟨u, r, rfl, h1, h2⟩ := hr
  cases r with
  | nil => rw [RepV.int h1]
  | cons a r => cases h2
theorem slI {fl : VL} {k : Nat} {κ : IntKind} {a b : Int} (hk : lkV fl k = some (.v (.int κ) a)) (h : a = b) : lkV fl k = some (.v (.int κ) b) := by rw [hk, h]
theorem pvI {κ : IntKind} {a b : Int} (h : a = b) : PV.v (.int κ) a = PV.v (.int κ) b := by rw [h]
section
variable {h0 : Heap} {S0 : List Nat} {σ : Sto} {ms : List Nat} {fl : VL} {ops : Array Oper} {n i mem : Nat} {l : List Oper} {K : VL → Sto → Prop}
  {d : Tmp} {ty : TypeId} {pos : String} {after : Array Edge} {op : Op} {v : PV} {g : Option (Nat × Bool)} {bs nw : List Nat} {tail so : Bool}
theorem VD.co {b : Nat} (hc : CalmV P fl σ op v) (hk : VD P orc ops n l (i + 1) ((d, v) :: fl) (nwSet ((so && oldOp nw op) || v.flat0) d nw) σ so (bs ++ [b]) mem tail K)
    (hb : beforeOf bs ⟨some d, op, ty, pos, after, g⟩ = b := by rfl) (hw : wantV ops fl g = some true := by rfl) (hn : (Nat.blt d n && Nat.ble n 4000) = true := by rfl) :
    VD P orc ops n (⟨some d, op, ty, pos, after, g⟩ :: l) i fl nw σ so bs mem tail K := fun h0 G S0 t h ms segs I ho => by
  obtain ⟨n1, n2⟩ := fits hn; obtain ⟨u, e1, e2⟩ := hc.2 h (own σ ++ S0) t I.slots.sees I.cells; refine EvD.op (s' := ⟨t.set depth d u, h, bs ++ [b], segs, mem, tail⟩) ?_ (hk h0 G S0 _ h ms segs (I.set e1 n2) fun ht => (ho ht).set n2 fun hold hs a1 a2 a3 a4 a5 => ?_)
  · unfold fsDraw; have hwt : fsWanted ops t ⟨some d, op, ty, pos, after, g⟩ = some true := want_ok I.slots hw; simp only [hwt, hc.1, if_true, e2, Nat.beq_refl, cond_true, put_fits n1, Option.map_some, hb]
  rcases Bool.or_eq_true_iff.1 hold with hold | hold
  · obtain ⟨o1, o2⟩ := band hold; obtain ⟨u', f1, f2⟩ := hc.2 hs (own σ ++ S0) t (old_op a4 o2) (a5 o1)
    have : u' = u := by
      have g1 := e2 none 0 "" #[] none h; rw [f2 none 0 "" #[] none h] at g1; simpa using g1
    rw [← this]; exact f1
  exact (RepPV.flat0 hold e1).2 _ _
end
end Go.Fs
namespace Go.Fs
variable {P : Program} {orc : FuncId → List Value → Heap → Option (Value × Heap)} {rnd : Option Nat} {h h' h0 h1 h2 : Heap} {S S' S0 G : List Nat} {σ σ' σr γ γ' : Sto} {t t' : Tr} {ms : List Nat} {fl nw : VL} {ops : Array Oper} {n i mem : Nat} {l : List Oper} {K : VL → Sto → Prop} {Q : Ex → VL → Sto → Prop}
  {d : Tmp} {ty : TypeId} {pos : String} {after : Array Edge} {op : Op} {v pv : PV} {g : Option (Nat × Bool)} {bs nw0 : List Nat} {tail so : Bool}
inductive ShutL (fl : VL) (γ : Sto) : VL → Prop where
  | nil : ShutL fl γ []
  | cons {k : Nat} {p p' : PV} {r : VL} (hk : lkV fl k = some p) (hc : Co γ p p') (hr : ShutL fl γ r) : ShutL fl γ ((k, p') :: r)
theorem Iv.forgetL : ∀ {γ : Sto}, Iv h0 G S0 h (γ ++ σ) t ms fl → Iv h0 G S0 h σ t ms (fl)
  | [], I => I
  | _ :: γ, I => Iv.forgetL (γ := γ) I.forget
theorem Iv.shutL (I : Iv h0 G S0 h (γ ++ σ) t ms fl) (hs : ShutL fl γ nw) : Iv h0 G S0 h σ t ms (nw ++ fl) := by
  have I' := I.forgetL
  have hsl : Slots h (own σ ++ S0) t (nw ++ fl) := by
    induction hs with
    | nil => exact I'.slots
    | cons hk hc hr ih =>
      refine ih.cons (Co.ok (σ := γ) (S0 := own σ ++ S0) (fun c hd => ?_) (fun b hb => ?_) hc ?_)
      · have := I.cells c (List.mem_append_left _ hd); rw [own_app, List.append_assoc] at this; exact this
      · have h1 := I.apart; rw [own_app] at h1; intro hm; rcases List.mem_append.1 hm with hm | hm
        · exact (List.nodup_append.1 h1).2.2 b hb b hm rfl
        exact (I.new b (by rw [own_app]; exact List.mem_append_left _ hb)).2 hm
      have := I.slots _ _ hk; rw [own_app, List.append_assoc] at this; exact this
  exact { I' with slots := hsl }
theorem VC.shutL {a : Code} (γ : Sto) (nw : VL) (hσ : γ ++ σ = σr) (hs : ShutL fl γ nw) (hx : VC P orc rnd a n (nw ++ fl) σ Q) : VC P orc rnd a n fl σr Q := fun h0 G S0 t h ms I => by
  subst hσ; exact hx h0 G S0 t h ms (I.shutL hs)
end Go.Fs
namespace Go.Fs
variable {P : Program} {orc : FuncId → List Value → Heap → Option (Value × Heap)} {fl : VL} {σ γ : Sto} {T : TypeId} {τ : Ty}
theorem row_one {h : Heap} {S : List Nat} {w : Value} {e : TypeId} {xs : List τ.den} (hc : CellR h S w (.row e τ xs)) : oneCell w = true := by
  rcases hc with ⟨h1, _⟩ | ⟨b, rs, m, h1, _⟩
  · rw [show w = _ from h1]; rfl
  rw [show w = _ from h1]; rfl
theorem VO.one {orc : FuncId → List Value → Heap → Option (Value × Heap)} {ops : Array Oper} {n : Nat} {l : List Oper} {K : VL → Sto → Prop} {w : Value} {e : TypeId} {xs : List τ.den} (hm : (w, Cell.row e τ xs) ∈ σ) (hk : oneCell w = true → VO P orc ops n l fl σ K) : VO P orc ops n l fl σ K := fun h0 G S0 t h ms I => hk (row_one (I.cells _ hm)) h0 G S0 t h ms I
theorem VD.one {orc : FuncId → List Value → Heap → Option (Value × Heap)} {ops : Array Oper} {n i mem : Nat} {l : List Oper} {K : VL → Sto → Prop} {nw bs : List Nat} {so tail : Bool} {w : Value} {e : TypeId} {xs : List τ.den} (hm : (w, Cell.row e τ xs) ∈ σ) (hk : oneCell w = true → VD P orc ops n l i fl nw σ so bs mem tail K) : VD P orc ops n l i fl nw σ so bs mem tail K := fun h0 G S0 t h ms segs I => hk (row_one (I.cells _ hm)) h0 G S0 t h ms segs I
theorem VD.perm {orc : FuncId → List Value → Heap → Option (Value × Heap)} {ops : Array Oper} {n i mem : Nat} {l : List Oper} {K : VL → Sto → Prop} {nw bs : List Nat} {so tail : Bool} {σ' : Sto} (hp : σ.Perm σ') (hx : VD P orc ops n l i fl nw σ' false bs mem tail K) : VD P orc ops n l i fl nw σ so bs mem tail K := fun h0 G S0 t h ms segs I ho => hx h0 G S0 t h ms segs (I.perm hp) fun ht => by
  obtain ⟨hs, a1, a2, a3, a4, a5, a6⟩ := ho ht; refine ⟨hs, a1, a2, a3, a4, fun k pv hk hn => (a5 k pv hk hn).nx (h := hs) fun b ob hg hb => ⟨hg, fun hm => hb ?_⟩, fun e => by cases e⟩; rcases List.mem_append.1 hm with hm | hm
  · obtain ⟨c, hc, hb⟩ := List.mem_flatMap.1 hm; exact List.mem_append_left _ (List.mem_flatMap.2 ⟨c, hp.mem_iff.2 hc, hb⟩)
  exact List.mem_append_right _ hm
end Go.Fs
namespace Go.Fs
variable {P : Program} {fl : VL} {σ γ : Sto} {Q : PV → Sto → Prop} {fn : Func}
variable {p q r : ByteArray}
variable {x y : Operand} {T T' : TypeId}
end Go.Fs
namespace Go.Fs
variable {P : Program} {orc : FuncId → List Value → Heap → Option (Value × Heap)} {rnd : Option Nat} {h h' h0 h1 h2 : Heap} {S S' S0 : List Nat} {σ σ' : Sto} {t t' : Tr} {ms : List Nat} {fl : VL} {ops : Array Oper} {n i mem : Nat} {l : List Oper} {K : VL → Sto → Prop}
  {d : Tmp} {ty : TypeId} {pos : String} {after : Array Edge} {op : Op} {v pv : PV} {g : Option (Nat × Bool)} {x y z : Operand} {T T' e : TypeId} {τ τ' : Ty}
inductive FnL : List PV → List PV → Prop where
  | nil : FnL [] []
  | same {p : PV} {l l' : List PV} (hl : FnL l l') : FnL (p :: l) (p :: l')
  | fn {f : FuncId} {l l' : List PV} (hl : FnL l l') : FnL (.clo f [] [] :: l) (.v .fn (some f) :: l')
end Go.Fs
namespace Go.Fs
variable {P : Program} {orc : FuncId → List Value → Heap → Option (Value × Heap)} {rnd : Option Nat} {h h' h0 h1 h2 hr : Heap} {S S' S0 B G A : List Nat} {σ σ' σr ρ : Sto} {t t' : Tr} {ms : List Nat} {fl : VL} {ops : Array Oper} {n i mem : Nat} {l : List Oper} {K : VL → Sto → Prop} {Q : Ex → VL → Sto → Prop}
  {d : Tmp} {ty : TypeId} {pos : String} {after : Array Edge} {op : Op} {v pv : PV} {g : Option (Nat × Bool)} {x y z : Operand} {T T' e : TypeId} {τ τ' : Ty} {bs nw rd chg : List Nat} {segs : List (Nat × Nat × Nat)} {tail tl : Bool} {w w' : Value}
section
variable (P orc)
def EvL (hr : Heap) (ops : Array Oper) (n : Nat) (l : List Oper) (i : Nat) (x : LSt) (Q : LSt → Prop) : Prop := ∃ m x', lateDrawn P hr (stepAt P orc m) ops n l i x = some x' ∧ Q x'
end
theorem EvL.nil {x : LSt} {QL : LSt → Prop} (hq : QL x) : EvL P orc hr ops n [] i x QL := ⟨0, x, rfl, hq⟩
theorem EvL.opr {o : Oper} {x x' : LSt} {QL : LSt → Prop} (hs : lateDraw P hr (stepO P) ops n o i x = some x') (hl : EvL P orc hr ops n l (i + 1) x' QL) : EvL P orc hr ops n (o :: l) i x QL := by
  obtain ⟨m, s2, hf, hq⟩ := hl; refine ⟨m, s2, ?_, hq⟩; simp only [lateDrawn, lateDraw_mono (stepO_le m) hs]; exact hf
def quietOp : Op → Bool
  | .load .. => true
  | .call { callee := .builtin .len, .. } => true
  | .slice .. => true
  | _ => false
theorem quiet_no {ev : Operand → Value} {nx : Nat} (hq : quietOp op = false) : quietV P hr op ev nx = none := by
  unfold quietV; split
  · cases hq
  · cases hq
  · cases hq
  rfl
theorem EvL.call {o : Oper} {s : DSt} {c : Call} {f : Operand} {gf : FuncId} {a b : Array Value} {QL : LSt → Prop} (hw : fsWanted ops s.t o = some true) (ho : o.op = .call c) (hc : c.callee = .value f) (hf : evalO s.t f = .func (.func gf) a b)
    (hord : Nat.beq (s.mem &&& beforeOf s.bs o) s.mem = true)
    (hl : EvF P orc gf (a.toList ++ c.args.toList.map (evalO s.t) ++ b.toList) (entry s.h) fun v h' => Nat.blt h'.next s.h.next = false ∧ Nat.ble s.h.next h'.low = true ∧
      ∃ t', put n s.t o.dst v = some t' ∧ EvL P orc hr ops n l (i + 1) (drewOn o i s t' h', rd, chg) QL) : EvL P orc hr ops n (o :: l) i (s, rd, chg) QL := by
  obtain ⟨m, v, h1, hf1, hnx, hlo, t1, hp, k, s2, hr2, hq⟩ := hl; refine ⟨max m k, s2, ?_, hq⟩; have h3 := LeC.callOf' (P := P) (orc := orc) (Nat.le_max_left m k) _ _ _ _ hf1
  have hcalm : calm o.op = false := by rw [ho]; rfl
  have hqo : quietOp o.op = false := by
    rw [ho]; obtain ⟨cal, args, ats⟩ := c; simp only at hc; subst hc; rfl
  have hd : lateDraw P hr (stepAt P orc (max m k)) ops n o i (s, rd, chg) = some (drewOn o i s t1 h1, rd, chg) := by
    unfold lateDraw; simp only [hw, hcalm, Bool.false_eq_true, if_false, quiet_no hqo]; unfold lateMem; simp only [hord, Bool.not_true, Bool.and_false, cond_false, cond_true]; rw [stepAt_call ho hc hf]; unfold entry at h3; rw [h3]; simp only [hnx, cond_false, hp, hlo, cond_true]; unfold drewOn; simp only [hlo, cond_true]
  simp only [lateDrawn, hd]; exact lateDrawn_mono (stepAt_mono (Nat.le_max_right m k)) _ _ _ _ hr2
theorem EvC.late {id : Nat} {fr : Fr} {QC : Ex → Fr → Heap → Prop} (hl : lateB ops = true) (ho : EvL P orc h ops fr.n ops.toList 0 (⟨fr.t, h, [], [], 0, false⟩, [], []) fun x => apartB x = true ∧ QC .normal { t := x.1.t, n := fr.n, marks := fr.marks } x.1.h) : EvC P orc rnd (.region id ops true) fr h QC := by
  obtain ⟨m, x, hf, ha, hq⟩ := ho; refine ⟨m + 1, .normal, _, _, ?_, hq⟩; show fsStep P orc (fsCode P orc m) rnd (.region id ops true) fr h = _; unfold stepAt at hf; simp only [fsStep, hl, cond_true, drawnL, hf, ha]
structure Late (hr h : Heap) (S0 A : List Nat) (σ ρ : Sto) (t : Tr) (fl : VL) (nw rd chg : List Nat) : Prop where
  ok : HOk hr
  lt : ∀ b ∈ A ++ S0, b < hr.next
  next : hr.next ≤ h.next
  goes : Goes hr (A ++ S0) h (own σ ++ S0)
  slots : ∀ k pv, lkV fl k = some pv → nwHas nw k = false → RepPV hr (A ++ S0) pv (t.get k)
  suf : ∃ σ1, σ = σ1 ++ ρ
  cells : ∀ c ∈ ρ, CellR hr (A ++ S0) c.1 c.2
  fix : ∀ b ∈ own ρ, b ∈ A
  new : ∀ b ∈ own σ, b ∈ A ∨ hr.next ≤ b
  rd : ∀ b ∈ rd, b < hr.next ∧ (b ∈ own ρ ∨ b ∉ A)
  chg : ∀ k ∈ chg, k ∉ own ρ ∧ (k ∈ A ∨ hr.next ≤ k)
section
variable (P orc)
def VLt (ops : Array Oper) (n : Nat) (l : List Oper) (i : Nat) (fl : VL) (nw : List Nat) (σ ρ : Sto) (bs : List Nat) (mem : Nat) (tl : Bool) (K : VL → Sto → Prop) : Prop :=
  ∀ (hr h0 : Heap) (G S0 A : List Nat) (t : Tr) (h : Heap) (ms rd chg : List Nat) (segs : List (Nat × Nat × Nat)) (tail : Bool), (tl = false → tail = false) → Iv h0 G S0 h σ t ms fl → Late hr h S0 A σ ρ t fl nw rd chg →
    EvL P orc hr ops n l i (⟨t, h, bs, segs, mem, tail⟩, rd, chg) fun x => apartB x = true ∧ ∃ fl' σ', Iv h0 G S0 x.1.h σ' x.1.t ms fl' ∧ K fl' σ'
end
theorem VC.late {id : Nat} {ops : Array Oper} (ρ : Sto) (hs : ∃ σ1, σ = σ1 ++ ρ) (hx : VLt P orc ops n ops.toList 0 fl [] σ ρ [] 0 false fun fl' σ' => Q .normal fl' σ') (hl : lateB ops = true := by kernel_rfl) : VC P orc rnd (.region id ops true) n fl σ Q := fun h0 G S0 t h ms I => by
  refine EvC.late hl ?_; have hA := I.lc.lt
  have hfix : ∀ b ∈ own ρ, b ∈ own σ := fun b hb => by
    obtain ⟨σ1, rfl⟩ := hs; rw [own_app]; exact List.mem_append_right _ hb
  obtain ⟨m, x, h1, ha, fl', σ', h2, h3⟩ := hx h h0 G S0 (own σ) t h ms [] [] [] false (fun _ => rfl) I
    { ok := I.ok, lt := hA, next := Nat.le_refl _, goes := fun b o hg hb => ⟨hg, hb⟩, slots := fun k pv hk _ => I.slots k pv hk, suf := hs,
      cells := fun c hc => I.cells c (by obtain ⟨σ1, rfl⟩ := hs; exact List.mem_append_right _ hc), fix := hfix, new := fun b hb => .inl hb, rd := fun b hb => (by cases hb), chg := fun k hk => (by cases hk) }
  exact ⟨m, x, h1, ha, rfl, fl', σ', h2, h3⟩
theorem VLt.nil (hk : K fl σ) : VLt P orc ops n [] i fl nw σ ρ bs mem tl K := fun hr h0 G S0 A t h ms rd chg segs tail ht I L => by
  refine EvL.nil ⟨?_, fl, σ, I, hk⟩; refine List.all_eq_true.2 fun b hb => List.all_eq_true.2 fun k hk => ?_; obtain ⟨r1, r2⟩ := L.rd b hb; obtain ⟨c1, c2⟩ := L.chg k hk
  have hne : b ≠ k := by
    intro e; subst e; rcases r2 with r2 | r2
    · exact c1 r2
    rcases c2 with c2 | c2
    · exact r2 c2
    omega
  rw [beq_no hne]; rfl
theorem VLt.go {b : Code} (hx : VC P orc rnd b n fl σ Q) : VLt P orc ops n [] i fl nw σ ρ bs mem tl fun fl σ => thenV P orc rnd n b Q .normal fl σ := VLt.nil hx
theorem Late.set {u : Value} {old : Bool} (L : Late hr h S0 A σ ρ t fl nw rd chg) (hd : d < 4000) (hu : old = true → RepPV hr (A ++ S0) v u) : Late hr h S0 A σ ρ (t.set depth d u) ((d, v) :: fl) (nwSet old d nw) rd chg :=
  { L with
    slots := fun k pv hk hn => by
      rw [get_setD t d u k hd]; simp only [lkV] at hk
      cases hb : Nat.beq d k with
      | true =>
        rw [hb] at hk; simp only [cond_true, Option.some.injEq] at hk; subst hk; rw [if_pos (nbeq hb).symm]
        cases old with
        | true => exact hu rfl
        | false =>
          simp only [nwSet, cond_false, nwHas, hb, cond_true] at hn
          cases hn
      | false =>
        rw [hb] at hk; simp only [cond_false] at hk; have hne := ne_of_no hb; rw [if_neg (Ne.symm hne)]; refine L.slots k pv hk ?_
        cases old with
        | true => rw [nwSet, cond_true, nwHas_filter (Ne.symm hne)] at hn; exact hn
        | false => simpa only [nwSet, cond_false, nwHas, hb] using hn }
theorem Late.read (L : Late hr h S0 A σ ρ t fl nw rd chg) {b : Nat} (hb : b < hr.next ∧ (b ∈ own ρ ∨ b ∉ A)) : Late hr h S0 A σ ρ t fl nw (b :: rd) chg :=
  { L with
    rd := fun k hk => by
      rcases List.mem_cons.1 hk with rfl | hk
      · exact hb
      exact L.rd k hk }
theorem Late.made (L : Late hr h S0 A σ ρ t fl nw rd chg) (I : Iv h0 G S0 h σ t ms fl) (m : Made S0 h h' σ σ') (hs : ∃ σ1, σ' = σ1 ++ ρ) : Late hr h' S0 A σ' ρ t fl nw rd chg :=
  { L with
    next := Nat.le_trans L.next m.aft.next
    goes := L.goes.trans (I.goes (fun _ hb => hb) m.aft m.new)
    suf := hs
    new := fun b hb => by
      rcases m.new b hb with h3 | h3
      · exact L.new b h3
      have := L.next
      exact .inr (by omega) }
theorem VLt.c {b : Nat} (hc : CalmV P fl [] op v) (hk : VLt P orc ops n l (i + 1) ((d, v) :: fl) (nwSet (oldOp nw op || v.flat0) d nw) σ ρ (bs ++ [b]) mem tl K)
    (hb : beforeOf bs ⟨some d, op, ty, pos, after, g⟩ = b := by rfl) (hw : wantV ops fl g = some true := by rfl) (hn : (Nat.blt d n && Nat.ble n 4000) = true := by rfl) :
    VLt P orc ops n (⟨some d, op, ty, pos, after, g⟩ :: l) i fl nw σ ρ bs mem tl K := fun hr h0 G S0 A t h ms rd chg segs tail ht I L => by
  obtain ⟨n1, n2⟩ := fits hn; obtain ⟨u, e1, e2⟩ := hc.2 h (own σ ++ S0) t I.slots.sees (fun _ hc => by cases hc); refine EvL.opr (x' := (⟨t.set depth d u, h, bs ++ [b], segs, mem, tail⟩, rd, chg)) ?_ (hk hr h0 G S0 A _ h ms rd chg segs tail ht (I.set e1 n2) (L.set n2 fun hold => ?_))
  · unfold lateDraw; have hwt : fsWanted ops t ⟨some d, op, ty, pos, after, g⟩ = some true := want_ok I.slots hw; simp only [hwt, hc.1, if_true, e2, Nat.beq_refl, cond_true, put_fits n1, Option.map_some, hb]
  rcases Bool.or_eq_true_iff.1 hold with hold | hold
  · obtain ⟨u', f1, f2⟩ := hc.2 hr (A ++ S0) t (old_op L.slots hold) (fun _ hc => by cases hc)
    have : u' = u := by
      have g1 := e2 none 0 "" #[] none h; rw [f2 none 0 "" #[] none h] at g1; simpa using g1
    rw [← this]; exact f1
  exact (RepPV.flat0 hold e1).2 _ _
theorem fsLoad_at {b o : Nat} {ob : AObj} {H : Heap} {nx : Nat} {u : Value} (hg : H.get b = some ob) (hv : fsLoad P T (.pointer (some ⟨b, o, none⟩)) H = some u) : fsLoad P T (.pointer (some ⟨b, o, none⟩)) { next := nx, low := nx, objs := [(b, ob)] } = some u := by
  unfold fsLoad at hv ⊢; simp only at hv ⊢
  have : Heap.get { next := nx, low := nx, objs := [(b, ob)] } b = some ob := by
    show look [(b, ob)] b = some ob; simp [look]
  rw [this]; rw [hg] at hv; exact hv
theorem late_quiet {b b0 o0 : Nat} {ob : AObj} {u : Value} (hx : evalO t x = .pointer (some ⟨b0, o0, none⟩)) (hg : hr.get b0 = some ob) (hlt : b0 < hr.next) (hv : fsLoad P T (.pointer (some ⟨b0, o0, none⟩)) hr = some u)
    (hb : beforeOf bs ⟨some d, .load T x, ty, pos, after, g⟩ = b) (hw : fsWanted ops t ⟨some d, .load T x, ty, pos, after, g⟩ = some true) (n1 : Nat.blt d n = true) :
    lateDraw P hr (stepO P) ops n ⟨some d, .load T x, ty, pos, after, g⟩ i (⟨t, h, bs, segs, mem, tail⟩, rd, chg) = some (⟨t.set depth d u, h, bs ++ [b], segs, mem, tail⟩, b0 :: rd, chg) := by
  have hq : quietV P hr (.load T x) (evalO t) h.next = some (u, [b0]) := by
    have hbl : Nat.blt b0 hr.next = true := by rw [Nat.blt_eq]; exact hlt
    simp only [quietV, hx, hg, hbl, cond_true, fsLoad_at (nx := h.next) hg hv, Option.map_some]
  unfold lateDraw; simp only [hw, show calm (Op.load T x) = false from rfl, Bool.false_eq_true, if_false, hq, put_fits n1, Option.map_some, hb]; rfl
theorem VLt.q {b : Nat} {dx : τ.den} (hx : evV fl x = some (.p τ dx)) (hc : ReadV P fl [] (.load T x) v) (hk : VLt P orc ops n l (i + 1) ((d, v) :: fl) (nwSet true d nw) σ ρ (bs ++ [b]) mem tl K)
    (hb : beforeOf bs ⟨some d, .load T x, ty, pos, after, g⟩ = b := by rfl) (hold : oldX nw x = true := by rfl) (hw : wantV ops fl g = some true := by rfl) (hn : (Nat.blt d n && Nat.ble n 4000) = true := by rfl) :
    VLt P orc ops n (⟨some d, .load T x, ty, pos, after, g⟩ :: l) i fl nw σ ρ bs mem tl K := fun hr h0 G S0 A t h ms rd chg segs tail ht I L => by
  obtain ⟨n1, n2⟩ := fits hn; obtain ⟨b0, o0, e', rs, own', more, h1, h2, h3, h4⟩ := (old_sees L.slots hx hold : RepP hr (A ++ S0) τ (evalO t x) dx)
  obtain ⟨u, e1, e2⟩ := hc.2 hr (A ++ S0) t (fun z hz pv hp => by
    obtain rfl : z = x := by simpa [Op.operands] using hz
    exact old_sees L.slots hp hold) (fun _ hc => by cases hc)
  have hst := e2 hr (fun _ _ hg => hg) none 0 "" #[] none
  have hv : fsLoad P T (.pointer (some ⟨b0, o0, none⟩)) hr = some u := by
    have h5 : (fsLoad P T (evalO t x) hr).map (fun v => (v, hr)) = some (u, hr) := hst; obtain ⟨v', h6, h7⟩ := Option.map_eq_some_iff.1 h5; simp only [Prod.mk.injEq, and_true] at h7; rw [← h1, h6, h7]
  have hlt := L.ok b0 _ h3; refine EvL.opr (late_quiet h1 h3 hlt hv hb (want_ok I.slots hw) n1) (hk hr h0 G S0 A _ h ms _ chg segs tail ht (I.set (e1.nx L.goes) n2) ((L.set (old := true) n2 fun _ => e1).read ⟨hlt, .inr fun hm => h2 (List.mem_append_left _ hm)⟩))
theorem VLt.qo {b : Nat} {q : Value} {cs : List PV} (hx : evV fl x = some (.raw q)) (hm : (w, Cell.var cs) ∈ ρ) (hq : q = w ∨ ∃ k, q = padd w k) (hc : ReadV P fl ρ (.load T x) v) (hk : VLt P orc ops n l (i + 1) ((d, v) :: fl) (nwSet true d nw) σ ρ (bs ++ [b]) mem tl K)
    (hb : beforeOf bs ⟨some d, .load T x, ty, pos, after, g⟩ = b := by rfl) (hw : wantV ops fl g = some true := by rfl) (hn : (Nat.blt d n && Nat.ble n 4000) = true := by rfl) :
    VLt P orc ops n (⟨some d, .load T x, ty, pos, after, g⟩ :: l) i fl nw σ ρ bs mem tl K := fun hr h0 G S0 A t h ms rd chg segs tail ht I L => by
  obtain ⟨n1, n2⟩ := fits hn; have hxq : evalO t x = q := (evV_ok I.slots hx : RepPV _ _ (.raw q) _); obtain ⟨b0, e', vs, h1, h2, h3, h4, h5⟩ := L.cells _ hm
  obtain ⟨o0, hqb⟩ : ∃ o0, q = .pointer (some ⟨b0, o0, none⟩) := by
    simp only at h1; rcases hq with hq | ⟨k, hq⟩
    · exact ⟨0, hq.trans h1⟩
    exact ⟨0 + k, by rw [hq, h1]; rfl⟩
  obtain ⟨u, e1, e2⟩ := hc.2 hr (A ++ S0) t (fun z hz pv hp => by
    obtain rfl : z = x := by simpa [Op.operands] using hz
    rw [hx] at hp; obtain rfl := Option.some.inj hp
    exact hxq) L.cells
  have hst := e2 hr (fun _ _ hg => hg) none 0 "" #[] none
  have hv : fsLoad P T (.pointer (some ⟨b0, o0, none⟩)) hr = some u := by
    have h5 : (fsLoad P T (evalO t x) hr).map (fun v => (v, hr)) = some (u, hr) := hst; obtain ⟨v', h6, h7⟩ := Option.map_eq_some_iff.1 h5; simp only [Prod.mk.injEq, and_true] at h7; rw [← hqb, ← hxq, h6, h7]
  have hlt := L.ok b0 _ h3; have hbo : b0 ∈ own ρ := List.mem_flatMap.2 ⟨_, hm, by simp only at h1; rw [h1]; exact List.mem_cons_self⟩; exact EvL.opr (late_quiet (hxq.trans hqb) h3 hlt hv hb (want_ok I.slots hw) n1) (hk hr h0 G S0 A _ h ms _ chg segs tail ht (I.set (e1.nx L.goes) n2) ((L.set (old := true) n2 fun _ => e1).read ⟨hlt, .inl hbo⟩))
theorem VLt.len {b : Nat} {a : Array TypeId} {k : Int} (hv : ∀ (h : Heap) (S : List Nat) (u : Value), RepPV h S pv u → ∀ H, fsLen P a u H = some (.int .i64 k)) (hx : evV fl x = some pv) (hk : VLt P orc ops n l (i + 1) ((d, .v (.int .i64) k) :: fl) (nwSet true d nw) σ ρ (bs ++ [b]) mem tl K)
    (hb : beforeOf bs ⟨some d, .call { callee := .builtin .len, args := #[x], argTypes := a }, ty, pos, after, g⟩ = b := by rfl) (hw : wantV ops fl g = some true := by rfl) (hn : (Nat.blt d n && Nat.ble n 4000) = true := by rfl) :
    VLt P orc ops n (⟨some d, .call { callee := .builtin .len, args := #[x], argTypes := a }, ty, pos, after, g⟩ :: l) i fl nw σ ρ bs mem tl K := fun hr h0 G S0 A t h ms rd chg segs tail ht I L => by
  obtain ⟨n1, n2⟩ := fits hn; have hl := hv h _ _ (evV_ok I.slots hx); refine EvL.opr (x' := (⟨t.set depth d (.int .i64 k), h, bs ++ [b], segs, mem, tail⟩, rd, chg)) ?_ (hk hr h0 G S0 A _ h ms rd chg segs tail ht (I.set (RepV.ofInt _ _) n2) (L.set n2 fun _ => RepV.ofInt _ _))
  have hq : quietV P hr (.call { callee := .builtin .len, args := #[x], argTypes := a }) (evalO t) h.next = some (.int .i64 k, []) := by
    simp only [quietV, hl, Option.map_some]
  unfold lateDraw; have hwt : fsWanted ops t ⟨some d, .call { callee := .builtin .len, args := #[x], argTypes := a }, ty, pos, after, g⟩ = some true := want_ok I.slots hw; simp only [hwt, show calm (Op.call { callee := .builtin .len, args := #[x], argTypes := a }) = false from rfl, Bool.false_eq_true, if_false, hq, put_fits n1, Option.map_some, hb]; rfl
theorem late_make {b : Nat} {o : Oper} {u : Value} {t2 : Tr} (hb : beforeOf bs o = b) (hp : put n t o.dst u = some t2) (hcalm : calm o.op = false) (hqo : quietOp o.op = false) (hw : fsWanted ops t o = some true) (hord : Nat.beq (mem &&& b) mem = true) (hok : HOk h) (hst : stepO P o (evalO t) (entry h) = some (u, h')) (hB : Aft (entry h) h' B)
    (htu : h.next ≤ h'.low ∨ ∃ k, turned o.op (evalO t) = some k) :
    ∃ h2 tail' chg', lateDraw P hr (stepO P) ops n o i (⟨t, h, bs, segs, mem, tail⟩, rd, chg) = some (⟨t2, h2, bs ++ [b], (i, h.next, h'.next) :: segs, mem ||| 2 ^ i, tail'⟩, rd, chg') ∧ (∀ b, h2.get b = h'.get b) ∧ h2.next = h'.next ∧ Aft h h2 B ∧ ((chg' = chg ∧ tail' = tail) ∨ ∃ k, turned o.op (evalO t) = some k ∧ ¬ h.next ≤ h'.low ∧ chg' = k :: chg) := by
  have hnx := hB.next; have hnx' : Nat.blt h'.next h.next = false := blt_of_le hnx; unfold lateDraw; simp only [hw, hcalm, Bool.false_eq_true, if_false, quiet_no hqo]; unfold lateMem; simp only [hb, hord, Bool.not_true, Bool.and_false, cond_false, cond_true]; unfold entry at hst; rw [hst]; simp only [hnx', cond_false, hp]
  cases hlow : Nat.ble h.next h'.low with
  | true =>
    have hl := nble hlow
    have hsame : ∀ b, b < h.next → h'.get b = h.get b := fun b hb => by
      rcases hB.chg b hb with h3 | h3
      · exact h3
      omega
    have hget : ∀ b, look (newer h.next h'.next h'.objs ++ h.objs) b = h'.get b := fun b => by
      rw [look_append]; by_cases hb : b < h.next
      · cases hl2 : look (newer h.next h'.next h'.objs) b with
        | some o => have := (newer_some _ _ _ hl2).1; omega
        | none => exact (hsame b hb).symm
      have hold : look h.objs b = none := by
        cases hl2 : look h.objs b with
        | none => rfl
        | some o => exact absurd (hok b o hl2) hb
      rw [hold, Option.or_none]
      cases hl2 : look h'.objs b with
      | some o =>
        have : b < h'.next := hB.ok hok b o hl2; rw [newer_in _ _ (by omega) this, hl2]
        exact hl2.symm
      | none =>
        cases hl3 : look (newer h.next h'.next h'.objs) b with
        | none => exact hl2.symm
        | some o => rw [(newer_some _ _ _ hl3).2] at hl2; cases hl2
    refine ⟨_, _, _, rfl, hget, rfl, ⟨hnx, fun b hb hn => (hget b).trans (hB.get b hb hn), fun _ b o hg => ?_, fun e h3 _ _ => h3, fun b hb => .inl ((hget b).trans (hsame b hb)), Nat.le_refl _⟩, .inl ⟨rfl, rfl⟩⟩
    exact hB.ok hok b o ((hget b).symm.trans hg)
  | false =>
    rcases htu with htu | ⟨k, htu⟩
    · have : Nat.ble h.next h'.low = true := by rw [Nat.ble_eq]; exact htu
      rw [this] at hlow; cases hlow
    simp only [htu, cond_false, cond_true]; refine ⟨_, _, _, rfl, fun _ => rfl, rfl, ⟨hnx, hB.get, fun _ => hB.ok hok, fun e h3 h4 h5 => Nat.le_min.2 ⟨h3, hB.low e h4 h4 h5⟩, fun b hb => ?_, Nat.min_le_left _ _⟩, .inr ⟨k, rfl, fun hle => (by have e : Nat.ble h.next h'.low = true := (by rw [Nat.ble_eq]; exact hle); rw [e] at hlow; cases hlow), rfl⟩⟩; rcases hB.chg b hb with h3 | h3
    · exact .inl h3
    exact .inr (Nat.le_trans (Nat.min_le_right _ _) h3)
def TurnV (P : Program) (fl : VL) (op : Op) (w : Value) (c : Cell) : Prop := quietOp op = false ∧ ∀ (h h' : Heap) (S : List Nat) (t : Tr) (u : Value) (d : Option Tmp) (ty : TypeId) (pos : String) (after : Array Edge) (g : Option (Nat × Bool)), Sees h S t fl op → CellR h S w c → stepO P ⟨d, op, ty, pos, after, g⟩ (evalO t) h = some (u, h') →
  (∀ k, turned op (evalO t) = some k → k ∈ blk w) ∧ (h.low ≤ h'.low ∨ ∃ k, turned op (evalO t) = some k)
theorem TurnV.store {q : Value} {cs : List PV} (hx : evV fl x = some (.raw q)) (hq : q = w ∨ ∃ k, q = padd w k) : TurnV P fl (.store T x y) w (.var cs) := ⟨rfl, fun h h' S t u d ty pos after g hs hc _ => by
  have hxq : evalO t x = q := (hs x (by simp [Op.operands]) _ hx : RepPV _ _ (.raw q) _); obtain ⟨b0, e', vs, h1, h2, h3, h4, h5⟩ := hc
  obtain ⟨o0, hqb⟩ : ∃ o0, q = .pointer (some ⟨b0, o0, none⟩) := by
    rcases hq with hq | ⟨k, hq⟩
    · exact ⟨0, hq.trans h1⟩
    exact ⟨0 + k, by rw [hq, h1]; rfl⟩
  have ht : turned (.store T x y) (evalO t) = some b0 := by simp only [turned, hxq, hqb]
  refine ⟨fun k hk => ?_, .inr ⟨b0, ht⟩⟩; rw [ht] at hk; obtain rfl := Option.some.inj hk
  rw [h1]; exact List.mem_cons_self⟩
theorem Late.turn {c : Cell} (L : Late hr h S0 A ((w, c) :: σr) ρ t fl nw rd chg) (hap : (own ((w, c) :: σr)).Nodup) (hs : ∃ σ1, σr = σ1 ++ ρ) {k : Nat} (hk : k ∈ blk w) : Late hr h S0 A ((w, c) :: σr) ρ t fl nw rd (k :: chg) :=
  { L with
    chg := fun j hj => by
      rcases List.mem_cons.1 hj with rfl | hj
      · rw [own_cons] at hap; refine ⟨fun hm => (List.nodup_append.1 hap).2.2 j hk j ?_ rfl, L.new j (by rw [own_cons]; exact List.mem_append_left _ hk)⟩; obtain ⟨σ1, rfl⟩ := hs; rw [own_app]; exact List.mem_append_right _ hm
      exact L.chg j hj }
theorem VLt.mk0 {c : Cell} {b : Nat} {Tt : PV → Sto → Prop} (hs : MakeV P fl ((w, c) :: σr) op Tt) (hT : TurnV P fl op w c) (hρ : ∃ σ1, σr = σ1 ++ ρ) (hk : ∀ v σ', Tt v σ' → (∃ σ1, σ' = σ1 ++ ρ) ∧ VLt P orc ops n l (i + 1) fl nw σ' ρ (bs ++ [b]) (mem ||| 2 ^ i) true K)
    (hb : beforeOf bs ⟨none, op, ty, pos, after, g⟩ = b := by rfl) (hord : Nat.beq (mem &&& b) mem = true := by rfl) (hw : wantV ops fl g = some true := by rfl) :
    VLt P orc ops n (⟨none, op, ty, pos, after, g⟩ :: l) i fl nw ((w, c) :: σr) ρ bs mem tl K := fun hr h0 G S0 A t h ms rd chg segs tail ht I L => by
  have Le := I.lc.objs (h' := entry h) (fun _ => rfl) rfl; obtain ⟨u, h', v, σ', e1, e2, e3, e4⟩ := hs.2 S0 (entry h) t Le; have hst := e4 none ty pos after g; obtain ⟨t1, t2⟩ := hT.2 (entry h) h' _ t u _ _ _ _ _ Le.slots.sees (Le.cells _ List.mem_cons_self) hst; obtain ⟨h2, tail', chg', f1, f2, f3, f4, f5⟩ := late_make (n := n) (hr := hr) (rd := rd) (chg := chg) (i := i) (segs := segs) (tail := tail) (o := ⟨none, op, ty, pos, after, g⟩) hb (put_none n t u) hs.1 hT.1 (want_ok I.slots hw) hord I.ok hst e2.aft t2; have m2 := made_objs e2 f2 f4; obtain ⟨hσ, hk⟩ := hk v σ' e1
  have L2 : Late hr h S0 A ((w, c) :: σr) ρ t fl nw rd chg' := by
    rcases f5 with ⟨rfl, _⟩ | ⟨k, g1, _, rfl⟩
    · exact L
    exact L.turn I.apart hρ (t1 k g1)
  exact EvL.opr f1 (hk hr h0 G S0 A _ _ ms rd chg' _ tail' (fun e => by cases e) (I.made m2) (L2.made I m2 hσ))
theorem VLt.callO {b : Nat} {f : Operand} {args : Array Operand} {ats : Array TypeId} {F r : PV} {asl : List PV} (hf : evV fl f = some F) (ha : evVs fl args.toList = some asl) (hc : VCall P orc F asl r)
    (hk : VLt P orc ops n l (i + 1) ((d, r) :: fl) (nwSet r.flat d nw) σ ρ (bs ++ [b]) (mem ||| 2 ^ i) tl K)
    (hb : beforeOf bs ⟨some d, .call { callee := .value f, args := args, argTypes := ats }, ty, pos, after, g⟩ = b := by rfl) (hord : Nat.beq (mem &&& b) mem = true := by rfl) (hw : wantV ops fl g = some true := by rfl) (hn : (Nat.blt d n && Nat.ble n 4000) = true := by rfl) :
    VLt P orc ops n (⟨some d, .call { callee := .value f, args := args, argTypes := ats }, ty, pos, after, g⟩ :: l) i fl nw σ ρ bs mem tl K := fun hr h0 G S0 A t h ms rd chg segs tail ht I L => by
  obtain ⟨n1, n2⟩ := fits hn; have Le := I.lc.objs (h' := entry h) (fun _ => rfl) rfl; obtain ⟨fid, ca, cc, h1, h2⟩ := hc.ev Le.ok Le.lt (evV_ok Le.slots hf) (evVs_ok Le.slots ha); refine EvL.call (s := ⟨t, h, bs, segs, mem, tail⟩) (o := ⟨some d, .call { callee := .value f, args := args, argTypes := ats }, ty, pos, after, g⟩) (want_ok I.slots hw) rfl rfl h1 (by simp only [hb, hord]) ?_; refine h2.mono fun u h' hq => ?_; obtain ⟨q1, q2, q3⟩ := hq; have hA := q1.after; have hl : h.next ≤ h'.low := hA.low h.next (Nat.le_refl _) (Nat.le_refl _)
  have hlow : Nat.ble h.next h'.low = true := by rw [Nat.ble_eq]; exact hl
  have hnx : h.next ≤ h'.next := hA.next; refine ⟨blt_of_le hnx, hlow, _, put_fits n1 t u, ?_⟩
  have hd : drewOn ⟨some d, .call { callee := .value f, args := args, argTypes := ats }, ty, pos, after, g⟩ i ⟨t, h, bs, segs, mem, tail⟩ (t.set depth d u) h' =
      ⟨t.set depth d u, { next := h'.next, low := h.low, objs := newer h.next h'.next h'.objs ++ h.objs }, bs ++ [b], (i, h.next, h'.next) :: segs, mem ||| 2 ^ i, tail⟩ := by
    unfold drewOn; simp only [hlow, cond_true, hb]
  rw [hd]; obtain ⟨e1, e2⟩ := newer_left (M := entry h) (h' := h') I.ok (fun b o hg => hg) rfl hA Le.ok; have eA : Aft h { next := h'.next, low := h.low, objs := newer h.next h'.next h'.objs ++ h.objs } [] := ⟨e1.next, fun b hb _ => e1.get b hb, e1.ok, fun e h3 h4 _ => e1.low e h3 h4, fun b hb => .inl (e1.get b hb), Nat.le_refl _⟩; have I2 := I.calm eA
  have L2 : Late hr { next := h'.next, low := h.low, objs := newer h.next h'.next h'.objs ++ h.objs } S0 A σ ρ t fl nw rd chg :=
    { L with next := Nat.le_trans L.next eA.next, goes := L.goes.trans (I.goes (B := []) (σ' := σ) (fun b hb => by cases hb) eA fun b hb => .inl hb) }
  exact hk hr h0 G S0 A _ _ ms rd chg _ tail ht (I2.set (q2.nx (e2 _)) n2) (L2.set n2 fun hfl => (q2.flat hfl).2 _ _)
theorem VLt.perm (hp : σ.Perm σ') (hs : ∃ σ1, σ' = σ1 ++ ρ) (hx : VLt P orc ops n l i fl nw σ' ρ bs mem tl K) : VLt P orc ops n l i fl nw σ ρ bs mem tl K := fun hr h0 G S0 A t h ms rd chg segs tail ht I L =>
  hx hr h0 G S0 A t h ms rd chg segs tail ht (I.perm hp) { L with
    goes := fun b o hg hb => by
      obtain ⟨g1, g2⟩ := L.goes b o hg hb; refine ⟨g1, fun hm => g2 ?_⟩; rcases List.mem_append.1 hm with hm | hm
      · exact List.mem_append_left _ ((own_perm hp).mem_iff.2 hm)
      exact List.mem_append_right _ hm
    suf := hs
    new := fun b hb => L.new b ((own_perm hp).mem_iff.2 hb) }
theorem VLt.nws {nw0 : List Nat} (nw1 : List Nat) (hk : VLt P orc ops n l i fl nw1 σ ρ bs mem tl K) (he : nw0 = nw1 := by rfl) : VLt P orc ops n l i fl nw0 σ ρ bs mem tl K := he ▸ hk
theorem VLt.lenS {b : Nat} {xs : List τ.den} (hT : ElT P T e τ) (hk : VLt P orc ops n l (i + 1) ((d, .v (.int .i64) (xs.length : Nat)) :: fl) (nwSet true d nw) σ ρ (bs ++ [b]) mem tl K) (hx : evV fl x = some (.v (.sl τ) xs) := by rfl)
    (hb : beforeOf bs ⟨some d, .call { callee := .builtin .len, args := #[x], argTypes := #[T] }, ty, pos, after, g⟩ = b := by rfl) (hw : wantV ops fl g = some true := by rfl) (hn : (Nat.blt d n && Nat.ble n 4000) = true := by rfl) :
    VLt P orc ops n (⟨some d, .call { callee := .builtin .len, args := #[x], argTypes := #[T] }, ty, pos, after, g⟩ :: l) i fl nw σ ρ bs mem tl K :=
  VLt.len (pv := .v (.sl τ) xs) (fun h S u hu H => (RepV.sl (hu : RepV h S (.sl τ) u xs)).len hT H) hx hk hb hw hn
end Go.Fs
namespace Ieee
theorem cut_zero (neg : Bool) (n : Nat) : Toward.even.cut neg n 0 = n := by
  unfold Toward.cut; simp [Nat.mod_one]
theorem log2_le_of_dvd {n d : Nat} (hn : n ≠ 0) (h : 2 ^ d ∣ n) : d ≤ n.log2 := (Nat.le_log2 hn).2 (Nat.le_of_dvd (Nat.pos_of_ne_zero hn) h)
theorem cut_exact {neg : Bool} {way : Toward} {n d : Nat} (hn : n ≠ 0) (h : 2 ^ d ∣ n) : way.cut neg n d = n / 2 ^ d := by
  have h1 := log2_le_of_dvd hn h
  have h2 : min d (n.log2 + 2) = d := by omega
  have h3 : n % 2 ^ d = 0 := Nat.mod_eq_zero_of_dvd h; unfold Toward.cut; simp only [h2, Nat.one_shiftLeft, h3]; have hp : 0 < 2 ^ d := Nat.two_pow_pos d; cases way <;> simp <;> omega
namespace Format
variable (f : Format)
theorem read_word_sub {neg : Bool} {r : Nat} (h : r < f.binade) (hw : r < f.signWeight) : f.read (f.word neg r) = .number neg r f.leastPlace := by
  have e1 : f.word neg r % f.signWeight = r := by
    unfold word; cases neg
    · exact Nat.mod_eq_of_lt hw
    simp only [if_true]; rw [Nat.add_mod_left]; exact Nat.mod_eq_of_lt hw
  have e2 : (f.word neg r / f.signWeight % 2 == 1) = neg := by
    unfold word; have hp : 0 < f.signWeight := Nat.two_pow_pos _; cases neg
    · simp [Nat.div_eq_of_lt hw]
    simp only [if_true]; rw [Nat.add_div_left _ hp, Nat.div_eq_of_lt hw]; rfl
  unfold read; simp only [e1, e2, h, if_true]
theorem read_word_nor {neg : Bool} {r : Nat} (h : f.binade ≤ r) (hi : r < f.infRung) (hw : r < f.signWeight) : f.read (f.word neg r) = .number neg (f.binade + r % f.binade) (f.leastPlace + (r / f.binade - 1 : Nat)) := by
  have e1 : f.word neg r % f.signWeight = r := by
    unfold word; cases neg
    · exact Nat.mod_eq_of_lt hw
    simp only [if_true]; rw [Nat.add_mod_left]; exact Nat.mod_eq_of_lt hw
  have e2 : (f.word neg r / f.signWeight % 2 == 1) = neg := by
    unfold word; have hp : 0 < f.signWeight := Nat.two_pow_pos _; cases neg
    · simp [Nat.div_eq_of_lt hw]
    simp only [if_true]; rw [Nat.add_div_left _ hp, Nat.div_eq_of_lt hw]; rfl
  unfold read; simp only [e1, e2]; rw [if_neg (by omega), if_pos hi]
theorem infRung_sw : f.infRung < f.signWeight := by
  have h : 0 < 2 ^ f.exponentBits := Nat.two_pow_pos _; have hb : 0 < f.binade := Nat.two_pow_pos _
  have : f.infRung + f.binade = f.signWeight := by
    unfold infRung signWeight; rw [Nat.pow_add, ← Nat.succ_mul]; exact congrArg (· * f.binade) (by omega)
  omega
def lastOf (mag : Nat) (place : Int) : Int := max (place + mag.log2 - f.fractionBits) f.leastPlace
def keptOf (neg : Bool) (mag : Nat) (place : Int) : Nat := Toward.even.cut neg (mag <<< (place - f.lastOf mag place).toNat) (f.lastOf mag place - place).toNat
theorem read_nearest {neg : Bool} {mag : Nat} {place : Int} (hm : mag ≠ 0) {k : Nat} (hk : f.keptOf neg mag place = k) (hk2 : k < 2 * f.binade) (hsub : f.lastOf mag place = f.leastPlace ∨ f.binade ≤ k)
    (hfin : (f.lastOf mag place - f.leastPlace).toNat * f.binade + k < f.infRung) : f.read (f.nearest neg mag place) = .number neg k (f.lastOf mag place) := by
  have hl : f.leastPlace ≤ f.lastOf mag place := by unfold lastOf; omega
  have hb : 0 < f.binade := Nat.two_pow_pos _; have hsw := f.infRung_sw
  have hn : f.nearest neg mag place = f.word neg ((f.lastOf mag place - f.leastPlace).toNat * f.binade + k) := by
    unfold nearest; rw [if_neg hm]; show f.word neg (min ((f.lastOf mag place - f.leastPlace).toNat * f.binade + f.keptOf neg mag place) f.infRung) = _; rw [hk, Nat.min_eq_left (by omega)]
  rw [hn]; generalize hL : f.lastOf mag place = L at *; obtain ⟨d, rfl⟩ : ∃ d : Nat, L = f.leastPlace + d := ⟨(L - f.leastPlace).toNat, by omega⟩
  have e0 : (f.leastPlace + (d : Int) - f.leastPlace).toNat = d := by omega
  rw [e0] at hfin ⊢; by_cases hkb : k < f.binade
  · have hd : d = 0 := by rcases hsub with h | h <;> omega
    subst hd; rw [Nat.zero_mul, Nat.zero_add] at hfin ⊢; rw [f.read_word_sub hkb (by omega)]; simp
  have h1 : f.binade ≤ d * f.binade + k := by have := Nat.zero_le (d * f.binade); omega
  rw [f.read_word_nor h1 hfin (by omega)]
  have e1 : (d * f.binade + k) % f.binade = k - f.binade := by
    rw [Nat.add_comm, Nat.add_mul_mod_self_right, show k = (k - f.binade) + f.binade by omega, Nat.add_mod_right, Nat.mod_eq_of_lt (by omega)]; omega
  have e2 : (d * f.binade + k) / f.binade = d + 1 := by
    rw [Nat.add_comm, Nat.add_mul_div_right _ _ hb, show k = (k - f.binade) + f.binade by omega, Nat.add_div_right _ hb, Nat.div_eq_of_lt (by omega)]; omega
  rw [e1, e2]; congr 1; omega
theorem log2_mul_two_pow {c k : Nat} (hc : c ≠ 0) : (c * 2 ^ k).log2 = c.log2 + k := by
  have hp : 0 < 2 ^ k := Nat.two_pow_pos k; refine (Nat.log2_eq_iff (Nat.mul_ne_zero hc (by omega))).2 ⟨?_, ?_⟩
  · rw [Nat.pow_add]; exact Nat.mul_le_mul_right _ (Nat.log2_self_le hc)
  rw [show c.log2 + k + 1 = (c.log2 + 1) + k by omega, Nat.pow_add]; exact Nat.mul_lt_mul_of_pos_right (Nat.lt_log2_self) hp
theorem write_exact {neg : Bool} {mag c : Nat} {place q base : Int} (hm : mag ≠ 0) (hb1 : base ≤ place) (hb2 : base ≤ q) (hq : f.leastPlace ≤ q) (hc : c < 2 ^ (f.fractionBits + 1)) (heq : mag * 2 ^ (place - base).toNat = c * 2 ^ (q - base).toNat)
    (hfin : (q - f.leastPlace).toNat + 2 ≤ 2 ^ f.exponentBits - 1) : ∃ m p, f.read (f.nearest neg mag place) = .number neg m p ∧ f.leastPlace ≤ p ∧ m ≠ 0 ∧ m * 2 ^ (p - f.leastPlace).toNat = c * 2 ^ (q - f.leastPlace).toNat := by
  have hc0 : c ≠ 0 := by
    rintro rfl; rw [Nat.zero_mul] at heq; have hp : 0 < 2 ^ (place - base).toNat := Nat.two_pow_pos _; rcases Nat.mul_eq_zero.1 heq with h | h
    · exact hm h
    omega
  have hlog : mag.log2 + (place - base).toNat = c.log2 + (q - base).toNat := by
    rw [← log2_mul_two_pow hm, ← log2_mul_two_pow hc0, heq]
  have hcl : c.log2 ≤ f.fractionBits := by
    have := (Nat.log2_lt hc0).2 hc; omega
  obtain ⟨L, hL⟩ : ∃ L, f.lastOf mag place = L := ⟨_, rfl⟩
  have hLq : L ≤ q := by rw [← hL]; unfold lastOf; omega
  have hLl : f.leastPlace ≤ L := by rw [← hL]; unfold lastOf; omega
  have hLn : place + mag.log2 - f.fractionBits ≤ L := by rw [← hL]; unfold lastOf; omega
  have hLc : L = f.leastPlace ∨ L = place + mag.log2 - f.fractionBits := by rw [← hL]; unfold lastOf; omega
  -- what is kept is c * 2 ^ (q - L)
  have hkept : f.keptOf neg mag place = c * 2 ^ (q - L).toNat := by
    unfold keptOf; rw [hL]; by_cases hle : L ≤ place
    · have e1 : (L - place).toNat = 0 := by omega
      rw [e1, cut_zero, Nat.shiftLeft_eq]
      have hbL : min base L ≤ L := by omega
      have hp : 0 < 2 ^ (L - min base L).toNat := Nat.two_pow_pos _
      -- both sides times 2 ^ (L - b)
      have h1 : mag * 2 ^ (place - min base L).toNat = c * 2 ^ (q - min base L).toNat := by
        have e2 : (place - min base L).toNat = (place - base).toNat + (base - min base L).toNat := by omega
        have e3 : (q - min base L).toNat = (q - base).toNat + (base - min base L).toNat := by omega
        rw [e2, e3, Nat.pow_add, Nat.pow_add, ← Nat.mul_assoc, ← Nat.mul_assoc, heq]
      refine Nat.eq_of_mul_eq_mul_right hp ?_; rw [Nat.mul_assoc, Nat.mul_assoc, ← Nat.pow_add, ← Nat.pow_add]; rw [show (place - L).toNat + (L - min base L).toNat = (place - min base L).toNat by omega, show (q - L).toNat + (L - min base L).toNat = (q - min base L).toNat by omega]; exact h1
    have e1 : (place - L).toNat = 0 := by omega
    rw [e1, Nat.shiftLeft_zero]; have hbase : base ≤ place := hb1
    have hmag : mag = c * 2 ^ (q - place).toNat := by
      have hp : 0 < 2 ^ (place - base).toNat := Nat.two_pow_pos _; refine Nat.eq_of_mul_eq_mul_right hp ?_; rw [heq, Nat.mul_assoc, ← Nat.pow_add, show (q - place).toNat + (place - base).toNat = (q - base).toNat by omega]
    have hd : 2 ^ (L - place).toNat ∣ mag := by
      rw [hmag, show (q - place).toNat = (q - L).toNat + (L - place).toNat by omega, Nat.pow_add, ← Nat.mul_assoc]; exact Nat.dvd_mul_left _ _
    rw [cut_exact hm hd]; refine Nat.div_eq_of_eq_mul_left (Nat.two_pow_pos _) ?_; rw [hmag, Nat.mul_assoc, ← Nat.pow_add, show (q - L).toNat + (L - place).toNat = (q - place).toNat by omega]
  have hkl : (c * 2 ^ (q - L).toNat).log2 ≤ f.fractionBits := by
    rw [log2_mul_two_pow hc0]; omega
  have hk0 : c * 2 ^ (q - L).toNat ≠ 0 := by
    have := Nat.two_pow_pos (q - L).toNat; exact Nat.mul_ne_zero hc0 (by omega)
  have hkb : c * 2 ^ (q - L).toNat < 2 * f.binade := by
    have := (Nat.log2_lt hk0).1 (show (c * 2 ^ (q - L).toNat).log2 < f.fractionBits + 1 by omega); rw [Nat.pow_succ] at this; unfold binade; omega
  have hsub : f.lastOf mag place = f.leastPlace ∨ f.binade ≤ c * 2 ^ (q - L).toNat := by
    rw [hL]; rcases hLc with h | h
    · exact .inl h
    refine .inr ?_; unfold binade; refine (Nat.le_log2 hk0).1 ?_; rw [log2_mul_two_pow hc0]; omega
  have hfin2 : (f.lastOf mag place - f.leastPlace).toNat * f.binade + c * 2 ^ (q - L).toNat < f.infRung := by
    rw [hL]; unfold infRung
    have h1 : (L - f.leastPlace).toNat * f.binade + 2 * f.binade ≤ (2 ^ f.exponentBits - 1) * f.binade := by
      rw [← Nat.add_mul]; exact Nat.mul_le_mul_right _ (by omega)
    omega
  refine ⟨_, L, by have := f.read_nearest (neg := neg) hm hkept hkb hsub hfin2; rw [hL] at this; exact this, hLl, hk0, ?_⟩; rw [Nat.mul_assoc, ← Nat.pow_add, show (q - L).toNat + (L - f.leastPlace).toNat = (q - f.leastPlace).toNat by omega]
end Format
end Ieee
namespace Ieee
def sg (s : Bool) (r : Nat) : Int := if s then -(r : Int) else r
theorem signed_eq (s : Bool) (m k : Nat) : signed s m k = sg s (m * 2 ^ k) := by
  unfold signed sg; rw [Nat.shiftLeft_eq]
theorem sg_mul (s : Bool) (a b : Nat) : sg s (a * b) = sg s a * b := by
  unfold sg; cases s <;> simp [Int.neg_mul]
theorem sg_prod (s t : Bool) (a b : Nat) : sg s a * sg t b = sg (s ^^ t) (a * b) := by
  unfold sg; cases s <;> cases t <;> simp [Int.neg_mul, Int.mul_neg]
theorem sg_natAbs (s : Bool) (a : Nat) : (sg s a).natAbs = a := by unfold sg; cases s <;> simp
theorem sg_zero (s : Bool) : sg s 0 = 0 := by unfold sg; cases s <;> rfl
namespace Format
variable (f : Format)
def units (x : Nat) : Option Int := match f.read x with
  | .number s m p => some (sg s (m * 2 ^ (p - f.leastPlace).toNat))
  | _ => none
def Rep (r : Nat) : Prop := ∃ c k, r = c * 2 ^ k ∧ c < 2 ^ (f.fractionBits + 1) ∧ k + 2 ≤ 2 ^ f.exponentBits - 1
variable {f}
theorem units_inv {x : Nat} {u : Int} (h : f.units x = some u) : ∃ s m p, f.read x = .number s m p ∧ f.leastPlace ≤ p ∧ u = sg s (m * 2 ^ (p - f.leastPlace).toNat) := by
  unfold units at h; split at h
  · rename_i s m p hr; refine ⟨s, m, p, hr, ?_, (Option.some.inj h).symm⟩; unfold read at hr; dsimp only at hr; split at hr
    · cases hr; omega
    split at hr
    · cases hr; omega
    split at hr <;> cases hr
  cases h
theorem units_none {x : Nat} (h : f.units x = none) : (∃ s, f.read x = .infinity s) ∨ ∃ s t, f.read x = .nan s t := by
  unfold units at h; split at h
  · cases h
  rename_i hn
  cases hr : f.read x with
  | number s m p => exact absurd hr (hn s m p)
  | infinity s => exact .inl ⟨s, rfl⟩
  | nan s t => exact .inr ⟨s, t, rfl⟩
theorem sub_zero_place (p : Int) : (p - p).toNat = 0 := by omega
theorem write_units {s : Bool} {m r : Nat} {p : Int} (base : Int) (hb1 : base ≤ p) (hb2 : base ≤ f.leastPlace) (heq : m * 2 ^ (p - base).toNat = r * 2 ^ (f.leastPlace - base).toNat) (hr : f.Rep r) (hg : 0 < f.exponentBits ∧ 0 < f.fractionBits) :
    f.units (f.write (.number s m p)) = some (sg s r) := by
  have hp1 : 0 < 2 ^ (p - base).toNat := Nat.two_pow_pos _; have hp2 : 0 < 2 ^ (f.leastPlace - base).toNat := Nat.two_pow_pos _; by_cases hm : m = 0
  · subst hm
    have h0 : r = 0 := by
      rw [Nat.zero_mul] at heq; rcases Nat.mul_eq_zero.1 heq.symm with h | h
      · exact h
      omega
    subst h0; have hbin : 0 < f.binade := Nat.two_pow_pos _; have hsw : 0 < f.signWeight := Nat.two_pow_pos _
    have : f.read (f.write (.number s 0 p)) = .number s 0 f.leastPlace := by
      show f.read (f.nearest s 0 p) = _; unfold nearest; rw [if_pos rfl]; exact f.read_word_sub hbin hsw
    unfold units; rw [this]; simp
  obtain ⟨c, k, rfl, hc, hk⟩ := hr
  have heq2 : m * 2 ^ (p - base).toNat = c * 2 ^ ((f.leastPlace + k) - base).toNat := by
    rw [heq, Nat.mul_assoc, ← Nat.pow_add]; congr 2; omega
  obtain ⟨m', p', h1, h2, h3, h4⟩ := f.write_exact (neg := s) hm hb1 (show base ≤ f.leastPlace + k by omega) (by omega) hc heq2 (by omega); unfold units; show (match f.read (f.nearest s m p) with | .number s m p => some (sg s (m * 2 ^ (p - f.leastPlace).toNat)) | _ => none) = _; rw [h1]; simp only; rw [h4]; congr 4; omega
theorem order_units {x y : Nat} {u v : Int} (hx : f.units x = some u) (hy : f.units y = some v) : f.order x y = some (compare u v) := by
  obtain ⟨s, m, p, h1, h2, rfl⟩ := units_inv hx; obtain ⟨t, n, q, h3, h4, rfl⟩ := units_inv hy; unfold order; rw [h1, h3]; unfold Datum.order; simp only; rw [signed_eq, signed_eq]; congr 1
  have hb : f.leastPlace ≤ min p q := by omega
  have e1 : sg s (m * 2 ^ (p - f.leastPlace).toNat) = sg s (m * 2 ^ (p - min p q).toNat) * ((2 ^ (min p q - f.leastPlace).toNat : Nat) : Int) := by
    rw [← sg_mul, Nat.mul_assoc, ← Nat.pow_add]; congr 3; omega
  have e2 : sg t (n * 2 ^ (q - f.leastPlace).toNat) = sg t (n * 2 ^ (q - min p q).toNat) * ((2 ^ (min p q - f.leastPlace).toNat : Nat) : Int) := by
    rw [← sg_mul, Nat.mul_assoc, ← Nat.pow_add]; congr 3; omega
  rw [e1, e2]
  have hp : (0 : Int) < ((2 ^ (min p q - f.leastPlace).toNat : Nat) : Int) := by have := Nat.two_pow_pos (min p q - f.leastPlace).toNat; omega
  generalize sg s (m * 2 ^ (p - min p q).toNat) = a; generalize sg t (n * 2 ^ (q - min p q).toNat) = b; generalize ((2 ^ (min p q - f.leastPlace).toNat : Nat) : Int) = k at hp; show compareOfLessAndEq a b = compareOfLessAndEq (a * k) (b * k); unfold compareOfLessAndEq; have h1 : a < b ↔ a * k < b * k := (Int.mul_lt_mul_right hp).symm; have h2 : a = b ↔ a * k = b * k := ⟨fun h => by rw [h], fun h => Int.eq_of_mul_eq_mul_right (by omega) h⟩; by_cases h3 : a < b
  · rw [if_pos h3, if_pos (h1.1 h3)]
  rw [if_neg h3, if_neg (fun h => h3 (h1.2 h))]; by_cases h4 : a = b
  · rw [if_pos h4, if_pos (h2.1 h4)]
  rw [if_neg h4, if_neg (fun h => h4 (h2.2 h))]
end Format
end Ieee
namespace Ieee
namespace Format
variable {f g : Format}
theorem sg_neg_of (t : Int) (h : t ≠ 0) : sg (decide (t < 0)) t.natAbs = t := by
  unfold sg; by_cases h1 : t < 0
  · rw [if_pos (by simpa using h1)]; omega
  rw [if_neg (by simpa using h1)]; omega
theorem sg_zero_of (s : Bool) {t : Int} (h : t = 0) : sg s t.natAbs = t := by
  subst h; simp [sg_zero]
theorem mul_exact {x y : Nat} {u v r : Int} (hx : f.units x = some u) (hy : f.units y = some v) (hl : f.leastPlace ≤ 0) (h : u * v = r * (2 ^ (-f.leastPlace).toNat : Nat)) (hr : f.Rep r.natAbs) (hg : 0 < f.exponentBits ∧ 0 < f.fractionBits) :
    ∃ w, f.mul x y = some w ∧ f.units w = some r := by
  obtain ⟨s, m, p, h1, h2, rfl⟩ := units_inv hx; obtain ⟨t, n, q, h3, h4, rfl⟩ := units_inv hy; unfold mul; rw [h1, h3]; refine ⟨_, rfl, ?_⟩; have hk := congrArg Int.natAbs h; rw [sg_prod, sg_natAbs, Int.natAbs_mul, Int.natAbs_natCast] at hk
  have hb : 2 * f.leastPlace ≤ p + q := by omega
  rw [write_units (r := r.natAbs) (2 * f.leastPlace) hb (by omega) ?_ hr hg]
  · congr 1
    have hs : sg (s ^^ t) (m * 2 ^ (p - f.leastPlace).toNat * (n * 2 ^ (q - f.leastPlace).toNat)) = r * (2 ^ (-f.leastPlace).toNat : Nat) := by rw [← sg_prod, h]
    have hpos : (0 : Int) < ((2 ^ (-f.leastPlace).toNat : Nat) : Int) := by have := Nat.two_pow_pos (-f.leastPlace).toNat; omega
    rw [hk, sg_mul] at hs; exact Int.eq_of_mul_eq_mul_right (by omega) hs
  rw [show (p + q - 2 * f.leastPlace).toNat = (p - f.leastPlace).toNat + (q - f.leastPlace).toNat by omega, show (f.leastPlace - 2 * f.leastPlace).toNat = (-f.leastPlace).toNat by omega, ← hk, Nat.pow_add]; simp only [Nat.mul_comm, Nat.mul_left_comm, Nat.mul_assoc]
theorem sum_units {x y : Nat} {u v : Int} (hx : f.units x = some u) (hy : f.units y = some v) : ∃ s m p, (f.read x).sum (f.read y) = some (.number s m p) ∧ f.leastPlace ≤ p ∧ sg s (m * 2 ^ (p - f.leastPlace).toNat) = u + v := by
  obtain ⟨s, m, p, h1, h2, rfl⟩ := units_inv hx; obtain ⟨t, n, q, h3, h4, rfl⟩ := units_inv hy; rw [h1, h3]; refine ⟨_, _, _, rfl, by omega, ?_⟩; rw [signed_eq, signed_eq]
  have e1 : sg s (m * 2 ^ (p - f.leastPlace).toNat) = sg s (m * 2 ^ (p - min p q).toNat) * ((2 ^ (min p q - f.leastPlace).toNat : Nat) : Int) := by
    rw [← sg_mul, Nat.mul_assoc, ← Nat.pow_add]; congr 3; omega
  have e2 : sg t (n * 2 ^ (q - f.leastPlace).toNat) = sg t (n * 2 ^ (q - min p q).toNat) * ((2 ^ (min p q - f.leastPlace).toNat : Nat) : Int) := by
    rw [← sg_mul, Nat.mul_assoc, ← Nat.pow_add]; congr 3; omega
  rw [e1, e2, ← Int.add_mul]; generalize sg s (m * 2 ^ (p - min p q).toNat) + sg t (n * 2 ^ (q - min p q).toNat) = T; rw [sg_mul]; congr 1; by_cases hT : T = 0
  · rw [if_pos hT]; exact sg_zero_of _ hT
  rw [if_neg hT]; exact sg_neg_of T hT
theorem add_exact {x y : Nat} {u v r : Int} (hx : f.units x = some u) (hy : f.units y = some v) (h : u + v = r) (hr : f.Rep r.natAbs) (hg : 0 < f.exponentBits ∧ 0 < f.fractionBits) : ∃ w, f.add x y = some w ∧ f.units w = some r := by
  obtain ⟨s, m, p, h1, h2, h3⟩ := sum_units hx hy; unfold add; rw [h1]; refine ⟨_, rfl, ?_⟩
  have hk : m * 2 ^ (p - f.leastPlace).toNat = r.natAbs := by
    rw [← h, ← h3, sg_natAbs]
  rw [write_units (r := r.natAbs) f.leastPlace h2 (Int.le_refl _) (by rw [hk, sub_zero_place]; simp) hr hg, ← hk, h3, h]
theorem opp_read {y : Nat} {v : Int} (hy : f.units y = some v) : ∃ s m p, (f.read y).opposite = .number s m p ∧ f.leastPlace ≤ p ∧ sg s (m * 2 ^ (p - f.leastPlace).toNat) = -v := by
  obtain ⟨t, n, q, h3, h4, rfl⟩ := units_inv hy; rw [h3]; refine ⟨_, _, _, rfl, h4, ?_⟩; unfold sg; cases t <;> simp
theorem sub_exact {x y : Nat} {u v r : Int} (hx : f.units x = some u) (hy : f.units y = some v) (h : u - v = r) (hr : f.Rep r.natAbs) (hg : 0 < f.exponentBits ∧ 0 < f.fractionBits) : ∃ w, f.sub x y = some w ∧ f.units w = some r := by
  obtain ⟨s, m, p, h1, h2, rfl⟩ := units_inv hx; obtain ⟨t, n, q, h3, h4, h5⟩ := opp_read hy; unfold sub; rw [h1, h3]; refine ⟨_, rfl, ?_⟩
  have e1 : sg s (m * 2 ^ (p - f.leastPlace).toNat) = sg s (m * 2 ^ (p - min p q).toNat) * ((2 ^ (min p q - f.leastPlace).toNat : Nat) : Int) := by
    rw [← sg_mul, Nat.mul_assoc, ← Nat.pow_add]; congr 3; omega
  have e2 : sg t (n * 2 ^ (q - f.leastPlace).toNat) = sg t (n * 2 ^ (q - min p q).toNat) * ((2 ^ (min p q - f.leastPlace).toNat : Nat) : Int) := by
    rw [← sg_mul, Nat.mul_assoc, ← Nat.pow_add]; congr 3; omega
  have hT : (signed s m (p - min p q).toNat + signed t n (q - min p q).toNat) * ((2 ^ (min p q - f.leastPlace).toNat : Nat) : Int) = r := by
    rw [signed_eq, signed_eq, Int.add_mul, ← e1, ← e2, h5, ← h]; omega
  generalize signed s m (p - min p q).toNat + signed t n (q - min p q).toNat = T at hT ⊢
  have hk : T.natAbs * 2 ^ (min p q - f.leastPlace).toNat = r.natAbs := by
    rw [← hT, Int.natAbs_mul, Int.natAbs_natCast]
  rw [write_units (r := r.natAbs) f.leastPlace (by omega) (Int.le_refl _) (by rw [hk, sub_zero_place]; simp) hr hg, ← hk, sg_mul, ← hT]; congr 2; by_cases hT : T = 0
  · rw [if_pos hT]; exact sg_zero_of _ hT
  rw [if_neg hT]; exact sg_neg_of T hT
theorem sub_self_none {x : Nat} (hx : f.units x = none) : f.sub x x = none := by
  unfold sub; rcases units_none hx with ⟨s, h⟩ | ⟨s, t, h⟩ <;> rw [h]
  · cases s <;> rfl
  rfl
theorem toInt_units {x : Nat} {u : Int} (hx : f.units x = some u) (hl : f.leastPlace ≤ 0) : (f.read x).toInt .zero = some (u.tdiv (2 ^ (-f.leastPlace).toNat : Nat)) := by
  obtain ⟨s, m, p, h1, h2, rfl⟩ := units_inv hx; rw [h1]; show some (signed s (Toward.zero.cut s (m <<< p.toNat) (-p).toNat) 0) = _; congr 1; rw [signed_eq, Nat.pow_zero, Nat.mul_one]
  have hcut : Toward.zero.cut s (m <<< p.toNat) (-p).toNat = (m * 2 ^ p.toNat) / 2 ^ (-p).toNat := by
    rw [Nat.shiftLeft_eq]; generalize m * 2 ^ p.toNat = M; unfold Toward.cut; simp only [Nat.one_shiftLeft, Bool.toNat_false, Nat.add_zero]; by_cases hle : (-p).toNat ≤ M.log2 + 2
    · rw [Nat.min_eq_left hle]
    rw [Nat.min_eq_right (by omega)]; have hM : M < 2 ^ (M.log2 + 2) := Nat.lt_trans (Nat.lt_log2_self) (Nat.pow_lt_pow_right (by omega) (by omega)); rw [Nat.div_eq_of_lt hM, Nat.div_eq_of_lt (Nat.lt_of_lt_of_le hM (Nat.pow_le_pow_right (by omega) (by omega)))]
  rw [hcut]
  have hdiv : m * 2 ^ (p - f.leastPlace).toNat / 2 ^ (-f.leastPlace).toNat = m * 2 ^ p.toNat / 2 ^ (-p).toNat := by
    by_cases hp : 0 ≤ p
    · rw [show (p - f.leastPlace).toNat = p.toNat + (-f.leastPlace).toNat by omega, Nat.pow_add, ← Nat.mul_assoc, Nat.mul_div_cancel _ (Nat.two_pow_pos _), show (-p).toNat = 0 by omega]; simp
    rw [show (-f.leastPlace).toNat = (-p).toNat + (p - f.leastPlace).toNat by omega, Nat.pow_add, Nat.mul_div_mul_right _ _ (Nat.two_pow_pos _), show p.toNat = 0 by omega]; simp
  rw [← hdiv]; generalize m * 2 ^ (p - f.leastPlace).toNat = a; unfold sg
  cases s with
  | false => simp
  | true => simp [Int.neg_tdiv]
theorem ofInt_units {n : Int} (hl : f.leastPlace ≤ 0) (hr : f.Rep (n.natAbs * 2 ^ (-f.leastPlace).toNat)) (hg : 0 < f.exponentBits ∧ 0 < f.fractionBits) : f.units (f.write (.number (n < 0) n.natAbs 0)) = some (n * (2 ^ (-f.leastPlace).toNat : Nat)) := by
  rw [write_units (r := n.natAbs * 2 ^ (-f.leastPlace).toNat) f.leastPlace hl (Int.le_refl _) (by rw [sub_zero_place, show (0 - f.leastPlace).toNat = (-f.leastPlace).toNat by omega]; simp) hr hg, sg_mul]; congr 2; by_cases h : n = 0
  · subst h; rfl
  exact sg_neg_of n h
theorem widen_units {x : Nat} {u : Int} (hx : f.units x = some u) (hle : g.leastPlace ≤ f.leastPlace) (hr : g.Rep (u.natAbs * 2 ^ (f.leastPlace - g.leastPlace).toNat)) (hg : 0 < g.exponentBits ∧ 0 < g.fractionBits) : g.units (g.write (f.read x)) = some (u * (2 ^ (f.leastPlace - g.leastPlace).toNat : Nat)) := by
  obtain ⟨s, m, p, h1, h2, rfl⟩ := units_inv hx; rw [h1]; rw [sg_natAbs] at hr; rw [write_units (r := m * 2 ^ (p - f.leastPlace).toNat * 2 ^ (f.leastPlace - g.leastPlace).toNat) g.leastPlace (by omega) (Int.le_refl _) ?_ hr hg, sg_mul]; rw [sub_zero_place, Nat.pow_zero, Nat.mul_one, Nat.mul_assoc, ← Nat.pow_add]; congr 2; omega
theorem floor_units {x : Nat} {u : Int} (hx : f.units x = some u) (hl : f.leastPlace ≤ 0) (hr : f.Rep (u.fdiv (2 ^ (-f.leastPlace).toNat : Nat) * (2 ^ (-f.leastPlace).toNat : Nat)).natAbs) (hg : 0 < f.exponentBits ∧ 0 < f.fractionBits) :
    f.units (f.write ((f.read x).integral .down)) = some (u.fdiv (2 ^ (-f.leastPlace).toNat : Nat) * (2 ^ (-f.leastPlace).toNat : Nat)) := by
  obtain ⟨s, m, p, h1, h2, rfl⟩ := units_inv hx; rw [h1]; show f.units (f.write (.number s (Toward.down.cut s (m <<< p.toNat) (-p).toNat) 0)) = _
  have hcut : sg s (Toward.down.cut s (m <<< p.toNat) (-p).toNat) = (sg s (m * 2 ^ (p - f.leastPlace).toNat)).fdiv (2 ^ (-f.leastPlace).toNat : Nat) := by
    have key : ∀ (M d : Nat), sg s (Toward.down.cut s M d) = (sg s M).fdiv (2 ^ d : Nat) := by
      intro M d
      have hsmall : Toward.down.cut s M d = M / 2 ^ d + (s && decide (M % 2 ^ d ≠ 0)).toNat := by
        unfold Toward.cut; simp only [Nat.one_shiftLeft]; by_cases hle : d ≤ M.log2 + 2
        · rw [Nat.min_eq_left hle]; congr 2; cases s <;> first | rfl | (by_cases hz : M % 2 ^ d = 0 <;> simp [hz])
        rw [Nat.min_eq_right (by omega)]; have hM : M < 2 ^ (M.log2 + 2) := Nat.lt_trans (Nat.lt_log2_self) (Nat.pow_lt_pow_right (by omega) (by omega)); have hM2 : M < 2 ^ d := Nat.lt_of_lt_of_le hM (Nat.pow_le_pow_right (by omega) (by omega)); rw [Nat.div_eq_of_lt hM, Nat.div_eq_of_lt hM2, Nat.mod_eq_of_lt hM, Nat.mod_eq_of_lt hM2]; congr 2; cases s <;> first | rfl | (by_cases hz : M = 0 <;> simp [hz])
      rw [hsmall]; have hp : 0 < 2 ^ d := Nat.two_pow_pos d; generalize 2 ^ d = D at hp; unfold sg
      cases s with
      | false =>
        simp only [Bool.false_and, Bool.toNat_false, Nat.add_zero, Bool.false_eq_true, if_false]
        rw [Int.fdiv_eq_ediv_of_nonneg _ (by omega)]; rfl
      | true =>
        simp only [Bool.true_and, if_true]; rw [Int.fdiv_eq_ediv_of_nonneg _ (by omega)]; have hd := Nat.div_add_mod M D; have hm := Nat.mod_lt M hp; by_cases hz : M % D = 0
        · rw [show decide (M % D ≠ 0) = false by simpa using hz]; rw [Bool.toNat_false, Nat.add_zero]; refine (Int.ediv_eq_of_eq_mul_left (by omega) ?_).symm
          have : M = D * (M / D) := by omega
          have h3 : ((M : Nat) : Int) = (D : Int) * ((M / D : Nat) : Int) := by rw [← Int.natCast_mul, ← this]
          rw [h3, Int.neg_mul, Int.mul_comm]
        rw [show decide (M % D ≠ 0) = true by simpa using hz]; rw [Bool.toNat_true]
        have h3 : ((M : Nat) : Int) = (D : Int) * ((M / D : Nat) : Int) + ((M % D : Nat) : Int) := by rw [← Int.natCast_mul, ← Int.natCast_add, hd]
        have h4 : (-(M : Int)) = ((D : Int) - ((M % D : Nat) : Int)) + (D : Int) * (-(((M / D + 1 : Nat)) : Int)) := by
          rw [h3, Int.natCast_add, Int.mul_neg, Int.mul_add]; simp; omega
        rw [h4, Int.add_mul_ediv_left _ _ (by omega), Int.ediv_eq_zero_of_lt (by omega) (by omega)]; omega
    rw [key, Nat.shiftLeft_eq]; by_cases hp : 0 ≤ p
    · rw [show (p - f.leastPlace).toNat = p.toNat + (-f.leastPlace).toNat by omega, Nat.pow_add, ← Nat.mul_assoc, show (-p).toNat = 0 by omega, sg_mul s (m * 2 ^ p.toNat)]
      have hq : (0 : Int) < ((2 ^ (-f.leastPlace).toNat : Nat) : Int) := by have := Nat.two_pow_pos (-f.leastPlace).toNat; omega
      rw [Int.mul_fdiv_cancel _ (by omega)]; simp
    rw [show (-f.leastPlace).toNat = (-p).toNat + (p - f.leastPlace).toNat by omega, Nat.pow_add, show p.toNat = 0 by omega, Nat.pow_zero, Nat.mul_one, sg_mul s m, Int.natCast_mul]
    have hq : (0 : Int) < ((2 ^ (p - f.leastPlace).toNat : Nat) : Int) := by have := Nat.two_pow_pos (p - f.leastPlace).toNat; omega
    have hq2 : (0 : Int) < ((2 ^ (-p).toNat : Nat) : Int) := by have := Nat.two_pow_pos (-p).toNat; omega
    rw [Int.fdiv_eq_ediv_of_nonneg _ (by omega), Int.fdiv_eq_ediv_of_nonneg _ (by have := Int.mul_pos hq2 hq; omega), Int.mul_ediv_mul_of_pos_left _ _ hq]
  rw [← hcut] at hr ⊢; rw [← sg_mul, sg_natAbs] at hr; rw [write_units (r := Toward.down.cut s (m <<< p.toNat) (-p).toNat * 2 ^ (-f.leastPlace).toNat) f.leastPlace hl (Int.le_refl _) (by rw [sub_zero_place, show (0 - f.leastPlace).toNat = (-f.leastPlace).toNat by omega]; simp) hr hg, sg_mul]
end Format
end Ieee
namespace Ieee
open Format
theorem sng_good : 0 < single.exponentBits ∧ 0 < single.fractionBits := by decide
theorem dbl_good : 0 < double.exponentBits ∧ 0 < double.fractionBits := by decide
theorem units_repr {f : Format} {x : Nat} {u : Int} (h : f.units x = some u) : ∃ c k, u.natAbs = c * 2 ^ k ∧ c < 2 ^ (f.fractionBits + 1) ∧ (c = 0 → k = 0) := by
  obtain ⟨s, m, p, h1, h2, rfl⟩ := units_inv h
  have hm : m < 2 ^ (f.fractionBits + 1) := by
    have hb : 0 < f.binade := Nat.two_pow_pos _
    have h2b : 2 ^ (f.fractionBits + 1) = 2 * f.binade := by rw [Nat.pow_succ, Nat.mul_comm]; rfl
    rw [h2b]; unfold Format.read at h1; dsimp only at h1; split at h1
    · cases h1; omega
    split at h1
    · cases h1; have := Nat.mod_lt (x % f.signWeight) hb; omega
    split at h1 <;> cases h1
  rw [sg_natAbs]; by_cases h0 : m = 0
  · exact ⟨0, 0, by rw [h0]; simp, Nat.two_pow_pos _, fun _ => rfl⟩
  exact ⟨m, _, rfl, hm, fun e => absurd e h0⟩
theorem rep_of {f g : Format} {x : Nat} {u : Int} (h : f.units x = some u) (hle : f.fractionBits ≤ g.fractionBits) {B j : Nat} (hB : u.natAbs ≤ 2 ^ B) (hj : B + j + 2 ≤ 2 ^ g.exponentBits - 1) : g.Rep (u.natAbs * 2 ^ j) := by
  obtain ⟨c, k, h1, h2, h3⟩ := units_repr h; by_cases h0 : c = 0
  · refine ⟨0, 0, by rw [h1, h0]; simp, Nat.two_pow_pos _, by omega⟩
  refine ⟨c, k + j, by rw [h1, Nat.mul_assoc, ← Nat.pow_add], Nat.lt_of_lt_of_le h2 (Nat.pow_le_pow_right (by omega) (by omega)), ?_⟩
  have hk : k ≤ B := by
    have : 2 ^ k ≤ 2 ^ B := by
      refine Nat.le_trans ?_ hB; rw [h1]; exact Nat.le_mul_of_pos_left _ (by omega)
    exact (Nat.pow_le_pow_iff_right (by omega)).1 this
  omega
theorem rep_small {f : Format} {n j : Nat} (hn : n < 2 ^ (f.fractionBits + 1)) (hj : j + 2 ≤ 2 ^ f.exponentBits - 1) : f.Rep (n * 2 ^ j) := ⟨n, j, rfl, hn, hj⟩
abbrev u32 (x : Nat) : Option Int := single.units x
abbrev u64 (x : Nat) : Option Int := double.units x
theorem m149 : (2 ^ (-single.leastPlace).toNat : Nat) = 713623846352979940529142984724747568191373312 := by decide
def lvlE (x : Nat) : Int := match u32 x with
  | none => 1
  | some u => if (-45671926166590716193865151022383844364247891968 ≤ u ∧ u ≤ 45671926166590716193865151022383844364247891968) ∧ u % 44601490397061246283071436545296723011960832 = 0 then 0 else 3
def sxE (x : Nat) : Int := match u32 x with
  | none => 0
  | some u => u / 44601490397061246283071436545296723011960832
theorem lvl_ok {x : Nat} (h : lvlE x = 0) : u32 x = some (sxE x * 44601490397061246283071436545296723011960832) ∧ -1024 ≤ sxE x ∧ sxE x ≤ 1024 := by
  unfold lvlE at h; split at h
  · cases h
  rename_i u hu; split at h
  · rename_i hc; unfold sxE; rw [hu]; simp only; have hd := Int.mul_ediv_add_emod u 44601490397061246283071436545296723011960832; refine ⟨?_, by omega, by omega⟩; congr 1; omega
  cases h
theorem lvl_of {x : Nat} {n : Int} (h : u32 x = some (n * 44601490397061246283071436545296723011960832)) (h0 : -1024 ≤ n) (h1 : n ≤ 1024) : lvlE x = 0 ∧ sxE x = n := by
  unfold lvlE sxE; rw [h]; simp only; refine ⟨?_, ?_⟩
  · rw [if_pos]; exact ⟨by omega, by rw [Int.mul_emod_left]⟩
  rw [Int.mul_ediv_cancel _ (by decide)]
theorem mul16 {x w : Nat} {u : Int} (hw : u32 w = some (16 * 713623846352979940529142984724747568191373312)) (h : u32 x = some u) (h0 : u.natAbs ≤ 45671926166590716193865151022383844364247891968) : ∃ r, single.mul x w = some r ∧ u32 r = some (16 * u) := by
  refine mul_exact h hw (by decide) ?_ ?_ sng_good
  · rw [m149, Int.mul_comm 16 u, Int.mul_assoc]; rfl
  have := rep_of (g := single) h (Nat.le_refl _) (B := 155) (j := 4) (Nat.le_trans h0 (by decide)) (by decide)
  rwa [show (16 * u).natAbs = u.natAbs * 2 ^ 4 by omega]
theorem toInt32 {x : Nat} {u : Int} (h : u32 x = some u) : (single.read x).toInt .zero = some (u.tdiv 713623846352979940529142984724747568191373312) := by
  rw [toInt_units h (by decide), m149]; rfl
theorem ofInt32 {n : Int} (h : n.natAbs < 2 ^ 24) : u32 (single.write (.number (n < 0) n.natAbs 0)) = some (n * 713623846352979940529142984724747568191373312) := by
  rw [u32, ofInt_units (by decide) (rep_small h (by decide)) sng_good, m149]; rfl
theorem add32 {x y : Nat} {u v : Int} (hx : u32 x = some u) (hy : u32 y = some v) (hr : single.Rep (u + v).natAbs) : ∃ r, single.add x y = some r ∧ u32 r = some (u + v) := add_exact hx hy rfl hr sng_good
theorem sub_self32 {x : Nat} {u : Int} (hx : u32 x = some u) : ∃ r, single.sub x x = some r ∧ u32 r = some 0 := sub_exact hx hx (by omega) ⟨0, 0, rfl, by decide, by decide⟩ sng_good
def kW : Nat := 2 ^ (single.leastPlace - double.leastPlace).toNat
theorem kW_pos : 0 < kW := Nat.two_pow_pos _
def e300 : Nat := 300
theorem widen {x : Nat} {u : Int} (hx : u32 x = some u) (h0 : u.natAbs ≤ 2 ^ e300) : u64 (double.write (single.read x)) = some (u * (kW : Nat)) := by
  have := widen_units (g := double) hx (by decide) (rep_of (g := double) hx (by decide) (B := e300) h0 (by decide +kernel)) dbl_good; rw [u64, this]; rfl
end Ieee
namespace Ieee
open Format
theorem n1074 : (2 ^ (-double.leastPlace).toNat : Nat) = 713623846352979940529142984724747568191373312 * kW := by decide +kernel
theorem u32_bound {x : Nat} {u : Int} (h : u32 x = some u) : u.natAbs ≤ 2 ^ e300 := by
  obtain ⟨s, m, p, h1, h2, rfl⟩ := units_inv h; rw [sg_natAbs]; have hb : 0 < single.binade := Nat.two_pow_pos _
  have eb : single.binade = 8388608 := by decide
  have ei : single.infRung = 2139095040 := by decide
  have hm : m < 2 ^ 24 ∧ (p - single.leastPlace).toNat ≤ 253 := by
    unfold Format.read at h1; dsimp only at h1; split at h1
    · cases h1; omega
    split at h1
    · rename_i h3 h4; cases h1; have h5 := Nat.mod_lt (x % single.signWeight) hb; rw [eb] at h5 ⊢; rw [ei] at h4; omega
    split at h1 <;> cases h1
  have h3 : 2 ^ (p - single.leastPlace).toNat ≤ 2 ^ 253 := Nat.pow_le_pow_right (by omega) hm.2; have h4 : m * 2 ^ (p - single.leastPlace).toNat ≤ 2 ^ 24 * 2 ^ 253 := Nat.mul_le_mul (by omega) h3; exact Nat.le_trans h4 (by decide +kernel)
theorem mul16w {x y w : Nat} {u : Int} (hw : u64 w = some ((16 : Int) * ((713623846352979940529142984724747568191373312 * kW : Nat) : Int))) (hx : u32 x = some u) (hy : u64 y = some (u * (kW : Nat))) (h0 : u.natAbs ≤ 2 ^ e300) : ∃ r, double.mul w y = some r ∧ u64 r = some (16 * (u * (kW : Nat))) := by
  refine mul_exact hw hy (by decide) ?_ ?_ dbl_good
  · rw [n1074, Int.mul_assoc, Int.mul_comm _ (u * (kW : Nat)), ← Int.mul_assoc]
  have := rep_of (g := double) hx (by decide) (B := e300) (j := 4 + (single.leastPlace - double.leastPlace).toNat) h0 (by decide +kernel); rw [Nat.pow_add, ← Nat.mul_assoc] at this
  rwa [show (16 * (u * (kW : Nat))).natAbs = u.natAbs * 2 ^ 4 * kW by rw [Int.natAbs_mul, Int.natAbs_mul, Int.natAbs_natCast, ← Nat.mul_assoc, Nat.mul_comm u.natAbs]; rfl]
theorem floor_mul {a k : Int} (hk : 0 < k) : (a * k).fdiv (713623846352979940529142984724747568191373312 * k) = a / 713623846352979940529142984724747568191373312 := by
  rw [Int.fdiv_eq_ediv_of_nonneg _ (by omega), Int.mul_ediv_mul_of_pos_left _ _ hk]
theorem kW_int : (0 : Int) < (kW : Int) := by have := kW_pos; omega
theorem cast_mk : ((713623846352979940529142984724747568191373312 * kW : Nat) : Int) = 713623846352979940529142984724747568191373312 * (kW : Int) := by rw [Int.natCast_mul]; rfl
theorem floorw {r : Nat} {u : Int} (hr : u64 r = some (16 * (u * (kW : Nat)))) (h0 : -45671926166590716193865151022383844364247891968 ≤ u ∧ u ≤ 45671926166590716193865151022383844364247891968) :
    u64 (double.write ((double.read r).integral .down)) = some (16 * u / 713623846352979940529142984724747568191373312 * (713623846352979940529142984724747568191373312 * kW : Nat)) := by
  have hf : (16 * (u * (kW : Nat))).fdiv (2 ^ (-double.leastPlace).toNat : Nat) = 16 * u / 713623846352979940529142984724747568191373312 := by
    rw [n1074, cast_mk, ← Int.mul_assoc]; exact floor_mul kW_int
  have := floor_units hr (by decide) (by
    rw [hf, Int.natAbs_mul, Int.natAbs_natCast]; refine rep_small ?_ (by decide)
    have : (16 * u / 713623846352979940529142984724747568191373312).natAbs < 2000 := by omega
    exact Nat.lt_of_lt_of_le this (by decide)) dbl_good
  rw [hf, n1074] at this; exact this
theorem whole_iff {u : Int} : (16 * (u * (kW : Nat)) = 16 * u / 713623846352979940529142984724747568191373312 * (713623846352979940529142984724747568191373312 * kW : Nat)) ↔ u % 44601490397061246283071436545296723011960832 = 0 := by
  rw [cast_mk, ← Int.mul_assoc, ← Int.mul_assoc]; have hk := kW_int; constructor
  · intro h; have := Int.eq_of_mul_eq_mul_right (by omega) h; omega
  intro h; congr 1; omega
theorem whole_iff32 {u : Int} (h0 : -45671926166590716193865151022383844364247891968 ≤ u ∧ u ≤ 45671926166590716193865151022383844364247891968) : ((16 * u).tdiv 713623846352979940529142984724747568191373312 * 713623846352979940529142984724747568191373312 = 16 * u) ↔ u % 44601490397061246283071436545296723011960832 = 0 := by
  have h1 := Int.mul_tdiv_add_tmod (16 * u) 713623846352979940529142984724747568191373312; have h2 : (16 * u).tmod 713623846352979940529142984724747568191373312 = 0 ↔ (713623846352979940529142984724747568191373312 : Int) ∣ 16 * u := (Int.dvd_iff_tmod_eq_zero).symm; constructor
  · intro h; have h3 : (713623846352979940529142984724747568191373312 : Int) ∣ 16 * u := h2.1 (by omega); omega
  intro h
  have h3 : (713623846352979940529142984724747568191373312 : Int) ∣ 16 * u := by omega
  have := h2.2 h3; omega
theorem sx_tdiv {u n : Int} (h : u = n * 44601490397061246283071436545296723011960832) : (16 * u).tdiv 713623846352979940529142984724747568191373312 = n := by
  rw [h, show 16 * (n * 44601490397061246283071436545296723011960832) = n * 713623846352979940529142984724747568191373312 by omega, Int.mul_tdiv_cancel _ (by decide)]
end Ieee
namespace Go.Fs
variable {P : Program} {h : Heap} {S : List Nat} {σ : Sto} {t : Tr} {fl : VL} {x y : Operand} {T T' : TypeId} {v pv : PV} {k k' : FloatKind} {p q : Nat}
def fcmpE (b : BinOp) (k : FloatKind) (p q : Nat) : Bool := match b with
  | .eql => k.format.order p q == some .eq
  | .neq => k.format.order p q != some .eq
  | .lss => k.format.order p q == some .lt
  | .leq => k.format.order p q == some .lt || k.format.order p q == some .eq
  | .gtr => k.format.order p q == some .gt
  | .geq => k.format.order p q == some .gt || k.format.order p q == some .eq
  | _ => false
def isCmpF : BinOp → Bool
  | .eql | .neq | .lss | .leq | .gtr | .geq => true
  | _ => false
theorem CalmV.fcmp (b : BinOp) (hb : isCmpF b = true := by rfl) (hx : evV fl x = some (.v (.flt k) p) := by rfl) (hy : evV fl y = some (.v (.flt k) q) := by rfl) : CalmV P fl σ (.binOp b T x y T') (.v .bool (fcmpE b k p q)) :=
  .bin hx hy fun h S a c ha hc => by
    obtain rfl := RepV.flt ha; obtain rfl := RepV.flt hc; refine ⟨.bool (fcmpE b k p q), RepV.ofBool _, rfl, ?_⟩; cases b <;> first | (cases hb; done) | skip
    all_goals simp [purely, eqGuard, binOp, Op.floatCmp, fcmpE, runPure_bind, runPure_pure, runPure, af, af1, af0]
def fopE (b : BinOp) (k : FloatKind) (p q : Nat) : Option Nat := match b with
  | .add => k.format.add p q
  | .sub => k.format.sub p q
  | .mul => k.format.mul p q
  | .quo => k.format.div p q
  | _ => none
theorem CalmV.fop {b : BinOp} {r : Nat} (hr : fopE b k p q = some r) (hx : evV fl x = some (.v (.flt k) p) := by rfl) (hy : evV fl y = some (.v (.flt k) q) := by rfl) : CalmV P fl σ (.binOp b T x y T') (.v (.flt k) r) :=
  .bin hx hy fun h S a c ha hc => by
    obtain rfl := RepV.flt ha; obtain rfl := RepV.flt hc; refine ⟨.float k r, RepV.ofFlt _ _, rfl, ?_⟩; cases b <;> first | (cases hr; done) | skip
    all_goals
      simp only [fopE] at hr; simp [purely, eqGuard, binOp, Op.floatArith, hr, runPure_bind, runPure_pure, runPure, af, af1, af0]
theorem CalmV.fnan {b : BinOp} (hn : nanOp b k p q = true) (hx : evV fl x = some (.v (.flt k) p) := by rfl) (hy : evV fl y = some (.v (.flt k) q) := by rfl) : CalmV P fl σ (.binOp b T x y T') (.raw (nanJ k)) :=
  ⟨rfl, fun h S t hs _ => by
    have ha := RepV.flt (hs x (by simp [Op.operands]) _ hx : RepV h S (.flt k) _ p); have hc := RepV.flt (hs y (by simp [Op.operands]) _ hy : RepV h S (.flt k) _ q); refine ⟨nanJ k, rfl, fun _ _ _ _ _ H => ?_⟩; show (if (af (evalO t x) && af (evalO t y)) = true then ((purely P (do eqGuard b T x y (evalO t x) (evalO t y); binOp b T (evalO t x) (evalO t y))).or (fsNanA b (evalO t x) (evalO t y))).map _ else _) = _; rw [ha, hc, if_pos (show (af (Value.float k p) && af (Value.float k q)) = true from rfl)]
    have h1 : purely P (do eqGuard b T x y (.float k p) (.float k q); binOp b T (.float k p) (.float k q)) = none := by
      unfold nanOp at hn; split at hn
      all_goals first | (cases hn; done) | skip
      all_goals
        rw [Option.isNone_iff_eq_none] at hn; simp [purely, eqGuard, binOp, Op.floatArith, hn, runPure_bind, runPure_pure, runPure, choose, Sem.bind]
        exact fun a ha => by have h0 : (none : Option Value) = some a := ha; cases h0
    have h2 : fsNanA b (.float k p) (.float k q) = some (nanJ k) := by
      unfold fsNanA; simp [hn]
    rw [h1, h2]; rfl⟩
theorem CalmV.fnancmp {b : BinOp} {r : Bool} (hr : nanCmp b = some r) (hx : evV fl x = some (.raw (nanJ k)) := by rfl) (hy : evV fl y = some (.v (.flt k) q) := by rfl) : CalmV P fl σ (.binOp b T x y T') (.v .bool r) :=
  ⟨rfl, fun h S t hs _ => by
    have ha : evalO t x = nanJ k := hs x (by simp [Op.operands]) _ hx; have hc := RepV.flt (hs y (by simp [Op.operands]) _ hy : RepV h S (.flt k) _ q); refine ⟨.bool r, RepV.ofBool _, fun _ _ _ _ _ H => ?_⟩; show (if (af (evalO t x) && af (evalO t y)) = true then _ else ((fsNil P b T (evalO t x) (evalO t y)).or (fsNanC b (evalO t x) (evalO t y))).map _) = _; rw [ha, hc, if_neg (by simp [af, af1, af0, nanJ])]
    have h2 : fsNanC b (nanJ k) (.float k q) = some r := by
      simp [fsNanC, fkind, nanJ, isNanJ, hr]
    rw [h2]; rfl⟩
theorem CalmV.fnancmp2 {b : BinOp} {r : Bool} (hr : nanCmp b = some r) (hx : evV fl x = some (.raw (nanJ k)) := by rfl) (hy : evV fl y = some (.raw (nanJ k)) := by rfl) : CalmV P fl σ (.binOp b T x y T') (.v .bool r) :=
  ⟨rfl, fun h S t hs _ => by
    have ha : evalO t x = nanJ k := hs x (by simp [Op.operands]) _ hx; have hc : evalO t y = nanJ k := hs y (by simp [Op.operands]) _ hy; refine ⟨.bool r, RepV.ofBool _, fun _ _ _ _ _ H => ?_⟩; show (if (af (evalO t x) && af (evalO t y)) = true then _ else ((fsNil P b T (evalO t x) (evalO t y)).or (fsNanC b (evalO t x) (evalO t y))).map _) = _; rw [ha, hc, if_neg (by simp [af, af1, af0, nanJ])]
    have h2 : fsNanC b (nanJ k) (nanJ k) = some r := by
      simp [fsNanC, fkind, nanJ, isNanJ, hr]
    rw [h2]; rfl⟩
def convFB (P : Program) (s D : TypeId) (k2 : FloatKind) : Bool := (P.underlying s).isSome && (match P.underlying D with | some (.float k) => decide (k = k2) | _ => false)
theorem CalmV.cvIF {n : Int} {s D : TypeId} {κ : IntKind} (k2 : FloatKind) (hx : evV fl x = some (.v (.int κ) n) := by rfl) (hb : convFB P s D k2 = true := by kernel_rfl) : CalmV P fl σ (.convert s D x) (.v (.flt k2) (k2.nearest n)) :=
  .conv hx fun h S a ha => by
    obtain rfl := RepV.int ha; unfold convFB at hb; obtain ⟨b1, b2⟩ := band hb; obtain ⟨td, hs⟩ := Option.isSome_iff_exists.1 b1; split at b2
    · rename_i k3 hd; obtain rfl : k3 = k2 := of_decide_eq_true b2; refine ⟨.float k3 (k3.nearest n), RepV.ofFlt _ _, rfl, ?_⟩; unfold purely convert; simp only [runPure_bind, runPure_underlying hs, runPure_underlying hd, Option.bind_some]; show (runPure P (Conv.intToFloat k3 n)).bind _ = _; simp only [Conv.intToFloat, runPure_pure, Option.bind_some]; rfl
    cases b2
theorem CalmV.cvFI {n : Int} {s D : TypeId} (hn : (k.decode p).toInt .zero = some n) (hf : fit n) (hx : evV fl x = some (.v (.flt k) p) := by rfl) (hb : convB P s D .i64 = true := by kernel_rfl) : CalmV P fl σ (.convert s D x) (.v (.int .i64) n) :=
  .conv hx fun h S a ha => by
    obtain rfl := RepV.flt ha; unfold convB at hb; obtain ⟨b1, b2⟩ := band hb; obtain ⟨td, hs⟩ := Option.isSome_iff_exists.1 b1; split at b2
    · rename_i k3 hd; obtain rfl : k3 = .i64 := of_decide_eq_true b2; refine ⟨.int .i64 n, RepV.ofInt _ _, rfl, ?_⟩; unfold purely convert; simp only [runPure_bind, runPure_underlying hs, runPure_underlying hd, Option.bind_some]; show (runPure P (Conv.floatToInt k p .i64)).bind _ = _; have hr : IntKind.i64.min ≤ n ∧ n ≤ IntKind.i64.max := ⟨hf.1, hf.2⟩; simp only [Conv.floatToInt, hn, hr, and_self, if_true, runPure_pure, Option.bind_some]; rfl
    cases b2
theorem CalmV.cvFF {s D : TypeId} (k2 : FloatKind) (hne : ¬ k = k2) {u : Int} (hu : k.format.units p = some u) {r : Nat} {u' : Int} (hr : k2.format.write (k.format.read p) = r) (hr2 : k2.format.units r = some u') (hx : evV fl x = some (.v (.flt k) p) := by rfl) (hb : convFB P s D k2 = true := by kernel_rfl) : CalmV P fl σ (.convert s D x) (.v (.flt k2) r) :=
  .conv hx fun h S a ha => by
    obtain rfl := RepV.flt ha; unfold convFB at hb; obtain ⟨b1, b2⟩ := band hb; obtain ⟨td, hs⟩ := Option.isSome_iff_exists.1 b1; split at b2
    · rename_i k3 hd; obtain rfl : k3 = k2 := of_decide_eq_true b2; refine ⟨.float k3 r, RepV.ofFlt _ _, rfl, ?_⟩; unfold purely convert; simp only [runPure_bind, runPure_underlying hs, runPure_underlying hd, Option.bind_some]; show (runPure P (Conv.floatToFloat k p k3)).bind _ = _; obtain ⟨sg, m, pl, h1, _, _⟩ := Ieee.Format.units_inv hu; have h1' : k.decode p = .number sg m pl := h1
      have h2 : k3.encode (.number sg m pl) = r := by rw [← hr, h1]; rfl
      obtain ⟨sg', m', pl', h3, _, _⟩ := Ieee.Format.units_inv hr2; have h3' : k3.decode r = .number sg' m' pl' := h3; simp only [Conv.floatToFloat, hne, if_false, h1', h2, h3', Ieee.Datum.isInfinity, Bool.false_eq_true, runPure_pure, Option.bind_some]; rfl
    cases b2
theorem CalmV.cvInf {s D : TypeId} {sg : Bool} (k2 : FloatKind) (hne : ¬ k = k2) (hu : k.format.read p = .infinity sg) (hx : evV fl x = some (.v (.flt k) p) := by rfl) (hb : convFB P s D k2 = true := by kernel_rfl) : CalmV P fl σ (.convert s D x) (.v (.flt k2) (k2.format.write (.infinity sg))) :=
  .conv hx fun h S a ha => by
    obtain rfl := RepV.flt ha; unfold convFB at hb; obtain ⟨b1, b2⟩ := band hb; obtain ⟨td, hs⟩ := Option.isSome_iff_exists.1 b1; split at b2
    · rename_i k3 hd; obtain rfl : k3 = k2 := of_decide_eq_true b2; refine ⟨.float k3 (k3.encode (.infinity sg)), RepV.ofFlt _ _, rfl, ?_⟩; unfold purely convert; simp only [runPure_bind, runPure_underlying hs, runPure_underlying hd, Option.bind_some]; show (runPure P (Conv.floatToFloat k p k3)).bind _ = _; have h1' : k.decode p = .infinity sg := hu; simp only [Conv.floatToFloat, hne, if_false, h1', runPure_pure, Option.bind_some]; rfl
    cases b2
theorem CalmV.cvNan {s D : TypeId} {sg : Bool} {m : Nat} (k2 : FloatKind) (hne : ¬ k = k2) (hu : k.format.read p = .nan sg m) (hx : evV fl x = some (.v (.flt k) p) := by rfl) (hb : convFB P s D k2 = true := by kernel_rfl) : CalmV P fl σ (.convert s D x) (.raw (nanJ k2)) :=
  ⟨rfl, fun h S t hs _ => by
    have ha := RepV.flt (hs x (by simp [Op.operands]) _ hx : RepV h S (.flt k) _ p); refine ⟨nanJ k2, rfl, fun _ _ _ _ _ H => ?_⟩; show (if af (evalO t x) = true then ((purely P (convert s D (evalO t x))).or (fsNanV P s D (evalO t x))).map _ else _) = _; rw [ha, if_pos (show af (Value.float k p) = true from rfl)]; unfold convFB at hb; obtain ⟨b1, b2⟩ := band hb; obtain ⟨td, hs⟩ := Option.isSome_iff_exists.1 b1; split at b2
    · rename_i k3 hd; obtain rfl : k3 = k2 := of_decide_eq_true b2; have h1' : k.decode p = .nan sg m := hu
      have e1 : purely P (convert s D (.float k p)) = none := by
        unfold purely convert; simp only [runPure_bind, runPure_underlying hs, runPure_underlying hd, Option.bind_some]; show (runPure P (Conv.floatToFloat k p k3)).bind _ = _; simp [Conv.floatToFloat, hne, h1', choose, runPure_bind, runPure]
        try exact fun a ha => by have h0 : (none : Option Value) = some a := ha; cases h0
      have e2 : fsNanV P s D (.float k p) = some (nanJ k3) := by
        simp [fsNanV, hs, hd, hne, h1', Ieee.Datum.isNaN]
      rw [e1, e2]; rfl
    cases b2⟩
theorem compare_int (u v : Int) : compare u v = if u < v then .lt else if u = v then .eq else .gt := rfl
theorem fcmp_units {u v : Int} (hp : k.format.units p = some u) (hq : k.format.units q = some v) :
    fcmpE .eql k p q = decide (u = v) ∧ fcmpE .neq k p q = decide (u ≠ v) ∧ fcmpE .lss k p q = decide (u < v) ∧ fcmpE .leq k p q = decide (u ≤ v) ∧ fcmpE .gtr k p q = decide (v < u) ∧ fcmpE .geq k p q = decide (v ≤ u) := by
  have ho : k.format.order p q = some (compare u v) := Ieee.Format.order_units hp hq; simp only [fcmpE, ho, compare_int]; by_cases h1 : u < v
  · have : ¬ u = v := by omega
    simp [h1, this]; omega
  by_cases h2 : u = v
  · subst h2; simp
  simp [h1, h2]; omega
end Go.Fs
namespace Go.Fs
variable {P : Program} {orc : FuncId → List Value → Heap → Option (Value × Heap)} {rnd : Option Nat} {h h' h0 h1 h2 : Heap} {S S' S0 B G : List Nat} {σ σ' : Sto} {t t' : Tr} {ms : List Nat} {fl : VL} {ops : Array Oper} {n : Nat} {l : List Oper} {K : VL → Sto → Prop} {Q : Ex → VL → Sto → Prop}
  {d : Tmp} {ty : TypeId} {pos : String} {after : Array Edge} {op : Op} {v pv : PV} {g : Option (Nat × Bool)} {x y z : Operand} {T T' e : TypeId} {κ ν : Ty} {w : Value}
section
variable {α β : Type} [DecidableEq α]
end
structure KeyT (P : Program) (K : TypeId) (κ : Ty) : Prop where
  flat : κ.isFlat = true
  und : ∃ td, P.underlying K = some td ∧ ((∀ {h : Heap} {S : List Nat} (u v : Value) (x y : κ.den) (inst : Decidable (x = y)), RepV h S κ u x → RepV h S κ v y → Instr.sameNow td u v = some (@decide (x = y) inst)) ∨
    ((∀ u v, Instr.sameNow td u v = none) ∧ ∀ {h : Heap} {S : List Nat} (u v : Value) (x y : κ.den) (inst : Decidable (x = y)), RepV h S κ u x → RepV h S κ v y → runPure P (Op.equal K u v) = some (@decide (x = y) inst)))
  chk : ∀ {h : Heap} {S : List Nat} (em : Bool) (u : Value) (x : κ.den), RepV h S κ u x → (runPure P (Instr.checkKey em 10000 K u)).isSome = true
  bits : ∀ {h : Heap} {S : List Nat} (u : Value) (x : κ.den), RepV h S κ u x → Instr.sameBits 10000 u u = true
structure MapT (P : Program) (T : TypeId) (κ ν : Ty) : Prop where
  key : ∃ K E, P.underlying T = some (.map K E) ∧ KeyT P K κ ∧ ZerT P E ν
section
variable [DecidableEq κ.den] {k : κ.den} {kvs : List (κ.den × ν.den)}
end
end Go.Fs
namespace Go.Fs
variable {P : Program} {orc : FuncId → List Value → Heap → Option (Value × Heap)} {h : Heap} {S : List Nat} {σ : Sto} {t : Tr} {fl : VL} {x y : Operand} {T T' : TypeId} {v pv : PV} {k k' : FloatKind} {p q : Nat}
theorem CalmV.fcmpD {b : BinOp} {r : Bool} (he : fcmpE b k p q = r) (hb : isCmpF b = true := by rfl) (hx : evV fl x = some (.v (.flt k) p) := by rfl) (hy : evV fl y = some (.v (.flt k) q) := by rfl) : CalmV P fl σ (.binOp b T x y T') (.v .bool r) := he ▸ CalmV.fcmp b hb hx hy
theorem VF.ext {f : FuncId} {args : List PV} {r : PV} {fn : Func} {e : Array Value → Sem Value} {us : List Value} {w : Value} (hfn : P.funcs[f]? = some fn) (ho : ∀ us h, orc f us h = none) (hb : (fn.body.isNone && !(fn.name == "runtime.NumGoroutine")) = true) (h1 : (Extern.findNext fn).isNone = true) (h2 : Extern.find fn = some e)
    (ha : us.all af = true) (hus : ∀ (h : Heap) (S : List Nat) (us' : List Value), RepL h S args us' → us' = us) (hv : purely P (e us.toArray) = some w) (hr : ∀ (h : Heap) (S : List Nat), RepPV h S r w) : VF P orc f args r := fun h S us' hok hS hrep => by
  obtain rfl := hus h S us' hrep; exact EvF.ext (ho _ _) hfn hb h1 h2 ha hv ⟨Aft.refl _ _, hr _ _, fun _ => rfl⟩
theorem repl_flt {h : Heap} {S : List Nat} {us : List Value} {k : FloatKind} {p : Nat} (hr : RepL h S [.v (.flt k) p] us) : us = [.float k p] := by
  obtain ⟨u, r, rfl, h2, h3⟩ := hr; obtain rfl : r = [] := h3; rw [RepV.flt h2]
theorem VF.extFlt {f : FuncId} {r : PV} {fn : Func} {e : Array Value → Sem Value} {w : Value} (hfn : P.funcs[f]? = some fn) (ho : ∀ us h, orc f us h = none) (hb : (fn.body.isNone && !(fn.name == "runtime.NumGoroutine")) = true) (h1 : (Extern.findNext fn).isNone = true) (h2 : Extern.find fn = some e)
    (hv : purely P (e #[.float k p]) = some w) (hr : ∀ (h : Heap) (S : List Nat), RepPV h S r w) : VF P orc f [.v (.flt k) p] r :=
  VF.ext (us := [.float k p]) hfn ho hb h1 h2 rfl (fun _ _ _ hr => repl_flt hr) hv hr
theorem VF.extInt {f : FuncId} {r : PV} {κ : IntKind} {n : Int} {fn : Func} {e : Array Value → Sem Value} {w : Value} (hfn : P.funcs[f]? = some fn) (ho : ∀ us h, orc f us h = none) (hb : (fn.body.isNone && !(fn.name == "runtime.NumGoroutine")) = true) (h1 : (Extern.findNext fn).isNone = true) (h2 : Extern.find fn = some e)
    (hv : purely P (e #[.int κ n]) = some w) (hr : ∀ (h : Heap) (S : List Nat), RepPV h S r w) : VF P orc f [.v (.int κ) n] r :=
  VF.ext (us := [.int κ n]) hfn ho hb h1 h2 rfl (fun _ _ _ hr => repl_int _ _ _ hr) hv hr
theorem mul32E {p q r : Nat} (h : Ieee.single.mul p q = some r) : fopE .mul .f32 p q = some r := h
theorem sub32E {p q r : Nat} (h : Ieee.single.sub p q = some r) : fopE .sub .f32 p q = some r := h
theorem add32E {p q r : Nat} (h : Ieee.single.add p q = some r) : fopE .add .f32 p q = some r := h
theorem mul64E {p q r : Nat} (h : Ieee.double.mul p q = some r) : fopE .mul .f64 p q = some r := h
theorem nan32E {p : Nat} (h : Ieee.u32 p = none) : nanOp .sub .f32 p p = true := by
  show (Ieee.single.sub p p).isNone = true; rw [Ieee.Format.sub_self_none h]; rfl
theorem toInt32E {p : Nat} {n : Int} (h : (Ieee.single.read p).toInt .zero = some n) : (FloatKind.f32.decode p).toInt .zero = some n := h
theorem toInt64E {p : Nat} {n : Int} (h : (Ieee.double.read p).toInt .zero = some n) : (FloatKind.f64.decode p).toInt .zero = some n := h
theorem fneq_self {p : Nat} (h : Ieee.double.order p p = some .eq) : fcmpE .neq .f64 p p = false := by
  show (Ieee.double.order p p != some .eq) = false; rw [h]; rfl
theorem fcmp32 {p q : Nat} {u v : Int} (hp : Ieee.u32 p = some u) (hq : Ieee.u32 q = some v) :
    fcmpE .eql .f32 p q = decide (u = v) ∧ fcmpE .neq .f32 p q = decide (u ≠ v) ∧ fcmpE .lss .f32 p q = decide (u < v) ∧ fcmpE .leq .f32 p q = decide (u ≤ v) ∧ fcmpE .gtr .f32 p q = decide (v < u) ∧ fcmpE .geq .f32 p q = decide (v ≤ u) := fcmp_units (k := .f32) hp hq
theorem fcmp64 {p q : Nat} {u v : Int} (hp : Ieee.u64 p = some u) (hq : Ieee.u64 q = some v) :
    fcmpE .eql .f64 p q = decide (u = v) ∧ fcmpE .neq .f64 p q = decide (u ≠ v) ∧ fcmpE .lss .f64 p q = decide (u < v) ∧ fcmpE .leq .f64 p q = decide (u ≤ v) ∧ fcmpE .gtr .f64 p q = decide (v < u) ∧ fcmpE .geq .f64 p q = decide (v ≤ u) := fcmp_units (k := .f64) hp hq
theorem CalmV.widen {s D : TypeId} {u u' : Int} (hu : Ieee.u32 p = some u) (hr : Ieee.u64 (Ieee.double.write (Ieee.single.read p)) = some u') (hx : evV fl x = some (.v (.flt .f32) p) := by rfl) (hb : convFB P s D .f64 = true := by kernel_rfl) : CalmV P fl σ (.convert s D x) (.v (.flt .f64) (Ieee.double.write (Ieee.single.read p))) :=
  CalmV.cvFF (k := .f32) .f64 (by decide) hu rfl hr hx hb
theorem CalmV.widenI {s D : TypeId} {sg : Bool} (hu : Ieee.single.read p = .infinity sg) (hx : evV fl x = some (.v (.flt .f32) p) := by rfl) (hb : convFB P s D .f64 = true := by kernel_rfl) : CalmV P fl σ (.convert s D x) (.v (.flt .f64) (Ieee.double.write (.infinity sg))) :=
  CalmV.cvInf (k := .f32) .f64 (by decide) hu hx hb
theorem CalmV.widenN {s D : TypeId} {sg : Bool} {m : Nat} (hu : Ieee.single.read p = .nan sg m) (hx : evV fl x = some (.v (.flt .f32) p) := by rfl) (hb : convFB P s D .f64 = true := by kernel_rfl) : CalmV P fl σ (.convert s D x) (.raw (nanJ .f64)) :=
  CalmV.cvNan (k := .f32) .f64 (by decide) hu hx hb
theorem floor_run {P : Program} {y : Nat} {s : Bool} {m : Nat} {pl : Int} (h : Ieee.double.read y = .number s m pl) : purely P (Extern.MathFloor.toIntegral "math.archFloor" .down #[.float .f64 y]) = some (.float .f64 (Ieee.double.write ((Ieee.double.read y).integral .down))) := by
  have e : Extern.MathFloor.toIntegral "math.archFloor" .down #[.float .f64 y] = (match FloatKind.f64.decode y with
    | .nan s t =>
      if FloatKind.f64.format.quiet t = t then pure (.float .f64 y) else do
      let kept ← choose (.extern "math.Floor,Ceil,Trunc,RoundToEven.signallingNaN kept" 2)
      pure (.float .f64 (if kept == 1 then y else FloatKind.f64.encode (.nan s (FloatKind.f64.format.quiet t))))
    | d => pure (.float .f64 (FloatKind.f64.encode (d.integral .down)))) := rfl
  have h2 : FloatKind.f64.decode y = .number s m pl := h; rw [e, h2, h]; rfl
theorem clr63 {b : Nat} : ((BitVec.ofInt 64 (b : Int)) &&& ~~~(BitVec.ofInt 64 9223372036854775808)).toNat = b % 9223372036854775808 := by
  rw [BitVec.toNat_and]
  have e1 : (~~~(BitVec.ofInt 64 9223372036854775808)).toNat = 2 ^ 63 - 1 := by decide
  have e2 : (BitVec.ofInt 64 (b : Int)).toNat = b % 2 ^ 64 := by
    rw [BitVec.toNat_ofInt]; omega
  rw [e1, e2, Nat.and_two_pow_sub_one_eq_mod]; omega
theorem CalmV.clr63 {b : Nat} (hx : evV fl x = some (.v (.int .u64) ((b : Nat) : Int))) (hy : evV fl y = some (.v (.int .u64) 9223372036854775808)) : CalmV P fl σ (.binOp .andNot T x y T') (.v (.int .u64) ((b % 9223372036854775808 : Nat) : Int)) :=
  .binI hx hy (u := .int .u64 ((b % 9223372036854775808 : Nat) : Int)) (by
    show (runPure P (Op.intBits .andNot .u64 (b : Int) 9223372036854775808)).bind _ = _; have e1 : Op.intBits .andNot .u64 (b : Int) 9223372036854775808 = pure (.int .u64 (IntKind.u64.wrap (((BitVec.ofInt 64 (b : Int)) &&& ~~~(BitVec.ofInt 64 9223372036854775808)).toNat : Int))) := rfl; rw [e1, Fs.clr63, runPure_pure]
    have e2 : IntKind.u64.wrap ((b % 9223372036854775808 : Nat) : Int) = ((b % 9223372036854775808 : Nat) : Int) := by
      have e3 : IntKind.u64.wrap ((b % 9223372036854775808 : Nat) : Int) = ((b % 9223372036854775808 : Nat) : Int) % 18446744073709551616 := rfl; rw [e3]; omega
    rw [e2]; rfl) fun h S => RepV.ofInt _ _
end Go.Fs
namespace Ieee
open Format
theorem read_clr {b : Nat} : double.read (b % 9223372036854775808) = match double.read b with
    | .number _ m p => .number false m p
    | .infinity _ => .infinity false
    | .nan _ f => .nan false f := by
  have e0 : double.signWeight = 9223372036854775808 := by decide
  have e1 : b % 9223372036854775808 % double.signWeight = b % double.signWeight := by rw [e0]; omega
  have e2 : (b % 9223372036854775808 / double.signWeight % 2 == 1) = false := by
    rw [e0, show b % 9223372036854775808 / 9223372036854775808 = 0 by omega]; rfl
  unfold Format.read; simp only [e1, e2]; split
  · rfl
  split
  · rfl
  split <;> rfl
theorem units_clr {b : Nat} {v : Int} (h : double.units b = some v) : double.units (b % 9223372036854775808) = some (v.natAbs : Int) := by
  obtain ⟨s, m, p, h1, h2, rfl⟩ := units_inv h; unfold units; rw [read_clr, h1]; simp only; rw [sg_natAbs]; rfl
def topW : Int := (2 ^ 53 - 1) * (((2 ^ (2045 : Nat) : Nat)) : Int)
theorem top64 : u64 9218868437227405311 = some topW := by decide +kernel
theorem top_bound {u : Int} (h : u.natAbs ≤ 2 ^ e300) : ((u * (kW : Nat)).natAbs : Int) ≤ topW := by
  have h1 : 2 ^ e300 * kW ≤ topW.natAbs := by decide +kernel
  have h2 : (u * (kW : Nat)).natAbs ≤ 2 ^ e300 * kW := by
    rw [Int.natAbs_mul, Int.natAbs_natCast]; exact Nat.mul_le_mul_right _ h
  have h3 : (topW.natAbs : Int) = topW := by decide +kernel
  omega
end Ieee
namespace Go.Fs
variable {P : Program} {orc : FuncId → List Value → Heap → Option (Value × Heap)} {rnd : Option Nat} {h : Heap} {S : List Nat} {σ : Sto} {t : Tr} {fl : VL} {x y : Operand} {T : TypeId} {n : Nat} {τ τ' : Ty} {Q : Ex → VL → Sto → Prop}
theorem VC.unroll {c : Code} (hx : VC P orc rnd c n fl σ (thenV P orc rnd n (.loop c) Q)) : VC P orc rnd (.loop c) n fl σ Q := fun h0 G S0 t h ms I => by
  refine EvC.loop ((hx h0 G S0 t h ms I).mono fun e fr h' hq => ?_); obtain ⟨hn, fl', σ', I', q⟩ := hq
  cases e with
  | normal =>
    obtain ⟨t', n', ms'⟩ := fr; obtain rfl : n' = n := hn
    exact q h0 G S0 t' h' ms' I'
  | exit i => exact ⟨hn, fl', σ', I', q⟩
  | ret => exact ⟨hn, fl', σ', I', q⟩
def aofB (P : Program) (T : TypeId) (j k : Nat) (τ' : Ty) : Bool :=
  match P.underlying T with
  | some (.array n e) => match P.info? e with
    | some i => Nat.blt j n && Nat.beq k (j * i.size) && valB P e τ'
    | none => false
  | _ => false
theorem aofB_inv {j k : Nat} (hb : aofB P T j k τ' = true) : ∃ m e i, P.underlying T = some (.array m e) ∧ P.info? e = some i ∧ j < m ∧ k = j * i.size ∧ ValT P e τ' := by
  unfold aofB at hb; split at hb
  · rename_i m e hu; split at hb
    · rename_i i hi; obtain ⟨h1, h2⟩ := band hb; obtain ⟨h3, h4⟩ := band h1; exact ⟨m, e, i, hu, hi, nblt h3, nbeq h4, valT_of h2⟩
    cases hb
  cases hb
theorem CalmV.ixP (j : Nat) {k : Nat} {dx : τ.den} {dy : τ'.den} (hs : Sub τ dx k τ' dy) (hb : aofB P T j k τ' = true := by kernel_rfl) (hx : evV fl x = some (.p τ dx) := by rfl) (hy : evV fl y = some (.v (.int .i64) ((j : Nat) : Int)) := by rfl) : CalmV P fl σ (.indexAddr T x y) (.p τ' dy) :=
  ⟨rfl, fun h S t hq _ => by
    have hp : RepP h S τ (evalO t x) dx := hq x (by simp [Op.operands]) _ hx; have hi : evalO t y = .int .i64 ((j : Nat) : Int) := RepV.int (hq y (by simp [Op.operands]) _ hy : RepV h S (.int .i64) _ ((j : Nat) : Int)); obtain ⟨m, e, i, u1, u2, u3, u4, u5⟩ := aofB_inv hb; obtain ⟨b', o, e', rs, own, more, h1, h2, h3, h4, h5⟩ := hp; refine ⟨.pointer (some ⟨b', o + k, none⟩), ?_, fun _ _ _ _ _ H => ?_⟩
    · obtain ⟨h6, h7⟩ := hs.repC h5; rw [List.length_take, List.length_drop] at h6; refine ⟨b', o + k, e', rs, own, more, rfl, h2, h3, by omega, ?_⟩; rw [List.drop_take, List.take_take, List.drop_drop, Nat.min_eq_left (by omega)] at h7; exact h7
    show (if af (evalO t y) then (runPure P (Instr.indexAt T (evalO t x) (evalO t y))).map _ else none) = _; rw [hi, h1, if_pos (show af (Value.int .i64 ((j : Nat) : Int)) = true from rfl)]
    have h6 : (0 : Int) ≤ ((j : Nat) : Int) ∧ ((j : Nat) : Int) < (m : Nat) := by omega
    have h7 : runPure P (Instr.indexAt T (.pointer (some ⟨b', o, none⟩)) (.int .i64 ((j : Nat) : Int))) = some (.pointer (some ⟨b', o + k, none⟩)) := by
      unfold Instr.indexAt; simp only [runPure_bind, asIntOf, runPure_pure, Option.bind_some, runPure_underlying u1, Instr.sureAddr, if_pos h6, runPure_sizeOf u2, add_none, Int.toNat_natCast, u4]
    rw [h7]; rfl⟩
theorem CalmV.ixA (j : Nat) {k : Nat} {dx : τ.den} {dy : τ'.den} (hs : Sub τ dx k τ' dy) (ha : τ.agg = true := by rfl) (hb : aofB P T j k τ' = true := by kernel_rfl) (hx : evV fl x = some (.v τ dx) := by rfl) (hy : evV fl y = some (.v (.int .i64) ((j : Nat) : Int)) := by rfl) : CalmV P fl σ (.index T x y) (.v τ' dy) :=
  ⟨rfl, fun h S t hq _ => by
    have hv : RepV h S τ (evalO t x) dx := hq x (by simp [Op.operands]) _ hx; have hi : evalO t y = .int .i64 ((j : Nat) : Int) := RepV.int (hq y (by simp [Op.operands]) _ hy : RepV h S (.int .i64) _ ((j : Nat) : Int)); obtain ⟨m, e, i, u1, u2, u3, u4, u5⟩ := aofB_inv hb; obtain ⟨cs, hcs⟩ := aggOf ha hv; rw [hcs] at hv; obtain ⟨h6, h7⟩ := hs.repC hv.2; obtain ⟨v, v1, v2⟩ := part_rep u5 (cs := cs) (o := k) h7; refine ⟨v, v2, fun _ _ _ _ _ H => ?_⟩; show (if af (evalO t y) then (runPure P (Instr.index T (evalO t x) (evalO t y))).map _ else none) = _; rw [hi, hcs, if_pos (show af (Value.int .i64 ((j : Nat) : Int)) = true from rfl)]
    have h8 : (0 : Int) ≤ ((j : Nat) : Int) ∧ ((j : Nat) : Int) < (m : Nat) := by omega
    have h9 : runPure P (Instr.index T (.agg cs) (.int .i64 ((j : Nat) : Int))) = some v := by
      unfold Instr.index; simp only [runPure_bind, asIntOf, runPure_pure, Option.bind_some, runPure_underlying u1, if_pos h8, runPure_sizeOf u2, Int.toNat_natCast, ← u4]; exact v1
    rw [h9]; rfl⟩
theorem CalmV.ixV (j : Nat) {k : Nat} {cs : List PV} {w : Value} (hm : (w, Cell.var cs) ∈ σ) (hb : aofB P T j k τ' = true := by kernel_rfl) (hx : evV fl x = some (.raw w) := by rfl) (hy : evV fl y = some (.v (.int .i64) ((j : Nat) : Int)) := by rfl) : CalmV P fl σ (.indexAddr T x y) (.raw (padd w k)) :=
  ⟨rfl, fun h S t hs hc => by
    have h1 : evalO t x = w := hs x (by simp [Op.operands]) _ hx; have hi : evalO t y = .int .i64 ((j : Nat) : Int) := RepV.int (hs y (by simp [Op.operands]) _ hy : RepV h S (.int .i64) _ ((j : Nat) : Int)); obtain ⟨m, e, i, u1, u2, u3, u4, u5⟩ := aofB_inv hb; obtain ⟨b, e', vs, h3, h4, h5, _⟩ := hc _ hm; have h3' : w = .pointer (some ⟨b, 0, none⟩) := h3; refine ⟨_, rfl, fun _ _ _ _ _ H => ?_⟩; show (if af (evalO t y) then (runPure P (Instr.indexAt T (evalO t x) (evalO t y))).map _ else none) = _; rw [hi, h1, h3', if_pos (show af (Value.int .i64 ((j : Nat) : Int)) = true from rfl)]
    have h6 : (0 : Int) ≤ ((j : Nat) : Int) ∧ ((j : Nat) : Int) < (m : Nat) := by omega
    have h7 : runPure P (Instr.indexAt T (.pointer (some ⟨b, 0, none⟩)) (.int .i64 ((j : Nat) : Int))) = some (.pointer (some ⟨b, 0 + k, none⟩)) := by
      unfold Instr.indexAt; simp only [runPure_bind, asIntOf, runPure_pure, Option.bind_some, runPure_underlying u1, Instr.sureAddr, if_pos h6, runPure_sizeOf u2, add_none, Int.toNat_natCast, u4]
    rw [h7]; rfl⟩
theorem part_int {e : TypeId} {i : TypeInfo} {cs : Array Value} {j : Nat} {a : Int} (hu : P.underlying e = some (.int .i64)) (hi : P.info? e = some i) (hs : i.size = 1) (hc : cs[j]? = some (.int .i64 a)) : runPure P (part e cs j) = some (.int .i64 a) := by
  obtain ⟨v, v1, v2⟩ := part_rep (h := ⟨0, 0, []⟩) (S := []) (T := e) (τ := .int .i64) ⟨⟨i, hi, hs⟩, _, hu, rfl⟩ (cs := cs) (o := j) (x := a) (by
    show (cs.toList.drop j).take 1 = [.int .i64 a]
    have hl : j < cs.toList.length := by
      have := (Array.getElem?_eq_some_iff.1 hc).1; simpa using this
    rw [List.drop_eq_getElem_cons hl]; have := (Array.getElem?_eq_some_iff.1 hc).2
    simp [this])
  rw [v1, RepV.int v2]
theorem eq_int {d : Nat} {e : TypeId} {a b : Int} (hu : P.underlying e = some (.int .i64)) : runPure P (Op.equalIn (d + 1) e (.int .i64 a) (.int .i64 b)) = some (decide (a = b)) := by
  unfold Op.equalIn; simp only [runPure_bind, runPure_underlying hu, Option.bind_some]; show some (a == b) = _; congr 1
theorem forIn_all {n : Nat} {c : Nat → Bool} {f : Nat → Option Bool × PUnit → Sem (ForInStep (Option Bool × PUnit))} (hf : ∀ j, j < n → ∀ s, runPure P (f j s) = some (if c j = true then .yield (none, ⟨⟩) else .done (some false, ⟨⟩))) :
    ∀ m j, j + m ≤ n → runPure P (forIn (List.range' j m) (none, ⟨⟩) f) = some (if (List.range' j m).all c = true then (none, ⟨⟩) else (some false, ⟨⟩))
  | 0, j, _ => by simp [List.range', runPure_pure]
  | m + 1, j, h => by
    rw [List.range'_succ, List.forIn_cons, runPure_bind, hf j (by omega), Option.bind_some, List.all_cons]
    cases hc : c j with
    | true =>
      simp only [if_true, Bool.true_and]
      exact forIn_all hf m (j + 1) (by omega)
    | false => simp [runPure_pure]
theorem eq_arr {d n : Nat} {e : TypeId} {i : TypeInfo} {xs ys : List Int} (hT : P.underlying T = some (.array n e)) (hu : P.underlying e = some (.int .i64)) (hi : P.info? e = some i) (hs : i.size = 1) (hx : xs.length = n) (hy : ys.length = n) :
    runPure P (Op.equalIn (d + 2) T (.agg (xs.map (Value.int .i64)).toArray) (.agg (ys.map (Value.int .i64)).toArray)) = some (decide (xs = ys)) := by
  unfold Op.equalIn; simp only [runPure_bind, runPure_underlying hT, Option.bind_some, runPure_sizeOf hi, hs, Std.Legacy.Range.forIn_eq_forIn_range', Std.Legacy.Range.size]
  have hst : ∀ {β : Type} (g : Nat → β → Sem (ForInStep β)) (b : β), forIn (List.range' 0 ((n - 0 + 1 - 1) / 1)) b g = forIn (List.range' 0 n) b g := fun g b => by congr 2; simp
  rw [hst, forIn_all (n := n) (c := fun j => decide (xs.getD j 0 = ys.getD j 0)) (fun j hj s => ?_) n 0 (by omega)]
  · have hall : ((List.range' 0 n).all fun j => decide (xs.getD j 0 = ys.getD j 0)) = decide (xs = ys) := by
      by_cases h : xs = ys
      · subst h; simp
      rw [decide_eq_false h, ← Bool.not_eq_true, List.all_eq_true]; intro hh; apply h; refine List.ext_getElem (by omega) fun k h1 h2 => ?_; have := hh k (by simp; omega); simpa [List.getD_eq_getElem?_getD, List.getElem?_eq_getElem h1, List.getElem?_eq_getElem h2] using this
    rw [hall]; by_cases h : xs = ys <;> simp [h, runPure_pure]
  have p1 : runPure P (part e (xs.map (Value.int .i64)).toArray (j * 1)) = some (.int .i64 (xs.getD j 0)) := part_int hu hi hs (by simp [List.getD_eq_getElem?_getD, List.getElem?_eq_getElem (show j < xs.length by omega)]); have p2 : runPure P (part e (ys.map (Value.int .i64)).toArray (j * 1)) = some (.int .i64 (ys.getD j 0)) := part_int hu hi hs (by simp [List.getD_eq_getElem?_getD, List.getElem?_eq_getElem (show j < ys.length by omega)]); simp only [runPure_bind, p1, p2, Option.bind_some, eq_int hu]; by_cases h : xs.getD j 0 = ys.getD j 0 <;> simp [h, runPure_pure, -List.getD_eq_getElem?_getD]
def arrB (P : Program) (T : TypeId) (n : Nat) : Bool :=
  match P.underlying T with
  | some (.array m e) => Nat.beq m n && !P.eqGuardType P.depth T && (match P.underlying e with | some (.int k) => decide (k = .i64) | _ => false) && (match P.info? e with | some i => Nat.beq i.size 1 | none => false)
  | _ => false
section
variable {T' : TypeId}
theorem CalmV.arrCmp {b : BinOp} {dx dy : τ.den} {xs ys : List Int} {r : Bool} (hbop : (b = .eql ∧ r = decide (xs = ys)) ∨ (b = .neq ∧ r = !decide (xs = ys))) (ha : τ.agg = true) (hf : τ.isFlat = true) (hcx : τ.flatC dx = xs.map (Value.int .i64)) (hcy : τ.flatC dy = ys.map (Value.int .i64)) (hb : arrB P T xs.length = true) (hl : ys.length = xs.length)
    (hx : evV fl x = some (.v τ dx) := by rfl) (hy : evV fl y = some (.v τ dy) := by rfl) : CalmV P fl σ (.binOp b T x y T') (.v .bool r) :=
  .bin hx hy fun h S a c hu hv => by
    have e1 := flat_agg hu hf ha; have e2 := flat_agg hv hf ha; rw [hcx] at e1; rw [hcy] at e2; unfold arrB at hb; split at hb
    · rename_i m e hU; obtain ⟨hb, h4⟩ := band hb; obtain ⟨hb, h3⟩ := band hb; obtain ⟨h1, h2⟩ := band hb; have h1 := nbeq h1
      have hg : P.eqGuardType P.depth T = false := by simpa using h2
      have hi : P.underlying e = some (.int .i64) := by
        split at h3
        · rename_i k hk; rw [of_decide_eq_true h3] at hk; exact hk
        cases h3
      obtain ⟨i, hi2, hi3⟩ : ∃ i, P.info? e = some i ∧ i.size = 1 := by
        split at h4
        · rename_i i hi; exact ⟨i, hi, nbeq h4⟩
        cases h4
      have hrun : runPure P (Op.equal T a c) = some (decide (xs = ys)) := by
        rw [e1, e2]; exact eq_arr (d := 9998) (by rw [hU, h1]) hi hi2 hi3 rfl hl
      subst e1 e2; refine ⟨.bool r, RepV.ofBool _, ?_, ?_⟩
      · rw [(RepPV.flat (pv := .v τ dx) hf hu).1, (RepPV.flat (pv := .v τ dy) hf hv).1]; rfl
      have he : ∀ q, runPure P (eqGuard q T x y (.agg (xs.map (Value.int .i64)).toArray) (.agg (ys.map (Value.int .i64)).toArray)) = some () := fun q => by
        unfold eqGuard; cases q <;> simp [runPure_bind, runPure_program, hg, runPure_pure]
      have hbo : runPure P (binOp b T (.agg (xs.map (Value.int .i64)).toArray) (.agg (ys.map (Value.int .i64)).toArray)) = some (.bool r) := by
        rcases hbop with ⟨rfl, rfl⟩ | ⟨rfl, rfl⟩
        · unfold binOp; simp only [runPure_bind, hrun, Option.bind_some, runPure_pure]
        unfold binOp; simp only [runPure_bind, hrun, Option.bind_some, runPure_pure]
      unfold purely; rw [runPure_bind, he]; simp only [Option.bind_some, hbo]; rfl
    cases hb
end
end Go.Fs
namespace Go.Fs
variable {P : Program} {orc : FuncId → List Value → Heap → Option (Value × Heap)} {rnd : Option Nat} {h h' h0 h1 h2 : Heap} {S S' S0 B G : List Nat} {σ σ' : Sto} {t t' : Tr} {ms : List Nat} {fl nw : VL} {ops : Array Oper} {n : Nat} {l : List Oper} {K : VL → Sto → Prop} {Q : Ex → VL → Sto → Prop}
  {d : Tmp} {ty : TypeId} {pos : String} {after : Array Edge} {op : Op} {v pv : PV} {g : Option (Nat × Bool)} {x y z : Operand} {T T' e : TypeId} {w : Value} {s : ByteArray} {p : Nat}
theorem FreshO.rng (hT : P.underlying T = some .string := by kernel_rfl) (hx : evV fl x = some (.v .str s) := by rfl) : FreshO P fl (.range T x) (.it s 0) :=
  ⟨rfl, fun h S t hs hok hS => by
    have hv : evalO t x = .string s := RepV.str (hs x (by simp [Op.operands]) _ hx : RepV h S .str _ s); refine ⟨fun k => .pointer (some ⟨k, 0, none⟩), .iter s 0, fun _ => rfl, fun S' hN hm => ⟨h.next, rfl, hm, by rw [Heap.get_push, if_pos rfl]⟩, fun H _ _ _ _ _ => ?_⟩; show fsRange P T (evalO t x) H = _; rw [hv]
    simp [fsRange, hT]⟩
theorem MakeV.nextT (hp : p < s.size) (hx : evV fl x = some (.raw w)) : MakeV P fl ((w, .it s p) :: σ) (.next x true) fun v σ' => v = .tup [.v .bool true, .v (.int .i64) ((p : Nat) : Int), .v (.int .i32) (((Utf8.decode s p).1 : Nat) : Int)] ∧ σ' = (w, .it s (p + (Utf8.decode s p).2)) :: σ :=
  ⟨rfl, fun S0 h t L => by
    have h1 : evalO t x = w := evV_ok L.slots hx; obtain ⟨b, h3, h4, hg⟩ := L.cells _ List.mem_cons_self; have hw : w = .pointer (some ⟨b, 0, none⟩) := h3
    have hbk : blk w = [b] := by rw [hw]; rfl
    refine ⟨.tuple #[.bool true, .int .i64 ((p : Nat) : Int), .int .i32 (((Utf8.decode s p).1 : Nat) : Int)], h.set b (.iter s (p + (Utf8.decode s p).2)), _, _, ⟨rfl, rfl⟩, Made.head L (Aft.set hg (by rw [hbk]; simp)) (fun b hb => .inl hb) (by rw [hbk]; simp) fun hN => ?_, ?_, fun _ _ _ _ _ => ?_⟩
    · refine ⟨b, h3, ?_, by rw [Heap.get_set hg, if_pos rfl]⟩; rw [own_cons]; exact List.mem_append_left _ (List.mem_append_left _ (by rw [hbk]; simp))
    · exact ⟨_, rfl, _, _, rfl, RepV.ofBool _, _, _, rfl, RepV.ofInt _ _, _, _, rfl, RepV.ofInt _ _, rfl⟩
    show fsNext (evalO t x) true h = _; rw [h1, hw]
    simp [fsNext, hg, hp]⟩
theorem MakeV.nextF (hp : ¬ p < s.size) (hx : evV fl x = some (.raw w)) : MakeV P fl ((w, .it s p) :: σ) (.next x true) fun v σ' => v = .tup [.v .bool false] ∧ σ' = (w, .it s p) :: σ :=
  ⟨rfl, fun S0 h t L => by
    have h1 : evalO t x = w := evV_ok L.slots hx; obtain ⟨b, h3, h4, hg⟩ := L.cells _ List.mem_cons_self; have hw : w = .pointer (some ⟨b, 0, none⟩) := h3; refine ⟨.tuple #[.bool false], h, _, _, ⟨rfl, rfl⟩, Made.same L (Aft.refl h []), ⟨_, rfl, _, _, rfl, RepV.ofBool _, rfl⟩, fun _ _ _ _ _ => ?_⟩; show fsNext (evalO t x) true h = _; rw [h1, hw]
    simp [fsNext, hg, hp]⟩
theorem VO.next (hx : evV fl x = some (.raw w)) (h1 : p < s.size → VO P orc ops n l ((d, .tup [.v .bool true, .v (.int .i64) ((p : Nat) : Int), .v (.int .i32) (((Utf8.decode s p).1 : Nat) : Int)]) :: fl) ((w, .it s (p + (Utf8.decode s p).2)) :: σ) K) (h2 : ¬ p < s.size → VO P orc ops n l ((d, .tup [.v .bool false]) :: fl) ((w, .it s p) :: σ) K)
    (hw : wantV ops fl g = some true := by rfl) (hn : (Nat.blt d n && Nat.ble n 4000) = true := by rfl) : VO P orc ops n (⟨some d, .next x true, ty, pos, after, g⟩ :: l) fl ((w, .it s p) :: σ) K := by
  by_cases hp : p < s.size
  · exact VO.mk (MakeV.nextT hp hx) (by rintro _ _ ⟨rfl, rfl⟩; exact h1 hp) hw hn
  exact VO.mk (MakeV.nextF hp hx) (by rintro _ _ ⟨rfl, rfl⟩; exact h2 hp) hw hn
theorem CalmV.ext0 {b : Bool} (hx : evV fl x = some (.tup [.v .bool b]) := by rfl) : CalmV P fl σ (.extract x 0) (.v .bool b) := ⟨rfl, fun h S t hs _ => by
  obtain ⟨us, h1, u, r, rfl, h2, h3⟩ := (hs x (by simp [Op.operands]) _ hx : RepPV h S (.tup [.v .bool b]) _); obtain rfl : r = [] := h3; have hu : u = .bool b := RepV.bool h2; subst hu; refine ⟨.bool b, RepV.ofBool _, fun _ _ _ _ _ H => ?_⟩; show (bif isJunk (evalO t x) then none else (runPure P (Instr.extract (evalO t x) 0)).map _) = _; rw [h1]; have hj : isJunk (.tuple [Value.bool b].toArray) = false := rfl; rw [hj]
  rfl⟩
theorem decode_low {i : Nat} (h : (s.get! i).toNat < 128) : Utf8.decode s i = ((s.get! i).toNat, 1) := by
  unfold Utf8.decode; simp only [Nat.add_zero]; rw [if_pos h]
theorem decode_high {i : Nat} (h : ¬ (s.get! i).toNat < 128) : 128 ≤ (Utf8.decode s i).1 := by
  unfold Utf8.decode; simp only [Nat.add_zero]; rw [if_neg h]
  have hr : 128 ≤ Utf8.runeError := by decide
  split
  · split
    · assumption
    exact hr
  split
  · split
    · rename_i hc; have := (Bool.and_eq_true .. ▸ hc : _ ∧ _).1; have := of_decide_eq_true this; simp only; omega
    exact hr
  split
  · split
    · rename_i hc; have := (Bool.and_eq_true .. ▸ hc : _ ∧ _).1; have := of_decide_eq_true this; simp only; omega
    exact hr
  exact hr
structure GdT (ops : Array Oper) (fl : VL) (g : Option (Nat × Bool)) (b : Bool) : Prop where
  want : ∀ {h : Heap} {S : List Nat} {t : Tr}, Slots h S t fl → ∀ o : Oper, o.guard = g → fsWanted ops t o = some b
end Go.Fs
namespace Go.Fs
instance : DecidableEq (Ty.den .str) := inferInstanceAs (DecidableEq ByteArray)
instance {k : IntKind} : DecidableEq (Ty.den (.int k)) := inferInstanceAs (DecidableEq Int)
instance : DecidableEq (Ty.den .bool) := inferInstanceAs (DecidableEq Bool)
instance {a b : Ty} [DecidableEq a.den] [DecidableEq b.den] : DecidableEq (Ty.den (.pair a b)) := inferInstanceAs (DecidableEq (a.den × b.den))
variable {P : Program} {orc : FuncId → List Value → Heap → Option (Value × Heap)} {fl : VL} {σ γ : Sto} {T : TypeId} {τ : Ty}
theorem repL_raw {h : Heap} {S : List Nat} : ∀ (us : List Value), RepL h S (us.map PV.raw) us
  | [] => rfl
  | u :: r => ⟨u, r, rfl, rfl, repL_raw r⟩
theorem CalmV.buildA {pl : List (Nat × Nat)} {parts : Array (Nat × Operand)} {zs : List Value} {ps cs : List PV} (hT : BldT P T τ pl) (hz : zeroC τ = zs := by rfl) (hps : evVs fl (parts.toList.map (·.2)) = some ps := by rfl) (hb : bldL pl (zs.map .raw) (parts.toList.map (·.1)) ps = some cs := by rfl) : CalmV P fl σ (.build T parts) (.agg cs) :=
  ⟨rfl, fun h S t hs _ => by
    obtain ⟨z, z1, z2, z3⟩ := hT.zer.zero; obtain ⟨y1, y2⟩ := zero_rep h S τ; have hr : RepL h S ps ((parts.toList.map (·.2)).map (evalO t)) := sees_list (fun x hx => hs x (by simpa [Op.operands] using hx)) hps; obtain ⟨cs', f1, f2, f3, f4⟩ := fill_bld hb hr (show RepL h S (zs.map .raw) (zeroC τ) from by rw [hz]; exact repL_raw zs) (af0_one y2); refine ⟨.agg cs'.toArray, ⟨cs', rfl, f2⟩, fun _ _ _ _ _ H => ?_⟩; show (bif (parts.toList.all fun p => (evalO t p.2).cells.toList.all oneCell) && ((((P.info? T).bind (·.zero)).map fun z => z.cells.toList.all af0) == some true) then (runPure P (Instr.build T (parts.map fun p => (p.1, evalO t p.2)))).map fun v => (v, H) else none) = _
    have c1 : (parts.toList.all fun p => (evalO t p.2).cells.toList.all oneCell) = true := by
      rw [List.map_map, List.all_map] at f3; exact f3
    have c2 : ((((P.info? T).bind (·.zero)).map fun z => z.cells.toList.all af0) == some true) = true := by
      rw [z1]
      have e : z.cells.toList.all af0 = true := by rw [z2]; exact y2
      simp only [Option.map_some, e]; rfl
    have hrun := hT.run z (parts.map fun p => (p.1, evalO t p.2)) cs'.toArray z1 (by
      rw [← f1, Array.toList_map, ← zip_map, List.map_map]; congr 1
      rw [← z2])
    rw [c1, c2, hrun]
    rfl⟩
def byteE (s : ByteArray) (i : Int) : Int := (((s.get! i.toNat).toNat : Nat) : Int)
theorem byteE_nat (s : ByteArray) (i : Nat) : byteE s i = (((s.get! i).toNat : Nat) : Int) := rfl
theorem CalmV.ixS {x y : Operand} {s : ByteArray} {i : Int} (hx : evV fl x = some (.v .str s)) (hy : evV fl y = some (.v (.int .i64) i)) (h0 : 0 ≤ i) (h1 : i < (s.size : Nat)) (hT : P.underlying T = some .string := by kernel_rfl) : CalmV P fl σ (.index T x y) (.v (.int .u8) (byteE s i)) :=
  ⟨rfl, fun h S t hq _ => by
    have hv : evalO t x = .string s := RepV.str (hq x (by simp [Op.operands]) _ hx : RepV h S .str _ s); have hi : evalO t y = .int .i64 i := RepV.int (hq y (by simp [Op.operands]) _ hy : RepV h S (.int .i64) _ i); refine ⟨.int .u8 (byteE s i), RepV.ofInt _ _, fun _ _ _ _ _ H => ?_⟩; show (if af (evalO t y) then (runPure P (Instr.index T (evalO t x) (evalO t y))).map _ else none) = _; rw [hi, hv, if_pos (show af (Value.int .i64 i) = true from rfl)]
    have hb : i.toNat < s.size := by omega
    have h8 : s[i.toNat]? = some (s.get! i.toNat) := by
      rw [getElem?_pos s i.toNat hb]; congr 1; show s.data[i.toNat] = s.data[i.toNat]!; rw [getElem!_pos s.data i.toNat hb]
    have h9 : runPure P (Instr.index T (.string s) (.int .i64 i)) = some (.int .u8 (byteE s i)) := by
      unfold Instr.index; simp only [runPure_bind, asIntOf, runPure_pure, Option.bind_some, runPure_underlying hT, if_pos h0, h8]; rfl
    rw [h9]; rfl⟩
end Go.Fs
namespace Go.Fs
variable {P : Program} {orc : FuncId → List Value → Heap → Option (Value × Heap)} {fl : VL} {σ : Sto} {T T' e ty : TypeId} {τ : Ty} {ops : Array Oper} {n : Nat} {l : List Oper} {K : VL → Sto → Prop} {d : Tmp} {pos : String} {after : Array Edge} {g : Option (Nat × Bool)} {x y : Operand} {xs : List τ.den}
theorem agg_one {w : Value} (h : oneCell w = true) : isAggV w = false := by
  cases w <;> first | rfl | cases h
end Go.Fs
namespace Go.Fs
variable {P : Program} {orc : FuncId → List Value → Heap → Option (Value × Heap)} {h h1 h2 h' : Heap} {S S0 : List Nat} {σ γ σr : Sto} {fl : VL} {ops : Array Oper} {n : Nat} {l : List Oper} {K : VL → Sto → Prop} {d : Tmp} {ty : TypeId} {pos : String} {after : Array Edge} {g : Option (Nat × Bool)}
theorem stepAt_yield {o : Oper} {c : Call} {f : Operand} {j : Nat} {ev : Operand → Value} (ho : o.op = .call c) (hc : c.callee = .value f) (hf : ev f = .func (.yield j) #[] #[]) (m : Nat) (h : Heap) :
    stepAt P orc m o ev h = fsYield (fsCode P orc m) j (c.args.toList.map ev) h := by
  unfold stepAt fsOp; rw [ho]; simp only [hc, hf]
theorem EvO.yield {QO : Tr → Heap → Prop} {o : Oper} {t : Tr} {c : Call} {f : Operand} {j : Nat} (hw : fsWanted ops t o = some true) (ho : o.op = .call c) (hc : c.callee = .value f) (hf : evalO t f = .func (.yield j) #[] #[])
    (hl : EvY P orc j (c.args.toList.map (evalO t)) h fun v h' => ∃ t', put n t o.dst v = some t' ∧ EvO P orc ops n l t' h' QO) : EvO P orc ops n (o :: l) t h QO := by
  obtain ⟨m, v, h1, hr, t1, hp, k, t2, h2, hr2, hq⟩ := hl; refine ⟨max m k, t2, h2, ?_, hq⟩; have h3 := fsYield_mono (fsCode_mono (P := P) (orc := orc) (Nat.le_max_left m k)) _ _ _ _ hr; have h4 : stepM P orc (max m k) o (evalO t) h = some (v, h1) := stepAt_M _ _ _ _ (by rw [stepAt_yield ho hc hf]; exact h3); simp only [fsOps, hw, h4, hp]; exact fsOps_mono (stepM_mono (Nat.le_max_right m k)) _ _ _ _ hr2
theorem EvY.mono {j : Nat} {args : List Value} {Q Q' : Value → Heap → Prop} (hc : EvY P orc j args h Q) (hq : ∀ v h', Q v h' → Q' v h') : EvY P orc j args h Q' :=
  let ⟨m, v, h', h1, h2⟩ := hc; ⟨m, v, h', h1, hq _ _ h2⟩
theorem EvY.round {Q : Value → Heap → Prop} {j : Nat} {j0 : Option Code} {tmps t : Tr} {params : Array Tmp} {assign body : Code} {dm : Nat} {args : List Value} (hg : h.get j = some (.loopo .ready j0 tmps n params assign body dm)) (hlen : Nat.beq args.length params.size = true) (ht : setAll n tmps (params.toList.zip args) = some t)
    (ha : EvC P orc (some j) assign ⟨t, n, []⟩ h fun e fr h1 => e = .normal ∧ ∃ jp tm n' ps' as' bo' d', h1.get j = some (.loopo .ready jp tm n' ps' as' bo' d') ∧
      EvC P orc (some j) body fr (h1.set j (.loopo .busy jp tm n' ps' as' bo' d')) fun e _ h2 => ∃ st jp2 tm2 n2 ps2 as2 bo2 d2, h2.get j = some (.loopo st jp2 tm2 n2 ps2 as2 bo2 d2) ∧
        Q (.bool (jumpOf e).isNone) (h2.set j (.loopo (bif (jumpOf e).isNone then .ready else .done) (jumpOf e) tm2 n2 ps2 as2 bo2 d2))) : EvY P orc j args h Q := by
  obtain ⟨m, e, fr, h1, hr, rfl, jp, tm, n', ps', as', bo', d', hg1, k, e2, fr2, h2, hr2, st, jp2, tm2, n2, ps2, as2, bo2, d2, hg2, hq⟩ := ha; refine ⟨max m k, _, _, ?_, hq⟩; have a1 := fsCode_mono (P := P) (orc := orc) (Nat.le_max_left m k) _ _ _ _ _ hr; have a2 := fsCode_mono (P := P) (orc := orc) (Nat.le_max_right m k) _ _ _ _ _ hr2; unfold fsYield; simp only [hg, hlen, cond_true, ht, a1, hg1, a2, hg2]
def EvFK (P : Program) (orc : FuncId → List Value → Heap → Option (Value × Heap)) (f : FuncId) (args : List Value) (h : Heap) (Q : Value → Heap → Prop) : Prop := ∃ m v h', fsEnterK P true (fsCode P orc m) f args h = some (v, h') ∧ Q v h'
theorem EvFK.mono {f : FuncId} {args : List Value} {Q Q' : Value → Heap → Prop} (hc : EvFK P orc f args h Q) (hq : ∀ v h', Q v h' → Q' v h') : EvFK P orc f args h Q' :=
  let ⟨m, v, h', h1, h2⟩ := hc; ⟨m, v, h', h1, hq _ _ h2⟩
theorem EvFK.enter {f : FuncId} {args : List Value} {fn : Func} {c : Code} {QF : Value → Heap → Prop} (hfn : P.funcs[f]? = some fn) (hc : fn.body = some c) (hn : (Nat.blt 4000 fn.ntmps || Nat.blt fn.ntmps args.length) = false)
    (hb : EvC P orc none c ⟨fillTr .leaf 0 args, fn.ntmps, []⟩ { next := h.next, low := h.next, objs := h.objs } fun e fr h1 =>
      e.goes = true ∧ ∃ h2 vs, dropMarks fr.marks h1 = some h2 ∧ fsResults P fr.t h2 fn.results.toList = some vs ∧ QF (tupled vs) { next := h2.next, low := min h.low h2.low, objs := h2.objs }) : EvFK P orc f args h QF := by
  obtain ⟨m, e, fr, h1, hr, hg, h2, vs, hd, hvs, hq⟩ := hb; refine ⟨m, _, _, ?_, hq⟩; unfold fsEnterK; simp only [hfn, hc, hn, cond_false, hr, hg, cond_true, hd, hvs, Bool.not_true, Bool.false_and]
theorem EvC.rangeFunc {fr : Fr} {Q : Ex → Fr → Heap → Prop} {x : Operand} {f : FuncId} {a c : Array Value} {ps : Array Tmp} {assign body : Code} (hgv : evalO fr.t x = .func (.func f) a c)
    (hl : EvFK P orc f (a.toList ++ [.func (.yield (h.push .defd).next) #[] #[]] ++ c.toList) ((h.push .defd).push (.loopo .ready none fr.t fr.n ps assign body h.next)) fun _ h3 =>
      ∃ st e tm n' ps' as' bo' d', h3.get (h.push .defd).next = some (.loopo st (jumpOf e) tm n' ps' as' bo' d') ∧ st ≠ .busy ∧ Q e ⟨fr.t, fr.n, h.next :: fr.marks⟩ (h3.set (h.push .defd).next (.loopo .exhausted (jumpOf e) tm n' ps' as' bo' d'))) :
    EvC P orc none (.rangeFunc x ps assign body) fr h Q := by
  obtain ⟨m, v, h3, hr, st, e, tm, n', ps', as', bo', d', hg, hst, hq⟩ := hl; refine ⟨m + 1, e, _, _, ?_, hq⟩; show fsRangeFunc P (fsCode P orc m) none x ps assign body fr h = _; unfold fsRangeFunc fsMark; simp only [hgv, hr, hg]
  cases st with
  | busy => exact absurd rfl hst
  | _ => cases e <;> rfl
section
variable (P orc)
def VYG (yv : Value) (args : List PV) (γ : Sto) (Q : PV → Sto → Prop) : Prop := ∀ (h : Heap) (S : List Nat) (us : List Value), HOk h → (∀ b ∈ S, b < h.next) → (∀ c ∈ γ, CellR h (own γ ++ S) c.1 c.2) → (own γ).Nodup → (∀ b ∈ own γ, b ∉ S) → RepL h (own γ ++ S) args us →
  ∃ j, yv = .func (.yield j) #[] #[] ∧ EvY P orc j us h fun u h' => ∃ r γ', Q r γ' ∧ Made S h h' γ γ' ∧ RepPV h' (own γ' ++ S) r u
end
theorem VO.callY {f : Operand} {args : Array Operand} {ats : Array TypeId} {yv : Value} {asl : List PV} {Q : PV → Sto → Prop} (γ : Sto) (hσ : γ ++ σ = σr) (hf : evV fl f = some (.raw yv)) (ha : evVs fl args.toList = some asl) (hc : VYG P orc yv asl γ Q) (hk : ∀ r γ', Q r γ' → VO P orc ops n l ((d, r) :: fl) (γ' ++ σ) K)
    (hw : wantV ops fl g = some true := by rfl) (hn : (Nat.blt d n && Nat.ble n 4000) = true := by rfl) : VO P orc ops n (⟨some d, .call { callee := .value f, args := args, argTypes := ats }, ty, pos, after, g⟩ :: l) fl σr K := fun h0 G S0 t h ms Iv0 => by
  subst hσ; obtain ⟨n1, n2⟩ := fits hn; have L := Iv0.lc; have hap := L.apart; rw [own_app] at hap; obtain ⟨hap1, hap2, hap3⟩ := List.nodup_append.1 hap; have hfv : evalO t f = yv := evV_ok Iv0.slots hf; have hargs := evVs_ok Iv0.slots ha; rw [own_app, List.append_assoc] at hargs
  have hcells : ∀ c ∈ γ, CellR h (own γ ++ (own σ ++ S0)) c.1 c.2 := fun c hc => by
    have := L.cells c (List.mem_append_left _ hc)
    rwa [own_app, List.append_assoc] at this
  obtain ⟨j, hj, hY⟩ := hc h (own σ ++ S0) _ Iv0.ok (fun b hb => L.lt b (by
    rcases List.mem_append.1 hb with hb | hb
    · exact List.mem_append_left _ (by rw [own_app]; exact List.mem_append_right _ hb)
    · exact List.mem_append_right _ hb)) hcells hap1 (fun b hb hm => by
    rcases List.mem_append.1 hm with hm | hm
    · exact hap3 b hb b hm rfl
    exact L.sep b (by rw [own_app]; exact List.mem_append_left _ hb) hm) hargs
  refine EvO.yield (want_ok Iv0.slots hw) rfl rfl (hfv.trans hj) (hY.mono fun u h' hq => ?_); obtain ⟨r, γ', q1, q2, q3⟩ := hq; refine ⟨_, put_fits n1 t u, hk r γ' q1 h0 G S0 _ h' ms ((Iv0.made (Made.app L q2)).set ?_ n2)⟩; rw [own_app, List.append_assoc]; exact q3
def prmVL : List Tmp → List PV → VL → VL
  | p :: ps, a :: asl, fl => prmVL ps asl ((p, a) :: fl)
  | _, _, fl => fl
theorem slots_setAll (hn4 : n ≤ 4000) : ∀ {ps : List Tmp} {asl : List PV} {us : List Value} {t : Tr} {fl : VL}, (∀ p ∈ ps, Nat.blt p n = true) → Slots h S t fl → RepL h S asl us → ps.length = asl.length →
    ∃ t', setAll n t (ps.zip us) = some t' ∧ Slots h S t' (prmVL ps asl fl)
  | [], asl, us, t, fl, _, hs, hr, _ => ⟨t, by cases us <;> rfl, by cases asl <;> exact hs⟩
  | p :: ps, [], us, t, fl, _, hs, hr, hl => by cases hl
  | p :: ps, a :: asl, us, t, fl, hp, hs, ⟨u, r, h1, h2, h3⟩, hl => by
    subst h1; have hpn := hp p List.mem_cons_self; have hp4 : p < 4000 := Nat.lt_of_lt_of_le (nblt hpn) hn4; obtain ⟨t', e1, e2⟩ := slots_setAll (ps := ps) (asl := asl) (us := r) (t := t.set depth p u) (fl := (p, a) :: fl) hn4 (fun q hq => hp q (List.mem_cons_of_mem _ hq)) (hs.set h2 hp4) h3 (by simpa using hl); refine ⟨t', ?_, e2⟩; show setAll n t ((p, u) :: ps.zip r) = _; unfold setAll; rw [put_fits hpn]; exact e1
theorem VYG.round {yv : Value} {fl0 : VL} {ps : Array Tmp} {assign body : Code} {args : List PV} {Qb : Ex → VL → Sto → Prop} (hlen : ps.size = args.length) (hps : ∀ p ∈ ps.toList, Nat.blt p n = true) (hn4 : n ≤ 4000)
    (hb : ∀ j, VC P orc (some j) assign n (prmVL ps.toList args fl0) γ (fun e fl σ => e = .normal ∧ VC P orc (some j) body n fl σ Qb)) :
    VYG P orc yv args ((yv, .loop .ready none n fl0 ps assign body) :: γ) (fun r γ' => ∃ e fl σ', Qb e fl σ' ∧ r = .v .bool (jumpOf e).isNone ∧ γ' = (yv, .loop (bif (jumpOf e).isNone then .ready else .done) (jumpOf e) n fl0 ps assign body) :: σ') := by
  intro h S us hok hS hcells hnd hsep ha; obtain ⟨j, tmps, dm, hyv, hjS, hg, hsl⟩ := hcells _ List.mem_cons_self; have hyv' : yv = .func (.yield j) #[] #[] := hyv; subst hyv'; have how : ∀ (c : Cell) (s : Sto), own ((.func (.yield j) #[] #[], c) :: s) = j :: own s := fun c s => rfl; rw [how] at hcells hnd hsep ha hsl; obtain ⟨hj1, hnd2⟩ := List.nodup_cons.1 hnd; have hjn : j < h.next := hok j _ hg; have hjS' : j ∉ S := hsep j List.mem_cons_self
  have goes0 : Goes h (j :: own γ ++ S) h (own γ ++ (j :: S)) := Goes.less fun b hb => by
    rcases List.mem_append.1 hb with hb | hb
    · exact List.mem_append_left _ (List.mem_cons_of_mem _ hb)
    rcases List.mem_cons.1 hb with hb | hb
    · subst hb; exact List.mem_append_left _ List.mem_cons_self
    exact List.mem_append_right _ hb
  obtain ⟨t1, hset, hsl1⟩ := slots_setAll (n := n) hn4 hps hsl ha hlen; have hlu := ha.len
  have I1 : Iv h (own γ) (j :: S) h γ t1 [] (prmVL ps.toList args fl0) := {
    ok := hok
    s0 := fun b hb => by
      rcases List.mem_cons.1 hb with hb | hb
      · subst hb; exact hjn
      exact hS b hb
    aft := Aft.refl _ _
    cells := fun c hc => (hcells c (List.mem_cons_of_mem _ hc)).keep (fun _ _ => rfl) goes0 fun b hb => List.mem_append_left _ (List.mem_flatMap.2 ⟨c, hc, hb⟩)
    new := fun b hb => ⟨.inl hb, fun hm => by
      rcases List.mem_cons.1 hm with hm | hm
      · subst hm; exact hj1 hb
      exact hsep b (List.mem_cons_of_mem _ hb) hm⟩
    apart := hnd2
    mark := fun d hd => by cases hd
    marks := List.nodup_nil
    slots := hsl1.nx goes0 }
  refine ⟨j, rfl, EvY.round hg (by rw [hlu, ← hlen]; exact Nat.beq_refl _) hset ((hb j h (own γ) (j :: S) t1 h [] I1).mono fun e fr h1 hq => ?_)⟩; obtain ⟨hfn, fl1, σ1, Iv1, he, hbody⟩ := hq; have g1 : h1.get j = h.get j := Iv1.aft.get j hjn hj1; have hg1 := g1.trans hg; refine ⟨he, _, _, _, _, _, _, _, hg1, ?_⟩
  let B : AObj := .loopo .busy none tmps n ps assign body dm
  have hgB : ∀ b, (h1.set j B).get b = if b = j then some B else h1.get b := fun b => Heap.get_set hg1 ..; have hgA : ∀ b, (h.set j B).get b = if b = j then some B else h.get b := fun b => Heap.get_set hg ..; have hj2 : j ∉ own σ1 := fun hm => (Iv1.new j hm).2 List.mem_cons_self
  have goes1 : Goes h1 (own σ1 ++ (j :: S)) (h1.set j B) (own σ1 ++ (j :: S)) := fun b o hb hn => ⟨by
    rw [hgB, if_neg (fun e => hn (by subst e; exact List.mem_append_right _ List.mem_cons_self))]; exact hb, hn⟩
  have a2 := (Aft.set (h := h1) (o' := B) (B := [j]) hg1 List.mem_cons_self)
  have I2 : Iv (h.set j B) (own γ) (j :: S) (h1.set j B) σ1 fr.t fr.marks fl1 := {
    ok := a2.ok Iv1.ok
    s0 := I1.s0
    aft := {
      next := Iv1.aft.next
      get := fun b hb hn => by
        rw [hgB, hgA]; split
        · rfl
        exact Iv1.aft.get b hb hn
      ok := fun _ => a2.ok Iv1.ok
      low := fun e h3 h4 h5 => by
        have h6 : e ≤ h.low := Nat.le_trans h3 (Nat.min_le_left _ _); have h7 : e ≤ j := Nat.le_trans h3 (Nat.min_le_right _ _); exact Nat.le_min.2 ⟨Iv1.aft.low e h6 h4 h5, h7⟩
      chg := fun b hb => by
        rw [hgB, hgA]; by_cases e : b = j
        · rw [if_pos e, if_pos e]; exact .inl rfl
        rw [if_neg e, if_neg e]; rcases Iv1.aft.chg b hb with h3 | h3
        · exact .inl h3
        exact .inr (Nat.le_trans (Nat.min_le_left _ _) h3)
      lowle := by
        show min h1.low j ≤ min h.low j; have := Iv1.aft.lowle
        omega }
    cells := fun c hc => (Iv1.cells c hc).keep (fun b hb => by
      rw [hgB, if_neg (fun e => hj2 (by subst e; exact List.mem_flatMap.2 ⟨c, hc, hb⟩))]) goes1 fun b hb => List.mem_append_left _ (List.mem_flatMap.2 ⟨c, hc, hb⟩)
    new := Iv1.new
    apart := Iv1.apart
    mark := fun d hd => by
      obtain ⟨m1, m2⟩ := Iv1.mark d hd; refine ⟨m1, ?_⟩; rw [hgB, if_neg (fun e => by subst e; rw [hg1] at m2; cases m2)]; exact m2
    marks := Iv1.marks
    slots := Iv1.slots.nx goes1 }
  have hfr : fr = ⟨fr.t, n, fr.marks⟩ := by cases fr; cases hfn; rfl
  rw [hfr]; refine (hbody (h.set j B) (own γ) (j :: S) fr.t (h1.set j B) fr.marks I2).mono fun e2 fr2 h2 hq2 => ?_; obtain ⟨_, fl2, σ2, Iv2, hQb⟩ := hq2; have hj3 : j ∉ own σ2 := fun hm => (Iv2.new j hm).2 List.mem_cons_self
  have g2 : h2.get j = some B := by
    rw [Iv2.aft.get j hjn hj1, hgA, if_pos rfl]
  refine ⟨_, _, _, _, _, _, _, _, g2, .v .bool (jumpOf e2).isNone, _, ⟨e2, fl2, σ2, hQb, rfl, rfl⟩, ?_, RepV.ofBool _⟩
  let C : AObj := .loopo (bif (jumpOf e2).isNone then .ready else .done) (jumpOf e2) tmps n ps assign body dm
  have hgC : ∀ b, (h2.set j C).get b = if b = j then some C else h2.get b := fun b => Heap.get_set g2 ..; have at1 : Aft h (h.set j B) (j :: own γ) := Aft.set hg List.mem_cons_self; have at2 : Aft h h2 (j :: own γ) := at1.trans Iv2.aft fun i hi => .inl (List.mem_cons_of_mem _ hi); have at3 : Aft h (h2.set j C) (j :: own γ) := at2.trans (Aft.set (B := [j]) g2 List.mem_cons_self) fun i hi => .inl (by rw [List.mem_singleton.1 hi]; exact List.mem_cons_self)
  have hnew : ∀ b ∈ j :: own σ2, b ∈ j :: own γ ∨ h.next ≤ b := fun b hb => by
    rcases List.mem_cons.1 hb with hb | hb
    · subst hb; exact .inl List.mem_cons_self
    rcases (Iv2.new b hb).1 with h3 | h3
    · exact .inl (List.mem_cons_of_mem _ h3)
    exact .inr h3
  have goes3 : Goes h (j :: own γ ++ S) (h2.set j C) (j :: own σ2 ++ S) := at3.goes hok (fun b hb => List.mem_append_left _ hb) fun b hb => by
    rcases List.mem_append.1 hb with hb | hb
    · rcases hnew b hb with h3 | h3
      · exact .inl (List.mem_append_left _ h3)
      exact .inr h3
    exact .inl (List.mem_append_right _ hb)
  refine ⟨at3, hnew, List.nodup_cons.2 ⟨hj3, Iv2.apart⟩, fun c hc => ?_⟩; show CellR (h2.set j C) (j :: own σ2 ++ S) c.1 c.2; rcases List.mem_cons.1 hc with hc' | hc'
  · subst hc'; exact ⟨j, tmps, dm, rfl, List.mem_append_left _ List.mem_cons_self, by rw [hgC, if_pos rfl], hsl.nx goes3⟩
  refine (Iv2.cells c hc').keep (fun b hb => ?_) (fun b o hb hn => ⟨?_, fun hm => ?_⟩) fun b hb => List.mem_append_left _ (List.mem_cons_of_mem _ (List.mem_flatMap.2 ⟨c, hc', hb⟩))
  · rw [hgC, if_neg (fun e => hj3 (by subst e; exact List.mem_flatMap.2 ⟨c, hc', hb⟩))]
  · rw [hgC, if_neg (fun e => hn (by subst e; exact List.mem_append_right _ List.mem_cons_self))]; exact hb
  rcases List.mem_append.1 hm with hm | hm
  · rcases List.mem_cons.1 hm with hm | hm
    · exact hn (by subst hm; exact List.mem_append_right _ List.mem_cons_self)
    exact hn (List.mem_append_left _ hm)
  exact hn (List.mem_append_right _ (List.mem_cons_of_mem _ hm))
theorem VYG.mono {yv : Value} {args : List PV} {Q Q' : PV → Sto → Prop} (hy : VYG P orc yv args γ Q) (hq : ∀ r s, Q r s → Q' r s) : VYG P orc yv args γ Q' := fun h S us a1 a2 a3 a4 a5 a6 => by
  obtain ⟨j, e, hY⟩ := hy h S us a1 a2 a3 a4 a5 a6; exact ⟨j, e, hY.mono fun u h' ⟨r, γ', q1, q2⟩ => ⟨r, γ', hq _ _ q1, q2⟩⟩
section
variable (P orc)
def VFGK (f : FuncId) (args : List PV) (γ : Sto) (Q : Sto → Prop) : Prop := ∀ (h : Heap) (S : List Nat) (us : List Value), HOk h → (∀ b ∈ S, b < h.next) → (∀ c ∈ γ, CellR h (own γ ++ S) c.1 c.2) → (own γ).Nodup → (∀ b ∈ own γ, b ∉ S) → RepL h (own γ ++ S) args us →
  EvFK P orc f us h fun _ h' => ∃ γ', Q γ' ∧ Made S h h' γ γ'
def IterC {X : Type} (f : FuncId) (a c : List PV) (asl : X → List PV) (xs : List X) : Prop := ∀ (yv : Value) (I : List X → Sto → Prop) (E : Sto → Prop) (γ : Sto),
  (∀ x rest γ, I (x :: rest) γ → VYG P orc yv (asl x) γ fun r γ' => (r = .v .bool true ∧ I rest γ') ∨ (r = .v .bool false ∧ E γ')) → I xs γ → VFGK P orc f (a ++ [.raw yv] ++ c) γ fun γ' => I [] γ' ∨ E γ'
end
theorem VFGK.enter {f : FuncId} {args : List PV} {fn : Func} {c : Code} {Q : Sto → Prop} (hfn : P.funcs[f]? = some fn) (hc : fn.body = some c) (hres : fn.results.toList = []) (hn : (Nat.blt 4000 fn.ntmps || Nat.blt fn.ntmps args.length) = false)
    (hb : VC P orc none c fn.ntmps (argVL 0 args) γ (fun e _ σ => e.goes = true ∧ Q σ)) : VFGK P orc f args γ Q := fun h S us hok hS hcells hnd hsep ha => by
  have hl := ha.len
  have hn2 : Nat.blt 4000 fn.ntmps = false ∧ Nat.blt fn.ntmps args.length = false := by simpa using hn
  have n3 := nble_no hn2.1; have n4 := nble_no hn2.2; have ha' : RepL (entry h) (own γ ++ S) args us := RepL.nx (h := h) (h' := entry h) (fun _ _ a b => ⟨a, b⟩) ha
  have I0 : Iv (entry h) (own γ) S (entry h) γ (fillTr .leaf 0 us) [] (argVL 0 args) := {
    ok := hok
    s0 := hS
    aft := Aft.refl _ _
    cells := fun c hc => (hcells c hc).keep (fun _ _ => rfl) (fun _ _ a b => ⟨a, b⟩) fun b hb => List.mem_append_left _ (List.mem_flatMap.2 ⟨c, hc, hb⟩)
    new := fun b hb => ⟨.inl hb, hsep b hb⟩
    apart := hnd
    mark := fun d hd => by cases hd
    marks := List.nodup_nil
    slots := slots_args ha' (by omega) }
  refine EvFK.enter hfn hc (by rw [hl]; exact hn) ((hb (entry h) (own γ) S _ (entry h) [] I0).mono fun e fr h1 hq => ?_); obtain ⟨_, fl', σ', Iv1, he, hQ⟩ := hq; obtain ⟨h2, d1, d2, d3⟩ := drops_ok Iv1.marks fun d hd => (Iv1.mark d hd).2
  have hgd : ∀ b o, h1.get b = some o → o ≠ .defd → h2.get b = some o := fun b o hg hne => by
    rw [d3 b (fun hm => hne (by have := (Iv1.mark b hm).2; rw [hg] at this; exact Option.some.inj this))]; exact hg
  have a2 : Aft (entry h) h2 (own γ) := Iv1.aft.trans d2 fun i hi => .inr (Iv1.mark i hi).1
  have hrow : ∀ c ∈ σ', ∀ b ∈ blk c.1, h2.get b = h1.get b := fun c hc b hb => by
    obtain ⟨o, hg, hne⟩ := (Iv1.cells c hc).isObj b hb; rw [hgd b _ hg hne, hg]
  have hcell2 : ∀ c ∈ σ', CellR h2 (own σ' ++ S) c.1 c.2 := fun c hc => by
    have hx := Iv1.cells c hc; have hN : GoesR h1 (own σ' ++ S) h2 (own σ' ++ S) := fun b _ hg hne hbS => ⟨hgd b _ hg hne, hbS⟩; have hgb := hrow c hc; obtain ⟨w, cc⟩ := c
    cases cc with
    | row e τ xs =>
      rcases hx with hx | ⟨b, rs, m, h3, h4, h5, h6⟩
      · exact .inl hx
      exact .inr ⟨b, rs, m, h3, h4, hgd b _ h5 (by simp), h6.1, fun i hi => (h6.2 i hi).nxR hN⟩
    | var cs =>
      obtain ⟨b, e, vs, h3, h4, h5, h6, h7⟩ := hx
      exact ⟨b, e, vs, h3, h4, hgd b _ h5 (by simp), h6.nxR hN, h7⟩
    | cap e k τ xs =>
      obtain ⟨b, rs, m, h3, h4, h5, h6, h7, h8⟩ := hx
      exact ⟨b, rs, m, h3, h4, hgd b _ h5 (by simp), h6, h7, h8.1, fun i hi => (h8.2 i hi).nxR hN⟩
    | mp κ ν kvs =>
      obtain ⟨b, es, c, h3, h4, h5, h6, h7⟩ := hx
      exact ⟨b, es, c, h3, h4, hgd b _ h5 (by simp), h6, fun i hi hj => ⟨⟨(h7 i hi hj).1.1, (h7 i hi hj).1.2.nxR hN⟩, ⟨(h7 i hi hj).2.1, (h7 i hi hj).2.2.nxR hN⟩⟩⟩
    | it s pos =>
      obtain ⟨b, h3, h4, h5⟩ := hx
      exact ⟨b, h3, h4, hgd b _ h5 (by simp)⟩
    | loop st jump n fl ps assign body =>
      obtain ⟨l, tmps, d, h3, h4, h5, h6⟩ := hx
      exact ⟨l, tmps, d, h3, h4, hgd l _ h5 (by simp), h6.nxR hN⟩
    | cel e n cs =>
      rcases hx with hx | ⟨b, rs, m, h3, h4, h5, h6, h7⟩
      · exact .inl hx
      exact .inr ⟨b, rs, m, h3, h4, hgd b _ h5 (by simp), h6.nxR hN, h7⟩
  have hnew2 : ∀ b ∈ own σ', b ∈ own γ ∨ h.next ≤ b := fun b hb => (Iv1.new b hb).1; refine ⟨he, h2, [], d1, by rw [hres]; rfl, σ', hQ, ⟨⟨a2.next, a2.get, fun x => a2.ok x, fun e h3 h4 h5 => Nat.le_min.2 ⟨h3, a2.low e (Nat.le_trans h4 (Nat.le_refl _)) h4 h5⟩, fun b hb => ?_, Nat.min_le_left _ _⟩, hnew2, Iv1.apart, fun c hc => (hcell2 c hc).keep (fun _ _ => rfl) (fun _ _ a b => ⟨a, b⟩) fun b hb => List.mem_append_left _ (List.mem_flatMap.2 ⟨c, hc, hb⟩)⟩⟩; rcases a2.chg b hb with h3 | h3
  · exact .inl h3
  exact .inr (Nat.le_trans (Nat.min_le_right _ _) h3)
theorem IterC.enter {X : Type} {f : FuncId} {a c : List PV} {asl : X → List PV} {xs : List X} {fn : Func} {cd : Code} (hfn : P.funcs[f]? = some fn) (hc : fn.body = some cd) (hres : fn.results.toList = []) (hn : ∀ yv : Value, (Nat.blt 4000 fn.ntmps || Nat.blt fn.ntmps (a ++ [PV.raw yv] ++ c).length) = false)
    (hb : ∀ (yv : Value) (I : List X → Sto → Prop) (E : Sto → Prop) (γ : Sto), (∀ x rest γ, I (x :: rest) γ → VYG P orc yv (asl x) γ fun r γ' => (r = .v .bool true ∧ I rest γ') ∨ (r = .v .bool false ∧ E γ')) → I xs γ →
      VC P orc none cd fn.ntmps (argVL 0 (a ++ [.raw yv] ++ c)) γ (fun e _ σ => e.goes = true ∧ (I [] σ ∨ E σ))) : IterC P orc f a c asl xs := fun yv I E γ hy h0 => VFGK.enter hfn hc hres (hn yv) (hb yv I E γ hy h0)
theorem VC.rangeFunc {X : Type} {asl : X → List PV} {xs : List X} {f : FuncId} {a c : List PV} {x : Operand} {ps : Array Tmp} {assign body : Code} {Q : Ex → VL → Sto → Prop} (hg : evV fl x = some (.clo f a c)) (hit : IterC P orc f a c asl xs) (hlen : ∀ y, ps.size = (asl y).length) (hps : ps.toList.all (fun p => Nat.blt p n) = true) (hn4 : Nat.ble n 4000 = true)
    (I : List X → Sto → Prop) (E : Ex → Sto → Prop) (h0 : I xs σ)
    (hb : ∀ j y rest σ, I (y :: rest) σ → VC P orc (some j) assign n (prmVL ps.toList (asl y) fl) σ fun e fl' σ' => e = .normal ∧ VC P orc (some j) body n fl' σ' fun e _ σ' => (e = .normal ∧ I rest σ') ∨ (e ≠ .normal ∧ E e σ'))
    (h1 : ∀ σ', I [] σ' → Q .normal fl σ') (h2 : ∀ e σ', e ≠ .normal → E e σ' → Q e fl σ') : VC P orc none (.rangeFunc x ps assign body) n fl σ Q := fun hb0 G S0 t h ms Iv0 => by
  obtain ⟨va, vc, hv, ra, rc⟩ := (evV_ok Iv0.slots hg : RepPV h _ (.clo f a c) (evalO t x))
  let hm := h.push .defd
  let j := hm.next
  let yv : Value := .func (.yield j) #[] #[]
  let L : AObj := .loopo .ready none t n ps assign body h.next
  have hjd : j = h.next + 1 := rfl
  have hg2 : ∀ b, (hm.push L).get b = if b = h.next + 1 then some L else if b = h.next then some .defd else h.get b := fun b => by
    rw [Heap.get_push]; show (if b = h.next + 1 then _ else (h.push .defd).get b) = _; rw [Heap.get_push]
  have ap : Aft h (hm.push L) (j :: own σ) := (Aft.push h .defd _).trans (Aft.push hm L (j :: own σ)) fun i hi => .inl hi; have hlt : ∀ b ∈ own σ, b < h.next := own_lt Iv0.cells Iv0.ok; have Lc0 := Iv0.lc
  have goes0 : Goes h (own σ ++ S0) (hm.push L) (j :: own σ ++ S0) := fun b o hb hn => by
    have hbn : b < h.next := Iv0.ok b o hb; refine ⟨by rw [hg2, if_neg (by omega), if_neg (by omega)]; exact hb, fun hm2 => ?_⟩; rcases List.mem_append.1 hm2 with hm2 | hm2
    · rcases List.mem_cons.1 hm2 with hm2 | hm2
      · omega
      exact hn (List.mem_append_left _ hm2)
    exact hn (List.mem_append_right _ hm2)
  have hS0 : ∀ b ∈ S0, b < h.next := Lc0.s0
  have hj1 : j ∉ own σ := fun hm2 => by have := hlt j hm2; omega
  have hit2 := hit yv (fun rest γ => ∃ σ', γ = (yv, .loop .ready none n fl ps assign body) :: σ' ∧ I rest σ') (fun γ => ∃ e σ', e ≠ .normal ∧ γ = (yv, .loop .done (jumpOf e) n fl ps assign body) :: σ' ∧ E e σ') ((yv, .loop .ready none n fl ps assign body) :: σ)
    (fun y rest γ ⟨σ', hγ, hI⟩ => by
      subst hγ; refine (VYG.round (hlen y) (fun p hp => List.all_eq_true.1 hps p hp) (nble hn4) (fun jj => hb jj y rest σ' hI)).mono fun r s hq => ?_; obtain ⟨e, fl', σ2, hQ, rfl, rfl⟩ := hq; rcases hQ with ⟨rfl, hI2⟩ | ⟨hne, hE⟩
      · exact .inl ⟨rfl, σ2, rfl, hI2⟩
      refine .inr ⟨?_, e, σ2, hne, ?_, hE⟩
      · cases e <;> first | exact absurd rfl hne | rfl
      cases e <;> first | exact absurd rfl hne | rfl)
    ⟨σ, rfl, h0⟩
  have how : ∀ (c : Cell) (s : Sto), own ((yv, c) :: s) = j :: own s := fun c s => rfl; refine EvC.rangeFunc (fr := ⟨t, n, ms⟩) hv ((hit2 (hm.push L) S0 _ (ap.ok Iv0.ok) (fun b hb => by have := hS0 b hb; have := ap.next; omega) (fun cc hc => ?_) (by rw [how]; exact List.nodup_cons.2 ⟨hj1, Iv0.apart⟩) (fun b hb => ?_) ?_).mono fun u h3 hq => ?_)
  · rw [how]; rcases List.mem_cons.1 hc with hc' | hc'
    · subst hc'; exact ⟨j, t, h.next, rfl, List.mem_append_left _ List.mem_cons_self, by rw [hg2, if_pos hjd], Iv0.slots.nx goes0⟩
    refine (Iv0.cells cc hc').keep (fun b hb => ?_) goes0 fun b hb => List.mem_append_left _ (List.mem_cons_of_mem _ (List.mem_flatMap.2 ⟨cc, hc', hb⟩)); have := hlt b (List.mem_flatMap.2 ⟨cc, hc', hb⟩); rw [hg2, if_neg (by omega), if_neg (by omega)]
  · rw [how] at hb; intro hbs; rcases List.mem_cons.1 hb with hb | hb
    · have := hS0 b hbs; omega
    exact (Iv0.new b hb).2 hbs
  · rw [how]; have ry : RepL (hm.push L) (j :: own σ ++ S0) [.raw yv] [yv] := ⟨yv, [], rfl, rfl, rfl⟩; exact ((ra.nx goes0).append ry).append (rc.nx goes0)
  obtain ⟨γ', hq, made⟩ := hq
  have key : ∃ st e σ', st ≠ .busy ∧ γ' = (yv, .loop st (jumpOf e) n fl ps assign body) :: σ' ∧ Q e fl σ' := by
    rcases hq with ⟨σ', rfl, hI⟩ | ⟨e, σ', hne, rfl, hE⟩
    · exact ⟨.ready, .normal, σ', (fun e => by cases e), rfl, h1 σ' hI⟩
    exact ⟨.done, e, σ', (fun e => by cases e), rfl, h2 e σ' hne hE⟩
  obtain ⟨st, e, σ', hst, rfl, hQ⟩ := key; obtain ⟨j', tm, dm, hj', hjS, hgj, _⟩ := made.cells _ List.mem_cons_self
  have hjj : j = j' := by
    have : yv = .func (.yield j') #[] #[] := hj'; injection this with h5; injection h5
  subst hjj; refine ⟨st, e, tm, n, ps, assign, body, dm, hgj, hst, rfl, fl, σ', ?_, hQ⟩; have hnd := made.apart; rw [how] at hnd; obtain ⟨hj3, hnd2⟩ := List.nodup_cons.1 hnd
  let C : AObj := .loopo .exhausted (jumpOf e) tm n ps assign body dm
  have hgC : ∀ b, (h3.set j C).get b = if b = j then some C else h3.get b := fun b => Heap.get_set hgj ..; have ma : Aft (hm.push L) h3 (j :: own σ) := made.aft; have at3 : Aft h (h3.set j C) (j :: own σ) := (ap.trans ma fun i hi => .inl hi).trans (Aft.set (B := [j]) hgj List.mem_cons_self) fun i hi => .inl (by rw [List.mem_singleton.1 hi]; exact List.mem_cons_self)
  have hnew : ∀ b ∈ own σ', b ∈ own σ ∨ h.next ≤ b := fun b hb => by
    rcases made.new b (by rw [how]; exact List.mem_cons_of_mem _ hb) with h5 | h5
    · rw [how] at h5; rcases List.mem_cons.1 h5 with h5 | h5
      · subst h5; exact absurd hb hj3
      exact .inl h5
    have := ap.next; exact .inr (by omega)
  have goes3 : Goes h (own σ ++ S0) (h3.set j C) (own σ' ++ S0) := fun b o hb hn => by
    have hbn : b < h.next := Iv0.ok b o hb
    refine ⟨by rw [at3.get b hbn (fun hm2 => by
      rcases List.mem_cons.1 hm2 with hm2 | hm2
      · omega
      exact hn (List.mem_append_left _ hm2))]; exact hb, fun hm2 => ?_⟩
    rcases List.mem_append.1 hm2 with hm2 | hm2
    · rcases hnew b hm2 with h5 | h5
      · exact hn (List.mem_append_left _ h5)
      omega
    exact hn (List.mem_append_right _ hm2)
  have hdef : h3.get h.next = some .defd := by
    rw [ma.get h.next (by show h.next < h.next + 1 + 1; omega) (fun hm2 => by
      rcases List.mem_cons.1 hm2 with hm2 | hm2
      · omega
      have := hlt _ hm2; omega), hg2, if_neg (by omega), if_pos rfl]
  exact {
    ok := at3.ok Iv0.ok
    s0 := Iv0.s0
    aft := Iv0.aft.trans at3 fun i hi => by
      have := Iv0.aft.next; rcases List.mem_cons.1 hi with hi | hi
      · right; omega
      exact (Iv0.new i hi).1
    cells := fun c hc => (made.cells c (List.mem_cons_of_mem _ hc)).keep (fun b hb => by
        rw [hgC, if_neg (fun e => hj3 (by subst e; exact List.mem_flatMap.2 ⟨c, hc, hb⟩))]) (fun b o hb hn => ⟨by
        rw [hgC, if_neg (fun e => hn (by subst e; exact List.mem_append_left _ List.mem_cons_self))]; exact hb, fun hm2 => hn (by
        rcases List.mem_append.1 hm2 with hm2 | hm2
        · exact List.mem_append_left _ (List.mem_cons_of_mem _ hm2)
        exact List.mem_append_right _ hm2)⟩) fun b hb => List.mem_append_left _ (List.mem_flatMap.2 ⟨c, hc, hb⟩)
    new := fun b hb => by
      have := Iv0.aft.next; rcases hnew b hb with h5 | h5
      · exact Iv0.new b h5
      exact ⟨.inr (by omega), fun hm2 => by have := hS0 b hm2; omega⟩
    apart := hnd2
    mark := fun d hd => by
      have := Iv0.aft.next; rcases List.mem_cons.1 hd with hd | hd
      · subst hd; exact ⟨this, by rw [hgC, if_neg (by omega)]; exact hdef⟩
      obtain ⟨m1, m2⟩ := Iv0.mark d hd; refine ⟨m1, ?_⟩; have hdn : d < h.next := Iv0.ok d _ m2
      rw [at3.get d hdn (fun hm2 => by
        rcases List.mem_cons.1 hm2 with hm2 | hm2
        · omega
        obtain ⟨c, hc, hb⟩ := List.mem_flatMap.1 hm2; obtain ⟨o, hgo, hne⟩ := (Iv0.cells c hc).isObj d hb; rw [m2] at hgo
        exact hne (Option.some.inj hgo).symm)]
      exact m2
    marks := List.nodup_cons.2 ⟨fun hm2 => by have := Iv0.ok _ _ (Iv0.mark _ hm2).2; omega, Iv0.marks⟩
    slots := Iv0.slots.nx goes3 }
theorem VO.callY0 {f : Operand} {args : Array Operand} {ats : Array TypeId} {yv : Value} {asl : List PV} {Q : PV → Sto → Prop} (hf : evV fl f = some (.raw yv)) (ha : evVs fl args.toList = some asl) (hc : VYG P orc yv asl σ Q) (hk : ∀ r σ', Q r σ' → VO P orc ops n l ((d, r) :: fl) σ' K)
    (hw : wantV ops fl g = some true := by rfl) (hn : (Nat.blt d n && Nat.ble n 4000) = true := by rfl) : VO P orc ops n (⟨some d, .call { callee := .value f, args := args, argTypes := ats }, ty, pos, after, g⟩ :: l) fl σ K :=
  VO.callY (σ := []) σ (List.append_nil _) hf ha hc (fun r σ' hq => by rw [List.append_nil]; exact hk r σ' hq) hw hn
end Go.Fs
namespace Go.Fs
variable {P : Program} {orc : FuncId → List Value → Heap → Option (Value × Heap)} {h h' h0 h1 h2 : Heap} {S S' S0 B G : List Nat} {σ σ' σr : Sto} {t t' : Tr} {ms : List Nat} {fl : VL} {ops : Array Oper} {n i mem : Nat} {l : List Oper} {K : VL → Sto → Prop} {Q : Ex → VL → Sto → Prop}
  {d : Tmp} {ty : TypeId} {pos : String} {after : Array Edge} {op : Op} {v pv : PV} {g : Option (Nat × Bool)} {x y z : Operand} {T T' e : TypeId} {τ τ' : Ty} {w : Value}
def rowFrom (w : Value) (sz k : Nat) : Value :=
  match w with
  | .slice (some ⟨b, o, none⟩) n mk => cutAt sz b o k n mk
  | u => u
theorem rest_run {xs : List τ.den} {k b : Nat} {rs : List Value} {m : Bool} {H : Heap} (hT : ElT P T e τ) (hk : k ≤ xs.length) (hg : H.get b = some (.row e rs true m)) : fsSlice P T (.slice (some ⟨b, 0, none⟩) xs.length 0) (some (.int .i64 (k : Nat))) none none H = some (rowFrom (.slice (some ⟨b, 0, none⟩) xs.length 0) τ.size k) := by
  obtain ⟨i, z, hi1, hi2, _⟩ := hT.sl.info
  have e1 : Nat.ble k xs.length = true := by rw [Nat.ble_eq]; exact hk
  have e2 : Nat.ble xs.length xs.length = true := by rw [Nat.ble_eq]; exact Nat.le_refl _
  have e3 : Nat.beq e e = true := Nat.beq_refl _; have e4 : Nat.beq 0 1 = false := rfl; have e5 : Nat.beq 0 0 = true := rfl; have h0 : (0 : Int) ≤ (k : Nat) := Int.natCast_nonneg _
  have hmk : markOf e b k 0 H = 0 := by
    unfold markOf; rw [hg]; cases Nat.beq k 0 <;> simp [e3, e5]
  simp only [fsSlice, hT.sl.sl, hi1, boundOf, if_pos h0, Int.toNat_natCast, e1, e2, e4, Bool.and_self, cond_true, cond_false, hmk, hi2, rowFrom]
theorem ReadV.restO {xs : List τ.den} {k : Nat} {lo : Operand} (hx : evV fl x = some (.raw w)) (hl : evV fl lo = some (.v (.int .i64) ((k : Nat) : Int))) (hm : (w, Cell.row e τ xs) ∈ σ) (hT : ElT P T e τ) (h0 : 0 < xs.length) (hk : k ≤ xs.length) : ReadV P fl σ (.slice T x (some lo) none none) (.raw (rowFrom w τ.size k)) :=
  ⟨rfl, fun h S t hs hc => by
    have h1 : evalO t x = w := hs x (by simp [Op.operands]) _ hx; have h2 := RepV.int (hs lo (by simp [Op.operands]) _ hl); rcases hc _ hm with ⟨_, rfl⟩ | ⟨b, rs, m, h3, h4, h5, h6⟩
    · simp at h0
    have hw : w = _ := h3; refine ⟨_, rfl, fun H hH _ _ _ _ _ => ?_⟩; show (fsSlice P T (evalO t x) (some (evalO t lo)) none none H).map _ = _
    rw [h1, h2, hw, rest_run hT hk (hH _ _ h5)]; rfl⟩
theorem rest_eq {xs : List τ.den} {k b : Nat} (hk : k < xs.length) : rowFrom (.slice (some ⟨b, 0, none⟩) xs.length 0) τ.size k = .slice (some ⟨b, 0 + k * τ.size, none⟩) (xs.length - k) 0 := by
  have e1 : Nat.blt k xs.length = true := by show Nat.ble (k + 1) xs.length = true; rw [Nat.ble_eq]; exact hk
  simp [rowFrom, cutAt, e1]
theorem VFG.enterC {γ : Sto} {f : FuncId} {args : List PV} {fn : Func} {c : Code} {r : PV} (hfn : P.funcs[f]? = some fn) (hc : fn.body = some c) (ho : ∀ us h, orc f us h = none) (hn : (Nat.blt 4000 fn.ntmps || Nat.blt fn.ntmps args.length) = false)
    (hb : VC P orc none c fn.ntmps (argVL 0 args) γ (VEnd P fn r)) : VFG P orc f args γ (fun r' g => r' = r ∧ g = []) := fun h S us hok hS hcells hnd hsep ha => by
  have hl := ha.len
  have hn2 : Nat.blt 4000 fn.ntmps = false ∧ Nat.blt fn.ntmps args.length = false := by simpa using hn
  have n3 := nble_no hn2.1; have n4 := nble_no hn2.2; have ha' : RepL (entry h) (own γ ++ S) args us := RepL.nx (h := h) (h' := entry h) (fun _ _ a b => ⟨a, b⟩) ha
  have I0 : Iv (entry h) (own γ) S (entry h) γ (fillTr .leaf 0 us) [] (argVL 0 args) := {
    ok := hok
    s0 := hS
    aft := Aft.refl _ _
    cells := fun c hc => (hcells c hc).keep (fun _ _ => rfl) (fun _ _ a b => ⟨a, b⟩) fun b hb => List.mem_append_left _ (List.mem_flatMap.2 ⟨c, hc, hb⟩)
    new := fun b hb => ⟨.inl hb, hsep b hb⟩
    apart := hnd
    mark := fun d hd => by cases hd
    marks := List.nodup_nil
    slots := slots_args ha' (by omega) }
  refine EvF.enter hfn hc (ho us h) (by rw [hl]; exact hn) ((hb (entry h) (own γ) S _ (entry h) [] I0).mono fun e fr h1 hq => ?_); obtain ⟨_, fl', σ', I, he, ps, hps, rfl⟩ := hq; obtain ⟨h2, d1, d2, d3⟩ := drops_ok I.marks fun d hd => (I.mark d hd).2
  have hgd : ∀ b o, h1.get b = some o → o ≠ .defd → h2.get b = some o := fun b o hg hne => by
    rw [d3 b (fun hm => hne (by have := (I.mark b hm).2; rw [hg] at this; exact Option.some.inj this))]; exact hg
  have a2 : Aft (entry h) h2 (own γ) := I.aft.trans d2 fun i hi => .inr (I.mark i hi).1; have hN : GoesR h1 S h2 S := fun b _ hg hne hbS => ⟨hgd b _ hg hne, hbS⟩; obtain ⟨us', e1, e2⟩ := hps.ok I.lc hgd hN; have hrep := tup_rep e2; refine ⟨he, h2, us', d1, e1, ?_⟩; unfold leftOf
  cases haf : (af (tupled us') && Nat.ble h.next h2.low) with
  | true => exact ⟨_, [], ⟨rfl, rfl⟩, ⟨Aft.refl _ _, fun b hb => (by cases hb), List.nodup_nil, fun c hc => (by cases hc)⟩, hrep.anyAf (band haf).1⟩
  | false =>
    refine ⟨_, [], ⟨rfl, rfl⟩, ⟨⟨a2.next, a2.get, fun x => a2.ok x, fun e h3 h4 h5 => Nat.le_min.2 ⟨h3, a2.low e (Nat.le_trans h4 (Nat.le_refl _)) h4 h5⟩, fun b hb => ?_, Nat.min_le_left _ _⟩, fun b hb => (by cases hb), List.nodup_nil, fun c hc => (by cases hc)⟩, RepPV.nx (h := h2) (h' := { next := h2.next, low := min h.low h2.low, objs := h2.objs }) (fun _ _ a b => ⟨a, b⟩) hrep⟩; rcases a2.chg b hb with h3 | h3
    · exact .inl h3
    exact .inr (Nat.le_trans (Nat.min_le_right _ _) h3)
section
variable {α : Type} [DecidableEq α] {dd : α} {xs : List α}
end
end Go.Fs
namespace Go.Fs
variable {α : Type}
structure Weak (lt : α → α → Bool) : Prop where
  asym : ∀ a b, lt a b = true → lt b a = false
  neg : ∀ a b c, lt a b = false → lt b c = false → lt a c = false
variable {lt : α → α → Bool}
def eqv (lt : α → α → Bool) (a b : α) : Bool := !lt a b && !lt b a
def SameEq (lt : α → α → Bool) (xs ys : List α) : Prop := ∀ a, xs.filter (eqv lt a) = ys.filter (eqv lt a)
variable {d : α}
abbrev at_ (xs : List α) (i : Nat) (d : α) : α := xs.getD i d
structure Seg (lt : α → α → Bool) (xs ys : List α) (a b : Nat) : Prop where
  len : ys.length = xs.length
  lo : ys.take a = xs.take a
  hi : ys.drop b = xs.drop b
  same : SameEq lt xs ys
theorem three (xs : List α) {a b : Nat} (h : a ≤ b) : xs = xs.take a ++ ((xs.take b).drop a ++ xs.drop b) := by
  conv => lhs; rw [← List.take_append_drop b xs]
  rw [← List.append_assoc]; congr 1
  conv => lhs; rw [← List.take_append_drop a (xs.take b)]
  rw [List.take_take, Nat.min_eq_left h]
structure Insd (lt : α → α → Bool) (d : α) (ys : List α) (a j i : Nat) : Prop where
  srt : ∀ p q, a ≤ p → p < q → q ≤ i → q ≠ j → p ≠ j → lt (ys.getD q d) (ys.getD p d) = false
  less : ∀ q, j < q → q ≤ i → lt (ys.getD j d) (ys.getD q d) = true
end Go.Fs
namespace Go.Fs
variable {α : Type} {lt : α → α → Bool} {d : α} {ys : List α} {a b m n s e i j k : Nat}
theorem four (h1 : s ≤ m) (h2 : m ≤ e) : ys = ys.take s ++ ((ys.drop s).take (m - s) ++ ((ys.drop m).take (e - m) ++ ys.drop e)) := by
  conv => lhs; rw [← List.take_append_drop s ys, ← List.take_append_drop (m - s) (ys.drop s), List.drop_drop, show s + (m - s) = m by omega, ← List.take_append_drop (e - m) (ys.drop m), List.drop_drop, show m + (e - m) = e by omega]
structure Cut (lt : α → α → Bool) (d : α) (ys : List α) (a m b s e : Nat) : Prop where
  le : s ≤ m ∧ m ≤ e ∧ a ≤ s ∧ e ≤ b
  lo : a < s → e < b → lt (ys.getD e d) (ys.getD (s - 1) d) = false
  hi : s < m → m < e → lt (ys.getD (e - 1) d) (ys.getD s d) = true
end Go.Fs
namespace Go.Fs
variable {P : Program} {orc : FuncId → List Value → Heap → Option (Value × Heap)} {h h' h0 h1 h2 : Heap} {S S' S0 B G : List Nat} {σ σ' σr : Sto} {t t' : Tr} {ms : List Nat} {fl : VL} {ops : Array Oper} {n i mem : Nat} {l : List Oper} {K : VL → Sto → Prop} {Q : Ex → VL → Sto → Prop}
  {d : Tmp} {ty : TypeId} {pos : String} {after : Array Edge} {op : Op} {v pv : PV} {g : Option (Nat × Bool)} {x y z : Operand} {T T' e : TypeId} {τ τ' : Ty} {w : Value}
theorem CalmV.shrUU {p q : Int} (hx : evV fl x = some (.v (.int .u64) p)) (hy : evV fl y = some (.v (.int .u64) q)) (hq : 0 ≤ q ∧ q ≤ 64) : CalmV P fl σ (.binOp .shr T x y T') (.v (.int .u64) (p.fdiv (2 ^ q.toNat))) :=
  .binI hx hy (u := .int .u64 (p.fdiv (2 ^ q.toNat))) (by have this : min q.toNat IntKind.u64.bits = q.toNat := Nat.min_eq_left (show q.toNat ≤ 64 by omega); show (runPure P (Op.shift .shr .u64 p .u64 q)).bind _ = _; unfold Op.shift; rw [if_neg (by omega)]; simp only [this]; rfl) fun h S => RepV.ofInt _ _
end Go.Fs
namespace Go.Fs
variable {P : Program} {orc : FuncId → List Value → Heap → Option (Value × Heap)} {rnd : Option Nat} {h h' h0 h1 h2 : Heap} {S S' S0 B G : List Nat} {σ σ' σr : Sto} {t t' : Tr} {ms : List Nat} {fl : VL} {ops : Array Oper} {n i mem : Nat} {l : List Oper} {K : VL → Sto → Prop} {Q : Ex → VL → Sto → Prop}
  {d : Tmp} {ty : TypeId} {pos : String} {after : Array Edge} {op : Op} {v pv : PV} {g : Option (Nat × Bool)} {x y z : Operand} {T T' e : TypeId} {τ τ' : Ty} {w : Value}
theorem VC.nilRow {c : Code} (e : TypeId) (τ : Ty) (hx : VC P orc rnd c n fl ((.slice none 0 0, .row e τ []) :: σ) Q) : VC P orc rnd c n fl σ Q := fun h0 G S0 t h ms I => by
  refine hx h0 G S0 t h ms { I with cells := fun c hc => ?_, new := I.new, apart := I.apart, slots := I.slots }; rcases List.mem_cons.1 hc with rfl | hc
  · exact .inl ⟨rfl, rfl⟩
  exact I.cells c hc
theorem SlV.cellsOf {v : Value} {ys : List τ.den} (hv : SlV h S τ v ys) (hp : 0 < τ.size) : lenV v = some ys.length ∧ ∃ vs, Fs.cellsOf τ.size ys.length v h = some vs ∧ Elems h S τ vs ys := by
  rcases hv with ⟨rfl, rfl⟩ | ⟨b, o, mk, rfl, hv⟩
  · exact ⟨rfl, [], rfl, Elems.nil⟩
  refine ⟨rfl, ?_⟩
  have e1 : Nat.ble ys.length ys.length = true := by rw [Nat.ble_eq]; exact Nat.le_refl _
  by_cases hz : ys.length = 0
  · obtain rfl := List.eq_nil_of_length_eq_zero hz; refine ⟨[], ?_, Elems.nil⟩; simp only [Fs.cellsOf, List.length_nil, Nat.zero_mul]; rfl
  rcases hv with rfl | ⟨h1, e', rs, own, more, h2, h3, h4⟩
  · exact absurd rfl hz
  have e2 : Nat.beq (ys.length * τ.size) 0 = false := beq_no (Nat.ne_of_gt (Nat.mul_pos (Nat.pos_of_ne_zero hz) hp))
  have e3 : Nat.ble (o + ys.length * τ.size) rs.length = true := by rw [Nat.ble_eq]; exact h3
  refine ⟨(rs.drop o).take (ys.length * τ.size), ?_, ?_, fun i hi => ?_⟩
  · simp only [Fs.cellsOf, e1, cond_true, e2, cond_false, h2, e3]
  · rw [List.length_take, List.length_drop]; omega
  have h9 : (i + 1) * τ.size ≤ ys.length * τ.size := Nat.mul_le_mul_right _ hi; rw [Nat.add_mul, Nat.one_mul] at h9; have := h4 i hi; rw [List.drop_take, List.take_take, List.drop_drop, Nat.min_eq_left (by omega)]; exact this
theorem MakeV.copyO {xs ys : List τ.den} (hT : ElT P T e τ) (hl : ys.length = xs.length) (hx : evV fl x = some (.raw w)) (hy : evV fl y = some (.v (.sl τ) ys)) :
    MakeV P fl ((w, .row e τ xs) :: σ) (.call { callee := .builtin .copy, args := #[x, y], argTypes := #[T, T'] }) fun v σ' => v = .v (.int .i64) ((ys.length : Nat) : Int) ∧ σ' = (w, .row e τ ys) :: σ :=
  ⟨rfl, fun S0 h t L => by
    have h1 : evalO t x = w := evV_ok L.slots hx; have hu := (evV_ok L.slots hy : RepV h _ (.sl τ) (evalO t y) ys).sl; obtain ⟨i, z, hi1, hi2, hi3, hi3', hi4, hi5, hi6⟩ := hT.sl.info; obtain ⟨c1, vs, c2, c3⟩ := hu.cellsOf hT.sl.pos; have hmin : Nat.min ys.length xs.length = ys.length := Nat.min_eq_left (Nat.le_of_eq hl); have hvl : vs.length = ys.length * τ.size := c3.1; have hvo : vs.all oneCell = true := Elems.allOne _ _ c3; rcases L.cells _ List.mem_cons_self with ⟨hw, rfl⟩ | ⟨b, rs, m, h3, h4, h5, h6⟩
    · obtain rfl := List.eq_nil_of_length_eq_zero hl; have hw' : w = .slice none 0 0 := hw; obtain rfl := List.eq_nil_of_length_eq_zero (by rw [hvl]; simp : vs.length = 0); refine ⟨.int .i64 ((0 : Nat) : Int), h, .v (.int .i64) ((0 : Nat) : Int), _, ⟨rfl, rfl⟩, Made.same L (Aft.refl _ _), RepV.ofInt _ _, fun _ _ _ _ _ => ?_⟩; show (fsCopy P #[T, T'] (evalO t x) (evalO t y) h) = _; rw [h1, hw']; have c1' : lenV (evalO t y) = some 0 := c1; have c2' : Fs.cellsOf τ.size 0 (evalO t y) h = some [] := c2; simp only [fsCopy, List.getElem?_toArray, List.getElem?_cons_zero, hT.sl.sl, hi1, c1', show lenV (.slice none 0 0) = some 0 from rfl, hi2, show Nat.min 0 0 = 0 from rfl, c2', List.length_nil, Nat.zero_mul]; rfl
    have hw : w = _ := h3
    have hbk : blk w = [b] := by rw [hw]; rfl
    have hrl := h6.1; have hnew : Elems h (own ((w, Cell.row e τ xs) :: σ) ++ S0) τ vs ys := c3; by_cases hz : ys.length = 0
    · obtain rfl := List.eq_nil_of_length_eq_zero hz; obtain rfl := List.eq_nil_of_length_eq_zero (by rw [← hl]; rfl : xs.length = 0); refine ⟨.int .i64 ((0 : Nat) : Int), h, .v (.int .i64) ((0 : Nat) : Int), _, ⟨rfl, rfl⟩, Made.same L (Aft.refl _ _), RepV.ofInt _ _, fun _ _ _ _ _ => ?_⟩; show (fsCopy P #[T, T'] (evalO t x) (evalO t y) h) = _; rw [h1, hw]; obtain rfl := List.eq_nil_of_length_eq_zero (by rw [hvl]; simp : vs.length = 0); have c1' : lenV (evalO t y) = some 0 := c1; have c2' : Fs.cellsOf τ.size 0 (evalO t y) h = some [] := c2; simp only [fsCopy, List.getElem?_toArray, List.getElem?_cons_zero, hT.sl.sl, hi1, c1', List.length_nil, show ∀ q m, lenV (.slice q 0 m) = some 0 from fun _ _ => rfl, hi2, show Nat.min 0 0 = 0 from rfl, c2', Nat.zero_mul]; rfl
    refine ⟨.int .i64 ((ys.length : Nat) : Int), h.set b (.row e vs true m), .v (.int .i64) ((ys.length : Nat) : Int), _, ⟨rfl, rfl⟩, Made.head L (Aft.set h5 (by rw [hbk]; simp)) (fun b hb => .inl hb) (by rw [hbk]; simp) fun hN => ?_, RepV.ofInt _ _, fun _ _ _ _ _ => ?_⟩
    · refine .inr ⟨b, _, m, by rw [hl]; exact h3, ?_, by rw [Heap.get_set h5, if_pos rfl], hnew.nx hN⟩; rw [own_cons]; exact List.mem_append_left _ (List.mem_append_left _ (by rw [hbk]; simp))
    show (fsCopy P #[T, T'] (evalO t x) (evalO t y) h) = _; have e2 : Nat.beq (ys.length * τ.size) 0 = false := beq_no (Nat.ne_of_gt (Nat.mul_pos (Nat.pos_of_ne_zero hz) hT.sl.pos))
    have e3 : Nat.ble (0 + ys.length * τ.size) rs.length = true := by rw [Nat.ble_eq, hrl, hl]; omega
    have e4 : Nat.beq vs.length (ys.length * τ.size) = true := by rw [hvl]; exact Nat.beq_refl _
    have e5 : splice rs 0 vs = vs := splice_all (by rw [hvl, hrl, hl]); rw [h1, hw]; simp only [fsCopy, List.getElem?_toArray, List.getElem?_cons_zero, hT.sl.sl, hi1, c1, show ∀ q m, lenV (.slice q xs.length m) = some xs.length from fun _ _ => rfl, hi2]
    simp only [show Nat.min ys.length xs.length = ys.length from hmin, c2, e4, hvo, Bool.and_self, cond_true, e2, cond_false, h5, e3, e5]⟩
theorem VO.copy {xs ys : List τ.den} (hx : evV fl x = some (.raw w)) (hy : evV fl y = some (.v (.sl τ) ys)) (hT : ElT P T e τ) (hl : ys.length = xs.length) (hk : VO P orc ops n l ((d, .v (.int .i64) ((ys.length : Nat) : Int)) :: fl) ((w, .row e τ ys) :: σ) K) (hw : wantV ops fl g = some true := by rfl) (hn : (Nat.blt d n && Nat.ble n 4000) = true := by rfl) :
    VO P orc ops n (⟨some d, .call { callee := .builtin .copy, args := #[x, y], argTypes := #[T, T'] }, ty, pos, after, g⟩ :: l) fl ((w, .row e τ xs) :: σ) K :=
  VO.mk (MakeV.copyO hT hl hx hy) (by rintro _ _ ⟨rfl, rfl⟩; exact hk) hw hn
end Go.Fs
namespace Go.Fs
variable {P : Program} {orc : FuncId → List Value → Heap → Option (Value × Heap)} {rnd : Option Nat} {h h' h0 h1 h2 : Heap} {S S' S0 B G : List Nat} {σ σ' σr : Sto} {t t' : Tr} {ms : List Nat} {fl : VL} {ops : Array Oper} {n i mem : Nat} {l : List Oper} {K : VL → Sto → Prop} {Q : Ex → VL → Sto → Prop}
  {d : Tmp} {ty : TypeId} {pos : String} {after : Array Edge} {op : Op} {v pv : PV} {g : Option (Nat × Bool)} {x y z : Operand} {T T' e : TypeId} {τ τ' : Ty} {w : Value}
inductive SetP : (τ : Ty) → τ.den → Nat → (τ' : Ty) → τ'.den → τ.den → Prop where
  | o {τ : Ty} {x y : τ.den} : SetP τ x 0 τ y y
  | l {a b : Ty} {x : (Ty.pair a b).den} {k : Nat} {τ' : Ty} {y : τ'.den} {z : a.den} (hs : SetP a x.1 k τ' y z) : SetP (.pair a b) x k τ' y (z, x.2)
  | r {a b : Ty} {x : (Ty.pair a b).den} {k k' : Nat} {τ' : Ty} {y : τ'.den} {z : b.den} (hs : SetP b x.2 k τ' y z) (hk : k' = a.size + k := by rfl) : SetP (.pair a b) x k' τ' y (x.1, z)
theorem splice_len {rs us : List Value} {a : Nat} (h : a + us.length ≤ rs.length) : (splice rs a us).length = rs.length := by
  unfold splice; rw [List.length_append, List.length_append, List.length_take, List.length_drop]; omega
theorem SetP.fits {τ τ' : Ty} {x z : τ.den} {y : τ'.den} {k : Nat} (hs : SetP τ x k τ' y z) : k + τ'.size ≤ τ.size := by
  induction hs with
  | o => omega
  | @l a b x k τ' y z hs ih => show _ ≤ a.size + b.size; omega
  | @r a b x k k' τ' y z hs hk ih => show _ ≤ a.size + b.size; omega
theorem SetP.repC {τ τ' : Ty} {x z : τ.den} {y : τ'.den} {k : Nat} (hs : SetP τ x k τ' y z) : ∀ {cs us : List Value}, RepC h S τ cs x → RepC h S τ' us y → RepC h S τ (splice cs k us) z := by
  induction hs with
  | o =>
    intro cs us hx hy
    rw [splice_all (by rw [hx.len, hy.len])]; exact hy
  | @l a b x k τ' y z hs ih =>
    intro cs us hx hy; have hf := hs.fits; have hyl := hy.len; have hal := hx.1.len; rw [List.length_take] at hal; have h1 := ih hx.1 hy; have h1l := h1.len
    have e : splice cs k us = splice (cs.take a.size) k us ++ cs.drop a.size := by
      unfold splice; rw [List.take_take, Nat.min_eq_left (by omega)]; simp only [List.append_assoc]; have := List.take_append_drop (a.size - (k + us.length)) (cs.drop (k + us.length)); rw [List.drop_drop, show k + us.length + (a.size - (k + us.length)) = a.size by omega] at this; rw [List.drop_take, this]
    rw [e]
    exact ⟨by rw [List.take_left' h1l]; exact h1, by rw [List.drop_left' h1l]; exact hx.2⟩
  | @r a b x k k' τ' y z hs hk ih =>
    intro cs us hx hy; subst hk; have hf := hs.fits; have hyl := hy.len; have hal := hx.1.len; rw [List.length_take] at hal; have h1 := ih hx.2 hy
    have e : splice cs (a.size + k) us = cs.take a.size ++ splice (cs.drop a.size) k us := by
      unfold splice; rw [List.take_add, List.drop_drop, List.append_assoc, List.append_assoc, List.append_assoc, Nat.add_assoc]
    have hl : (cs.take a.size).length = a.size := by rw [List.length_take]; omega
    rw [e]; exact ⟨by rw [List.take_left' hl]; exact hx.1, by rw [List.drop_left' hl]; exact h1⟩
theorem splice_in {rs us : List Value} {a k s : Nat} (h1 : k + us.length ≤ s) (h2 : a + s ≤ rs.length) : splice rs (a + k) us = splice rs a (splice ((rs.drop a).take s) k us) := by
  have hl : ((rs.drop a).take s).length = s := by rw [List.length_take, List.length_drop]; omega
  have hl2 : (splice ((rs.drop a).take s) k us).length = s := by rw [splice_len (by omega), hl]
  conv => rhs; unfold splice
  rw [show (((rs.drop a).take s).take k ++ us ++ ((rs.drop a).take s).drop (k + us.length)).length = s from hl2]; unfold splice; rw [List.take_take, Nat.min_eq_left (by omega), List.take_add, List.drop_take, List.drop_drop]; have := List.take_append_drop (s - (k + us.length)) (rs.drop (a + (k + us.length))); rw [List.drop_drop, show a + (k + us.length) + (s - (k + us.length)) = a + s by omega] at this; simp only [List.append_assoc]; rw [this, Nat.add_assoc]
def cellAt (τ : Ty) (rs : List Value) (o : Nat) : Value := if τ.agg then .agg ((rs.drop o).take τ.size).toArray else rs.getD o undef
theorem load_at {own more : Bool} {rs : List Value} {b o : Nat} {y : τ.den} (hT : ValT P T τ) (hg : h.get b = some (.row e rs own more)) (hb : o + τ.size ≤ rs.length) (hr : RepC h S τ ((rs.drop o).take τ.size) y) : fsLoad P T (.pointer (some ⟨b, o, none⟩)) h = some (cellAt τ rs o) ∧ RepV h S τ (cellAt τ rs o) y := by
  obtain ⟨i, hi, hs⟩ := hT.info; obtain ⟨d, hd, ha⟩ := hT.agg; simp only [fsLoad, cellAt, hg, hd, hi, ha, hs]
  cases hb2 : τ.agg with
  | true =>
    simp only [if_true, hb]
    refine ⟨trivial, by simpa [isAggV] using hb2.symm, by simpa [Value.cells] using hr⟩
  | false =>
    have h1 := Ty.size_one hb2; rw [h1] at hb hr
    have ho : o < rs.length := by omega
    rw [take_one ho] at hr; obtain ⟨u, hu, hv⟩ := hr.one hb2; simp only [List.cons.injEq, and_true] at hu; simp only [Bool.false_eq_true, if_false, List.getD_eq_getElem?_getD, List.getElem?_eq_getElem ho, Option.getD_some]; exact ⟨trivial, by rw [hu]; exact hv⟩
theorem CalmV.faE {s : TypeId} {f k j : Nat} {xs : List τ.den} (hm : (w, Cell.row e τ xs) ∈ σ) (hj : j < xs.length) (hb : offB P s f k = true := by kernel_rfl) (hx : evV fl x = some (.raw (ptrAt w τ.size j)) := by rfl) : CalmV P fl σ (.fieldAddr s x f) (.raw (padd (ptrAt w τ.size j) k)) :=
  ⟨rfl, fun h S t hs hc => by
    have h1 : evalO t x = ptrAt w τ.size j := hs x (by simp [Op.operands]) _ hx; refine ⟨_, rfl, fun _ _ _ _ _ H => ?_⟩; rcases hc _ hm with ⟨_, rfl⟩ | ⟨b, rs, m, h3, h4, h5, h6⟩
    · simp at hj
    have hw : w = _ := h3; have hjs : (j + 1) * τ.size ≤ xs.length * τ.size := Nat.mul_le_mul_right _ hj; rw [Nat.add_mul, Nat.one_mul] at hjs; have hrl := h6.1; have hp : RepP h [] .unit (ptrAt w τ.size j) () := ⟨b, 0 + j * τ.size, e, rs, true, m, by rw [hw]; rfl, by simp, h5, by show 0 + j * τ.size + 0 ≤ _; omega, by simp [RepC, Ty.size]⟩; show (runPure P (Instr.fieldAt s (evalO t x) f)).map _ = _
    rw [h1, hp.fa hb]; rfl⟩
theorem ReadV.ldE {j k : Nat} {xs : List τ.den} {dy : τ'.den} (hj : j < xs.length) (hs : Sub τ xs[j] k τ' dy) (hx : evV fl x = some (.raw (padd (ptrAt w τ.size j) k))) (hm : (w, Cell.row e τ xs) ∈ σ) (hT : ValT P T τ') : ReadV P fl σ (.load T x) (.v τ' dy) :=
  ⟨rfl, fun h S t hsl hc => by
    have h1 : evalO t x = padd (ptrAt w τ.size j) k := hsl x (by simp [Op.operands]) _ hx; rcases hc _ hm with ⟨_, rfl⟩ | ⟨b, rs, m, h3, h4, h5, h6⟩
    · simp at hj
    have hw : w = _ := h3; obtain ⟨q1, q2⟩ := hs.repC (h6.2 j hj); have hjs : (j + 1) * τ.size ≤ xs.length * τ.size := Nat.mul_le_mul_right _ hj; rw [Nat.add_mul, Nat.one_mul] at hjs; have hrl := h6.1; rw [List.length_take, List.length_drop] at q1; rw [List.drop_take, List.take_take, List.drop_drop, Nat.min_eq_left (by omega)] at q2; refine ⟨cellAt τ' rs (j * τ.size + k), (load_at hT h5 (by omega) q2).2, fun H hH _ _ _ _ _ => ?_⟩; have q3 : RepC H S τ' ((rs.drop (j * τ.size + k)).take τ'.size) dy := q2.nx fun b o hg hb => ⟨hH b o hg, hb⟩; show (fsLoad P T (evalO t x) H).map _ = _; rw [h1, hw]; show (fsLoad P T (.pointer (some ⟨b, 0 + j * τ.size + k, none⟩)) H).map _ = _
    rw [Nat.zero_add, (load_at hT (hH b _ h5) (by omega) q3).1]; rfl⟩
theorem MakeV.setEF {xs : List τ.den} {dy : τ'.den} {dz : τ.den} {j k : Nat} (hj : j < xs.length) (hT : ValT P T τ') (hs : SetP τ xs[j] k τ' dy dz) (hx : evV fl x = some (.raw (padd (ptrAt w τ.size j) k))) (hy : evV fl y = some (.v τ' dy)) :
    MakeV P fl ((w, .row e τ xs) :: σ) (.store T x y) fun v σ' => v = .raw undef ∧ σ' = (w, .row e τ (xs.set j dz)) :: σ :=
  ⟨rfl, fun S0 h t L => by
    have h1 : evalO t x = padd (ptrAt w τ.size j) k := evV_ok L.slots hx; have hu := (evV_ok L.slots hy : RepV h _ τ' (evalO t y) dy); rcases L.cells _ List.mem_cons_self with ⟨_, rfl⟩ | ⟨b, rs, m, h3, h4, h5, h6⟩
    · simp at hj
    have hw : w = _ := h3; have hjs : (j + 1) * τ.size ≤ xs.length * τ.size := Nat.mul_le_mul_right _ hj; rw [Nat.add_mul, Nat.one_mul] at hjs; have hrl := h6.1; obtain ⟨i, hi, hsz⟩ := hT.info; have hul : (evalO t y).cells.toList.length = τ'.size := hu.2.len
    have hbk : blk w = [b] := by rw [hw]; rfl
    have hf := hs.fits; have hnew := elems_set h6 hj (hs.repC (h6.2 j hj) hu.2); rw [← splice_in (by omega) (by omega)] at hnew; refine ⟨undef, h.set b (.row e (splice rs (j * τ.size + k) (evalO t y).cells.toList) true m), .raw undef, _, ⟨rfl, rfl⟩, Made.head L (Aft.set h5 (by rw [hbk]; simp)) (fun b hb => .inl hb) (by rw [hbk]; simp) fun hN => ?_, rfl, fun _ _ _ _ _ => ?_⟩
    · refine .inr ⟨b, _, m, by rw [List.length_set]; exact h3, ?_, by rw [Heap.get_set h5, if_pos rfl], hnew.nx hN⟩; rw [own_cons]; exact List.mem_append_left _ (List.mem_append_left _ (by rw [hbk]; simp))
    show (fsStore P T (evalO t x) (evalO t y) h).map _ = _
    have : fsStore P T (evalO t x) (evalO t y) h = some (h.set b (.row e (splice rs (j * τ.size + k) (evalO t y).cells.toList) true m)) := by
      rw [h1, hw]; simp only [fsStore, ptrAt, padd, h5, hi, hsz, hul, hu.2.allOne, Nat.zero_add]; rw [if_pos ⟨trivial, by omega, trivial⟩]
    rw [this]; rfl⟩
end Go.Fs
namespace Go.Fs
variable {P : Program} {orc : FuncId → List Value → Heap → Option (Value × Heap)} {rnd : Option Nat} {h h' h0 h1 h2 : Heap} {S S' S0 B G : List Nat} {σ σ' σr : Sto} {t t' : Tr} {ms : List Nat} {fl : VL} {ops : Array Oper} {n i mem : Nat} {l : List Oper} {K : VL → Sto → Prop} {Q : Ex → VL → Sto → Prop}
  {d : Tmp} {ty : TypeId} {pos : String} {after : Array Edge} {op : Op} {v pv : PV} {g : Option (Nat × Bool)} {x y z : Operand} {T T' e : TypeId} {τ τ' : Ty} {w : Value}
end Go.Fs
namespace Go.Fs
variable {P : Program} {orc : FuncId → List Value → Heap → Option (Value × Heap)} {rnd : Option Nat} {h h' h0 h1 h2 : Heap} {S S' S0 B G : List Nat} {σ σ' σr : Sto} {t t' : Tr} {ms : List Nat} {fl : VL} {ops : Array Oper} {n i mem : Nat} {l : List Oper} {K : VL → Sto → Prop} {Q : Ex → VL → Sto → Prop}
  {d : Tmp} {ty : TypeId} {pos : String} {after : Array Edge} {op : Op} {v pv : PV} {g : Option (Nat × Bool)} {x y z : Operand} {T T' e : TypeId} {τ τ' : Ty} {w : Value} {ρ : Sto} {bs nw : List Nat} {tl : Bool}
theorem grow_lit_low {i : TypeInfo} {b m : Nat} {news : List Value} {u : Value} (hp : 0 < i.size) (hg : h.get b = some (.row e [] true false)) (hf : fsGrow e i (.slice (some ⟨b, 0, none⟩) 0 0) m news h = some (u, h')) : h.low ≤ h'.low := by
  unfold fsGrow at hf
  have z1 : (Nat.beq m 0 && Nat.beq 0 1) = false := by rw [show Nat.beq 0 1 = false from rfl]; simp
  simp only [z1, cond_false, hg] at hf; obtain ⟨_, hf⟩ := bif_some hf; simp only [show Nat.beq 0 1 = false from rfl, show Nat.beq 0 0 = true from rfl, Bool.and_self, cond_false, cond_true] at hf
  cases hb : Nat.ble (0 + (0 + m) * i.size) ([] : List Value).length with
  | true =>
    rw [hb] at hf; have h1 := nble hb
    have hm : m = 0 := by
      simp only [Nat.zero_add, List.length_nil, Nat.le_zero_eq, Nat.mul_eq_zero] at h1; omega
    subst hm; simp only [cond_true, show Nat.beq 0 0 = true from rfl, Option.some.injEq, Prod.mk.injEq] at hf
    rw [← hf.2]; exact Nat.le_refl _
  | false =>
    rw [hb] at hf; simp only [cond_false, Bool.not_false, cond_true, Option.some.injEq] at hf; unfold grown at hf; simp only [Prod.mk.injEq] at hf; rw [← hf.2]; exact Nat.le_refl _
theorem append_lit_low {b : Nat} {xv u : Value} (hT : ElT P T e τ) (hT' : ElT P T' e τ) (hg : h.get b = some (.row e [] true false)) (hf : fsAppend P #[T, T'] (.slice (some ⟨b, 0, none⟩) 0 0) xv h = some (u, h')) : h.low ≤ h'.low := by
  obtain ⟨i, z, hi1, hi2, hi3, hi3', hi4, _⟩ := hT.sl.info; have hpos := hT.sl.pos; unfold fsAppend at hf; simp only [List.getElem?_toArray, List.getElem?_cons_zero, List.getElem?_cons_succ, hT.sl.sl, hT'.sl.sl, hi1, hi4] at hf; split at hf
  · obtain ⟨_, hf⟩ := bif_some hf; exact grow_lit_low (by omega) hg hf
  cases hf
end Go.Fs
namespace Go.Fs
variable {P : Program} {O : FuncId → List Value → Heap → Option (Value × Heap)} {h h' : Heap} {S : List Nat}
end Go.Fs
namespace Go.Fs
open Go.RowKit (Below)
open Go.Sort Go.Proofs
section
variable {τ : Ty}
variable {cf : τ.den → τ.den → Int}
local instance denInh : Inhabited τ.den := ⟨zeroD τ⟩
variable {P : Program} {O : FuncId → List Value → Heap → Option (Value × Heap)} {h h' : Heap} {S : List Nat}
end
end Go.Fs
