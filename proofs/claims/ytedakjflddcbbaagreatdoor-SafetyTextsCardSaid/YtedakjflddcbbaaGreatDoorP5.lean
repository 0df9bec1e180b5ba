/- Parts of the proof: an evaluator of the model, what it is sound for, and contracts of functions. No condition. -/
import Derived.Test.YtedakjflddcbbaaGreatDoorP4
import Derived.Test.YtedakjflddcbbaaGreatDoorP3
import Derived.Laws.Strings
import Ieee.Arith
import Derived.Test.YtedakjflddcbbaaGreatDoorP2
import Derived.Test.YtedakjflddcbbaaGreatDoorChecked
set_option linter.all false
namespace Go.Fs
variable {P : Program} {orc : FuncId -> List Value -> Heap -> Option (Value × Heap)} {h : Heap} {σ : aG} {fl : VL} {n i mem : Nat} {l : List Oper} {K : VL -> aG -> Prop} {ops : Array Oper} {bs nw0 : List Nat} {tail so : Bool}
theorem VD.nw (nw1 : List Nat) (hk : VD P orc ops n l i fl nw1 σ so bs mem tail K) (he : nw0 = nw1 := by rfl) : VD P orc ops n l i fl nw0 σ so bs mem tail K := he ▸ hk
theorem VF.vR {f : FuncId} {τ : Ty} {dv : τ.den} {v : Value} (ho : ∀ h : Heap, orc f [] h = some (v, h)) (hv : ∀ (h : Heap) (S : List Nat), aI h S (.v τ dv) v) : VF P orc f [] (.v τ dv) := fun h S us bD hS hr => by
  obtain rfl : us = [] := by
    cases us with
    | nil => rfl
    | cons a r => cases hr
  exact oS.vR (ho h) ⟨cD.refl _ _, hv h S, fun _ => rfl⟩
end Go.Fs
namespace Go.Fs
variable {P : Program} {h : Heap} {S : List Nat}
def zZ (E : Ty -> TypeId -> Bool) : List Field -> Nat -> Ty -> Bool
  | [], _, .unit => true
  | f :: r, o, .pair a b => (!(f.name == "_") && Nat.beq f.offset o && E a f.type && zZ E r (o + a.size) b) || (r.isEmpty && !(f.name == "_") && Nat.beq f.offset o && E (.pair a b) f.type)
  | [f], o, τ => !(f.name == "_") && Nat.beq f.offset o && E τ f.type
  | _, _, _ => false
def eqV (P : Program) : Nat -> Ty -> TypeId -> Bool
  | 0, _, _ => false
  | d + 1, τ, T => adS P T τ && match P.underlying T, τ with
    | some (.int k), .int k' => k == k'
    | some .bool, .bool => true
    | some .string, .str => true
    | some (.struct fs), .pair a b => !P.stoodInHeld T && zZ (eqV P d) fs.toList 0 (.pair a b)
    | _, _ => false
theorem wJ {x y : ByteArray} (he : x = y) : (x == y) = true := by
  subst he; show (x.data == x.data) = true; simp
theorem CY {x y : ByteArray} (he : ¬ x = y) : (x == y) = false := by
  show (x.data == y.data) = false; simp only [beq_eq_false_iff_ne, ne_eq]; exact fun hd => he (ByteArray.ext hd)
theorem SL {τ : Ty} (h : τ.agg = false) : τ.size = 1 := by cases τ <;> first | rfl | cases h
theorem MM {T : TypeId} {τ : Ty} (hT : fN P T τ) {cs : Array Value} {o : Nat} {x : τ.den} (hr : cR h S τ ((cs.toList.drop o).take τ.size) x) : ∃ v, aC P (part T cs o) = some v /\ aF h S τ v x := by
  obtain ⟨i, hi, cX⟩ := hT.info; obtain ⟨d, hd, fC⟩ := hT.agg
  have hA : aC P (isAgg T) = some τ.agg := by
    unfold isAgg; rw [aE, bB hd, <- fC]; cases d <;> rfl
  unfold part; rw [aE, hA]; simp only [Option.bind_some]
  cases hga : τ.agg with
  | true =>
    simp only [if_true]; rw [aE, jP hi]; refine ⟨_, rfl, hga.symm, ?_⟩; show cR h S τ (cs.extract o (o + i.size)).toList x; rw [cX, Array.toList_extract]
    simpa [List.extract_eq_take_drop] using hr
  | false =>
    simp only [Bool.false_eq_true, if_false]; obtain ⟨v, h1, h2⟩ := cR.one hga hr
    have h3 : cs[o]? = some v := by
      have := congrArg (fun l => l[0]?) h1; simp only [SL hga] at this; simpa using this
    rw [h3]; exact ⟨v, rfl, h2⟩
theorem W7 {E : Ty -> TypeId -> Bool} {n : Nat} {cs ds : Array Value} (hE : ∀ τ T, E τ T = true -> fN P T τ /\ ∀ (u v : Value) (x y : τ.den) (inst : Decidable (x = y)), aF h S τ u x -> aF h S τ v y -> aC P (Op.equalIn n T u v) = some (@decide (x = y) inst)) :
    ∀ (l : List Field) (o : Nat) (τ : Ty) (x y : τ.den) (inst : Decidable (x = y)), zZ E l o τ = true -> cR h S τ (cs.toList.drop o) x -> cR h S τ (ds.toList.drop o) y ->
    aC P (forIn l (none, ()) fun f __s =>
            if f.name ≠ "_" then do
              let __do_lift <- part f.type cs f.offset
              let __do_lift_1 <- part f.type ds f.offset
              let __do_lift <- Op.equalIn n f.type __do_lift __do_lift_1
              if (!__do_lift) = true then pure (ForInStep.done (some false, ())) else pure (ForInStep.yield (none, ()))
            else pure (ForInStep.yield (none, ()))) = some (if x = y then ((none : Option Bool), ()) else (some false, ())) := by
  intro l
  have key : ∀ (f : Field) (r : List Field) (o : Nat) (τ : Ty) (x y : τ.den) (inst : Decidable (x = y)) (R : Option (Option Bool × Unit)), (!(f.name == "_")) = true -> Nat.beq f.offset o = true -> E τ f.type = true -> cR h S τ ((cs.toList.drop o).take τ.size) x -> cR h S τ ((ds.toList.drop o).take τ.size) y ->
      aC P (forIn (f :: r) (none, ()) fun f __s =>
            if f.name ≠ "_" then do
              let __do_lift <- part f.type cs f.offset
              let __do_lift_1 <- part f.type ds f.offset
              let __do_lift <- Op.equalIn n f.type __do_lift __do_lift_1
              if (!__do_lift) = true then pure (ForInStep.done (some false, ())) else pure (ForInStep.yield (none, ()))
            else pure (ForInStep.yield (none, ()))) = if x = y then aC P (forIn r (none, ()) fun f __s =>
            if f.name ≠ "_" then do
              let __do_lift <- part f.type cs f.offset
              let __do_lift_1 <- part f.type ds f.offset
              let __do_lift <- Op.equalIn n f.type __do_lift __do_lift_1
              if (!__do_lift) = true then pure (ForInStep.done (some false, ())) else pure (ForInStep.yield (none, ()))
            else pure (ForInStep.yield (none, ()))) else some (some false, ()) := by
    intro f r o τ x y inst R n1 n2 n3 r1 r2; obtain ⟨hT, hq⟩ := hE _ _ n3; obtain ⟨u, u1, u2⟩ := MM hT r1; obtain ⟨v, v1, v2⟩ := MM hT r2
    have hn : f.name ≠ "_" := by simpa using n1
    have ho := bI n2; rw [List.forIn_cons]; simp only [hn, ne_eq, not_false_eq_true, if_true, aE, ho, u1, v1, Option.bind_some, hq u v x y inst u2 v2]; by_cases he : x = y <;> simp [he, aQ, aE]
  induction l with
  | nil =>
    intro o τ x y inst hb hx hy; cases τ <;> first | (cases hb; done) | skip
    simp [aQ]
  | cons f r ih =>
    intro o τ x y inst hb hx hy; by_cases hp : (∀ a b, τ ≠ .pair a b) \/ (r = [] /\ (!(f.name == "_")) = true /\ Nat.beq f.offset o = true /\ E τ f.type = true)
    . have hs : r = [] /\ (!(f.name == "_")) = true /\ Nat.beq f.offset o = true /\ E τ f.type = true := by
        rcases hp with hp | hp
        . cases τ with
          | pair a b => exact absurd rfl (hp a b)
          | _ =>
            cases r with
            | cons f' r => cases hb
            | nil =>
              obtain ⟨n1, n3⟩ := aY (show (!(f.name == "_") && Nat.beq f.offset o && E _ f.type) = true from hb); obtain ⟨n1, n2⟩ := aY n1; exact ⟨rfl, n1, n2, n3⟩
        exact hp
      obtain ⟨rfl, n1, n2, n3⟩ := hs; rw [key f [] o τ x y inst none n1 n2 n3 (by rw [List.take_of_length_le (Nat.le_of_eq hx.len)]; exact hx) (by rw [List.take_of_length_le (Nat.le_of_eq hy.len)]; exact hy)]; by_cases he : x = y <;> simp [he, aQ]
    cases τ with
    | pair a b =>
      have C7 : ((!(f.name == "_") && Nat.beq f.offset o && E a f.type && zZ E r (o + a.size) b) || (r.isEmpty && !(f.name == "_") && Nat.beq f.offset o && E (.pair a b) f.type)) = true := hb; rcases Bool.or_eq_true_iff.1 C7 with h1 | h1
      . obtain ⟨h1, n4⟩ := aY h1; obtain ⟨h1, n3⟩ := aY h1; obtain ⟨n1, n2⟩ := aY h1; have hd := Classical.propDecidable (x.1 = y.1); have V0 := Classical.propDecidable (x.2 = y.2); rw [key f r o a x.1 y.1 hd none n1 n2 n3 hx.1 hy.1]; have h2 := ih (o + a.size) b x.2 y.2 V0 n4 (by rw [<- List.drop_drop]; exact hx.2) (by rw [<- List.drop_drop]; exact hy.2); rw [h2]; by_cases e1 : x.1 = y.1
        . by_cases e2 : x.2 = y.2
          . rw [if_pos e1, if_pos e2, if_pos (Prod.ext e1 e2)]
          rw [if_pos e1, if_neg e2, if_neg (fun e => e2 (by rw [e]))]
        rw [if_neg e1, if_neg (fun e => e1 (by rw [e]))]
      obtain ⟨h1, n3⟩ := aY h1; obtain ⟨h1, n2⟩ := aY h1; obtain ⟨h1, n1⟩ := aY h1
      exact absurd (.inr ⟨by simpa using h1, n1, n2, n3⟩) hp
    | _ => exact absurd (.inl fun _ _ h => by cases h) hp
theorem aj1 : ∀ (d : Nat) (τ : Ty) (T : TypeId), eqV P d τ T = true -> ∀ (D : Nat) (u v : Value) (x y : τ.den) (inst : Decidable (x = y)), aF h S τ u x -> aF h S τ v y -> aC P (Op.equalIn (D + d) T u v) = some (@decide (x = y) inst) := by
  intro d
  induction d with
  | zero => intro τ T hb; cases hb
  | succ d ih =>
    intro τ T hb D u v x y inst hu hv; unfold eqV at hb; obtain ⟨hvt, hb⟩ := aY hb
    cases hU : P.underlying T with
    | none => simp only [hU] at hb; cases hb
    | some dsc =>
      simp only [hU] at hb; cases τ <;> cases dsc <;> try (cases hb; done)
      . rename_i k _ k'
        obtain rfl : k = k' := by
          have : (k' == k) = true := hb; exact (by simpa using this : k' = k).symm
        obtain rfl := aF.int hu; obtain rfl := aF.int hv; rw [show D + (d + 1) = (D + d) + 1 from rfl, Op.equalIn, aE, bB hU]; simp only [Option.bind_some, if_true]; show some (_ == _) = _; by_cases he : x = y <;> simp [he]
      . obtain rfl := aF.bool hu; obtain rfl := aF.bool hv; rw [show D + (d + 1) = (D + d) + 1 from rfl, Op.equalIn, aE, bB hU]; simp only [Option.bind_some]; show some (_ == _) = _; by_cases he : x = y <;> simp [he]
      . obtain rfl := aF.str hu; obtain rfl := aF.str hv; rw [show D + (d + 1) = (D + d) + 1 from rfl, Op.equalIn, aE, bB hU]; simp only [Option.bind_some]; show some (_ == _) = _; by_cases he : x = y
        . rw [decide_eq_true he]; exact congrArg some (wJ he)
        rw [decide_eq_false he]; exact congrArg some (CY he)
      rename_i a b fs; obtain ⟨h1, h2⟩ := aY hb
      have hs : P.stoodInHeld T = false := by simpa using h1
      obtain ⟨cs, rfl⟩ : ∃ cs, u = .agg cs := by
        have := hu.1; cases u <;> first | exact ⟨_, rfl⟩ | cases this
      obtain ⟨ds, rfl⟩ : ∃ cs, v = .agg cs := by
        have := hv.1; cases v <;> first | exact ⟨_, rfl⟩ | cases this
      rw [show D + (d + 1) = (D + d) + 1 from rfl, Op.equalIn]; rw [aE, bB hU]; simp only [Option.bind_some, aE, uY, hs, Bool.false_eq_true, if_false]; simp only [<- Array.forIn_toList]; have hF := W7 (h := h) (S := S) (cs := cs) (ds := ds) (n := D + d) (fun τ T hb => ⟨fD ?_, fun u v x y inst => ih τ T hb D u v x y inst⟩) fs.toList 0 _ x y inst h2 hu.2 hv.2
      . rw [hF]; by_cases he : x = y <;> simp [he, aQ]
      cases d with
      | zero => cases hb
      | succ d => unfold eqV at hb; exact (aY hb).1
structure EqT (P : Program) (T : TypeId) (τ : Ty) : Prop where
  eq : eqV P 40 τ T = true
  guard : P.eqGuardType P.depth T = false
  agg : τ.agg = true
  flat : τ.iC = true
theorem aj2 {T : TypeId} {τ : Ty} (hb : (eqV P 40 τ T && !P.eqGuardType P.depth T && τ.agg && τ.iC) = true) : EqT P T τ := by
  obtain ⟨h1, h4⟩ := aY hb; obtain ⟨h1, h3⟩ := aY h1; obtain ⟨h1, h2⟩ := aY h1; exact ⟨h1, by simpa using h2, h3, h4⟩
theorem EqT.run {T : TypeId} {τ : Ty} (hT : EqT P T τ) {u v : Value} {x y : τ.den} {inst : Decidable (x = y)} (hu : aF h S τ u x) (hv : aF h S τ v y) : aC P (Op.equal T u v) = some (@decide (x = y) inst) :=
  aj1 40 τ T hT.eq 9960 u v x y inst hu hv
theorem ae1 {τ : Ty} {u : Value} {x : τ.den} (ha : τ.agg = true) (hu : aF h S τ u x) : ∃ cs, u = .agg cs := by
  have h1 := hu.1.trans ha; cases u <;> first | exact ⟨_, rfl⟩ | cases h1
variable {fl : VL} {σ : aG} {x y : Operand} {T T' : TypeId} {τ : Ty}
theorem aK.aoI {p q : τ.den} [inst : Decidable (p = q)] (hT : EqT P T τ) (hx : b9 fl x = some (.v τ p) := by rfl) (hy : b9 fl y = some (.v τ q) := by rfl) : aK P fl σ (.binOp .neq T x y T') (.v .bool (decide (p ≠ q))) :=
  .bin hx hy fun h S a c ha hc => by
    have h1 := hT.run (inst := inst) ha hc; obtain ⟨cs, rfl⟩ := ae1 hT.agg ha; obtain ⟨ds, rfl⟩ := ae1 hT.agg hc; refine ⟨.bool (decide (p ≠ q)), aF.ofBool _, ?_, ?_⟩
    . rw [(aI.flat (pv := .v τ p) hT.flat ha).1, (aI.flat (pv := .v τ q) hT.flat hc).1]; rfl
    have he : aC P (eqGuard .neq T x y (.agg cs) (.agg ds)) = some () := by
      unfold eqGuard; simp [aE, uY, hT.guard, aQ]
    have hb : aC P (binOp .neq T (.agg cs) (.agg ds)) = some (.bool (decide (p ≠ q))) := by
      unfold binOp; simp only [aE, h1, Option.bind_some, aQ]; by_cases hpq : p = q <;> simp [hpq]
    unfold fK; rw [aE, he]; simp only [Option.bind_some, hb]; rfl
theorem GF {a b : ByteArray} : (a.toList == b.toList) = decide (a = b) := by
  rw [ByteArray.toList_eq, ByteArray.toList_eq]; by_cases h : a = b
  . subst h; simp
  rw [decide_eq_false h, beq_eq_false_iff_ne]; exact fun he => h (ByteArray.ext (Array.toList_inj.1 he))
variable {p q : ByteArray}
theorem aK.ae2 (b : BinOp) {u : Value} {v : PV} (hx : b9 fl x = some (.v .str p)) (hy : b9 fl y = some (.v .str q)) (hu : aC P (Op.stringOp b p q) = some u) (hf : af u = true) (hb : ∀ T : TypeId, (do eqGuard b T x y (.string p) (.string q); binOp b T (.string p) (.string q)) = Op.stringOp b p q) (hv : ∀ h S, aI h S v u) : aK P fl σ (.binOp b T x y T') v :=
  .bin hx hy fun h S a c ha hc => by
    obtain rfl := aF.str ha; obtain rfl := aF.str hc; refine ⟨u, hv h S, rfl, ?_⟩; unfold fK; rw [hb, hu]; simp only [Option.bind_some, hf, if_true]
theorem aK.sT (hx : b9 fl x = some (.v .str p) := by rfl) (hy : b9 fl y = some (.v .str q) := by rfl) : aK P fl σ (.binOp .eql T x y T') (.v .bool (decide (p = q))) :=
  .ae2 .eql hx hy (u := .bool (decide (p = q))) (by rw [<- GF]; rfl) rfl (fun _ => rfl) fun h S => aF.ofBool _
theorem aK.MN (hx : b9 fl x = some (.v .str p) := by rfl) (hy : b9 fl y = some (.v .str q) := by rfl) : aK P fl σ (.binOp .neq T x y T') (.v .bool (decide (p ≠ q))) :=
  .ae2 .neq hx hy (u := .bool (decide (p ≠ q))) (by rw [decide_not, <- GF]; rfl) rfl (fun _ => rfl) fun h S => aF.ofBool _
theorem aK.nQ (hb : p.size + q.size <= 1000000) (hx : b9 fl x = some (.v .str p) := by rfl) (hy : b9 fl y = some (.v .str q) := by rfl) : aK P fl σ (.binOp .add T x y T') (.v .str (p ++ q)) :=
  .ae2 .add hx hy (u := .string (p ++ q)) (by
    unfold Op.stringOp
    have h1 : IntKind.i64.max = 9223372036854775807 := by decide
    simp only []
    rw [if_neg (by omega)]; rfl) rfl (fun _ => rfl) fun h S => aF.ofStr _
end Go.Fs
namespace Go.Fs
variable {P : Program} {fl : VL} {σ γ : aG} {Q : PV -> aG -> Prop} {fn : Func}
end Go.Fs
namespace Go.Fs
variable {P : Program} {orc : FuncId -> List Value -> Heap -> Option (Value × Heap)}
theorem slI {fl : VL} {k : Nat} {κ : IntKind} {a b : Int} (hk : lC fl k = some (.v (.int κ) a)) (h : a = b) : lC fl k = some (.v (.int κ) b) := by rw [hk, h]
theorem cY {κ : IntKind} {a b : Int} (h : a = b) : PV.v (.int κ) a = PV.v (.int κ) b := by rw [h]
section
variable {h0 : Heap} {S0 : List Nat} {σ : aG} {ms : List Nat} {fl : VL} {ops : Array Oper} {n i mem : Nat} {l : List Oper} {K : VL -> aG -> Prop}
  {d : Tmp} {ty : TypeId} {pos : String} {after : Array Edge} {op : Op} {v : PV} {g : Option (Nat × Bool)} {bs nw : List Nat} {tail so : Bool}
theorem VD.co {b : Nat} (hc : aK P fl σ op v) (hk : VD P orc ops n l (i + 1) ((d, v) :: fl) (gT ((so && JL nw op) || v.kQ) d nw) σ so (bs ++ [b]) mem tail K)
    (hb : aP bs ⟨some d, op, ty, pos, after, g⟩ = b := by rfl) (hw : dU ops fl g = some true := by rfl) (hn : (Nat.blt d n && Nat.ble n 4000) = true := by rfl) :
    VD P orc ops n (⟨some d, op, ty, pos, after, g⟩ :: l) i fl nw σ so bs mem tail K := fun h0 G S0 t h ms segs I ho => by
  obtain ⟨n1, n2⟩ := fits hn; obtain ⟨u, e1, e2⟩ := hc.2 h (own σ ++ S0) t I.aH.y6 I.cells; refine tK.op (s' := ⟨t.set depth d u, h, bs ++ [b], segs, mem, tail⟩) ?_ (hk h0 G S0 _ h ms segs (I.set e1 n2) fun ht => (ho ht).set n2 fun hold hs a1 a2 a3 a4 a5 => ?_)
  . unfold fY; have IX : bR ops t ⟨some d, op, ty, pos, after, g⟩ = some true := dC I.aH hw; simp only [IX, hc.1, if_true, e2, Nat.beq_refl, cond_true, cE n1, Option.map_some, hb]
  rcases Bool.or_eq_true_iff.1 hold with hold | hold
  . obtain ⟨o1, o2⟩ := aY hold; obtain ⟨u', f1, f2⟩ := hc.2 hs (own σ ++ S0) t (CS a4 o2) (a5 o1)
    have : u' = u := by
      have g1 := e2 none 0 "" #[] none h; rw [f2 none 0 "" #[] none h] at g1; simpa using g1
    rw [<- this]; exact f1
  exact (aI.kQ hold e1).2 _ _
end
end Go.Fs
namespace Go.Fs
variable {P : Program} {orc : FuncId -> List Value -> Heap -> Option (Value × Heap)} {aV : Option Nat} {h h' h0 h1 h2 : Heap} {S S' S0 G : List Nat} {σ aJ kR γ gD : aG} {t t' : Tr} {ms : List Nat} {fl nw : VL} {ops : Array Oper} {n i mem : Nat} {l : List Oper} {K : VL -> aG -> Prop} {Q : Ex -> VL -> aG -> Prop}
  {d : Tmp} {ty : TypeId} {pos : String} {after : Array Edge} {op : Op} {v pv : PV} {g : Option (Nat × Bool)} {bs nw0 : List Nat} {tail so : Bool}
inductive JT (fl : VL) (γ : aG) : VL -> Prop where
  | nil : JT fl γ []
  | cons {k : Nat} {p p' : PV} {r : VL} (hk : lC fl k = some p) (hc : Co γ p p') (hr : JT fl γ r) : JT fl γ ((k, p') :: r)
theorem Iv.SM : ∀ {γ : aG}, Iv h0 G S0 h (γ ++ σ) t ms fl -> Iv h0 G S0 h σ t ms (fl)
  | [], I => I
  | _ :: γ, I => Iv.SM (γ := γ) I.forget
theorem Iv.wK (I : Iv h0 G S0 h (γ ++ σ) t ms fl) (hs : JT fl γ nw) : Iv h0 G S0 h σ t ms (nw ++ fl) := by
  have I' := I.SM
  have zX : eK h (own σ ++ S0) t (nw ++ fl) := by
    induction hs with
    | nil => exact I'.aH
    | cons hk hc hr ih =>
      refine ih.cons (Co.ok (σ := γ) (S0 := own σ ++ S0) (fun c hd => ?_) (fun b hb => ?_) hc ?_)
      . have := I.cells c (List.mem_append_left _ hd); rw [cB, List.append_assoc] at this; exact this
      . have h1 := I.apart; rw [cB] at h1; intro hm; rcases List.mem_append.1 hm with hm | hm
        . exact (List.nodup_append.1 h1).2.2 b hb b hm rfl
        exact (I.new b (by rw [cB]; exact List.mem_append_left _ hb)).2 hm
      have := I.aH _ _ hk; rw [cB, List.append_assoc] at this; exact this
  exact { I' with aH := zX }
theorem U.wK {a : Code} (γ : aG) (nw : VL) (PG : γ ++ σ = kR) (hs : JT fl γ nw) (hx : U P orc aV a n (nw ++ fl) σ Q) : U P orc aV a n fl kR Q := fun h0 G S0 t h ms I => by
  subst PG; exact hx h0 G S0 t h ms (I.wK hs)
end Go.Fs
namespace Go.Fs
variable {P : Program} {orc : FuncId -> List Value -> Heap -> Option (Value × Heap)} {fl : VL} {σ γ : aG} {T : TypeId} {τ : Ty}
theorem row_one {h : Heap} {S : List Nat} {w : Value} {e : TypeId} {xs : List τ.den} (hc : bA h S w (.row e τ xs)) : aT w = true := by
  rcases hc with ⟨h1, _⟩ | ⟨b, rs, m, h1, _⟩
  . rw [show w = _ from h1]; rfl
  rw [show w = _ from h1]; rfl
theorem J.one {orc : FuncId -> List Value -> Heap -> Option (Value × Heap)} {ops : Array Oper} {n : Nat} {l : List Oper} {K : VL -> aG -> Prop} {w : Value} {e : TypeId} {xs : List τ.den} (hm : (w, Cell.row e τ xs) ∈ σ) (hk : aT w = true -> J P orc ops n l fl σ K) : J P orc ops n l fl σ K := fun h0 G S0 t h ms I => hk (row_one (I.cells _ hm)) h0 G S0 t h ms I
theorem VD.one {orc : FuncId -> List Value -> Heap -> Option (Value × Heap)} {ops : Array Oper} {n i mem : Nat} {l : List Oper} {K : VL -> aG -> Prop} {nw bs : List Nat} {so tail : Bool} {w : Value} {e : TypeId} {xs : List τ.den} (hm : (w, Cell.row e τ xs) ∈ σ) (hk : aT w = true -> VD P orc ops n l i fl nw σ so bs mem tail K) : VD P orc ops n l i fl nw σ so bs mem tail K := fun h0 G S0 t h ms segs I => hk (row_one (I.cells _ hm)) h0 G S0 t h ms segs I
theorem VD.perm {orc : FuncId -> List Value -> Heap -> Option (Value × Heap)} {ops : Array Oper} {n i mem : Nat} {l : List Oper} {K : VL -> aG -> Prop} {nw bs : List Nat} {so tail : Bool} {aJ : aG} (hp : σ.Perm aJ) (hx : VD P orc ops n l i fl nw aJ false bs mem tail K) : VD P orc ops n l i fl nw σ so bs mem tail K := fun h0 G S0 t h ms segs I ho => hx h0 G S0 t h ms segs (I.perm hp) fun ht => by
  obtain ⟨hs, a1, a2, a3, a4, a5, a6⟩ := ho ht; refine ⟨hs, a1, a2, a3, a4, fun k pv hk hn => (a5 k pv hk hn).nx (h := hs) fun b ob hg hb => ⟨hg, fun hm => hb ?_⟩, fun e => by cases e⟩; rcases List.mem_append.1 hm with hm | hm
  . obtain ⟨c, hc, hb⟩ := List.mem_flatMap.1 hm; exact List.mem_append_left _ (List.mem_flatMap.2 ⟨c, hp.mem_iff.2 hc, hb⟩)
  exact List.mem_append_right _ hm
end Go.Fs
namespace Ieee
namespace Format
variable (f : Format)
end Format
end Ieee
namespace Ieee
def sg (s : Bool) (r : Nat) : Int := if s then -(r : Int) else r
namespace Format
variable (f : Format)
def apZ (x : Nat) : Option Int := match f.read x with
  | .number s m p => some (sg s (m * 2 ^ (p - f.leastPlace).toNat))
  | _ => none
variable {f}
end Format
end Ieee
namespace Ieee
namespace Format
variable {f g : Format}
end Format
end Ieee
namespace Ieee
open Format
end Ieee
namespace Ieee
open Format
end Ieee
namespace Go.Fs
variable {P : Program} {h : Heap} {S : List Nat} {σ : aG} {t : Tr} {fl : VL} {x y : Operand} {T T' : TypeId} {v pv : PV} {k k' : FloatKind} {p q : Nat}
end Go.Fs
namespace Go.Fs
variable {P : Program} {orc : FuncId -> List Value -> Heap -> Option (Value × Heap)} {aV : Option Nat} {h h' h0 h1 h2 : Heap} {S S' S0 B G : List Nat} {σ aJ : aG} {t t' : Tr} {ms : List Nat} {fl : VL} {ops : Array Oper} {n : Nat} {l : List Oper} {K : VL -> aG -> Prop} {Q : Ex -> VL -> aG -> Prop}
  {d : Tmp} {ty : TypeId} {pos : String} {after : Array Edge} {op : Op} {v pv : PV} {g : Option (Nat × Bool)} {x y z : Operand} {T T' e : TypeId} {κ ν : Ty} {w : Value}
section
variable {α β : Type} [DecidableEq α]
def cT : List (α × β) -> α -> Option β
  | [], _ => none
  | (k, v) :: r, x => if x = k then some v else cT r x
def qY : List (α × β) -> α -> β -> List (α × β)
  | [], x, y => [(x, y)]
  | (k, v) :: r, x, y => if x = k then (x, y) :: r else (k, v) :: qY r x y
def mix : List (α × β) -> α -> Nat -> Option Nat
  | [], _, _ => none
  | (k, _) :: r, x, i => if x = k then some i else mix r x (i + 1)
theorem CZ : ∀ {l : List (α × β)} {x : α} {i : Nat}, match mix l x i with
    | none => cT l x = none
    | some j => i <= j /\ ∃ (hj : j - i < l.length), (l[j - i]).1 = x /\ cT l x = some (l[j - i]).2
  | [], _, _ => rfl
  | (k, v) :: r, x, i => by
    unfold mix cT; by_cases hk : x = k
    . rw [if_pos hk, if_pos hk]
      have e0 : i - i = 0 := by omega
      refine ⟨Nat.le_refl _, by rw [e0]; simp, ?_, ?_⟩
      . simp only [e0]; exact hk.symm
      simp only [e0]; rfl
    rw [if_neg hk, if_neg hk]; have := CZ (l := r) (x := x) (i := i + 1); split at this
    . exact this
    rename_i j hj; obtain ⟨h1, h2, h3, h4⟩ := this
    have e1 : j - i = (j - (i + 1)) + 1 := by omega
    refine ⟨by omega, by rw [e1]; simpa using h2, ?_, ?_⟩
    . simp only [e1, List.getElem_cons_succ]; exact h3
    simp only [e1, List.getElem_cons_succ]; exact h4
theorem SN : ∀ {l : List (α × β)} {x : α} {y : β} {i : Nat}, match mix l x i with
    | none => qY l x y = l ++ [(x, y)]
    | some j => i <= j /\ qY l x y = l.set (j - i) (x, y)
  | [], _, _, _ => rfl
  | (k, v) :: r, x, y, i => by
    unfold mix qY; by_cases hk : x = k
    . rw [if_pos hk, if_pos hk]
      have e0 : i - i = 0 := by omega
      exact ⟨Nat.le_refl _, by rw [e0]; rfl⟩
    rw [if_neg hk, if_neg hk]; have := SN (l := r) (x := x) (y := y) (i := i + 1); split at this
    . rw [this]; rfl
    rename_i j hj; obtain ⟨h1, h2⟩ := this
    have e1 : j - i = (j - (i + 1)) + 1 := by omega
    exact ⟨by omega, by rw [e1, List.set_cons_succ, h2]⟩
end
structure ae3 (P : Program) (K : TypeId) (κ : Ty) : Prop where
  flat : κ.iC = true
  und : ∃ td, P.underlying K = some td /\ ((∀ {h : Heap} {S : List Nat} (u v : Value) (x y : κ.den) (inst : Decidable (x = y)), aF h S κ u x -> aF h S κ v y -> Instr.sameNow td u v = some (@decide (x = y) inst)) \/
    ((∀ u v, Instr.sameNow td u v = none) /\ ∀ {h : Heap} {S : List Nat} (u v : Value) (x y : κ.den) (inst : Decidable (x = y)), aF h S κ u x -> aF h S κ v y -> aC P (Op.equal K u v) = some (@decide (x = y) inst)))
  chk : ∀ {h : Heap} {S : List Nat} (em : Bool) (u : Value) (x : κ.den), aF h S κ u x -> (aC P (Instr.checkKey em 10000 K u)).isSome = true
  bits : ∀ {h : Heap} {S : List Nat} (u : Value) (x : κ.den), aF h S κ u x -> Instr.sameBits 10000 u u = true
theorem YE {K : TypeId} (hK : P.underlying K = some .string) : ae3 P K .str where
  flat := rfl
  und := ⟨.string, hK, .inl fun u v x y inst hu hv => by
    rw [hu.str, hv.str]; show some (x == y) = _; congr 1; by_cases h : x = y
    . rw [wJ h]; simp [h]
    rw [CY h]; simp [h]⟩
  chk := fun em u x hu => by
    rw [hu.str]; unfold Instr.checkKey; simp only [aE, bB hK, Option.bind_some]; rfl
  bits := fun u x hu => by
    rw [hu.str]; show (x == x) = true; exact wJ rfl
structure AD (P : Program) (T : TypeId) (κ ν : Ty) : Prop where
  key : ∃ K E, P.underlying T = some (.map K E) /\ ae3 P K κ /\ oG P E ν
def rN (h : Heap) (S : List Nat) (κ ν : Ty) (es : List MapEntry) (kvs : List (κ.den × ν.den)) : Prop := es.length = kvs.length /\ ∀ i (hi : i < kvs.length) (hj : i < es.length), aF h S κ es[i].key kvs[i].1 /\ aF h S ν es[i].val kvs[i].2
theorem rN.tail {e : MapEntry} {es : List MapEntry} {p : κ.den × ν.den} {kvs : List (κ.den × ν.den)} (hE : rN h S κ ν (e :: es) (p :: kvs)) : (aF h S κ e.key p.1 /\ aF h S ν e.val p.2) /\ rN h S κ ν es kvs := by
  obtain ⟨h1, h2⟩ := hE; refine ⟨h2 0 (by simp) (by simp), by simpa using h1, fun i hi hj => ?_⟩; have := h2 (i + 1) (by simpa using hi) (by simpa using hj); simpa using this
theorem zH [DecidableEq κ.den] {K : TypeId} {u : Value} {k : κ.den} (hK : ae3 P K κ) (hu : aF h S κ u k) {es : List MapEntry} {kvs : List (κ.den × ν.den)} (hE : rN h S κ ν es kvs) : vM P K u es = some (mix kvs k 0) := by
  obtain ⟨td, hU, hk⟩ := hK.und; unfold vM; rw [hU]; simp only; rcases hk with hk | ⟨hn, hk⟩
  . have key : ∀ (es : List MapEntry) (kvs : List (κ.den × ν.den)) (i : Nat), rN h S κ ν es kvs -> ∃ r, Instr.findNow td u es i = some r /\ r.map (·.1) = mix kvs k i := by
      intro es
      induction es with
      | nil =>
        intro kvs i hE
        cases kvs with
        | nil => exact ⟨none, rfl, rfl⟩
        | cons p kvs => have := hE.1; simp at this
      | cons e es ih =>
        intro kvs i hE
        cases kvs with
        | nil => have := hE.1; simp at this
        | cons p kvs =>
          obtain ⟨⟨h1, _⟩, h3⟩ := hE.tail; obtain ⟨k', v'⟩ := p; unfold Instr.findNow mix; rw [hk u e.key k k' inferInstance hu h1]; by_cases EZ : k = k'
          . rw [if_pos EZ]; exact ⟨some (i, e.val), by simp [EZ], rfl⟩
          rw [if_neg EZ]; obtain ⟨r, r1, r2⟩ := ih kvs (i + 1) h3; exact ⟨r, by simp [EZ, r1], r2⟩
    obtain ⟨r, r1, r2⟩ := key es kvs 0 hE; rw [r1]; simp only; rw [r2]
  cases es with
  | nil =>
    cases kvs with
    | nil => rfl
    | cons p kvs => have := hE.1; simp at this
  | cons e0 es0 =>
    have aoJ : Instr.findNow td u (e0 :: es0) 0 = none := by
      unfold Instr.findNow; rw [hn]
    rw [aoJ]; simp only
    have key : ∀ (es : List MapEntry) (kvs : List (κ.den × ν.den)) (i : Nat), rN h S κ ν es kvs -> ∃ r, aC P (Instr.findAsking K u es i) = some r /\ r.map (·.1) = mix kvs k i := by
      intro es
      induction es with
      | nil =>
        intro kvs i hE
        cases kvs with
        | nil => exact ⟨none, rfl, rfl⟩
        | cons p kvs => have := hE.1; simp at this
      | cons e es ih =>
        intro kvs i hE
        cases kvs with
        | nil => have := hE.1; simp at this
        | cons p kvs =>
          obtain ⟨⟨h1, _⟩, h3⟩ := hE.tail; obtain ⟨k', v'⟩ := p; unfold Instr.findAsking mix; simp only [aE, hk u e.key k k' inferInstance hu h1, Option.bind_some]; by_cases EZ : k = k'
          . rw [if_pos EZ]; exact ⟨some (i, e.val), by simp [EZ, aQ], rfl⟩
          rw [if_neg EZ]; obtain ⟨r, r1, r2⟩ := ih kvs (i + 1) h3; exact ⟨r, by simp [EZ, r1], r2⟩
    obtain ⟨r, r1, r2⟩ := key _ kvs 0 hE; have r1' : aC P (Instr.findAsking K u (e0 :: es0)) = some r := r1; rw [r1']; simp only [Option.map_some]; rw [r2]
theorem JU [DecidableEq κ.den] (hT : AD P T κ ν) {u m : Value} {k : κ.den} {kvs : List (κ.den × ν.den)} (hu : aF h S κ u k) (hm : VZ h S κ ν m kvs) :
    ∃ r, aF h S ν r ((cT kvs k).getD (pB ν)) /\ (∀ H : Heap, (∀ b o, h.get b = some o -> H.get b = some o) -> fR P T m u false H = some r /\ fR P T m u true H = some (.tuple #[r, .bool (cT kvs k).isSome])) := by
  obtain ⟨K, E, hU, hK, hZ⟩ := hT.key; obtain ⟨z, hz, hzc, C3⟩ := hZ.zero; obtain ⟨z1, z2⟩ := mW h S ν; obtain ⟨a1, a2⟩ := zF (u := z) (by rw [hzc]; exact z2); have L3 : aF h S ν z (pB ν) := ⟨C3, by rw [hzc]; exact z1⟩; have II : af u = true := sQ (sA hK.flat hu); rcases hm with ⟨rfl, rfl⟩ | ⟨b, es, c, rfl, pZ, hg, hE⟩
  . refine ⟨z, L3, fun H hH => ?_⟩; have hf : vM P K u [] = some none := zH (kvs := ([] : List (κ.den × ν.den))) hK hu ⟨rfl, fun i hi => by simp at hi⟩; have LJ := hK.chk (h := h) (S := S) true u k hu; constructor <;> simp [fR, hU, hz, II, a1, hf, LJ, cT]
  have F0 : rN h S κ ν es kvs := hE; have hf := zH (ν := ν) hK hu F0; have LJ := hK.chk (h := h) (S := S) es.isEmpty u k hu; have HL := CZ (l := kvs) (x := k) (i := 0)
  cases zQ : mix kvs k 0 with
  | none =>
    rw [zQ] at HL hf; have SO : cT kvs k = none := HL; refine ⟨z, by rw [SO]; exact L3, fun H hH => ?_⟩
    constructor <;> simp [fR, hU, hz, II, a1, hf, LJ, SO, hH b _ hg]
  | some j =>
    rw [zQ] at HL hf; obtain ⟨_, hj, H4, uF⟩ := HL; simp only [Nat.sub_zero] at hj H4 uF
    have IQ : j < es.length := by rw [F0.1]; exact hj
    refine ⟨es[j].val, by rw [uF]; exact (F0.2 j hj IQ).2, fun H hH => ?_⟩; constructor <;> simp [fR, hU, hz, II, a1, hf, LJ, uF, hH b _ hg, List.getElem?_eq_getElem IQ]
theorem rN.set {kvs : List (κ.den × ν.den)} {es : List MapEntry} {j : Nat} {e : MapEntry} {p : κ.den × ν.den} (hE : rN h S κ ν es kvs) (hk : aF h S κ e.key p.1) (hv : aF h S ν e.val p.2) : rN h S κ ν (es.set j e) (kvs.set j p) := by
  refine ⟨by simpa using hE.1, fun i hi hj => ?_⟩; rw [List.length_set] at hi hj; by_cases RL : j = i
  . subst RL; simp only [List.getElem_set_self]; exact ⟨hk, hv⟩
  simp only [List.getElem_set_ne RL]; exact hE.2 i hi hj
theorem rN.push {kvs : List (κ.den × ν.den)} {es : List MapEntry} {e : MapEntry} {p : κ.den × ν.den} (hE : rN h S κ ν es kvs) (hk : aF h S κ e.key p.1) (hv : aF h S ν e.val p.2) : rN h S κ ν (es ++ [e]) (kvs ++ [p]) := by
  refine ⟨by simpa using hE.1, fun i hi hj => ?_⟩
  have qU : i < kvs.length + 1 := by simpa using hi
  by_cases b7 : i < kvs.length
  . rw [List.getElem_append_left b7, List.getElem_append_left (by rw [hE.1]; exact b7)]; exact hE.2 i b7 _
  have e1 : i = kvs.length := by omega
  subst e1; have e2 := hE.1
  have q1 : (es ++ [e])[kvs.length]'hj = e := by rw [List.getElem_append_right (by omega)]; simp [e2]
  have q2 : (kvs ++ [p])[kvs.length]'hi = p := by rw [List.getElem_append_right (by omega)]; simp
  rw [q1, q2]; exact ⟨hk, hv⟩
section
variable [DecidableEq κ.den] {k : κ.den} {kvs : List (κ.den × ν.den)}
theorem dN.look (hT : AD P T κ ν) (hx : b9 fl x = some (.v (.mp κ ν) kvs) := by rfl) (hy : b9 fl y = some (.v κ k) := by rfl) : dN P fl σ (.lookup T x y false) (.v ν ((cT kvs k).getD (pB ν))) :=
  ⟨rfl, fun h S t hs hc => by
    obtain ⟨r, r1, r2⟩ := JU hT (hs y (by simp [Op.operands]) _ hy : aF h S κ _ k) (aF.mp (hs x (by simp [Op.operands]) _ hx))
    exact ⟨r, r1, fun H hH _ _ _ _ _ => by
      show (fR P T (aB t x) (aB t y) false H).map _ = _
      rw [(r2 H hH).1]; rfl⟩⟩
theorem dN.aj3 (hT : AD P T κ ν) (hx : b9 fl x = some (.v (.mp κ ν) kvs) := by rfl) (hy : b9 fl y = some (.v κ k) := by rfl) : dN P fl σ (.lookup T x y true) (.mE [.v ν ((cT kvs k).getD (pB ν)), .v .bool (cT kvs k).isSome]) :=
  ⟨rfl, fun h S t hs hc => by
    obtain ⟨r, r1, r2⟩ := JU hT (hs y (by simp [Op.operands]) _ hy : aF h S κ _ k) (aF.mp (hs x (by simp [Op.operands]) _ hx))
    exact ⟨.tuple #[r, .bool (cT kvs k).isSome], ⟨[r, .bool (cT kvs k).isSome], rfl, r, _, rfl, r1, _, _, rfl, aF.ofBool _, rfl⟩, fun H hH _ _ _ _ _ => by
      show (fR P T (aB t x) (aB t y) true H).map _ = _
      rw [(r2 H hH).2]; rfl⟩⟩
theorem GG (hT : AD P T κ ν) {u : Value} (hu : aF h S κ u k) (hc : bA h S w (.mp κ ν kvs)) :
    ∃ r, aF h S ν r ((cT kvs k).getD (pB ν)) /\ (∀ H : Heap, (∀ b o, h.get b = some o -> H.get b = some o) -> fR P T w u false H = some r /\ fR P T w u true H = some (.tuple #[r, .bool (cT kvs k).isSome])) := by
  obtain ⟨K, E, hU, hK, hZ⟩ := hT.key; obtain ⟨z, hz, hzc, C3⟩ := hZ.zero; obtain ⟨z1, z2⟩ := mW h S ν; obtain ⟨a1, a2⟩ := zF (u := z) (by rw [hzc]; exact z2); have L3 : aF h S ν z (pB ν) := ⟨C3, by rw [hzc]; exact z1⟩; have II : af u = true := sQ (sA hK.flat hu); obtain ⟨b, es, c, rfl, pZ, hg, hE⟩ := hc; have F0 : rN h S κ ν es kvs := hE; have hf := zH (ν := ν) hK hu F0; have LJ := hK.chk (h := h) (S := S) es.isEmpty u k hu; have HL := CZ (l := kvs) (x := k) (i := 0)
  cases zQ : mix kvs k 0 with
  | none =>
    rw [zQ] at HL hf; have SO : cT kvs k = none := HL; refine ⟨z, by rw [SO]; exact L3, fun H hH => ?_⟩
    constructor <;> simp [fR, hU, hz, II, a1, hf, LJ, SO, hH b _ hg]
  | some j =>
    rw [zQ] at HL hf; obtain ⟨_, hj, H4, uF⟩ := HL; simp only [Nat.sub_zero] at hj H4 uF
    have IQ : j < es.length := by rw [F0.1]; exact hj
    refine ⟨es[j].val, by rw [uF]; exact (F0.2 j hj IQ).2, fun H hH => ?_⟩; constructor <;> simp [fR, hU, hz, II, a1, hf, LJ, uF, hH b _ hg, List.getElem?_eq_getElem IQ]
theorem dN.W8 (hT : AD P T κ ν) (hm : (w, Cell.mp κ ν kvs) ∈ σ) (hx : b9 fl x = some (.raw w) := by rfl) (hy : b9 fl y = some (.v κ k) := by rfl) : dN P fl σ (.lookup T x y false) (.v ν ((cT kvs k).getD (pB ν))) :=
  ⟨rfl, fun h S t hs hc => by
    have h1 : aB t x = w := hs x (by simp [Op.operands]) _ hx; obtain ⟨r, r1, r2⟩ := GG hT (hs y (by simp [Op.operands]) _ hy : aF h S κ _ k) (hc _ hm)
    exact ⟨r, r1, fun H hH _ _ _ _ _ => by
      show (fR P T (aB t x) (aB t y) false H).map _ = _
      rw [h1, (r2 H hH).1]; rfl⟩⟩
theorem dN.ae4 (hT : AD P T κ ν) (hm : (w, Cell.mp κ ν kvs) ∈ σ) (hx : b9 fl x = some (.raw w) := by rfl) (hy : b9 fl y = some (.v κ k) := by rfl) : dN P fl σ (.lookup T x y true) (.mE [.v ν ((cT kvs k).getD (pB ν)), .v .bool (cT kvs k).isSome]) :=
  ⟨rfl, fun h S t hs hc => by
    have h1 : aB t x = w := hs x (by simp [Op.operands]) _ hx; obtain ⟨r, r1, r2⟩ := GG hT (hs y (by simp [Op.operands]) _ hy : aF h S κ _ k) (hc _ hm)
    exact ⟨.tuple #[r, .bool (cT kvs k).isSome], ⟨[r, .bool (cT kvs k).isSome], rfl, r, _, rfl, r1, _, _, rfl, aF.ofBool _, rfl⟩, fun H hH _ _ _ _ _ => by
      show (fR P T (aB t x) (aB t y) true H).map _ = _
      rw [h1, (r2 H hH).2]; rfl⟩⟩
theorem bF.MO {u : ν.den} (hT : AD P T κ ν) (hx : b9 fl x = some (.raw w)) (hy : b9 fl y = some (.v κ k)) (hz : b9 fl z = some (.v ν u)) :
    bF P fl ((w, .mp κ ν kvs) :: σ) (.mapUpdate T x y z) fun v aJ => v = .raw undef /\ aJ = (w, .mp κ ν (qY kvs k u)) :: σ :=
  ⟨rfl, fun S0 h t L => by
    have h1 : aB t x = w := dP L.aH hx; have hk := (dP L.aH hy : aF h _ κ (aB t y) k); have hv := (dP L.aH hz : aF h _ ν (aB t z) u); obtain ⟨K, E, hU, hK, hZ⟩ := hT.key; obtain ⟨b, es, c, h3, h4, hg, hE⟩ := L.cells _ List.mem_cons_self; have hw : w = .map (some b) := h3; have F0 : rN h (own ((w, .mp κ ν kvs) :: σ) ++ S0) κ ν es kvs := hE
    have rJ : cI w = [b] := by rw [hw]; rfl
    have hf := zH (ν := ν) hK hk F0; have II : af (aB t y) = true := sQ (sA hK.flat hk); have LJ := hK.chk (h := h) false _ k hk; have RT := SN (l := kvs) (x := k) (y := u) (i := 0); have HL := CZ (l := kvs) (x := k) (i := 0)
    have fin : ∀ (eH : List MapEntry) (c' : Nat), lA P T w (aB t y) (aB t z) h = some (h.set b (.nG eH c')) -> rN h (own ((w, .mp κ ν kvs) :: σ) ++ S0) κ ν eH (qY kvs k u) ->
        ∃ uu h' v aJ, (v = .raw undef /\ aJ = (w, .mp κ ν (qY kvs k u)) :: σ) /\ Made S0 h h' ((w, .mp κ ν kvs) :: σ) aJ /\ aI h' (own aJ ++ S0) v uu /\ ∀ (d : Option Tmp) (ty : TypeId) (pos : String) (after : Array Edge) (g : Option (Nat × Bool)), iI P ⟨d, .mapUpdate T x y z, ty, pos, after, g⟩ (aB t) h = some (uu, h') := fun eH c' hup hEn => by
      refine ⟨undef, h.set b (.nG eH c'), .raw undef, _, ⟨rfl, rfl⟩, Made.head L (cD.set hg (by rw [rJ]; simp)) (fun b hb => .inl hb) (by rw [rJ]; simp) fun hN => ?_, rfl, fun _ _ _ _ _ => ?_⟩
      . refine ⟨b, eH, c', h3, ?_, by rw [Heap.dB hg, if_pos rfl], hEn.1, fun i hi hj => ⟨(hEn.2 i hi hj).1.nx hN, (hEn.2 i hi hj).2.nx hN⟩⟩; rw [bZ]; exact List.mem_append_left _ (List.mem_append_left _ (by rw [rJ]; simp))
      show (lA P T (aB t x) (aB t y) (aB t z) h).map _ = _; rw [h1, hup]; rfl
    cases zQ : mix kvs k 0 with
    | none =>
      rw [zQ] at RT hf; have YF : Fs.qY kvs k u = kvs ++ [(k, u)] := RT; refine fin (es ++ [{ key := aB t y, val := aB t z, born := c }]) (c + 1) ?_ (by rw [YF]; exact F0.push hk hv); rw [hw]
      simp [lA, hU, hg, II, LJ, hf]
    | some j =>
      rw [zQ] at RT hf HL; obtain ⟨_, YF⟩ := RT; obtain ⟨_, hj, H4, _⟩ := HL; simp only [Nat.sub_zero] at YF hj H4
      have IQ : j < es.length := by rw [F0.1]; exact hj
      have UT : es[j].key = aB t y := by
        have q1 := (F0.2 j hj IQ).1; rw [H4] at q1; have c1 := qX q1.2 hK.flat; have c2 := qX hk.2 hK.flat
        cases fC : κ.agg with
        | true => rw [flat_agg q1 hK.flat fC, flat_agg hk hK.flat fC]
        | false =>
          have d1 := eJ (q1.1.trans fC); have d2 := eJ (hk.1.trans fC); rw [d1] at c1; rw [d2] at c2; have : [es[j].key] = [aB t y] := c1.trans c2.symm; simpa using this
      have hsb : Instr.sameBits 10000 es[j].key (aB t y) = true := by rw [UT]; exact hK.bits _ k hk
      refine fin (es.set j { es[j] with key := aB t y, val := aB t z }) c ?_ (by rw [YF]; exact F0.set hk hv); rw [hw]
      simp [lA, hU, hg, II, LJ, hf, List.getElem?_eq_getElem IQ, hsb]⟩
theorem J.MO {u : ν.den} (hT : AD P T κ ν) (hk : J P orc ops n l fl ((w, .mp κ ν (qY kvs k u)) :: σ) K) (hx : b9 fl x = some (.raw w) := by rfl) (hy : b9 fl y = some (.v κ k) := by rfl) (hz : b9 fl z = some (.v ν u) := by rfl) (hw : dU ops fl g = some true := by rfl) :
    J P orc ops n (⟨none, .mapUpdate T x y z, ty, pos, after, g⟩ :: l) fl ((w, .mp κ ν kvs) :: σ) K :=
  J.oN (bF.MO hT hx hy hz) (by rintro _ _ ⟨rfl, rfl⟩; exact hk) hw
end
theorem jY.mkMap (κ ν : Ty) : jY P fl (.makeMap T none) (.mp κ ν []) :=
  ⟨rfl, fun h S t hs bD hS => ⟨fun k => .map (some k), .nG [] 0, fun _ => rfl, fun S' hN hm => ⟨h.next, [], 0, rfl, hm, by rw [Heap.bE, if_pos rfl], rfl, fun i hi => by simp at hi⟩, fun H _ _ _ _ _ => rfl⟩⟩
end Go.Fs
namespace Go.Fs
variable {P : Program} {orc : FuncId -> List Value -> Heap -> Option (Value × Heap)} {h : Heap} {S : List Nat} {σ : aG} {t : Tr} {fl : VL} {x y : Operand} {T T' : TypeId} {v pv : PV} {k k' : FloatKind} {p q : Nat}
theorem VF.ext {f : FuncId} {args : List PV} {r : PV} {fn : Func} {e : Array Value -> Sem Value} {us : List Value} {w : Value} (lB : P.funcs[f]? = some fn) (ho : ∀ us h, orc f us h = none) (hb : (fn.body.isNone && !(fn.name == "runtime.NumGoroutine")) = true) (h1 : (Extern.findNext fn).isNone = true) (h2 : Extern.find fn = some e)
    (ha : us.all af = true) (hus : ∀ (h : Heap) (S : List Nat) (us' : List Value), b6 h S args us' -> us' = us) (hv : fK P (e us.toArray) = some w) (hr : ∀ (h : Heap) (S : List Nat), aI h S r w) : VF P orc f args r := fun h S us' bD hS n7 => by
  obtain rfl := hus h S us' n7; exact oS.ext (ho _ _) lB hb h1 h2 ha hv ⟨cD.refl _ _, hr _ _, fun _ => rfl⟩
end Go.Fs
namespace Ieee
open Format
end Ieee
namespace Go.Fs
variable {P : Program} {orc : FuncId -> List Value -> Heap -> Option (Value × Heap)} {aV : Option Nat} {h : Heap} {S : List Nat} {σ : aG} {t : Tr} {fl : VL} {x y : Operand} {T : TypeId} {n : Nat} {τ eP : Ty} {Q : Ex -> VL -> aG -> Prop}
section
variable {T' : TypeId}
end
end Go.Fs
namespace Go.Fs
variable {P : Program} {orc : FuncId -> List Value -> Heap -> Option (Value × Heap)} {aV : Option Nat} {h h' h0 h1 h2 : Heap} {S S' S0 B G : List Nat} {σ aJ : aG} {t t' : Tr} {ms : List Nat} {fl nw : VL} {ops : Array Oper} {n : Nat} {l : List Oper} {K : VL -> aG -> Prop} {Q : Ex -> VL -> aG -> Prop}
  {d : Tmp} {ty : TypeId} {pos : String} {after : Array Edge} {op : Op} {v pv : PV} {g : Option (Nat × Bool)} {x y z : Operand} {T T' e : TypeId} {w : Value} {s : ByteArray} {p : Nat}
theorem jY.rng (hT : P.underlying T = some .string := by kernel_rfl) (hx : b9 fl x = some (.v .str s) := by rfl) : jY P fl (.range T x) (.it s 0) :=
  ⟨rfl, fun h S t hs bD hS => by
    have hv : aB t x = .string s := aF.str (hs x (by simp [Op.operands]) _ hx : aF h S .str _ s); refine ⟨fun k => .pointer (some ⟨k, 0, none⟩), .iter s 0, fun _ => rfl, fun S' hN hm => ⟨h.next, rfl, hm, by rw [Heap.bE, if_pos rfl]⟩, fun H _ _ _ _ _ => ?_⟩; show xC P T (aB t x) H = _; rw [hv]
    simp [xC, hT]⟩
theorem bF.alV (hp : p < s.size) (hx : b9 fl x = some (.raw w)) : bF P fl ((w, .it s p) :: σ) (.next x true) fun v aJ => v = .mE [.v .bool true, .v (.int .i64) ((p : Nat) : Int), .v (.int .i32) (((Utf8.decode s p).1 : Nat) : Int)] /\ aJ = (w, .it s (p + (Utf8.decode s p).2)) :: σ :=
  ⟨rfl, fun S0 h t L => by
    have h1 : aB t x = w := dP L.aH hx; obtain ⟨b, h3, h4, hg⟩ := L.cells _ List.mem_cons_self; have hw : w = .pointer (some ⟨b, 0, none⟩) := h3
    have rJ : cI w = [b] := by rw [hw]; rfl
    refine ⟨.tuple #[.bool true, .int .i64 ((p : Nat) : Int), .int .i32 (((Utf8.decode s p).1 : Nat) : Int)], h.set b (.iter s (p + (Utf8.decode s p).2)), _, _, ⟨rfl, rfl⟩, Made.head L (cD.set hg (by rw [rJ]; simp)) (fun b hb => .inl hb) (by rw [rJ]; simp) fun hN => ?_, ?_, fun _ _ _ _ _ => ?_⟩
    . refine ⟨b, h3, ?_, by rw [Heap.dB hg, if_pos rfl]⟩; rw [bZ]; exact List.mem_append_left _ (List.mem_append_left _ (by rw [rJ]; simp))
    . exact ⟨_, rfl, _, _, rfl, aF.ofBool _, _, _, rfl, aF.ofInt _ _, _, _, rfl, aF.ofInt _ _, rfl⟩
    show vN (aB t x) true h = _; rw [h1, hw]
    simp [vN, hg, hp]⟩
theorem bF.alW (hp : ¬ p < s.size) (hx : b9 fl x = some (.raw w)) : bF P fl ((w, .it s p) :: σ) (.next x true) fun v aJ => v = .mE [.v .bool false] /\ aJ = (w, .it s p) :: σ :=
  ⟨rfl, fun S0 h t L => by
    have h1 : aB t x = w := dP L.aH hx; obtain ⟨b, h3, h4, hg⟩ := L.cells _ List.mem_cons_self; have hw : w = .pointer (some ⟨b, 0, none⟩) := h3; refine ⟨.tuple #[.bool false], h, _, _, ⟨rfl, rfl⟩, Made.same L (cD.refl h []), ⟨_, rfl, _, _, rfl, aF.ofBool _, rfl⟩, fun _ _ _ _ _ => ?_⟩; show vN (aB t x) true h = _; rw [h1, hw]
    simp [vN, hg, hp]⟩
theorem J.next (hx : b9 fl x = some (.raw w)) (h1 : p < s.size -> J P orc ops n l ((d, .mE [.v .bool true, .v (.int .i64) ((p : Nat) : Int), .v (.int .i32) (((Utf8.decode s p).1 : Nat) : Int)]) :: fl) ((w, .it s (p + (Utf8.decode s p).2)) :: σ) K) (h2 : ¬ p < s.size -> J P orc ops n l ((d, .mE [.v .bool false]) :: fl) ((w, .it s p) :: σ) K)
    (hw : dU ops fl g = some true := by rfl) (hn : (Nat.blt d n && Nat.ble n 4000) = true := by rfl) : J P orc ops n (⟨some d, .next x true, ty, pos, after, g⟩ :: l) fl ((w, .it s p) :: σ) K := by
  by_cases hp : p < s.size
  . exact J.mk (bF.alV hp hx) (by rintro _ _ ⟨rfl, rfl⟩; exact h1 hp) hw hn
  exact J.mk (bF.alW hp hx) (by rintro _ _ ⟨rfl, rfl⟩; exact h2 hp) hw hn
theorem aK.akC {b : Bool} (hx : b9 fl x = some (.mE [.v .bool b]) := by rfl) : aK P fl σ (.extract x 0) (.v .bool b) := ⟨rfl, fun h S t hs _ => by
  obtain ⟨us, h1, u, r, rfl, h2, h3⟩ := (hs x (by simp [Op.operands]) _ hx : aI h S (.mE [.v .bool b]) _); obtain rfl : r = [] := h3; have hu : u = .bool b := aF.bool h2; subst hu; refine ⟨.bool b, aF.ofBool _, fun _ _ _ _ _ H => ?_⟩; show (bif tN (aB t x) then none else (aC P (Instr.extract (aB t x) 0)).map _) = _; rw [h1]; have hj : tN (.tuple [Value.bool b].toArray) = false := rfl; rw [hj]
  rfl⟩
theorem tW {i : Nat} (h : (s.get! i).toNat < 128) : Utf8.decode s i = ((s.get! i).toNat, 1) := by
  unfold Utf8.decode; simp only [Nat.add_zero]; rw [if_pos h]
theorem decode_high {i : Nat} (h : ¬ (s.get! i).toNat < 128) : 128 <= (Utf8.decode s i).1 := by
  unfold Utf8.decode; simp only [Nat.add_zero]; rw [if_neg h]
  have hr : 128 <= Utf8.runeError := by decide
  split
  . split
    . assumption
    exact hr
  split
  . split
    . rename_i hc; have := (Bool.and_eq_true .. ▸ hc : _ /\ _).1; have := of_decide_eq_true this; simp only; omega
    exact hr
  split
  . split
    . rename_i hc; have := (Bool.and_eq_true .. ▸ hc : _ /\ _).1; have := of_decide_eq_true this; simp only; omega
    exact hr
  exact hr
structure GdT (ops : Array Oper) (fl : VL) (g : Option (Nat × Bool)) (b : Bool) : Prop where
  want : ∀ {h : Heap} {S : List Nat} {t : Tr}, eK h S t fl -> ∀ o : Oper, o.guard = g -> bR ops t o = some b
end Go.Fs
namespace Go.Fs
instance : DecidableEq (Ty.den .str) := inferInstanceAs (DecidableEq ByteArray)
instance {k : IntKind} : DecidableEq (Ty.den (.int k)) := inferInstanceAs (DecidableEq Int)
instance : DecidableEq (Ty.den .bool) := inferInstanceAs (DecidableEq Bool)
instance {a b : Ty} [DecidableEq a.den] [DecidableEq b.den] : DecidableEq (Ty.den (.pair a b)) := inferInstanceAs (DecidableEq (a.den × b.den))
variable {P : Program} {orc : FuncId -> List Value -> Heap -> Option (Value × Heap)} {fl : VL} {σ γ : aG} {T : TypeId} {τ : Ty}
theorem MP {h : Heap} {S : List Nat} : ∀ (us : List Value), b6 h S (us.map PV.raw) us
  | [] => rfl
  | u :: r => ⟨u, r, rfl, rfl, MP r⟩
theorem aK.D0 {pl : List (Nat × Nat)} {parts : Array (Nat × Operand)} {zs : List Value} {ps cs : List PV} (hT : wZ P T τ pl) (hz : o3 τ = zs := by rfl) (uK : lI fl (parts.toList.map (·.2)) = some ps := by rfl) (hb : GD pl (zs.map .raw) (parts.toList.map (·.1)) ps = some cs := by rfl) : aK P fl σ (.build T parts) (.agg cs) :=
  ⟨rfl, fun h S t hs _ => by
    obtain ⟨z, z1, z2, z3⟩ := hT.zer.zero; obtain ⟨y1, y2⟩ := mW h S τ; have hr : b6 h S ps ((parts.toList.map (·.2)).map (aB t)) := wI (fun x hx => hs x (by simpa [Op.operands] using hx)) uK; obtain ⟨cs', f1, f2, f3, f4⟩ := zG hb hr (show b6 h S (zs.map .raw) (o3 τ) from by rw [hz]; exact MP zs) (JG y2); refine ⟨.agg cs'.toArray, ⟨cs', rfl, f2⟩, fun _ _ _ _ _ H => ?_⟩; show (bif (parts.toList.all fun p => (aB t p.2).cells.toList.all aT) && ((((P.info? T).bind (·.zero)).map fun z => z.cells.toList.all eN) == some true) then (aC P (Instr.build T (parts.map fun p => (p.1, aB t p.2)))).map fun v => (v, H) else none) = _
    have c1 : (parts.toList.all fun p => (aB t p.2).cells.toList.all aT) = true := by
      rw [List.map_map, List.all_map] at f3; exact f3
    have c2 : ((((P.info? T).bind (·.zero)).map fun z => z.cells.toList.all eN) == some true) = true := by
      rw [z1]
      have e : z.cells.toList.all eN = true := by rw [z2]; exact y2
      simp only [Option.map_some, e]; rfl
    have eZ := hT.run z (parts.map fun p => (p.1, aB t p.2)) cs'.toArray z1 (by
      rw [<- f1, Array.toList_map, <- zip_map, List.map_map]; congr 1
      rw [<- z2])
    rw [c1, c2, eZ]
    rfl⟩
def bV (s : ByteArray) (i : Int) : Int := (((s.get! i.toNat).toNat : Nat) : Int)
theorem B9 (s : ByteArray) (i : Nat) : bV s i = (((s.get! i).toNat : Nat) : Int) := rfl
theorem D1 (s : ByteArray) (i : Int) : 0 <= bV s i /\ bV s i < 256 := by
  have := (s.get! i.toNat).toNat_lt; unfold bV; omega
theorem aK.PH {x y : Operand} {s : ByteArray} {i : Int} (hx : b9 fl x = some (.v .str s)) (hy : b9 fl y = some (.v (.int .i64) i)) (h0 : 0 <= i) (h1 : i < (s.size : Nat)) (hT : P.underlying T = some .string := by kernel_rfl) : aK P fl σ (.index T x y) (.v (.int .u8) (bV s i)) :=
  ⟨rfl, fun h S t hq _ => by
    have hv : aB t x = .string s := aF.str (hq x (by simp [Op.operands]) _ hx : aF h S .str _ s); have hi : aB t y = .int .i64 i := aF.int (hq y (by simp [Op.operands]) _ hy : aF h S (.int .i64) _ i); refine ⟨.int .u8 (bV s i), aF.ofInt _ _, fun _ _ _ _ _ H => ?_⟩; show (if af (aB t y) then (aC P (Instr.index T (aB t x) (aB t y))).map _ else none) = _; rw [hi, hv, if_pos (show af (Value.int .i64 i) = true from rfl)]
    have hb : i.toNat < s.size := by omega
    have h8 : s[i.toNat]? = some (s.get! i.toNat) := by
      rw [getElem?_pos s i.toNat hb]; congr 1; show s.data[i.toNat] = s.data[i.toNat]!; rw [getElem!_pos s.data i.toNat hb]
    have h9 : aC P (Instr.index T (.string s) (.int .i64 i)) = some (.int .u8 (bV s i)) := by
      unfold Instr.index; simp only [aE, asIntOf, aQ, Option.bind_some, bB hT, if_pos h0, h8]; rfl
    rw [h9]; rfl⟩
end Go.Fs
namespace Go.Fs
variable {P : Program} {orc : FuncId -> List Value -> Heap -> Option (Value × Heap)} {fl : VL} {σ : aG} {T T' e ty : TypeId} {τ : Ty} {ops : Array Oper} {n : Nat} {l : List Oper} {K : VL -> aG -> Prop} {d : Tmp} {pos : String} {after : Array Edge} {g : Option (Nat × Bool)} {x y : Operand} {xs : List τ.den}
theorem fE {w : Value} (h : aT w = true) : gO w = false := by
  cases w <;> first | rfl | cases h
end Go.Fs
namespace Go.Fs
variable {P : Program} {orc : FuncId -> List Value -> Heap -> Option (Value × Heap)} {h h1 h2 h' : Heap} {S S0 : List Nat} {σ γ kR : aG} {fl : VL} {ops : Array Oper} {n : Nat} {l : List Oper} {K : VL -> aG -> Prop} {d : Tmp} {ty : TypeId} {pos : String} {after : Array Edge} {g : Option (Nat × Bool)}
theorem LK {o : Oper} {c : Call} {f : Operand} {j : Nat} {ev : Operand -> Value} (ho : o.op = .call c) (hc : c.callee = .value f) (hf : ev f = .func (.yield j) #[] #[]) (m : Nat) (h : Heap) :
    mO P orc m o ev h = dW (dA P orc m) j (c.args.toList.map ev) h := by
  unfold mO cP; rw [ho]; simp only [hc, hf]
theorem mP.yield {QO : Tr -> Heap -> Prop} {o : Oper} {t : Tr} {c : Call} {f : Operand} {j : Nat} (hw : bR ops t o = some true) (ho : o.op = .call c) (hc : c.callee = .value f) (hf : aB t f = .func (.yield j) #[] #[])
    (hl : QZ P orc j (c.args.toList.map (aB t)) h fun v h' => ∃ t', put n t o.dst v = some t' /\ mP P orc ops n l t' h' QO) : mP P orc ops n (o :: l) t h QO := by
  obtain ⟨m, v, h1, hr, t1, hp, k, t2, h2, rR, hq⟩ := hl; refine ⟨max m k, t2, h2, ?_, hq⟩; have h3 := nI (gN (P := P) (orc := orc) (Nat.le_max_left m k)) _ _ _ _ hr; have h4 : uA P orc (max m k) o (aB t) h = some (v, h1) := DM _ _ _ _ (by rw [LK ho hc hf]; exact h3); simp only [nV, hw, h4, hp]; exact qT (FR (Nat.le_max_right m k)) _ _ _ _ rR
theorem QZ.mono {j : Nat} {args : List Value} {Q Q' : Value -> Heap -> Prop} (hc : QZ P orc j args h Q) (hq : ∀ v h', Q v h' -> Q' v h') : QZ P orc j args h Q' :=
  let ⟨m, v, h', h1, h2⟩ := hc; ⟨m, v, h', h1, hq _ _ h2⟩
theorem QZ.round {Q : Value -> Heap -> Prop} {j : Nat} {j0 : Option Code} {tmps t : Tr} {params : Array Tmp} {assign body : Code} {dm : Nat} {args : List Value} (hg : h.get j = some (.dJ .ready j0 tmps n params assign body dm)) (hlen : Nat.beq args.length params.size = true) (ht : qL n tmps (params.toList.zip args) = some t)
    (ha : jG P orc (some j) assign ⟨t, n, []⟩ h fun e fr h1 => e = .normal /\ ∃ jp tm n' W9 zY WA d', h1.get j = some (.dJ .ready jp tm n' W9 zY WA d') /\
      jG P orc (some j) body fr (h1.set j (.dJ .busy jp tm n' W9 zY WA d')) fun e _ h2 => ∃ st jp2 tm2 n2 ps2 as2 bo2 d2, h2.get j = some (.dJ st jp2 tm2 n2 ps2 as2 bo2 d2) /\
        Q (.bool (eY e).isNone) (h2.set j (.dJ (bif (eY e).isNone then .ready else .done) (eY e) tm2 n2 ps2 as2 bo2 d2))) : QZ P orc j args h Q := by
  obtain ⟨m, e, fr, h1, hr, rfl, jp, tm, n', W9, zY, WA, d', I4, k, e2, DJ, h2, rR, st, jp2, tm2, n2, ps2, as2, bo2, d2, H8, hq⟩ := ha; refine ⟨max m k, _, _, ?_, hq⟩; have a1 := gN (P := P) (orc := orc) (Nat.le_max_left m k) _ _ _ _ _ hr; have a2 := gN (P := P) (orc := orc) (Nat.le_max_right m k) _ _ _ _ _ rR; unfold dW; simp only [hg, hlen, cond_true, ht, a1, I4, a2, H8]
def GH (P : Program) (orc : FuncId -> List Value -> Heap -> Option (Value × Heap)) (f : FuncId) (args : List Value) (h : Heap) (Q : Value -> Heap -> Prop) : Prop := ∃ m v h', kN P true (dA P orc m) f args h = some (v, h') /\ Q v h'
theorem GH.mono {f : FuncId} {args : List Value} {Q Q' : Value -> Heap -> Prop} (hc : GH P orc f args h Q) (hq : ∀ v h', Q v h' -> Q' v h') : GH P orc f args h Q' :=
  let ⟨m, v, h', h1, h2⟩ := hc; ⟨m, v, h', h1, hq _ _ h2⟩
theorem GH.enter {f : FuncId} {args : List Value} {fn : Func} {c : Code} {QF : Value -> Heap -> Prop} (lB : P.funcs[f]? = some fn) (hc : fn.body = some c) (hn : (Nat.blt 4000 fn.ntmps || Nat.blt fn.ntmps args.length) = false)
    (hb : jG P orc none c ⟨iS .leaf 0 args, fn.ntmps, []⟩ { next := h.next, low := h.next, aA := h.aA } fun e fr h1 =>
      e.goes = true /\ ∃ h2 vs, j9 fr.marks h1 = some h2 /\ iH P fr.t h2 fn.results.toList = some vs /\ QF (iA vs) { next := h2.next, low := min h.low h2.low, aA := h2.aA }) : GH P orc f args h QF := by
  obtain ⟨m, e, fr, h1, hr, hg, h2, vs, hd, uQ, hq⟩ := hb; refine ⟨m, _, _, ?_, hq⟩; unfold kN; simp only [lB, hc, hn, cond_false, hr, hg, cond_true, hd, uQ, Bool.not_true, Bool.false_and]
theorem jG.rangeFunc {fr : Fr} {Q : Ex -> Fr -> Heap -> Prop} {x : Operand} {f : FuncId} {a c : Array Value} {ps : Array Tmp} {assign body : Code} (hgv : aB fr.t x = .func (.func f) a c)
    (hl : GH P orc f (a.toList ++ [.func (.yield (h.push .iX).next) #[] #[]] ++ c.toList) ((h.push .iX).push (.dJ .ready none fr.t fr.n ps assign body h.next)) fun _ h3 =>
      ∃ st e tm n' W9 zY WA d', h3.get (h.push .iX).next = some (.dJ st (eY e) tm n' W9 zY WA d') /\ st ≠ .busy /\ Q e ⟨fr.t, fr.n, h.next :: fr.marks⟩ (h3.set (h.push .iX).next (.dJ .exhausted (eY e) tm n' W9 zY WA d'))) :
    jG P orc none (.rangeFunc x ps assign body) fr h Q := by
  obtain ⟨m, v, h3, hr, st, e, tm, n', W9, zY, WA, d', hg, cC, hq⟩ := hl; refine ⟨m + 1, e, _, _, ?_, hq⟩; show jS P (dA P orc m) none x ps assign body fr h = _; unfold jS HN; simp only [hgv, hr, hg]
  cases st with
  | busy => exact absurd rfl cC
  | _ => cases e <;> rfl
section
variable (P orc)
def SP (yv : Value) (args : List PV) (γ : aG) (Q : PV -> aG -> Prop) : Prop := ∀ (h : Heap) (S : List Nat) (us : List Value), mU h -> P8 h S -> (∀ c ∈ γ, bA h (own γ ++ S) c.1 c.2) -> (own γ).Nodup -> (∀ b ∈ own γ, b ∉ S) -> b6 h (own γ ++ S) args us ->
  ∃ j, yv = .func (.yield j) #[] #[] /\ QZ P orc j us h fun u h' => ∃ r gD, Q r gD /\ Made S h h' γ gD /\ aI h' (own gD ++ S) r u
end
theorem J.alX {f : Operand} {args : Array Operand} {nX : Array TypeId} {yv : Value} {asl : List PV} {Q : PV -> aG -> Prop} (γ : aG) (PG : γ ++ σ = kR) (hf : b9 fl f = some (.raw yv)) (ha : lI fl args.toList = some asl) (hc : SP P orc yv asl γ Q) (hk : ∀ r gD, Q r gD -> J P orc ops n l ((d, r) :: fl) (gD ++ σ) K)
    (hw : dU ops fl g = some true := by rfl) (hn : (Nat.blt d n && Nat.ble n 4000) = true := by rfl) : J P orc ops n (⟨some d, .call { callee := .value f, args := args, argTypes := nX }, ty, pos, after, g⟩ :: l) fl kR K := fun h0 G S0 t h ms fH => by
  subst PG; obtain ⟨n1, n2⟩ := fits hn; have L := fH.lc; have nE := L.apart; rw [cB] at nE; obtain ⟨CU, y7, sS⟩ := List.nodup_append.1 nE; have hfv : aB t f = yv := dP fH.aH hf; have lU := pA fH.aH ha; rw [cB, List.append_assoc] at lU
  have bO : ∀ c ∈ γ, bA h (own γ ++ (own σ ++ S0)) c.1 c.2 := fun c hc => by
    have := L.cells c (List.mem_append_left _ hc)
    rwa [cB, List.append_assoc] at this
  obtain ⟨j, hj, hY⟩ := hc h (own σ ++ S0) _ fH.ok L.akA bO CU (fun b hb hm => by
    rcases List.mem_append.1 hm with hm | hm
    . exact sS b hb b hm rfl
    exact L.sep b (by rw [cB]; exact List.mem_append_left _ hb) hm) lU
  refine mP.yield (dC fH.aH hw) rfl rfl (hfv.trans hj) (hY.mono fun u h' hq => ?_); obtain ⟨r, gD, q1, q2, q3⟩ := hq; refine ⟨_, cE n1 t u, hk r gD q1 h0 G S0 _ h' ms ((fH.made (Made.app L q2)).set ?_ n2)⟩; rw [cB, List.append_assoc]; exact q3
def JV : List Tmp -> List PV -> VL -> VL
  | p :: ps, a :: asl, fl => JV ps asl ((p, a) :: fl)
  | _, _, fl => fl
theorem AE (hn4 : n <= 4000) : ∀ {ps : List Tmp} {asl : List PV} {us : List Value} {t : Tr} {fl : VL}, (∀ p ∈ ps, Nat.blt p n = true) -> eK h S t fl -> b6 h S asl us -> ps.length = asl.length ->
    ∃ t', qL n t (ps.zip us) = some t' /\ eK h S t' (JV ps asl fl)
  | [], asl, us, t, fl, _, hs, hr, _ => ⟨t, by cases us <;> rfl, by cases asl <;> exact hs⟩
  | p :: ps, [], us, t, fl, _, hs, hr, hl => by cases hl
  | p :: ps, a :: asl, us, t, fl, hp, hs, ⟨u, r, h1, h2, h3⟩, hl => by
    subst h1; have LL := hp p List.mem_cons_self; have hp4 : p < 4000 := Nat.lt_of_lt_of_le (jB LL) hn4; obtain ⟨t', e1, e2⟩ := AE (ps := ps) (asl := asl) (us := r) (t := t.set depth p u) (fl := (p, a) :: fl) hn4 (fun q hq => hp q (List.mem_cons_of_mem _ hq)) (hs.set h2 hp4) h3 (by simpa using hl); refine ⟨t', ?_, e2⟩; show qL n t ((p, u) :: ps.zip r) = _; unfold qL; rw [cE LL]; exact e1
theorem SP.round {yv : Value} {fl0 : VL} {ps : Array Tmp} {assign body : Code} {args : List PV} {Qb : Ex -> VL -> aG -> Prop} (hlen : ps.size = args.length) (uK : ∀ p ∈ ps.toList, Nat.blt p n = true) (hn4 : n <= 4000)
    (hb : ∀ j, U P orc (some j) assign n (JV ps.toList args fl0) γ (fun e fl σ => e = .normal /\ U P orc (some j) body n fl σ Qb)) :
    SP P orc yv args ((yv, .loop .ready none n fl0 ps assign body) :: γ) (fun r gD => ∃ e fl aJ, Qb e fl aJ /\ r = .v .bool (eY e).isNone /\ gD = (yv, .loop (bif (eY e).isNone then .ready else .done) (eY e) n fl0 ps assign body) :: aJ) := by
  intro h S us bD hS bO kP tV ha; obtain ⟨j, tmps, dm, hyv, hjS, hg, zX⟩ := bO _ List.mem_cons_self; have aoK : yv = .func (.yield j) #[] #[] := hyv; subst aoK; have PI : ∀ (c : Cell) (s : aG), own ((.func (.yield j) #[] #[], c) :: s) = j :: own s := fun c s => rfl; rw [PI] at bO kP tV ha zX; obtain ⟨hj1, ae5⟩ := List.nodup_cons.1 kP; have R2 : j < h.next := bD j _ hg; have aqD : j ∉ S := tV j List.mem_cons_self
  have yA : cH h (j :: own γ ++ S) h (own γ ++ (j :: S)) := cH.less fun b hb => by
    rcases List.mem_append.1 hb with hb | hb
    . exact List.mem_append_left _ (List.mem_cons_of_mem _ hb)
    rcases List.mem_cons.1 hb with hb | hb
    . subst hb; exact List.mem_append_left _ List.mem_cons_self
    exact List.mem_append_right _ hb
  obtain ⟨t1, xI, aoL⟩ := AE (n := n) hn4 uK zX ha hlen; have hlu := ha.len
  have I1 : Iv h (own γ) (j :: S) h γ t1 [] (JV ps.toList args fl0) := {
    ok := bD
    s0 := fun b hb => by
      rcases List.mem_cons.1 hb with hb | hb
      . subst hb; exact R2
      exact hS b hb
    gC := cD.refl _ _
    cells := fun c hc => (bO c (List.mem_cons_of_mem _ hc)).keep (fun _ _ => rfl) yA fun b hb => List.mem_append_left _ (List.mem_flatMap.2 ⟨c, hc, hb⟩)
    new := fun b hb => ⟨.inl hb, fun hm => by
      rcases List.mem_cons.1 hm with hm | hm
      . subst hm; exact hj1 hb
      exact tV b (List.mem_cons_of_mem _ hb) hm⟩
    apart := ae5
    mark := fun d hd => by cases hd
    marks := List.nodup_nil
    aH := aoL.nx yA }
  refine ⟨j, rfl, QZ.round hg (by rw [hlu, <- hlen]; exact Nat.beq_refl _) xI ((hb j h (own γ) (j :: S) t1 h [] I1).mono fun e fr h1 hq => ?_)⟩; obtain ⟨lB, fl1, pP, fM, he, alY⟩ := hq; have g1 : h1.get j = h.get j := fM.gC.get j R2 hj1; have I4 := g1.trans hg; refine ⟨he, _, _, _, _, _, _, _, I4, ?_⟩
  let B : aX := .dJ .busy none tmps n ps assign body dm
  have hgB : ∀ b, (h1.set j B).get b = if b = j then some B else h1.get b := fun b => Heap.dB I4 ..; have hgA : ∀ b, (h.set j B).get b = if b = j then some B else h.get b := fun b => Heap.dB hg ..; have IQ : j ∉ own pP := fun hm => (fM.new j hm).2 List.mem_cons_self
  have ae6 : cH h1 (own pP ++ (j :: S)) (h1.set j B) (own pP ++ (j :: S)) := fun b o hb hn => ⟨by
    rw [hgB, if_neg (fun e => hn (by subst e; exact List.mem_append_right _ List.mem_cons_self))]; exact hb, hn⟩
  have a2 := (cD.set (h := h1) (o' := B) (B := [j]) I4 List.mem_cons_self)
  have I2 : Iv (h.set j B) (own γ) (j :: S) (h1.set j B) pP fr.t fr.marks fl1 := {
    ok := a2.ok fM.ok
    s0 := I1.s0
    gC := {
      next := fM.gC.next
      get := fun b hb hn => by
        rw [hgB, hgA]; split
        . rfl
        exact fM.gC.get b hb hn
      ok := fun _ => a2.ok fM.ok
      low := fun e h3 h4 h5 => by
        have h6 : e <= h.low := Nat.le_trans h3 (Nat.min_le_left _ _); have h7 : e <= j := Nat.le_trans h3 (Nat.min_le_right _ _); exact Nat.le_min.2 ⟨fM.gC.low e h6 h4 h5, h7⟩
      chg := fun b hb => by
        rw [hgB, hgA]; by_cases e : b = j
        . rw [if_pos e, if_pos e]; exact .inl rfl
        rw [if_neg e, if_neg e]; rcases fM.gC.chg b hb with h3 | h3
        . exact .inl h3
        exact .inr (Nat.le_trans (Nat.min_le_left _ _) h3)
      sR := by
        show min h1.low j <= min h.low j; have := fM.gC.sR
        omega }
    cells := fun c hc => (fM.cells c hc).keep (fun b hb => by
      rw [hgB, if_neg (fun e => IQ (by subst e; exact List.mem_flatMap.2 ⟨c, hc, hb⟩))]) ae6 fun b hb => List.mem_append_left _ (List.mem_flatMap.2 ⟨c, hc, hb⟩)
    new := fM.new
    apart := fM.apart
    mark := fun d hd => by
      obtain ⟨m1, m2⟩ := fM.mark d hd; refine ⟨m1, ?_⟩; rw [hgB, if_neg (fun e => by subst e; rw [I4] at m2; cases m2)]; exact m2
    marks := fM.marks
    aH := fM.aH.nx ae6 }
  have E2 : fr = ⟨fr.t, n, fr.marks⟩ := by cases fr; cases lB; rfl
  rw [E2]; refine (alY (h.set j B) (own γ) (j :: S) fr.t (h1.set j B) fr.marks I2).mono fun e2 DJ h2 OD => ?_; obtain ⟨_, fl2, A0, Iv2, hQb⟩ := OD; have hj3 : j ∉ own A0 := fun hm => (Iv2.new j hm).2 List.mem_cons_self
  have g2 : h2.get j = some B := by
    rw [Iv2.gC.get j R2 hj1, hgA, if_pos rfl]
  refine ⟨_, _, _, _, _, _, _, _, g2, .v .bool (eY e2).isNone, _, ⟨e2, fl2, A0, hQb, rfl, rfl⟩, ?_, aF.ofBool _⟩
  let C : aX := .dJ (bif (eY e2).isNone then .ready else .done) (eY e2) tmps n ps assign body dm
  have WB : ∀ b, (h2.set j C).get b = if b = j then some C else h2.get b := fun b => Heap.dB g2 ..; have at1 : cD h (h.set j B) (j :: own γ) := cD.set hg List.mem_cons_self; have at2 : cD h h2 (j :: own γ) := at1.trans Iv2.gC fun i hi => .inl (List.mem_cons_of_mem _ hi); have WC : cD h (h2.set j C) (j :: own γ) := at2.trans (cD.set (B := [j]) g2 List.mem_cons_self) fun i hi => .inl (by rw [List.mem_singleton.1 hi]; exact List.mem_cons_self)
  have n6 : ∀ b ∈ j :: own A0, b ∈ j :: own γ \/ h.next <= b := fun b hb => by
    rcases List.mem_cons.1 hb with hb | hb
    . subst hb; exact .inl List.mem_cons_self
    rcases (Iv2.new b hb).1 with h3 | h3
    . exact .inl (List.mem_cons_of_mem _ h3)
    exact .inr h3
  have WD : cH h (j :: own γ ++ S) (h2.set j C) (j :: own A0 ++ S) := WC.goes bD (fun b hb => List.mem_append_left _ hb) fun b hb => by
    rcases List.mem_append.1 hb with hb | hb
    . rcases n6 b hb with h3 | h3
      . exact .inl (List.mem_append_left _ h3)
      exact .inr h3
    exact .inl (List.mem_append_right _ hb)
  refine ⟨WC, n6, List.nodup_cons.2 ⟨hj3, Iv2.apart⟩, fun c hc => ?_⟩; show bA (h2.set j C) (j :: own A0 ++ S) c.1 c.2; rcases List.mem_cons.1 hc with JW | JW
  . subst JW; exact ⟨j, tmps, dm, rfl, List.mem_append_left _ List.mem_cons_self, by rw [WB, if_pos rfl], zX.nx WD⟩
  refine (Iv2.cells c JW).keep (fun b hb => ?_) (fun b o hb hn => ⟨?_, fun hm => ?_⟩) fun b hb => List.mem_append_left _ (List.mem_cons_of_mem _ (List.mem_flatMap.2 ⟨c, JW, hb⟩))
  . rw [WB, if_neg (fun e => hj3 (by subst e; exact List.mem_flatMap.2 ⟨c, JW, hb⟩))]
  . rw [WB, if_neg (fun e => hn (by subst e; exact List.mem_append_right _ List.mem_cons_self))]; exact hb
  rcases List.mem_append.1 hm with hm | hm
  . rcases List.mem_cons.1 hm with hm | hm
    . exact hn (by subst hm; exact List.mem_append_right _ List.mem_cons_self)
    exact hn (List.mem_append_left _ hm)
  exact hn (List.mem_append_right _ (List.mem_cons_of_mem _ hm))
theorem SP.mono {yv : Value} {args : List PV} {Q Q' : PV -> aG -> Prop} (hy : SP P orc yv args γ Q) (hq : ∀ r s, Q r s -> Q' r s) : SP P orc yv args γ Q' := fun h S us a1 a2 a3 a4 a5 a6 => by
  obtain ⟨j, e, hY⟩ := hy h S us a1 a2 a3 a4 a5 a6; exact ⟨j, e, hY.mono fun u h' ⟨r, gD, q1, q2⟩ => ⟨r, gD, hq _ _ q1, q2⟩⟩
section
variable (P orc)
def D2 (f : FuncId) (args : List PV) (γ : aG) (Q : aG -> Prop) : Prop := ∀ (h : Heap) (S : List Nat) (us : List Value), mU h -> P8 h S -> (∀ c ∈ γ, bA h (own γ ++ S) c.1 c.2) -> (own γ).Nodup -> (∀ b ∈ own γ, b ∉ S) -> b6 h (own γ ++ S) args us ->
  GH P orc f us h fun _ h' => ∃ gD, Q gD /\ Made S h h' γ gD
end
theorem D2.enter {f : FuncId} {args : List PV} {fn : Func} {c : Code} {Q : aG -> Prop} (lB : P.funcs[f]? = some fn) (hc : fn.body = some c) (FW : fn.results.toList = []) (hn : (Nat.blt 4000 fn.ntmps || Nat.blt fn.ntmps args.length) = false)
    (hb : U P orc none c fn.ntmps (q8 0 args) γ (fun e _ σ => e.goes = true /\ Q σ)) : D2 P orc f args γ Q := fun h S us bD hS bO kP tV ha => by
  have hl := ha.len
  have pO : Nat.blt 4000 fn.ntmps = false /\ Nat.blt fn.ntmps args.length = false := by simpa using hn
  have n3 := gR pO.1; have n4 := gR pO.2; have oL : b6 (entry h) (own γ ++ S) args us := b6.nx (h := h) (h' := entry h) (fun _ _ a b => ⟨a, b⟩) ha
  have I0 : Iv (entry h) (own γ) S (entry h) γ (iS .leaf 0 us) [] (q8 0 args) := {
    ok := bD
    s0 := hS.1
    gC := cD.refl _ _
    cells := fun c hc => (bO c hc).keep (fun _ _ => rfl) (fun _ _ a b => ⟨a, b⟩) fun b hb => List.mem_append_left _ (List.mem_flatMap.2 ⟨c, hc, hb⟩)
    new := fun b hb => ⟨.inl hb, tV b hb⟩
    apart := kP
    mark := fun d hd => by cases hd
    marks := List.nodup_nil
    aH := oF (hS.2.ent bO) oL (by omega) }
  refine GH.enter lB hc (by rw [hl]; exact hn) ((hb (entry h) (own γ) S _ (entry h) [] I0).mono fun e fr h1 hq => ?_); obtain ⟨_, eV, aJ, fM, he, hQ⟩ := hq; obtain ⟨h2, d1, d2, d3⟩ := sB fM.marks fun d hd => (fM.mark d hd).2
  have eW : ∀ b o, h1.get b = some o -> o ≠ .iX -> h2.get b = some o := fun b o hg cL => by
    rw [d3 b (fun hm => cL (by have := (fM.mark b hm).2; rw [hg] at this; exact Option.some.inj this))]; exact hg
  have a2 : cD (entry h) h2 (own γ) := fM.gC.trans d2 fun i hi => .inr (fM.mark i hi).1
  have n8 : ∀ c ∈ aJ, ∀ b ∈ cI c.1, h2.get b = h1.get b := fun c hc b hb => by
    obtain ⟨o, hg, cL⟩ := (fM.cells c hc).isObj b hb; rw [eW b _ hg cL, hg]
  have pD : ∀ c ∈ aJ, bA h2 (own aJ ++ S) c.1 c.2 := fun c hc => by
    have hx := fM.cells c hc; have hN : p9 h1 (own aJ ++ S) h2 (own aJ ++ S) := fun b _ hg cL pZ => ⟨eW b _ hg cL, pZ⟩; have hgb := n8 c hc; obtain ⟨w, cc⟩ := c
    cases cc with
    | row e τ xs =>
      rcases hx with hx | ⟨b, rs, m, h3, h4, h5, h6⟩
      . exact .inl hx
      exact .inr ⟨b, rs, m, h3, h4, eW b _ h5 (by simp), h6.1, fun i hi => (h6.2 i hi).iV hN⟩
    | var cs =>
      obtain ⟨b, e, vs, h3, h4, h5, h6, h7⟩ := hx
      exact ⟨b, e, vs, h3, h4, eW b _ h5 (by simp), h6.iV hN, h7⟩
    | cap e k τ xs =>
      obtain ⟨b, rs, m, h3, h4, h5, h6, h7, h8⟩ := hx
      exact ⟨b, rs, m, h3, h4, eW b _ h5 (by simp), h6, h7, h8.1, fun i hi => (h8.2 i hi).iV hN⟩
    | mp κ ν kvs =>
      obtain ⟨b, es, c, h3, h4, h5, h6, h7⟩ := hx
      exact ⟨b, es, c, h3, h4, eW b _ h5 (by simp), h6, fun i hi hj => ⟨⟨(h7 i hi hj).1.1, (h7 i hi hj).1.2.iV hN⟩, ⟨(h7 i hi hj).2.1, (h7 i hi hj).2.2.iV hN⟩⟩⟩
    | it s pos =>
      obtain ⟨b, h3, h4, h5⟩ := hx
      exact ⟨b, h3, h4, eW b _ h5 (by simp)⟩
    | loop st jump n fl ps assign body =>
      obtain ⟨l, tmps, d, h3, h4, h5, h6⟩ := hx
      exact ⟨l, tmps, d, h3, h4, eW l _ h5 (by simp), h6.iV hN⟩
    | eE e n cs =>
      rcases hx with hx | ⟨b, rs, m, h3, h4, h5, h6, h7⟩
      . exact .inl hx
      exact .inr ⟨b, rs, m, h3, h4, eW b _ h5 (by simp), h6.iV hN, h7⟩
  have B7 : ∀ b ∈ own aJ, b ∈ own γ \/ h.next <= b := fun b hb => (fM.new b hb).1; refine ⟨he, h2, [], d1, by rw [FW]; rfl, aJ, hQ, ⟨⟨a2.next, a2.get, fun x => a2.ok x, fun e h3 h4 h5 => Nat.le_min.2 ⟨h3, a2.low e (Nat.le_trans h4 (Nat.le_refl _)) h4 h5⟩, fun b hb => ?_, Nat.min_le_left _ _⟩, B7, fM.apart, fun c hc => (pD c hc).keep (fun _ _ => rfl) (fun _ _ a b => ⟨a, b⟩) fun b hb => List.mem_append_left _ (List.mem_flatMap.2 ⟨c, hc, hb⟩)⟩⟩; rcases a2.chg b hb with h3 | h3
  . exact .inl h3
  exact .inr (Nat.le_trans (Nat.min_le_right _ _) h3)
end Go.Fs
namespace Go.Fs
variable {P : Program} {orc : FuncId -> List Value -> Heap -> Option (Value × Heap)} {h h' h0 h1 h2 : Heap} {S S' S0 B G : List Nat} {σ aJ kR : aG} {t t' : Tr} {ms : List Nat} {fl : VL} {ops : Array Oper} {n i mem : Nat} {l : List Oper} {K : VL -> aG -> Prop} {Q : Ex -> VL -> aG -> Prop}
  {d : Tmp} {ty : TypeId} {pos : String} {after : Array Edge} {op : Op} {v pv : PV} {g : Option (Nat × Bool)} {x y z : Operand} {T T' e : TypeId} {τ eP : Ty} {w : Value}
section
variable {α : Type} [DecidableEq α] {dd : α} {xs : List α}
end
end Go.Fs
namespace Go.Fs
variable {α : Type}
structure aqE (lt : α -> α -> Bool) : Prop where
  asym : ∀ a b, lt a b = true -> lt b a = false
  neg : ∀ a b c, lt a b = false -> lt b c = false -> lt a c = false
variable {lt : α -> α -> Bool}
def eqv (lt : α -> α -> Bool) (a b : α) : Bool := !lt a b && !lt b a
def aj4 (lt : α -> α -> Bool) (xs ys : List α) : Prop := ∀ a, xs.filter (eqv lt a) = ys.filter (eqv lt a)
variable {d : α}
abbrev at_ (xs : List α) (i : Nat) (d : α) : α := xs.getD i d
structure Seg (lt : α -> α -> Bool) (xs ys : List α) (a b : Nat) : Prop where
  len : ys.length = xs.length
  lo : ys.take a = xs.take a
  hi : ys.drop b = xs.drop b
  same : aj4 lt xs ys
theorem three (xs : List α) {a b : Nat} (h : a <= b) : xs = xs.take a ++ ((xs.take b).drop a ++ xs.drop b) := by
  conv => lhs; rw [<- List.take_append_drop b xs]
  rw [<- List.append_assoc]; congr 1
  conv => lhs; rw [<- List.take_append_drop a (xs.take b)]
  rw [List.take_take, Nat.min_eq_left h]
structure aqF (lt : α -> α -> Bool) (d : α) (ys : List α) (a j i : Nat) : Prop where
  srt : ∀ p q, a <= p -> p < q -> q <= i -> q ≠ j -> p ≠ j -> lt (ys.getD q d) (ys.getD p d) = false
  less : ∀ q, j < q -> q <= i -> lt (ys.getD j d) (ys.getD q d) = true
end Go.Fs
namespace Go.Fs
variable {α : Type} {lt : α -> α -> Bool} {d : α} {ys : List α} {a b m n s e i j k : Nat}
theorem four (h1 : s <= m) (h2 : m <= e) : ys = ys.take s ++ ((ys.drop s).take (m - s) ++ ((ys.drop m).take (e - m) ++ ys.drop e)) := by
  conv => lhs; rw [<- List.take_append_drop s ys, <- List.take_append_drop (m - s) (ys.drop s), List.drop_drop, show s + (m - s) = m by omega, <- List.take_append_drop (e - m) (ys.drop m), List.drop_drop, show m + (e - m) = e by omega]
structure Cut (lt : α -> α -> Bool) (d : α) (ys : List α) (a m b s e : Nat) : Prop where
  le : s <= m /\ m <= e /\ a <= s /\ e <= b
  lo : a < s -> e < b -> lt (ys.getD e d) (ys.getD (s - 1) d) = false
  hi : s < m -> m < e -> lt (ys.getD (e - 1) d) (ys.getD s d) = true
end Go.Fs
namespace Go.Fs
variable {P : Program} {orc : FuncId -> List Value -> Heap -> Option (Value × Heap)} {h h' h0 h1 h2 : Heap} {S S' S0 B G : List Nat} {σ aJ kR : aG} {t t' : Tr} {ms : List Nat} {fl : VL} {ops : Array Oper} {n i mem : Nat} {l : List Oper} {K : VL -> aG -> Prop} {Q : Ex -> VL -> aG -> Prop}
  {d : Tmp} {ty : TypeId} {pos : String} {after : Array Edge} {op : Op} {v pv : PV} {g : Option (Nat × Bool)} {x y z : Operand} {T T' e : TypeId} {τ eP : Ty} {w : Value}
theorem cR.same (hg : ∀ b o, h.get b = some o -> h2.get b = some o) : ∀ {τ : Ty} {cs : List Value} {x y : τ.den}, cR h S τ cs x -> cR h2 S' τ cs y -> x = y := by
  intro τ
  induction τ with
  | int k => intro cs x y hx hy; have xN : cs = [.int k x] := hx; have yB : cs = [.int k y] := hy; rw [xN] at yB; simpa using yB
  | bool => intro cs x y hx hy; have xN : cs = [.bool x] := hx; have yB : cs = [.bool y] := hy; rw [xN] at yB; simpa using yB
  | str => intro cs x y hx hy; have xN : cs = [.string x] := hx; have yB : cs = [.string y] := hy; rw [xN] at yB; simpa using yB
  | rV k => intro cs x y hx hy; have xN : cs = [.float k x] := hx; have yB : cs = [.float k y] := hy; rw [xN] at yB; simpa using yB
  | unit => intro cs x y _ _; rfl
  | fn =>
    intro cs x y hx hy; have xN : cs = [S7 x] := hx; have yB : cs = [S7 y] := hy; rw [xN] at yB
    have h3 : S7 x = S7 y := by simpa using yB
    cases x with
    | none => cases y with
      | none => rfl
      | some b => cases h3
    | some a => cases y with
      | none => cases h3
      | some b => injection h3 with h4; injection h4 with h5; rw [h5]
  | kP =>
    intro cs x y hx hy; have xN : cs = [CO x] := hx; have yB : cs = [CO y] := hy; rw [xN] at yB
    have h3 : CO x = CO y := by simpa using yB
    cases x with
    | none => cases y with
      | none => rfl
      | some b => cases h3
    | some a => cases y with
      | none => cases h3
      | some b =>
        obtain ⟨a1, a2⟩ := a; obtain ⟨b1, b2⟩ := b; simp only [CO, Value.slice.injEq, Option.some.injEq, Addr.mk.injEq, and_true, true_and] at h3
        rw [h3.1, h3.2]
  | pair a b wB wC => intro cs x y hx hy; exact Prod.ext (wB hx.1 hy.1) (wC hx.2 hy.2)
  | sl e ih =>
    rintro cs x y ⟨v, h1, hv⟩ ⟨v', rD, lF⟩
    obtain rfl : v = v' := by rw [h1] at rD; simpa using rD
    have key : List.length (x : List e.den) = List.length (y : List e.den) /\ ∀ i (hi : i < List.length (x : List e.den)) (hj : i < List.length (y : List e.den)), (x : List e.den)[i] = (y : List e.den)[i] := by
      rcases hv with ⟨rfl, rfl⟩ | ⟨b, o, mk, rfl, hv⟩
      . rcases lF with ⟨_, rfl⟩ | ⟨_, _, _, h3, _⟩
        . exact ⟨rfl, fun i hi => absurd hi (Nat.not_lt_zero i)⟩
        cases h3
      rcases lF with ⟨h3, _⟩ | ⟨b', o', mk', h3, lF⟩
      . cases h3
      injection h3 with h4 h5 h6; injection h4 with h7; injection h7 with h8 h9 h10; subst h8; subst h9; refine ⟨h5, fun i hi hj => ?_⟩; rcases hv with rfl | ⟨_, e1, rs, ow, mo, g1, _, g3⟩
      . exact absurd hi (Nat.not_lt_zero i)
      rcases lF with rfl | ⟨_, e1', P7, ow', mo', g1', _, g3'⟩
      . exact absurd hj (Nat.not_lt_zero i)
      have LM := hg _ _ g1; rw [g1'] at LM; injection LM with SQ; injection SQ with _ h13; subst h13; exact ih (g3 i hi) (g3' i hj)
    exact List.ext_getElem key.1 key.2
  | mp a b wB wC =>
    rintro cs x y ⟨v, h1, hv⟩ ⟨v', rD, lF⟩
    obtain rfl : v = v' := by rw [h1] at rD; simpa using rD
    have key : List.length (x : List (a.den × b.den)) = List.length (y : List (a.den × b.den)) /\ ∀ i (hi : i < List.length (x : List (a.den × b.den))) (hj : i < List.length (y : List (a.den × b.den))), (x : List (a.den × b.den))[i] = (y : List (a.den × b.den))[i] := by
      rcases hv with ⟨rfl, rfl⟩ | ⟨bb, es, c, rfl, _, g1, g2, g3⟩
      . rcases lF with ⟨_, rfl⟩ | ⟨_, _, _, h3, _⟩
        . exact ⟨rfl, fun i hi => absurd hi (Nat.not_lt_zero i)⟩
        cases h3
      rcases lF with ⟨h3, _⟩ | ⟨b', eH, c', h3, _, g1', g2', g3'⟩
      . cases h3
      injection h3 with h4; injection h4 with h5; subst h5; have LM := hg _ _ g1; rw [g1'] at LM; injection LM with SQ; injection SQ with h13 _; subst h13; refine ⟨g2.symm.trans g2', fun i hi hj => ?_⟩; have q1 := g3 i hi (by omega); have q2 := g3' i hj (by omega); exact Prod.ext (wB q1.1.2 q2.1.2) (wC q1.2.2 q2.2.2)
    exact List.ext_getElem key.1 key.2
end Go.Fs
namespace Go.Fs
variable {P : Program} {orc : FuncId -> List Value -> Heap -> Option (Value × Heap)} {aV : Option Nat} {h h' h0 h1 h2 : Heap} {S S' S0 B G : List Nat} {σ aJ kR : aG} {t t' : Tr} {ms : List Nat} {fl : VL} {ops : Array Oper} {n i mem : Nat} {l : List Oper} {K : VL -> aG -> Prop} {Q : Ex -> VL -> aG -> Prop}
  {d : Tmp} {ty : TypeId} {pos : String} {after : Array Edge} {op : Op} {v pv : PV} {g : Option (Nat × Bool)} {x y z : Operand} {T T' e : TypeId} {τ eP : Ty} {w : Value}
end Go.Fs
namespace Go.Fs
variable {P : Program} {orc : FuncId -> List Value -> Heap -> Option (Value × Heap)} {aV : Option Nat} {h h' h0 h1 h2 : Heap} {S S' S0 B G : List Nat} {σ aJ kR : aG} {t t' : Tr} {ms : List Nat} {fl : VL} {ops : Array Oper} {n i mem : Nat} {l : List Oper} {K : VL -> aG -> Prop} {Q : Ex -> VL -> aG -> Prop}
  {d : Tmp} {ty : TypeId} {pos : String} {after : Array Edge} {op : Op} {v pv : PV} {g : Option (Nat × Bool)} {x y z : Operand} {T T' e : TypeId} {τ eP : Ty} {w : Value}
inductive SR : (τ : Ty) -> τ.den -> Nat -> (eP : Ty) -> eP.den -> τ.den -> Prop where
  | o {τ : Ty} {x y : τ.den} : SR τ x 0 τ y y
  | l {a b : Ty} {x : (Ty.pair a b).den} {k : Nat} {eP : Ty} {y : eP.den} {z : a.den} (hs : SR a x.1 k eP y z) : SR (.pair a b) x k eP y (z, x.2)
  | r {a b : Ty} {x : (Ty.pair a b).den} {k k' : Nat} {eP : Ty} {y : eP.den} {z : b.den} (hs : SR b x.2 k eP y z) (hk : k' = a.size + k := by rfl) : SR (.pair a b) x k' eP y (x.1, z)
end Go.Fs
namespace Go.Fs
variable {P : Program} {orc : FuncId -> List Value -> Heap -> Option (Value × Heap)} {aV : Option Nat} {h h' h0 h1 h2 : Heap} {S S' S0 B G : List Nat} {σ aJ kR : aG} {t t' : Tr} {ms : List Nat} {fl : VL} {ops : Array Oper} {n i mem : Nat} {l : List Oper} {K : VL -> aG -> Prop} {Q : Ex -> VL -> aG -> Prop}
  {d : Tmp} {ty : TypeId} {pos : String} {after : Array Edge} {op : Op} {v pv : PV} {g : Option (Nat × Bool)} {x y z : Operand} {T T' e : TypeId} {τ eP : Ty} {w : Value}
end Go.Fs
namespace Go.Fs
variable {P : Program} {orc : FuncId -> List Value -> Heap -> Option (Value × Heap)} {h h' : Heap} {S S' : List Nat} {σ : aG}
end Go.Fs
namespace Go.Fs
variable {P : Program} {fl : VL} {σ : aG} {x y : Operand} {T T' : TypeId} {p q : Int}
end Go.Fs
namespace Go.Fs
variable {P : Program} {fl : VL} {σ γ : aG} {Q : PV -> aG -> Prop} {fn : Func}
variable {p q r : ByteArray}
variable {x y : Operand} {T T' : TypeId}
end Go.Fs
namespace Go.Fs
variable {P : Program} {orc : FuncId -> List Value -> Heap -> Option (Value × Heap)} {aV : Option Nat} {h h' h0 h1 h2 : Heap} {S S' S0 : List Nat} {σ aJ : aG} {t t' : Tr} {ms : List Nat} {fl : VL} {ops : Array Oper} {n i mem : Nat} {l : List Oper} {K : VL -> aG -> Prop}
  {d : Tmp} {ty : TypeId} {pos : String} {after : Array Edge} {op : Op} {v pv : PV} {g : Option (Nat × Bool)} {x y z : Operand} {T T' e : TypeId} {τ eP : Ty}
inductive FnL : List PV -> List PV -> Prop where
  | nil : FnL [] []
  | same {p : PV} {l l' : List PV} (hl : FnL l l') : FnL (p :: l) (p :: l')
  | fn {f : FuncId} {l l' : List PV} (hl : FnL l l') : FnL (.gJ f [] [] :: l) (.v .fn (some f) :: l')
end Go.Fs
namespace Go.Fs
variable {P : Program} {orc : FuncId -> List Value -> Heap -> Option (Value × Heap)} {aV : Option Nat} {h h' h0 h1 h2 hr : Heap} {S S' S0 B G A : List Nat} {σ aJ kR ρ : aG} {t t' : Tr} {ms : List Nat} {fl : VL} {ops : Array Oper} {n i mem : Nat} {l : List Oper} {K : VL -> aG -> Prop} {Q : Ex -> VL -> aG -> Prop}
  {d : Tmp} {ty : TypeId} {pos : String} {after : Array Edge} {op : Op} {v pv : PV} {g : Option (Nat × Bool)} {x y z : Operand} {T T' e : TypeId} {τ eP : Ty} {bs nw rd chg : List Nat} {segs : List (Nat × Nat × Nat)} {tail tl : Bool} {w w' : Value}
section
variable (P orc)
def JX (hr : Heap) (ops : Array Oper) (n : Nat) (l : List Oper) (i : Nat) (x : vO) (Q : vO -> Prop) : Prop := ∃ m x', kA P hr (mO P orc m) ops n l i x = some x' /\ Q x'
end
theorem JX.nil {x : vO} {QL : vO -> Prop} (hq : QL x) : JX P orc hr ops n [] i x QL := ⟨0, x, rfl, hq⟩
theorem JX.opr {o : Oper} {x x' : vO} {QL : vO -> Prop} (hs : jN P hr (iI P) ops n o i x = some x') (hl : JX P orc hr ops n l (i + 1) x' QL) : JX P orc hr ops n (o :: l) i x QL := by
  obtain ⟨m, s2, hf, hq⟩ := hl; refine ⟨m, s2, ?_, hq⟩; simp only [kA, xG (DL m) hs]; exact hf
def JY : Op -> Bool
  | .load .. => true
  | .call { callee := .builtin .len, .. } => true
  | .slice .. => true
  | _ => false
theorem ab2 {ev : Operand -> Value} {nx : Nat} (hq : JY op = false) : yW P hr op ev nx = none := by
  unfold yW; split
  . cases hq
  . cases hq
  . cases hq
  rfl
theorem jG.late {id : Nat} {fr : Fr} {QC : Ex -> Fr -> Heap -> Prop} (hl : AO ops = true) (ho : JX P orc h ops fr.n ops.toList 0 (⟨fr.t, h, [], [], 0, false⟩, [], []) fun x => O7 x = true /\ QC .normal { t := x.1.t, n := fr.n, marks := fr.marks } x.1.h) : jG P orc aV (.region id ops true) fr h QC := by
  obtain ⟨m, x, hf, ha, hq⟩ := ho; refine ⟨m + 1, .normal, _, _, ?_, hq⟩; show bG P orc (dA P orc m) aV (.region id ops true) fr h = _; unfold mO at hf; simp only [bG, hl, cond_true, tO, hf, ha]
structure tX (hr h : Heap) (S0 A : List Nat) (σ ρ : aG) (t : Tr) (fl : VL) (nw rd chg : List Nat) : Prop where
  ok : mU hr
  lt : SA hr (A ++ S0)
  next : hr.next <= h.next
  goes : cH hr (A ++ S0) h (own σ ++ S0)
  aH : ∀ k pv, lC fl k = some pv -> nF nw k = false -> aI hr (A ++ S0) pv (t.get k)
  suf : ∃ pP, σ = pP ++ ρ
  cells : ∀ c ∈ ρ, bA hr (A ++ S0) c.1 c.2
  fix : ∀ b ∈ own ρ, b ∈ A
  new : ∀ b ∈ own σ, b ∈ A \/ hr.next <= b
  rd : ∀ b ∈ rd, b < hr.next /\ (b ∈ own ρ \/ b ∉ A)
  chg : ∀ k ∈ chg, k ∉ own ρ /\ (k ∈ A \/ hr.next <= k)
section
variable (P orc)
def jM (ops : Array Oper) (n : Nat) (l : List Oper) (i : Nat) (fl : VL) (nw : List Nat) (σ ρ : aG) (bs : List Nat) (mem : Nat) (tl : Bool) (K : VL -> aG -> Prop) : Prop :=
  ∀ (hr h0 : Heap) (G S0 A : List Nat) (t : Tr) (h : Heap) (ms rd chg : List Nat) (segs : List (Nat × Nat × Nat)) (tail : Bool), (tl = false -> tail = false) -> Iv h0 G S0 h σ t ms fl -> tX hr h S0 A σ ρ t fl nw rd chg ->
    JX P orc hr ops n l i (⟨t, h, bs, segs, mem, tail⟩, rd, chg) fun x => O7 x = true /\ ∃ eV aJ, Iv h0 G S0 x.1.h aJ x.1.t ms eV /\ K eV aJ
end
theorem U.late {id : Nat} {ops : Array Oper} (ρ : aG) (hs : ∃ pP, σ = pP ++ ρ) (hx : jM P orc ops n ops.toList 0 fl [] σ ρ [] 0 false fun eV aJ => Q .normal eV aJ) (hl : AO ops = true := by kernel_rfl) : U P orc aV (.region id ops true) n fl σ Q := fun h0 G S0 t h ms I => by
  refine jG.late hl ?_; have hA := I.lc.lt
  have aoM : ∀ b ∈ own ρ, b ∈ own σ := fun b hb => by
    obtain ⟨pP, rfl⟩ := hs; rw [cB]; exact List.mem_append_right _ hb
  obtain ⟨m, x, h1, ha, eV, aJ, h2, h3⟩ := hx h h0 G S0 (own σ) t h ms [] [] [] false (fun _ => rfl) I
    { ok := I.ok, lt := I.aH.1.slt I.ok hA, next := Nat.le_refl _, goes := fun b o hg hb => ⟨hg, hb⟩, aH := fun k pv hk _ => I.aH k pv hk, suf := hs,
      cells := fun c hc => I.cells c (by obtain ⟨pP, rfl⟩ := hs; exact List.mem_append_right _ hc), fix := aoM, new := fun b hb => .inl hb, rd := fun b hb => (by cases hb), chg := fun k hk => (by cases hk) }
  exact ⟨m, x, h1, ha, rfl, eV, aJ, h2, h3⟩
theorem jM.nil (hk : K fl σ) : jM P orc ops n [] i fl nw σ ρ bs mem tl K := fun hr h0 G S0 A t h ms rd chg segs tail ht I L => by
  refine JX.nil ⟨?_, fl, σ, I, hk⟩; refine List.all_eq_true.2 fun b hb => List.all_eq_true.2 fun k hk => ?_; obtain ⟨r1, r2⟩ := L.rd b hb; obtain ⟨c1, c2⟩ := L.chg k hk
  have cL : b ≠ k := by
    intro e; subst e; rcases r2 with r2 | r2
    . exact c1 r2
    rcases c2 with c2 | c2
    . exact r2 c2
    omega
  rw [fG cL]; rfl
theorem jM.go {b : Code} (hx : U P orc aV b n fl σ Q) : jM P orc ops n [] i fl nw σ ρ bs mem tl fun fl σ => PA P orc aV n b Q .normal fl σ := jM.nil hx
theorem tX.set {u : Value} {old : Bool} (L : tX hr h S0 A σ ρ t fl nw rd chg) (hd : d < 4000) (hu : old = true -> aI hr (A ++ S0) v u) : tX hr h S0 A σ ρ (t.set depth d u) ((d, v) :: fl) (gT old d nw) rd chg :=
  { L with
    aH := fun k pv hk hn => by
      rw [zA t d u k hd]; simp only [lC] at hk
      cases hb : Nat.beq d k with
      | true =>
        rw [hb] at hk; simp only [cond_true, Option.some.injEq] at hk; subst hk; rw [if_pos (bI hb).symm]
        cases old with
        | true => exact hu rfl
        | false =>
          simp only [gT, cond_false, nF, hb, cond_true] at hn
          cases hn
      | false =>
        rw [hb] at hk; simp only [cond_false] at hk; have cL := fS hb; rw [if_neg (Ne.symm cL)]; refine L.aH k pv hk ?_
        cases old with
        | true => rw [gT, cond_true, nP (Ne.symm cL)] at hn; exact hn
        | false => simpa only [gT, cond_false, nF, hb] using hn }
theorem tX.read (L : tX hr h S0 A σ ρ t fl nw rd chg) {b : Nat} (hb : b < hr.next /\ (b ∈ own ρ \/ b ∉ A)) : tX hr h S0 A σ ρ t fl nw (b :: rd) chg :=
  { L with
    rd := fun k hk => by
      rcases List.mem_cons.1 hk with rfl | hk
      . exact hb
      exact L.rd k hk }
theorem tX.made (L : tX hr h S0 A σ ρ t fl nw rd chg) (I : Iv h0 G S0 h σ t ms fl) (m : Made S0 h h' σ aJ) (hs : ∃ pP, aJ = pP ++ ρ) : tX hr h' S0 A aJ ρ t fl nw rd chg :=
  { L with
    next := Nat.le_trans L.next m.gC.next
    goes := L.goes.trans (I.goes (fun _ hb => hb) m.gC m.new)
    suf := hs
    new := fun b hb => by
      rcases m.new b hb with h3 | h3
      . exact L.new b h3
      have := L.next
      exact .inr (by omega) }
theorem jM.c {b : Nat} (hc : aK P fl [] op v) (hk : jM P orc ops n l (i + 1) ((d, v) :: fl) (gT (JL nw op || v.kQ) d nw) σ ρ (bs ++ [b]) mem tl K)
    (hb : aP bs ⟨some d, op, ty, pos, after, g⟩ = b := by rfl) (hw : dU ops fl g = some true := by rfl) (hn : (Nat.blt d n && Nat.ble n 4000) = true := by rfl) :
    jM P orc ops n (⟨some d, op, ty, pos, after, g⟩ :: l) i fl nw σ ρ bs mem tl K := fun hr h0 G S0 A t h ms rd chg segs tail ht I L => by
  obtain ⟨n1, n2⟩ := fits hn; obtain ⟨u, e1, e2⟩ := hc.2 h (own σ ++ S0) t I.aH.y6 (fun _ hc => by cases hc); refine JX.opr (x' := (⟨t.set depth d u, h, bs ++ [b], segs, mem, tail⟩, rd, chg)) ?_ (hk hr h0 G S0 A _ h ms rd chg segs tail ht (I.set e1 n2) (L.set n2 fun hold => ?_))
  . unfold jN; have IX : bR ops t ⟨some d, op, ty, pos, after, g⟩ = some true := dC I.aH hw; simp only [IX, hc.1, if_true, e2, Nat.beq_refl, cond_true, cE n1, Option.map_some, hb]
  rcases Bool.or_eq_true_iff.1 hold with hold | hold
  . obtain ⟨u', f1, f2⟩ := hc.2 hr (A ++ S0) t (CS L.aH hold) (fun _ hc => by cases hc)
    have : u' = u := by
      have g1 := e2 none 0 "" #[] none h; rw [f2 none 0 "" #[] none h] at g1; simpa using g1
    rw [<- this]; exact f1
  exact (aI.kQ hold e1).2 _ _
theorem WE {b o : Nat} {ob : aX} {H : Heap} {nx : Nat} {u : Value} (hg : H.get b = some ob) (hv : eO P T (.pointer (some ⟨b, o, none⟩)) H = some u) : eO P T (.pointer (some ⟨b, o, none⟩)) { next := nx, low := nx, aA := [(b, ob)] } = some u := by
  unfold eO at hv ⊢; simp only at hv ⊢
  have : Heap.get { next := nx, low := nx, aA := [(b, ob)] } b = some ob := by
    show look [(b, ob)] b = some ob; simp [look]
  rw [this]; rw [hg] at hv; exact hv
theorem SS {b b0 o0 : Nat} {ob : aX} {u : Value} (hx : aB t x = .pointer (some ⟨b0, o0, none⟩)) (hg : hr.get b0 = some ob) (b7 : b0 < hr.next) (hv : eO P T (.pointer (some ⟨b0, o0, none⟩)) hr = some u)
    (hb : aP bs ⟨some d, .load T x, ty, pos, after, g⟩ = b) (hw : bR ops t ⟨some d, .load T x, ty, pos, after, g⟩ = some true) (n1 : Nat.blt d n = true) :
    jN P hr (iI P) ops n ⟨some d, .load T x, ty, pos, after, g⟩ i (⟨t, h, bs, segs, mem, tail⟩, rd, chg) = some (⟨t.set depth d u, h, bs ++ [b], segs, mem, tail⟩, b0 :: rd, chg) := by
  have hq : yW P hr (.load T x) (aB t) h.next = some (u, [b0]) := by
    have H7 : Nat.blt b0 hr.next = true := by rw [Nat.blt_eq]; exact b7
    simp only [yW, hx, hg, H7, cond_true, WE (nx := h.next) hg hv, Option.map_some]
  unfold jN; simp only [hw, show calm (Op.load T x) = false from rfl, Bool.false_eq_true, if_false, hq, cE n1, Option.map_some, hb]; rfl
theorem jM.qo {b : Nat} {q : Value} {cs : List PV} (hx : b9 fl x = some (.raw q)) (hm : (w, Cell.var cs) ∈ ρ) (hq : q = w \/ ∃ k, q = nO w k) (hc : dN P fl ρ (.load T x) v) (hk : jM P orc ops n l (i + 1) ((d, v) :: fl) (gT true d nw) σ ρ (bs ++ [b]) mem tl K)
    (hb : aP bs ⟨some d, .load T x, ty, pos, after, g⟩ = b := by rfl) (hw : dU ops fl g = some true := by rfl) (hn : (Nat.blt d n && Nat.ble n 4000) = true := by rfl) :
    jM P orc ops n (⟨some d, .load T x, ty, pos, after, g⟩ :: l) i fl nw σ ρ bs mem tl K := fun hr h0 G S0 A t h ms rd chg segs tail ht I L => by
  obtain ⟨n1, n2⟩ := fits hn; have hxq : aB t x = q := (dP I.aH hx : aI _ _ (.raw q) _); obtain ⟨b0, e', vs, h1, h2, h3, h4, h5⟩ := L.cells _ hm
  obtain ⟨o0, hqb⟩ : ∃ o0, q = .pointer (some ⟨b0, o0, none⟩) := by
    simp only at h1; rcases hq with hq | ⟨k, hq⟩
    . exact ⟨0, hq.trans h1⟩
    exact ⟨0 + k, by rw [hq, h1]; rfl⟩
  obtain ⟨u, e1, e2⟩ := hc.2 hr (A ++ S0) t (fun z hz pv hp => by
    obtain rfl : z = x := by simpa [Op.operands] using hz
    rw [hx] at hp; obtain rfl := Option.some.inj hp
    exact hxq) L.cells
  have cC := e2 hr (fun _ _ hg => hg) none 0 "" #[] none
  have hv : eO P T (.pointer (some ⟨b0, o0, none⟩)) hr = some u := by
    have h5 : (eO P T (aB t x) hr).map (fun v => (v, hr)) = some (u, hr) := cC; obtain ⟨v', h6, h7⟩ := Option.map_eq_some_iff.1 h5; simp only [Prod.mk.injEq, and_true] at h7; rw [<- hqb, <- hxq, h6, h7]
  have b7 := L.ok b0 _ h3; have x9 : b0 ∈ own ρ := List.mem_flatMap.2 ⟨_, hm, by simp only at h1; rw [h1]; exact List.mem_cons_self⟩; exact JX.opr (SS (hxq.trans hqb) h3 b7 hv hb (dC I.aH hw) n1) (hk hr h0 G S0 A _ h ms _ chg segs tail ht (I.set (e1.nx L.goes) n2) ((L.set (old := true) n2 fun _ => e1).read ⟨b7, .inl x9⟩))
theorem WG {b : Nat} {o : Oper} {u : Value} {t2 : Tr} (hb : aP bs o = b) (hp : put n t o.dst u = some t2) (vQ : calm o.op = false) (hqo : JY o.op = false) (hw : bR ops t o = some true) (iM : Nat.beq (mem &&& b) mem = true) (bD : mU h) (cC : iI P o (aB t) (entry h) = some (u, h')) (hB : cD (entry h) h' B)
    (htu : h.next <= h'.low \/ ∃ k, rP o.op (aB t) = some k) :
    ∃ h2 jL CN, jN P hr (iI P) ops n o i (⟨t, h, bs, segs, mem, tail⟩, rd, chg) = some (⟨t2, h2, bs ++ [b], (i, h.next, h'.next) :: segs, mem ||| 2 ^ i, jL⟩, rd, CN) /\ (∀ b, h2.get b = h'.get b) /\ h2.next = h'.next /\ cD h h2 B /\ ((CN = chg /\ jL = tail) \/ ∃ k, rP o.op (aB t) = some k /\ ¬ h.next <= h'.low /\ CN = k :: chg) := by
  have gA := hB.next; have ae0 : Nat.blt h'.next h.next = false := q7 gA; unfold jN; simp only [hw, vQ, Bool.false_eq_true, if_false, ab2 hqo]; unfold sI; simp only [hb, iM, Bool.not_true, Bool.and_false, cond_false, cond_true]; unfold entry at cC; rw [cC]; simp only [ae0, cond_false, hp]
  cases dK : Nat.ble h.next h'.low with
  | true =>
    have hl := dY dK
    have gH : ∀ b, b < h.next -> h'.get b = h.get b := fun b hb => by
      rcases hB.chg b hb with h3 | h3
      . exact h3
      omega
    have gB : ∀ b, look (bM h.next h'.next h'.aA ++ h.aA) b = h'.get b := fun b => by
      rw [iU]; by_cases hb : b < h.next
      . cases iT : look (bM h.next h'.next h'.aA) b with
        | some o => have := (dT _ _ _ iT).1; omega
        | none => exact (gH b hb).symm
      have hold : look h.aA b = none := by
        cases iT : look h.aA b with
        | none => rfl
        | some o => exact absurd (bD b o iT) hb
      rw [hold, Option.or_none]
      cases iT : look h'.aA b with
      | some o =>
        have : b < h'.next := hB.ok bD b o iT; rw [zB _ _ (by omega) this, iT]
        exact iT.symm
      | none =>
        cases IL : look (bM h.next h'.next h'.aA) b with
        | none => exact iT.symm
        | some o => rw [(dT _ _ _ IL).2] at iT; cases iT
    refine ⟨_, _, _, rfl, gB, rfl, ⟨gA, fun b hb hn => (gB b).trans (hB.get b hb hn), fun _ b o hg => ?_, fun e h3 _ _ => h3, fun b hb => .inl ((gB b).trans (gH b hb)), Nat.le_refl _⟩, .inl ⟨rfl, rfl⟩⟩
    exact hB.ok bD b o ((gB b).symm.trans hg)
  | false =>
    rcases htu with htu | ⟨k, htu⟩
    . have : Nat.ble h.next h'.low = true := by rw [Nat.ble_eq]; exact htu
      rw [this] at dK; cases dK
    simp only [htu, cond_false, cond_true]; refine ⟨_, _, _, rfl, fun _ => rfl, rfl, ⟨gA, hB.get, fun _ => hB.ok bD, fun e h3 h4 h5 => Nat.le_min.2 ⟨h3, hB.low e h4 h4 h5⟩, fun b hb => ?_, Nat.min_le_left _ _⟩, .inr ⟨k, rfl, fun hle => (by have e : Nat.ble h.next h'.low = true := (by rw [Nat.ble_eq]; exact hle); rw [e] at dK; cases dK), rfl⟩⟩; rcases hB.chg b hb with h3 | h3
    . exact .inl h3
    exact .inr (Nat.le_trans (Nat.min_le_right _ _) h3)
def rK (P : Program) (fl : VL) (op : Op) (w : Value) (c : Cell) : Prop := JY op = false /\ ∀ (h h' : Heap) (S : List Nat) (t : Tr) (u : Value) (d : Option Tmp) (ty : TypeId) (pos : String) (after : Array Edge) (g : Option (Nat × Bool)), G8 h S t fl op -> bA h S w c -> iI P ⟨d, op, ty, pos, after, g⟩ (aB t) h = some (u, h') ->
  (∀ k, rP op (aB t) = some k -> k ∈ cI w) /\ (h.low <= h'.low \/ ∃ k, rP op (aB t) = some k)
theorem rK.store {q : Value} {cs : List PV} (hx : b9 fl x = some (.raw q)) (hq : q = w \/ ∃ k, q = nO w k) : rK P fl (.store T x y) w (.var cs) := ⟨rfl, fun h h' S t u d ty pos after g hs hc _ => by
  have hxq : aB t x = q := (hs x (by simp [Op.operands]) _ hx : aI _ _ (.raw q) _); obtain ⟨b0, e', vs, h1, h2, h3, h4, h5⟩ := hc
  obtain ⟨o0, hqb⟩ : ∃ o0, q = .pointer (some ⟨b0, o0, none⟩) := by
    rcases hq with hq | ⟨k, hq⟩
    . exact ⟨0, hq.trans h1⟩
    exact ⟨0 + k, by rw [hq, h1]; rfl⟩
  have ht : rP (.store T x y) (aB t) = some b0 := by simp only [rP, hxq, hqb]
  refine ⟨fun k hk => ?_, .inr ⟨b0, ht⟩⟩; rw [ht] at hk; obtain rfl := Option.some.inj hk
  rw [h1]; exact List.mem_cons_self⟩
theorem tX.aoN {c : Cell} (L : tX hr h S0 A ((w, c) :: kR) ρ t fl nw rd chg) (nE : (own ((w, c) :: kR)).Nodup) (hs : ∃ pP, kR = pP ++ ρ) {k : Nat} (hk : k ∈ cI w) : tX hr h S0 A ((w, c) :: kR) ρ t fl nw rd (k :: chg) :=
  { L with
    chg := fun j hj => by
      rcases List.mem_cons.1 hj with rfl | hj
      . rw [bZ] at nE; refine ⟨fun hm => (List.nodup_append.1 nE).2.2 j hk j ?_ rfl, L.new j (by rw [bZ]; exact List.mem_append_left _ hk)⟩; obtain ⟨pP, rfl⟩ := hs; rw [cB]; exact List.mem_append_right _ hm
      exact L.chg j hj }
theorem jM.oN {c : Cell} {b : Nat} {Tt : PV -> aG -> Prop} (hs : bF P fl ((w, c) :: kR) op Tt) (hT : rK P fl op w c) (hρ : ∃ pP, kR = pP ++ ρ) (hk : ∀ v aJ, Tt v aJ -> (∃ pP, aJ = pP ++ ρ) /\ jM P orc ops n l (i + 1) fl nw aJ ρ (bs ++ [b]) (mem ||| 2 ^ i) true K)
    (hb : aP bs ⟨none, op, ty, pos, after, g⟩ = b := by rfl) (iM : Nat.beq (mem &&& b) mem = true := by rfl) (hw : dU ops fl g = some true := by rfl) :
    jM P orc ops n (⟨none, op, ty, pos, after, g⟩ :: l) i fl nw ((w, c) :: kR) ρ bs mem tl K := fun hr h0 G S0 A t h ms rd chg segs tail ht I L => by
  have Le := I.lc.aA (h' := entry h) (fun _ => rfl) rfl; obtain ⟨u, h', v, aJ, e1, e2, e3, e4⟩ := hs.2 S0 (entry h) t Le; have cC := e4 none ty pos after g; obtain ⟨t1, t2⟩ := hT.2 (entry h) h' _ t u _ _ _ _ _ Le.aH.y6 (Le.cells _ List.mem_cons_self) cC; obtain ⟨h2, jL, CN, f1, f2, f3, f4, f5⟩ := WG (n := n) (hr := hr) (rd := rd) (chg := chg) (i := i) (segs := segs) (tail := tail) (o := ⟨none, op, ty, pos, after, g⟩) hb (MA n t u) hs.1 hT.1 (dC I.aH hw) iM I.ok cC e2.gC t2; have m2 := wH e2 f2 f4; obtain ⟨PG, hk⟩ := hk v aJ e1
  have L2 : tX hr h S0 A ((w, c) :: kR) ρ t fl nw rd CN := by
    rcases f5 with ⟨rfl, _⟩ | ⟨k, g1, _, rfl⟩
    . exact L
    exact L.aoN I.apart hρ (t1 k g1)
  exact JX.opr f1 (hk hr h0 G S0 A _ _ ms rd CN _ jL (fun e => by cases e) (I.made m2) (L2.made I m2 PG))
theorem jM.perm (hp : σ.Perm aJ) (hs : ∃ pP, aJ = pP ++ ρ) (hx : jM P orc ops n l i fl nw aJ ρ bs mem tl K) : jM P orc ops n l i fl nw σ ρ bs mem tl K := fun hr h0 G S0 A t h ms rd chg segs tail ht I L =>
  hx hr h0 G S0 A t h ms rd chg segs tail ht (I.perm hp) { L with
    goes := fun b o hg hb => by
      obtain ⟨g1, g2⟩ := L.goes b o hg hb; refine ⟨g1, fun hm => g2 ?_⟩; rcases List.mem_append.1 hm with hm | hm
      . exact List.mem_append_left _ ((oB hp).mem_iff.2 hm)
      exact List.mem_append_right _ hm
    suf := hs
    new := fun b hb => L.new b ((oB hp).mem_iff.2 hb) }
end Go.Fs
namespace Go.Fs
variable {P : Program} {orc : FuncId -> List Value -> Heap -> Option (Value × Heap)} {aV : Option Nat} {h h' h0 h1 h2 : Heap} {S S' S0 B G : List Nat} {σ aJ kR : aG} {t t' : Tr} {ms : List Nat} {fl : VL} {ops : Array Oper} {n i mem : Nat} {l : List Oper} {K : VL -> aG -> Prop} {Q : Ex -> VL -> aG -> Prop}
  {d : Tmp} {ty : TypeId} {pos : String} {after : Array Edge} {op : Op} {v pv : PV} {g : Option (Nat × Bool)} {x y z : Operand} {T T' e : TypeId} {τ eP : Ty} {w : Value} {ρ : aG} {bs nw : List Nat} {tl : Bool}
end Go.Fs
namespace Go.Fs
variable {P : Program} {O : FuncId -> List Value -> Heap -> Option (Value × Heap)} {h h' : Heap} {S : List Nat}
end Go.Fs
namespace Go.Proofs
open Go.Fs
def OA := G6 90 91 (YC 92 43 6)
abbrev SU : Ty := (.sl (.int .i64))
abbrev SV : Ty := (.sl (.int .i64))
theorem qZ : fN Tryz.prog 3 (.int .i64) := fD (by kernel_rfl)
theorem AF : fN Tryz.prog 29 (.int .i64) := fD (by kernel_rfl)
theorem PJ : kB Tryz.prog 161 3 (.int .i64) := qQ (by kernel_rfl)
theorem wL : kB Tryz.prog 167 29 (.int .i64) := qQ (by kernel_rfl)
def bH (c : Bool) (e : Int) : Int := bif c then e else 0
theorem jQ {c : Bool} {e : Int} : VF Tryz.prog OA 67 [B c, I e] (I (bH c e)) := by
  refine VF.enter Tryz.func67 rfl (fun _ _ => rfl) rfl ?_; show U _ _ _ _ _ [(0, B c), (1, I e)] [] _; refine U.seq (U.text ?_); refine J.c (.assign rfl) ?_; refine J.go (U.seq (U.seq (U.text ?_))); refine J.c (.move rfl) (J.go ?_); refine U.fO rfl (fun c1 => ?_) (fun c1 => ?_)
  . subst c1; refine U.seq (U.text ?_); refine J.c (.move rfl) (J.c (.assign rfl) (J.go ?_)); refine U.ret ?_; exact aR.one rfl aZ (cY (by rfl))
  subst c1; refine U.skip (U.seq (U.text ?_)); refine J.c (.assign rfl) (J.go ?_); refine U.ret ?_; exact aR.one rfl aZ (cY (by rfl))
def fI (n lo hi : Int) : Int := if n < lo \/ hi < n then 3 else 0
theorem x3 {n : Int} {lo : Int} {hi : Int} : VF Tryz.prog OA 101 [I n, I lo, I hi] (I (fI n lo hi)) := by
  refine VF.enter Tryz.func101 rfl (fun _ _ => rfl) rfl ?_; show U _ _ _ _ _ [(0, I n), (1, I lo), (2, I hi)] [] _; refine U.seq (U.text ?_); refine J.c (.assign rfl) ?_; refine J.go (U.seq (U.seq (U.text ?_))); refine J.c (.move rfl) (J.c (.move rfl) (J.c (.lss) (J.c (.move rfl) ?_))); refine J.cg (r := decide (n < lo)) (w := false) [] trivial (fun _ => (.move rfl)) ?_; refine J.cg (r := decide (n < lo)) (w := false) [] trivial (fun _ => (.move rfl)) ?_; refine J.cg (r := decide (n < lo)) (w := false) [(11, I n), (12, I hi)] ⟨rfl, rfl, trivial⟩ (fun _ => (.gtr)) ?_; refine J.c (.or) (J.go ?_); refine U.fO rfl (fun c1 => ?_) (fun c1 => ?_)
  . try simp only [Bool.and_eq_true, Bool.or_eq_true, Bool.and_eq_false_iff, Bool.or_eq_false_iff, Bool.not_eq_true', Bool.not_eq_false', decide_eq_true_eq, decide_eq_false_iff_not] at c1
    refine U.seq (U.text ?_); refine J.c (.assign rfl) (J.go ?_); refine U.ret ?_; exact aR.one rfl aZ (cY (by simp only [fI, <- Bool.decide_or, decide_eq_true_eq, decide_eq_false_iff_not, Bool.or_eq_true, Bool.or_eq_false_iff] at *; first | rw [if_pos (by omega)] | rw [if_neg (by omega)]))
  try simp only [Bool.and_eq_true, Bool.or_eq_true, Bool.and_eq_false_iff, Bool.or_eq_false_iff, Bool.not_eq_true', Bool.not_eq_false', decide_eq_true_eq, decide_eq_false_iff_not] at c1
  refine U.skip (U.seq (U.text ?_)); refine J.c (.assign rfl) (J.go ?_); refine U.ret ?_; exact aR.one rfl aZ (cY (by simp only [fI, <- Bool.decide_or, decide_eq_true_eq, decide_eq_false_iff_not, Bool.or_eq_true, Bool.or_eq_false_iff] at *; first | rw [if_pos (by omega)] | rw [if_neg (by omega)]))
theorem PK {n lo hi : Int} : bH (decide (n < lo) || decide (hi < n)) 3 = fI n lo hi := by
  unfold bH fI; by_cases h1 : n < lo <;> by_cases h2 : hi < n <;> simp [h1, h2]
theorem SW {n : Int} {lo : Int} {hi : Int} : VF Tryz.prog OA 111 [I n, I lo, I hi] (I (fI n lo hi)) := by
  refine VF.enter Tryz.func111 rfl (fun _ _ => rfl) rfl ?_; show U _ _ _ _ _ [(0, I n), (1, I lo), (2, I hi)] [] _; refine U.seq (U.text ?_); refine J.c (.assign rfl) ?_; refine J.go (U.seq (U.text ?_)); refine J.c (.move rfl) (J.c (.move rfl) (J.c (.lss) (J.c (.move rfl) ?_))); refine J.cg (r := decide (n < lo)) (w := false) [] trivial (fun _ => (.move rfl)) ?_; refine J.cg (r := decide (n < lo)) (w := false) [] trivial (fun _ => (.move rfl)) ?_; refine J.cg (r := decide (n < lo)) (w := false) [(11, I n), (12, I hi)] ⟨rfl, rfl, trivial⟩ (fun _ => (.gtr)) ?_; refine J.c (.or) ?_; refine J.call rfl rfl (VF.call (jQ )) ?_; refine J.c (.assign rfl) (J.go ?_); refine U.ret ?_; exact aR.one rfl aZ (cY (by exact PK))
def bQ : List Int -> Int
  | [] => 0
  | x :: r => if x = 0 then bQ r else x
theorem rW {xs : List Int} {j : Nat} (hj : j < xs.length) : bQ (xs.drop j) = if xs[j] = 0 then bQ (xs.drop (j + 1)) else xs[j] := by
  rw [List.drop_eq_getElem_cons hj] <;> rfl
theorem GI {xs : List Int} {j : Nat} (hj : xs.length <= j) : bQ (xs.drop j) = 0 := by rw [List.drop_eq_nil_of_le hj] <;> rfl
theorem o4 {l : List Int} (hl : l.length < 1000000) : VF Tryz.prog OA 57 [.v SV l] (I (bQ l)) := by
  refine VF.enter Tryz.func57 rfl (fun _ _ => rfl) rfl ?_; show U _ _ _ _ _ [(0, .v SV l)] [] _; refine U.seq (U.text ?_); refine J.c (.assign rfl) ?_; refine J.go (U.seq (U.seq (U.text ?_))); refine J.c (.move rfl) ?_; refine J.r (.len wL) ?_; refine J.c (.move rfl) ?_; refine J.go (U.block ?_); refine U.keep [(5, .v SV l), (6, I ((l.length : Nat) : Int)), (7, I ((0 : Nat) : Int))] ⟨rfl, rfl, rfl, trivial⟩ ?_; refine U.loop (I := fun kk ff ss => ∃ (j : Nat), kk = l.length - j /\ ff = [(5, .v SV l), (6, I ((l.length : Nat) : Int)), (7, I ((j : Nat) : Int))] /\ ss = [] /\ (j <= l.length) /\ (bQ l = bQ (l.drop j))) ?_ _ _ _ ⟨0, rfl, rfl, rfl, Nat.zero_le _, (by rfl)⟩; rintro kk ff ss ⟨j, kI, rfl, rfl, hj, hf⟩; refine U.seq (U.text ?_); refine J.c (.lss) ?_; refine J.go (U.seq ?_); refine U.aM rfl (fun c2 => ?_) (fun c2 => ?_)
  . refine U.skip (U.seq (U.block (U.seq (U.text ?_)))); refine J.c (.ix (j := j) rfl rfl wL (by omega)) ?_; refine J.r (.ld AF) ?_; refine J.c (.assign rfl) ?_; refine J.go (U.seq (U.text ?_)); refine J.c (.move rfl) (J.c (.neq) (J.go ?_)); refine U.aM rfl (fun c4 => ?_) (fun c4 => ?_)
    . refine U.seq (U.text ?_); refine J.c (.move rfl) (J.c (.assign rfl) (J.go ?_)); refine U.ret ?_; exact aR.one rfl aZ (cY (by rw [hf, rW (by omega), if_neg c4]))
    refine U.skip (U.text ?_); refine J.c (.add rfl rfl (by omega)) (J.c (.move rfl) ?_); refine J.nil ?_; refine ⟨_, [(5, .v SV l), (6, I ((l.length : Nat) : Int)), (7, I (((j + 1) : Nat) : Int))], ?_, ⟨rfl, rfl, rfl, trivial⟩, (j + 1), rfl, rfl, rfl, (by omega), (by rw [hf, rW (by omega), if_pos (by simpa using c4)])⟩; omega
  refine U.exit (U.seq (U.text ?_)); refine J.c (.assign rfl) (J.go ?_); refine U.ret ?_; exact aR.one rfl aZ (cY (by rw [hf, GI (by omega)]))
theorem WH {l : List Int} (hl : l.length < 1000000) : VF Tryz.prog OA 99 [.v SU l] (I (bQ l)) := by
  refine VF.enter Tryz.func99 rfl (fun _ _ => rfl) rfl ?_; show U _ _ _ _ _ [(0, .v SU l)] [] _; refine U.seq (U.text ?_); refine J.c (.assign rfl) ?_; refine J.go (U.seq (U.seq (U.text ?_))); refine J.c (.assign rfl) ?_; refine J.go (U.block ?_); refine U.keep [(0, .v SU l), (3, I ((0 : Nat) : Int))] ⟨rfl, rfl, trivial⟩ ?_; refine U.loop (I := fun kk ff ss => ∃ (j : Nat), kk = l.length - j /\ ff = [(0, .v SU l), (3, I ((j : Nat) : Int))] /\ ss = [] /\ (j <= l.length) /\ (bQ l = bQ (l.drop j))) ?_ _ _ _ ⟨0, rfl, rfl, rfl, Nat.zero_le _, (by rfl)⟩; rintro kk ff ss ⟨j, kI, rfl, rfl, hj, hf⟩; refine U.seq (U.seq (U.text ?_)); refine J.c (.move rfl) (J.c (.move rfl) ?_); refine J.r (.len PJ) ?_; refine J.c (.lss) (J.go ?_); refine U.aM rfl (fun c2 => ?_) (fun c2 => ?_)
  . refine U.skip (U.seq (U.block (U.seq (U.text ?_)))); refine J.c (.move rfl) (J.c (.move rfl) (J.c (.ix (j := j) rfl rfl PJ (by omega)) ?_)); refine J.r (.ld qZ) ?_; refine J.c (.neq) (J.go ?_); refine U.aM rfl (fun c4 => ?_) (fun c4 => ?_)
    . refine U.seq (U.text ?_); refine J.c (.move rfl) (J.c (.move rfl) (J.c (.ix (j := j) rfl rfl PJ (by omega)) ?_)); refine J.r (.ld qZ) ?_; refine J.c (.assign rfl) (J.go ?_); refine U.ret ?_; exact aR.one rfl aZ (cY (by rw [hf, rW (by omega), if_neg c4]))
    refine U.skip (U.text ?_); refine J.c (.move rfl) (J.c (.add rfl rfl (by omega)) (J.c (.assign rfl) ?_)); refine J.nil ?_; refine ⟨_, [(0, .v SU l), (3, I (((j + 1) : Nat) : Int))], ?_, ⟨rfl, rfl, trivial⟩, (j + 1), rfl, rfl, rfl, (by omega), (by rw [hf, rW (by omega), if_pos (by simpa using c4)])⟩; omega
  refine U.exit (U.seq (U.text ?_)); refine J.c (.assign rfl) (J.go ?_); refine U.ret ?_; exact aR.one rfl aZ (cY (by rw [hf, GI (by omega)]))
end Go.Proofs
namespace Go.Proofs
open Go.Fs Ieee
def lK (c : Int) : Bool := decide (65 <= c /\ c <= 90 \/ 97 <= c /\ c <= 122)
def pE (c : Int) : Bool := decide (48 <= c /\ c <= 57 \/ c = 95)
def kD (c : Int) (i : Nat) : Bool := lK c || (decide (i ≠ 0) && pE c)
def iL (s : ByteArray) : Bool := decide (s.size ≠ 0 /\ s.size <= 24 /\ ∀ i, i < s.size -> kD (bV s i) i = true)
theorem SX {s : ByteArray} {i : Nat} (hi : i < s.size) (h : kD (bV s i) i = false) : false = iL s := by
  refine (decide_eq_false fun hh => ?_).symm; rw [hh.2.2 i hi] at h; cases h
theorem ae7 {s : ByteArray} (h1 : s.size ≠ 0) (h2 : s.size <= 24) (h : ∀ i, i < s.size -> kD (bV s i) i = true) : true = iL s := (decide_eq_true ⟨h1, h2, h⟩).symm
theorem size_empty {s : ByteArray} : s ≠ ByteArray.empty ↔ s.size ≠ 0 := by
  constructor
  . intro h e; exact h (ByteArray.ext (Array.eq_empty_of_size_eq_zero e))
  rintro h rfl; exact h rfl
theorem GJ {c : Int} {i : Nat} (h : 128 <= c) : kD c i = false := by
  have h1 : lK c = false := decide_eq_false (by omega); have h2 : pE c = false := decide_eq_false (by omega); rw [kD, h1, h2]; simp
theorem aj5 {s : ByteArray} {p : Nat} (h : kD ((Utf8.decode s p).1 : Nat) p = false) : kD (bV s p) p = false := by
  by_cases hl : (s.get! p).toNat < 128
  . rw [tW hl] at h; exact h
  exact GJ (by rw [B9]; omega)
theorem YG {s : ByteArray} {p : Nat} (h : kD ((Utf8.decode s p).1 : Nat) p = true) : kD (bV s p) p = true /\ (Utf8.decode s p).2 = 1 := by
  by_cases hl : (s.get! p).toNat < 128
  . rw [tW hl] at h ⊢; exact ⟨h, rfl⟩
  have := Go.Fs.decode_high hl; rw [GJ (by omega)] at h; cases h
theorem ab3 {s : ByteArray} (h : ∀ i, i < s.size -> kD (bV s i) i = true) : (decide (s ≠ ByteArray.empty) && decide (((s.size : Nat) : Int) <= 24)) = iL s := by
  rw [<- Bool.decide_and]; exact decide_eq_decide.2 ⟨fun hh => ⟨size_empty.1 hh.1, by omega, h⟩, fun hh => ⟨size_empty.2 hh.1, by omega⟩⟩
theorem ab4 {s : ByteArray} : VF Tryz.prog OA 134 [St s] (B (iL s)) := by
  refine VF.enter Tryz.func134 rfl (fun _ _ => rfl) rfl ?_; show U _ _ _ _ _ [(0, St s)] [] _; refine U.seq (U.text ?_); refine J.c (.assign rfl) ?_; refine J.go (U.seq (U.seq (U.text ?_))); refine J.c (.move rfl) ?_; refine J.cell (.rng) ?_; intro dE; refine J.go (U.block ?_); refine U.keep [(0, St s), (8, .raw dE)] ⟨rfl, rfl, trivial⟩ ?_; refine U.loop (I := fun kk ff ss => ∃ (p : Nat), kk = s.size - p /\ ff = [(0, St s), (8, .raw dE)] /\ ss = [(dE, .it s p)] /\ (p <= s.size) /\ (∀ i, i < p -> kD (bV s i) i = true)) ?_ _ _ _ ⟨0, rfl, rfl, rfl, Nat.zero_le _, (by intro i hi; omega)⟩; rintro kk ff ss ⟨p, kI, rfl, rfl, hp, hq⟩; refine U.seq (U.text ?_); refine J.next rfl (fun akD => ?_) (fun akD => ?_)
  . refine J.c (.extract) ?_; refine J.go (U.seq ?_); refine U.jJ rfl ?_; refine U.skip (U.block (U.seq (U.text ?_))); refine J.c (.extract) (J.c (.extract) (J.c (.assign rfl) (J.c (.assign rfl) ?_))); refine J.go (U.seq ?_); refine U.join [(0, St s), (3, I ((p : Nat) : Int)), (4, .v (.int .i32) (((Utf8.decode s p).1 : Nat) : Int)), (5, B (lK ((Utf8.decode s p).1 : Nat))), (8, .raw dE)] [(dE, .it s (p + (Utf8.decode s p).2))] ?_ ?_
    . skip
      refine U.text ?_; refine J.c (.move rfl) (J.c (.geq) (J.c (.move rfl) ?_)); refine J.iW (x := 15) rfl (fun aoO => ?_) (fun aoO => ?_)
      . refine J.c (.move rfl) (J.c (.leq) (J.c (.bS rfl rfl) (J.c (.move rfl) ?_))); refine J.iW (x := 19) rfl (fun aoP => ?_) (fun aoP => ?_)
        . refine J.skip (J.skip (J.skip (J.skip ?_))); refine J.skip (J.skip (J.c (.bS rfl rfl) (J.c (.assign rfl) ?_))); refine J.nil ?_; exact ⟨⟨rfl, rfl, rfl, qA rfl (by rw [Bool.eq_iff_iff]; simp [lK] <;> omega), rfl, trivial⟩, rfl⟩
        refine J.c (.move rfl) (J.c (.geq) (J.c (.move rfl) ?_)); refine J.cg (r := decide ((97 : Int) <= (((Utf8.decode s p).1 : Nat) : Int))) (w := true) [] trivial (fun _ => (.move rfl)) ?_; refine J.cg (r := decide ((97 : Int) <= (((Utf8.decode s p).1 : Nat) : Int))) (w := true) [(23, .v (.int .i32) (((Utf8.decode s p).1 : Nat) : Int))] ⟨rfl, trivial⟩ (fun _ => (.leq)) ?_; refine J.c (.and) (J.c (.aU rfl rfl) (J.c (.assign rfl) ?_)); refine J.nil ?_; exact ⟨⟨rfl, rfl, rfl, qA rfl (by rw [Bool.eq_iff_iff]; simp [lK] <;> omega), rfl, trivial⟩, rfl⟩
      refine J.skip (J.skip (J.c (.aU rfl rfl) (J.c (.move rfl) ?_))); refine J.c (.move rfl) (J.c (.geq) (J.c (.move rfl) ?_)); refine J.cg (r := decide ((97 : Int) <= (((Utf8.decode s p).1 : Nat) : Int))) (w := true) [] trivial (fun _ => (.move rfl)) ?_; refine J.cg (r := decide ((97 : Int) <= (((Utf8.decode s p).1 : Nat) : Int))) (w := true) [(23, .v (.int .i32) (((Utf8.decode s p).1 : Nat) : Int))] ⟨rfl, trivial⟩ (fun _ => (.leq)) ?_; refine J.c (.and) (J.c (.aU rfl rfl) (J.c (.assign rfl) ?_)); refine J.nil ?_; exact ⟨⟨rfl, rfl, rfl, qA rfl (by rw [Bool.eq_iff_iff]; simp [lK] <;> omega), rfl, trivial⟩, rfl⟩
    refine U.seq ?_; refine U.join [(0, St s), (3, I ((p : Nat) : Int)), (5, B (lK ((Utf8.decode s p).1 : Nat))), (6, B (pE ((Utf8.decode s p).1 : Nat))), (8, .raw dE)] [(dE, .it s (p + (Utf8.decode s p).2))] ?_ ?_
    . skip
      refine U.text ?_; refine J.c (.move rfl) (J.c (.geq) (J.c (.move rfl) ?_)); refine J.iW (x := 29) rfl (fun aoQ => ?_) (fun aoQ => ?_)
      . refine J.c (.move rfl) (J.c (.leq) (J.c (.bS rfl rfl) (J.c (.move rfl) ?_))); refine J.cg (r := decide ((((Utf8.decode s p).1 : Nat) : Int) <= (57 : Int))) (w := false) [] trivial (fun _ => (.move rfl)) ?_; refine J.cg (r := decide ((((Utf8.decode s p).1 : Nat) : Int) <= (57 : Int))) (w := false) [(34, .v (.int .i32) (((Utf8.decode s p).1 : Nat) : Int))] ⟨rfl, trivial⟩ (fun _ => (.eql)) ?_; refine J.c (.or) (J.c (.assign rfl) ?_); refine J.nil ?_; exact ⟨⟨rfl, rfl, rfl, qA rfl (by rw [Bool.eq_iff_iff]; simp [pE] <;> omega), rfl, trivial⟩, rfl⟩
      refine J.skip (J.skip (J.c (.aU rfl rfl) (J.c (.move rfl) ?_))); refine J.c (.move rfl) (J.c (.eql) (J.c (.aU rfl rfl) (J.c (.assign rfl) ?_))); refine J.nil ?_; exact ⟨⟨rfl, rfl, rfl, qA rfl (by rw [Bool.eq_iff_iff]; simp [pE] <;> omega), rfl, trivial⟩, rfl⟩
    refine U.seq ?_; refine U.join [(0, St s), (8, .raw dE), (46, B (!kD ((Utf8.decode s p).1 : Nat) p))] [(dE, .it s (p + (Utf8.decode s p).2))] ?_ ?_
    . skip
      refine U.text ?_; refine J.c (.move rfl) (J.c (.not) (J.c (.move rfl) ?_)); refine J.splitB (x := 39) rfl (fun ae8 => ?_) (fun ae8 => ?_)
      . try simp only [Bool.and_eq_true, Bool.or_eq_true, Bool.and_eq_false_iff, Bool.or_eq_false_iff, Bool.not_eq_true', Bool.not_eq_false', decide_eq_true_eq, decide_eq_false_iff_not] at ae8
        refine J.c (.move rfl) (J.c (.eql) (J.c (.move rfl) ?_)); refine J.cg (r := decide (((p : Nat) : Int) = (0 : Int))) (w := false) [] trivial (fun _ => (.move rfl)) ?_; refine J.cg (r := decide (((p : Nat) : Int) = (0 : Int))) (w := false) [(43, B (pE ((Utf8.decode s p).1 : Nat)))] ⟨rfl, trivial⟩ (fun _ => (.not)) ?_; refine J.c (.or) (J.c (.bS rfl rfl) ?_); refine J.nil ?_; exact ⟨⟨rfl, rfl, qA rfl (by simp [kD, *]), trivial⟩, rfl⟩
      try simp only [Bool.and_eq_true, Bool.or_eq_true, Bool.and_eq_false_iff, Bool.or_eq_false_iff, Bool.not_eq_true', Bool.not_eq_false', decide_eq_true_eq, decide_eq_false_iff_not] at ae8
      refine J.skip (J.skip (J.skip (J.skip ?_))); refine J.skip (J.skip (J.c (.aU rfl rfl) ?_)); refine J.nil ?_; exact ⟨⟨rfl, rfl, qA rfl (by simp [kD, *]), trivial⟩, rfl⟩
    refine U.fO rfl (fun c6 => ?_) (fun c6 => ?_)
    . try simp only [Bool.and_eq_true, Bool.or_eq_true, Bool.and_eq_false_iff, Bool.or_eq_false_iff, Bool.not_eq_true', Bool.not_eq_false', decide_eq_true_eq, decide_eq_false_iff_not] at c6
      refine U.seq (U.text ?_); refine J.c (.assign rfl) (J.go ?_); refine U.ret ?_; exact aR.one rfl aZ (dV (by exact SX akD (aj5 c6)))
    try simp only [Bool.and_eq_true, Bool.or_eq_true, Bool.and_eq_false_iff, Bool.or_eq_false_iff, Bool.not_eq_true', Bool.not_eq_false', decide_eq_true_eq, decide_eq_false_iff_not] at c6
    refine U.skip ?_; refine ⟨_, [(0, St s), (8, .raw dE)], ?_, ⟨rfl, rfl, trivial⟩, (p + 1), rfl, rfl, (by rw [(YG c6).2]), (by omega), (by intro i hi; rcases Nat.lt_succ_iff_lt_or_eq.1 hi with h | h; exact hq i h; subst h; exact (YG c6).1)⟩; omega
  refine J.c (.akC) ?_; refine J.go (U.seq ?_); refine U.eB rfl ?_; refine U.exit (U.seq (U.text ?_)); refine J.c (.move rfl) (J.c (.MN) (J.c (.move rfl) ?_)); refine J.cg (r := decide (s ≠ ByteArray.empty)) (w := true) [] trivial (fun _ => (.move rfl)) ?_; refine J.rg (r := decide (s ≠ ByteArray.empty)) (w := true) [(50, St s)] ⟨rfl, trivial⟩ (fun _ => (.gU)) ?_; refine J.cg (r := decide (s ≠ ByteArray.empty)) (w := true) [(51, I ((s.size : Nat) : Int))] ⟨rfl, trivial⟩ (fun _ => (.leq)) ?_; refine J.c (.and) (J.c (.assign rfl) (J.go ?_)); refine U.ret ?_; exact aR.one rfl aZ (dV (by exact ab3 (fun i hi => hq i (by omega))))
theorem F1 {s : ByteArray} : VF Tryz.prog OA 103 [St s] (B (iL s)) := by
  refine VF.enter Tryz.func103 rfl (fun _ _ => rfl) rfl ?_; show U _ _ _ _ _ [(0, St s)] [] _; refine U.seq (U.text ?_); refine J.c (.assign rfl) ?_; refine J.go (U.seq (U.seq (U.text ?_))); refine J.c (.move rfl) ?_; refine J.r (.gU) ?_; refine J.c (.eql) (J.c (.move rfl) ?_); refine J.cg (r := decide (((s.size : Nat) : Int) = (0 : Int))) (w := false) [] trivial (fun _ => (.move rfl)) ?_; refine J.rg (r := decide (((s.size : Nat) : Int) = (0 : Int))) (w := false) [(9, St s)] ⟨rfl, trivial⟩ (fun _ => (.gU)) ?_; refine J.cg (r := decide (((s.size : Nat) : Int) = (0 : Int))) (w := false) [(10, I ((s.size : Nat) : Int))] ⟨rfl, trivial⟩ (fun _ => (.gtr)) ?_; refine J.c (.or) (J.go ?_); refine U.fO rfl (fun c1 => ?_) (fun c1 => ?_)
  . try simp only [Bool.and_eq_true, Bool.or_eq_true, Bool.and_eq_false_iff, Bool.or_eq_false_iff, Bool.not_eq_true', Bool.not_eq_false', decide_eq_true_eq, decide_eq_false_iff_not] at c1
    refine U.seq (U.text ?_); refine J.c (.assign rfl) (J.go ?_); refine U.ret ?_; exact aR.one rfl aZ (dV (by exact (decide_eq_false fun hh => by have := hh.1; have := hh.2.1; omega).symm))
  try simp only [Bool.and_eq_true, Bool.or_eq_true, Bool.and_eq_false_iff, Bool.or_eq_false_iff, Bool.not_eq_true', Bool.not_eq_false', decide_eq_true_eq, decide_eq_false_iff_not] at c1
  refine U.skip (U.seq (U.seq (U.text ?_))); refine J.c (.assign rfl) ?_; refine J.go (U.block ?_); refine U.keep [(0, St s), (3, I ((0 : Nat) : Int))] ⟨rfl, rfl, trivial⟩ ?_; refine U.loop (I := fun kk ff ss => ∃ (i : Nat), kk = s.size - i /\ ff = [(0, St s), (3, I ((i : Nat) : Int))] /\ ss = [] /\ (i <= s.size) /\ (∀ k, k < i -> kD (bV s k) k = true)) ?_ _ _ _ ⟨0, rfl, rfl, rfl, Nat.zero_le _, (by intro k hk; omega)⟩; rintro kk ff ss ⟨i, kI, rfl, rfl, hi, hq⟩; refine U.seq (U.seq (U.text ?_)); refine J.c (.move rfl) (J.c (.move rfl) ?_); refine J.r (.gU) ?_; refine J.c (.lss) (J.go ?_); refine U.aM rfl (fun c4 => ?_) (fun c4 => ?_)
  . refine U.skip (U.seq (U.block (U.seq (U.text ?_)))); refine J.c (.move rfl) (J.c (.move rfl) (J.c (.PH rfl rfl (by omega) (by omega)) (J.c (.assign rfl) ?_))); refine J.go (U.seq (U.seq ?_)); refine U.join [(0, St s), (3, I ((i : Nat) : Int)), (4, .v (.int .u8) (bV s ((i : Nat) : Int))), (35, B (lK (bV s i)))] [] ?_ ?_
    . skip
      refine U.text ?_; refine J.c (.move rfl) (J.c (.geq) (J.c (.move rfl) ?_)); refine J.iW (x := 24) rfl (fun aoR => ?_) (fun aoR => ?_)
      . refine J.c (.move rfl) (J.c (.leq) (J.c (.bS rfl rfl) (J.c (.move rfl) ?_))); refine J.iW (x := 28) rfl (fun aoS => ?_) (fun aoS => ?_)
        . refine J.skip (J.skip (J.skip (J.skip ?_))); refine J.skip (J.skip (J.c (.bS rfl rfl) ?_)); refine J.nil ?_; exact ⟨⟨rfl, rfl, rfl, qA rfl (by rw [Bool.eq_iff_iff]; simp [lK] <;> omega), trivial⟩, rfl⟩
        refine J.c (.move rfl) (J.c (.geq) (J.c (.move rfl) ?_)); refine J.cg (r := decide ((65 : Int) <= (bV s ((i : Nat) : Int)))) (w := true) [] trivial (fun _ => (.move rfl)) ?_; refine J.cg (r := decide ((65 : Int) <= (bV s ((i : Nat) : Int)))) (w := true) [(32, .v (.int .u8) (bV s ((i : Nat) : Int)))] ⟨rfl, trivial⟩ (fun _ => (.leq)) ?_; refine J.c (.and) (J.c (.aU rfl rfl) ?_); refine J.nil ?_; exact ⟨⟨rfl, rfl, rfl, qA rfl (by rw [Bool.eq_iff_iff]; simp [lK] <;> omega), trivial⟩, rfl⟩
      refine J.skip (J.skip (J.c (.aU rfl rfl) (J.c (.move rfl) ?_))); refine J.c (.move rfl) (J.c (.geq) (J.c (.move rfl) ?_)); refine J.cg (r := decide ((65 : Int) <= (bV s ((i : Nat) : Int)))) (w := true) [] trivial (fun _ => (.move rfl)) ?_; refine J.cg (r := decide ((65 : Int) <= (bV s ((i : Nat) : Int)))) (w := true) [(32, .v (.int .u8) (bV s ((i : Nat) : Int)))] ⟨rfl, trivial⟩ (fun _ => (.leq)) ?_; refine J.c (.and) (J.c (.aU rfl rfl) ?_); refine J.nil ?_; exact ⟨⟨rfl, rfl, rfl, qA rfl (by rw [Bool.eq_iff_iff]; simp [lK] <;> omega), trivial⟩, rfl⟩
    refine U.fO rfl (fun c7 => ?_) (fun c7 => ?_)
    . have bD : kD (bV s i) i = true := by rw [kD, c7] <;> rfl
      refine U.exit (U.text ?_); refine J.c (.move rfl) (J.c (.add rfl rfl (by omega)) (J.c (.assign rfl) ?_)); refine J.nil ?_; refine ⟨_, [(0, St s), (3, I (((i + 1) : Nat) : Int))], ?_, ⟨rfl, rfl, trivial⟩, (i + 1), rfl, rfl, rfl, (by omega), (by intro k hk; rcases Nat.lt_succ_iff_lt_or_eq.1 hk with h | h; exact hq k h; subst h; exact bD)⟩; omega
    refine U.skip (U.seq ?_); refine U.join [(0, St s), (3, I ((i : Nat) : Int)), (49, B (!(decide (i ≠ 0) && pE (bV s i))))] [] ?_ ?_
    . skip
      refine U.text ?_; refine J.c (.move rfl) (J.c (.eql) (J.c (.move rfl) ?_)); refine J.iW (x := 38) rfl (fun aoT => ?_) (fun aoT => ?_)
      . refine J.skip (J.skip (J.skip (J.skip ?_))); refine J.skip (J.skip (J.skip (J.skip ?_))); refine J.skip (J.skip (J.c (.bS rfl rfl) ?_)); refine J.nil ?_; exact ⟨⟨rfl, rfl, qA rfl (by rw [Bool.eq_iff_iff]; simp [pE] <;> omega), trivial⟩, rfl⟩
      refine J.c (.move rfl) (J.c (.neq) (J.c (.move rfl) ?_)); refine J.iW (x := 41) rfl (fun aoU => ?_) (fun aoU => ?_)
      . refine J.c (.move rfl) (J.c (.lss) (J.c (.move rfl) ?_)); refine J.cg (r := decide ((bV s ((i : Nat) : Int)) < (48 : Int))) (w := false) [] trivial (fun _ => (.move rfl)) ?_; refine J.cg (r := decide ((bV s ((i : Nat) : Int)) < (48 : Int))) (w := false) [(45, .v (.int .u8) (bV s ((i : Nat) : Int)))] ⟨rfl, trivial⟩ (fun _ => (.gtr)) ?_; refine J.c (.or) (J.c (.bS rfl rfl) (J.c (.aU rfl rfl) ?_)); refine J.nil ?_; exact ⟨⟨rfl, rfl, qA rfl (by rw [Bool.eq_iff_iff]; simp [pE] <;> omega), trivial⟩, rfl⟩
      refine J.skip (J.skip (J.skip (J.skip ?_))); refine J.skip (J.skip (J.c (.aU rfl rfl) (J.c (.aU rfl rfl) ?_))); refine J.nil ?_; exact ⟨⟨rfl, rfl, qA rfl (by rw [Bool.eq_iff_iff]; simp [pE] <;> omega), trivial⟩, rfl⟩
    refine U.fO rfl (fun c8 => ?_) (fun c8 => ?_)
    . try simp only [Bool.and_eq_true, Bool.or_eq_true, Bool.and_eq_false_iff, Bool.or_eq_false_iff, Bool.not_eq_true', Bool.not_eq_false', decide_eq_true_eq, decide_eq_false_iff_not] at c8
      refine U.seq (U.text ?_); refine J.c (.assign rfl) (J.go ?_); refine U.ret ?_; exact aR.one rfl aZ (dV (by exact SX (i := i) (by omega) (by simp only [kD, c7, Bool.false_or, Bool.and_eq_false_iff, decide_eq_false_iff_not]; exact c8)))
    try simp only [Bool.and_eq_true, Bool.or_eq_true, Bool.and_eq_false_iff, Bool.or_eq_false_iff, Bool.not_eq_true', Bool.not_eq_false', decide_eq_true_eq, decide_eq_false_iff_not] at c8
    have bD : kD (bV s i) i = true := by simp [kD, *]
    refine U.skip (U.text ?_); refine J.c (.move rfl) (J.c (.add rfl rfl (by omega)) (J.c (.assign rfl) ?_)); refine J.nil ?_; refine ⟨_, [(0, St s), (3, I (((i + 1) : Nat) : Int))], ?_, ⟨rfl, rfl, trivial⟩, (i + 1), rfl, rfl, rfl, (by omega), (by intro k hk; rcases Nat.lt_succ_iff_lt_or_eq.1 hk with h | h; exact hq k h; subst h; exact bD)⟩; omega
  refine U.exit (U.seq (U.text ?_)); refine J.c (.assign rfl) (J.go ?_); refine U.ret ?_; exact aR.one rfl aZ (dV (by exact ae7 (by omega) (by omega) (fun k hk => hq k (by omega))))
theorem WI {s : ByteArray} : VF Tryz.prog OA 100 [St s] (I (bH (!iL s) 8)) := by
  refine VF.enter Tryz.func100 rfl (fun _ _ => rfl) rfl ?_; show U _ _ _ _ _ [(0, St s)] [] _; refine U.seq (U.text ?_); refine J.c (.assign rfl) ?_; refine J.go (U.seq (U.seq (U.text ?_))); refine J.c (.move rfl) ?_; refine J.call rfl rfl (VF.call (F1 )) ?_; refine J.c (.not) (J.go ?_); refine U.fO rfl (fun c1 => ?_) (fun c1 => ?_)
  . try simp only [Bool.and_eq_true, Bool.or_eq_true, Bool.and_eq_false_iff, Bool.or_eq_false_iff, Bool.not_eq_true', Bool.not_eq_false', decide_eq_true_eq, decide_eq_false_iff_not] at c1
    refine U.seq (U.text ?_); refine J.c (.assign rfl) (J.go ?_); refine U.ret ?_; exact aR.one rfl aZ (cY (by simp [bH, *]))
  try simp only [Bool.and_eq_true, Bool.or_eq_true, Bool.and_eq_false_iff, Bool.or_eq_false_iff, Bool.not_eq_true', Bool.not_eq_false', decide_eq_true_eq, decide_eq_false_iff_not] at c1
  refine U.skip (U.seq (U.text ?_)); refine J.c (.assign rfl) (J.go ?_); refine U.ret ?_; exact aR.one rfl aZ (cY (by simp [bH, *]))
end Go.Proofs
namespace Go.Proofs
open Go.Fs
theorem GK : ∀ xs ys : List Int, bQ (xs ++ ys) = if bQ xs = 0 then bQ ys else bQ xs
  | [], ys => by simp [bQ]
  | x :: xs, ys => by
    have e1 : bQ (x :: xs ++ ys) = if x = 0 then bQ (xs ++ ys) else x := rfl; have e2 : bQ (x :: xs) = if x = 0 then bQ xs else x := rfl; by_cases h : x = 0
    . rw [if_pos h] at e1 e2; rw [e1, e2]; exact GK xs ys
    rw [if_neg h] at e1 e2; rw [e1, e2, if_neg h]
theorem GL {x : Int} : bQ [x] = x := by
  simp only [bQ]; by_cases h : x = 0 <;> simp [h]
theorem oH {x y : Int} : bQ [x, y] = if x = 0 then y else x := by
  show (if x = 0 then bQ [y] else x) = _; rw [GL]
theorem l3 {l : List Int} : bQ l = 0 ↔ ∀ x ∈ l, x = 0 := by
  induction l with
  | nil => simp [bQ]
  | cons x l ih => by_cases h : x = 0 <;> simp [bQ, h, ih]
theorem PL {s : ByteArray} : VF Tryz.prog OA 87 [St s] (I (bH (!iL s) 8)) := by
  refine VF.enter Tryz.func87 rfl (fun _ _ => rfl) rfl ?_; show U _ _ _ _ _ [(0, St s)] [] _; refine U.seq (U.text ?_); refine J.c (.assign rfl) ?_; refine J.go (U.seq (U.text ?_)); refine J.c (.move rfl) ?_; refine J.call rfl rfl (VF.call (ab4 )) ?_; refine J.c (.not) ?_; refine J.call rfl rfl (VF.call (jQ )) ?_; refine J.c (.assign rfl) (J.go ?_); refine U.ret ?_; exact aR.one rfl aZ (cY (by rfl))
end Go.Proofs
namespace Go.Proofs
open Go.Fs
theorem cJ : fN Tryz.prog 9 .str := fD (by kernel_rfl)
theorem gL : fN Tryz.prog 48 (.sl .str) := fD (by kernel_rfl)
theorem b8 : kB Tryz.prog 48 9 .str := qQ (by kernel_rfl)
def gV {α : Type} (F : α -> Bool) : List α -> Int -> Int
  | [], _ => -1
  | x :: l, k => if F x = true then k else gV F l (k + 1)
theorem mK {α : Type} {F : α -> Bool} {l : List α} {j : Nat} (hj : j < l.length) : gV F (l.drop j) (j : Nat) = if F l[j] = true then ((j : Nat) : Int) else gV F (l.drop (j + 1)) ((j + 1 : Nat) : Int) := by
  rw [List.drop_eq_getElem_cons hj] <;> rfl
theorem zI {α : Type} {F : α -> Bool} {l : List α} {j : Nat} {k : Int} (hj : l.length <= j) : gV F (l.drop j) k = -1 := by rw [List.drop_eq_nil_of_le hj] <;> rfl
theorem zJ {α : Type} {F : α -> Bool} : ∀ {l : List α} {k : Int}, 0 <= k -> ((0 <= gV F l k) ↔ l.any F = true)
  | [], k, _ => by simp [gV]
  | x :: l, k, h => by
    unfold gV; rw [List.any_cons]; by_cases hx : F x = true
    . rw [if_pos hx, hx]; simp [h]
    rw [if_neg hx, zJ (l := l) (by omega)]; simp [hx]
theorem MQ {α : Type} {F : α -> Bool} {l : List α} {j : Nat} (hj : j < l.length) : (l.drop j).any F = (F l[j] || (l.drop (j + 1)).any F) := by
  rw [List.drop_eq_getElem_cons hj, List.any_cons]
theorem ae9 {α : Type} {F : α -> Bool} {l : List α} {j : Nat} (hj : l.length <= j) : (l.drop j).any F = false := by rw [List.drop_eq_nil_of_le hj] <;> rfl
theorem WJ {l : List ByteArray} {v : ByteArray} (hl : l.length < 1000000) : VF Tryz.prog OA 124 [.v (.sl .str) l, St v] (I (gV (fun x => decide (v = x)) l 0)) := by
  refine VF.enter Tryz.func124 rfl (fun _ _ => rfl) rfl ?_; show U _ _ _ _ _ [(0, .v (.sl .str) l), (1, St v)] [] _; refine U.seq (U.text ?_); refine J.c (.assign rfl) ?_; refine J.go (U.seq (U.seq (U.text ?_))); refine J.c (.move rfl) ?_; refine J.r (.len b8) ?_; refine J.c (.move rfl) ?_; refine J.go (U.block ?_); refine U.keep [(0, .v (.sl .str) l), (1, St v), (7, I ((l.length : Nat) : Int)), (8, I ((0 : Nat) : Int))] ⟨rfl, rfl, rfl, rfl, trivial⟩ ?_; refine U.loop (I := fun kk ff ss => ∃ (j : Nat), kk = l.length - j /\ ff = [(0, .v (.sl .str) l), (1, St v), (7, I ((l.length : Nat) : Int)), (8, I ((j : Nat) : Int))] /\ ss = [] /\ (j <= l.length) /\ (gV (fun x => decide (v = x)) l 0 = gV (fun x => decide (v = x)) (l.drop j) (j : Nat))) ?_ _ _ _ ⟨0, rfl, rfl, rfl, Nat.zero_le _, (by rfl)⟩; rintro kk ff ss ⟨j, kI, rfl, rfl, hj, hi⟩; refine U.seq (U.text ?_); refine J.c (.lss) ?_; refine J.go (U.seq ?_); refine U.aM rfl (fun c2 => ?_) (fun c2 => ?_)
  . refine U.skip (U.seq (U.block (U.seq (U.text ?_)))); refine J.c (.move rfl) (J.c (.assign rfl) ?_); refine J.go (U.seq (U.text ?_)); refine J.c (.move rfl) (J.c (.move rfl) (J.c (.move rfl) (J.c (.ix (j := j) rfl rfl b8 (by omega)) ?_))); refine J.r (.ld cJ) ?_; refine J.c (.sT) (J.go ?_); refine U.aM rfl (fun c4 => ?_) (fun c4 => ?_)
    . refine U.seq (U.text ?_); refine J.c (.move rfl) (J.c (.assign rfl) (J.go ?_)); refine U.ret ?_; exact aR.one rfl aZ (cY (by rw [hi, mK (by omega), if_pos (by simpa using c4)]))
    refine U.skip (U.text ?_); refine J.c (.add rfl rfl (by omega)) (J.c (.move rfl) ?_); refine J.nil ?_; refine ⟨_, [(0, .v (.sl .str) l), (1, St v), (7, I ((l.length : Nat) : Int)), (8, I (((j + 1) : Nat) : Int))], ?_, ⟨rfl, rfl, rfl, rfl, trivial⟩, (j + 1), rfl, rfl, rfl, (by omega), (by rw [hi, mK (by omega), if_neg (by simpa using c4)])⟩; omega
  refine U.exit (U.seq (U.text ?_)); refine J.c (.assign rfl) (J.go ?_); refine U.ret ?_; exact aR.one rfl aZ (cY (by rw [hi, zI (by omega)]))
def hasB (l : List ByteArray) (v : ByteArray) : Bool := l.any fun x => decide (x = v)
theorem WK {l : List ByteArray} {v : ByteArray} : (l.any fun x => decide (v = x)) = hasB l v := by
  unfold hasB; congr 1; funext x; exact decide_eq_decide.2 ⟨Eq.symm, Eq.symm⟩
theorem LN {l : List ByteArray} {v : ByteArray} (hl : l.length < 1000000) : VF Tryz.prog OA 78 [.v (.sl .str) l, St v] (B (hasB l v)) := by
  refine VF.enter Tryz.func78 rfl (fun _ _ => rfl) rfl ?_; show U _ _ _ _ _ [(0, .v (.sl .str) l), (1, St v)] [] _; refine U.seq (U.text ?_); refine J.c (.assign rfl) ?_; refine J.go (U.seq (U.text ?_)); refine J.c (.move rfl) (J.c (.move rfl) ?_); refine J.call rfl rfl (VF.call (WJ hl)) ?_; refine J.c (.geq) (J.c (.assign rfl) (J.go ?_)); refine U.ret ?_; exact aR.one rfl aZ (dV (by have h9 := zJ (F := fun x => decide (v = x)) (l := l) (k := 0) (by omega); rw [WK] at h9; cases h8 : hasB l v <;> simp_all))
theorem SY {l : List ByteArray} {s : ByteArray} (hl : l.length < 1000000) : VF Tryz.prog OA 106 [.v (.sl .str) l, St s] (B (hasB l s)) := by
  refine VF.enter Tryz.func106 rfl (fun _ _ => rfl) rfl ?_; show U _ _ _ _ _ [(0, .v (.sl .str) l), (1, St s)] [] _; refine U.seq (U.text ?_); refine J.c (.assign rfl) ?_; refine J.go (U.seq (U.seq (U.text ?_))); refine J.c (.assign rfl) ?_; refine J.go (U.block ?_); refine U.keep [(0, .v (.sl .str) l), (1, St s), (5, I ((0 : Nat) : Int))] ⟨rfl, rfl, rfl, trivial⟩ ?_; refine U.loop (I := fun kk ff ss => ∃ (j : Nat), kk = l.length - j /\ ff = [(0, .v (.sl .str) l), (1, St s), (5, I ((j : Nat) : Int))] /\ ss = [] /\ (j <= l.length) /\ (hasB l s = hasB (l.drop j) s)) ?_ _ _ _ ⟨0, rfl, rfl, rfl, Nat.zero_le _, (by rfl)⟩; rintro kk ff ss ⟨j, kI, rfl, rfl, hj, hi⟩; refine U.seq (U.seq (U.text ?_)); refine J.c (.move rfl) (J.c (.move rfl) ?_); refine J.r (.len b8) ?_; refine J.c (.lss) (J.go ?_); refine U.aM rfl (fun c2 => ?_) (fun c2 => ?_)
  . refine U.skip (U.seq (U.block (U.seq (U.text ?_)))); refine J.c (.move rfl) (J.c (.move rfl) (J.c (.ix (j := j) rfl rfl b8 (by omega)) ?_)); refine J.r (.ld cJ) ?_; refine J.c (.move rfl) (J.c (.sT) (J.go ?_)); refine U.aM rfl (fun c4 => ?_) (fun c4 => ?_)
    . refine U.seq (U.text ?_); refine J.c (.assign rfl) (J.go ?_); refine U.ret ?_; exact aR.one rfl aZ (dV (by rw [hi, hasB, MQ (by omega), decide_eq_true c4] <;> rfl))
    refine U.skip (U.text ?_); refine J.c (.move rfl) (J.c (.add rfl rfl (by omega)) (J.c (.assign rfl) ?_)); refine J.nil ?_; refine ⟨_, [(0, .v (.sl .str) l), (1, St s), (5, I (((j + 1) : Nat) : Int))], ?_, ⟨rfl, rfl, rfl, trivial⟩, (j + 1), rfl, rfl, rfl, (by omega), (by rw [hi, hasB, MQ (by omega), decide_eq_false c4] <;> rfl)⟩; omega
  refine U.exit (U.seq (U.text ?_)); refine J.c (.assign rfl) (J.go ?_); refine U.ret ?_; exact aR.one rfl aZ (dV (by rw [hi, hasB, ae9 (by omega)]))
end Go.Proofs
namespace Go.Proofs
open Go.Fs
theorem jZ {α : Type} {F : α -> Bool} {l : List α} {j : Nat} (hj : j < l.length) : (l.drop j).all F = (F l[j] && (l.drop (j + 1)).all F) := by
  rw [List.drop_eq_getElem_cons hj, List.all_cons]
def mX (l : List ByteArray) : Bool := l.all fun w => decide (w.size <= 60)
theorem WL {l : List ByteArray} (hl : l.length < 1000000) : VF Tryz.prog OA 17 [.v (.sl .str) l] (B (mX l)) := by
  refine VF.enter Tryz.func17 rfl (fun _ _ => rfl) rfl ?_; show U _ _ _ _ _ [(0, .v (.sl .str) l)] [] _; refine U.seq (U.text ?_); refine J.c (.assign rfl) ?_; refine J.go (U.seq (U.seq (U.text ?_))); refine J.c (.assign rfl) ?_; refine J.go (U.block ?_); refine U.keep [(0, .v (.sl .str) l), (3, I ((0 : Nat) : Int))] ⟨rfl, rfl, trivial⟩ ?_; refine U.loop (I := fun kk ff ss => ∃ (j : Nat), kk = l.length - j /\ ff = [(0, .v (.sl .str) l), (3, I ((j : Nat) : Int))] /\ ss = [] /\ (j <= l.length) /\ (mX l = mX (l.drop j))) ?_ _ _ _ ⟨0, rfl, rfl, rfl, Nat.zero_le _, (by rfl)⟩; rintro kk ff ss ⟨j, kI, rfl, rfl, hj, hi⟩; refine U.seq (U.seq (U.text ?_)); refine J.c (.move rfl) (J.c (.move rfl) ?_); refine J.r (.len b8) ?_; refine J.c (.lss) (J.go ?_); refine U.aM rfl (fun c2 => ?_) (fun c2 => ?_)
  . refine U.skip (U.seq (U.block (U.seq (U.text ?_)))); refine J.c (.move rfl) (J.c (.move rfl) (J.c (.ix (j := j) rfl rfl b8 (by omega)) ?_)); refine J.r (.ld cJ) ?_; refine J.r (.gU) ?_; refine J.c (.gtr) (J.go ?_); refine U.aM rfl (fun c4 => ?_) (fun c4 => ?_)
    . refine U.seq (U.text ?_); refine J.c (.assign rfl) (J.go ?_); refine U.ret ?_; exact aR.one rfl aZ (dV (by rw [hi, mX, jZ (by omega), decide_eq_false (by omega)] <;> rfl))
    refine U.skip (U.text ?_); refine J.c (.move rfl) (J.c (.add rfl rfl (by omega)) (J.c (.assign rfl) ?_)); refine J.nil ?_; refine ⟨_, [(0, .v (.sl .str) l), (3, I (((j + 1) : Nat) : Int))], ?_, ⟨rfl, rfl, trivial⟩, (j + 1), rfl, rfl, rfl, (by omega), (by rw [hi, mX, jZ (by omega), decide_eq_true (by omega)] <;> rfl)⟩; omega
  refine U.exit (U.seq (U.text ?_)); refine J.c (.assign rfl) (J.go ?_); refine U.ret ?_; exact aR.one rfl aZ (dV (by rw [hi, mX, List.drop_eq_nil_of_le (by omega)] <;> rfl))
theorem JZ {l : List ByteArray} (hl : l.length < 1000000) : VF Tryz.prog OA 47 [.v (.sl .str) l] (.v (.sl .str) l) := by
  refine VF.enter Tryz.func47 rfl (fun _ _ => rfl) rfl ?_; show U _ _ _ _ _ [(0, .v (.sl .str) l)] [] _; refine U.seq (U.text ?_); refine J.c (.assign rfl) ?_; refine J.go (U.seq (U.text ?_)); refine J.cell (.aoF b8) ?_; intro dE; refine J.c (.move rfl) ?_; refine J.app rfl rfl b8 b8 (by simp; omega) ?_; intro kJ; refine J.c (.assign rfl) (J.go ?_); refine U.ret ?_; exact aR.one rfl (evC (.row m0)) (dV (by rfl))
end Go.Proofs
namespace Go.Proofs
open Go.Fs
abbrev mL : Ty := (.sl (.pair .str (.int .i64)))
abbrev sU : Ty := (.sl (.pair .str (.pair .bool (.sl .str))))
abbrev bT : Ty := (.pair (.sl (.pair .str (.int .i64))) (.pair (.sl (.pair .str (.sl (.pair .str (.int .i64))))) (.sl (.pair .str (.pair .bool (.sl .str))))))
abbrev pQ : Ty := (.sl (.pair .str (.int .i64)))
abbrev F2 : Ty := (.sl (.pair .str (.pair .bool (.sl .str))))
abbrev kF : Ty := (.pair (.sl (.pair .str (.int .i64))) (.pair (.sl (.pair .str (.sl (.pair .str (.int .i64))))) (.sl (.pair .str (.pair .bool (.sl .str))))))
abbrev o5 : Ty := (.pair .str (.int .i64))
abbrev rO : Ty := (.pair .str (.pair .bool (.sl .str)))
theorem jD : fN Tryz.prog 23 (.sl (.pair .str (.sl (.pair .str (.int .i64))))) := fD (by kernel_rfl)
theorem sV : fN Tryz.prog 32 pQ := fD (by kernel_rfl)
theorem x4 : fN Tryz.prog 34 F2 := fD (by kernel_rfl)
theorem n9 : fN Tryz.prog 98 o5 := fD (by kernel_rfl)
theorem yC : fN Tryz.prog 102 rO := fD (by kernel_rfl)
theorem eC : kB Tryz.prog 22 52 (.pair .str (.int .i64)) := qQ (by kernel_rfl)
theorem iD : kB Tryz.prog 23 54 (.pair .str (.sl (.pair .str (.int .i64)))) := qQ (by kernel_rfl)
theorem fJ : kB Tryz.prog 24 56 (.pair .str (.pair .bool (.sl .str))) := qQ (by kernel_rfl)
theorem l4 : kB Tryz.prog 32 98 o5 := qQ (by kernel_rfl)
theorem r3 : kB Tryz.prog 34 102 rO := qQ (by kernel_rfl)
abbrev fV := ByteArray × Int
abbrev vD := ByteArray × List fV
abbrev D3 := ByteArray × Bool × List ByteArray
abbrev dG := List fV × List vD × List D3
theorem aeA {n : Int} : VF Tryz.prog OA 16 [I n] (B (decide (n <= 8) || decide (n = 65))) := by
  refine VF.enter Tryz.func16 rfl (fun _ _ => rfl) rfl ?_; show U _ _ _ _ _ [(0, I n)] [] _; refine U.seq (U.text ?_); refine J.c (.assign rfl) ?_; refine J.go (U.seq (U.text ?_)); refine J.c (.move rfl) (J.c (.leq) (J.c (.move rfl) ?_)); refine J.cg (r := decide (n <= (8 : Int))) (w := false) [] trivial (fun _ => (.move rfl)) ?_; refine J.cg (r := decide (n <= (8 : Int))) (w := false) [(6, I n)] ⟨rfl, trivial⟩ (fun _ => (.eql)) ?_; refine J.c (.or) (J.c (.assign rfl) (J.go ?_)); refine U.ret ?_; exact aR.one rfl aZ (dV (by rfl))
def fZ (l : List fV) (s : ByteArray) : Int := gV (fun v => decide (v.1 = s)) l 0
def lD (l : List vD) (s : ByteArray) : Int := gV (fun v => decide (v.1 = s)) l 0
def nT (l : List D3) (s : ByteArray) : Int := gV (fun v => decide (v.1 = s)) l 0
theorem BA {l : List (ByteArray × Int)} {s : ByteArray} (hl : l.length < 1000000) : VF Tryz.prog OA 102 [.v mL l, St s] (I (fZ l s)) := by
  refine VF.enter Tryz.func102 rfl (fun _ _ => rfl) rfl ?_; show U _ _ _ _ _ [(0, .v mL l), (1, St s)] [] _; refine U.seq (U.text ?_); refine J.c (.assign rfl) ?_; refine J.go (U.seq (U.seq (U.text ?_))); refine J.c (.assign rfl) ?_; refine J.go (U.block ?_); refine U.keep [(0, .v mL l), (1, St s), (5, I ((0 : Nat) : Int))] ⟨rfl, rfl, rfl, trivial⟩ ?_; refine U.loop (I := fun kk ff ss => ∃ (j : Nat), kk = l.length - j /\ ff = [(0, .v mL l), (1, St s), (5, I ((j : Nat) : Int))] /\ ss = [] /\ (j <= l.length) /\ (fZ l s = gV (fun v => decide (v.1 = s)) (l.drop j) (j : Nat))) ?_ _ _ _ ⟨0, rfl, rfl, rfl, Nat.zero_le _, (by rfl)⟩; rintro kk ff ss ⟨j, kI, rfl, rfl, hj, hi⟩; refine U.seq (U.seq (U.text ?_)); refine J.c (.move rfl) (J.c (.move rfl) ?_); refine J.r (.len eC) ?_; refine J.c (.lss) (J.go ?_); refine U.aM rfl (fun c2 => ?_) (fun c2 => ?_)
  . refine U.skip (U.seq (U.block (U.seq (U.text ?_)))); refine J.c (.move rfl) (J.c (.move rfl) (J.c (.ix (j := j) rfl rfl eC (by omega)) (J.c (.fa (.l .o)) ?_))); refine J.r (.ld cJ) ?_; refine J.c (.move rfl) (J.c (.sT) (J.go ?_)); refine U.aM rfl (fun c4 => ?_) (fun c4 => ?_)
    . refine U.seq (U.text ?_); refine J.c (.move rfl) (J.c (.assign rfl) (J.go ?_)); refine U.ret ?_; exact aR.one rfl aZ (cY (by rw [hi, mK (by omega), if_pos (by simpa using c4)]))
    refine U.skip (U.text ?_); refine J.c (.move rfl) (J.c (.add rfl rfl (by omega)) (J.c (.assign rfl) ?_)); refine J.nil ?_; refine ⟨_, [(0, .v mL l), (1, St s), (5, I (((j + 1) : Nat) : Int))], ?_, ⟨rfl, rfl, rfl, trivial⟩, (j + 1), rfl, rfl, rfl, (by omega), (by rw [hi, mK (by omega), if_neg (by simpa using c4)])⟩; omega
  refine U.exit (U.seq (U.text ?_)); refine J.c (.assign rfl) (J.go ?_); refine U.ret ?_; exact aR.one rfl aZ (cY (by rw [hi, zI (by omega)]))
theorem F3 {c : (List (ByteArray × Int)) × (List (ByteArray × (List (ByteArray × Int)))) × (List (ByteArray × Bool × (List ByteArray)))} {s : ByteArray} (hl : c.2.1.length < 1000000) : VF Tryz.prog OA 104 [.v bT c, St s] (I (lD c.2.1 s)) := by
  refine VF.enter Tryz.func104 rfl (fun _ _ => rfl) rfl ?_; show U _ _ _ _ _ [(0, .v bT c), (1, St s)] [] _; refine U.seq (U.text ?_); refine J.new (.box) ?_; refine J.c (.assign rfl) ?_; refine J.go (U.seq (U.seq (U.text ?_))); refine J.c (.assign rfl) ?_; refine J.go (U.block ?_); refine U.keep [(1, St s), (2, .p bT c), (5, I ((0 : Nat) : Int))] ⟨rfl, rfl, rfl, trivial⟩ ?_; refine U.loop (I := fun kk ff ss => ∃ (j : Nat), kk = c.2.1.length - j /\ ff = [(1, St s), (2, .p bT c), (5, I ((j : Nat) : Int))] /\ ss = [] /\ (j <= c.2.1.length) /\ (lD c.2.1 s = gV (fun v => decide (v.1 = s)) (c.2.1.drop j) (j : Nat))) ?_ _ _ _ ⟨0, rfl, rfl, rfl, Nat.zero_le _, (by rfl)⟩; rintro kk ff ss ⟨j, kI, rfl, rfl, hj, hi⟩; refine U.seq (U.seq (U.text ?_)); refine J.c (.move rfl) (J.c (.fa (.r (.l .o))) ?_); refine J.r (.ld jD) ?_; refine J.r (.len iD) ?_; refine J.c (.lss) (J.go ?_); refine U.aM rfl (fun c2 => ?_) (fun c2 => ?_)
  . refine U.skip (U.seq (U.block (U.seq (U.text ?_)))); refine J.c (.fa (.r (.l .o))) ?_; refine J.r (.ld jD) ?_; refine J.c (.move rfl) (J.c (.ix (j := j) rfl rfl iD (by omega)) (J.c (.fa (.l .o)) ?_)); refine J.r (.ld cJ) ?_; refine J.c (.move rfl) (J.c (.sT) (J.go ?_)); refine U.aM rfl (fun c4 => ?_) (fun c4 => ?_)
    . refine U.seq (U.text ?_); refine J.c (.move rfl) (J.c (.assign rfl) (J.go ?_)); refine U.ret ?_; exact aR.one rfl aZ (cY (by rw [hi, mK (by omega), if_pos (by simpa using c4)]))
    refine U.skip (U.text ?_); refine J.c (.move rfl) (J.c (.add rfl rfl (by omega)) (J.c (.assign rfl) ?_)); refine J.nil ?_; refine ⟨_, [(1, St s), (2, .p bT c), (5, I (((j + 1) : Nat) : Int))], ?_, ⟨rfl, rfl, rfl, trivial⟩, (j + 1), rfl, rfl, rfl, (by omega), (by rw [hi, mK (by omega), if_neg (by simpa using c4)])⟩; omega
  refine U.exit (U.seq (U.text ?_)); refine J.c (.assign rfl) (J.go ?_); refine U.ret ?_; exact aR.one rfl aZ (cY (by rw [hi, zI (by omega)]))
theorem K0 {l : List (ByteArray × Bool × (List ByteArray))} {s : ByteArray} (hl : l.length < 1000000) : VF Tryz.prog OA 105 [.v sU l, St s] (I (nT l s)) := by
  refine VF.enter Tryz.func105 rfl (fun _ _ => rfl) rfl ?_; show U _ _ _ _ _ [(0, .v sU l), (1, St s)] [] _; refine U.seq (U.text ?_); refine J.c (.assign rfl) ?_; refine J.go (U.seq (U.seq (U.text ?_))); refine J.c (.assign rfl) ?_; refine J.go (U.block ?_); refine U.keep [(0, .v sU l), (1, St s), (5, I ((0 : Nat) : Int))] ⟨rfl, rfl, rfl, trivial⟩ ?_; refine U.loop (I := fun kk ff ss => ∃ (j : Nat), kk = l.length - j /\ ff = [(0, .v sU l), (1, St s), (5, I ((j : Nat) : Int))] /\ ss = [] /\ (j <= l.length) /\ (nT l s = gV (fun v => decide (v.1 = s)) (l.drop j) (j : Nat))) ?_ _ _ _ ⟨0, rfl, rfl, rfl, Nat.zero_le _, (by rfl)⟩; rintro kk ff ss ⟨j, kI, rfl, rfl, hj, hi⟩; refine U.seq (U.seq (U.text ?_)); refine J.c (.move rfl) (J.c (.move rfl) ?_); refine J.r (.len fJ) ?_; refine J.c (.lss) (J.go ?_); refine U.aM rfl (fun c2 => ?_) (fun c2 => ?_)
  . refine U.skip (U.seq (U.block (U.seq (U.text ?_)))); refine J.c (.move rfl) (J.c (.move rfl) (J.c (.ix (j := j) rfl rfl fJ (by omega)) (J.c (.fa (.l .o)) ?_))); refine J.r (.ld cJ) ?_; refine J.c (.move rfl) (J.c (.sT) (J.go ?_)); refine U.aM rfl (fun c4 => ?_) (fun c4 => ?_)
    . refine U.seq (U.text ?_); refine J.c (.move rfl) (J.c (.assign rfl) (J.go ?_)); refine U.ret ?_; exact aR.one rfl aZ (cY (by rw [hi, mK (by omega), if_pos (by simpa using c4)]))
    refine U.skip (U.text ?_); refine J.c (.move rfl) (J.c (.add rfl rfl (by omega)) (J.c (.assign rfl) ?_)); refine J.nil ?_; refine ⟨_, [(0, .v sU l), (1, St s), (5, I (((j + 1) : Nat) : Int))], ?_, ⟨rfl, rfl, rfl, trivial⟩, (j + 1), rfl, rfl, rfl, (by omega), (by rw [hi, mK (by omega), if_neg (by simpa using c4)])⟩; omega
  refine U.exit (U.seq (U.text ?_)); refine J.c (.assign rfl) (J.go ?_); refine U.ret ?_; exact aR.one rfl aZ (cY (by rw [hi, zI (by omega)]))
theorem GM {n : Int} : VF Tryz.prog OA 80 [I n] (I (fI n 0 999)) := by
  refine VF.enter Tryz.func80 rfl (fun _ _ => rfl) rfl ?_; show U _ _ _ _ _ [(0, I n)] [] _; refine U.seq (U.text ?_); refine J.c (.assign rfl) ?_; refine J.go (U.seq (U.text ?_)); refine J.c (.move rfl) ?_; refine J.call rfl rfl (VF.call (SW )) ?_; refine J.c (.assign rfl) (J.go ?_); refine U.ret ?_; exact aR.one rfl aZ (cY (by first | rfl | simp))
end Go.Proofs
namespace Go.Proofs
open Go.Fs
abbrev AG : Ty := (.mp .str (.int .i64))
theorem zt3 : oG Tryz.prog 3 (.int .i64) := kS (z := .int .i64 0) (by kernel_rfl) rfl rfl
theorem AH : oG Tryz.prog 98 o5 := kS (z := .agg #[.string ByteArray.empty, .int .i64 0]) (by kernel_rfl) rfl rfl
theorem WM : AD Tryz.prog 144 .str (.int .i64) := ⟨9, 3, by kernel_rfl, YE (by kernel_rfl), zt3⟩
def dI (f : Nat -> Int) (i n : Nat) : Int := bQ ((List.range' i (n - i)).map f)
theorem bJ {f : Nat -> Int} {i n : Nat} (h : i < n) : dI f i n = if f i = 0 then dI f (i + 1) n else f i := by
  unfold dI; rw [show n - i = (n - (i + 1)) + 1 by omega, List.range'_succ]; rfl
theorem gW {f : Nat -> Int} {i n : Nat} (h : n <= i) : dI f i n = 0 := by
  unfold dI; rw [show n - i = 0 by omega] <;> rfl
theorem sW {α β : Type} [DecidableEq α] : ∀ (m : List (α × β)) (x z : α) (y : β), cT (qY m x y) z = if z = x then some y else cT m z
  | [], x, z, y => by simp [qY, cT]
  | (a, b) :: r, x, z, y => by
    by_cases h : x = a
    . subst h; simp only [qY, if_pos, cT]; by_cases h2 : z = x <;> simp [h2]
    simp only [qY, if_neg h, cT, sW r x z y]; by_cases h2 : z = a
    . subst h2; have : ¬ z = x := fun e => h e.symm; simp [this]
    simp [h2]
def BB (l : List fV) (i : Nat) : fV := l.getD i (ByteArray.empty, 0)
theorem qR {l : List fV} {i : Nat} (h : i < l.length) : BB l i = l[i] := by simp [BB, h]
def qB (l : List fV) (i : Nat) : Int := bQ [bH (!iL (BB l i).1) 8, fI (BB l i).2 0 999, bH (decide (0 <= fZ (l.take i) (BB l i).1)) 9]
def fL (l : List fV) : Int := if 64 < (l.length : Int) then 5 else dI (qB l) 0 l.length
theorem K1 {l : List fV} {i : Nat} (h : i < l.length) : qB l i = if bQ [bH (!iL l[i].1) 8, fI l[i].2 0 999] = 0 then bH (decide (0 <= fZ (l.take i) l[i].1)) 9 else bQ [bH (!iL l[i].1) 8, fI l[i].2 0 999] := by
  unfold qB; rw [qR h]; show bQ ([_, _] ++ [_]) = _; rw [GK, GL]
theorem LO {l : List (ByteArray × Int)} (hl : l.length < 1000000) : VF Tryz.prog OA 52 [.v mL l] (I (fL l)) := by
  refine VF.enter Tryz.func52 rfl (fun _ _ => rfl) rfl ?_; show U _ _ _ _ _ [(0, .v mL l)] [] _; refine U.seq (U.text ?_); refine J.c (.assign rfl) ?_; refine J.go (U.seq (U.seq (U.text ?_))); refine J.c (.move rfl) ?_; refine J.r (.len eC) ?_; refine J.c (.gtr) (J.go ?_); refine U.aM rfl (fun c1 => ?_) (fun c1 => ?_)
  . refine U.seq (U.text ?_); refine J.c (.assign rfl) (J.go ?_); refine U.ret ?_; exact aR.one rfl aZ (cY (by rw [fL, if_pos c1]))
  refine U.skip (U.seq (U.seq (U.text ?_))); refine J.c (.assign rfl) ?_; refine J.go (U.block ?_); refine U.keep [(0, .v mL l), (3, I ((0 : Nat) : Int))] ⟨rfl, rfl, trivial⟩ ?_; refine U.loop (I := fun kk ff ss => ∃ (i : Nat), kk = l.length - i /\ ff = [(0, .v mL l), (3, I ((i : Nat) : Int))] /\ ss = [] /\ (i <= l.length) /\ (fL l = dI (qB l) i l.length)) ?_ _ _ _ ⟨0, rfl, rfl, rfl, Nat.zero_le _, (by exact if_neg c1)⟩; rintro kk ff ss ⟨i, kI, rfl, rfl, hi, hw⟩; refine U.seq (U.seq (U.text ?_)); refine J.c (.move rfl) (J.c (.move rfl) ?_); refine J.r (.len eC) ?_; refine J.c (.lss) (J.go ?_); refine U.aM rfl (fun c4 => ?_) (fun c4 => ?_)
  . refine U.skip (U.seq (U.block (U.seq (U.seq (U.drawn ?_))))); refine VD.c (.move rfl) (VD.c (.move rfl) (VD.c (.ix (j := i) rfl rfl eC (by omega)) (VD.c (.fa (.l .o)) ?_))); refine VD.r [] (.ld cJ) (.inl rfl) ?_; refine VD.call rfl rfl (VF.call (WI )) ?_; refine VD.nw [] (VD.c (.move rfl) (VD.c (.move rfl) (VD.c (.ix (j := i) rfl rfl eC (by omega)) ?_))); refine VD.c (.fa (.r .o)) ?_; refine VD.r [] (.ld qZ) (.inl rfl) ?_; refine VD.call rfl rfl (VF.call (x3 )) ?_; refine VD.new (.lit [bH (!iL ((l[i]).1)) 8, fI ((l[i]).2) (0 : Int) (999 : Int)] PJ) ?_; refine VD.nw [26] ?_; refine VD.B6 rfl rfl (VF.call (WH (by simp))) ?_; refine VD.c (.assign rfl) ?_; refine VD.go (U.seq (U.text ?_)); refine J.c (.move rfl) (J.c (.neq) (J.go ?_)); refine U.aM rfl (fun c7 => ?_) (fun c7 => ?_)
    . have b7 : i < l.length := by omega
      have hv : qB l i = bQ [bH (!iL l[i].1) 8, fI l[i].2 0 999] := by rw [K1 b7, if_neg c7]
      refine U.seq (U.text ?_); refine J.c (.move rfl) (J.c (.assign rfl) (J.go ?_)); refine U.ret ?_; exact aR.one rfl aZ (cY (by rw [hw, bJ b7, hv, if_neg c7]))
    have b7 : i < l.length := by omega
    have hv : qB l i = bH (decide (0 <= fZ (l.take i) l[i].1)) 9 := by rw [K1 b7, if_pos (Decidable.not_not.1 c7)]
    refine U.skip (U.seq (U.drawn ?_)); refine VD.c (.move rfl) (VD.c (.move rfl) ?_); refine VD.r [] (.AB rfl rfl eC (by omega)) (.inl rfl) ?_; refine VD.c (.move rfl) (VD.c (.move rfl) (VD.c (.ix (j := i) rfl rfl eC (by omega)) (VD.nw [] ?_))); refine VD.c (.fa (.l .o)) ?_; refine VD.r [] (.ld cJ) (.inl rfl) ?_; refine VD.call rfl rfl (VF.call (BA (by simp; omega))) ?_; refine VD.c (.geq) (VD.go ?_); refine U.aM rfl (fun c9 => ?_) (fun c9 => ?_)
    . have xA : qB l i = 9 := by rw [hv, decide_eq_true (by simpa using c9)] <;> rfl
      refine U.seq ?_; refine U.keep [(0, .v mL l), (3, I ((i : Nat) : Int))] ⟨rfl, rfl, trivial⟩ ?_; refine U.text ?_; refine J.c (.assign rfl) (J.go ?_); refine U.ret ?_; exact aR.one rfl aZ (cY (by rw [hw, bJ b7, xA] <;> rfl))
    have hz : qB l i = 0 := by rw [hv, decide_eq_false (by simpa using c9)] <;> rfl
    refine U.skip ?_; refine U.keep [(0, .v mL l), (3, I ((i : Nat) : Int))] ⟨rfl, rfl, trivial⟩ ?_; refine U.text ?_; refine J.c (.move rfl) (J.c (.add rfl rfl (by omega)) (J.c (.assign rfl) ?_)); refine J.nil ?_; refine ⟨_, [(0, .v mL l), (3, I (((i + 1) : Nat) : Int))], ?_, ⟨rfl, rfl, trivial⟩, (i + 1), rfl, rfl, rfl, (by omega), (by rw [hw, bJ b7, if_pos hz])⟩; omega
  refine U.exit (U.seq (U.text ?_)); refine J.c (.assign rfl) (J.go ?_); refine U.ret ?_; exact aR.one rfl aZ (cY (by rw [hw, gW (by omega)]))
def r4 (l : List fV) : Nat -> List (ByteArray × Int)
  | 0 => []
  | i + 1 => qY (r4 l i) (BB l i).1 (BB l i).2
theorem gK {α : Type} {F : α -> Bool} {l : List α} : (0 <= gV F l 0) ↔ ∃ x ∈ l, F x = true := by
  rw [zJ (by omega), List.any_eq_true]
theorem MR {l : List fV} {s : ByteArray} : ∀ i, i <= l.length -> ((cT (r4 l i) s).isSome = true ↔ 0 <= fZ (l.take i) s)
  | 0, _ => by simp [r4, cT, fZ, gV]
  | i + 1, h => by
    have b7 : i < l.length := by omega
    rw [r4, sW, fZ, gK, List.take_succ_eq_append_getElem b7, qR b7]; have ih := MR (l := l) (s := s) i (by omega); rw [fZ, gK] at ih; by_cases hs : s = l[i].1
    . rw [if_pos hs]; simp only [Option.isSome_some, true_iff]; exact ⟨l[i], List.mem_append_right _ List.mem_cons_self, decide_eq_true hs.symm⟩
    rw [if_neg hs, ih]; constructor
    . rintro ⟨x, hx, he⟩; exact ⟨x, List.mem_append_left _ hx, he⟩
    rintro ⟨x, hx, he⟩; rcases List.mem_append.1 hx with hx | hx
    . exact ⟨x, hx, he⟩
    obtain rfl := List.mem_singleton.1 hx; exact absurd (of_decide_eq_true he).symm hs
theorem MS {l : List fV} {s : ByteArray} {i : Nat} (h : i <= l.length) : (cT (r4 l i) s).isSome = decide (0 <= fZ (l.take i) s) := by
  have := MR (l := l) (s := s) i h
  cases hb : (cT (r4 l i) s).isSome with
  | true => exact (decide_eq_true (this.1 hb)).symm
  | false => exact (decide_eq_false fun h2 => by rw [this.2 h2] at hb; cases hb).symm
theorem SZ {l : List fV} {i : Nat} (h : i < l.length) : bQ [bH (!iL l[i].1) 8, fI l[i].2 0 999, bH ((cT (r4 l i) l[i].1).isSome) 9] = qB l i := by
  unfold qB; rw [qR h, MS (l := l) (i := i) (by omega)]
theorem LP {c : (List (ByteArray × Int)) × (List (ByteArray × (List (ByteArray × Int)))) × (List (ByteArray × Bool × (List ByteArray)))} (hl : c.1.length < 1000000) : VF Tryz.prog OA 86 [.v kF c] (.mE [.v AG (if fL c.1 = 0 then r4 c.1 c.1.length else []), I (fL c.1)]) := by
  refine VF.enter Tryz.func86 rfl (fun _ _ => rfl) rfl ?_; show U _ _ _ _ _ [(0, .v kF c)] [] _; refine U.seq (U.text ?_); refine J.new (.box) ?_; refine J.c (.assign rfl) (J.c (.assign rfl) ?_); refine J.go (U.seq (U.seq (U.text ?_))); refine J.c (.fa (.l .o)) ?_; refine J.r (.ld sV) ?_; refine J.r (.len l4) ?_; refine J.c (.gtr) (J.go ?_); refine U.aM rfl (fun c1 => ?_) (fun c1 => ?_)
  . refine U.seq (U.text ?_); refine J.c (.assign rfl) (J.c (.assign rfl) (J.go ?_)); refine U.ret ?_; exact aR.two rfl (evC .adX) aZ (dV (by rw [fL, if_pos c1, if_neg (by decide)])) (cY (by rw [fL, if_pos c1]))
  refine U.skip (U.seq (U.text ?_)); refine J.cell (.mkMap .str (.int .i64)) ?_; intro dE; refine J.c (.assign rfl) ?_; refine J.go (U.seq (U.seq (U.text ?_))); refine J.c (.fa (.l .o)) ?_; refine J.r (.ld sV) ?_; refine J.r (.len l4) ?_; refine J.c (.move rfl) ?_; refine J.go (U.block ?_); refine U.keep [(4, .raw dE), (16, .v pQ c.1), (17, I ((c.1.length : Nat) : Int)), (18, I ((0 : Nat) : Int))] ⟨rfl, rfl, rfl, rfl, trivial⟩ ?_; refine U.loop (I := fun kk ff ss => ∃ (i : Nat), kk = c.1.length - i /\ ff = [(4, .raw dE), (16, .v pQ c.1), (17, I ((c.1.length : Nat) : Int)), (18, I ((i : Nat) : Int))] /\ ss = [(dE, .mp .str (.int .i64) (r4 c.1 i))] /\ (i <= c.1.length) /\ (fL c.1 = dI (qB c.1) i c.1.length)) ?_ _ _ _ ⟨0, rfl, rfl, rfl, Nat.zero_le _, (by exact if_neg c1)⟩; rintro kk ff ss ⟨i, kI, rfl, rfl, hi, hw⟩; refine U.seq (U.text ?_); refine J.c (.lss) ?_; refine J.go (U.seq ?_); refine U.aM rfl (fun c5 => ?_) (fun c5 => ?_)
  . refine U.skip (U.seq (U.block (U.seq (U.text ?_)))); refine J.c (.ix (j := i) rfl rfl l4 (by omega)) ?_; refine J.r (.ld n9) ?_; refine J.cell (.alloc AH) ?_; intro kJ; refine J.eQ (cs' := [St ((c.1[i]).1), I ((c.1[i]).2)]) n9 .v ?_; refine J.shut [(6, .p o5 (c.1[i]))] (.cons rfl (.var m0 .refl) .nil) ?_; refine J.go (U.seq (U.text ?_)); refine J.c (.move rfl) (J.c (.fa (.l .o)) ?_); refine J.r (.ld cJ) ?_; refine J.r (.ae4 WM m0) ?_; refine J.c (.move rfl) (J.c (.extract) (J.c (.extract) (J.c (.assign rfl) ?_))); refine J.c (.assign rfl) ?_; refine J.go (U.seq (U.seq (U.drawn ?_))); refine VD.c (.fa (.l .o)) ?_; refine VD.r [] (.ld cJ) (.inl rfl) ?_; refine VD.call rfl rfl (VF.call (PL )) ?_; refine VD.c (.fa (.r .o)) ?_; refine VD.r [] (.ld qZ) (.inl rfl) ?_; refine VD.call rfl rfl (VF.call (GM )) ?_; refine VD.nw [] (VD.c (.move rfl) ?_); refine VD.call rfl rfl (VF.call (jQ )) ?_; refine VD.new (.lit [bH (!iL ((c.1[i]).1)) 8, fI ((c.1[i]).2) 0 999, bH ((cT (r4 c.1 i) ((c.1[i]).1)).isSome) (9 : Int)] wL) ?_; refine VD.B6 rfl rfl (VF.call (o4 (by simp))) ?_; refine VD.c (.assign rfl) ?_; refine VD.go (U.seq (U.text ?_)); refine J.c (.move rfl) (J.c (.neq) (J.go ?_)); refine U.aM rfl (fun c9 => ?_) (fun c9 => ?_)
    . have b7 : i < c.1.length := by omega
      have hv := SZ b7
      have hb : fL c.1 = qB c.1 i := by rw [hw, bJ b7, if_neg (by rw [<- hv]; exact c9)]
      have jI : ¬ fL c.1 = 0 := by rw [hb, <- hv]; exact c9
      refine U.seq (U.text ?_); refine J.c (.move rfl) (J.c (.assign rfl) (J.c (.assign rfl) (J.go ?_))); refine U.ret ?_; exact aR.two rfl (evC .adX) aZ (dV (by rw [if_neg jI])) (cY (by rw [hb]; exact hv))
    have b7 : i < c.1.length := by omega
    have hz : qB c.1 i = 0 := by rw [<- SZ b7]; exact Decidable.not_not.1 c9
    refine U.skip (U.text ?_); refine J.c (.move rfl) (J.c (.fa (.l .o)) ?_); refine J.r (.ld cJ) ?_; refine J.c (.fa (.r .o)) ?_; refine J.r (.ld qZ) ?_; refine J.MO WM ?_; refine J.nil ?_; refine U.keep [(4, .raw dE), (16, .v pQ c.1), (17, I ((c.1.length : Nat) : Int)), (18, I ((i : Nat) : Int))] ⟨rfl, rfl, rfl, rfl, trivial⟩ ?_; refine U.text ?_; refine J.c (.add rfl rfl (by omega)) (J.c (.move rfl) ?_); refine J.nil ?_; refine ⟨_, [(4, .raw dE), (16, .v pQ c.1), (17, I ((c.1.length : Nat) : Int)), (18, I (((i + 1) : Nat) : Int))], ?_, ⟨rfl, rfl, rfl, rfl, trivial⟩, (i + 1), rfl, rfl, (by rw [r4, qR b7]), (by omega), (by rw [hw, bJ b7, if_pos hz])⟩; omega
  refine U.exit (U.seq (U.text ?_)); refine J.c (.move rfl) (J.c (.assign rfl) (J.c (.assign rfl) (J.go ?_))); refine U.ret ?_; exact aR.two rfl (evC (.mp m0)) aZ (dV (by rw [show fL c.1 = 0 by rw [hw, gW (by omega)], if_pos rfl, show i = c.1.length by omega])) (cY (by rw [hw, gW (by omega)]))
end Go.Proofs
namespace Go.Proofs
open Go.Fs
abbrev T0 : Ty := (.mp .str .bool)
theorem zt4 : oG Tryz.prog 4 .bool := kS (z := .bool false) (by kernel_rfl) rfl rfl
theorem BC : AD Tryz.prog 133 .str .bool := ⟨9, 4, by kernel_rfl, YE (by kernel_rfl), zt4⟩
def nU (K : ByteArray -> Bool) (l : List fV) (i : Nat) : Int := bQ [bH (!K (BB l i).1) 10, fI (BB l i).2 0 999, bH (decide (0 <= fZ (l.take i) (BB l i).1)) 9]
def sX (K : ByteArray -> Bool) (l : List fV) : Int := if 16 < (l.length : Int) then 5 else dI (nU K l) 0 l.length
def sY (l : List fV) : Nat -> List (ByteArray × Bool)
  | 0 => []
  | i + 1 => qY (sY l i) (BB l i).1 true
theorem K2 {l : List fV} {s : ByteArray} : ∀ i, i <= l.length -> ((cT (sY l i) s).getD false = true ↔ 0 <= fZ (l.take i) s)
  | 0, _ => by simp [sY, cT, fZ, gV]
  | i + 1, h => by
    have b7 : i < l.length := by omega
    rw [sY, sW, fZ, gK, List.take_succ_eq_append_getElem b7, qR b7]; have ih := K2 (l := l) (s := s) i (by omega); rw [fZ, gK] at ih; by_cases hs : s = l[i].1
    . rw [if_pos hs]; simp only [Option.getD_some, true_iff]; exact ⟨l[i], List.mem_append_right _ List.mem_cons_self, decide_eq_true hs.symm⟩
    rw [if_neg hs, ih]; constructor
    . rintro ⟨x, hx, he⟩; exact ⟨x, List.mem_append_left _ hx, he⟩
    rintro ⟨x, hx, he⟩; rcases List.mem_append.1 hx with hx | hx
    . exact ⟨x, hx, he⟩
    obtain rfl := List.mem_singleton.1 hx; exact absurd (of_decide_eq_true he).symm hs
theorem WN {l : List fV} {s : ByteArray} {i : Nat} (h : i <= l.length) : (cT (sY l i) s).getD false = decide (0 <= fZ (l.take i) s) := by
  have := K2 (l := l) (s := s) i h
  cases hb : (cT (sY l i) s).getD false with
  | true => exact (decide_eq_true (this.1 hb)).symm
  | false => exact (decide_eq_false fun h2 => by rw [this.2 h2] at hb; cases hb).symm
theorem MT {m : List (ByteArray × Int)} {l : List fV} {i : Nat} (h : i < l.length) :
    bQ [bH (!(cT m l[i].1).isSome) 10, fI l[i].2 0 999, bH ((cT (sY l i) l[i].1).getD false) 9] = nU (fun s => (cT m s).isSome) l i := by
  unfold nU; rw [qR h, WN (l := l) (i := i) (by omega)]
theorem ab5 {l : List (ByteArray × Int)} {m : List (ByteArray × Int)} (hl : l.length < 1000000) : VF Tryz.prog OA 88 [.v pQ l, .v AG m] (I (sX (fun s => (cT m s).isSome) l)) := by
  refine VF.enter Tryz.func88 rfl (fun _ _ => rfl) rfl ?_; show U _ _ _ _ _ [(0, .v pQ l), (1, .v AG m)] [] _; refine U.seq (U.text ?_); refine J.c (.assign rfl) ?_; refine J.go (U.seq (U.seq (U.text ?_))); refine J.c (.move rfl) ?_; refine J.r (.len l4) ?_; refine J.c (.gtr) (J.go ?_); refine U.aM rfl (fun c1 => ?_) (fun c1 => ?_)
  . refine U.seq (U.text ?_); refine J.c (.assign rfl) (J.go ?_); refine U.ret ?_; exact aR.one rfl aZ (cY (by rw [sX, if_pos c1]))
  refine U.skip (U.seq (U.text ?_)); refine J.cell (.mkMap .str .bool) ?_; intro dE; refine J.c (.assign rfl) ?_; refine J.go (U.seq (U.seq (U.text ?_))); refine J.c (.move rfl) ?_; refine J.r (.len l4) ?_; refine J.c (.move rfl) ?_; refine J.go (U.block ?_); refine U.keep [(1, .v AG m), (5, .raw dE), (15, .v pQ l), (16, I ((l.length : Nat) : Int)), (17, I ((0 : Nat) : Int))] ⟨rfl, rfl, rfl, rfl, rfl, trivial⟩ ?_; refine U.loop (I := fun kk ff ss => ∃ (i : Nat), kk = l.length - i /\ ff = [(1, .v AG m), (5, .raw dE), (15, .v pQ l), (16, I ((l.length : Nat) : Int)), (17, I ((i : Nat) : Int))] /\ ss = [(dE, .mp .str .bool (sY l i))] /\ (i <= l.length) /\ (sX (fun s => (cT m s).isSome) l = dI (nU (fun s => (cT m s).isSome) l) i l.length)) ?_ _ _ _ ⟨0, rfl, rfl, rfl, Nat.zero_le _, (by exact if_neg c1)⟩; rintro kk ff ss ⟨i, kI, rfl, rfl, hi, hw⟩; refine U.seq (U.text ?_); refine J.c (.lss) ?_; refine J.go (U.seq ?_); refine U.aM rfl (fun c5 => ?_) (fun c5 => ?_)
  . refine U.skip (U.seq (U.block (U.seq (U.text ?_)))); refine J.c (.ix (j := i) rfl rfl l4 (by omega)) ?_; refine J.r (.ld n9) ?_; refine J.cell (.alloc AH) ?_; intro kJ; refine J.eQ (cs' := [St ((l[i]).1), I ((l[i]).2)]) n9 .v ?_; refine J.shut [(7, .p o5 (l[i]))] (.cons rfl (.var m0 .refl) .nil) ?_; refine J.go (U.seq (U.text ?_)); refine J.c (.move rfl) (J.c (.fa (.l .o)) ?_); refine J.r (.ld cJ) ?_; refine J.r (.aj3 WM) ?_; refine J.c (.move rfl) (J.c (.extract) (J.c (.extract) (J.c (.assign rfl) ?_))); refine J.c (.assign rfl) ?_; refine J.go (U.seq (U.seq (U.drawn ?_))); refine VD.c (.move rfl) (VD.c (.not) ?_); refine VD.call rfl rfl (VF.call (jQ )) ?_; refine VD.c (.fa (.r .o)) ?_; refine VD.r [] (.ld qZ) (.inl rfl) ?_; refine VD.call rfl rfl (VF.call (GM )) ?_; refine VD.nw [] (VD.c (.move rfl) (VD.c (.fa (.l .o)) ?_)); refine VD.r [] (.ld cJ) (.inl rfl) ?_; refine VD.r [(dE, .mp .str .bool (sY l i))] (.W8 BC m0) (.inr ⟨rfl, rfl⟩) ?_; refine VD.call rfl rfl (VF.call (jQ )) ?_; refine VD.new (.lit [bH (!((cT m ((l[i]).1)).isSome)) (10 : Int), fI ((l[i]).2) 0 999, bH ((cT (sY l i) ((l[i]).1)).getD false) (9 : Int)] wL) ?_; refine VD.B6 rfl rfl (VF.call (o4 (by simp))) ?_; refine VD.nw [39] (VD.c (.assign rfl) ?_); refine VD.go (U.seq (U.text ?_)); refine J.c (.move rfl) (J.c (.neq) (J.go ?_)); refine U.aM rfl (fun c9 => ?_) (fun c9 => ?_)
    . have b7 : i < l.length := by omega
      have hv := MT (m := m) b7; refine U.seq (U.text ?_); refine J.c (.move rfl) (J.c (.assign rfl) (J.go ?_)); refine U.ret ?_; exact aR.one rfl aZ (cY (by rw [hw, bJ b7, <- hv, if_neg c9]))
    have b7 : i < l.length := by omega
    have hz : nU (fun s => (cT m s).isSome) l i = 0 := by rw [<- MT b7]; exact Decidable.not_not.1 c9
    refine U.skip (U.text ?_); refine J.c (.move rfl) (J.c (.fa (.l .o)) ?_); refine J.r (.ld cJ) ?_; refine J.MO BC ?_; refine J.nil ?_; refine U.keep [(1, .v AG m), (5, .raw dE), (15, .v pQ l), (16, I ((l.length : Nat) : Int)), (17, I ((i : Nat) : Int))] ⟨rfl, rfl, rfl, rfl, rfl, trivial⟩ ?_; refine U.text ?_; refine J.c (.add rfl rfl (by omega)) (J.c (.move rfl) ?_); refine J.nil ?_; refine ⟨_, [(1, .v AG m), (5, .raw dE), (15, .v pQ l), (16, I ((l.length : Nat) : Int)), (17, I (((i + 1) : Nat) : Int))], ?_, ⟨rfl, rfl, rfl, rfl, rfl, trivial⟩, (i + 1), rfl, rfl, (by rw [sY, qR b7]), (by omega), (by rw [hw, bJ b7, if_pos hz])⟩; omega
  refine U.exit (U.seq (U.text ?_)); refine J.c (.assign rfl) (J.go ?_); refine U.ret ?_; exact aR.one rfl aZ (cY (by rw [hw, gW (by omega)]))
def kL (K : ByteArray -> Bool) (l : List ByteArray) (i : Nat) : Int := bQ [bH (!K (l.getD i ByteArray.empty)) 10, bH (hasB (l.take i) (l.getD i ByteArray.empty)) 9]
def pF (K : ByteArray -> Bool) (l : List ByteArray) : Int := if bQ [bH (decide ((l.length : Int) = 0)) 12, bH (decide (16 < (l.length : Int))) 5] = 0 then dI (kL K l) 0 l.length else bQ [bH (decide ((l.length : Int) = 0)) 12, bH (decide (16 < (l.length : Int))) 5]
theorem MU {m : List (ByteArray × Bool)} {l : List ByteArray} {i : Nat} (h : i < l.length) : bQ [bH (!(cT m l[i]).getD false) 10, bH (hasB (l.take i) l[i]) 9] = kL (fun s => (cT m s).getD false) l i := by
  unfold kL; rw [show l.getD i ByteArray.empty = l[i] by simp [h]]
theorem ab6 {l : List ByteArray} {m : List (ByteArray × Bool)} (hl : l.length < 1000000) : VF Tryz.prog OA 89 [.v (.sl .str) l, .v T0 m] (I (pF (fun s => (cT m s).getD false) l)) := by
  refine VF.enter Tryz.func89 rfl (fun _ _ => rfl) rfl ?_; show U _ _ _ _ _ [(0, .v (.sl .str) l), (1, .v T0 m)] [] _; refine U.seq (U.text ?_); refine J.c (.assign rfl) ?_; refine J.go (U.seq (U.seq (U.text ?_))); refine J.c (.move rfl) ?_; refine J.r (.len b8) ?_; refine J.c (.eql) ?_; refine J.call rfl rfl (VF.call (jQ )) ?_; refine J.c (.move rfl) ?_; refine J.r (.len b8) ?_; refine J.c (.gtr) ?_; refine J.call rfl rfl (VF.call (jQ )) ?_; refine J.new (.lit [bH (decide (((l.length : Nat) : Int) = (0 : Int))) (12 : Int), bH (decide ((16 : Int) < ((l.length : Nat) : Int))) (5 : Int)] wL) ?_; refine J.call rfl rfl (VF.call (o4 (by simp))) ?_; refine J.c (.assign rfl) ?_; refine J.go (U.seq (U.text ?_)); refine J.c (.move rfl) (J.c (.neq) (J.go ?_)); refine U.aM rfl (fun c2 => ?_) (fun c2 => ?_)
  . refine U.seq (U.text ?_); refine J.c (.move rfl) (J.c (.assign rfl) (J.go ?_)); refine U.ret ?_; exact aR.one rfl aZ (cY (by rw [pF, if_neg c2]))
  refine U.skip (U.seq (U.seq (U.text ?_))); refine J.c (.move rfl) ?_; refine J.r (.len b8) ?_; refine J.c (.move rfl) ?_; refine J.go (U.block ?_); refine U.keep [(0, .v (.sl .str) l), (1, .v T0 m), (22, .v (.sl .str) l), (23, I ((l.length : Nat) : Int)), (24, I ((0 : Nat) : Int))] ⟨rfl, rfl, rfl, rfl, rfl, trivial⟩ ?_; refine U.loop (I := fun kk ff ss => ∃ (i : Nat), kk = l.length - i /\ ff = [(0, .v (.sl .str) l), (1, .v T0 m), (22, .v (.sl .str) l), (23, I ((l.length : Nat) : Int)), (24, I ((i : Nat) : Int))] /\ ss = [] /\ (i <= l.length) /\ (pF (fun s => (cT m s).getD false) l = dI (kL (fun s => (cT m s).getD false) l) i l.length)) ?_ _ _ _ ⟨0, rfl, rfl, rfl, Nat.zero_le _, (by exact if_pos (Decidable.not_not.1 c2))⟩; rintro kk ff ss ⟨i, kI, rfl, rfl, hi, hw⟩; refine U.seq (U.text ?_); refine J.c (.lss) ?_; refine J.go (U.seq ?_); refine U.aM rfl (fun c5 => ?_) (fun c5 => ?_)
  . refine U.skip (U.seq (U.block (U.seq (U.text ?_)))); refine J.c (.move rfl) (J.c (.ix (j := i) rfl rfl b8 (by omega)) ?_); refine J.r (.ld cJ) ?_; refine J.c (.assign rfl) (J.c (.assign rfl) ?_); refine J.go (U.seq (U.drawn ?_)); refine VD.c (.move rfl) (VD.c (.move rfl) ?_); refine VD.r [] (.look BC) (.inl rfl) ?_; refine VD.c (.not) ?_; refine VD.call rfl rfl (VF.call (jQ )) ?_; refine VD.c (.move rfl) (VD.nw [] (VD.c (.move rfl) ?_)); refine VD.r [] (.AB rfl rfl b8 (by omega)) (.inl rfl) ?_; refine VD.c (.move rfl) ?_; refine VD.call rfl rfl (VF.call (LN (by simp; omega))) ?_; refine VD.call rfl rfl (VF.call (jQ )) ?_; refine VD.new (.lit [bH (!((cT m (l[i])).getD false)) (10 : Int), bH (hasB (l.take (((i : Nat) : Int)).toNat) (l[i])) (9 : Int)] wL) ?_; refine VD.B6 rfl rfl (VF.call (o4 (by simp))) ?_; refine VD.nw [40] (VD.c (.assign rfl) ?_); refine VD.go (U.seq (U.text ?_)); refine J.c (.move rfl) (J.c (.neq) (J.go ?_)); refine U.aM rfl (fun c8 => ?_) (fun c8 => ?_)
    . have b7 : i < l.length := by omega
      have hv := MU (m := m) b7; refine U.seq (U.text ?_); refine J.c (.move rfl) (J.c (.assign rfl) (J.go ?_)); refine U.ret ?_; exact aR.one rfl aZ (cY (by rw [hw, bJ b7, <- hv]; exact (if_neg c8).symm))
    have b7 : i < l.length := by omega
    have hz : kL (fun s => (cT m s).getD false) l i = 0 := by rw [<- MU b7]; exact Decidable.not_not.1 c8
    refine U.skip (U.text ?_); refine J.c (.add rfl rfl (by omega)) (J.c (.move rfl) ?_); refine J.nil ?_; refine ⟨_, [(0, .v (.sl .str) l), (1, .v T0 m), (22, .v (.sl .str) l), (23, I ((l.length : Nat) : Int)), (24, I (((i + 1) : Nat) : Int))], ?_, ⟨rfl, rfl, rfl, rfl, rfl, trivial⟩, (i + 1), rfl, rfl, rfl, (by omega), (by rw [hw, bJ b7, if_pos hz])⟩; omega
  refine U.exit (U.seq (U.text ?_)); refine J.c (.assign rfl) (J.go ?_); refine U.ret ?_; exact aR.one rfl aZ (cY (by rw [hw, gW (by omega)]))
end Go.Proofs
namespace Go.Proofs
open Go.Fs
abbrev tL : Ty := (.pair .str (.sl (.pair .str (.int .i64))))
theorem gX : fN Tryz.prog 22 mL := fD (by kernel_rfl)
theorem l5 : fN Tryz.prog 26 bT := fD (by kernel_rfl)
theorem GN : fN Tryz.prog 54 tL := fD (by kernel_rfl)
theorem T3 : oG Tryz.prog 54 tL := kS (z := .agg #[.string ByteArray.empty, .slice none 0 0]) (by kernel_rfl) rfl rfl
theorem MV {α : Type} {F : α -> Bool} {b : List α} : ∀ {a : List α} {k : Int}, gV F (a ++ b) k = if a.any F = true then gV F a k else gV F b (k + (a.length : Int))
  | [], k => by simp
  | x :: a, k => by
    show (if F x = true then k else gV F (a ++ b) (k + 1)) = if (x :: a).any F = true then (if F x = true then k else gV F a (k + 1)) else gV F b (k + ((x :: a).length : Int)); rw [List.any_cons]; by_cases hx : F x = true
    . simp [hx]
    rw [if_neg hx, if_neg hx, MV (a := a)]; simp only [hx, Bool.false_or, List.length_cons]; rw [show k + 1 + (a.length : Int) = k + ((a.length + 1 : Nat) : Int) by omega]
theorem GO {α : Type} {F : α -> Bool} : ∀ {a : List α} {k : Int}, a.any F = true -> gV F a k < k + (a.length : Int)
  | [], k, h => by cases h
  | x :: a, k, h => by
    unfold gV; by_cases hx : F x = true
    . rw [if_pos hx]; simp only [List.length_cons]; omega
    rw [if_neg hx]; have := GO (a := a) (k := k + 1) (by simpa [hx] using h); simp only [List.length_cons]; omega
theorem T4 {α : Type} {F : α -> Bool} {l : List α} {i : Nat} (h : i < l.length) (hF : F l[i] = true) : gV F l 0 < (i : Int) ↔ 0 <= gV F (l.take i) 0 := by
  have e : gV F l 0 = gV F (l.take i ++ l.drop i) 0 := by rw [List.take_append_drop]
  rw [e, MV, zJ (l := l.take i) (by omega)]; by_cases ha : (l.take i).any F = true
  . rw [if_pos ha]; have := GO (k := 0) ha; rw [List.length_take] at this; constructor
    . exact fun _ => ha
    intro _; omega
  rw [if_neg ha, List.drop_eq_getElem_cons h, gV, if_pos hF, List.length_take]; constructor
  . intro h2; omega
  exact fun h2 => absurd h2 ha
def mY (c : dG) (s : ByteArray) : Bool := decide (0 <= fZ c.1 s)
def T5 (c : dG) (i : Nat) : vD := c.2.1.getD i (ByteArray.empty, [])
theorem wM {c : dG} {i : Nat} (h : i < c.2.1.length) : T5 c i = c.2.1[i] := by simp [T5, h]
def pG (c : dG) (i : Nat) : Int := bQ [bH (!iL (T5 c i).1) 8, bH (decide (0 <= lD (c.2.1.take i) (T5 c i).1)) 9, sX (mY c) (T5 c i).2]
theorem T6 {c : dG} {i : Nat} (h : i < c.2.1.length) : lD c.2.1 c.2.1[i].1 < (i : Int) ↔ 0 <= lD (c.2.1.take i) c.2.1[i].1 := T4 h (decide_eq_true rfl)
theorem MW {K : ByteArray -> Bool} {l : List fV} {i : Nat} (h : i < l.length) : nU K l i = if K l[i].1 = true then (if fI l[i].2 0 999 = 0 then bH (decide (0 <= fZ (l.take i) l[i].1)) 9 else fI l[i].2 0 999) else 10 := by
  unfold nU; rw [qR h]; show (if _ = 0 then bQ [_, _] else _) = _; rw [oH]; cases hk : K l[i].1 <;> simp [bH]
theorem WO {c : (List (ByteArray × Int)) × (List (ByteArray × (List (ByteArray × Int)))) × (List (ByteArray × Bool × (List ByteArray)))} {i : Nat} (hl : c.1.length < 1000000) (hm : c.2.1.length < 1000000) (kX : ∀ x ∈ c.2.1, x.2.length < 1000000) (BD : i < c.2.1.length) : VF Tryz.prog OA 53 [.v bT c, I ((i : Nat) : Int)] (I (pG c i)) := by
  refine VF.enter Tryz.func53 rfl (fun _ _ => rfl) rfl ?_; show U _ _ _ _ _ [(0, .v bT c), (1, I ((i : Nat) : Int))] [] _; refine U.seq (U.text ?_); refine J.new (.box) ?_; refine J.c (.assign rfl) ?_; refine J.go (U.seq (U.text ?_)); refine J.c (.fa (.r (.l .o))) ?_; refine J.r (.ld jD) ?_; refine J.c (.move rfl) (J.c (.ix (j := i) rfl rfl iD (by omega)) ?_); refine J.r (.ld GN) ?_; refine J.cell (.alloc T3) ?_; intro dE; refine J.eQ (cs' := [St ((c.2.1[i]).1), .v mL ((c.2.1[i]).2)]) GN .v ?_; refine J.shut [(5, .p tL (c.2.1[i]))] (.cons rfl (.var m0 .refl) .nil) ?_; refine J.go (U.seq (U.seq (U.text ?_))); refine J.c (.fa (.l .o)) ?_; refine J.r (.ld cJ) ?_; refine J.call rfl rfl (VF.call (F1 )) ?_; refine J.c (.not) (J.go ?_); refine U.fO rfl (fun c2 => ?_) (fun c2 => ?_)
  . try simp only [Bool.and_eq_true, Bool.or_eq_true, Bool.and_eq_false_iff, Bool.or_eq_false_iff, Bool.not_eq_true', Bool.not_eq_false', decide_eq_true_eq, decide_eq_false_iff_not] at c2
    refine U.seq (U.text ?_); refine J.c (.assign rfl) (J.go ?_); refine U.ret ?_; exact aR.one rfl aZ (cY (by rw [pG, wM BD, c2] <;> rfl))
  try simp only [Bool.and_eq_true, Bool.or_eq_true, Bool.and_eq_false_iff, Bool.or_eq_false_iff, Bool.not_eq_true', Bool.not_eq_false', decide_eq_true_eq, decide_eq_false_iff_not] at c2
  refine U.skip (U.seq (U.seq (U.text ?_))); refine J.r (.ld l5) ?_; refine J.c (.fa (.l .o)) ?_; refine J.r (.ld cJ) ?_; refine J.call rfl rfl (VF.call (F3 (by first | assumption | omega | simp))) ?_; refine J.c (.move rfl) (J.c (.lss) (J.go ?_)); refine U.aM rfl (fun c4 => ?_) (fun c4 => ?_)
  . refine U.seq (U.text ?_); refine J.c (.assign rfl) (J.go ?_); refine U.ret ?_; exact aR.one rfl aZ (cY (by rw [pG, wM BD, c2, decide_eq_true ((T6 BD).1 c4)] <;> rfl))
  have WQ := kX _ (List.getElem_mem BD); have h4 : ¬ 0 <= lD (c.2.1.take i) c.2.1[i].1 := fun h => c4 ((T6 BD).2 h)
  have bK : pG c i = sX (mY c) c.2.1[i].2 := by rw [pG, wM BD, c2, decide_eq_false h4]; show (if _ = 0 then bQ [_, _] else _) = _; rw [oH] <;> rfl
  refine U.skip (U.seq (U.seq (U.text ?_))); refine J.c (.fa (.r .o)) ?_; refine J.r (.ld gX) ?_; refine J.r (.len eC) ?_; refine J.c (.gtr) (J.go ?_); refine U.aM rfl (fun c6 => ?_) (fun c6 => ?_)
  . refine U.seq (U.text ?_); refine J.c (.assign rfl) (J.go ?_); refine U.ret ?_; exact aR.one rfl aZ (cY (by rw [bK, sX, if_pos c6]))
  refine U.skip (U.seq (U.seq (U.text ?_))); refine J.c (.assign rfl) ?_; refine J.go (U.block ?_); refine U.keep [(2, .p bT c), (5, .p tL (c.2.1[i])), (6, I ((0 : Nat) : Int))] ⟨rfl, rfl, rfl, trivial⟩ ?_; refine U.loop (I := fun kk ff ss => ∃ (k : Nat), kk = c.2.1[i].2.length - k /\ ff = [(2, .p bT c), (5, .p tL (c.2.1[i])), (6, I ((k : Nat) : Int))] /\ ss = [] /\ (k <= c.2.1[i].2.length) /\ (sX (mY c) c.2.1[i].2 = dI (nU (mY c) c.2.1[i].2) k c.2.1[i].2.length)) ?_ _ _ _ ⟨0, rfl, rfl, rfl, (by omega), (by exact if_neg c6)⟩; rintro kk ff ss ⟨k, kI, rfl, rfl, hk, hw⟩; refine U.seq (U.seq (U.text ?_)); refine J.c (.move rfl) (J.c (.fa (.r .o)) ?_); refine J.r (.ld gX) ?_; refine J.r (.len eC) ?_; refine J.c (.lss) (J.go ?_); refine U.aM rfl (fun c9 => ?_) (fun c9 => ?_)
  . refine U.skip (U.seq (U.block (U.seq (U.seq (U.drawn ?_))))); refine VD.c (.fa (.l .o)) ?_; refine VD.r [] (.ld gX) (.inl rfl) ?_; refine VD.c (.fa (.r .o)) ?_; refine VD.r [] (.ld gX) (.inl rfl) ?_; refine VD.c (.move rfl) (VD.c (.ix (j := k) rfl rfl eC (by omega)) (VD.nw [] (VD.c (.fa (.l .o)) ?_))); refine VD.r [] (.ld cJ) (.inl rfl) ?_; refine VD.call rfl rfl (VF.call (BA (by first | assumption | omega | simp))) ?_; refine VD.c (.lss) (VD.go ?_); refine U.aM rfl (fun rL => ?_) (fun rL => ?_)
    . have b7 : k < c.2.1[i].2.length := by omega
      have hz : nU (mY c) c.2.1[i].2 k = 10 := by rw [MW b7, if_neg (by unfold mY; rw [decide_eq_false (by omega)]; decide)]
      refine U.seq (U.text ?_); refine J.c (.assign rfl) (J.go ?_); refine U.ret ?_; exact aR.one rfl aZ (cY (by rw [bK, hw, bJ b7, hz] <;> rfl))
    have b7 : k < c.2.1[i].2.length := by omega
    have hy : nU (mY c) c.2.1[i].2 k = (if fI c.2.1[i].2[k].2 0 999 = 0 then bH (decide (0 <= fZ (c.2.1[i].2.take k) c.2.1[i].2[k].1)) 9 else fI c.2.1[i].2[k].2 0 999) := by rw [MW b7, if_pos (by unfold mY; exact decide_eq_true (by omega))]
    refine U.skip (U.seq (U.seq (U.text ?_))); refine J.c (.fa (.r .o)) ?_; refine J.r (.ld gX) ?_; refine J.c (.move rfl) (J.c (.ix (j := k) rfl rfl eC (by omega)) (J.c (.fa (.r .o)) ?_)); refine J.r (.ld qZ) ?_; refine J.call rfl rfl (VF.call (x3 )) ?_; refine J.c (.assign rfl) ?_; refine J.go (U.seq (U.text ?_)); refine J.c (.move rfl) (J.c (.neq) (J.go ?_)); refine U.aM rfl (fun D4 => ?_) (fun D4 => ?_)
    . refine U.seq (U.text ?_); refine J.c (.move rfl) (J.c (.assign rfl) (J.go ?_)); refine U.ret ?_; exact aR.one rfl aZ (cY (by rw [bK, hw, bJ b7, hy, if_neg D4, if_neg D4]))
    refine U.skip (U.seq (U.drawn ?_)); refine VD.c (.fa (.r .o)) ?_; refine VD.r [] (.ld gX) (.inl rfl) ?_; refine VD.c (.move rfl) ?_; refine VD.r [] (.AB rfl rfl eC (by omega)) (.inl rfl) ?_; refine VD.c (.fa (.r .o)) ?_; refine VD.r [] (.ld gX) (.inl rfl) ?_; refine VD.nw [] (VD.c (.move rfl) (VD.c (.ix (j := k) rfl rfl eC (by omega)) (VD.c (.fa (.l .o)) ?_))); refine VD.r [] (.ld cJ) (.inl rfl) ?_; refine VD.call rfl rfl (VF.call (BA (by simp; omega))) ?_; refine VD.c (.geq) (VD.go ?_); refine U.aM rfl (fun PM => ?_) (fun PM => ?_)
    . have hz : nU (mY c) c.2.1[i].2 k = 9 := by rw [hy, if_pos (Decidable.not_not.1 D4), decide_eq_true (show 0 <= fZ (c.2.1[i].2.take k) c.2.1[i].2[k].1 from PM)] <;> rfl
      refine U.seq ?_; refine U.keep [(2, .p bT c), (5, .p tL (c.2.1[i])), (6, I ((k : Nat) : Int))] ⟨rfl, rfl, rfl, trivial⟩ ?_; refine U.text ?_; refine J.c (.assign rfl) (J.go ?_); refine U.ret ?_; exact aR.one rfl aZ (cY (by rw [bK, hw, bJ b7, hz] <;> rfl))
    have hz : nU (mY c) c.2.1[i].2 k = 0 := by rw [hy, if_pos (Decidable.not_not.1 D4), decide_eq_false (show ¬ 0 <= fZ (c.2.1[i].2.take k) c.2.1[i].2[k].1 from PM)] <;> rfl
    refine U.skip ?_; refine U.keep [(2, .p bT c), (5, .p tL (c.2.1[i])), (6, I ((k : Nat) : Int))] ⟨rfl, rfl, rfl, trivial⟩ ?_; refine U.text ?_; refine J.c (.move rfl) (J.c (.add rfl rfl (by omega)) (J.c (.assign rfl) ?_)); refine J.nil ?_; refine ⟨_, [(2, .p bT c), (5, .p tL (c.2.1[i])), (6, I (((k + 1) : Nat) : Int))], ?_, ⟨rfl, rfl, rfl, trivial⟩, (k + 1), rfl, rfl, rfl, (by omega), (by rw [hw, bJ b7, if_pos hz])⟩; omega
  have hkl : k = c.2.1[i].2.length := by omega
  refine U.exit (U.seq (U.text ?_)); refine J.c (.assign rfl) (J.go ?_); refine U.ret ?_; exact aR.one rfl aZ (cY (by rw [bK, hw, gW (by omega)]))
end Go.Proofs
