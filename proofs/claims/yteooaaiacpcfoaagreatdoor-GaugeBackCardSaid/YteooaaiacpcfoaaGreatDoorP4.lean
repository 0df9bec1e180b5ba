/- Parts of the proof: an evaluator of the model, what it is sound for, and contracts of functions. No condition. -/
import Derived.Test.YteooaaiacpcfoaaGreatDoorP3
import Derived.Test.YteooaaiacpcfoaaGreatDoorP2
import Derived.Laws.Strings
import Derived.Test.YteooaaiacpcfoaaGreatDoorP0
set_option linter.all false
namespace Go.Fs
variable {P : Program} {orc : FuncId -> List Value -> Heap -> Option (Value × Heap)} {h : Heap} {σ : aM} {fl : VL} {n i mem : Nat} {l : List Oper} {K : VL -> aM -> Prop} {ops : Array Oper} {bs U9 : List Nat} {tail so : Bool}
theorem VD.nw (nw1 : List Nat) (hk : VD P orc ops n l i fl nw1 σ so bs mem tail K) (he : U9 = nw1 := by rfl) : VD P orc ops n l i fl U9 σ so bs mem tail K := he ▸ hk
theorem VF.wJ {f : FuncId} {τ : Ty} {dv : τ.den} {v : Value} (ho : ∀ h : Heap, orc f [] h = some (v, h)) (hv : ∀ (h : Heap) (S : List Nat), aI h S (.v τ dv) v) : VF P orc f [] (.v τ dv) := fun h S us aZ hS hr => by
  obtain rfl : us = [] := by
    cases us with
    | nil => rfl
    | cons a r => cases hr
  exact nP.wJ (ho h) ⟨cK.refl _ _, hv h S, fun _ => rfl⟩
end Go.Fs
namespace Go.Fs
variable {P : Program} {h : Heap} {S : List Nat}
def YM (E : Ty -> TypeId -> Bool) : List Field -> Nat -> Ty -> Bool
  | [], _, .unit => true
  | f :: r, o, .pair a b => (!(f.name == "_") && Nat.beq f.offset o && E a f.type && YM E r (o + a.size) b) || (r.isEmpty && !(f.name == "_") && Nat.beq f.offset o && E (.pair a b) f.type)
  | [f], o, τ => !(f.name == "_") && Nat.beq f.offset o && E τ f.type
  | _, _, _ => false
def eqV (P : Program) : Nat -> Ty -> TypeId -> Bool
  | 0, _, _ => false
  | d + 1, τ, T => ab3 P T τ && match P.underlying T, τ with
    | some (.int k), .int k' => k == k'
    | some .bool, .bool => true
    | some .string, .str => true
    | some (.struct fs), .pair a b => !P.stoodInHeld T && YM (eqV P d) fs.toList 0 (.pair a b)
    | _, _ => false
theorem R5 {x y : ByteArray} (he : x = y) : (x == y) = true := by
  subst he; show (x.data == x.data) = true; simp
theorem R6 {x y : ByteArray} (he : ¬ x = y) : (x == y) = false := by
  show (x.data == y.data) = false; simp only [beq_eq_false_iff_ne, ne_eq]; exact fun hd => he (ByteArray.ext hd)
theorem UA {τ : Ty} (h : τ.agg = false) : τ.size = 1 := by cases τ <;> first | rfl | cases h
theorem EZ {T : TypeId} {τ : Ty} (hT : gQ P T τ) {cs : Array Value} {o : Nat} {x : τ.den} (hr : cG h S τ ((cs.toList.drop o).take τ.size) x) : ∃ v, aC P (part T cs o) = some v /\ aE h S τ v x := by
  obtain ⟨i, hi, cY⟩ := hT.info; obtain ⟨d, hd, fR⟩ := hT.agg
  have hA : aC P (isAgg T) = some τ.agg := by
    unfold isAgg; rw [aD, aG hd, <- fR]; cases d <;> rfl
  unfold part; rw [aD, hA]; simp only [Option.bind_some]
  cases hga : τ.agg with
  | true =>
    simp only [if_true]; rw [aD, gU hi]; refine ⟨_, rfl, hga.symm, ?_⟩; show cG h S τ (cs.extract o (o + i.size)).toList x; rw [cY, Array.toList_extract]
    simpa [List.extract_eq_take_drop] using hr
  | false =>
    simp only [Bool.false_eq_true, if_false]; obtain ⟨v, h1, h2⟩ := cG.one hga hr
    have h3 : cs[o]? = some v := by
      have := congrArg (fun l => l[0]?) h1; simp only [UA hga] at this; simpa using this
    rw [h3]; exact ⟨v, rfl, h2⟩
theorem YN {E : Ty -> TypeId -> Bool} {n : Nat} {cs ds : Array Value} (hE : ∀ τ T, E τ T = true -> gQ P T τ /\ ∀ (u v : Value) (x y : τ.den) (inst : Decidable (x = y)), aE h S τ u x -> aE h S τ v y -> aC P (Op.equalIn n T u v) = some (@decide (x = y) inst)) :
    ∀ (l : List Field) (o : Nat) (τ : Ty) (x y : τ.den) (inst : Decidable (x = y)), YM E l o τ = true -> cG h S τ (cs.toList.drop o) x -> cG h S τ (ds.toList.drop o) y ->
    aC P (forIn l (none, ()) fun f __s =>
            if f.name ≠ "_" then do
              let __do_lift <- part f.type cs f.offset
              let __do_lift_1 <- part f.type ds f.offset
              let __do_lift <- Op.equalIn n f.type __do_lift __do_lift_1
              if (!__do_lift) = true then pure (ForInStep.done (some false, ())) else pure (ForInStep.yield (none, ()))
            else pure (ForInStep.yield (none, ()))) = some (if x = y then ((none : Option Bool), ()) else (some false, ())) := by
  intro l
  have key : ∀ (f : Field) (r : List Field) (o : Nat) (τ : Ty) (x y : τ.den) (inst : Decidable (x = y)) (R : Option (Option Bool × Unit)), (!(f.name == "_")) = true -> Nat.beq f.offset o = true -> E τ f.type = true -> cG h S τ ((cs.toList.drop o).take τ.size) x -> cG h S τ ((ds.toList.drop o).take τ.size) y ->
      aC P (forIn (f :: r) (none, ()) fun f __s =>
            if f.name ≠ "_" then do
              let __do_lift <- part f.type cs f.offset
              let __do_lift_1 <- part f.type ds f.offset
              let __do_lift <- Op.equalIn n f.type __do_lift __do_lift_1
              if (!__do_lift) = true then pure (ForInStep.done (some false, ())) else pure (ForInStep.yield (none, ()))
            else pure (ForInStep.yield (none, ()))) = if x = y then aC P (forIn r (none, ()) fun f __s =>
            if f.name ≠ "_" then do
              let __do_lift <- part f.type cs f.offset
              let __do_lift_1 <- part f.type ds f.offset
              let __do_lift <- Op.equalIn n f.type __do_lift __do_lift_1
              if (!__do_lift) = true then pure (ForInStep.done (some false, ())) else pure (ForInStep.yield (none, ()))
            else pure (ForInStep.yield (none, ()))) else some (some false, ()) := by
    intro f r o τ x y inst R n1 n2 n3 r1 r2; obtain ⟨hT, hq⟩ := hE _ _ n3; obtain ⟨u, u1, u2⟩ := EZ hT r1; obtain ⟨v, v1, v2⟩ := EZ hT r2
    have hn : f.name ≠ "_" := by simpa using n1
    have ho := bD n2; rw [List.forIn_cons]; simp only [hn, ne_eq, not_false_eq_true, if_true, aD, ho, u1, v1, Option.bind_some, hq u v x y inst u2 v2]; by_cases he : x = y <;> simp [he, aK, aD]
  induction l with
  | nil =>
    intro o τ x y inst hb hx hy; cases τ <;> first | (cases hb; done) | skip
    simp [aK]
  | cons f r ih =>
    intro o τ x y inst hb hx hy; by_cases hp : (∀ a b, τ ≠ .pair a b) \/ (r = [] /\ (!(f.name == "_")) = true /\ Nat.beq f.offset o = true /\ E τ f.type = true)
    . have hs : r = [] /\ (!(f.name == "_")) = true /\ Nat.beq f.offset o = true /\ E τ f.type = true := by
        rcases hp with hp | hp
        . cases τ with
          | pair a b => exact absurd rfl (hp a b)
          | _ =>
            cases r with
            | cons f' r => cases hb
            | nil =>
              obtain ⟨n1, n3⟩ := aT (show (!(f.name == "_") && Nat.beq f.offset o && E _ f.type) = true from hb); obtain ⟨n1, n2⟩ := aT n1; exact ⟨rfl, n1, n2, n3⟩
        exact hp
      obtain ⟨rfl, n1, n2, n3⟩ := hs; rw [key f [] o τ x y inst none n1 n2 n3 (by rw [List.take_of_length_le (Nat.le_of_eq hx.len)]; exact hx) (by rw [List.take_of_length_le (Nat.le_of_eq hy.len)]; exact hy)]; by_cases he : x = y <;> simp [he, aK]
    cases τ with
    | pair a b =>
      have sX : ((!(f.name == "_") && Nat.beq f.offset o && E a f.type && YM E r (o + a.size) b) || (r.isEmpty && !(f.name == "_") && Nat.beq f.offset o && E (.pair a b) f.type)) = true := hb; rcases Bool.or_eq_true_iff.1 sX with h1 | h1
      . obtain ⟨h1, n4⟩ := aT h1; obtain ⟨h1, n3⟩ := aT h1; obtain ⟨n1, n2⟩ := aT h1; have hd := Classical.propDecidable (x.1 = y.1); have N6 := Classical.propDecidable (x.2 = y.2); rw [key f r o a x.1 y.1 hd none n1 n2 n3 hx.1 hy.1]; have h2 := ih (o + a.size) b x.2 y.2 N6 n4 (by rw [<- List.drop_drop]; exact hx.2) (by rw [<- List.drop_drop]; exact hy.2); rw [h2]; by_cases e1 : x.1 = y.1
        . by_cases e2 : x.2 = y.2
          . rw [if_pos e1, if_pos e2, if_pos (Prod.ext e1 e2)]
          rw [if_pos e1, if_neg e2, if_neg (fun e => e2 (by rw [e]))]
        rw [if_neg e1, if_neg (fun e => e1 (by rw [e]))]
      obtain ⟨h1, n3⟩ := aT h1; obtain ⟨h1, n2⟩ := aT h1; obtain ⟨h1, n1⟩ := aT h1
      exact absurd (.inr ⟨by simpa using h1, n1, n2, n3⟩) hp
    | _ => exact absurd (.inl fun _ _ h => by cases h) hp
theorem akM : ∀ (d : Nat) (τ : Ty) (T : TypeId), eqV P d τ T = true -> ∀ (D : Nat) (u v : Value) (x y : τ.den) (inst : Decidable (x = y)), aE h S τ u x -> aE h S τ v y -> aC P (Op.equalIn (D + d) T u v) = some (@decide (x = y) inst) := by
  intro d
  induction d with
  | zero => intro τ T hb; cases hb
  | succ d ih =>
    intro τ T hb D u v x y inst hu hv; unfold eqV at hb; obtain ⟨hvt, hb⟩ := aT hb
    cases hU : P.underlying T with
    | none => simp only [hU] at hb; cases hb
    | some dsc =>
      simp only [hU] at hb; cases τ <;> cases dsc <;> try (cases hb; done)
      . rename_i k _ k'
        obtain rfl : k = k' := by
          have : (k' == k) = true := hb; exact (by simpa using this : k' = k).symm
        obtain rfl := aE.int hu; obtain rfl := aE.int hv; rw [show D + (d + 1) = (D + d) + 1 from rfl, Op.equalIn, aD, aG hU]; simp only [Option.bind_some, if_true]; show some (_ == _) = _; by_cases he : x = y <;> simp [he]
      . obtain rfl := aE.bool hu; obtain rfl := aE.bool hv; rw [show D + (d + 1) = (D + d) + 1 from rfl, Op.equalIn, aD, aG hU]; simp only [Option.bind_some]; show some (_ == _) = _; by_cases he : x = y <;> simp [he]
      . obtain rfl := aE.str hu; obtain rfl := aE.str hv; rw [show D + (d + 1) = (D + d) + 1 from rfl, Op.equalIn, aD, aG hU]; simp only [Option.bind_some]; show some (_ == _) = _; by_cases he : x = y
        . rw [decide_eq_true he]; exact congrArg some (R5 he)
        rw [decide_eq_false he]; exact congrArg some (R6 he)
      rename_i a b fs; obtain ⟨h1, h2⟩ := aT hb
      have hs : P.stoodInHeld T = false := by simpa using h1
      obtain ⟨cs, rfl⟩ : ∃ cs, u = .agg cs := by
        have := hu.1; cases u <;> first | exact ⟨_, rfl⟩ | cases this
      obtain ⟨ds, rfl⟩ : ∃ cs, v = .agg cs := by
        have := hv.1; cases v <;> first | exact ⟨_, rfl⟩ | cases this
      rw [show D + (d + 1) = (D + d) + 1 from rfl, Op.equalIn]; rw [aD, aG hU]; simp only [Option.bind_some, aD, vJ, hs, Bool.false_eq_true, if_false]; simp only [<- Array.forIn_toList]; have hF := YN (h := h) (S := S) (cs := cs) (ds := ds) (n := D + d) (fun τ T hb => ⟨iY ?_, fun u v x y inst => ih τ T hb D u v x y inst⟩) fs.toList 0 _ x y inst h2 hu.2 hv.2
      . rw [hF]; by_cases he : x = y <;> simp [he, aK]
      cases d with
      | zero => cases hb
      | succ d => unfold eqV at hb; exact (aT hb).1
structure EqT (P : Program) (T : TypeId) (τ : Ty) : Prop where
  eq : eqV P 40 τ T = true
  guard : P.eqGuardType P.depth T = false
  agg : τ.agg = true
  flat : τ.iC = true
theorem akN {T : TypeId} {τ : Ty} (hb : (eqV P 40 τ T && !P.eqGuardType P.depth T && τ.agg && τ.iC) = true) : EqT P T τ := by
  obtain ⟨h1, h4⟩ := aT hb; obtain ⟨h1, h3⟩ := aT h1; obtain ⟨h1, h2⟩ := aT h1; exact ⟨h1, by simpa using h2, h3, h4⟩
theorem EqT.run {T : TypeId} {τ : Ty} (hT : EqT P T τ) {u v : Value} {x y : τ.den} {inst : Decidable (x = y)} (hu : aE h S τ u x) (hv : aE h S τ v y) : aC P (Op.equal T u v) = some (@decide (x = y) inst) :=
  akM 40 τ T hT.eq 9960 u v x y inst hu hv
theorem YO {τ : Ty} {u : Value} {x : τ.den} (ha : τ.agg = true) (hu : aE h S τ u x) : ∃ cs, u = .agg cs := by
  have h1 := hu.1.trans ha; cases u <;> first | exact ⟨_, rfl⟩ | cases h1
variable {fl : VL} {σ : aM} {x y : Operand} {T T' : TypeId} {τ : Ty}
theorem aF.ar7 {p q : τ.den} [inst : Decidable (p = q)] (hT : EqT P T τ) (hx : aQ fl x = some (.v τ p) := by rfl) (hy : aQ fl y = some (.v τ q) := by rfl) : aF P fl σ (.binOp .neq T x y T') (.v .bool (decide (p ≠ q))) :=
  .bin hx hy fun h S a c ha hc => by
    have h1 := hT.run (inst := inst) ha hc; obtain ⟨cs, rfl⟩ := YO hT.agg ha; obtain ⟨ds, rfl⟩ := YO hT.agg hc; refine ⟨.bool (decide (p ≠ q)), aE.ofBool _, ?_, ?_⟩
    . rw [(aI.flat (pv := .v τ p) hT.flat ha).1, (aI.flat (pv := .v τ q) hT.flat hc).1]; rfl
    have he : aC P (eqGuard .neq T x y (.agg cs) (.agg ds)) = some () := by
      unfold eqGuard; simp [aD, vJ, hT.guard, aK]
    have hb : aC P (binOp .neq T (.agg cs) (.agg ds)) = some (.bool (decide (p ≠ q))) := by
      unfold binOp; simp only [aD, h1, Option.bind_some, aK]; by_cases TL : p = q <;> simp [TL]
    unfold bU; rw [aD, he]; simp only [Option.bind_some, hb]; rfl
theorem GP {a b : ByteArray} : (a.toList == b.toList) = decide (a = b) := by
  rw [ByteArray.toList_eq, ByteArray.toList_eq]; by_cases h : a = b
  . subst h; simp
  rw [decide_eq_false h, beq_eq_false_iff_ne]; exact fun he => h (ByteArray.ext (Array.toList_inj.1 he))
variable {p q : ByteArray}
theorem aF.agB (b : BinOp) {u : Value} {v : PV} (hx : aQ fl x = some (.v .str p)) (hy : aQ fl y = some (.v .str q)) (hu : aC P (Op.stringOp b p q) = some u) (hf : af u = true) (hb : ∀ T : TypeId, (do eqGuard b T x y (.string p) (.string q); binOp b T (.string p) (.string q)) = Op.stringOp b p q) (hv : ∀ h S, aI h S v u) : aF P fl σ (.binOp b T x y T') v :=
  .bin hx hy fun h S a c ha hc => by
    obtain rfl := aE.str ha; obtain rfl := aE.str hc; refine ⟨u, hv h S, rfl, ?_⟩; unfold bU; rw [hb, hu]; simp only [Option.bind_some, hf, if_true]
theorem aF.L6 (hx : aQ fl x = some (.v .str p) := by rfl) (hy : aQ fl y = some (.v .str q) := by rfl) : aF P fl σ (.binOp .eql T x y T') (.v .bool (decide (p = q))) :=
  .agB .eql hx hy (u := .bool (decide (p = q))) (by rw [<- GP]; rfl) rfl (fun _ => rfl) fun h S => aE.ofBool _
theorem aF.ab4 (hx : aQ fl x = some (.v .str p) := by rfl) (hy : aQ fl y = some (.v .str q) := by rfl) : aF P fl σ (.binOp .neq T x y T') (.v .bool (decide (p ≠ q))) :=
  .agB .neq hx hy (u := .bool (decide (p ≠ q))) (by rw [decide_not, <- GP]; rfl) rfl (fun _ => rfl) fun h S => aE.ofBool _
theorem aF.OW (hb : p.size + q.size <= 1000000) (hx : aQ fl x = some (.v .str p) := by rfl) (hy : aQ fl y = some (.v .str q) := by rfl) : aF P fl σ (.binOp .add T x y T') (.v .str (p ++ q)) :=
  .agB .add hx hy (u := .string (p ++ q)) (by
    unfold Op.stringOp
    have h1 : IntKind.i64.max = 9223372036854775807 := by decide
    simp only []
    rw [if_neg (by omega)]; rfl) rfl (fun _ => rfl) fun h S => aE.ofStr _
end Go.Fs
namespace Go.Fs
variable {P : Program} {fl : VL} {σ γ : aM} {Q : PV -> aM -> Prop} {fn : Func}
theorem L5.row {r : ResultVar} {w : Value} {e : TypeId} {τ : Ty} {xs : List τ.den} (hr : fn.results = #[r]) (h1 : rY P fl [] r (.raw w)) (hQ : Q (.raw w) [(w, Cell.row e τ xs)]) : L5 P fn [] Q .ret fl [(w, Cell.row e τ xs)] :=
  ⟨rfl, [.raw w], by rw [hr]; exact .cons h1 .nil, hQ, .inr (.inr (.inl ⟨w, e, τ, xs, rfl, rfl, rfl⟩))⟩
end Go.Fs
namespace Go.Fs
variable {P : Program} {orc : FuncId -> List Value -> Heap -> Option (Value × Heap)}
theorem acM {k : IntKind} {x : Int} (h : Heap) (S : List Nat) (us : List Value) (hr : aX h S [.v (.int k) x] us) : us = [.int k x] := by
  obtain ⟨u, r, rfl, h1, h2⟩ := hr
  cases r with
  | nil => rw [aE.int h1]
  | cons a r => cases h2
theorem slI {fl : VL} {k : Nat} {κ : IntKind} {a b : Int} (hk : kN fl k = some (.v (.int κ) a)) (h : a = b) : kN fl k = some (.v (.int κ) b) := by rw [hk, h]
theorem dM {κ : IntKind} {a b : Int} (h : a = b) : PV.v (.int κ) a = PV.v (.int κ) b := by rw [h]
section
variable {h0 : Heap} {S0 : List Nat} {σ : aM} {ms : List Nat} {fl : VL} {ops : Array Oper} {n i mem : Nat} {l : List Oper} {K : VL -> aM -> Prop}
  {d : Tmp} {ty : TypeId} {pos : String} {after : Array Edge} {op : Op} {v : PV} {g : Option (Nat × Bool)} {bs nw : List Nat} {tail so : Bool}
theorem VD.co {b : Nat} (hc : aF P fl σ op v) (hk : VD P orc ops n l (i + 1) ((d, v) :: fl) (fG ((so && EV nw op) || v.jA) d nw) σ so (bs ++ [b]) mem tail K)
    (hb : aJ bs ⟨some d, op, ty, pos, after, g⟩ = b := by rfl) (hw : cV ops fl g = some true := by rfl) (hn : (Nat.blt d n && Nat.ble n 4000) = true := by rfl) :
    VD P orc ops n (⟨some d, op, ty, pos, after, g⟩ :: l) i fl nw σ so bs mem tail K := fun h0 G S0 t h ms segs I ho => by
  obtain ⟨n1, n2⟩ := fits hn; obtain ⟨u, e1, e2⟩ := hc.2 h (own σ ++ S0) t I.aH.rG I.cells; refine tQ.op (s' := ⟨t.set depth d u, h, bs ++ [b], segs, mem, tail⟩) ?_ (hk h0 G S0 _ h ms segs (I.set e1 n2) fun ht => (ho ht).set n2 fun hold hs a1 a2 a3 a4 a5 => ?_)
  . unfold eF; have sJ : b9 ops t ⟨some d, op, ty, pos, after, g⟩ = some true := cE I.aH hw; simp only [sJ, hc.1, if_true, e2, Nat.beq_refl, cond_true, bN n1, Option.map_some, hb]
  rcases Bool.or_eq_true_iff.1 hold with hold | hold
  . obtain ⟨o1, o2⟩ := aT hold; obtain ⟨u', f1, f2⟩ := hc.2 hs (own σ ++ S0) t (zS a4 o2) (a5 o1)
    have : u' = u := by
      have g1 := e2 none 0 "" #[] none h; rw [f2 none 0 "" #[] none h] at g1; simpa using g1
    rw [<- this]; exact f1
  exact (aI.jA hold e1).2 _ _
end
end Go.Fs
namespace Go.Fs
variable {P : Program} {orc : FuncId -> List Value -> Heap -> Option (Value × Heap)} {aR : Option Nat} {h h' h0 h1 h2 : Heap} {S S' S0 G : List Nat} {σ σ' j8 γ nE : aM} {t t' : Tr} {ms : List Nat} {fl nw : VL} {ops : Array Oper} {n i mem : Nat} {l : List Oper} {K : VL -> aM -> Prop} {Q : Ex -> VL -> aM -> Prop}
  {d : Tmp} {ty : TypeId} {pos : String} {after : Array Edge} {op : Op} {v pv : PV} {g : Option (Nat × Bool)} {bs U9 : List Nat} {tail so : Bool}
inductive L7 (fl : VL) (γ : aM) : VL -> Prop where
  | nil : L7 fl γ []
  | cons {k : Nat} {p p' : PV} {r : VL} (hk : kN fl k = some p) (hc : Co γ p p') (hr : L7 fl γ r) : L7 fl γ ((k, p') :: r)
theorem Iv.UB : ∀ {γ : aM}, Iv h0 G S0 h (γ ++ σ) t ms fl -> Iv h0 G S0 h σ t ms (fl)
  | [], I => I
  | _ :: γ, I => Iv.UB (γ := γ) I.forget
theorem Iv.L8 (I : Iv h0 G S0 h (γ ++ σ) t ms fl) (hs : L7 fl γ nw) : Iv h0 G S0 h σ t ms (nw ++ fl) := by
  have I' := I.UB
  have x7 : eR h (own σ ++ S0) t (nw ++ fl) := by
    induction hs with
    | nil => exact I'.aH
    | cons hk hc hr ih =>
      refine ih.cons (Co.ok (σ := γ) (S0 := own σ ++ S0) (fun c hd => ?_) (fun b hb => ?_) hc ?_)
      . have := I.cells c (List.mem_append_left _ hd); rw [cQ, List.append_assoc] at this; exact this
      . have h1 := I.apart; rw [cQ] at h1; intro hm; rcases List.mem_append.1 hm with hm | hm
        . exact (List.nodup_append.1 h1).2.2 b hb b hm rfl
        exact (I.new b (by rw [cQ]; exact List.mem_append_left _ hb)).2 hm
      have := I.aH _ _ hk; rw [cQ, List.append_assoc] at this; exact this
  exact { I' with aH := x7 }
theorem U.L8 {a : Code} (γ : aM) (nw : VL) (L3 : γ ++ σ = j8) (hs : L7 fl γ nw) (hx : U P orc aR a n (nw ++ fl) σ Q) : U P orc aR a n fl j8 Q := fun h0 G S0 t h ms I => by
  subst L3; exact hx h0 G S0 t h ms (I.L8 hs)
end Go.Fs
namespace Go.Fs
variable {P : Program} {orc : FuncId -> List Value -> Heap -> Option (Value × Heap)} {fl : VL} {σ γ : aM} {T : TypeId} {τ : Ty}
theorem row_one {h : Heap} {S : List Nat} {w : Value} {e : TypeId} {xs : List τ.den} (hc : bL h S w (.row e τ xs)) : aN w = true := by
  rcases hc with ⟨h1, _⟩ | ⟨b, rs, m, h1, _⟩
  . rw [show w = _ from h1]; rfl
  rw [show w = _ from h1]; rfl
theorem J.one {orc : FuncId -> List Value -> Heap -> Option (Value × Heap)} {ops : Array Oper} {n : Nat} {l : List Oper} {K : VL -> aM -> Prop} {w : Value} {e : TypeId} {xs : List τ.den} (hm : (w, Cell.row e τ xs) ∈ σ) (hk : aN w = true -> J P orc ops n l fl σ K) : J P orc ops n l fl σ K := fun h0 G S0 t h ms I => hk (row_one (I.cells _ hm)) h0 G S0 t h ms I
theorem VD.one {orc : FuncId -> List Value -> Heap -> Option (Value × Heap)} {ops : Array Oper} {n i mem : Nat} {l : List Oper} {K : VL -> aM -> Prop} {nw bs : List Nat} {so tail : Bool} {w : Value} {e : TypeId} {xs : List τ.den} (hm : (w, Cell.row e τ xs) ∈ σ) (hk : aN w = true -> VD P orc ops n l i fl nw σ so bs mem tail K) : VD P orc ops n l i fl nw σ so bs mem tail K := fun h0 G S0 t h ms segs I => hk (row_one (I.cells _ hm)) h0 G S0 t h ms segs I
theorem VD.perm {orc : FuncId -> List Value -> Heap -> Option (Value × Heap)} {ops : Array Oper} {n i mem : Nat} {l : List Oper} {K : VL -> aM -> Prop} {nw bs : List Nat} {so tail : Bool} {σ' : aM} (hp : σ.Perm σ') (hx : VD P orc ops n l i fl nw σ' false bs mem tail K) : VD P orc ops n l i fl nw σ so bs mem tail K := fun h0 G S0 t h ms segs I ho => hx h0 G S0 t h ms segs (I.perm hp) fun ht => by
  obtain ⟨hs, a1, a2, a3, a4, a5, a6⟩ := ho ht; refine ⟨hs, a1, a2, a3, a4, fun k pv hk hn => (a5 k pv hk hn).nx (h := hs) fun b ob hg hb => ⟨hg, fun hm => hb ?_⟩, fun e => by cases e⟩; rcases List.mem_append.1 hm with hm | hm
  . obtain ⟨c, hc, hb⟩ := List.mem_flatMap.1 hm; exact List.mem_append_left _ (List.mem_flatMap.2 ⟨c, hp.mem_iff.2 hc, hb⟩)
  exact List.mem_append_right _ hm
end Go.Fs
namespace Go.Fs
open Go.RowKit (Below)
variable {P : Program} {ops : Array Oper} {n : Nat}
theorem acN {a b : Value} (h : xV a b = true) : a = b := by
  unfold xV at h; split at h
  . obtain ⟨h1, h2⟩ := aT h; rw [of_decide_eq_true h1, of_decide_eq_true h2]
  . rw [of_decide_eq_true h]
  cases h
theorem OX : ∀ {a b : List Value}, E5 a b = true -> a = b
  | [], [], _ => rfl
  | [], _ :: _, h => by cases h
  | _ :: _, [], h => by cases h
  | a :: r, b :: q, h => by
    obtain ⟨h1, h2⟩ := aT (h : (xV a b && E5 r q) = true); rw [acN h1, OX h2]
theorem acO {a b : aU} (h : E6 a b = true) : a = b := by
  unfold E6 at h; split at h
  . obtain ⟨h, h1⟩ := aT h; obtain ⟨h, h2⟩ := aT h; obtain ⟨h, h3⟩ := aT h; rw [bD h, OX h3, of_decide_eq_true h2, of_decide_eq_true h1]
  cases h
theorem uC {b : Nat} {ob : aU} : ∀ {l : List (Nat × aU)}, look l b = some ob -> (b, ob) ∈ l
  | [], h => by cases h
  | (c, oc) :: r, h => by
    simp only [look] at h
    cases hc : Nat.beq c b with
    | true =>
      rw [hc] at h; simp only [cond_true, Option.some.injEq] at h
      rw [bD hc, h]; exact List.mem_cons_self
    | false =>
      rw [hc] at h; simp only [cond_false] at h; exact List.mem_cons_of_mem _ (uC h)
theorem OY {rd : List (Nat × aU)} {h : Heap} (hk : sU rd h = true) {b : Nat} {ob : aU} (hl : look rd b = some ob) : h.get b = some ob := by
  have := List.all_eq_true.1 hk _ (uC hl); simp only at this; split at this
  . rename_i o2 hg; rw [hg, acO this]
  cases this
def qU (P : Program) (rd : List (Nat × aU)) (step : Oper -> (Operand -> Value) -> Heap -> Option (Value × Heap)) (ops : Array Oper) (n : Nat) : List Oper -> Nat -> cM -> Option cM
  | [], _, s => bif sU rd s.h then some s else none
  | o :: r, i, s => bif sU rd s.h then
      match eF step ops n o i s with
      | some s' => qU P rd step ops n r (i + 1) s'
      | none => match sC P rd ops n o s with
        | some s' => qU P rd step ops n r (i + 1) s'
        | none => none
    else none
def L9 (P : Program) (h0 : Heap) (step : Oper -> (Operand -> Value) -> Heap -> Option (Value × Heap)) (ops : Array Oper) (n : Nat) : List Oper -> Nat -> cM -> List (Nat × aU) -> List (Nat × aU)
  | [], _, _, l => l
  | o :: r, i, s, l => match eF step ops n o i s with
    | some s' => L9 P h0 step ops n r (i + 1) s' l
    | none => match I6 P h0 ops n o s with
      | some (s', b) => match h0.get (b - 1) with
        | some ob => L9 P h0 step ops n r (i + 1) s' ((b - 1, ob) :: l)
        | none => l
      | none => l
def IA (P : Program) (h0 : Heap) (step : Oper -> (Operand -> Value) -> Heap -> Option (Value × Heap)) (ops : Array Oper) (n : Nat) (s : cM) (rd : List (Nat × aU)) : Option cM :=
  bif rd.all fun p => Nat.blt p.1 h0.next then qU P rd step ops n ops.toList 0 s else none
theorem LA {call : FuncId -> List Value -> Heap -> Option (Value × Heap)} {yield : Nat -> List Value -> Heap -> Option (Value × Heap)} {X : Nat -> aU -> Prop} {rd : List (Nat × aU)} {o : Oper} {i : Nat} {s s' : cM}
    (hf : sC P rd ops n o s = some s') (hX : ∀ c ob, look rd c = some ob -> X c ob) :
    s'.bs = s.bs ++ [aJ s.bs o] /\ vD (bQ P call yield) ops n X o i s s' := by
  unfold sC at hf; split at hf
  . rename_i T a hw cU; split at hf
    . rename_i p bI; split at hf
      . rename_i ob hg; split at hf
        . rename_i v hv; obtain ⟨t, h3, h4⟩ := Option.map_eq_some_iff.1 hf; subst h4; refine ⟨rfl, .still hw v [(p.block, ob)] (fun c oc hc => ?_) ?_ h3 rfl rfl rfl rfl⟩
          . simp only [look] at hc
            cases wU : Nat.beq p.block c with
            | true =>
              rw [wU] at hc; simp only [cond_true, Option.some.injEq] at hc; obtain rfl := bD wU; subst hc
              exact hX _ _ hg
            | false => rw [wU] at hc; cases hc
          unfold bQ; rw [cU]; simp only [hv, Option.map_some]
        cases hf
      cases hf
    cases hf
  cases hf
theorem AU {call : FuncId -> List Value -> Heap -> Option (Value × Heap)} {yield : Nat -> List Value -> Heap -> Option (Value × Heap)} {rd : List (Nat × aU)} : ∀ (l : List Oper) (i : Nat) (s s' : cM), qU P rd (bQ P call yield) ops n l i s = some s' ->
    ∃ st : Nat -> cM, st i = s /\ st (i + l.length) = s' /\ (∀ q, i <= q -> q <= i + l.length -> sU rd (st q).h = true) /\
    ∀ j o, l[j]? = some o -> ∀ X : Nat -> aU -> Prop, (∀ c ob, look rd c = some ob -> X c ob) -> (st (i + j + 1)).bs = (st (i + j)).bs ++ [aJ (st (i + j)).bs o] /\ vD (bQ P call yield) ops n X o (i + j) (st (i + j)) (st (i + j + 1))
  | [], i, s, s', h => by
    simp only [qU] at h; obtain ⟨h1, h2⟩ := aL h; simp only [Option.some.injEq] at h2; subst h2
    exact ⟨fun _ => s, rfl, rfl, fun _ _ _ => h1, fun j o hj => by simp at hj⟩
  | o :: l, i, s, s', h => by
    simp only [qU] at h; obtain ⟨aZ, h⟩ := aL h
    have key : ∀ s1, qU P rd (bQ P call yield) ops n l (i + 1) s1 = some s' ->
        (∀ X : Nat -> aU -> Prop, (∀ c ob, look rd c = some ob -> X c ob) -> s1.bs = s.bs ++ [aJ s.bs o] /\ vD (bQ P call yield) ops n X o i s s1) ->
      ∃ st : Nat -> cM, st i = s /\ st (i + (o :: l).length) = s' /\ (∀ q, i <= q -> q <= i + (o :: l).length -> sU rd (st q).h = true) /\
        ∀ j o', (o :: l)[j]? = some o' -> ∀ X : Nat -> aU -> Prop, (∀ c ob, look rd c = some ob -> X c ob) -> (st (i + j + 1)).bs = (st (i + j)).bs ++ [aJ (st (i + j)).bs o'] /\ vD (bQ P call yield) ops n X o' (i + j) (st (i + j)) (st (i + j + 1)) := fun s1 hr hd => by
      obtain ⟨st, h1, h2, hq, h3⟩ := AU l (i + 1) s1 s' hr; refine ⟨fun k => if k = i then s else st k, by simp, ?_, fun q hq1 xO => ?_, fun j o' hj X hX => ?_⟩
      . simp only [List.length_cons]; rw [if_neg (by omega), <- h2]; congr 1; omega
      . rw [List.length_cons] at xO; by_cases e : q = i
        . subst e; simpa using aZ
        simp only [if_neg e]; exact hq q (by omega) (by omega)
      cases j with
      | zero =>
        simp at hj; subst hj
        simpa [h1] using hd X hX
      | succ j =>
        simp only [List.getElem?_cons_succ] at hj; have := h3 j o' hj X hX; rw [show i + 1 + j = i + (j + 1) by omega] at this; simp only; rw [if_neg (by omega), if_neg (by omega)]; exact this
    split at h
    . rename_i s1 lC; exact key s1 h fun X _ => I5 lC
    split at h
    . rename_i s1 lC; exact key s1 h fun X hX => LA lC hX
    cases h
theorem YP {call : FuncId -> List Value -> Heap -> Option (Value × Heap)} {yield : Nat -> List Value -> Heap -> Option (Value × Heap)} {t0 : Tr} {h0 : Heap} {s : cM} {rd : List (Nat × aU)} (h : IA P h0 (bQ P call yield) ops n ⟨t0, h0, [], [], 0, false⟩ rd = some s) : ∃ st, Trace (bQ P call yield) ops n st t0 h0 /\ st ops.size = s := by
  unfold IA at h; obtain ⟨hb, h⟩ := aL h; obtain ⟨st, h1, h2, hq, h3⟩ := AU _ _ _ _ h
  have wT : st ops.size = s := by simpa using h2
  refine ⟨st, ⟨h1, fun i o ho => ?_⟩, wT⟩; have := h3 i o (by simpa using ho) (fun b ob => h0.get b = some ob /\ b < h0.next /\ (b < (st ops.size).h.low \/ ∀ q, q <= ops.size -> (st q).h.get b = some ob)) (fun c ob hc => ?_)
  . simpa only [Nat.zero_add] using this
  have iX : ∀ q, q <= ops.size -> (st q).h.get c = some ob := fun q xO => OY (hq q (Nat.zero_le _) (by simpa using xO)) hc; have h0 := iX 0 (Nat.zero_le _); rw [h1] at h0; exact ⟨h0, iH (List.all_eq_true.1 hb _ (uC hc)), .inr iX⟩
theorem AV {call : FuncId -> List Value -> Heap -> Option (Value × Heap)} {yield : Nat -> List Value -> Heap -> Option (Value × Heap)} {rd : List (Nat × aU)} : ∀ (l : List Oper) (i : Nat) (s s' : cM), fX P rd (bQ P call yield) ops n l i s = some s' ->
    ∃ st : Nat -> cM, st i = s /\ st (i + l.length) = s' /\ (∀ q, i <= q -> q <= i + l.length -> sU rd (st q).h = true) /\
    ∀ j o, l[j]? = some o -> ∀ X : Nat -> aU -> Prop, (∀ c ob, look rd c = some ob -> X c ob) -> (st (i + j + 1)).bs = (st (i + j)).bs ++ [aJ (st (i + j)).bs o] /\ vD (bQ P call yield) ops n X o (i + j) (st (i + j)) (st (i + j + 1))
  | [], i, s, s', h => by
    simp only [fX] at h; obtain ⟨h1, h2⟩ := aL h; simp only [Option.some.injEq] at h2; subst h2
    exact ⟨fun _ => s, rfl, rfl, fun _ _ _ => h1, fun j o hj => by simp at hj⟩
  | o :: l, i, s, s', h => by
    simp only [fX] at h; obtain ⟨aZ, h⟩ := aL h
    have key : ∀ s1, fX P rd (bQ P call yield) ops n l (i + 1) s1 = some s' ->
        (∀ X : Nat -> aU -> Prop, (∀ c ob, look rd c = some ob -> X c ob) -> s1.bs = s.bs ++ [aJ s.bs o] /\ vD (bQ P call yield) ops n X o i s s1) ->
      ∃ st : Nat -> cM, st i = s /\ st (i + (o :: l).length) = s' /\ (∀ q, i <= q -> q <= i + (o :: l).length -> sU rd (st q).h = true) /\
        ∀ j o', (o :: l)[j]? = some o' -> ∀ X : Nat -> aU -> Prop, (∀ c ob, look rd c = some ob -> X c ob) -> (st (i + j + 1)).bs = (st (i + j)).bs ++ [aJ (st (i + j)).bs o'] /\ vD (bQ P call yield) ops n X o' (i + j) (st (i + j)) (st (i + j + 1)) := fun s1 hr hd => by
      obtain ⟨st, h1, h2, hq, h3⟩ := AV l (i + 1) s1 s' hr; refine ⟨fun k => if k = i then s else st k, by simp, ?_, fun q hq1 xO => ?_, fun j o' hj X hX => ?_⟩
      . simp only [List.length_cons]; rw [if_neg (by omega), <- h2]; congr 1; omega
      . rw [List.length_cons] at xO; by_cases e : q = i
        . subst e; simpa using aZ
        simp only [if_neg e]; exact hq q (by omega) (by omega)
      cases j with
      | zero =>
        simp at hj; subst hj
        simpa [h1] using hd X hX
      | succ j =>
        simp only [List.getElem?_cons_succ] at hj; have := h3 j o' hj X hX; rw [show i + 1 + j = i + (j + 1) by omega] at this; simp only; rw [if_neg (by omega), if_neg (by omega)]; exact this
    split at h
    . rename_i s1 lC; exact key s1 h fun X hX => LA lC hX
    split at h
    . rename_i s1 lC; exact key s1 h fun X _ => I5 lC
    cases h
theorem YQ {call : FuncId -> List Value -> Heap -> Option (Value × Heap)} {yield : Nat -> List Value -> Heap -> Option (Value × Heap)} {t0 : Tr} {h0 : Heap} {s : cM} {rd : List (Nat × aU)} (h : C5 P h0 (bQ P call yield) ops n ⟨t0, h0, [], [], 0, false⟩ rd = some s) : ∃ st, Trace (bQ P call yield) ops n st t0 h0 /\ st ops.size = s := by
  unfold C5 at h; obtain ⟨hb, h⟩ := aL h; obtain ⟨st, h1, h2, hq, h3⟩ := AV _ _ _ _ h
  have wT : st ops.size = s := by simpa using h2
  refine ⟨st, ⟨h1, fun i o ho => ?_⟩, wT⟩; have := h3 i o (by simpa using ho) (fun b ob => h0.get b = some ob /\ b < h0.next /\ (b < (st ops.size).h.low \/ ∀ q, q <= ops.size -> (st q).h.get b = some ob)) (fun c ob hc => ?_)
  . simpa only [Nat.zero_add] using this
  have iX : ∀ q, q <= ops.size -> (st q).h.get c = some ob := fun q xO => OY (hq q (Nat.zero_le _) (by simpa using xO)) hc; have h0 := iX 0 (Nat.zero_le _); rw [h1] at h0; exact ⟨h0, iH (List.all_eq_true.1 hb _ (uC hc)), .inr iX⟩
variable {B : Nat} {w0 : World} {S : Nat -> Prop} {ρ0 : Ren} {call : FuncId -> List Value -> Heap -> Option (Value × Heap)} {yield : Nat -> List Value -> Heap -> Option (Value × Heap)} {t0 : Tr} {h0 : Heap}
theorem YR (gX : lF P B w0 call) (p7 : fT P B w0 yield) (aZ : oP ops = true) {s : cM} {rd : List (Nat × aU)} (hf : IA P h0 (bQ P call yield) ops n ⟨t0, h0, [], [], 0, false⟩ rd = some s)
    {w : World} {a : Act} (hr : HR P ρ0 S B w0 h0 w) (ht : kL ρ0 S t0 n a.tmps) {r : Option Nat} {nn : Nat} {Q : Exit -> Act -> World -> Prop}
    (k : ∀ bG w' a', aO P B w0 ρ0 bG S h0 s.h w w' -> kL bG (Ext S h0 s.h) s.t n a'.tmps -> a'.defers = a.defers -> Q .normal a' w') (t : Nat) :
    wpOpsIn (lE r) nn P ops Q (Region.schedule true ops t) a w := wY gX p7 aZ (YP hf) hr ht k t
end Go.Fs
namespace Go.Fs
variable {P : Program}
theorem UC {t : TypeId} {a x : Value} {h h' : Heap} {b o : Nat} (ha : a = .pointer (some ⟨b, o, none⟩)) (hs : gF P t a x h = some h') (c : Nat) (hc : c ≠ b) : h'.get c = h.get c := by
  subst ha; unfold gF at hs; simp only at hs; split at hs
  . rename_i e cs more i hg hi; split at hs
    . simp only [Option.some.injEq] at hs; subst hs; rw [Heap.dE hg, if_neg hc]
    cases hs
  cases hs
theorem yM {e : TypeId} {m : Nat} {news : List Value} {h : Heap} {v : Value} {h' : Heap} (hg : grown e m news h = (v, h')) (c : Nat) (hc : c < h.next) : h'.get c = h.get c := by
  unfold grown at hg; simp only [Prod.mk.injEq] at hg; obtain ⟨_, rfl⟩ := hg; rw [Heap.bB, if_neg (by omega)]
theorem YS {e : TypeId} {i : TypeInfo} {s : Value} {m n mk b o : Nat} {news : List Value} {h h' : Heap} {v : Value} (ha : s = .slice (some ⟨b, o, none⟩) n mk) (hs : n7 e i s m news h = some (v, h')) (c : Nat) (hc : c ≠ b) (hn : c < h.next) : h'.get c = h.get c := by
  subst ha; unfold n7 at hs; simp only at hs
  cases h1 : (Nat.beq m 0 && Nat.beq mk 1) with
  | true =>
    rw [h1] at hs; simp only [cond_true, Option.some.injEq, Prod.mk.injEq] at hs
    rw [hs.2]
  | false =>
    rw [h1] at hs; simp only [cond_false] at hs
    cases hg : h.get b with
    | none => rw [hg] at hs; cases hs
    | some ob =>
      rw [hg] at hs
      cases ob with
      | row e' cs own more =>
        simp only at hs; obtain ⟨_, hs⟩ := aL hs
        cases h3 : Nat.beq mk 1 with
        | true =>
          rw [h3] at hs; simp only [cond_true, Option.some.injEq] at hs
          exact yM hs c hn
        | false =>
          rw [h3] at hs; simp only [cond_false] at hs; obtain ⟨_, hs⟩ := aL hs
          cases h5 : Nat.ble (o + (n + m) * i.size) cs.length with
          | true =>
            rw [h5] at hs; simp only [cond_true, Option.some.injEq, Prod.mk.injEq] at hs; rw [<- hs.2]
            cases Nat.beq m 0 with
            | true => rfl
            | false => simp only [cond_false]; rw [Heap.dE hg, if_neg hc]
          | false =>
            rw [h5] at hs; simp only [cond_false] at hs
            cases more with
            | false =>
              simp only [Bool.not_false, cond_true, Option.some.injEq] at hs
              exact yM hs c hn
            | true =>
              simp only [Bool.not_true, cond_false] at hs; obtain ⟨_, hs⟩ := aL hs; simp only [Option.some.injEq] at hs
              rw [yM hs c hn, Heap.cJ, if_neg hc]
      | _ => cases hs
theorem R7 {at_ : Array TypeId} {s x : Value} {n mk b o : Nat} {h h' : Heap} {v : Value} (ha : s = .slice (some ⟨b, o, none⟩) n mk) (hs : dR P at_ s x h = some (v, h')) (c : Nat) (hc : c ≠ b) (hn : c < h.next) : h'.get c = h.get c := by
  unfold dR at hs; split at hs
  . split at hs
    . split at hs
      . split at hs
        . split at hs
          . obtain ⟨_, hs⟩ := aL hs; exact YS ha hs c hc hn
          cases hs
        cases hs
      cases hs
    cases hs
  cases hs
theorem R8 {call : FuncId -> List Value -> Heap -> Option (Value × Heap)} {yield : Nat -> List Value -> Heap -> Option (Value × Heap)} {o : Oper} {ev : Operand -> Value} {h h' : Heap} {v : Value} {k : Nat}
    (hs : bQ P call yield o ev h = some (v, h')) (ht : sB o.op ev = some k) (c : Nat) (hc : c ≠ k) (hn : c < h.next) : h'.get c = h.get c := by
  unfold sB at ht; split at ht
  . rename_i T a x cU; split at ht
    . rename_i b o' bI; simp only [Option.some.injEq] at ht; subst ht; unfold bQ at hs; rw [cU] at hs; simp only at hs; obtain ⟨h2, h3, h4⟩ := Option.map_eq_some_iff.1 hs; simp only [Prod.mk.injEq] at h4; rw [<- h4.2]; exact UC bI h3 c hc
    cases ht
  . rename_i cU; split at ht
    . rename_i b o' n' mk' rest bI; simp only [Option.some.injEq] at ht; subst ht; unfold bQ at hs; rw [cU] at hs; simp only at hs; unfold wD at hs; rw [bI] at hs
      cases rest with
      | nil => cases hs
      | cons x rest =>
        cases rest with
        | nil => exact R7 rfl hs c hc hn
        | cons y rest => cases hs
    cases ht
  cases ht
section
variable {h0 : Heap} {ops : Array Oper} {n : Nat} {call : FuncId -> List Value -> Heap -> Option (Value × Heap)} {yield : Nat -> List Value -> Heap -> Option (Value × Heap)}
structure LB (P : Program) (call : FuncId -> List Value -> Heap -> Option (Value × Heap)) (yield : Nat -> List Value -> Heap -> Option (Value × Heap)) (ops : Array Oper) (n : Nat) (h0 : Heap) (rd chg : List Nat) (o : Oper) (i : Nat) (s s' : cM) : Prop where
  bs : s'.bs = s.bs ++ [aJ s.bs o]
  EG : vD (bQ P call yield) ops n (fun b ob => h0.get b = some ob /\ b < h0.next /\ b ∈ rd) o i s s'
  next : s.h.next <= s'.h.next
  aV : ∀ b, b < s.h.next -> b ∉ chg -> s'.h.get b = s.h.get b
theorem vD.mono {step : Oper -> (Operand -> Value) -> Heap -> Option (Value × Heap)} {X X' : Nat -> aU -> Prop} {o : Oper} {i : Nat} {s s' : cM} (h : vD step ops n X o i s s') (hX : ∀ b ob, X b ob -> X' b ob) : vD step ops n X' o i s s' := by
  cases h with
  | skip hw hp hh hs hm ht => exact .skip hw hp hh hs hm ht
  | calm hw hc v h' cO hn hp hh hs hm ht => exact .calm hw hc v h' cO hn hp hh hs hm ht
  | still hw v aB hX0 cO hp hh hs hm ht => exact .still hw v aB (fun b ob hl => hX b ob (hX0 b ob hl)) cO hp hh hs hm ht
  | mem hw hc v h' ord ho lX cO hn hp hm hs fH hk => exact .mem hw hc v h' ord ho lX cO hn hp hm hs fH hk
theorem LB.mono {rd rd' chg D5 : List Nat} {o : Oper} {i : Nat} {s s' : cM} (h : LB P call yield ops n h0 rd chg o i s s') (h1 : ∀ b ∈ rd, b ∈ rd') (h2 : ∀ b ∈ chg, b ∈ D5) : LB P call yield ops n h0 rd' D5 o i s s' :=
  ⟨h.bs, h.EG.mono fun b ob ⟨a, b1, c⟩ => ⟨a, b1, h1 b c⟩, h.next, fun b hb hn => h.aV b hb fun hm => hn (h2 b hm)⟩
theorem UD {lo hi : Nat} {l aB : List (Nat × aU)} {c : Nat} (hc : c < lo) : look (bE lo hi l ++ aB) c = look aB c := by
  rw [iB]
  cases hl : look (bE lo hi l) c with
  | none => rfl
  | some o => have := (dS _ _ _ hl).1; omega
theorem R9 {o : Oper} {i : Nat} {x x' : uL} (hw : b9 ops x.1.t o = some true) (hc : calm o.op = false) (hf : pG P (bQ P call yield) ops n o i x = some x') :
    x'.2.1 = x.2.1 /\ (∀ k ∈ x.2.2, k ∈ x'.2.2) /\ LB P call yield ops n h0 x'.2.1 x'.2.2 o i x.1 x'.1 := by
  unfold pG at hf; simp only at hf; generalize fU : Nat.beq (x.1.mem &&& aJ x.1.bs o) x.1.mem = ord at hf
  cases mI : (x.1.tail && !ord) with
  | true => rw [mI] at hf; cases hf
  | false =>
    rw [mI] at hf; simp only [cond_false] at hf
    have lX : x.1.tail = true -> ord = true := fun h => by rw [h] at mI; simpa using mI
    split at hf
    . rename_i v h' cO
      cases bX : Nat.blt h'.next x.1.h.next with
      | true => rw [bX] at hf; cases hf
      | false =>
        rw [bX] at hf; simp only [cond_false] at hf
        have hn : x.1.h.next <= h'.next := by have := gI bX; omega
        split at hf
        . rename_i t hp
          cases dN : Nat.ble x.1.h.next h'.low with
          | true =>
            rw [dN] at hf; simp only [cond_true, Option.some.injEq] at hf; subst hf
            exact ⟨rfl, fun k hk => hk, rfl, .mem hw hc v h' ord fU.symm lX cO hn hp rfl rfl rfl (.inl ⟨eP dN, rfl, rfl, rfl⟩), hn, fun b hb _ => UD hb⟩
          | false =>
            rw [dN] at hf; simp only [cond_false] at hf; obtain ⟨h5, h6⟩ := aL hf; split at h6
            . rename_i k hk; simp only [Option.some.injEq] at h6; subst h6; refine ⟨rfl, fun k' QU => List.mem_cons_of_mem _ QU, rfl, .mem hw hc v h' ord fU.symm lX cO hn hp rfl rfl rfl (.inr ⟨h5, rfl, rfl, rfl⟩), hn, fun b hb hnb => ?_⟩; subst h5; have := R8 cO hk b (fun e => hnb (by subst e; exact List.mem_cons_self)) hb; exact this
            cases h6
        cases hf
    cases hf
theorem LC {o : Oper} {i : Nat} {x : uL} {v : Value} {b : List Nat} {t : Tr} (hw : b9 ops x.1.t o = some true) (hq : oE P h0 o.op (aA x.1.t) x.1.h.next = some (v, b)) (h1 : put n x.1.t o.dst v = some t) :
    vD (bQ P call yield) ops n (fun c ob => h0.get c = some ob /\ c < h0.next /\ c ∈ b ++ x.2.1) o i x.1 { x.1 with t, bs := x.1.bs ++ [aJ x.1.bs o] } := by
  unfold oE at hq; split at hq
  . rename_i T a cU; split at hq
    . rename_i b' o' bI; split at hq
      . rename_i ob hg; obtain ⟨h3, h4⟩ := aL hq; obtain ⟨v', h5, h6⟩ := Option.map_eq_some_iff.1 h4; simp only [Prod.mk.injEq] at h6; obtain ⟨rfl, rfl⟩ := h6; refine .still hw v' [(b', ob)] (fun c oc hl => ?_) ?_ h1 rfl rfl rfl rfl
        . simp only [look] at hl
          cases wU : Nat.beq b' c with
          | true =>
            rw [wU] at hl; simp only [cond_true, Option.some.injEq] at hl; obtain rfl := bD wU; subst hl
            exact ⟨hg, iH h3, List.mem_append_left _ List.mem_cons_self⟩
          | false => rw [wU] at hl; cases hl
        unfold bQ; rw [cU]; simp only [bI, h5, Option.map_some]
      cases hq
    cases hq
  . rename_i cU; split at hq
    . rename_i y lW; obtain ⟨v', h5, h6⟩ := Option.map_eq_some_iff.1 hq; simp only [Prod.mk.injEq] at h6; obtain ⟨rfl, rfl⟩ := h6; refine .still hw v' [] (fun c oc hl => by cases hl) ?_ h1 rfl rfl rfl rfl; unfold bQ; rw [cU]; simp only [wD, lW, List.map_cons, List.map_nil, h5, Option.map_some]
    cases hq
  . rename_i T a lo hi mx cU; split at hq
    . rename_i p' mk' bI; obtain ⟨v', h5, h6⟩ := Option.map_eq_some_iff.1 hq; simp only [Prod.mk.injEq] at h6; obtain ⟨rfl, rfl⟩ := h6; refine .still hw v' [] (fun c oc hl => by cases hl) ?_ h1 rfl rfl rfl rfl; unfold bQ; rw [cU]; simp only [bI, h5, Option.map_some]
    . rename_i b' o' n' mk' cA bI; split at hq
      . rename_i ob hg; obtain ⟨h3, h4⟩ := aL hq; obtain ⟨v', h5, h6⟩ := Option.map_eq_some_iff.1 h4; simp only [Prod.mk.injEq] at h6; obtain ⟨rfl, rfl⟩ := h6; refine .still hw v' [(b', ob)] (fun c oc hl => ?_) ?_ h1 rfl rfl rfl rfl
        . simp only [look] at hl
          cases wU : Nat.beq b' c with
          | true =>
            rw [wU] at hl; simp only [cond_true, Option.some.injEq] at hl; obtain rfl := bD wU; subst hl
            exact ⟨hg, iH h3, List.mem_append_left _ List.mem_cons_self⟩
          | false => rw [wU] at hl; cases hl
        unfold bQ; rw [cU]; simp only [bI, h5, Option.map_some]
      cases hq
    cases hq
  . rename_i s d y cU; split at hq
    . rename_i b' o' n' mk' bI; split at hq
      . rename_i ob hg; obtain ⟨h3, h4⟩ := aL hq; obtain ⟨v', h5, h6⟩ := Option.map_eq_some_iff.1 h4; simp only [Prod.mk.injEq] at h6; obtain ⟨rfl, rfl⟩ := h6; refine .still hw v' [(b', ob)] (fun c oc hl => ?_) ?_ h1 rfl rfl rfl rfl
        . simp only [look] at hl
          cases wU : Nat.beq b' c with
          | true =>
            rw [wU] at hl; simp only [cond_true, Option.some.injEq] at hl; obtain rfl := bD wU; subst hl
            exact ⟨hg, iH h3, List.mem_append_left _ List.mem_cons_self⟩
          | false => rw [wU] at hl; cases hl
        unfold bQ; rw [cU]; simp only [bI]; rw [if_neg (by rw [show af (Value.slice (some ⟨b', o', none⟩) n' mk') = false by cases n' <;> cases mk' <;> rfl]; simp)]; simp only [h5, Option.map_some]
      cases hq
    cases hq
  cases hq
theorem NV {o : Oper} {i : Nat} {x x' : uL} (hf : fC P h0 (bQ P call yield) ops n o i x = some x') :
    (∀ b ∈ x.2.1, b ∈ x'.2.1) /\ (∀ k ∈ x.2.2, k ∈ x'.2.2) /\ LB P call yield ops n h0 x'.2.1 x'.2.2 o i x.1 x'.1 := by
  unfold fC at hf; simp only at hf; split at hf
  . rename_i hw; obtain ⟨t, h1, h2⟩ := Option.map_eq_some_iff.1 hf; subst h2; exact ⟨fun _ h => h, fun _ h => h, rfl, .skip hw h1 rfl rfl rfl rfl, Nat.le_refl _, fun _ _ _ => rfl⟩
  . cases hf
  rename_i hw; split at hf
  . rename_i hc; split at hf
    . rename_i v h' cO; obtain ⟨h3, h4⟩ := aL hf; obtain ⟨t, h1, h2⟩ := Option.map_eq_some_iff.1 h4; subst h2; exact ⟨fun _ h => h, fun _ h => h, rfl, .calm hw hc v h' cO (bD h3) h1 rfl rfl rfl rfl, Nat.le_refl _, fun _ _ _ => rfl⟩
    split at hf
    . rename_i v b hq; obtain ⟨t, h1, h2⟩ := Option.map_eq_some_iff.1 hf; subst h2; exact ⟨fun _ h => List.mem_append_right _ h, fun _ h => h, rfl, LC hw hq h1, Nat.le_refl _, fun _ _ _ => rfl⟩
    cases hf
  rename_i hc
  have hc : calm o.op = false := by simpa using hc
  split at hf
  . rename_i v b hq; obtain ⟨t, h1, h2⟩ := Option.map_eq_some_iff.1 hf; subst h2; refine ⟨fun _ h => List.mem_append_right _ h, fun _ h => h, rfl, ?_, Nat.le_refl _, fun _ _ _ => rfl⟩; exact LC hw hq h1
  obtain ⟨e1, e2, e3⟩ := R9 (h0 := h0) hw hc hf; exact ⟨fun b hb => by rw [e1]; exact hb, e2, e3⟩
theorem GQ : ∀ (l : List Oper) (i : Nat) (x x' : uL), iU P h0 (bQ P call yield) ops n l i x = some x' -> (∀ b ∈ x.2.1, b ∈ x'.2.1) /\ (∀ k ∈ x.2.2, k ∈ x'.2.2) /\ ∃ st : Nat -> cM, st i = x.1 /\ st (i + l.length) = x'.1 /\
    ∀ j o, l[j]? = some o -> LB P call yield ops n h0 x'.2.1 x'.2.2 o (i + j) (st (i + j)) (st (i + j + 1))
  | [], i, x, x', h => by
    simp only [iU, Option.some.injEq] at h; subst h
    exact ⟨fun _ h => h, fun _ h => h, fun _ => x.1, rfl, rfl, fun j o hj => by simp at hj⟩
  | o :: l, i, x, x', h => by
    simp only [iU] at h; split at h
    . rename_i x1 LD; obtain ⟨a1, a2, a3⟩ := NV LD; obtain ⟨b1, b2, st, h1, h2, h3⟩ := GQ l (i + 1) x1 x' h; refine ⟨fun b hb => b1 b (a1 b hb), fun k hk => b2 k (a2 k hk), fun k => if k = i then x.1 else st k, by simp, ?_, fun j o' hj => ?_⟩
      . simp only [List.length_cons]; rw [if_neg (by omega), <- h2]; congr 1; omega
      cases j with
      | zero =>
        simp at hj; subst hj
        simpa [h1] using a3.mono b1 b2
      | succ j =>
        simp only [List.getElem?_cons_succ] at hj; have := h3 j o' hj; rw [show i + 1 + j = i + (j + 1) by omega] at this; simp only; rw [if_neg (by omega), if_neg (by omega)]; exact this
    cases h
theorem YT {t0 : Tr} {s : cM} (h : sD P h0 (bQ P call yield) ops n ⟨t0, h0, [], [], 0, false⟩ = some s) : ∃ st, Trace (bQ P call yield) ops n st t0 h0 /\ st ops.size = s := by
  unfold sD at h
  cases q7 : wG ops with
  | true =>
    rw [q7] at h
    exact YQ h
  | false =>
  rw [q7] at h; simp only [cond_false] at h; split at h
  . rename_i x hr; obtain ⟨hl, h⟩ := aL h; simp only [Option.some.injEq] at h; subst h; obtain ⟨_, _, st, h1, h2, h3⟩ := GQ _ _ _ _ hr
    have wT : st ops.size = x.1 := by simpa using h2
    have U8 : ∀ i o, ops[i]? = some o -> LB P call yield ops n h0 x.2.1 x.2.2 o i (st i) (st (i + 1)) := fun i o ho => by
      have := h3 i o (by simpa using ho); simpa only [Nat.zero_add] using this
    have p8 : ∀ b ∈ x.2.1, b ∉ x.2.2 := fun b hb hk => by
      have := List.all_eq_true.1 (List.all_eq_true.1 hl b hb) b hk; simp at this
    have cO : ∀ q, q <= ops.size -> h0.next <= (st q).h.next /\ ∀ b, b < h0.next -> b ∉ x.2.2 -> (st q).h.get b = h0.get b := fun q => by
      induction q with
      | zero => intro _; rw [h1]; exact ⟨Nat.le_refl _, fun _ _ _ => rfl⟩
      | succ q ih =>
        intro hq; obtain ⟨i1, i2⟩ := ih (by omega); have hd := U8 q ops[q] (Array.getElem?_eq_getElem (by omega)); exact ⟨Nat.le_trans i1 hd.next, fun b hb hn => (hd.aV b (by omega) hn).trans (i2 b hb hn)⟩
    refine ⟨st, ⟨h1, fun i o ho => ?_⟩, wT⟩; have hd := U8 i o ho; refine ⟨hd.bs, hd.EG.mono fun b ob ⟨a, b1, c⟩ => ⟨a, b1, .inr fun q hq => ?_⟩⟩; rw [(cO q hq).2 b b1 (p8 b c)]; exact a
  cases h
end
section
variable {call : FuncId -> List Value -> Heap -> Option (Value × Heap)} {yield : Nat -> List Value -> Heap -> Option (Value × Heap)} {ops : Array Oper} {n : Nat} {t0 : Tr} {h0 : Heap} {S : Nat -> Prop} {ρ0 : Ren} {B : Nat} {w0 : World}
theorem YU (gX : lF P B w0 call) (p7 : fT P B w0 yield) (aZ : oP ops = true) {s : cM} (hf : sD P h0 (bQ P call yield) ops n ⟨t0, h0, [], [], 0, false⟩ = some s)
    {w : World} {a : Act} (hr : HR P ρ0 S B w0 h0 w) (ht : kL ρ0 S t0 n a.tmps) {r : Option Nat} {nn : Nat} {Q : Exit -> Act -> World -> Prop}
    (k : ∀ bG w' a', aO P B w0 ρ0 bG S h0 s.h w w' -> kL bG (Ext S h0 s.h) s.t n a'.tmps -> a'.defers = a.defers -> Q .normal a' w') (t : Nat) :
    wpOpsIn (lE r) nn P ops Q (Region.schedule true ops t) a w := wY gX p7 aZ (YT hf) hr ht k t
end
end Go.Fs
