/- Parts of the proof: an evaluator of the model, what it is sound for, and contracts of functions. No condition. -/
import Derived.Test.YtgkcodkgcnbdeaaGreatP3
import Derived.Test.YtgkcodkgcnbdeaaGreatP2
import Derived.Laws.Strings
import Derived.Test.YtgkcodkgcnbdeaaGreatP0
set_option linter.all false
namespace Go.Fs
variable {P : Program} {orc : FuncId -> List Value -> aA -> Option (Value × aA)} {h : aA} {σ : aX} {fl : VL} {n i mem : Nat} {l : List Oper} {K : VL -> aX -> Prop} {ops : Array Oper} {bs L5 : List Nat} {tail so : Bool}
theorem VD.nw (T6 : List Nat) (hk : VD P orc ops n l i fl T6 σ so bs mem tail K) (he : L5 = T6 := by rfl) : VD P orc ops n l i fl L5 σ so bs mem tail K := he ▸ hk
theorem VF.PJ {f : FuncId} {τ : Ty} {dv : τ.den} {v : Value} (ho : ∀ h : aA, orc f [] h = some (v, h)) (hv : ∀ (h : aA) (S : List Nat), aJ h S (.v τ dv) v) : VF P orc f [] (.v τ dv) := fun h S us bW hS hr => by
  obtain rfl : us = [] := by
    cases us with
    | nil => rfl
    | cons a r => cases hr
  exact rC.PJ (ho h) ⟨cO.refl _ _, hv h S, fun _ => rfl⟩
end Go.Fs
namespace Go.Fs
variable {P : Program} {h : aA} {S : List Nat}
def eqF (E : Ty -> TypeId -> Bool) : List Field -> Nat -> Ty -> Bool
  | [], _, .unit => true
  | f :: r, o, .pair a b => (!(f.name == "_") && Nat.beq f.offset o && E a f.type && eqF E r (o + a.size) b) || (r.isEmpty && !(f.name == "_") && Nat.beq f.offset o && E (.pair a b) f.type)
  | [f], o, τ => !(f.name == "_") && Nat.beq f.offset o && E τ f.type
  | _, _, _ => false
def eqV (P : Program) : Nat -> Ty -> TypeId -> Bool
  | 0, _, _ => false
  | d + 1, τ, T => ZE P T τ && match P.underlying T, τ with
    | some (.int k), .int k' => k == k'
    | some .bool, .bool => true
    | some .string, .str => true
    | some (.struct fs), .pair a b => !P.stoodInHeld T && eqF (eqV P d) fs.toList 0 (.pair a b)
    | _, _ => false
theorem s7 {x y : ByteArray} (he : x = y) : (x == y) = true := by
  subst he; show (x.data == x.data) = true; simp
theorem EG {x y : ByteArray} (he : ¬ x = y) : (x == y) = false := by
  show (x.data == y.data) = false; simp only [beq_eq_false_iff_ne, ne_eq]; exact fun hd => he (ByteArray.ext hd)
theorem T7 {τ : Ty} (h : τ.agg = false) : τ.size = 1 := by cases τ <;> first | rfl | cases h
theorem A4 {T : TypeId} {τ : Ty} (hT : fL P T τ) {cs : Array Value} {o : Nat} {x : τ.den} (hr : cR h S τ ((cs.toList.drop o).take τ.size) x) : ∃ v, aE P (part T cs o) = some v /\ aG h S τ v x := by
  obtain ⟨i, hi, dJ⟩ := hT.info; obtain ⟨d, hd, fI⟩ := hT.agg
  have hA : aE P (isAgg T) = some τ.agg := by
    unfold isAgg; rw [aF, aL hd, <- fI]; cases d <;> rfl
  unfold part; rw [aF, hA]; simp only [Option.bind_some]
  cases hga : τ.agg with
  | true =>
    simp only [if_true]; rw [aF, eS hi]; refine ⟨_, rfl, hga.symm, ?_⟩; show cR h S τ (cs.extract o (o + i.size)).toList x; rw [dJ, Array.toList_extract]
    simpa [List.extract_eq_take_drop] using hr
  | false =>
    simp only [Bool.false_eq_true, if_false]; obtain ⟨v, h1, h2⟩ := cR.one hga hr
    have h3 : cs[o]? = some v := by
      have := congrArg (fun l => l[0]?) h1; simp only [T7 hga] at this; simpa using this
    rw [h3]; exact ⟨v, rfl, h2⟩
theorem WS {E : Ty -> TypeId -> Bool} {n : Nat} {cs ds : Array Value} (hE : ∀ τ T, E τ T = true -> fL P T τ /\ ∀ (u v : Value) (x y : τ.den) (inst : Decidable (x = y)), aG h S τ u x -> aG h S τ v y -> aE P (Op.equalIn n T u v) = some (@decide (x = y) inst)) :
    ∀ (l : List Field) (o : Nat) (τ : Ty) (x y : τ.den) (inst : Decidable (x = y)), eqF E l o τ = true -> cR h S τ (cs.toList.drop o) x -> cR h S τ (ds.toList.drop o) y ->
    aE P (forIn l (none, ()) fun f __s =>
            if f.name ≠ "_" then do
              let __do_lift <- part f.type cs f.offset
              let __do_lift_1 <- part f.type ds f.offset
              let __do_lift <- Op.equalIn n f.type __do_lift __do_lift_1
              if (!__do_lift) = true then pure (ForInStep.done (some false, ())) else pure (ForInStep.yield (none, ()))
            else pure (ForInStep.yield (none, ()))) = some (if x = y then ((none : Option Bool), ()) else (some false, ())) := by
  intro l
  have key : ∀ (f : Field) (r : List Field) (o : Nat) (τ : Ty) (x y : τ.den) (inst : Decidable (x = y)) (R : Option (Option Bool × Unit)), (!(f.name == "_")) = true -> Nat.beq f.offset o = true -> E τ f.type = true -> cR h S τ ((cs.toList.drop o).take τ.size) x -> cR h S τ ((ds.toList.drop o).take τ.size) y ->
      aE P (forIn (f :: r) (none, ()) fun f __s =>
            if f.name ≠ "_" then do
              let __do_lift <- part f.type cs f.offset
              let __do_lift_1 <- part f.type ds f.offset
              let __do_lift <- Op.equalIn n f.type __do_lift __do_lift_1
              if (!__do_lift) = true then pure (ForInStep.done (some false, ())) else pure (ForInStep.yield (none, ()))
            else pure (ForInStep.yield (none, ()))) = if x = y then aE P (forIn r (none, ()) fun f __s =>
            if f.name ≠ "_" then do
              let __do_lift <- part f.type cs f.offset
              let __do_lift_1 <- part f.type ds f.offset
              let __do_lift <- Op.equalIn n f.type __do_lift __do_lift_1
              if (!__do_lift) = true then pure (ForInStep.done (some false, ())) else pure (ForInStep.yield (none, ()))
            else pure (ForInStep.yield (none, ()))) else some (some false, ()) := by
    intro f r o τ x y inst R n1 n2 n3 r1 r2; obtain ⟨hT, hq⟩ := hE _ _ n3; obtain ⟨u, u1, u2⟩ := A4 hT r1; obtain ⟨v, v1, v2⟩ := A4 hT r2
    have hn : f.name ≠ "_" := by simpa using n1
    have ho := bU n2; rw [List.forIn_cons]; simp only [hn, ne_eq, not_false_eq_true, if_true, aF, ho, u1, v1, Option.bind_some, hq u v x y inst u2 v2]; by_cases he : x = y <;> simp [he, aK, aF]
  induction l with
  | nil =>
    intro o τ x y inst hb hx hy; cases τ <;> first | (cases hb; done) | skip
    simp [aK]
  | cons f r ih =>
    intro o τ x y inst hb hx hy; by_cases hp : (∀ a b, τ ≠ .pair a b) \/ (r = [] /\ (!(f.name == "_")) = true /\ Nat.beq f.offset o = true /\ E τ f.type = true)
    . have hs : r = [] /\ (!(f.name == "_")) = true /\ Nat.beq f.offset o = true /\ E τ f.type = true := by
        rcases hp with hp | hp
        . cases τ with
          | pair a b => exact absurd rfl (hp a b)
          | _ =>
            cases r with
            | cons f' r => cases hb
            | nil =>
              obtain ⟨n1, n3⟩ := b6 (show (!(f.name == "_") && Nat.beq f.offset o && E _ f.type) = true from hb); obtain ⟨n1, n2⟩ := b6 n1; exact ⟨rfl, n1, n2, n3⟩
        exact hp
      obtain ⟨rfl, n1, n2, n3⟩ := hs; rw [key f [] o τ x y inst none n1 n2 n3 (by rw [List.take_of_length_le (Nat.le_of_eq hx.len)]; exact hx) (by rw [List.take_of_length_le (Nat.le_of_eq hy.len)]; exact hy)]; by_cases he : x = y <;> simp [he, aK]
    cases τ with
    | pair a b =>
      have rD : ((!(f.name == "_") && Nat.beq f.offset o && E a f.type && eqF E r (o + a.size) b) || (r.isEmpty && !(f.name == "_") && Nat.beq f.offset o && E (.pair a b) f.type)) = true := hb; rcases Bool.or_eq_true_iff.1 rD with h1 | h1
      . obtain ⟨h1, n4⟩ := b6 h1; obtain ⟨h1, n3⟩ := b6 h1; obtain ⟨n1, n2⟩ := b6 h1; have hd := Classical.propDecidable (x.1 = y.1); have VS := Classical.propDecidable (x.2 = y.2); rw [key f r o a x.1 y.1 hd none n1 n2 n3 hx.1 hy.1]; have h2 := ih (o + a.size) b x.2 y.2 VS n4 (by rw [<- List.drop_drop]; exact hx.2) (by rw [<- List.drop_drop]; exact hy.2); rw [h2]; by_cases e1 : x.1 = y.1
        . by_cases e2 : x.2 = y.2
          . rw [if_pos e1, if_pos e2, if_pos (Prod.ext e1 e2)]
          rw [if_pos e1, if_neg e2, if_neg (fun e => e2 (by rw [e]))]
        rw [if_neg e1, if_neg (fun e => e1 (by rw [e]))]
      obtain ⟨h1, n3⟩ := b6 h1; obtain ⟨h1, n2⟩ := b6 h1; obtain ⟨h1, n1⟩ := b6 h1
      exact absurd (.inr ⟨by simpa using h1, n1, n2, n3⟩) hp
    | _ => exact absurd (.inl fun _ _ h => by cases h) hp
theorem ah9 : ∀ (d : Nat) (τ : Ty) (T : TypeId), eqV P d τ T = true -> ∀ (D : Nat) (u v : Value) (x y : τ.den) (inst : Decidable (x = y)), aG h S τ u x -> aG h S τ v y -> aE P (Op.equalIn (D + d) T u v) = some (@decide (x = y) inst) := by
  intro d
  induction d with
  | zero => intro τ T hb; cases hb
  | succ d ih =>
    intro τ T hb D u v x y inst hu hv; unfold eqV at hb; obtain ⟨hvt, hb⟩ := b6 hb
    cases hU : P.underlying T with
    | none => simp only [hU] at hb; cases hb
    | some dsc =>
      simp only [hU] at hb; cases τ <;> cases dsc <;> try (cases hb; done)
      . rename_i k _ k'
        obtain rfl : k = k' := by
          have : (k' == k) = true := hb; exact (by simpa using this : k' = k).symm
        obtain rfl := aG.int hu; obtain rfl := aG.int hv; rw [show D + (d + 1) = (D + d) + 1 from rfl, Op.equalIn, aF, aL hU]; simp only [Option.bind_some, if_true]; show some (_ == _) = _; by_cases he : x = y <;> simp [he]
      . obtain rfl := aG.bool hu; obtain rfl := aG.bool hv; rw [show D + (d + 1) = (D + d) + 1 from rfl, Op.equalIn, aF, aL hU]; simp only [Option.bind_some]; show some (_ == _) = _; by_cases he : x = y <;> simp [he]
      . obtain rfl := aG.str hu; obtain rfl := aG.str hv; rw [show D + (d + 1) = (D + d) + 1 from rfl, Op.equalIn, aF, aL hU]; simp only [Option.bind_some]; show some (_ == _) = _; by_cases he : x = y
        . rw [decide_eq_true he]; exact congrArg some (s7 he)
        rw [decide_eq_false he]; exact congrArg some (EG he)
      rename_i a b fs; obtain ⟨h1, h2⟩ := b6 hb
      have hs : P.stoodInHeld T = false := by simpa using h1
      obtain ⟨cs, rfl⟩ : ∃ cs, u = .agg cs := by
        have := hu.1; cases u <;> first | exact ⟨_, rfl⟩ | cases this
      obtain ⟨ds, rfl⟩ : ∃ cs, v = .agg cs := by
        have := hv.1; cases v <;> first | exact ⟨_, rfl⟩ | cases this
      rw [show D + (d + 1) = (D + d) + 1 from rfl, Op.equalIn]; rw [aF, aL hU]; simp only [Option.bind_some, aF, qJ, hs, Bool.false_eq_true, if_false]; simp only [<- Array.forIn_toList]; have hF := WS (h := h) (S := S) (cs := cs) (ds := ds) (n := D + d) (fun τ T hb => ⟨dW ?_, fun u v x y inst => ih τ T hb D u v x y inst⟩) fs.toList 0 _ x y inst h2 hu.2 hv.2
      . rw [hF]; by_cases he : x = y <;> simp [he, aK]
      cases d with
      | zero => cases hb
      | succ d => unfold eqV at hb; exact (b6 hb).1
structure WT (P : Program) (T : TypeId) (τ : Ty) : Prop where
  eq : eqV P 40 τ T = true
  guard : P.eqGuardType P.depth T = false
  agg : τ.agg = true
  flat : τ.fU = true
theorem ahA {T : TypeId} {τ : Ty} (hb : (eqV P 40 τ T && !P.eqGuardType P.depth T && τ.agg && τ.fU) = true) : WT P T τ := by
  obtain ⟨h1, h4⟩ := b6 hb; obtain ⟨h1, h3⟩ := b6 h1; obtain ⟨h1, h2⟩ := b6 h1; exact ⟨h1, by simpa using h2, h3, h4⟩
theorem WT.run {T : TypeId} {τ : Ty} (hT : WT P T τ) {u v : Value} {x y : τ.den} {inst : Decidable (x = y)} (hu : aG h S τ u x) (hv : aG h S τ v y) : aE P (Op.equal T u v) = some (@decide (x = y) inst) :=
  ah9 40 τ T hT.eq 9960 u v x y inst hu hv
theorem WU {τ : Ty} {u : Value} {x : τ.den} (ha : τ.agg = true) (hu : aG h S τ u x) : ∃ cs, u = .agg cs := by
  have h1 := hu.1.trans ha; cases u <;> first | exact ⟨_, rfl⟩ | cases h1
variable {fl : VL} {σ : aX} {x y : Operand} {T T' : TypeId} {τ : Ty}
theorem aI.aiQ {p q : τ.den} [inst : Decidable (p = q)] (hT : WT P T τ) (hx : aY fl x = some (.v τ p) := by rfl) (hy : aY fl y = some (.v τ q) := by rfl) : aI P fl σ (.binOp .eql T x y T') (.v .bool (decide (p = q))) :=
  .bin hx hy fun h S a c ha hc => by
    have h1 := hT.run (inst := inst) ha hc; obtain ⟨cs, rfl⟩ := WU hT.agg ha; obtain ⟨ds, rfl⟩ := WU hT.agg hc; refine ⟨.bool (decide (p = q)), aG.ofBool _, ?_, ?_⟩
    . rw [(aJ.flat (pv := .v τ p) hT.flat ha).1, (aJ.flat (pv := .v τ q) hT.flat hc).1]; rfl
    have he : aE P (eqGuard .eql T x y (.agg cs) (.agg ds)) = some () := by
      unfold eqGuard; simp [aF, qJ, hT.guard, aK]
    have hb : aE P (binOp .eql T (.agg cs) (.agg ds)) = some (.bool (decide (p = q))) := by
      unfold binOp; simp only [aF, h1, Option.bind_some, aK]
    unfold cL; rw [aF, he]; simp only [Option.bind_some, hb]; rfl
theorem HF {a b : ByteArray} : (a.toList == b.toList) = decide (a = b) := by
  rw [ByteArray.toList_eq, ByteArray.toList_eq]; by_cases h : a = b
  . subst h; simp
  rw [decide_eq_false h, beq_eq_false_iff_ne]; exact fun he => h (ByteArray.ext (Array.toList_inj.1 he))
variable {p q : ByteArray}
theorem aI.aiR (b : BinOp) {u : Value} {v : PV} (hx : aY fl x = some (.v .str p)) (hy : aY fl y = some (.v .str q)) (hu : aE P (Op.stringOp b p q) = some u) (hf : af u = true) (hb : ∀ T : TypeId, (do eqGuard b T x y (.string p) (.string q); binOp b T (.string p) (.string q)) = Op.stringOp b p q) (hv : ∀ h S, aJ h S v u) : aI P fl σ (.binOp b T x y T') v :=
  .bin hx hy fun h S a c ha hc => by
    obtain rfl := aG.str ha; obtain rfl := aG.str hc; refine ⟨u, hv h S, rfl, ?_⟩; unfold cL; rw [hb, hu]; simp only [Option.bind_some, hf, if_true]
theorem aI.aiS (hx : aY fl x = some (.v .str p) := by rfl) (hy : aY fl y = some (.v .str q) := by rfl) : aI P fl σ (.binOp .eql T x y T') (.v .bool (decide (p = q))) :=
  .aiR .eql hx hy (u := .bool (decide (p = q))) (by rw [<- HF]; rfl) rfl (fun _ => rfl) fun h S => aG.ofBool _
theorem aI.aiT (hx : aY fl x = some (.v .str p) := by rfl) (hy : aY fl y = some (.v .str q) := by rfl) : aI P fl σ (.binOp .neq T x y T') (.v .bool (decide (p ≠ q))) :=
  .aiR .neq hx hy (u := .bool (decide (p ≠ q))) (by rw [decide_not, <- HF]; rfl) rfl (fun _ => rfl) fun h S => aG.ofBool _
end Go.Fs
namespace Go.Fs
variable {P : Program} {fl : VL} {σ γ : aX} {Q : PV -> aX -> Prop} {fn : Func}
theorem uW.cap {r : ResultVar} {w : Value} {e : TypeId} {k : Nat} {τ : Ty} {xs : List τ.den} (hr : fn.results = #[r]) (h1 : sV P fl [] r (.raw w)) (hc : (w, Cell.cap e k τ xs) ∈ σ) (hQ : Q (.raw w) σ) : uW P fn γ Q .ret fl σ :=
  ⟨rfl, [.raw w], by rw [hr]; exact .cons h1 .nil, hQ, .inl ⟨w, e, k, τ, xs, rfl, hc⟩⟩
theorem uW.row {r : ResultVar} {w : Value} {e : TypeId} {τ : Ty} {xs : List τ.den} (hr : fn.results = #[r]) (h1 : sV P fl [] r (.raw w)) (hQ : Q (.raw w) [(w, Cell.row e τ xs)]) : uW P fn [] Q .ret fl [(w, Cell.row e τ xs)] :=
  ⟨rfl, [.raw w], by rw [hr]; exact .cons h1 .nil, hQ, .inr (.inr (.inl ⟨w, e, τ, xs, rfl, rfl, rfl⟩))⟩
end Go.Fs
namespace Go.Fs
variable {P : Program} {orc : FuncId -> List Value -> aA -> Option (Value × aA)}
theorem ab4 {k : IntKind} {x : Int} (h : aA) (S : List Nat) (us : List Value) (hr : bA h S [.v (.int k) x] us) : us = [.int k x] := by
  obtain ⟨u, r, rfl, h1, h2⟩ := hr
  cases r with
  | nil => rw [aG.int h1]
  | cons a r => cases h2
theorem iK {fl : VL} {k : Nat} {κ : IntKind} {a b : Int} (hk : jG fl k = some (.v (.int κ) a)) (h : a = b) : jG fl k = some (.v (.int κ) b) := by rw [hk, h]
theorem dF {κ : IntKind} {a b : Int} (h : a = b) : PV.v (.int κ) a = PV.v (.int κ) b := by rw [h]
def ahB (f : Func) : Code := f.body.getD .skip
def am5 : Code -> Code
  | .seq _ b => b
  | c => c
def aiU : Nat -> Code -> Code
  | 0, c => c
  | n + 1, c => aiU n (am5 c)
section
variable {h0 : aA} {S0 : List Nat} {σ : aX} {ms : List Nat} {fl : VL} {ops : Array Oper} {n i mem : Nat} {l : List Oper} {K : VL -> aX -> Prop}
  {d : Tmp} {ty : TypeId} {pos : String} {after : Array Edge} {op : Op} {v : PV} {g : Option (Nat × Bool)} {bs nw : List Nat} {tail so : Bool}
theorem VD.co {b : Nat} (hc : aI P fl σ op v) (hk : VD P orc ops n l (i + 1) ((d, v) :: fl) (fM ((so && GC nw op) || v.iP) d nw) σ so (bs ++ [b]) mem tail K)
    (hb : aP bs ⟨some d, op, ty, pos, after, g⟩ = b := by rfl) (hw : cX ops fl g = some true := by rfl) (hn : (Nat.blt d n && Nat.ble n 4000) = true := by rfl) :
    VD P orc ops n (⟨some d, op, ty, pos, after, g⟩ :: l) i fl nw σ so bs mem tail K := fun h0 G S0 t h ms segs I ho => by
  obtain ⟨n1, n2⟩ := fits hn; obtain ⟨u, e1, e2⟩ := hc.2 h (own σ ++ S0) t I.aH.r8 I.cells; refine sH.op (s' := ⟨t.set depth d u, h, bs ++ [b], segs, mem, tail⟩) ?_ (hk h0 G S0 _ h ms segs (I.set e1 n2) fun ht => (ho ht).set n2 fun hold hs a1 a2 a3 a4 a5 => ?_)
  . unfold gH; have sL : bJ ops t ⟨some d, op, ty, pos, after, g⟩ = some true := cH I.aH hw; simp only [sL, hc.1, if_true, e2, Nat.beq_refl, cond_true, bV n1, Option.map_some, hb]
  rcases Bool.or_eq_true_iff.1 hold with hold | hold
  . obtain ⟨o1, o2⟩ := b6 hold; obtain ⟨u', f1, f2⟩ := hc.2 hs (own σ ++ S0) t (zZ a4 o2) (a5 o1)
    have : u' = u := by
      have g1 := e2 none 0 "" #[] none h; rw [f2 none 0 "" #[] none h] at g1; simpa using g1
    rw [<- this]; exact f1
  exact (aJ.iP hold e1).2 _ _
end
end Go.Fs
namespace Go.Fs
variable {P : Program} {orc : FuncId -> List Value -> aA -> Option (Value × aA)} {b7 : Option Nat} {h h' h0 h1 h2 : aA} {S S' S0 G : List Nat} {σ aQ oI γ j4 : aX} {t t' : Tr} {ms : List Nat} {fl nw : VL} {ops : Array Oper} {n i mem : Nat} {l : List Oper} {K : VL -> aX -> Prop} {Q : Ex -> VL -> aX -> Prop}
  {d : Tmp} {ty : TypeId} {pos : String} {after : Array Edge} {op : Op} {v pv : PV} {g : Option (Nat × Bool)} {bs L5 : List Nat} {tail so : Bool}
inductive L6 (fl : VL) (γ : aX) : VL -> Prop where
  | nil : L6 fl γ []
  | cons {k : Nat} {p p' : PV} {r : VL} (hk : jG fl k = some p) (hc : Co γ p p') (hr : L6 fl γ r) : L6 fl γ ((k, p') :: r)
theorem Iv.T8 : ∀ {γ : aX}, Iv h0 G S0 h (γ ++ σ) t ms fl -> Iv h0 G S0 h σ t ms (fl)
  | [], I => I
  | _ :: γ, I => Iv.T8 (γ := γ) I.forget
theorem Iv.rK (I : Iv h0 G S0 h (γ ++ σ) t ms fl) (hs : L6 fl γ nw) : Iv h0 G S0 h σ t ms (nw ++ fl) := by
  have I' := I.T8
  have E7 : eP h (own σ ++ S0) t (nw ++ fl) := by
    induction hs with
    | nil => exact I'.aH
    | cons hk hc hr ih =>
      refine ih.cons (Co.ok (σ := γ) (S0 := own σ ++ S0) (fun c hd => ?_) (fun b hb => ?_) hc ?_)
      . have := I.cells c (List.mem_append_left _ hd); rw [dE, List.append_assoc] at this; exact this
      . have h1 := I.apart; rw [dE] at h1; intro hm; rcases List.mem_append.1 hm with hm | hm
        . exact (List.nodup_append.1 h1).2.2 b hb b hm rfl
        exact (I.new b (by rw [dE]; exact List.mem_append_left _ hb)).2 hm
      have := I.aH _ _ hk; rw [dE, List.append_assoc] at this; exact this
  exact { I' with aH := E7 }
theorem U.rK {a : Code} (γ : aX) (nw : VL) (GG : γ ++ σ = oI) (hs : L6 fl γ nw) (hx : U P orc b7 a n (nw ++ fl) σ Q) : U P orc b7 a n fl oI Q := fun h0 G S0 t h ms I => by
  subst GG; exact hx h0 G S0 t h ms (I.rK hs)
theorem VD.lV {b : Nat} {f : Operand} {args : Array Operand} {r3 : Array TypeId} {F : PV} {asl : List PV} {Qr : PV -> aX -> Prop} (hf : aY fl f = some F) (ha : mM fl args.toList = some asl) (hc : QN P orc F asl [] Qr) (hk : ∀ r j4, Qr r j4 -> VD P orc ops n l (i + 1) ((d, r) :: fl) (fM false d L5) (j4 ++ σ) false (bs ++ [b]) (mem ||| 2 ^ i) tail K)
    (hb : aP bs ⟨some d, .call { callee := .value f, args := args, argTypes := r3 }, ty, pos, after, g⟩ = b := by rfl) (iW : Nat.beq (mem &&& b) mem = true := by rfl) (hw : cX ops fl g = some true := by rfl) (hn : (Nat.blt d n && Nat.ble n 4000) = true := by rfl) :
    VD P orc ops n (⟨some d, .call { callee := .value f, args := args, argTypes := r3 }, ty, pos, after, g⟩ :: l) i fl L5 σ so bs mem tail K := fun h0 G S0 t h ms segs I ho => by
  obtain ⟨n1, n2⟩ := fits hn; obtain ⟨M, m1, m2, m3, m4, m5, m6, m7⟩ := sW (mem := mem) I hb ho; obtain rfl := m6 iW; have Le := I.lc.aB (h' := entry h) (fun _ => rfl) rfl; obtain ⟨WN, a, c, rfl, hv⟩ := hc; obtain ⟨va, vc, h1, h2, h3⟩ := (eH Le.aH hf : aJ (entry h) _ (.mF WN a c) (aC t f)); have mK := (h2.append (sU Le.aH ha)).append h3; refine sH.call (o := ⟨some d, .call { callee := .value f, args := args, argTypes := r3 }, ty, pos, after, g⟩) (cH I.aH hw) rfl rfl h1 (by simp only [hb, iW]; simp) ?_; rw [m1]; refine (hv (entry h) (own σ ++ S0) _ m2 Le.ae7 (fun c hc => by cases hc) List.nodup_nil (fun b hb => by cases hb) mK).mono fun u h' hq => ?_; obtain ⟨r, j4, q1, q2, q3⟩ := hq; have hA : eW (entry h) h' := q2.gC.after; have hl : h.next <= h'.low := hA.low h.next (Nat.le_refl _) (Nat.le_refl _)
  have dV : Nat.ble h.next h'.low = true := by rw [Nat.ble_eq]; exact hl
  have j6 : h.next <= h'.next := hA.next; refine ⟨l6 j6, by simp only [dV, Bool.true_or], _, bV n1 t u, ?_⟩
  have hd : rW ⟨some d, .call { callee := .value f, args := args, argTypes := r3 }, ty, pos, after, g⟩ i ⟨t, h, bs, segs, mem, tail⟩ (t.set depth d u) h' =
      ⟨t.set depth d u, { next := h'.next, low := h.low, aB := bH h.next h'.next h'.aB ++ h.aB }, bs ++ [b], (i, h.next, h'.next) :: segs, mem ||| 2 ^ i, tail⟩ := by
    unfold rW; simp only [dV, cond_true, hb]
  rw [hd]; obtain ⟨e1, e2⟩ := yL (h' := h') I.ok m5 rfl hA m2
  have hm : Made (own σ ++ S0) h { next := h'.next, low := h.low, aB := bH h.next h'.next h'.aB ++ h.aB } [] j4 := {
    gC := ⟨e1.next, fun b hb _ => e1.get b hb, e1.ok, fun e h3 h4 _ => e1.low e h3 h4, fun b hb => .inl (e1.get b hb), Nat.le_refl _⟩
    new := q2.new
    apart := q2.apart
    cells := fun c hc => (q2.cells c hc).aW (fun b hb => by
      obtain ⟨o, hg, _⟩ := (q2.cells c hc).isObj b hb
      exact ((e2 []) b _ hg (by simp)).1.trans hg.symm) (e2 _) fun b hb => List.mem_append_left _ (List.mem_flatMap.2 ⟨c, hc, hb⟩) }
  have fS := Made.app (γ := []) I.lc hm
  have q3' : aJ { next := h'.next, low := h.low, aB := bH h.next h'.next h'.aB ++ h.aB } (own (j4 ++ σ) ++ S0) r u := by
    rw [dE, List.append_assoc]; exact q3.nx (e2 _)
  refine hk r j4 q1 h0 G S0 _ _ ms _ ((I.made fS).set q3' n2) fun ht => ?_
  obtain ⟨E9, a1, a2, a3, a4, a5, a6⟩ := (ho ht).set (v := r) (u := u) (old := false) n2 fun e => by cases e
  refine ⟨E9, a1, a2.trans e1, lX.cons a2.next a3, a4, fun k pv hk hn => (a5 k pv hk hn).nx (h := E9) fun b ob hg hb => ⟨hg, ?_⟩, fun e => by cases e⟩; have h3 := a1 b ob hg; have h4 := a2.next; intro sZ; rcases List.mem_append.1 sZ with sZ | sZ
  . rcases fS.new b sZ with h5 | h5
    . exact hb (List.mem_append_left _ h5)
    omega
  exact hb (List.mem_append_right _ sZ)
end Go.Fs
namespace Go.Fs
variable {P : Program} {orc : FuncId -> List Value -> aA -> Option (Value × aA)} {fl : VL} {σ γ : aX} {T : TypeId} {τ : Ty}
theorem row_one {h : aA} {S : List Nat} {w : Value} {e : TypeId} {xs : List τ.den} (hc : bS h S w (.row e τ xs)) : aU w = true := by
  rcases hc with ⟨h1, _⟩ | ⟨b, rs, m, h1, _⟩
  . rw [show w = _ from h1]; rfl
  rw [show w = _ from h1]; rfl
theorem J.one {orc : FuncId -> List Value -> aA -> Option (Value × aA)} {ops : Array Oper} {n : Nat} {l : List Oper} {K : VL -> aX -> Prop} {w : Value} {e : TypeId} {xs : List τ.den} (hm : (w, Cell.row e τ xs) ∈ σ) (hk : aU w = true -> J P orc ops n l fl σ K) : J P orc ops n l fl σ K := fun h0 G S0 t h ms I => hk (row_one (I.cells _ hm)) h0 G S0 t h ms I
theorem VD.perm {orc : FuncId -> List Value -> aA -> Option (Value × aA)} {ops : Array Oper} {n i mem : Nat} {l : List Oper} {K : VL -> aX -> Prop} {nw bs : List Nat} {so tail : Bool} {aQ : aX} (hp : σ.Perm aQ) (hx : VD P orc ops n l i fl nw aQ false bs mem tail K) : VD P orc ops n l i fl nw σ so bs mem tail K := fun h0 G S0 t h ms segs I ho => hx h0 G S0 t h ms segs (I.perm hp) fun ht => by
  obtain ⟨hs, a1, a2, a3, a4, a5, a6⟩ := ho ht; refine ⟨hs, a1, a2, a3, a4, fun k pv hk hn => (a5 k pv hk hn).nx (h := hs) fun b ob hg hb => ⟨hg, fun hm => hb ?_⟩, fun e => by cases e⟩; rcases List.mem_append.1 hm with hm | hm
  . obtain ⟨c, hc, hb⟩ := List.mem_flatMap.1 hm; exact List.mem_append_left _ (List.mem_flatMap.2 ⟨c, hp.mem_iff.2 hc, hb⟩)
  exact List.mem_append_right _ hm
end Go.Fs
namespace Go.Fs
variable {P : Program}
theorem T9 {t : TypeId} {a x : Value} {h h' : aA} {b o : Nat} (ha : a = .pointer (some ⟨b, o, none⟩)) (hs : mH P t a x h = some h') (c : Nat) (hc : c ≠ b) : h'.get c = h.get c := by
  subst ha; unfold mH at hs; simp only at hs; split at hs
  . rename_i e cs more i hg hi; split at hs
    . simp only [Option.some.injEq] at hs; subst hs; rw [aA.cZ hg, if_neg hc]
    cases hs
  cases hs
theorem yS {e : TypeId} {m : Nat} {news : List Value} {h : aA} {v : Value} {h' : aA} (hg : grown e m news h = (v, h')) (c : Nat) (hc : c < h.next) : h'.get c = h.get c := by
  unfold grown at hg; simp only [Prod.mk.injEq] at hg; obtain ⟨_, rfl⟩ := hg; rw [aA.bN, if_neg (by omega)]
theorem WV {e : TypeId} {i : TypeInfo} {s : Value} {m n mk b o : Nat} {news : List Value} {h h' : aA} {v : Value} (ha : s = .slice (some ⟨b, o, none⟩) n mk) (hs : kX e i s m news h = some (v, h')) (c : Nat) (hc : c ≠ b) (hn : c < h.next) : h'.get c = h.get c := by
  subst ha; unfold kX at hs; simp only at hs
  cases h1 : (Nat.beq m 0 && Nat.beq mk 1) with
  | true =>
    rw [h1] at hs; simp only [cond_true, Option.some.injEq, Prod.mk.injEq] at hs
    rw [hs.2]
  | false =>
    rw [h1] at hs; simp only [cond_false] at hs
    cases hg : h.get b with
    | none => rw [hg] at hs; cases hs
    | some ob =>
      rw [hg] at hs
      cases ob with
      | row e' cs own more =>
        simp only at hs; obtain ⟨_, hs⟩ := aT hs
        cases h3 : Nat.beq mk 1 with
        | true =>
          rw [h3] at hs; simp only [cond_true, Option.some.injEq] at hs
          exact yS hs c hn
        | false =>
          rw [h3] at hs; simp only [cond_false] at hs; obtain ⟨_, hs⟩ := aT hs
          cases h5 : Nat.ble (o + (n + m) * i.size) cs.length with
          | true =>
            rw [h5] at hs; simp only [cond_true, Option.some.injEq, Prod.mk.injEq] at hs; rw [<- hs.2]
            cases Nat.beq m 0 with
            | true => rfl
            | false => simp only [cond_false]; rw [aA.cZ hg, if_neg hc]
          | false =>
            rw [h5] at hs; simp only [cond_false] at hs
            cases more with
            | false =>
              simp only [Bool.not_false, cond_true, Option.some.injEq] at hs
              exact yS hs c hn
            | true =>
              simp only [Bool.not_true, cond_false] at hs; obtain ⟨_, hs⟩ := aT hs; simp only [Option.some.injEq] at hs
              rw [yS hs c hn, aA.cP, if_neg hc]
      | _ => cases hs
theorem QP {at_ : Array TypeId} {s x : Value} {n mk b o : Nat} {h h' : aA} {v : Value} (ha : s = .slice (some ⟨b, o, none⟩) n mk) (hs : dQ P at_ s x h = some (v, h')) (c : Nat) (hc : c ≠ b) (hn : c < h.next) : h'.get c = h.get c := by
  unfold dQ at hs; split at hs
  . split at hs
    . split at hs
      . split at hs
        . split at hs
          . obtain ⟨_, hs⟩ := aT hs; exact WV ha hs c hc hn
          cases hs
        cases hs
      cases hs
    cases hs
  cases hs
theorem QQ {call : FuncId -> List Value -> aA -> Option (Value × aA)} {yield : Nat -> List Value -> aA -> Option (Value × aA)} {o : Oper} {ev : Operand -> Value} {h h' : aA} {v : Value} {k : Nat}
    (hs : cQ P call yield o ev h = some (v, h')) (ht : rV o.op ev = some k) (c : Nat) (hc : c ≠ k) (hn : c < h.next) : h'.get c = h.get c := by
  unfold rV at ht; split at ht
  . rename_i T a x dT; split at ht
    . rename_i b o' bY; simp only [Option.some.injEq] at ht; subst ht; unfold cQ at hs; rw [dT] at hs; simp only at hs; obtain ⟨h2, h3, h4⟩ := Option.map_eq_some_iff.1 hs; simp only [Prod.mk.injEq] at h4; rw [<- h4.2]; exact T9 bY h3 c hc
    cases ht
  . rename_i dT; split at ht
    . rename_i b o' n' mk' rest bY; simp only [Option.some.injEq] at ht; subst ht; unfold cQ at hs; rw [dT] at hs; simp only at hs; unfold w7 at hs; rw [bY] at hs
      cases rest with
      | nil => cases hs
      | cons x rest =>
        cases rest with
        | nil => exact QP rfl hs c hc hn
        | cons y rest => cases hs
    cases ht
  cases ht
section
variable {h0 : aA} {ops : Array Oper} {n : Nat} {call : FuncId -> List Value -> aA -> Option (Value × aA)} {yield : Nat -> List Value -> aA -> Option (Value × aA)}
structure L7 (P : Program) (call : FuncId -> List Value -> aA -> Option (Value × aA)) (yield : Nat -> List Value -> aA -> Option (Value × aA)) (ops : Array Oper) (n : Nat) (h0 : aA) (rd chg : List Nat) (o : Oper) (i : Nat) (s s' : dS) : Prop where
  bs : s'.bs = s.bs ++ [aP s.bs o]
  FX : AM (cQ P call yield) ops n (fun b ob => h0.get b = some ob /\ b < h0.next /\ b ∈ rd) o i s s'
  next : s.h.next <= s'.h.next
  aW : ∀ b, b < s.h.next -> b ∉ chg -> s'.h.get b = s.h.get b
theorem AM.mono {step : Oper -> (Operand -> Value) -> aA -> Option (Value × aA)} {X X' : Nat -> bB -> Prop} {o : Oper} {i : Nat} {s s' : dS} (h : AM step ops n X o i s s') (hX : ∀ b ob, X b ob -> X' b ob) : AM step ops n X' o i s s' := by
  cases h with
  | skip hw hp hh hs hm ht => exact .skip hw hp hh hs hm ht
  | calm hw hc v h' bR hn hp hh hs hm ht => exact .calm hw hc v h' bR hn hp hh hs hm ht
  | still hw v aB hX0 bR hp hh hs hm ht => exact .still hw v aB (fun b ob hl => hX b ob (hX0 b ob hl)) bR hp hh hs hm ht
  | mem hw hc v h' ord ho lT bR hn hp hm hs j6 hk => exact .mem hw hc v h' ord ho lT bR hn hp hm hs j6 hk
theorem L7.mono {rd rd' chg EH : List Nat} {o : Oper} {i : Nat} {s s' : dS} (h : L7 P call yield ops n h0 rd chg o i s s') (h1 : ∀ b ∈ rd, b ∈ rd') (h2 : ∀ b ∈ chg, b ∈ EH) : L7 P call yield ops n h0 rd' EH o i s s' :=
  ⟨h.bs, h.FX.mono fun b ob ⟨a, b1, c⟩ => ⟨a, b1, h1 b c⟩, h.next, fun b hb hn => h.aW b hb fun hm => hn (h2 b hm)⟩
theorem HG {lo hi : Nat} {l aB : List (Nat × bB)} {c : Nat} (hc : c < lo) : look (bH lo hi l ++ aB) c = look aB c := by
  rw [iN]
  cases hl : look (bH lo hi l) c with
  | none => rfl
  | some o => have := (eO _ _ _ hl).1; omega
theorem QR {o : Oper} {i : Nat} {x x' : wB} (hw : bJ ops x.1.t o = some true) (hc : calm o.op = false) (hf : nP P (cQ P call yield) ops n o i x = some x') :
    x'.2.1 = x.2.1 /\ (∀ k ∈ x.2.2, k ∈ x'.2.2) /\ L7 P call yield ops n h0 x'.2.1 x'.2.2 o i x.1 x'.1 := by
  unfold nP at hf; simp only at hf; generalize iW : Nat.beq (x.1.mem &&& aP x.1.bs o) x.1.mem = ord at hf
  cases nI : (x.1.tail && !ord) with
  | true => rw [nI] at hf; cases hf
  | false =>
    rw [nI] at hf; simp only [cond_false] at hf
    have lT : x.1.tail = true -> ord = true := fun h => by rw [h] at nI; simpa using nI
    split at hf
    . rename_i v h' bR
      cases bL : Nat.blt h'.next x.1.h.next with
      | true => rw [bL] at hf; cases hf
      | false =>
        rw [bL] at hf; simp only [cond_false] at hf
        have hn : x.1.h.next <= h'.next := by have := j8 bL; omega
        split at hf
        . rename_i t hp
          cases dV : Nat.ble x.1.h.next h'.low with
          | true =>
            rw [dV] at hf; simp only [cond_true, Option.some.injEq] at hf; subst hf
            exact ⟨rfl, fun k hk => hk, rfl, .mem hw hc v h' ord iW.symm lT bR hn hp rfl rfl rfl (.inl ⟨fP dV, rfl, rfl, rfl⟩), hn, fun b hb _ => HG hb⟩
          | false =>
            rw [dV] at hf; simp only [cond_false] at hf; obtain ⟨h5, h6⟩ := aT hf; split at h6
            . rename_i k hk; simp only [Option.some.injEq] at h6; subst h6; refine ⟨rfl, fun k' Q3 => List.mem_cons_of_mem _ Q3, rfl, .mem hw hc v h' ord iW.symm lT bR hn hp rfl rfl rfl (.inr ⟨h5, rfl, rfl, rfl⟩), hn, fun b hb hnb => ?_⟩; subst h5; have := QQ bR hk b (fun e => hnb (by subst e; exact List.mem_cons_self)) hb; exact this
            cases h6
        cases hf
    cases hf
theorem NB {o : Oper} {i : Nat} {x x' : wB} (hf : eV P h0 (cQ P call yield) ops n o i x = some x') :
    (∀ b ∈ x.2.1, b ∈ x'.2.1) /\ (∀ k ∈ x.2.2, k ∈ x'.2.2) /\ L7 P call yield ops n h0 x'.2.1 x'.2.2 o i x.1 x'.1 := by
  unfold eV at hf; simp only at hf; split at hf
  . rename_i hw; obtain ⟨t, h1, h2⟩ := Option.map_eq_some_iff.1 hf; subst h2; exact ⟨fun _ h => h, fun _ h => h, rfl, .skip hw h1 rfl rfl rfl rfl, Nat.le_refl _, fun _ _ _ => rfl⟩
  . cases hf
  rename_i hw; split at hf
  . rename_i hc; split at hf
    . rename_i v h' bR; obtain ⟨h3, h4⟩ := aT hf; obtain ⟨t, h1, h2⟩ := Option.map_eq_some_iff.1 h4; subst h2; exact ⟨fun _ h => h, fun _ h => h, rfl, .calm hw hc v h' bR (bU h3) h1 rfl rfl rfl rfl, Nat.le_refl _, fun _ _ _ => rfl⟩
    cases hf
  rename_i hc
  have hc : calm o.op = false := by simpa using hc
  split at hf
  . rename_i v b hq; obtain ⟨t, h1, h2⟩ := Option.map_eq_some_iff.1 hf; subst h2; refine ⟨fun _ h => List.mem_append_right _ h, fun _ h => h, rfl, ?_, Nat.le_refl _, fun _ _ _ => rfl⟩; unfold zP at hq; split at hq
    . rename_i T a dT; split at hq
      . rename_i b' o' bY; split at hq
        . rename_i ob hg; obtain ⟨h3, h4⟩ := aT hq; obtain ⟨v', h5, h6⟩ := Option.map_eq_some_iff.1 h4; simp only [Prod.mk.injEq] at h6; obtain ⟨rfl, rfl⟩ := h6; refine .still hw v' [(b', ob)] (fun c oc hl => ?_) ?_ h1 rfl rfl rfl rfl
          . simp only [look] at hl
            cases C5 : Nat.beq b' c with
            | true =>
              rw [C5] at hl; simp only [cond_true, Option.some.injEq] at hl; obtain rfl := bU C5; subst hl
              exact ⟨hg, jP h3, List.mem_append_left _ List.mem_cons_self⟩
            | false => rw [C5] at hl; cases hl
          unfold cQ; rw [dT]; simp only [bY, h5, Option.map_some]
        cases hq
      cases hq
    . rename_i dT; split at hq
      . rename_i y mK; obtain ⟨v', h5, h6⟩ := Option.map_eq_some_iff.1 hq; simp only [Prod.mk.injEq] at h6; obtain ⟨rfl, rfl⟩ := h6; refine .still hw v' [] (fun c oc hl => by cases hl) ?_ h1 rfl rfl rfl rfl; unfold cQ; rw [dT]; simp only [w7, mK, List.map_cons, List.map_nil, h5, Option.map_some]
      cases hq
    . rename_i T a lo hi mx dT; split at hq
      . rename_i p' mk' bY; obtain ⟨v', h5, h6⟩ := Option.map_eq_some_iff.1 hq; simp only [Prod.mk.injEq] at h6; obtain ⟨rfl, rfl⟩ := h6; refine .still hw v' [] (fun c oc hl => by cases hl) ?_ h1 rfl rfl rfl rfl; unfold cQ; rw [dT]; simp only [bY, h5, Option.map_some]
      . rename_i b' o' n' mk' cM bY; split at hq
        . rename_i ob hg; obtain ⟨h3, h4⟩ := aT hq; obtain ⟨v', h5, h6⟩ := Option.map_eq_some_iff.1 h4; simp only [Prod.mk.injEq] at h6; obtain ⟨rfl, rfl⟩ := h6; refine .still hw v' [(b', ob)] (fun c oc hl => ?_) ?_ h1 rfl rfl rfl rfl
          . simp only [look] at hl
            cases C5 : Nat.beq b' c with
            | true =>
              rw [C5] at hl; simp only [cond_true, Option.some.injEq] at hl; obtain rfl := bU C5; subst hl
              exact ⟨hg, jP h3, List.mem_append_left _ List.mem_cons_self⟩
            | false => rw [C5] at hl; cases hl
          unfold cQ; rw [dT]; simp only [bY, h5, Option.map_some]
        cases hq
      cases hq
    cases hq
  obtain ⟨e1, e2, e3⟩ := QR (h0 := h0) hw hc hf; exact ⟨fun b hb => by rw [e1]; exact hb, e2, e3⟩
theorem HH : ∀ (l : List Oper) (i : Nat) (x x' : wB), jY P h0 (cQ P call yield) ops n l i x = some x' -> (∀ b ∈ x.2.1, b ∈ x'.2.1) /\ (∀ k ∈ x.2.2, k ∈ x'.2.2) /\ ∃ st : Nat -> dS, st i = x.1 /\ st (i + l.length) = x'.1 /\
    ∀ j o, l[j]? = some o -> L7 P call yield ops n h0 x'.2.1 x'.2.2 o (i + j) (st (i + j)) (st (i + j + 1))
  | [], i, x, x', h => by
    simp only [jY, Option.some.injEq] at h; subst h
    exact ⟨fun _ h => h, fun _ h => h, fun _ => x.1, rfl, rfl, fun j o hj => by simp at hj⟩
  | o :: l, i, x, x', h => by
    simp only [jY] at h; split at h
    . rename_i x1 QS; obtain ⟨a1, a2, a3⟩ := NB QS; obtain ⟨b1, b2, st, h1, h2, h3⟩ := HH l (i + 1) x1 x' h; refine ⟨fun b hb => b1 b (a1 b hb), fun k hk => b2 k (a2 k hk), fun k => if k = i then x.1 else st k, by simp, ?_, fun j o' hj => ?_⟩
      . simp only [List.length_cons]; rw [if_neg (by omega), <- h2]; congr 1; omega
      cases j with
      | zero =>
        simp at hj; subst hj
        simpa [h1] using a3.mono b1 b2
      | succ j =>
        simp only [List.getElem?_cons_succ] at hj; have := h3 j o' hj; rw [show i + 1 + j = i + (j + 1) by omega] at this; simp only; rw [if_neg (by omega), if_neg (by omega)]; exact this
    cases h
theorem WW {t0 : Tr} {s : dS} (h : tU P h0 (cQ P call yield) ops n ⟨t0, h0, [], [], 0, false⟩ = some s) : ∃ st, Trace (cQ P call yield) ops n st t0 h0 /\ st ops.size = s := by
  unfold tU at h; split at h
  . rename_i x hr; obtain ⟨hl, h⟩ := aT h; simp only [Option.some.injEq] at h; subst h; obtain ⟨_, _, st, h1, h2, h3⟩ := HH _ _ _ _ hr
    have IE : st ops.size = x.1 := by simpa using h2
    have NA : ∀ i o, ops[i]? = some o -> L7 P call yield ops n h0 x.2.1 x.2.2 o i (st i) (st (i + 1)) := fun i o ho => by
      have := h3 i o (by simpa using ho); simpa only [Nat.zero_add] using this
    have n9 : ∀ b ∈ x.2.1, b ∉ x.2.2 := fun b hb hk => by
      have := List.all_eq_true.1 (List.all_eq_true.1 hl b hb) b hk; simp at this
    have bR : ∀ q, q <= ops.size -> h0.next <= (st q).h.next /\ ∀ b, b < h0.next -> b ∉ x.2.2 -> (st q).h.get b = h0.get b := fun q => by
      induction q with
      | zero => intro _; rw [h1]; exact ⟨Nat.le_refl _, fun _ _ _ => rfl⟩
      | succ q ih =>
        intro hq; obtain ⟨i1, i2⟩ := ih (by omega); have hd := NA q ops[q] (Array.getElem?_eq_getElem (by omega)); exact ⟨Nat.le_trans i1 hd.next, fun b hb hn => (hd.aW b (by omega) hn).trans (i2 b hb hn)⟩
    refine ⟨st, ⟨h1, fun i o ho => ?_⟩, IE⟩; have hd := NA i o ho; refine ⟨hd.bs, hd.FX.mono fun b ob ⟨a, b1, c⟩ => ⟨a, b1, .inr fun q hq => ?_⟩⟩; rw [(bR q hq).2 b b1 (n9 b c)]; exact a
  cases h
end
section
variable {call : FuncId -> List Value -> aA -> Option (Value × aA)} {yield : Nat -> List Value -> aA -> Option (Value × aA)} {ops : Array Oper} {n : Nat} {t0 : Tr} {h0 : aA} {S : Nat -> Prop} {ρ0 : Ren} {B : Nat} {w0 : World}
theorem WX (gW : lG P B w0 call) (pX : gD P B w0 yield) (bW : oQ ops = true) {s : dS} (hf : tU P h0 (cQ P call yield) ops n ⟨t0, h0, [], [], 0, false⟩ = some s)
    {w : World} {a : Act} (hr : HR P ρ0 S B w0 h0 w) (ht : lF ρ0 S t0 n a.tmps) {r : Option Nat} {nn : Nat} {Q : Exit -> Act -> World -> Prop}
    (k : ∀ bT w' a', aZ P B w0 ρ0 bT S h0 s.h w w' -> lF bT (Ext S h0 s.h) s.t n a'.tmps -> a'.defers = a.defers -> Q .normal a' w') (t : Nat) :
    wpOpsIn (q5 r) nn P ops Q (Region.schedule true ops t) a w := wO gW pX bW (WW hf) hr ht k t
end
end Go.Fs
