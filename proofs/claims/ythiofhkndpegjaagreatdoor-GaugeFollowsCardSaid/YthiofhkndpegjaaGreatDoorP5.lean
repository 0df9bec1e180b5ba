/- Parts of the proof: an evaluator of the model, what it is sound for, and contracts of functions. No condition. -/
import Derived.Test.YthiofhkndpegjaaGreatDoorP4
import Derived.Test.YthiofhkndpegjaaGreatDoorP3
import Derived.Laws.Strings
import Derived.Test.YthiofhkndpegjaaGreatDoorP2
import Ieee.Arith
import Derived.Sort.AssemblyPlain
import Derived.Shelf.SlSortCmp.InsertionK
set_option linter.all false
namespace Go.Fs
variable {P : Program} {orc : FuncId -> List Value -> U -> Option (Value × U)} {h : U} {σ : aR} {fl : VL} {n i mem : Nat} {l : List Oper} {K : VL -> aR -> Prop} {ops : Array Oper} {bs BL : List Nat} {tail so : Bool}
theorem VD.nw (nw1 : List Nat) (hk : VD P orc ops n l i fl nw1 σ so bs mem tail K) (he : BL = nw1 := by rfl) : VD P orc ops n l i fl BL σ so bs mem tail K := he ▸ hk
theorem VF.PI {f : FuncId} {τ : Ty} {dv : τ.den} {v : Value} (ho : ∀ h : U, orc f [] h = some (v, h)) (hv : ∀ (h : U) (S : List Nat), aH h S (.v τ dv) v) : VF P orc f [] (.v τ dv) := fun h S us bZ hS hr => by
  obtain rfl : us = [] := by
    cases us with
    | nil => rfl
    | cons a r => cases hr
  exact qW.PI (ho h) ⟨cI.refl _ _, hv h S, fun _ => rfl⟩
end Go.Fs
namespace Go.Fs
variable {P : Program} {h : U} {S : List Nat}
def XL (E : Ty -> TypeId -> Bool) : List Field -> Nat -> Ty -> Bool
  | [], _, .unit => true
  | f :: r, o, .pair a b => (!(f.name == "_") && Nat.beq f.offset o && E a f.type && XL E r (o + a.size) b) || (r.isEmpty && !(f.name == "_") && Nat.beq f.offset o && E (.pair a b) f.type)
  | [f], o, τ => !(f.name == "_") && Nat.beq f.offset o && E τ f.type
  | _, _, _ => false
def eqV (P : Program) : Nat -> Ty -> TypeId -> Bool
  | 0, _, _ => false
  | d + 1, τ, T => TF P T τ && match P.underlying T, τ with
    | some (.int k), .int k' => k == k'
    | some .bool, .bool => true
    | some .string, .str => true
    | some (.struct fs), .pair a b => !P.stoodInHeld T && XL (eqV P d) fs.toList 0 (.pair a b)
    | _, _ => false
theorem DS {x y : ByteArray} (he : x = y) : (x == y) = true := by
  subst he; show (x.data == x.data) = true; simp
theorem DT {x y : ByteArray} (he : ¬ x = y) : (x == y) = false := by
  show (x.data == y.data) = false; simp only [beq_eq_false_iff_ne, ne_eq]; exact fun hd => he (ByteArray.ext hd)
theorem TS {τ : Ty} (h : τ.agg = false) : τ.size = 1 := by cases τ <;> first | rfl | cases h
theorem zY {T : TypeId} {τ : Ty} (hT : fU P T τ) {cs : Array Value} {o : Nat} {x : τ.den} (hr : cG h S τ ((cs.toList.drop o).take τ.size) x) : ∃ v, aD P (part T cs o) = some v /\ aE h S τ v x := by
  obtain ⟨i, hi, dR⟩ := hT.info; obtain ⟨d, hd, fW⟩ := hT.agg
  have hA : aD P (isAgg T) = some τ.agg := by
    unfold isAgg; rw [aC, aK hd, <- fW]; cases d <;> rfl
  unfold part; rw [aC, hA]; simp only [Option.bind_some]
  cases hga : τ.agg with
  | true =>
    simp only [if_true]; rw [aC, iD hi]; refine ⟨_, rfl, hga.symm, ?_⟩; show cG h S τ (cs.extract o (o + i.size)).toList x; rw [dR, Array.toList_extract]
    simpa [List.extract_eq_take_drop] using hr
  | false =>
    simp only [Bool.false_eq_true, if_false]; obtain ⟨v, h1, h2⟩ := cG.one hga hr
    have h3 : cs[o]? = some v := by
      have := congrArg (fun l => l[0]?) h1; simp only [TS hga] at this; simpa using this
    rw [h3]; exact ⟨v, rfl, h2⟩
theorem XM {E : Ty -> TypeId -> Bool} {n : Nat} {cs ds : Array Value} (hE : ∀ τ T, E τ T = true -> fU P T τ /\ ∀ (u v : Value) (x y : τ.den) (inst : Decidable (x = y)), aE h S τ u x -> aE h S τ v y -> aD P (Op.equalIn n T u v) = some (@decide (x = y) inst)) :
    ∀ (l : List Field) (o : Nat) (τ : Ty) (x y : τ.den) (inst : Decidable (x = y)), XL E l o τ = true -> cG h S τ (cs.toList.drop o) x -> cG h S τ (ds.toList.drop o) y ->
    aD P (forIn l (none, ()) fun f __s =>
            if f.name ≠ "_" then do
              let __do_lift <- part f.type cs f.offset
              let __do_lift_1 <- part f.type ds f.offset
              let __do_lift <- Op.equalIn n f.type __do_lift __do_lift_1
              if (!__do_lift) = true then pure (ForInStep.done (some false, ())) else pure (ForInStep.yield (none, ()))
            else pure (ForInStep.yield (none, ()))) = some (if x = y then ((none : Option Bool), ()) else (some false, ())) := by
  intro l
  have key : ∀ (f : Field) (r : List Field) (o : Nat) (τ : Ty) (x y : τ.den) (inst : Decidable (x = y)) (R : Option (Option Bool × Unit)), (!(f.name == "_")) = true -> Nat.beq f.offset o = true -> E τ f.type = true -> cG h S τ ((cs.toList.drop o).take τ.size) x -> cG h S τ ((ds.toList.drop o).take τ.size) y ->
      aD P (forIn (f :: r) (none, ()) fun f __s =>
            if f.name ≠ "_" then do
              let __do_lift <- part f.type cs f.offset
              let __do_lift_1 <- part f.type ds f.offset
              let __do_lift <- Op.equalIn n f.type __do_lift __do_lift_1
              if (!__do_lift) = true then pure (ForInStep.done (some false, ())) else pure (ForInStep.yield (none, ()))
            else pure (ForInStep.yield (none, ()))) = if x = y then aD P (forIn r (none, ()) fun f __s =>
            if f.name ≠ "_" then do
              let __do_lift <- part f.type cs f.offset
              let __do_lift_1 <- part f.type ds f.offset
              let __do_lift <- Op.equalIn n f.type __do_lift __do_lift_1
              if (!__do_lift) = true then pure (ForInStep.done (some false, ())) else pure (ForInStep.yield (none, ()))
            else pure (ForInStep.yield (none, ()))) else some (some false, ()) := by
    intro f r o τ x y inst R n1 n2 n3 r1 r2; obtain ⟨hT, hq⟩ := hE _ _ n3; obtain ⟨u, u1, u2⟩ := zY hT r1; obtain ⟨v, v1, v2⟩ := zY hT r2
    have hn : f.name ≠ "_" := by simpa using n1
    have ho := bV n2; rw [List.forIn_cons]; simp only [hn, ne_eq, not_false_eq_true, if_true, aC, ho, u1, v1, Option.bind_some, hq u v x y inst u2 v2]; by_cases he : x = y <;> simp [he, aL, aC]
  induction l with
  | nil =>
    intro o τ x y inst hb hx hy; cases τ <;> first | (cases hb; done) | skip
    simp [aL]
  | cons f r ih =>
    intro o τ x y inst hb hx hy; by_cases hp : (∀ a b, τ ≠ .pair a b) \/ (r = [] /\ (!(f.name == "_")) = true /\ Nat.beq f.offset o = true /\ E τ f.type = true)
    . have hs : r = [] /\ (!(f.name == "_")) = true /\ Nat.beq f.offset o = true /\ E τ f.type = true := by
        rcases hp with hp | hp
        . cases τ with
          | pair a b => exact absurd rfl (hp a b)
          | _ =>
            cases r with
            | cons f' r => cases hb
            | nil =>
              obtain ⟨n1, n3⟩ := aQ (show (!(f.name == "_") && Nat.beq f.offset o && E _ f.type) = true from hb); obtain ⟨n1, n2⟩ := aQ n1; exact ⟨rfl, n1, n2, n3⟩
        exact hp
      obtain ⟨rfl, n1, n2, n3⟩ := hs; rw [key f [] o τ x y inst none n1 n2 n3 (by rw [List.take_of_length_le (Nat.le_of_eq hx.len)]; exact hx) (by rw [List.take_of_length_le (Nat.le_of_eq hy.len)]; exact hy)]; by_cases he : x = y <;> simp [he, aL]
    cases τ with
    | pair a b =>
      have sR : ((!(f.name == "_") && Nat.beq f.offset o && E a f.type && XL E r (o + a.size) b) || (r.isEmpty && !(f.name == "_") && Nat.beq f.offset o && E (.pair a b) f.type)) = true := hb; rcases Bool.or_eq_true_iff.1 sR with h1 | h1
      . obtain ⟨h1, n4⟩ := aQ h1; obtain ⟨h1, n3⟩ := aQ h1; obtain ⟨n1, n2⟩ := aQ h1; have hd := Classical.propDecidable (x.1 = y.1); have WJ := Classical.propDecidable (x.2 = y.2); rw [key f r o a x.1 y.1 hd none n1 n2 n3 hx.1 hy.1]; have h2 := ih (o + a.size) b x.2 y.2 WJ n4 (by rw [<- List.drop_drop]; exact hx.2) (by rw [<- List.drop_drop]; exact hy.2); rw [h2]; by_cases e1 : x.1 = y.1
        . by_cases e2 : x.2 = y.2
          . rw [if_pos e1, if_pos e2, if_pos (Prod.ext e1 e2)]
          rw [if_pos e1, if_neg e2, if_neg (fun e => e2 (by rw [e]))]
        rw [if_neg e1, if_neg (fun e => e1 (by rw [e]))]
      obtain ⟨h1, n3⟩ := aQ h1; obtain ⟨h1, n2⟩ := aQ h1; obtain ⟨h1, n1⟩ := aQ h1
      exact absurd (.inr ⟨by simpa using h1, n1, n2, n3⟩) hp
    | _ => exact absurd (.inl fun _ _ h => by cases h) hp
theorem ai4 : ∀ (d : Nat) (τ : Ty) (T : TypeId), eqV P d τ T = true -> ∀ (D : Nat) (u v : Value) (x y : τ.den) (inst : Decidable (x = y)), aE h S τ u x -> aE h S τ v y -> aD P (Op.equalIn (D + d) T u v) = some (@decide (x = y) inst) := by
  intro d
  induction d with
  | zero => intro τ T hb; cases hb
  | succ d ih =>
    intro τ T hb D u v x y inst hu hv; unfold eqV at hb; obtain ⟨hvt, hb⟩ := aQ hb
    cases hU : P.underlying T with
    | none => simp only [hU] at hb; cases hb
    | some dsc =>
      simp only [hU] at hb; cases τ <;> cases dsc <;> try (cases hb; done)
      . rename_i k _ k'
        obtain rfl : k = k' := by
          have : (k' == k) = true := hb; exact (by simpa using this : k' = k).symm
        obtain rfl := aE.int hu; obtain rfl := aE.int hv; rw [show D + (d + 1) = (D + d) + 1 from rfl, Op.equalIn, aC, aK hU]; simp only [Option.bind_some, if_true]; show some (_ == _) = _; by_cases he : x = y <;> simp [he]
      . obtain rfl := aE.bool hu; obtain rfl := aE.bool hv; rw [show D + (d + 1) = (D + d) + 1 from rfl, Op.equalIn, aC, aK hU]; simp only [Option.bind_some]; show some (_ == _) = _; by_cases he : x = y <;> simp [he]
      . obtain rfl := aE.str hu; obtain rfl := aE.str hv; rw [show D + (d + 1) = (D + d) + 1 from rfl, Op.equalIn, aC, aK hU]; simp only [Option.bind_some]; show some (_ == _) = _; by_cases he : x = y
        . rw [decide_eq_true he]; exact congrArg some (DS he)
        rw [decide_eq_false he]; exact congrArg some (DT he)
      rename_i a b fs; obtain ⟨h1, h2⟩ := aQ hb
      have hs : P.stoodInHeld T = false := by simpa using h1
      obtain ⟨cs, rfl⟩ : ∃ cs, u = .agg cs := by
        have := hu.1; cases u <;> first | exact ⟨_, rfl⟩ | cases this
      obtain ⟨ds, rfl⟩ : ∃ cs, v = .agg cs := by
        have := hv.1; cases v <;> first | exact ⟨_, rfl⟩ | cases this
      rw [show D + (d + 1) = (D + d) + 1 from rfl, Op.equalIn]; rw [aC, aK hU]; simp only [Option.bind_some, aC, n9, hs, Bool.false_eq_true, if_false]; simp only [<- Array.forIn_toList]; have hF := XM (h := h) (S := S) (cs := cs) (ds := ds) (n := D + d) (fun τ T hb => ⟨gM ?_, fun u v x y inst => ih τ T hb D u v x y inst⟩) fs.toList 0 _ x y inst h2 hu.2 hv.2
      . rw [hF]; by_cases he : x = y <;> simp [he, aL]
      cases d with
      | zero => cases hb
      | succ d => unfold eqV at hb; exact (aQ hb).1
structure EqT (P : Program) (T : TypeId) (τ : Ty) : Prop where
  eq : eqV P 40 τ T = true
  guard : P.eqGuardType P.depth T = false
  agg : τ.agg = true
  flat : τ.iA = true
theorem ai5 {T : TypeId} {τ : Ty} (hb : (eqV P 40 τ T && !P.eqGuardType P.depth T && τ.agg && τ.iA) = true) : EqT P T τ := by
  obtain ⟨h1, h4⟩ := aQ hb; obtain ⟨h1, h3⟩ := aQ h1; obtain ⟨h1, h2⟩ := aQ h1; exact ⟨h1, by simpa using h2, h3, h4⟩
theorem EqT.run {T : TypeId} {τ : Ty} (hT : EqT P T τ) {u v : Value} {x y : τ.den} {inst : Decidable (x = y)} (hu : aE h S τ u x) (hv : aE h S τ v y) : aD P (Op.equal T u v) = some (@decide (x = y) inst) :=
  ai4 40 τ T hT.eq 9960 u v x y inst hu hv
theorem QM {τ : Ty} {u : Value} {x : τ.den} (ha : τ.agg = true) (hu : aE h S τ u x) : ∃ cs, u = .agg cs := by
  have h1 := hu.1.trans ha; cases u <;> first | exact ⟨_, rfl⟩ | cases h1
variable {fl : VL} {σ : aR} {x y : Operand} {T T' : TypeId} {τ : Ty}
theorem aI.amU {p q : τ.den} [inst : Decidable (p = q)] (hT : EqT P T τ) (hx : aS fl x = some (.v τ p) := by rfl) (hy : aS fl y = some (.v τ q) := by rfl) : aI P fl σ (.binOp .neq T x y T') (.v .bool (decide (p ≠ q))) :=
  .bin hx hy fun h S a c ha hc => by
    have h1 := hT.run (inst := inst) ha hc; obtain ⟨cs, rfl⟩ := QM hT.agg ha; obtain ⟨ds, rfl⟩ := QM hT.agg hc; refine ⟨.bool (decide (p ≠ q)), aE.ofBool _, ?_, ?_⟩
    . rw [(aH.flat (pv := .v τ p) hT.flat ha).1, (aH.flat (pv := .v τ q) hT.flat hc).1]; rfl
    have he : aD P (eqGuard .neq T x y (.agg cs) (.agg ds)) = some () := by
      unfold eqGuard; simp [aC, n9, hT.guard, aL]
    have hb : aD P (binOp .neq T (.agg cs) (.agg ds)) = some (.bool (decide (p ≠ q))) := by
      unfold binOp; simp only [aC, h1, Option.bind_some, aL]; by_cases IA : p = q <;> simp [IA]
    unfold bX; rw [aC, he]; simp only [Option.bind_some, hb]; rfl
theorem H8 {a b : ByteArray} : (a.toList == b.toList) = decide (a = b) := by
  rw [ByteArray.toList_eq, ByteArray.toList_eq]; by_cases h : a = b
  . subst h; simp
  rw [decide_eq_false h, beq_eq_false_iff_ne]; exact fun he => h (ByteArray.ext (Array.toList_inj.1 he))
variable {p q : ByteArray}
theorem aI.ajQ (b : BinOp) {u : Value} {v : PV} (hx : aS fl x = some (.v .str p)) (hy : aS fl y = some (.v .str q)) (hu : aD P (Op.stringOp b p q) = some u) (hf : af u = true) (hb : ∀ T : TypeId, (do eqGuard b T x y (.string p) (.string q); binOp b T (.string p) (.string q)) = Op.stringOp b p q) (hv : ∀ h S, aH h S v u) : aI P fl σ (.binOp b T x y T') v :=
  .bin hx hy fun h S a c ha hc => by
    obtain rfl := aE.str ha; obtain rfl := aE.str hc; refine ⟨u, hv h S, rfl, ?_⟩; unfold bX; rw [hb, hu]; simp only [Option.bind_some, hf, if_true]
theorem aI.amV (hx : aS fl x = some (.v .str p) := by rfl) (hy : aS fl y = some (.v .str q) := by rfl) : aI P fl σ (.binOp .eql T x y T') (.v .bool (decide (p = q))) :=
  .ajQ .eql hx hy (u := .bool (decide (p = q))) (by rw [<- H8]; rfl) rfl (fun _ => rfl) fun h S => aE.ofBool _
theorem aI.ajR (hx : aS fl x = some (.v .str p) := by rfl) (hy : aS fl y = some (.v .str q) := by rfl) : aI P fl σ (.binOp .neq T x y T') (.v .bool (decide (p ≠ q))) :=
  .ajQ .neq hx hy (u := .bool (decide (p ≠ q))) (by rw [decide_not, <- H8]; rfl) rfl (fun _ => rfl) fun h S => aE.ofBool _
end Go.Fs
namespace Go.Fs
variable {P : Program} {fl : VL} {σ γ : aR} {Q : PV -> aR -> Prop} {fn : Func}
theorem mN.cap {r : ResultVar} {w : Value} {e : TypeId} {k : Nat} {τ : Ty} {xs : List τ.den} (hr : fn.results = #[r]) (h1 : tC P fl [] r (.raw w)) (hc : (w, Cell.cap e k τ xs) ∈ σ) (hQ : Q (.raw w) σ) : mN P fn γ Q .ret fl σ :=
  ⟨rfl, [.raw w], by rw [hr]; exact .cons h1 .nil, hQ, .inl ⟨w, e, k, τ, xs, rfl, hc⟩⟩
theorem mN.row {r : ResultVar} {w : Value} {e : TypeId} {τ : Ty} {xs : List τ.den} (hr : fn.results = #[r]) (h1 : tC P fl [] r (.raw w)) (hQ : Q (.raw w) [(w, Cell.row e τ xs)]) : mN P fn [] Q .ret fl [(w, Cell.row e τ xs)] :=
  ⟨rfl, [.raw w], by rw [hr]; exact .cons h1 .nil, hQ, .inr (.inr (.inl ⟨w, e, τ, xs, rfl, rfl, rfl⟩))⟩
end Go.Fs
namespace Go.Fs
variable {P : Program} {orc : FuncId -> List Value -> U -> Option (Value × U)}
theorem ac1 {k : IntKind} {x : Int} (h : U) (S : List Nat) (us : List Value) (hr : bA h S [.v (.int k) x] us) : us = [.int k x] := by
  obtain ⟨u, r, rfl, h1, h2⟩ := hr
  cases r with
  | nil => rw [aE.int h1]
  | cons a r => cases h2
theorem vH {fl : VL} {k : Nat} {κ : IntKind} {a b : Int} (hk : kT fl k = some (.v (.int κ) a)) (h : a = b) : kT fl k = some (.v (.int κ) b) := by rw [hk, h]
theorem fB {κ : IntKind} {a b : Int} (h : a = b) : PV.v (.int κ) a = PV.v (.int κ) b := by rw [h]
def zZ (f : Func) : Code := f.body.getD .skip
def amW : Code -> Code
  | .seq _ b => b
  | c => c
def LC : Nat -> Code -> Code
  | 0, c => c
  | n + 1, c => LC n (amW c)
section
variable {h0 : U} {S0 : List Nat} {σ : aR} {ms : List Nat} {fl : VL} {ops : Array Oper} {n i mem : Nat} {l : List Oper} {K : VL -> aR -> Prop}
  {d : Tmp} {ty : TypeId} {pos : String} {after : Array Edge} {op : Op} {v : PV} {g : Option (Nat × Bool)} {bs nw : List Nat} {tail so : Bool}
theorem VD.co {b : Nat} (hc : aI P fl σ op v) (hk : VD P orc ops n l (i + 1) ((d, v) :: fl) (fE ((so && FK nw op) || v.iJ) d nw) σ so (bs ++ [b]) mem tail K)
    (hb : aM bs ⟨some d, op, ty, pos, after, g⟩ = b := by rfl) (hw : cV ops fl g = some true := by rfl) (hn : (Nat.blt d n && Nat.ble n 4000) = true := by rfl) :
    VD P orc ops n (⟨some d, op, ty, pos, after, g⟩ :: l) i fl nw σ so bs mem tail K := fun h0 G S0 t h ms segs I ho => by
  obtain ⟨n1, n2⟩ := fits hn; obtain ⟨u, e1, e2⟩ := hc.2 h (own σ ++ S0) t I.aJ.tB I.cells; refine rV.op (s' := ⟨t.set depth d u, h, bs ++ [b], segs, mem, tail⟩) ?_ (hk h0 G S0 _ h ms segs (I.set e1 n2) fun ht => (ho ht).set n2 fun hold hs a1 a2 a3 a4 a5 => ?_)
  . unfold gJ; have xV : bL ops t ⟨some d, op, ty, pos, after, g⟩ = some true := cC I.aJ hw; simp only [xV, hc.1, if_true, e2, Nat.beq_refl, cond_true, bU n1, Option.map_some, hb]
  rcases Bool.or_eq_true_iff.1 hold with hold | hold
  . obtain ⟨o1, o2⟩ := aQ hold; obtain ⟨u', f1, f2⟩ := hc.2 hs (own σ ++ S0) t (zU a4 o2) (a5 o1)
    have : u' = u := by
      have g1 := e2 none 0 "" #[] none h; rw [f2 none 0 "" #[] none h] at g1; simpa using g1
    rw [<- this]; exact f1
  exact (aH.iJ hold e1).2 _ _
end
end Go.Fs
namespace Go.Fs
variable {P : Program} {orc : FuncId -> List Value -> U -> Option (Value × U)} {aY : Option Nat} {h h' h0 h1 h2 : U} {S S' S0 G : List Nat} {σ σ' nW γ gN : aR} {t t' : Tr} {ms : List Nat} {fl nw : VL} {ops : Array Oper} {n i mem : Nat} {l : List Oper} {K : VL -> aR -> Prop} {Q : Ex -> VL -> aR -> Prop}
  {d : Tmp} {ty : TypeId} {pos : String} {after : Array Edge} {op : Op} {v pv : PV} {g : Option (Nat × Bool)} {bs BL : List Nat} {tail so : Bool}
inductive LD (fl : VL) (γ : aR) : VL -> Prop where
  | nil : LD fl γ []
  | cons {k : Nat} {p p' : PV} {r : VL} (hk : kT fl k = some p) (hc : Co γ p p') (hr : LD fl γ r) : LD fl γ ((k, p') :: r)
theorem Iv.TT : ∀ {γ : aR}, Iv h0 G S0 h (γ ++ σ) t ms fl -> Iv h0 G S0 h σ t ms (fl)
  | [], I => I
  | _ :: γ, I => Iv.TT (γ := γ) I.forget
theorem Iv.yP (I : Iv h0 G S0 h (γ ++ σ) t ms fl) (hs : LD fl γ nw) : Iv h0 G S0 h σ t ms (nw ++ fl) := by
  have I' := I.TT
  have vB : eQ h (own σ ++ S0) t (nw ++ fl) := by
    induction hs with
    | nil => exact I'.aJ
    | cons hk hc hr ih =>
      refine ih.cons (Co.ok (σ := γ) (S0 := own σ ++ S0) (fun c hd => ?_) (fun b hb => ?_) hc ?_)
      . have := I.cells c (List.mem_append_left _ hd); rw [dF, List.append_assoc] at this; exact this
      . have h1 := I.apart; rw [dF] at h1; intro hm; rcases List.mem_append.1 hm with hm | hm
        . exact (List.nodup_append.1 h1).2.2 b hb b hm rfl
        exact (I.new b (by rw [dF]; exact List.mem_append_left _ hb)).2 hm
      have := I.aJ _ _ hk; rw [dF, List.append_assoc] at this; exact this
  exact { I' with aJ := vB }
theorem VC.yP {a : Code} (γ : aR) (nw : VL) (L9 : γ ++ σ = nW) (hs : LD fl γ nw) (hx : VC P orc aY a n (nw ++ fl) σ Q) : VC P orc aY a n fl nW Q := fun h0 G S0 t h ms I => by
  subst L9; exact hx h0 G S0 t h ms (I.yP hs)
theorem VD.pL {b : Nat} {f : Operand} {args : Array Operand} {mC : Array TypeId} {F : PV} {asl : List PV} {Qr : PV -> aR -> Prop} (hf : aS fl f = some F) (ha : kI fl args.toList = some asl) (hc : J0 P orc F asl [] Qr) (hk : ∀ r gN, Qr r gN -> VD P orc ops n l (i + 1) ((d, r) :: fl) (fE false d BL) (gN ++ σ) false (bs ++ [b]) (mem ||| 2 ^ i) tail K)
    (hb : aM bs ⟨some d, .call { callee := .value f, args := args, argTypes := mC }, ty, pos, after, g⟩ = b := by rfl) (gR : Nat.beq (mem &&& b) mem = true := by rfl) (hw : cV ops fl g = some true := by rfl) (hn : (Nat.blt d n && Nat.ble n 4000) = true := by rfl) :
    VD P orc ops n (⟨some d, .call { callee := .value f, args := args, argTypes := mC }, ty, pos, after, g⟩ :: l) i fl BL σ so bs mem tail K := fun h0 G S0 t h ms segs I ho => by
  obtain ⟨n1, n2⟩ := fits hn; obtain ⟨M, m1, m2, m3, m4, m5, m6, m7⟩ := r5 (mem := mem) I hb ho; obtain rfl := m6 gR; have Le := I.lc.aA (h' := entry h) (fun _ => rfl) rfl; obtain ⟨ND, a, c, rfl, hv⟩ := hc; obtain ⟨va, vc, h1, h2, h3⟩ := (dL Le.aJ hf : aH (entry h) _ (.lA ND a c) (aB t f)); have l7 := (h2.append (r4 Le.aJ ha)).append h3; refine rV.call (o := ⟨some d, .call { callee := .value f, args := args, argTypes := mC }, ty, pos, after, g⟩) (cC I.aJ hw) rfl rfl h1 (by simp only [hb, gR]; simp) ?_; rw [m1]; refine (hv (entry h) (own σ ++ S0) _ m2 Le.lt (fun c hc => by cases hc) List.nodup_nil (fun b hb => by cases hb) l7).mono fun u h' hq => ?_; obtain ⟨r, gN, q1, q2, q3⟩ := hq; have hA : eV (entry h) h' := q2.iH.after; have hl : h.next <= h'.low := hA.low h.next (Nat.le_refl _) (Nat.le_refl _)
  have dW : Nat.ble h.next h'.low = true := by rw [Nat.ble_eq]; exact hl
  have gU : h.next <= h'.next := hA.next; refine ⟨l9 gU, by simp only [dW, Bool.true_or], _, bU n1 t u, ?_⟩
  have hd : kB ⟨some d, .call { callee := .value f, args := args, argTypes := mC }, ty, pos, after, g⟩ i ⟨t, h, bs, segs, mem, tail⟩ (t.set depth d u) h' =
      ⟨t.set depth d u, { next := h'.next, low := h.low, aA := bI h.next h'.next h'.aA ++ h.aA }, bs ++ [b], (i, h.next, h'.next) :: segs, mem ||| 2 ^ i, tail⟩ := by
    unfold kB; simp only [dW, cond_true, hb]
  rw [hd]; obtain ⟨e1, e2⟩ := r3 (h' := h') I.ok m5 rfl hA m2
  have hm : Made (own σ ++ S0) h { next := h'.next, low := h.low, aA := bI h.next h'.next h'.aA ++ h.aA } [] gN := {
    iH := ⟨e1.next, fun b hb _ => e1.get b hb, e1.ok, fun e h3 h4 _ => e1.low e h3 h4, fun b hb => .inl (e1.get b hb), Nat.le_refl _⟩
    new := q2.new
    apart := q2.apart
    cells := fun c hc => (q2.cells c hc).aV (fun b hb => by
      obtain ⟨o, hg, _⟩ := (q2.cells c hc).isObj b hb
      exact ((e2 []) b _ hg (by simp)).1.trans hg.symm) (e2 _) fun b hb => List.mem_append_left _ (List.mem_flatMap.2 ⟨c, hc, hb⟩) }
  have fR := Made.app (γ := []) I.lc hm
  have q3' : aH { next := h'.next, low := h.low, aA := bI h.next h'.next h'.aA ++ h.aA } (own (gN ++ σ) ++ S0) r u := by
    rw [dF, List.append_assoc]; exact q3.nx (e2 _)
  refine hk r gN q1 h0 G S0 _ _ ms _ ((I.made fR).set q3' n2) fun ht => ?_
  obtain ⟨wL, a1, a2, a3, a4, a5, a6⟩ := (ho ht).set (v := r) (u := u) (old := false) n2 fun e => by cases e
  refine ⟨wL, a1, a2.trans e1, l8.cons a2.next a3, a4, fun k pv hk hn => (a5 k pv hk hn).nx (h := wL) fun b ob hg hb => ⟨hg, ?_⟩, fun e => by cases e⟩; have h3 := a1 b ob hg; have h4 := a2.next; intro pJ; rcases List.mem_append.1 pJ with pJ | pJ
  . rcases fR.new b pJ with h5 | h5
    . exact hb (List.mem_append_left _ h5)
    omega
  exact hb (List.mem_append_right _ pJ)
end Go.Fs
namespace Go.Fs
variable {P : Program} {orc : FuncId -> List Value -> U -> Option (Value × U)} {fl : VL} {σ γ : aR} {T : TypeId} {τ : Ty}
theorem row_one {h : U} {S : List Nat} {w : Value} {e : TypeId} {xs : List τ.den} (hc : cU h S w (.row e τ xs)) : aN w = true := by
  rcases hc with ⟨h1, _⟩ | ⟨b, rs, m, h1, _⟩
  . rw [show w = _ from h1]; rfl
  rw [show w = _ from h1]; rfl
theorem J.one {orc : FuncId -> List Value -> U -> Option (Value × U)} {ops : Array Oper} {n : Nat} {l : List Oper} {K : VL -> aR -> Prop} {w : Value} {e : TypeId} {xs : List τ.den} (hm : (w, Cell.row e τ xs) ∈ σ) (hk : aN w = true -> J P orc ops n l fl σ K) : J P orc ops n l fl σ K := fun h0 G S0 t h ms I => hk (row_one (I.cells _ hm)) h0 G S0 t h ms I
theorem VD.one {orc : FuncId -> List Value -> U -> Option (Value × U)} {ops : Array Oper} {n i mem : Nat} {l : List Oper} {K : VL -> aR -> Prop} {nw bs : List Nat} {so tail : Bool} {w : Value} {e : TypeId} {xs : List τ.den} (hm : (w, Cell.row e τ xs) ∈ σ) (hk : aN w = true -> VD P orc ops n l i fl nw σ so bs mem tail K) : VD P orc ops n l i fl nw σ so bs mem tail K := fun h0 G S0 t h ms segs I => hk (row_one (I.cells _ hm)) h0 G S0 t h ms segs I
theorem VD.perm {orc : FuncId -> List Value -> U -> Option (Value × U)} {ops : Array Oper} {n i mem : Nat} {l : List Oper} {K : VL -> aR -> Prop} {nw bs : List Nat} {so tail : Bool} {σ' : aR} (hp : σ.Perm σ') (hx : VD P orc ops n l i fl nw σ' false bs mem tail K) : VD P orc ops n l i fl nw σ so bs mem tail K := fun h0 G S0 t h ms segs I ho => hx h0 G S0 t h ms segs (I.perm hp) fun ht => by
  obtain ⟨hs, a1, a2, a3, a4, a5, a6⟩ := ho ht; refine ⟨hs, a1, a2, a3, a4, fun k pv hk hn => (a5 k pv hk hn).nx (h := hs) fun b ob hg hb => ⟨hg, fun hm => hb ?_⟩, fun e => by cases e⟩; rcases List.mem_append.1 hm with hm | hm
  . obtain ⟨c, hc, hb⟩ := List.mem_flatMap.1 hm; exact List.mem_append_left _ (List.mem_flatMap.2 ⟨c, hp.mem_iff.2 hc, hb⟩)
  exact List.mem_append_right _ hm
end Go.Fs
namespace Go.Fs
variable {P : Program} {fl : VL} {σ γ : aR} {Q : PV -> aR -> Prop} {fn : Func}
variable {p q r : ByteArray}
variable {x y : Operand} {T T' : TypeId}
end Go.Fs
namespace Go.Fs
variable {P : Program} {orc : FuncId -> List Value -> U -> Option (Value × U)} {aY : Option Nat} {h h' h0 h1 h2 : U} {S S' S0 : List Nat} {σ σ' : aR} {t t' : Tr} {ms : List Nat} {fl : VL} {ops : Array Oper} {n i mem : Nat} {l : List Oper} {K : VL -> aR -> Prop}
  {d : Tmp} {ty : TypeId} {pos : String} {after : Array Edge} {op : Op} {v pv : PV} {g : Option (Nat × Bool)} {x y z : Operand} {T T' e : TypeId} {τ dC : Ty}
inductive FnL : List PV -> List PV -> Prop where
  | nil : FnL [] []
  | same {p : PV} {l l' : List PV} (hl : FnL l l') : FnL (p :: l) (p :: l')
  | fn {f : FuncId} {l l' : List PV} (hl : FnL l l') : FnL (.lA f [] [] :: l) (.v .fn (some f) :: l')
end Go.Fs
namespace Go.Fs
variable {P : Program} {orc : FuncId -> List Value -> U -> Option (Value × U)} {aY : Option Nat} {h h' h0 h1 h2 hr : U} {S S' S0 B G A : List Nat} {σ σ' nW ρ : aR} {t t' : Tr} {ms : List Nat} {fl : VL} {ops : Array Oper} {n i mem : Nat} {l : List Oper} {K : VL -> aR -> Prop} {Q : Ex -> VL -> aR -> Prop}
  {d : Tmp} {ty : TypeId} {pos : String} {after : Array Edge} {op : Op} {v pv : PV} {g : Option (Nat × Bool)} {x y z : Operand} {T T' e : TypeId} {τ dC : Ty} {bs nw rd chg : List Nat} {segs : List (Nat × Nat × Nat)} {tail tl : Bool} {w w' : Value}
section
variable (P orc)
def xW (hr : U) (ops : Array Oper) (n : Nat) (l : List Oper) (i : Nat) (x : uT) (Q : uT -> Prop) : Prop := ∃ m x', iW P hr (lV P orc m) ops n l i x = some x' /\ Q x'
end
theorem xW.nil {x : uT} {QL : uT -> Prop} (hq : QL x) : xW P orc hr ops n [] i x QL := ⟨0, x, rfl, hq⟩
theorem xW.opr {o : Oper} {x x' : uT} {QL : uT -> Prop} (hs : fN P hr (gG P) ops n o i x = some x') (hl : xW P orc hr ops n l (i + 1) x' QL) : xW P orc hr ops n (o :: l) i x QL := by
  obtain ⟨m, s2, hf, hq⟩ := hl; refine ⟨m, s2, ?_, hq⟩; simp only [iW, y0 (EI m) hs]; exact hf
def yQ : Op -> Bool
  | .load .. => true
  | .call { callee := .builtin .len, .. } => true
  | .slice .. => true
  | _ => false
theorem FP {ev : Operand -> Value} {nx : Nat} (hq : yQ op = false) : qP P hr op ev nx = none := by
  unfold qP; split
  . cases hq
  . cases hq
  . cases hq
  rfl
theorem xW.call {o : Oper} {s : dT} {c : Call} {f : Operand} {gf : FuncId} {a b : Array Value} {QL : uT -> Prop} (hw : bL ops s.t o = some true) (ho : o.op = .call c) (hc : c.callee = .value f) (hf : aB s.t f = .func (.func gf) a b)
    (gR : Nat.beq (s.mem &&& aM s.bs o) s.mem = true)
    (hl : qW P orc gf (a.toList ++ c.args.toList.map (aB s.t) ++ b.toList) (entry s.h) fun v h' => Nat.blt h'.next s.h.next = false /\ Nat.ble s.h.next h'.low = true /\
      ∃ t', put n s.t o.dst v = some t' /\ xW P orc hr ops n l (i + 1) (kB o i s t' h', rd, chg) QL) : xW P orc hr ops n (o :: l) i (s, rd, chg) QL := by
  obtain ⟨m, v, h1, hf1, gU, sO, t1, hp, k, s2, kG, hq⟩ := hl; refine ⟨max m k, s2, ?_, hq⟩; have h3 := B8.y5 (P := P) (orc := orc) (Nat.le_max_left m k) _ _ _ _ hf1
  have sP : calm o.op = false := by rw [ho]; rfl
  have Q6 : yQ o.op = false := by
    rw [ho]; obtain ⟨cal, args, mC⟩ := c; simp only at hc; subst hc; rfl
  have hd : fN P hr (lV P orc (max m k)) ops n o i (s, rd, chg) = some (kB o i s t1 h1, rd, chg) := by
    unfold fN; simp only [hw, sP, Bool.false_eq_true, if_false, FP Q6]; unfold p4; simp only [gR, Bool.not_true, Bool.and_false, cond_false, cond_true]; rw [w8 ho hc hf]; unfold entry at h3; rw [h3]; simp only [gU, cond_false, hp, sO, cond_true]; unfold kB; simp only [sO, cond_true]
  simp only [iW, hd]; exact rD (CA (Nat.le_max_right m k)) _ _ _ _ kG
theorem gX.late {id : Nat} {fr : Fr} {QC : Ex -> Fr -> U -> Prop} (hl : B7 ops = true) (ho : xW P orc h ops fr.n ops.toList 0 (⟨fr.t, h, [], [], 0, false⟩, [], []) fun x => IV x = true /\ QC .normal { t := x.1.t, n := fr.n, marks := fr.marks } x.1.h) : gX P orc aY (.region id ops true) fr h QC := by
  obtain ⟨m, x, hf, ha, hq⟩ := ho; refine ⟨m + 1, .normal, _, _, ?_, hq⟩; show bH P orc (dK P orc m) aY (.region id ops true) fr h = _; unfold lV at hf; simp only [bH, hl, cond_true, tS, hf, ha]
structure rP (hr h : U) (S0 A : List Nat) (σ ρ : aR) (t : Tr) (fl : VL) (nw rd chg : List Nat) : Prop where
  ok : nK hr
  lt : ∀ b ∈ A ++ S0, b < hr.next
  next : hr.next <= h.next
  goes : dA hr (A ++ S0) h (own σ ++ S0)
  aJ : ∀ k pv, kT fl k = some pv -> mM nw k = false -> aH hr (A ++ S0) pv (t.get k)
  suf : ∃ tE, σ = tE ++ ρ
  cells : ∀ c ∈ ρ, cU hr (A ++ S0) c.1 c.2
  fix : ∀ b ∈ own ρ, b ∈ A
  new : ∀ b ∈ own σ, b ∈ A \/ hr.next <= b
  rd : ∀ b ∈ rd, b < hr.next /\ (b ∈ own ρ \/ b ∉ A)
  chg : ∀ k ∈ chg, k ∉ own ρ /\ (k ∈ A \/ hr.next <= k)
section
variable (P orc)
def j7 (ops : Array Oper) (n : Nat) (l : List Oper) (i : Nat) (fl : VL) (nw : List Nat) (σ ρ : aR) (bs : List Nat) (mem : Nat) (tl : Bool) (K : VL -> aR -> Prop) : Prop :=
  ∀ (hr h0 : U) (G S0 A : List Nat) (t : Tr) (h : U) (ms rd chg : List Nat) (segs : List (Nat × Nat × Nat)) (tail : Bool), (tl = false -> tail = false) -> Iv h0 G S0 h σ t ms fl -> rP hr h S0 A σ ρ t fl nw rd chg ->
    xW P orc hr ops n l i (⟨t, h, bs, segs, mem, tail⟩, rd, chg) fun x => IV x = true /\ ∃ eS σ', Iv h0 G S0 x.1.h σ' x.1.t ms eS /\ K eS σ'
end
theorem VC.late {id : Nat} {ops : Array Oper} (ρ : aR) (hs : ∃ tE, σ = tE ++ ρ) (hx : j7 P orc ops n ops.toList 0 fl [] σ ρ [] 0 false fun eS σ' => Q .normal eS σ') (hl : B7 ops = true := by kernel_rfl) : VC P orc aY (.region id ops true) n fl σ Q := fun h0 G S0 t h ms I => by
  refine gX.late hl ?_; have hA := I.lc.lt
  have amX : ∀ b ∈ own ρ, b ∈ own σ := fun b hb => by
    obtain ⟨tE, rfl⟩ := hs; rw [dF]; exact List.mem_append_right _ hb
  obtain ⟨m, x, h1, ha, eS, σ', h2, h3⟩ := hx h h0 G S0 (own σ) t h ms [] [] [] false (fun _ => rfl) I
    { ok := I.ok, lt := hA, next := Nat.le_refl _, goes := fun b o hg hb => ⟨hg, hb⟩, aJ := fun k pv hk _ => I.aJ k pv hk, suf := hs,
      cells := fun c hc => I.cells c (by obtain ⟨tE, rfl⟩ := hs; exact List.mem_append_right _ hc), fix := amX, new := fun b hb => .inl hb, rd := fun b hb => (by cases hb), chg := fun k hk => (by cases hk) }
  exact ⟨m, x, h1, ha, rfl, eS, σ', h2, h3⟩
theorem j7.nil (hk : K fl σ) : j7 P orc ops n [] i fl nw σ ρ bs mem tl K := fun hr h0 G S0 A t h ms rd chg segs tail ht I L => by
  refine xW.nil ⟨?_, fl, σ, I, hk⟩; refine List.all_eq_true.2 fun b hb => List.all_eq_true.2 fun k hk => ?_; obtain ⟨r1, r2⟩ := L.rd b hb; obtain ⟨c1, c2⟩ := L.chg k hk
  have cA : b ≠ k := by
    intro e; subst e; rcases r2 with r2 | r2
    . exact c1 r2
    rcases c2 with c2 | c2
    . exact r2 c2
    omega
  rw [eE cA]; rfl
theorem j7.go {b : Code} (hx : VC P orc aY b n fl σ Q) : j7 P orc ops n [] i fl nw σ ρ bs mem tl fun fl σ => KT P orc aY n b Q .normal fl σ := j7.nil hx
theorem rP.set {u : Value} {old : Bool} (L : rP hr h S0 A σ ρ t fl nw rd chg) (hd : d < 4000) (hu : old = true -> aH hr (A ++ S0) v u) : rP hr h S0 A σ ρ (t.set depth d u) ((d, v) :: fl) (fE old d nw) rd chg :=
  { L with
    aJ := fun k pv hk hn => by
      rw [zS t d u k hd]; simp only [kT] at hk
      cases hb : Nat.beq d k with
      | true =>
        rw [hb] at hk; simp only [cond_true, Option.some.injEq] at hk; subst hk; rw [if_pos (bV hb).symm]
        cases old with
        | true => exact hu rfl
        | false =>
          simp only [fE, cond_false, mM, hb, cond_true] at hn
          cases hn
      | false =>
        rw [hb] at hk; simp only [cond_false] at hk; have cA := gC hb; rw [if_neg (Ne.symm cA)]; refine L.aJ k pv hk ?_
        cases old with
        | true => rw [fE, cond_true, nV (Ne.symm cA)] at hn; exact hn
        | false => simpa only [fE, cond_false, mM, hb] using hn }
theorem rP.read (L : rP hr h S0 A σ ρ t fl nw rd chg) {b : Nat} (hb : b < hr.next /\ (b ∈ own ρ \/ b ∉ A)) : rP hr h S0 A σ ρ t fl nw (b :: rd) chg :=
  { L with
    rd := fun k hk => by
      rcases List.mem_cons.1 hk with rfl | hk
      . exact hb
      exact L.rd k hk }
theorem rP.made (L : rP hr h S0 A σ ρ t fl nw rd chg) (I : Iv h0 G S0 h σ t ms fl) (m : Made S0 h h' σ σ') (hs : ∃ tE, σ' = tE ++ ρ) : rP hr h' S0 A σ' ρ t fl nw rd chg :=
  { L with
    next := Nat.le_trans L.next m.iH.next
    goes := L.goes.trans (I.goes (fun _ hb => hb) m.iH m.new)
    suf := hs
    new := fun b hb => by
      rcases m.new b hb with h3 | h3
      . exact L.new b h3
      have := L.next
      exact .inr (by omega) }
theorem j7.c {b : Nat} (hc : aI P fl [] op v) (hk : j7 P orc ops n l (i + 1) ((d, v) :: fl) (fE (FK nw op || v.iJ) d nw) σ ρ (bs ++ [b]) mem tl K)
    (hb : aM bs ⟨some d, op, ty, pos, after, g⟩ = b := by rfl) (hw : cV ops fl g = some true := by rfl) (hn : (Nat.blt d n && Nat.ble n 4000) = true := by rfl) :
    j7 P orc ops n (⟨some d, op, ty, pos, after, g⟩ :: l) i fl nw σ ρ bs mem tl K := fun hr h0 G S0 A t h ms rd chg segs tail ht I L => by
  obtain ⟨n1, n2⟩ := fits hn; obtain ⟨u, e1, e2⟩ := hc.2 h (own σ ++ S0) t I.aJ.tB (fun _ hc => by cases hc); refine xW.opr (x' := (⟨t.set depth d u, h, bs ++ [b], segs, mem, tail⟩, rd, chg)) ?_ (hk hr h0 G S0 A _ h ms rd chg segs tail ht (I.set e1 n2) (L.set n2 fun hold => ?_))
  . unfold fN; have xV : bL ops t ⟨some d, op, ty, pos, after, g⟩ = some true := cC I.aJ hw; simp only [xV, hc.1, if_true, e2, Nat.beq_refl, cond_true, bU n1, Option.map_some, hb]
  rcases Bool.or_eq_true_iff.1 hold with hold | hold
  . obtain ⟨u', f1, f2⟩ := hc.2 hr (A ++ S0) t (zU L.aJ hold) (fun _ hc => by cases hc)
    have : u' = u := by
      have g1 := e2 none 0 "" #[] none h; rw [f2 none 0 "" #[] none h] at g1; simpa using g1
    rw [<- this]; exact f1
  exact (aH.iJ hold e1).2 _ _
theorem XN {b o : Nat} {ob : bC} {H : U} {nx : Nat} {u : Value} (hg : H.get b = some ob) (hv : dD P T (.pointer (some ⟨b, o, none⟩)) H = some u) : dD P T (.pointer (some ⟨b, o, none⟩)) { next := nx, low := nx, aA := [(b, ob)] } = some u := by
  unfold dD at hv ⊢; simp only at hv ⊢
  have : U.get { next := nx, low := nx, aA := [(b, ob)] } b = some ob := by
    show look [(b, ob)] b = some ob; simp [look]
  rw [this]; rw [hg] at hv; exact hv
theorem TU {b b0 o0 : Nat} {ob : bC} {u : Value} (hx : aB t x = .pointer (some ⟨b0, o0, none⟩)) (hg : hr.get b0 = some ob) (bO : b0 < hr.next) (hv : dD P T (.pointer (some ⟨b0, o0, none⟩)) hr = some u)
    (hb : aM bs ⟨some d, .load T x, ty, pos, after, g⟩ = b) (hw : bL ops t ⟨some d, .load T x, ty, pos, after, g⟩ = some true) (n1 : Nat.blt d n = true) :
    fN P hr (gG P) ops n ⟨some d, .load T x, ty, pos, after, g⟩ i (⟨t, h, bs, segs, mem, tail⟩, rd, chg) = some (⟨t.set depth d u, h, bs ++ [b], segs, mem, tail⟩, b0 :: rd, chg) := by
  have hq : qP P hr (.load T x) (aB t) h.next = some (u, [b0]) := by
    have CS : Nat.blt b0 hr.next = true := by rw [Nat.blt_eq]; exact bO
    simp only [qP, hx, hg, CS, cond_true, XN (nx := h.next) hg hv, Option.map_some]
  unfold fN; simp only [hw, show calm (Op.load T x) = false from rfl, Bool.false_eq_true, if_false, hq, bU n1, Option.map_some, hb]; rfl
theorem j7.q {b : Nat} {dx : τ.den} (hx : aS fl x = some (.p τ dx)) (hc : cJ P fl [] (.load T x) v) (hk : j7 P orc ops n l (i + 1) ((d, v) :: fl) (fE true d nw) σ ρ (bs ++ [b]) mem tl K)
    (hb : aM bs ⟨some d, .load T x, ty, pos, after, g⟩ = b := by rfl) (hold : AY nw x = true := by rfl) (hw : cV ops fl g = some true := by rfl) (hn : (Nat.blt d n && Nat.ble n 4000) = true := by rfl) :
    j7 P orc ops n (⟨some d, .load T x, ty, pos, after, g⟩ :: l) i fl nw σ ρ bs mem tl K := fun hr h0 G S0 A t h ms rd chg segs tail ht I L => by
  obtain ⟨n1, n2⟩ := fits hn; obtain ⟨b0, o0, e', rs, ajN, more, h1, h2, h3, h4⟩ := (qF L.aJ hx hold : mI hr (A ++ S0) τ (aB t x) dx)
  obtain ⟨u, e1, e2⟩ := hc.2 hr (A ++ S0) t (fun z hz pv hp => by
    obtain rfl : z = x := by simpa [Op.operands] using hz
    exact qF L.aJ hp hold) (fun _ hc => by cases hc)
  have bT := e2 hr (fun _ _ hg => hg) none 0 "" #[] none
  have hv : dD P T (.pointer (some ⟨b0, o0, none⟩)) hr = some u := by
    have h5 : (dD P T (aB t x) hr).map (fun v => (v, hr)) = some (u, hr) := bT; obtain ⟨v', h6, h7⟩ := Option.map_eq_some_iff.1 h5; simp only [Prod.mk.injEq, and_true] at h7; rw [<- h1, h6, h7]
  have bO := L.ok b0 _ h3; refine xW.opr (TU h1 h3 bO hv hb (cC I.aJ hw) n1) (hk hr h0 G S0 A _ h ms _ chg segs tail ht (I.set (e1.nx L.goes) n2) ((L.set (old := true) n2 fun _ => e1).read ⟨bO, .inr fun hm => h2 (List.mem_append_left _ hm)⟩))
theorem TV {b o n' mk : Nat} {lo hi mx : Option Value} {ob : bC} {H : U} {nx : Nat} (hg : H.get b = some ob) : bS P T (.slice (some ⟨b, o, none⟩) n' mk) lo hi mx { next := nx, low := nx, aA := [(b, ob)] } = bS P T (.slice (some ⟨b, o, none⟩) n' mk) lo hi mx H := by
  have e : U.get { next := nx, low := nx, aA := [(b, ob)] } b = H.get b := by
    rw [hg]; show look [(b, ob)] b = some ob; simp [look]
  unfold bS l5; simp only [e]
def afR (fl : VL) (z : Operand) : Bool := match aS fl z with
  | some pv => pv.iJ
  | none => true
theorem j7.sl {b : Nat} {xs : List τ.den} {lo hi mx : Option Operand} (hx : aS fl x = some (.v (.sl τ) xs)) (hc : cJ P fl [] (.slice T x lo hi mx) v) (hk : j7 P orc ops n l (i + 1) ((d, v) :: fl) (fE true d nw) σ ρ (bs ++ [b]) mem tl K)
    (TW : ((lo.toList ++ hi.toList ++ mx.toList).all (afR fl)) = true := by rfl) (hb : aM bs ⟨some d, .slice T x lo hi mx, ty, pos, after, g⟩ = b := by rfl) (hold : FK nw (.slice T x lo hi mx) = true := by rfl) (hw : cV ops fl g = some true := by rfl) (hn : (Nat.blt d n && Nat.ble n 4000) = true := by rfl) :
    j7 P orc ops n (⟨some d, .slice T x lo hi mx, ty, pos, after, g⟩ :: l) i fl nw σ ρ bs mem tl K := fun hr h0 G S0 A t h ms rd chg segs tail ht I L => by
  obtain ⟨n1, n2⟩ := fits hn; have afS : yO hr (A ++ S0) t fl (.slice T x lo hi mx) := zU L.aJ hold; have xV : bL ops t ⟨some d, .slice T x lo hi mx, ty, pos, after, g⟩ = some true := cC I.aJ hw; have vB := aE.sl (afS x (by simp [Op.operands]) _ hx : aE hr (A ++ S0) (.sl τ) (aB t x) xs)
  have yA : ∀ {u : Value} {r : List Nat}, qP P hr (.slice T x lo hi mx) (aB t) h.next = some (u, r) -> aH hr (A ++ S0) v u -> rP hr h S0 A σ ρ (t.set depth d u) ((d, v) :: fl) (fE true d nw) (r ++ rd) chg ->
      xW P orc hr ops n (⟨some d, .slice T x lo hi mx, ty, pos, after, g⟩ :: l) i (⟨t, h, bs, segs, mem, tail⟩, rd, chg) fun x' => IV x' = true /\ ∃ eS σ', Iv h0 G S0 x'.1.h σ' x'.1.t ms eS /\ K eS σ' := fun {u r} hq e1 hL => by
    refine xW.opr (x' := (⟨t.set depth d u, h, bs ++ [b], segs, mem, tail⟩, r ++ rd, chg)) ?_ (hk hr h0 G S0 A _ h ms _ chg segs tail ht (I.set (e1.nx L.goes) n2) hL); unfold fN; simp only [xV, show calm (Op.slice T x lo hi mx) = false from rfl, Bool.false_eq_true, if_false, hq, bU n1, Option.map_some, hb]
  cases xs with
  | nil =>
    have amY : aH { next := h.next, low := h.next, aA := [] } (A ++ S0) (.v (.sl τ) []) (aB t x) := by
      rcases vB with ⟨hu, _⟩ | ⟨bl, o, mk, hu, _⟩
      . exact (show k9 _ (A ++ S0) τ (aB t x) [] from .inl ⟨hu, rfl⟩).rep
      exact (show k9 _ (A ++ S0) τ (aB t x) [] from .inr ⟨bl, o, mk, hu, .inl rfl⟩).rep
    have akZ : yO { next := h.next, low := h.next, aA := [] } (A ++ S0) t fl (.slice T x lo hi mx) := fun z hz pv hp => by
      rcases List.mem_cons.1 (show z ∈ x :: (lo.toList ++ hi.toList ++ mx.toList) by simpa [Op.operands] using hz) with rfl | hz'
      . rw [hx] at hp; obtain rfl := Option.some.inj hp; exact amY
      have hf := List.all_eq_true.1 TW z hz'; unfold afR at hf; rw [hp] at hf; exact (aH.iJ hf (afS z hz pv hp)).2 _ _
    obtain ⟨u, e1, e2⟩ := hc.2 { next := h.next, low := h.next, aA := [] } (A ++ S0) t akZ (fun _ hc => by cases hc); have bT := e2 { next := h.next, low := h.next, aA := [] } (fun _ _ hg => hg) none 0 "" #[] none; have h5 : (bS P T (aB t x) (lo.map (aB t)) (hi.map (aB t)) (mx.map (aB t)) { next := h.next, low := h.next, aA := [] }).map (fun v => (v, ({ next := h.next, low := h.next, aA := [] } : U))) = some (u, { next := h.next, low := h.next, aA := [] }) := bT; obtain ⟨v', h6, h7⟩ := Option.map_eq_some_iff.1 h5; simp only [Prod.mk.injEq, and_true] at h7; subst h7
    have e3 : aH hr (A ++ S0) v v' := e1.nx fun b o hg hb => by cases hg
    refine yA (r := []) ?_ e3 (L.set (old := true) n2 fun _ => e3); rcases vB with ⟨hu, _⟩ | ⟨bl, o, mk, hu, _⟩
    . rw [hu] at h6; simp only [qP, hu, h6, Option.map_some]
    have wA : aB t x = .slice (some ⟨bl, o, none⟩) 0 mk := hu; rw [wA] at h6
    simp only [qP, wA, h6, Option.map_some]
  | cons y ys =>
    rcases vB with ⟨_, SZ⟩ | ⟨bl, o, mk, hu, SZ | ⟨hS, e', rs, ajN, more, hg, _⟩⟩
    . cases SZ
    . cases SZ
    obtain ⟨u, e1, e2⟩ := hc.2 hr (A ++ S0) t afS (fun _ hc => by cases hc); have bT := e2 hr (fun _ _ hg => hg) none 0 "" #[] none; have h5 : (bS P T (aB t x) (lo.map (aB t)) (hi.map (aB t)) (mx.map (aB t)) hr).map (fun v => (v, hr)) = some (u, hr) := bT; obtain ⟨v', h6, h7⟩ := Option.map_eq_some_iff.1 h5; simp only [Prod.mk.injEq, and_true] at h7; subst h7; have bO := L.ok bl _ hg; refine yA (r := [bl]) ?_ e1 ((L.set (old := true) n2 fun _ => e1).read ⟨bO, .inr fun hm => hS (List.mem_append_left _ hm)⟩)
    have CS : Nat.blt bl hr.next = true := by rw [Nat.blt_eq]; exact bO
    have wA : aB t x = .slice (some ⟨bl, o, none⟩) (ys.length + 1) mk := hu; rw [wA] at h6; simp only [qP, wA, hg, CS, cond_true, TV hg, h6, Option.map_some]
theorem XO {b : Nat} {o : Oper} {u : Value} {t2 : Tr} (hb : aM bs o = b) (hp : put n t o.dst u = some t2) (sP : calm o.op = false) (Q6 : yQ o.op = false) (hw : bL ops t o = some true) (gR : Nat.beq (mem &&& b) mem = true) (bZ : nK h) (bT : gG P o (aB t) (entry h) = some (u, h')) (hB : cI (entry h) h' B)
    (htu : h.next <= h'.low \/ ∃ k, rU o.op (aB t) = some k) :
    ∃ h2 oF DI, fN P hr (gG P) ops n o i (⟨t, h, bs, segs, mem, tail⟩, rd, chg) = some (⟨t2, h2, bs ++ [b], (i, h.next, h'.next) :: segs, mem ||| 2 ^ i, oF⟩, rd, DI) /\ (∀ b, h2.get b = h'.get b) /\ h2.next = h'.next /\ cI h h2 B /\ ((DI = chg /\ oF = tail) \/ ∃ k, rU o.op (aB t) = some k /\ ¬ h.next <= h'.low /\ DI = k :: chg) := by
  have gU := hB.next; have afN : Nat.blt h'.next h.next = false := l9 gU; unfold fN; simp only [hw, sP, Bool.false_eq_true, if_false, FP Q6]; unfold p4; simp only [hb, gR, Bool.not_true, Bool.and_false, cond_false, cond_true]; unfold entry at bT; rw [bT]; simp only [afN, cond_false, hp]
  cases dW : Nat.ble h.next h'.low with
  | true =>
    have hl := fY dW
    have l6 : ∀ b, b < h.next -> h'.get b = h.get b := fun b hb => by
      rcases hB.chg b hb with h3 | h3
      . exact h3
      omega
    have jC : ∀ b, look (bI h.next h'.next h'.aA ++ h.aA) b = h'.get b := fun b => by
      rw [jO]; by_cases hb : b < h.next
      . cases nQ : look (bI h.next h'.next h'.aA) b with
        | some o => have := (fA _ _ _ nQ).1; omega
        | none => exact (l6 b hb).symm
      have hold : look h.aA b = none := by
        cases nQ : look h.aA b with
        | none => rfl
        | some o => exact absurd (bZ b o nQ) hb
      rw [hold, Option.or_none]
      cases nQ : look h'.aA b with
      | some o =>
        have : b < h'.next := hB.ok bZ b o nQ; rw [FB _ _ (by omega) this, nQ]
        exact nQ.symm
      | none =>
        cases hl3 : look (bI h.next h'.next h'.aA) b with
        | none => exact nQ.symm
        | some o => rw [(fA _ _ _ hl3).2] at nQ; cases nQ
    refine ⟨_, _, _, rfl, jC, rfl, ⟨gU, fun b hb hn => (jC b).trans (hB.get b hb hn), fun _ b o hg => ?_, fun e h3 _ _ => h3, fun b hb => .inl ((jC b).trans (l6 b hb)), Nat.le_refl _⟩, .inl ⟨rfl, rfl⟩⟩
    exact hB.ok bZ b o ((jC b).symm.trans hg)
  | false =>
    rcases htu with htu | ⟨k, htu⟩
    . have : Nat.ble h.next h'.low = true := by rw [Nat.ble_eq]; exact htu
      rw [this] at dW; cases dW
    simp only [htu, cond_false, cond_true]; refine ⟨_, _, _, rfl, fun _ => rfl, rfl, ⟨gU, hB.get, fun _ => hB.ok bZ, fun e h3 h4 h5 => Nat.le_min.2 ⟨h3, hB.low e h4 h4 h5⟩, fun b hb => ?_, Nat.min_le_left _ _⟩, .inr ⟨k, rfl, fun hle => (by have e : Nat.ble h.next h'.low = true := (by rw [Nat.ble_eq]; exact hle); rw [e] at dW; cases dW), rfl⟩⟩; rcases hB.chg b hb with h3 | h3
    . exact .inl h3
    exact .inr (Nat.le_trans (Nat.min_le_right _ _) h3)
def QN (P : Program) (fl : VL) (op : Op) (w : Value) (c : Cell) : Prop := yQ op = false /\ ∀ (h h' : U) (S : List Nat) (t : Tr) (u : Value) (d : Option Tmp) (ty : TypeId) (pos : String) (after : Array Edge) (g : Option (Nat × Bool)), yO h S t fl op -> cU h S w c -> gG P ⟨d, op, ty, pos, after, g⟩ (aB t) h = some (u, h') ->
  (∀ k, rU op (aB t) = some k -> k ∈ dX w) /\ (h.low <= h'.low \/ ∃ k, rU op (aB t) = some k)
theorem QN.store {q : Value} {cs : List PV} (hx : aS fl x = some (.raw q)) (hq : q = w \/ ∃ k, q = oN w k) : QN P fl (.store T x y) w (.var cs) := ⟨rfl, fun h h' S t u d ty pos after g hs hc _ => by
  have hxq : aB t x = q := (hs x (by simp [Op.operands]) _ hx : aH _ _ (.raw q) _); obtain ⟨b0, e', vs, h1, h2, h3, h4, h5⟩ := hc
  obtain ⟨o0, hqb⟩ : ∃ o0, q = .pointer (some ⟨b0, o0, none⟩) := by
    rcases hq with hq | ⟨k, hq⟩
    . exact ⟨0, hq.trans h1⟩
    exact ⟨0 + k, by rw [hq, h1]; rfl⟩
  have ht : rU (.store T x y) (aB t) = some b0 := by simp only [rU, hxq, hqb]
  refine ⟨fun k hk => ?_, .inr ⟨b0, ht⟩⟩; rw [ht] at hk; obtain rfl := Option.some.inj hk
  rw [h1]; exact List.mem_cons_self⟩
theorem rP.amZ {c : Cell} (L : rP hr h S0 A ((w, c) :: nW) ρ t fl nw rd chg) (pG : (own ((w, c) :: nW)).Nodup) (hs : ∃ tE, nW = tE ++ ρ) {k : Nat} (hk : k ∈ dX w) : rP hr h S0 A ((w, c) :: nW) ρ t fl nw rd (k :: chg) :=
  { L with
    chg := fun j hj => by
      rcases List.mem_cons.1 hj with rfl | hj
      . rw [cO] at pG; refine ⟨fun hm => (List.nodup_append.1 pG).2.2 j hk j ?_ rfl, L.new j (by rw [cO]; exact List.mem_append_left _ hk)⟩; obtain ⟨tE, rfl⟩ := hs; rw [dF]; exact List.mem_append_right _ hm
      exact L.chg j hj }
theorem j7.DM {c : Cell} {b : Nat} {Tt : PV -> aR -> Prop} (hs : cT P fl ((w, c) :: nW) op Tt) (hT : QN P fl op w c) (hρ : ∃ tE, nW = tE ++ ρ) (hk : ∀ v σ', Tt v σ' -> (∃ tE, σ' = tE ++ ρ) /\ j7 P orc ops n l (i + 1) fl nw σ' ρ (bs ++ [b]) (mem ||| 2 ^ i) true K)
    (hb : aM bs ⟨none, op, ty, pos, after, g⟩ = b := by rfl) (gR : Nat.beq (mem &&& b) mem = true := by rfl) (hw : cV ops fl g = some true := by rfl) :
    j7 P orc ops n (⟨none, op, ty, pos, after, g⟩ :: l) i fl nw ((w, c) :: nW) ρ bs mem tl K := fun hr h0 G S0 A t h ms rd chg segs tail ht I L => by
  have Le := I.lc.aA (h' := entry h) (fun _ => rfl) rfl; obtain ⟨u, h', v, σ', e1, e2, e3, e4⟩ := hs.2 S0 (entry h) t Le; have bT := e4 none ty pos after g; obtain ⟨t1, t2⟩ := hT.2 (entry h) h' _ t u _ _ _ _ _ Le.aJ.tB (Le.cells _ List.mem_cons_self) bT; obtain ⟨h2, oF, DI, f1, f2, f3, f4, f5⟩ := XO (n := n) (hr := hr) (rd := rd) (chg := chg) (i := i) (segs := segs) (tail := tail) (o := ⟨none, op, ty, pos, after, g⟩) hb (OD n t u) hs.1 hT.1 (cC I.aJ hw) gR I.ok bT e2.iH t2; have m2 := BK e2 f2 f4; obtain ⟨L9, hk⟩ := hk v σ' e1
  have L2 : rP hr h S0 A ((w, c) :: nW) ρ t fl nw rd DI := by
    rcases f5 with ⟨rfl, _⟩ | ⟨k, g1, _, rfl⟩
    . exact L
    exact L.amZ I.apart hρ (t1 k g1)
  exact xW.opr f1 (hk hr h0 G S0 A _ _ ms rd DI _ oF (fun e => by cases e) (I.made m2) (L2.made I m2 L9))
theorem j7.oE {b : Nat} {f : Operand} {args : Array Operand} {mC : Array TypeId} {F r : PV} {asl : List PV} (hf : aS fl f = some F) (ha : kI fl args.toList = some asl) (hc : qE P orc F asl r)
    (hk : j7 P orc ops n l (i + 1) ((d, r) :: fl) (fE r.flat d nw) σ ρ (bs ++ [b]) (mem ||| 2 ^ i) tl K)
    (hb : aM bs ⟨some d, .call { callee := .value f, args := args, argTypes := mC }, ty, pos, after, g⟩ = b := by rfl) (gR : Nat.beq (mem &&& b) mem = true := by rfl) (hw : cV ops fl g = some true := by rfl) (hn : (Nat.blt d n && Nat.ble n 4000) = true := by rfl) :
    j7 P orc ops n (⟨some d, .call { callee := .value f, args := args, argTypes := mC }, ty, pos, after, g⟩ :: l) i fl nw σ ρ bs mem tl K := fun hr h0 G S0 A t h ms rd chg segs tail ht I L => by
  obtain ⟨n1, n2⟩ := fits hn; have Le := I.lc.aA (h' := entry h) (fun _ => rfl) rfl; obtain ⟨ND, ca, cc, h1, h2⟩ := hc.ev Le.ok Le.lt (dL Le.aJ hf) (r4 Le.aJ ha); refine xW.call (s := ⟨t, h, bs, segs, mem, tail⟩) (o := ⟨some d, .call { callee := .value f, args := args, argTypes := mC }, ty, pos, after, g⟩) (cC I.aJ hw) rfl rfl h1 (by simp only [hb, gR]) ?_; refine h2.mono fun u h' hq => ?_; obtain ⟨q1, q2, q3⟩ := hq; have hA := q1.after; have hl : h.next <= h'.low := hA.low h.next (Nat.le_refl _) (Nat.le_refl _)
  have dW : Nat.ble h.next h'.low = true := by rw [Nat.ble_eq]; exact hl
  have gU : h.next <= h'.next := hA.next; refine ⟨l9 gU, dW, _, bU n1 t u, ?_⟩
  have hd : kB ⟨some d, .call { callee := .value f, args := args, argTypes := mC }, ty, pos, after, g⟩ i ⟨t, h, bs, segs, mem, tail⟩ (t.set depth d u) h' =
      ⟨t.set depth d u, { next := h'.next, low := h.low, aA := bI h.next h'.next h'.aA ++ h.aA }, bs ++ [b], (i, h.next, h'.next) :: segs, mem ||| 2 ^ i, tail⟩ := by
    unfold kB; simp only [dW, cond_true, hb]
  rw [hd]; obtain ⟨e1, e2⟩ := r3 (M := entry h) (h' := h') I.ok (fun b o hg => hg) rfl hA Le.ok; have eA : cI h { next := h'.next, low := h.low, aA := bI h.next h'.next h'.aA ++ h.aA } [] := ⟨e1.next, fun b hb _ => e1.get b hb, e1.ok, fun e h3 h4 _ => e1.low e h3 h4, fun b hb => .inl (e1.get b hb), Nat.le_refl _⟩; have I2 := I.calm eA
  have L2 : rP hr { next := h'.next, low := h.low, aA := bI h.next h'.next h'.aA ++ h.aA } S0 A σ ρ t fl nw rd chg :=
    { L with next := Nat.le_trans L.next eA.next, goes := L.goes.trans (I.goes (B := []) (σ' := σ) (fun b hb => by cases hb) eA fun b hb => .inl hb) }
  exact hk hr h0 G S0 A _ _ ms rd chg _ tail ht (I2.set (q2.nx (e2 _)) n2) (L2.set n2 fun hfl => (q2.flat hfl).2 _ _)
theorem j7.nws {BL : List Nat} (nw1 : List Nat) (hk : j7 P orc ops n l i fl nw1 σ ρ bs mem tl K) (he : BL = nw1 := by rfl) : j7 P orc ops n l i fl BL σ ρ bs mem tl K := he ▸ hk
end Go.Fs
namespace Ieee
theorem ac2 (neg : Bool) (n : Nat) : Toward.even.cut neg n 0 = n := by
  unfold Toward.cut; simp [Nat.mod_one]
theorem IL {n d : Nat} (hn : n ≠ 0) (h : 2 ^ d ∣ n) : d <= n.log2 := (Nat.le_log2 hn).2 (Nat.le_of_dvd (Nat.pos_of_ne_zero hn) h)
theorem XP {neg : Bool} {way : Toward} {n d : Nat} (hn : n ≠ 0) (h : 2 ^ d ∣ n) : way.cut neg n d = n / 2 ^ d := by
  have h1 := IL hn h
  have h2 : min d (n.log2 + 2) = d := by omega
  have h3 : n % 2 ^ d = 0 := Nat.mod_eq_zero_of_dvd h; unfold Toward.cut; simp only [h2, Nat.one_shiftLeft, h3]; have hp : 0 < 2 ^ d := Nat.two_pow_pos d; cases way <;> simp <;> omega
namespace Format
variable (f : Format)
theorem yR {neg : Bool} {r : Nat} (h : r < f.binade) (hw : r < f.signWeight) : f.read (f.word neg r) = .number neg r f.leastPlace := by
  have e1 : f.word neg r % f.signWeight = r := by
    unfold word; cases neg
    . exact Nat.mod_eq_of_lt hw
    simp only [if_true]; rw [Nat.add_mod_left]; exact Nat.mod_eq_of_lt hw
  have e2 : (f.word neg r / f.signWeight % 2 == 1) = neg := by
    unfold word; have hp : 0 < f.signWeight := Nat.two_pow_pos _; cases neg
    . simp [Nat.div_eq_of_lt hw]
    simp only [if_true]; rw [Nat.add_div_left _ hp, Nat.div_eq_of_lt hw]; rfl
  unfold read; simp only [e1, e2, h, if_true]
theorem LF {neg : Bool} {r : Nat} (h : f.binade <= r) (hi : r < f.infRung) (hw : r < f.signWeight) : f.read (f.word neg r) = .number neg (f.binade + r % f.binade) (f.leastPlace + (r / f.binade - 1 : Nat)) := by
  have e1 : f.word neg r % f.signWeight = r := by
    unfold word; cases neg
    . exact Nat.mod_eq_of_lt hw
    simp only [if_true]; rw [Nat.add_mod_left]; exact Nat.mod_eq_of_lt hw
  have e2 : (f.word neg r / f.signWeight % 2 == 1) = neg := by
    unfold word; have hp : 0 < f.signWeight := Nat.two_pow_pos _; cases neg
    . simp [Nat.div_eq_of_lt hw]
    simp only [if_true]; rw [Nat.add_div_left _ hp, Nat.div_eq_of_lt hw]; rfl
  unfold read; simp only [e1, e2]; rw [if_neg (by omega), if_pos hi]
theorem TX : f.infRung < f.signWeight := by
  have h : 0 < 2 ^ f.exponentBits := Nat.two_pow_pos _; have hb : 0 < f.binade := Nat.two_pow_pos _
  have : f.infRung + f.binade = f.signWeight := by
    unfold infRung signWeight; rw [Nat.pow_add, <- Nat.succ_mul]; exact congrArg (· * f.binade) (by omega)
  omega
def jS (nY : Nat) (place : Int) : Int := max (place + nY.log2 - f.fractionBits) f.leastPlace
def J1 (neg : Bool) (nY : Nat) (place : Int) : Nat := Toward.even.cut neg (nY <<< (place - f.jS nY place).toNat) (f.jS nY place - place).toNat
theorem NG {neg : Bool} {nY : Nat} {place : Int} (hm : nY ≠ 0) {k : Nat} (hk : f.J1 neg nY place = k) (yE : k < 2 * f.binade) (gL : f.jS nY place = f.leastPlace \/ f.binade <= k)
    (yA : (f.jS nY place - f.leastPlace).toNat * f.binade + k < f.infRung) : f.read (f.nearest neg nY place) = .number neg k (f.jS nY place) := by
  have hl : f.leastPlace <= f.jS nY place := by unfold jS; omega
  have hb : 0 < f.binade := Nat.two_pow_pos _; have hsw := f.TX
  have hn : f.nearest neg nY place = f.word neg ((f.jS nY place - f.leastPlace).toNat * f.binade + k) := by
    unfold nearest; rw [if_neg hm]; show f.word neg (min ((f.jS nY place - f.leastPlace).toNat * f.binade + f.J1 neg nY place) f.infRung) = _; rw [hk, Nat.min_eq_left (by omega)]
  rw [hn]; generalize hL : f.jS nY place = L at *; obtain ⟨d, rfl⟩ : ∃ d : Nat, L = f.leastPlace + d := ⟨(L - f.leastPlace).toNat, by omega⟩
  have e0 : (f.leastPlace + (d : Int) - f.leastPlace).toNat = d := by omega
  rw [e0] at yA ⊢; by_cases hkb : k < f.binade
  . have hd : d = 0 := by rcases gL with h | h <;> omega
    subst hd; rw [Nat.zero_mul, Nat.zero_add] at yA ⊢; rw [f.yR hkb (by omega)]; simp
  have h1 : f.binade <= d * f.binade + k := by have := Nat.zero_le (d * f.binade); omega
  rw [f.LF h1 yA (by omega)]
  have e1 : (d * f.binade + k) % f.binade = k - f.binade := by
    rw [Nat.add_comm, Nat.add_mul_mod_self_right, show k = (k - f.binade) + f.binade by omega, Nat.add_mod_right, Nat.mod_eq_of_lt (by omega)]; omega
  have e2 : (d * f.binade + k) / f.binade = d + 1 := by
    rw [Nat.add_comm, Nat.add_mul_div_right _ _ hb, show k = (k - f.binade) + f.binade by omega, Nat.add_div_right _ hb, Nat.div_eq_of_lt (by omega)]; omega
  rw [e1, e2]; congr 1; omega
theorem lX {c k : Nat} (hc : c ≠ 0) : (c * 2 ^ k).log2 = c.log2 + k := by
  have hp : 0 < 2 ^ k := Nat.two_pow_pos k; refine (Nat.log2_eq_iff (Nat.mul_ne_zero hc (by omega))).2 ⟨?_, ?_⟩
  . rw [Nat.pow_add]; exact Nat.mul_le_mul_right _ (Nat.log2_self_le hc)
  rw [show c.log2 + k + 1 = (c.log2 + 1) + k by omega, Nat.pow_add]; exact Nat.mul_lt_mul_of_pos_right (Nat.lt_log2_self) hp
theorem QP {neg : Bool} {nY c : Nat} {place q base : Int} (hm : nY ≠ 0) (AK : base <= place) (sR : base <= q) (hq : f.leastPlace <= q) (hc : c < 2 ^ (f.fractionBits + 1)) (heq : nY * 2 ^ (place - base).toNat = c * 2 ^ (q - base).toNat)
    (yA : (q - f.leastPlace).toNat + 2 <= 2 ^ f.exponentBits - 1) : ∃ m p, f.read (f.nearest neg nY place) = .number neg m p /\ f.leastPlace <= p /\ m ≠ 0 /\ m * 2 ^ (p - f.leastPlace).toNat = c * 2 ^ (q - f.leastPlace).toNat := by
  have WK : c ≠ 0 := by
    rintro rfl; rw [Nat.zero_mul] at heq; have hp : 0 < 2 ^ (place - base).toNat := Nat.two_pow_pos _; rcases Nat.mul_eq_zero.1 heq with h | h
    . exact hm h
    omega
  have aoZ : nY.log2 + (place - base).toNat = c.log2 + (q - base).toNat := by
    rw [<- lX hm, <- lX WK, heq]
  have sN : c.log2 <= f.fractionBits := by
    have := (Nat.log2_lt WK).2 hc; omega
  obtain ⟨L, hL⟩ : ∃ L, f.jS nY place = L := ⟨_, rfl⟩
  have hLq : L <= q := by rw [<- hL]; unfold jS; omega
  have hLl : f.leastPlace <= L := by rw [<- hL]; unfold jS; omega
  have hLn : place + nY.log2 - f.fractionBits <= L := by rw [<- hL]; unfold jS; omega
  have hLc : L = f.leastPlace \/ L = place + nY.log2 - f.fractionBits := by rw [<- hL]; unfold jS; omega
  -- what is kept is c * 2 ^ (q - L)
  have al0 : f.J1 neg nY place = c * 2 ^ (q - L).toNat := by
    unfold J1; rw [hL]; by_cases hle : L <= place
    . have e1 : (L - place).toNat = 0 := by omega
      rw [e1, ac2, Nat.shiftLeft_eq]
      have hbL : min base L <= L := by omega
      have hp : 0 < 2 ^ (L - min base L).toNat := Nat.two_pow_pos _
      -- both sides times 2 ^ (L - b)
      have h1 : nY * 2 ^ (place - min base L).toNat = c * 2 ^ (q - min base L).toNat := by
        have e2 : (place - min base L).toNat = (place - base).toNat + (base - min base L).toNat := by omega
        have e3 : (q - min base L).toNat = (q - base).toNat + (base - min base L).toNat := by omega
        rw [e2, e3, Nat.pow_add, Nat.pow_add, <- Nat.mul_assoc, <- Nat.mul_assoc, heq]
      refine Nat.eq_of_mul_eq_mul_right hp ?_; rw [Nat.mul_assoc, Nat.mul_assoc, <- Nat.pow_add, <- Nat.pow_add]; rw [show (place - L).toNat + (L - min base L).toNat = (place - min base L).toNat by omega, show (q - L).toNat + (L - min base L).toNat = (q - min base L).toNat by omega]; exact h1
    have e1 : (place - L).toNat = 0 := by omega
    rw [e1, Nat.shiftLeft_zero]; have aoJ : base <= place := AK
    have ajS : nY = c * 2 ^ (q - place).toNat := by
      have hp : 0 < 2 ^ (place - base).toNat := Nat.two_pow_pos _; refine Nat.eq_of_mul_eq_mul_right hp ?_; rw [heq, Nat.mul_assoc, <- Nat.pow_add, show (q - place).toNat + (place - base).toNat = (q - base).toNat by omega]
    have hd : 2 ^ (L - place).toNat ∣ nY := by
      rw [ajS, show (q - place).toNat = (q - L).toNat + (L - place).toNat by omega, Nat.pow_add, <- Nat.mul_assoc]; exact Nat.dvd_mul_left _ _
    rw [XP hm hd]; refine Nat.div_eq_of_eq_mul_left (Nat.two_pow_pos _) ?_; rw [ajS, Nat.mul_assoc, <- Nat.pow_add, show (q - L).toNat + (L - place).toNat = (q - place).toNat by omega]
  have oW : (c * 2 ^ (q - L).toNat).log2 <= f.fractionBits := by
    rw [lX WK]; omega
  have kJ : c * 2 ^ (q - L).toNat ≠ 0 := by
    have := Nat.two_pow_pos (q - L).toNat; exact Nat.mul_ne_zero WK (by omega)
  have hkb : c * 2 ^ (q - L).toNat < 2 * f.binade := by
    have := (Nat.log2_lt kJ).1 (show (c * 2 ^ (q - L).toNat).log2 < f.fractionBits + 1 by omega); rw [Nat.pow_succ] at this; unfold binade; omega
  have gL : f.jS nY place = f.leastPlace \/ f.binade <= c * 2 ^ (q - L).toNat := by
    rw [hL]; rcases hLc with h | h
    . exact .inl h
    refine .inr ?_; unfold binade; refine (Nat.le_log2 kJ).1 ?_; rw [lX WK]; omega
  have al1 : (f.jS nY place - f.leastPlace).toNat * f.binade + c * 2 ^ (q - L).toNat < f.infRung := by
    rw [hL]; unfold infRung
    have h1 : (L - f.leastPlace).toNat * f.binade + 2 * f.binade <= (2 ^ f.exponentBits - 1) * f.binade := by
      rw [<- Nat.add_mul]; exact Nat.mul_le_mul_right _ (by omega)
    omega
  refine ⟨_, L, by have := f.NG (neg := neg) hm al0 hkb gL al1; rw [hL] at this; exact this, hLl, kJ, ?_⟩; rw [Nat.mul_assoc, <- Nat.pow_add, show (q - L).toNat + (L - f.leastPlace).toNat = (q - f.leastPlace).toNat by omega]
end Format
end Ieee
namespace Ieee
def sg (s : Bool) (r : Nat) : Int := if s then -(r : Int) else r
theorem oG (s : Bool) (m k : Nat) : signed s m k = sg s (m * 2 ^ k) := by
  unfold signed sg; rw [Nat.shiftLeft_eq]
theorem lB (s : Bool) (a b : Nat) : sg s (a * b) = sg s a * b := by
  unfold sg; cases s <;> simp [Int.neg_mul]
theorem TY (s t : Bool) (a b : Nat) : sg s a * sg t b = sg (s ^^ t) (a * b) := by
  unfold sg; cases s <;> cases t <;> simp [Int.neg_mul, Int.mul_neg]
theorem oH (s : Bool) (a : Nat) : (sg s a).natAbs = a := by unfold sg; cases s <;> simp
theorem afT (s : Bool) : sg s 0 = 0 := by unfold sg; cases s <;> rfl
namespace Format
variable (f : Format)
def cW (x : Nat) : Option Int := match f.read x with
  | .number s m p => some (sg s (m * 2 ^ (p - f.leastPlace).toNat))
  | _ => none
def LG (r : Nat) : Prop := ∃ c k, r = c * 2 ^ k /\ c < 2 ^ (f.fractionBits + 1) /\ k + 2 <= 2 ^ f.exponentBits - 1
variable {f}
theorem eB {x : Nat} {u : Int} (h : f.cW x = some u) : ∃ s m p, f.read x = .number s m p /\ f.leastPlace <= p /\ u = sg s (m * 2 ^ (p - f.leastPlace).toNat) := by
  unfold cW at h; split at h
  . rename_i s m p hr; refine ⟨s, m, p, hr, ?_, (Option.some.inj h).symm⟩; unfold read at hr; dsimp only at hr; split at hr
    . cases hr; omega
    split at hr
    . cases hr; omega
    split at hr <;> cases hr
  cases h
theorem H9 {x : Nat} (h : f.cW x = none) : (∃ s, f.read x = .infinity s) \/ ∃ s t, f.read x = .nan s t := by
  unfold cW at h; split at h
  . cases h
  rename_i hn
  cases hr : f.read x with
  | number s m p => exact absurd hr (hn s m p)
  | infinity s => exact .inl ⟨s, rfl⟩
  | nan s t => exact .inr ⟨s, t, rfl⟩
theorem lK (p : Int) : (p - p).toNat = 0 := by omega
theorem nA {s : Bool} {m r : Nat} {p : Int} (base : Int) (AK : base <= p) (sR : base <= f.leastPlace) (heq : m * 2 ^ (p - base).toNat = r * 2 ^ (f.leastPlace - base).toNat) (hr : f.LG r) (hg : 0 < f.exponentBits /\ 0 < f.fractionBits) :
    f.cW (f.write (.number s m p)) = some (sg s r) := by
  have hp1 : 0 < 2 ^ (p - base).toNat := Nat.two_pow_pos _; have hp2 : 0 < 2 ^ (f.leastPlace - base).toNat := Nat.two_pow_pos _; by_cases hm : m = 0
  . subst hm
    have h0 : r = 0 := by
      rw [Nat.zero_mul] at heq; rcases Nat.mul_eq_zero.1 heq.symm with h | h
      . exact h
      omega
    subst h0; have an0 : 0 < f.binade := Nat.two_pow_pos _; have hsw : 0 < f.signWeight := Nat.two_pow_pos _
    have : f.read (f.write (.number s 0 p)) = .number s 0 f.leastPlace := by
      show f.read (f.nearest s 0 p) = _; unfold nearest; rw [if_pos rfl]; exact f.yR an0 hsw
    unfold cW; rw [this]; simp
  obtain ⟨c, k, rfl, hc, hk⟩ := hr
  have an1 : m * 2 ^ (p - base).toNat = c * 2 ^ ((f.leastPlace + k) - base).toNat := by
    rw [heq, Nat.mul_assoc, <- Nat.pow_add]; congr 2; omega
  obtain ⟨m', p', h1, h2, h3, h4⟩ := f.QP (neg := s) hm AK (show base <= f.leastPlace + k by omega) (by omega) hc an1 (by omega); unfold cW; show (match f.read (f.nearest s m p) with | .number s m p => some (sg s (m * 2 ^ (p - f.leastPlace).toNat)) | _ => none) = _; rw [h1]; simp only; rw [h4]; congr 4; omega
theorem wR {x y : Nat} {u v : Int} (hx : f.cW x = some u) (hy : f.cW y = some v) : f.order x y = some (compare u v) := by
  obtain ⟨s, m, p, h1, h2, rfl⟩ := eB hx; obtain ⟨t, n, q, h3, h4, rfl⟩ := eB hy; unfold order; rw [h1, h3]; unfold Datum.order; simp only; rw [oG, oG]; congr 1
  have hb : f.leastPlace <= min p q := by omega
  have e1 : sg s (m * 2 ^ (p - f.leastPlace).toNat) = sg s (m * 2 ^ (p - min p q).toNat) * ((2 ^ (min p q - f.leastPlace).toNat : Nat) : Int) := by
    rw [<- lB, Nat.mul_assoc, <- Nat.pow_add]; congr 3; omega
  have e2 : sg t (n * 2 ^ (q - f.leastPlace).toNat) = sg t (n * 2 ^ (q - min p q).toNat) * ((2 ^ (min p q - f.leastPlace).toNat : Nat) : Int) := by
    rw [<- lB, Nat.mul_assoc, <- Nat.pow_add]; congr 3; omega
  rw [e1, e2]
  have hp : (0 : Int) < ((2 ^ (min p q - f.leastPlace).toNat : Nat) : Int) := by have := Nat.two_pow_pos (min p q - f.leastPlace).toNat; omega
  generalize sg s (m * 2 ^ (p - min p q).toNat) = a; generalize sg t (n * 2 ^ (q - min p q).toNat) = b; generalize ((2 ^ (min p q - f.leastPlace).toNat : Nat) : Int) = k at hp; show compareOfLessAndEq a b = compareOfLessAndEq (a * k) (b * k); unfold compareOfLessAndEq; have h1 : a < b ↔ a * k < b * k := (Int.mul_lt_mul_right hp).symm; have h2 : a = b ↔ a * k = b * k := ⟨fun h => by rw [h], fun h => Int.eq_of_mul_eq_mul_right (by omega) h⟩; by_cases h3 : a < b
  . rw [if_pos h3, if_pos (h1.1 h3)]
  rw [if_neg h3, if_neg (fun h => h3 (h1.2 h))]; by_cases h4 : a = b
  . rw [if_pos h4, if_pos (h2.1 h4)]
  rw [if_neg h4, if_neg (fun h => h4 (h2.2 h))]
end Format
end Ieee
namespace Ieee
namespace Format
variable {f g : Format}
theorem BM (t : Int) (h : t ≠ 0) : sg (decide (t < 0)) t.natAbs = t := by
  unfold sg; by_cases h1 : t < 0
  . rw [if_pos (by simpa using h1)]; omega
  rw [if_neg (by simpa using h1)]; omega
theorem HA (s : Bool) {t : Int} (h : t = 0) : sg s t.natAbs = t := by
  subst h; simp [afT]
theorem BN {x y : Nat} {u v r : Int} (hx : f.cW x = some u) (hy : f.cW y = some v) (hl : f.leastPlace <= 0) (h : u * v = r * (2 ^ (-f.leastPlace).toNat : Nat)) (hr : f.LG r.natAbs) (hg : 0 < f.exponentBits /\ 0 < f.fractionBits) :
    ∃ w, f.mul x y = some w /\ f.cW w = some r := by
  obtain ⟨s, m, p, h1, h2, rfl⟩ := eB hx; obtain ⟨t, n, q, h3, h4, rfl⟩ := eB hy; unfold mul; rw [h1, h3]; refine ⟨_, rfl, ?_⟩; have hk := congrArg Int.natAbs h; rw [TY, oH, Int.natAbs_mul, Int.natAbs_natCast] at hk
  have hb : 2 * f.leastPlace <= p + q := by omega
  rw [nA (r := r.natAbs) (2 * f.leastPlace) hb (by omega) ?_ hr hg]
  . congr 1
    have hs : sg (s ^^ t) (m * 2 ^ (p - f.leastPlace).toNat * (n * 2 ^ (q - f.leastPlace).toNat)) = r * (2 ^ (-f.leastPlace).toNat : Nat) := by rw [<- TY, h]
    have oM : (0 : Int) < ((2 ^ (-f.leastPlace).toNat : Nat) : Int) := by have := Nat.two_pow_pos (-f.leastPlace).toNat; omega
    rw [hk, lB] at hs; exact Int.eq_of_mul_eq_mul_right (by omega) hs
  rw [show (p + q - 2 * f.leastPlace).toNat = (p - f.leastPlace).toNat + (q - f.leastPlace).toNat by omega, show (f.leastPlace - 2 * f.leastPlace).toNat = (-f.leastPlace).toNat by omega, <- hk, Nat.pow_add]; simp only [Nat.mul_comm, Nat.mul_left_comm, Nat.mul_assoc]
theorem XQ {x y : Nat} {u v : Int} (hx : f.cW x = some u) (hy : f.cW y = some v) : ∃ s m p, (f.read x).sum (f.read y) = some (.number s m p) /\ f.leastPlace <= p /\ sg s (m * 2 ^ (p - f.leastPlace).toNat) = u + v := by
  obtain ⟨s, m, p, h1, h2, rfl⟩ := eB hx; obtain ⟨t, n, q, h3, h4, rfl⟩ := eB hy; rw [h1, h3]; refine ⟨_, _, _, rfl, by omega, ?_⟩; rw [oG, oG]
  have e1 : sg s (m * 2 ^ (p - f.leastPlace).toNat) = sg s (m * 2 ^ (p - min p q).toNat) * ((2 ^ (min p q - f.leastPlace).toNat : Nat) : Int) := by
    rw [<- lB, Nat.mul_assoc, <- Nat.pow_add]; congr 3; omega
  have e2 : sg t (n * 2 ^ (q - f.leastPlace).toNat) = sg t (n * 2 ^ (q - min p q).toNat) * ((2 ^ (min p q - f.leastPlace).toNat : Nat) : Int) := by
    rw [<- lB, Nat.mul_assoc, <- Nat.pow_add]; congr 3; omega
  rw [e1, e2, <- Int.add_mul]; generalize sg s (m * 2 ^ (p - min p q).toNat) + sg t (n * 2 ^ (q - min p q).toNat) = T; rw [lB]; congr 1; by_cases hT : T = 0
  . rw [if_pos hT]; exact HA _ hT
  rw [if_neg hT]; exact BM T hT
theorem XR {x y : Nat} {u v r : Int} (hx : f.cW x = some u) (hy : f.cW y = some v) (h : u + v = r) (hr : f.LG r.natAbs) (hg : 0 < f.exponentBits /\ 0 < f.fractionBits) : ∃ w, f.add x y = some w /\ f.cW w = some r := by
  obtain ⟨s, m, p, h1, h2, h3⟩ := XQ hx hy; unfold add; rw [h1]; refine ⟨_, rfl, ?_⟩
  have hk : m * 2 ^ (p - f.leastPlace).toNat = r.natAbs := by
    rw [<- h, <- h3, oH]
  rw [nA (r := r.natAbs) f.leastPlace h2 (Int.le_refl _) (by rw [hk, lK]; simp) hr hg, <- hk, h3, h]
theorem ac3 {y : Nat} {v : Int} (hy : f.cW y = some v) : ∃ s m p, (f.read y).opposite = .number s m p /\ f.leastPlace <= p /\ sg s (m * 2 ^ (p - f.leastPlace).toNat) = -v := by
  obtain ⟨t, n, q, h3, h4, rfl⟩ := eB hy; rw [h3]; refine ⟨_, _, _, rfl, h4, ?_⟩; unfold sg; cases t <;> simp
theorem XS {x y : Nat} {u v r : Int} (hx : f.cW x = some u) (hy : f.cW y = some v) (h : u - v = r) (hr : f.LG r.natAbs) (hg : 0 < f.exponentBits /\ 0 < f.fractionBits) : ∃ w, f.sub x y = some w /\ f.cW w = some r := by
  obtain ⟨s, m, p, h1, h2, rfl⟩ := eB hx; obtain ⟨t, n, q, h3, h4, h5⟩ := ac3 hy; unfold sub; rw [h1, h3]; refine ⟨_, rfl, ?_⟩
  have e1 : sg s (m * 2 ^ (p - f.leastPlace).toNat) = sg s (m * 2 ^ (p - min p q).toNat) * ((2 ^ (min p q - f.leastPlace).toNat : Nat) : Int) := by
    rw [<- lB, Nat.mul_assoc, <- Nat.pow_add]; congr 3; omega
  have e2 : sg t (n * 2 ^ (q - f.leastPlace).toNat) = sg t (n * 2 ^ (q - min p q).toNat) * ((2 ^ (min p q - f.leastPlace).toNat : Nat) : Int) := by
    rw [<- lB, Nat.mul_assoc, <- Nat.pow_add]; congr 3; omega
  have hT : (signed s m (p - min p q).toNat + signed t n (q - min p q).toNat) * ((2 ^ (min p q - f.leastPlace).toNat : Nat) : Int) = r := by
    rw [oG, oG, Int.add_mul, <- e1, <- e2, h5, <- h]; omega
  generalize signed s m (p - min p q).toNat + signed t n (q - min p q).toNat = T at hT ⊢
  have hk : T.natAbs * 2 ^ (min p q - f.leastPlace).toNat = r.natAbs := by
    rw [<- hT, Int.natAbs_mul, Int.natAbs_natCast]
  rw [nA (r := r.natAbs) f.leastPlace (by omega) (Int.le_refl _) (by rw [hk, lK]; simp) hr hg, <- hk, lB, <- hT]; congr 2; by_cases hT : T = 0
  . rw [if_pos hT]; exact HA _ hT
  rw [if_neg hT]; exact BM T hT
theorem LH {x : Nat} (hx : f.cW x = none) : f.sub x x = none := by
  unfold sub; rcases H9 hx with ⟨s, h⟩ | ⟨s, t, h⟩ <;> rw [h]
  . cases s <;> rfl
  rfl
theorem QQ {x : Nat} {u : Int} (hx : f.cW x = some u) (hl : f.leastPlace <= 0) : (f.read x).toInt .zero = some (u.tdiv (2 ^ (-f.leastPlace).toNat : Nat)) := by
  obtain ⟨s, m, p, h1, h2, rfl⟩ := eB hx; rw [h1]; show some (signed s (Toward.zero.cut s (m <<< p.toNat) (-p).toNat) 0) = _; congr 1; rw [oG, Nat.pow_zero, Nat.mul_one]
  have oO : Toward.zero.cut s (m <<< p.toNat) (-p).toNat = (m * 2 ^ p.toNat) / 2 ^ (-p).toNat := by
    rw [Nat.shiftLeft_eq]; generalize m * 2 ^ p.toNat = M; unfold Toward.cut; simp only [Nat.one_shiftLeft, Bool.toNat_false, Nat.add_zero]; by_cases hle : (-p).toNat <= M.log2 + 2
    . rw [Nat.min_eq_left hle]
    rw [Nat.min_eq_right (by omega)]; have hM : M < 2 ^ (M.log2 + 2) := Nat.lt_trans (Nat.lt_log2_self) (Nat.pow_lt_pow_right (by omega) (by omega)); rw [Nat.div_eq_of_lt hM, Nat.div_eq_of_lt (Nat.lt_of_lt_of_le hM (Nat.pow_le_pow_right (by omega) (by omega)))]
  rw [oO]
  have hdiv : m * 2 ^ (p - f.leastPlace).toNat / 2 ^ (-f.leastPlace).toNat = m * 2 ^ p.toNat / 2 ^ (-p).toNat := by
    by_cases hp : 0 <= p
    . rw [show (p - f.leastPlace).toNat = p.toNat + (-f.leastPlace).toNat by omega, Nat.pow_add, <- Nat.mul_assoc, Nat.mul_div_cancel _ (Nat.two_pow_pos _), show (-p).toNat = 0 by omega]; simp
    rw [show (-f.leastPlace).toNat = (-p).toNat + (p - f.leastPlace).toNat by omega, Nat.pow_add, Nat.mul_div_mul_right _ _ (Nat.two_pow_pos _), show p.toNat = 0 by omega]; simp
  rw [<- hdiv]; generalize m * 2 ^ (p - f.leastPlace).toNat = a; unfold sg
  cases s with
  | false => simp
  | true => simp [Int.neg_tdiv]
theorem QR {n : Int} (hl : f.leastPlace <= 0) (hr : f.LG (n.natAbs * 2 ^ (-f.leastPlace).toNat)) (hg : 0 < f.exponentBits /\ 0 < f.fractionBits) : f.cW (f.write (.number (n < 0) n.natAbs 0)) = some (n * (2 ^ (-f.leastPlace).toNat : Nat)) := by
  rw [nA (r := n.natAbs * 2 ^ (-f.leastPlace).toNat) f.leastPlace hl (Int.le_refl _) (by rw [lK, show (0 - f.leastPlace).toNat = (-f.leastPlace).toNat by omega]; simp) hr hg, lB]; congr 2; by_cases h : n = 0
  . subst h; rfl
  exact BM n h
theorem QS {x : Nat} {u : Int} (hx : f.cW x = some u) (hle : g.leastPlace <= f.leastPlace) (hr : g.LG (u.natAbs * 2 ^ (f.leastPlace - g.leastPlace).toNat)) (hg : 0 < g.exponentBits /\ 0 < g.fractionBits) : g.cW (g.write (f.read x)) = some (u * (2 ^ (f.leastPlace - g.leastPlace).toNat : Nat)) := by
  obtain ⟨s, m, p, h1, h2, rfl⟩ := eB hx; rw [h1]; rw [oH] at hr; rw [nA (r := m * 2 ^ (p - f.leastPlace).toNat * 2 ^ (f.leastPlace - g.leastPlace).toNat) g.leastPlace (by omega) (Int.le_refl _) ?_ hr hg, lB]; rw [lK, Nat.pow_zero, Nat.mul_one, Nat.mul_assoc, <- Nat.pow_add]; congr 2; omega
theorem QT {x : Nat} {u : Int} (hx : f.cW x = some u) (hl : f.leastPlace <= 0) (hr : f.LG (u.fdiv (2 ^ (-f.leastPlace).toNat : Nat) * (2 ^ (-f.leastPlace).toNat : Nat)).natAbs) (hg : 0 < f.exponentBits /\ 0 < f.fractionBits) :
    f.cW (f.write ((f.read x).integral .down)) = some (u.fdiv (2 ^ (-f.leastPlace).toNat : Nat) * (2 ^ (-f.leastPlace).toNat : Nat)) := by
  obtain ⟨s, m, p, h1, h2, rfl⟩ := eB hx; rw [h1]; show f.cW (f.write (.number s (Toward.down.cut s (m <<< p.toNat) (-p).toNat) 0)) = _
  have oO : sg s (Toward.down.cut s (m <<< p.toNat) (-p).toNat) = (sg s (m * 2 ^ (p - f.leastPlace).toNat)).fdiv (2 ^ (-f.leastPlace).toNat : Nat) := by
    have key : ∀ (M d : Nat), sg s (Toward.down.cut s M d) = (sg s M).fdiv (2 ^ d : Nat) := by
      intro M d
      have ai6 : Toward.down.cut s M d = M / 2 ^ d + (s && decide (M % 2 ^ d ≠ 0)).toNat := by
        unfold Toward.cut; simp only [Nat.one_shiftLeft]; by_cases hle : d <= M.log2 + 2
        . rw [Nat.min_eq_left hle]; congr 2; cases s <;> first | rfl | (by_cases hz : M % 2 ^ d = 0 <;> simp [hz])
        rw [Nat.min_eq_right (by omega)]; have hM : M < 2 ^ (M.log2 + 2) := Nat.lt_trans (Nat.lt_log2_self) (Nat.pow_lt_pow_right (by omega) (by omega)); have hM2 : M < 2 ^ d := Nat.lt_of_lt_of_le hM (Nat.pow_le_pow_right (by omega) (by omega)); rw [Nat.div_eq_of_lt hM, Nat.div_eq_of_lt hM2, Nat.mod_eq_of_lt hM, Nat.mod_eq_of_lt hM2]; congr 2; cases s <;> first | rfl | (by_cases hz : M = 0 <;> simp [hz])
      rw [ai6]; have hp : 0 < 2 ^ d := Nat.two_pow_pos d; generalize 2 ^ d = D at hp; unfold sg
      cases s with
      | false =>
        simp only [Bool.false_and, Bool.toNat_false, Nat.add_zero, Bool.false_eq_true, if_false]
        rw [Int.fdiv_eq_ediv_of_nonneg _ (by omega)]; rfl
      | true =>
        simp only [Bool.true_and, if_true]; rw [Int.fdiv_eq_ediv_of_nonneg _ (by omega)]; have hd := Nat.div_add_mod M D; have hm := Nat.mod_lt M hp; by_cases hz : M % D = 0
        . rw [show decide (M % D ≠ 0) = false by simpa using hz]; rw [Bool.toNat_false, Nat.add_zero]; refine (Int.ediv_eq_of_eq_mul_left (by omega) ?_).symm
          have : M = D * (M / D) := by omega
          have h3 : ((M : Nat) : Int) = (D : Int) * ((M / D : Nat) : Int) := by rw [<- Int.natCast_mul, <- this]
          rw [h3, Int.neg_mul, Int.mul_comm]
        rw [show decide (M % D ≠ 0) = true by simpa using hz]; rw [Bool.toNat_true]
        have h3 : ((M : Nat) : Int) = (D : Int) * ((M / D : Nat) : Int) + ((M % D : Nat) : Int) := by rw [<- Int.natCast_mul, <- Int.natCast_add, hd]
        have h4 : (-(M : Int)) = ((D : Int) - ((M % D : Nat) : Int)) + (D : Int) * (-(((M / D + 1 : Nat)) : Int)) := by
          rw [h3, Int.natCast_add, Int.mul_neg, Int.mul_add]; simp; omega
        rw [h4, Int.add_mul_ediv_left _ _ (by omega), Int.ediv_eq_zero_of_lt (by omega) (by omega)]; omega
    rw [key, Nat.shiftLeft_eq]; by_cases hp : 0 <= p
    . rw [show (p - f.leastPlace).toNat = p.toNat + (-f.leastPlace).toNat by omega, Nat.pow_add, <- Nat.mul_assoc, show (-p).toNat = 0 by omega, lB s (m * 2 ^ p.toNat)]
      have hq : (0 : Int) < ((2 ^ (-f.leastPlace).toNat : Nat) : Int) := by have := Nat.two_pow_pos (-f.leastPlace).toNat; omega
      rw [Int.mul_fdiv_cancel _ (by omega)]; simp
    rw [show (-f.leastPlace).toNat = (-p).toNat + (p - f.leastPlace).toNat by omega, Nat.pow_add, show p.toNat = 0 by omega, Nat.pow_zero, Nat.mul_one, lB s m, Int.natCast_mul]
    have hq : (0 : Int) < ((2 ^ (p - f.leastPlace).toNat : Nat) : Int) := by have := Nat.two_pow_pos (p - f.leastPlace).toNat; omega
    have JE : (0 : Int) < ((2 ^ (-p).toNat : Nat) : Int) := by have := Nat.two_pow_pos (-p).toNat; omega
    rw [Int.fdiv_eq_ediv_of_nonneg _ (by omega), Int.fdiv_eq_ediv_of_nonneg _ (by have := Int.mul_pos JE hq; omega), Int.mul_ediv_mul_of_pos_left _ _ hq]
  rw [<- oO] at hr ⊢; rw [<- lB, oH] at hr; rw [nA (r := Toward.down.cut s (m <<< p.toNat) (-p).toNat * 2 ^ (-f.leastPlace).toNat) f.leastPlace hl (Int.le_refl _) (by rw [lK, show (0 - f.leastPlace).toNat = (-f.leastPlace).toNat by omega]; simp) hr hg, lB]
end Format
end Ieee
namespace Ieee
open Format
theorem vI : 0 < single.exponentBits /\ 0 < single.fractionBits := by decide
theorem FQ : 0 < double.exponentBits /\ 0 < double.fractionBits := by decide
theorem TZ {f : Format} {x : Nat} {u : Int} (h : f.cW x = some u) : ∃ c k, u.natAbs = c * 2 ^ k /\ c < 2 ^ (f.fractionBits + 1) /\ (c = 0 -> k = 0) := by
  obtain ⟨s, m, p, h1, h2, rfl⟩ := eB h
  have hm : m < 2 ^ (f.fractionBits + 1) := by
    have hb : 0 < f.binade := Nat.two_pow_pos _
    have h2b : 2 ^ (f.fractionBits + 1) = 2 * f.binade := by rw [Nat.pow_succ, Nat.mul_comm]; rfl
    rw [h2b]; unfold Format.read at h1; dsimp only at h1; split at h1
    . cases h1; omega
    split at h1
    . cases h1; have := Nat.mod_lt (x % f.signWeight) hb; omega
    split at h1 <;> cases h1
  rw [oH]; by_cases h0 : m = 0
  . exact ⟨0, 0, by rw [h0]; simp, Nat.two_pow_pos _, fun _ => rfl⟩
  exact ⟨m, _, rfl, hm, fun e => absurd e h0⟩
theorem QU {f g : Format} {x : Nat} {u : Int} (h : f.cW x = some u) (hle : f.fractionBits <= g.fractionBits) {B j : Nat} (hB : u.natAbs <= 2 ^ B) (hj : B + j + 2 <= 2 ^ g.exponentBits - 1) : g.LG (u.natAbs * 2 ^ j) := by
  obtain ⟨c, k, h1, h2, h3⟩ := TZ h; by_cases h0 : c = 0
  . refine ⟨0, 0, by rw [h1, h0]; simp, Nat.two_pow_pos _, by omega⟩
  refine ⟨c, k + j, by rw [h1, Nat.mul_assoc, <- Nat.pow_add], Nat.lt_of_lt_of_le h2 (Nat.pow_le_pow_right (by omega) (by omega)), ?_⟩
  have hk : k <= B := by
    have : 2 ^ k <= 2 ^ B := by
      refine Nat.le_trans ?_ hB; rw [h1]; exact Nat.le_mul_of_pos_left _ (by omega)
    exact (Nat.pow_le_pow_iff_right (by omega)).1 this
  omega
theorem wS {f : Format} {n j : Nat} (hn : n < 2 ^ (f.fractionBits + 1)) (hj : j + 2 <= 2 ^ f.exponentBits - 1) : f.LG (n * 2 ^ j) := ⟨n, j, rfl, hn, hj⟩
abbrev u32 (x : Nat) : Option Int := single.cW x
abbrev u64 (x : Nat) : Option Int := double.cW x
theorem aa9 : (2 ^ (-single.leastPlace).toNat : Nat) = 713623846352979940529142984724747568191373312 := by decide
def bD (x : Nat) : Int := match u32 x with
  | none => 1
  | some u => if (-45671926166590716193865151022383844364247891968 <= u /\ u <= 45671926166590716193865151022383844364247891968) /\ u % 44601490397061246283071436545296723011960832 = 0 then 0 else 3
def bK (x : Nat) : Int := match u32 x with
  | none => 0
  | some u => u / 44601490397061246283071436545296723011960832
theorem gW {x : Nat} (h : bD x = 0) : u32 x = some (bK x * 44601490397061246283071436545296723011960832) /\ -1024 <= bK x /\ bK x <= 1024 := by
  unfold bD at h; split at h
  . cases h
  rename_i u hu; split at h
  . rename_i hc; unfold bK; rw [hu]; simp only; have hd := Int.mul_ediv_add_emod u 44601490397061246283071436545296723011960832; refine ⟨?_, by omega, by omega⟩; congr 1; omega
  cases h
theorem QV {x : Nat} {n : Int} (h : u32 x = some (n * 44601490397061246283071436545296723011960832)) (h0 : -1024 <= n) (h1 : n <= 1024) : bD x = 0 /\ bK x = n := by
  unfold bD bK; rw [h]; simp only; refine ⟨?_, ?_⟩
  . rw [if_pos]; exact ⟨by omega, by rw [Int.mul_emod_left]⟩
  rw [Int.mul_ediv_cancel _ (by decide)]
theorem XT {x w : Nat} {u : Int} (hw : u32 w = some (16 * 713623846352979940529142984724747568191373312)) (h : u32 x = some u) (h0 : u.natAbs <= 45671926166590716193865151022383844364247891968) : ∃ r, single.mul x w = some r /\ u32 r = some (16 * u) := by
  refine BN h hw (by decide) ?_ ?_ vI
  . rw [aa9, Int.mul_comm 16 u, Int.mul_assoc]; rfl
  have := QU (g := single) h (Nat.le_refl _) (B := 155) (j := 4) (Nat.le_trans h0 (by decide)) (by decide)
  rwa [show (16 * u).natAbs = u.natAbs * 2 ^ 4 by omega]
theorem toInt32 {x : Nat} {u : Int} (h : u32 x = some u) : (single.read x).toInt .zero = some (u.tdiv 713623846352979940529142984724747568191373312) := by
  rw [QQ h (by decide), aa9]; rfl
theorem ofInt32 {n : Int} (h : n.natAbs < 2 ^ 24) : u32 (single.write (.number (n < 0) n.natAbs 0)) = some (n * 713623846352979940529142984724747568191373312) := by
  rw [u32, QR (by decide) (wS h (by decide)) vI, aa9]; rfl
theorem al2 {x y : Nat} {u v : Int} (hx : u32 x = some u) (hy : u32 y = some v) (hr : single.LG (u + v).natAbs) : ∃ r, single.add x y = some r /\ u32 r = some (u + v) := XR hx hy rfl hr vI
theorem U0 {x : Nat} {u : Int} (hx : u32 x = some u) : ∃ r, single.sub x x = some r /\ u32 r = some 0 := XS hx hx (by omega) ⟨0, 0, rfl, by decide, by decide⟩ vI
def kW : Nat := 2 ^ (single.leastPlace - double.leastPlace).toNat
theorem ai7 : 0 < kW := Nat.two_pow_pos _
def HB : Nat := 300
theorem XU {x : Nat} {u : Int} (hx : u32 x = some u) (h0 : u.natAbs <= 2 ^ HB) : u64 (double.write (single.read x)) = some (u * (kW : Nat)) := by
  have := QS (g := double) hx (by decide) (QU (g := double) hx (by decide) (B := HB) h0 (by decide +kernel)) FQ; rw [u64, this]; rfl
end Ieee
namespace Ieee
open Format
theorem XV : (2 ^ (-double.leastPlace).toNat : Nat) = 713623846352979940529142984724747568191373312 * kW := by decide +kernel
theorem XW {x : Nat} {u : Int} (h : u32 x = some u) : u.natAbs <= 2 ^ HB := by
  obtain ⟨s, m, p, h1, h2, rfl⟩ := eB h; rw [oH]; have hb : 0 < single.binade := Nat.two_pow_pos _
  have eb : single.binade = 8388608 := by decide
  have ei : single.infRung = 2139095040 := by decide
  have hm : m < 2 ^ 24 /\ (p - single.leastPlace).toNat <= 253 := by
    unfold Format.read at h1; dsimp only at h1; split at h1
    . cases h1; omega
    split at h1
    . rename_i h3 h4; cases h1; have h5 := Nat.mod_lt (x % single.signWeight) hb; rw [eb] at h5 ⊢; rw [ei] at h4; omega
    split at h1 <;> cases h1
  have h3 : 2 ^ (p - single.leastPlace).toNat <= 2 ^ 253 := Nat.pow_le_pow_right (by omega) hm.2; have h4 : m * 2 ^ (p - single.leastPlace).toNat <= 2 ^ 24 * 2 ^ 253 := Nat.mul_le_mul (by omega) h3; exact Nat.le_trans h4 (by decide +kernel)
theorem ai8 {x y w : Nat} {u : Int} (hw : u64 w = some ((16 : Int) * ((713623846352979940529142984724747568191373312 * kW : Nat) : Int))) (hx : u32 x = some u) (hy : u64 y = some (u * (kW : Nat))) (h0 : u.natAbs <= 2 ^ HB) : ∃ r, double.mul w y = some r /\ u64 r = some (16 * (u * (kW : Nat))) := by
  refine BN hw hy (by decide) ?_ ?_ FQ
  . rw [XV, Int.mul_assoc, Int.mul_comm _ (u * (kW : Nat)), <- Int.mul_assoc]
  have := QU (g := double) hx (by decide) (B := HB) (j := 4 + (single.leastPlace - double.leastPlace).toNat) h0 (by decide +kernel); rw [Nat.pow_add, <- Nat.mul_assoc] at this
  rwa [show (16 * (u * (kW : Nat))).natAbs = u.natAbs * 2 ^ 4 * kW by rw [Int.natAbs_mul, Int.natAbs_mul, Int.natAbs_natCast, <- Nat.mul_assoc, Nat.mul_comm u.natAbs]; rfl]
theorem XX {a k : Int} (hk : 0 < k) : (a * k).fdiv (713623846352979940529142984724747568191373312 * k) = a / 713623846352979940529142984724747568191373312 := by
  rw [Int.fdiv_eq_ediv_of_nonneg _ (by omega), Int.mul_ediv_mul_of_pos_left _ _ hk]
theorem J2 : (0 : Int) < (kW : Int) := by have := ai7; omega
theorem cast_mk : ((713623846352979940529142984724747568191373312 * kW : Nat) : Int) = 713623846352979940529142984724747568191373312 * (kW : Int) := by rw [Int.natCast_mul]; rfl
theorem ai9 {r : Nat} {u : Int} (hr : u64 r = some (16 * (u * (kW : Nat)))) (h0 : -45671926166590716193865151022383844364247891968 <= u /\ u <= 45671926166590716193865151022383844364247891968) :
    u64 (double.write ((double.read r).integral .down)) = some (16 * u / 713623846352979940529142984724747568191373312 * (713623846352979940529142984724747568191373312 * kW : Nat)) := by
  have hf : (16 * (u * (kW : Nat))).fdiv (2 ^ (-double.leastPlace).toNat : Nat) = 16 * u / 713623846352979940529142984724747568191373312 := by
    rw [XV, cast_mk, <- Int.mul_assoc]; exact XX J2
  have := QT hr (by decide) (by
    rw [hf, Int.natAbs_mul, Int.natAbs_natCast]; refine wS ?_ (by decide)
    have : (16 * u / 713623846352979940529142984724747568191373312).natAbs < 2000 := by omega
    exact Nat.lt_of_lt_of_le this (by decide)) FQ
  rw [hf, XV] at this; exact this
theorem XY {u : Int} : (16 * (u * (kW : Nat)) = 16 * u / 713623846352979940529142984724747568191373312 * (713623846352979940529142984724747568191373312 * kW : Nat)) ↔ u % 44601490397061246283071436545296723011960832 = 0 := by
  rw [cast_mk, <- Int.mul_assoc, <- Int.mul_assoc]; have hk := J2; constructor
  . intro h; have := Int.eq_of_mul_eq_mul_right (by omega) h; omega
  intro h; congr 1; omega
theorem QW {u : Int} (h0 : -45671926166590716193865151022383844364247891968 <= u /\ u <= 45671926166590716193865151022383844364247891968) : ((16 * u).tdiv 713623846352979940529142984724747568191373312 * 713623846352979940529142984724747568191373312 = 16 * u) ↔ u % 44601490397061246283071436545296723011960832 = 0 := by
  have h1 := Int.mul_tdiv_add_tmod (16 * u) 713623846352979940529142984724747568191373312; have h2 : (16 * u).tmod 713623846352979940529142984724747568191373312 = 0 ↔ (713623846352979940529142984724747568191373312 : Int) ∣ 16 * u := (Int.dvd_iff_tmod_eq_zero).symm; constructor
  . intro h; have h3 : (713623846352979940529142984724747568191373312 : Int) ∣ 16 * u := h2.1 (by omega); omega
  intro h
  have h3 : (713623846352979940529142984724747568191373312 : Int) ∣ 16 * u := by omega
  have := h2.2 h3; omega
theorem afU {u n : Int} (h : u = n * 44601490397061246283071436545296723011960832) : (16 * u).tdiv 713623846352979940529142984724747568191373312 = n := by
  rw [h, show 16 * (n * 44601490397061246283071436545296723011960832) = n * 713623846352979940529142984724747568191373312 by omega, Int.mul_tdiv_cancel _ (by decide)]
end Ieee
namespace Go.Fs
variable {P : Program} {h : U} {S : List Nat} {σ : aR} {t : Tr} {fl : VL} {x y : Operand} {T T' : TypeId} {v pv : PV} {k k' : FloatKind} {p q : Nat}
def dB (b : BinOp) (k : FloatKind) (p q : Nat) : Bool := match b with
  | .eql => k.format.order p q == some .eq
  | .neq => k.format.order p q != some .eq
  | .lss => k.format.order p q == some .lt
  | .leq => k.format.order p q == some .lt || k.format.order p q == some .eq
  | .gtr => k.format.order p q == some .gt
  | .geq => k.format.order p q == some .gt || k.format.order p q == some .eq
  | _ => false
def aaA : BinOp -> Bool
  | .eql | .neq | .lss | .leq | .gtr | .geq => true
  | _ => false
theorem aI.OP (b : BinOp) (hb : aaA b = true := by rfl) (hx : aS fl x = some (.v (.aO k) p) := by rfl) (hy : aS fl y = some (.v (.aO k) q) := by rfl) : aI P fl σ (.binOp b T x y T') (.v .bool (dB b k p q)) :=
  .bin hx hy fun h S a c ha hc => by
    obtain rfl := aE.aO ha; obtain rfl := aE.aO hc; refine ⟨.bool (dB b k p q), aE.ofBool _, rfl, ?_⟩; cases b <;> first | (cases hb; done) | skip
    all_goals simp [bX, eqGuard, binOp, Op.floatCmp, dB, aC, aL, aD, af, oX, eD]
def OQ (b : BinOp) (k : FloatKind) (p q : Nat) : Option Nat := match b with
  | .add => k.format.add p q
  | .sub => k.format.sub p q
  | .mul => k.format.mul p q
  | .quo => k.format.div p q
  | _ => none
theorem aI.IM {b : BinOp} {r : Nat} (hr : OQ b k p q = some r) (hx : aS fl x = some (.v (.aO k) p) := by rfl) (hy : aS fl y = some (.v (.aO k) q) := by rfl) : aI P fl σ (.binOp b T x y T') (.v (.aO k) r) :=
  .bin hx hy fun h S a c ha hc => by
    obtain rfl := aE.aO ha; obtain rfl := aE.aO hc; refine ⟨.float k r, aE.uM _ _, rfl, ?_⟩; cases b <;> first | (cases hr; done) | skip
    all_goals
      simp only [OQ] at hr; simp [bX, eqGuard, binOp, Op.floatArith, hr, aC, aL, aD, af, oX, eD]
theorem aI.an2 {b : BinOp} (hn : JA b k p q = true) (hx : aS fl x = some (.v (.aO k) p) := by rfl) (hy : aS fl y = some (.v (.aO k) q) := by rfl) : aI P fl σ (.binOp b T x y T') (.raw (jK k)) :=
  ⟨rfl, fun h S t hs _ => by
    have ha := aE.aO (hs x (by simp [Op.operands]) _ hx : aE h S (.aO k) _ p); have hc := aE.aO (hs y (by simp [Op.operands]) _ hy : aE h S (.aO k) _ q); refine ⟨jK k, rfl, fun _ _ _ _ _ H => ?_⟩; show (if (af (aB t x) && af (aB t y)) = true then ((bX P (do eqGuard b T x y (aB t x) (aB t y); binOp b T (aB t x) (aB t y))).or (zM b (aB t x) (aB t y))).map _ else _) = _; rw [ha, hc, if_pos (show (af (Value.float k p) && af (Value.float k q)) = true from rfl)]
    have h1 : bX P (do eqGuard b T x y (.float k p) (.float k q); binOp b T (.float k p) (.float k q)) = none := by
      unfold JA at hn; split at hn
      all_goals first | (cases hn; done) | skip
      all_goals
        rw [Option.isNone_iff_eq_none] at hn; simp [bX, eqGuard, binOp, Op.floatArith, hn, aC, aL, aD, choose, Sem.bind]
        exact fun a ha => by have h0 : (none : Option Value) = some a := ha; cases h0
    have h2 : zM b (.float k p) (.float k q) = some (jK k) := by
      unfold zM; simp [hn]
    rw [h1, h2]; rfl⟩
theorem aI.afV {b : BinOp} {r : Bool} (hr : IT b = some r) (hx : aS fl x = some (.raw (jK k)) := by rfl) (hy : aS fl y = some (.v (.aO k) q) := by rfl) : aI P fl σ (.binOp b T x y T') (.v .bool r) :=
  ⟨rfl, fun h S t hs _ => by
    have ha : aB t x = jK k := hs x (by simp [Op.operands]) _ hx; have hc := aE.aO (hs y (by simp [Op.operands]) _ hy : aE h S (.aO k) _ q); refine ⟨.bool r, aE.ofBool _, fun _ _ _ _ _ H => ?_⟩; show (if (af (aB t x) && af (aB t y)) = true then _ else ((w6 P b T (aB t x) (aB t y)).or (rT b (aB t x) (aB t y))).map _) = _; rw [ha, hc, if_neg (by simp [af, oX, eD, jK])]
    have h2 : rT b (jK k) (.float k q) = some r := by
      simp [rT, uC, jK, C4, hr]
    rw [h2]; rfl⟩
theorem aI.ac4 {b : BinOp} {r : Bool} (hr : IT b = some r) (hx : aS fl x = some (.raw (jK k)) := by rfl) (hy : aS fl y = some (.raw (jK k)) := by rfl) : aI P fl σ (.binOp b T x y T') (.v .bool r) :=
  ⟨rfl, fun h S t hs _ => by
    have ha : aB t x = jK k := hs x (by simp [Op.operands]) _ hx; have hc : aB t y = jK k := hs y (by simp [Op.operands]) _ hy; refine ⟨.bool r, aE.ofBool _, fun _ _ _ _ _ H => ?_⟩; show (if (af (aB t x) && af (aB t y)) = true then _ else ((w6 P b T (aB t x) (aB t y)).or (rT b (aB t x) (aB t y))).map _) = _; rw [ha, hc, if_neg (by simp [af, oX, eD, jK])]
    have h2 : rT b (jK k) (jK k) = some r := by
      simp [rT, uC, jK, C4, hr]
    rw [h2]; rfl⟩
def pM (P : Program) (s D : TypeId) (k2 : FloatKind) : Bool := (P.underlying s).isSome && (match P.underlying D with | some (.float k) => decide (k = k2) | _ => false)
theorem aI.an3 {n : Int} {s D : TypeId} {κ : IntKind} (k2 : FloatKind) (hx : aS fl x = some (.v (.int κ) n) := by rfl) (hb : pM P s D k2 = true := by kernel_rfl) : aI P fl σ (.convert s D x) (.v (.aO k2) (k2.nearest n)) :=
  .conv hx fun h S a ha => by
    obtain rfl := aE.int ha; unfold pM at hb; obtain ⟨b1, b2⟩ := aQ hb; obtain ⟨td, hs⟩ := Option.isSome_iff_exists.1 b1; split at b2
    . rename_i k3 hd; obtain rfl : k3 = k2 := of_decide_eq_true b2; refine ⟨.float k3 (k3.nearest n), aE.uM _ _, rfl, ?_⟩; unfold bX convert; simp only [aC, aK hs, aK hd, Option.bind_some]; show (aD P (Conv.intToFloat k3 n)).bind _ = _; simp only [Conv.intToFloat, aL, Option.bind_some]; rfl
    cases b2
theorem aI.ajT {n : Int} {s D : TypeId} (hn : (k.decode p).toInt .zero = some n) (hf : fit n) (hx : aS fl x = some (.v (.aO k) p) := by rfl) (hb : QJ P s D .i64 = true := by kernel_rfl) : aI P fl σ (.convert s D x) (.v (.int .i64) n) :=
  .conv hx fun h S a ha => by
    obtain rfl := aE.aO ha; unfold QJ at hb; obtain ⟨b1, b2⟩ := aQ hb; obtain ⟨td, hs⟩ := Option.isSome_iff_exists.1 b1; split at b2
    . rename_i k3 hd; obtain rfl : k3 = .i64 := of_decide_eq_true b2; refine ⟨.int .i64 n, aE.ofInt _ _, rfl, ?_⟩; unfold bX convert; simp only [aC, aK hs, aK hd, Option.bind_some]; show (aD P (Conv.floatToInt k p .i64)).bind _ = _; have hr : IntKind.i64.min <= n /\ n <= IntKind.i64.max := ⟨hf.1, hf.2⟩; simp only [Conv.floatToInt, hn, hr, and_self, if_true, aL, Option.bind_some]; rfl
    cases b2
theorem aI.an4 {s D : TypeId} (k2 : FloatKind) (cA : ¬ k = k2) {u : Int} (hu : k.format.cW p = some u) {r : Nat} {u' : Int} (hr : k2.format.write (k.format.read p) = r) (kG : k2.format.cW r = some u') (hx : aS fl x = some (.v (.aO k) p) := by rfl) (hb : pM P s D k2 = true := by kernel_rfl) : aI P fl σ (.convert s D x) (.v (.aO k2) r) :=
  .conv hx fun h S a ha => by
    obtain rfl := aE.aO ha; unfold pM at hb; obtain ⟨b1, b2⟩ := aQ hb; obtain ⟨td, hs⟩ := Option.isSome_iff_exists.1 b1; split at b2
    . rename_i k3 hd; obtain rfl : k3 = k2 := of_decide_eq_true b2; refine ⟨.float k3 r, aE.uM _ _, rfl, ?_⟩; unfold bX convert; simp only [aC, aK hs, aK hd, Option.bind_some]; show (aD P (Conv.floatToFloat k p k3)).bind _ = _; obtain ⟨sg, m, pl, h1, _, _⟩ := Ieee.Format.eB hu; have qX : k.decode p = .number sg m pl := h1
      have h2 : k3.encode (.number sg m pl) = r := by rw [<- hr, h1]; rfl
      obtain ⟨sg', m', pl', h3, _, _⟩ := Ieee.Format.eB kG; have IF : k3.decode r = .number sg' m' pl' := h3; simp only [Conv.floatToFloat, cA, if_false, qX, h2, IF, Ieee.Datum.isInfinity, Bool.false_eq_true, aL, Option.bind_some]; rfl
    cases b2
theorem aI.al3 {s D : TypeId} {sg : Bool} (k2 : FloatKind) (cA : ¬ k = k2) (hu : k.format.read p = .infinity sg) (hx : aS fl x = some (.v (.aO k) p) := by rfl) (hb : pM P s D k2 = true := by kernel_rfl) : aI P fl σ (.convert s D x) (.v (.aO k2) (k2.format.write (.infinity sg))) :=
  .conv hx fun h S a ha => by
    obtain rfl := aE.aO ha; unfold pM at hb; obtain ⟨b1, b2⟩ := aQ hb; obtain ⟨td, hs⟩ := Option.isSome_iff_exists.1 b1; split at b2
    . rename_i k3 hd; obtain rfl : k3 = k2 := of_decide_eq_true b2; refine ⟨.float k3 (k3.encode (.infinity sg)), aE.uM _ _, rfl, ?_⟩; unfold bX convert; simp only [aC, aK hs, aK hd, Option.bind_some]; show (aD P (Conv.floatToFloat k p k3)).bind _ = _; have qX : k.decode p = .infinity sg := hu; simp only [Conv.floatToFloat, cA, if_false, qX, aL, Option.bind_some]; rfl
    cases b2
theorem aI.al4 {s D : TypeId} {sg : Bool} {m : Nat} (k2 : FloatKind) (cA : ¬ k = k2) (hu : k.format.read p = .nan sg m) (hx : aS fl x = some (.v (.aO k) p) := by rfl) (hb : pM P s D k2 = true := by kernel_rfl) : aI P fl σ (.convert s D x) (.raw (jK k2)) :=
  ⟨rfl, fun h S t hs _ => by
    have ha := aE.aO (hs x (by simp [Op.operands]) _ hx : aE h S (.aO k) _ p); refine ⟨jK k2, rfl, fun _ _ _ _ _ H => ?_⟩; show (if af (aB t x) = true then ((bX P (convert s D (aB t x))).or (zN P s D (aB t x))).map _ else _) = _; rw [ha, if_pos (show af (Value.float k p) = true from rfl)]; unfold pM at hb; obtain ⟨b1, b2⟩ := aQ hb; obtain ⟨td, hs⟩ := Option.isSome_iff_exists.1 b1; split at b2
    . rename_i k3 hd; obtain rfl : k3 = k2 := of_decide_eq_true b2; have qX : k.decode p = .nan sg m := hu
      have e1 : bX P (convert s D (.float k p)) = none := by
        unfold bX convert; simp only [aC, aK hs, aK hd, Option.bind_some]; show (aD P (Conv.floatToFloat k p k3)).bind _ = _; simp [Conv.floatToFloat, cA, qX, choose, aC, aD]
        try exact fun a ha => by have h0 : (none : Option Value) = some a := ha; cases h0
      have e2 : zN P s D (.float k p) = some (jK k3) := by
        simp [zN, hs, hd, cA, qX, Ieee.Datum.isNaN]
      rw [e1, e2]; rfl
    cases b2⟩
theorem DU (u v : Int) : compare u v = if u < v then .lt else if u = v then .eq else .gt := rfl
theorem HC {u v : Int} (hp : k.format.cW p = some u) (hq : k.format.cW q = some v) :
    dB .eql k p q = decide (u = v) /\ dB .neq k p q = decide (u ≠ v) /\ dB .lss k p q = decide (u < v) /\ dB .leq k p q = decide (u <= v) /\ dB .gtr k p q = decide (v < u) /\ dB .geq k p q = decide (v <= u) := by
  have ho : k.format.order p q = some (compare u v) := Ieee.Format.wR hp hq; simp only [dB, ho, DU]; by_cases h1 : u < v
  . have : ¬ u = v := by omega
    simp [h1, this]; omega
  by_cases h2 : u = v
  . subst h2; simp
  simp [h1, h2]; omega
end Go.Fs
namespace Go.Fs
variable {P : Program} {orc : FuncId -> List Value -> U -> Option (Value × U)} {aY : Option Nat} {h h' h0 h1 h2 : U} {S S' S0 B G : List Nat} {σ σ' : aR} {t t' : Tr} {ms : List Nat} {fl : VL} {ops : Array Oper} {n : Nat} {l : List Oper} {K : VL -> aR -> Prop} {Q : Ex -> VL -> aR -> Prop}
  {d : Tmp} {ty : TypeId} {pos : String} {after : Array Edge} {op : Op} {v pv : PV} {g : Option (Nat × Bool)} {x y z : Operand} {T T' e : TypeId} {κ ν : Ty} {w : Value}
section
variable {α β : Type} [DecidableEq α]
end
structure an5 (P : Program) (K : TypeId) (κ : Ty) : Prop where
  flat : κ.iA = true
  und : ∃ td, P.underlying K = some td /\ ((∀ {h : U} {S : List Nat} (u v : Value) (x y : κ.den) (inst : Decidable (x = y)), aE h S κ u x -> aE h S κ v y -> Instr.sameNow td u v = some (@decide (x = y) inst)) \/
    ((∀ u v, Instr.sameNow td u v = none) /\ ∀ {h : U} {S : List Nat} (u v : Value) (x y : κ.den) (inst : Decidable (x = y)), aE h S κ u x -> aE h S κ v y -> aD P (Op.equal K u v) = some (@decide (x = y) inst)))
  chk : ∀ {h : U} {S : List Nat} (em : Bool) (u : Value) (x : κ.den), aE h S κ u x -> (aD P (Instr.checkKey em 10000 K u)).isSome = true
  bits : ∀ {h : U} {S : List Nat} (u : Value) (x : κ.den), aE h S κ u x -> Instr.sameBits 10000 u u = true
structure ap0 (P : Program) (T : TypeId) (κ ν : Ty) : Prop where
  key : ∃ K E, P.underlying T = some (.map K E) /\ an5 P K κ /\ r6 P E ν
section
variable [DecidableEq κ.den] {k : κ.den} {n5 : List (κ.den × ν.den)}
end
end Go.Fs
namespace Go.Fs
variable {P : Program} {orc : FuncId -> List Value -> U -> Option (Value × U)} {h : U} {S : List Nat} {σ : aR} {t : Tr} {fl : VL} {x y : Operand} {T T' : TypeId} {v pv : PV} {k k' : FloatKind} {p q : Nat}
theorem aI.jE {b : BinOp} {r : Bool} (he : dB b k p q = r) (hb : aaA b = true := by rfl) (hx : aS fl x = some (.v (.aO k) p) := by rfl) (hy : aS fl y = some (.v (.aO k) q) := by rfl) : aI P fl σ (.binOp b T x y T') (.v .bool r) := he ▸ aI.OP b hb hx hy
theorem VF.ext {f : FuncId} {args : List PV} {r : PV} {fn : Func} {e : Array Value -> Sem Value} {us : List Value} {w : Value} (kF : P.funcs[f]? = some fn) (ho : ∀ us h, orc f us h = none) (hb : (fn.body.isNone && !(fn.name == "runtime.NumGoroutine")) = true) (h1 : (Extern.findNext fn).isNone = true) (h2 : Extern.find fn = some e)
    (ha : us.all af = true) (XJ : ∀ (h : U) (S : List Nat) (uN : List Value), bA h S args uN -> uN = us) (hv : bX P (e us.toArray) = some w) (hr : ∀ (h : U) (S : List Nat), aH h S r w) : VF P orc f args r := fun h S uN bZ hS nF => by
  obtain rfl := XJ h S uN nF; exact qW.ext (ho _ _) kF hb h1 h2 ha hv ⟨cI.refl _ _, hr _ _, fun _ => rfl⟩
theorem ac5 {h : U} {S : List Nat} {us : List Value} {k : FloatKind} {p : Nat} (hr : bA h S [.v (.aO k) p] us) : us = [.float k p] := by
  obtain ⟨u, r, rfl, h2, h3⟩ := hr; obtain rfl : r = [] := h3; rw [aE.aO h2]
theorem VF.aaB {f : FuncId} {r : PV} {fn : Func} {e : Array Value -> Sem Value} {w : Value} (kF : P.funcs[f]? = some fn) (ho : ∀ us h, orc f us h = none) (hb : (fn.body.isNone && !(fn.name == "runtime.NumGoroutine")) = true) (h1 : (Extern.findNext fn).isNone = true) (h2 : Extern.find fn = some e)
    (hv : bX P (e #[.float k p]) = some w) (hr : ∀ (h : U) (S : List Nat), aH h S r w) : VF P orc f [.v (.aO k) p] r :=
  VF.ext (us := [.float k p]) kF ho hb h1 h2 rfl (fun _ _ _ hr => ac5 hr) hv hr
theorem VF.aiA {f : FuncId} {r : PV} {κ : IntKind} {n : Int} {fn : Func} {e : Array Value -> Sem Value} {w : Value} (kF : P.funcs[f]? = some fn) (ho : ∀ us h, orc f us h = none) (hb : (fn.body.isNone && !(fn.name == "runtime.NumGoroutine")) = true) (h1 : (Extern.findNext fn).isNone = true) (h2 : Extern.find fn = some e)
    (hv : bX P (e #[.int κ n]) = some w) (hr : ∀ (h : U) (S : List Nat), aH h S r w) : VF P orc f [.v (.int κ) n] r :=
  VF.ext (us := [.int κ n]) kF ho hb h1 h2 rfl (fun _ _ _ hr => ac1 _ _ _ hr) hv hr
theorem A0 {p q r : Nat} (h : Ieee.single.mul p q = some r) : OQ .mul .f32 p q = some r := h
theorem aiB {p q r : Nat} (h : Ieee.single.sub p q = some r) : OQ .sub .f32 p q = some r := h
theorem QX {p q r : Nat} (h : Ieee.single.add p q = some r) : OQ .add .f32 p q = some r := h
theorem aaC {p q r : Nat} (h : Ieee.double.mul p q = some r) : OQ .mul .f64 p q = some r := h
theorem aiC {p : Nat} (h : Ieee.u32 p = none) : JA .sub .f32 p p = true := by
  show (Ieee.single.sub p p).isNone = true; rw [Ieee.Format.LH h]; rfl
theorem OS {p : Nat} {n : Int} (h : (Ieee.single.read p).toInt .zero = some n) : (FloatKind.f32.decode p).toInt .zero = some n := h
theorem XZ {p : Nat} (h : Ieee.double.order p p = some .eq) : dB .neq .f64 p p = false := by
  show (Ieee.double.order p p != some .eq) = false; rw [h]; rfl
theorem nB {p q : Nat} {u v : Int} (hp : Ieee.u32 p = some u) (hq : Ieee.u32 q = some v) :
    dB .eql .f32 p q = decide (u = v) /\ dB .neq .f32 p q = decide (u ≠ v) /\ dB .lss .f32 p q = decide (u < v) /\ dB .leq .f32 p q = decide (u <= v) /\ dB .gtr .f32 p q = decide (v < u) /\ dB .geq .f32 p q = decide (v <= u) := HC (k := .f32) hp hq
theorem J3 {p q : Nat} {u v : Int} (hp : Ieee.u64 p = some u) (hq : Ieee.u64 q = some v) :
    dB .eql .f64 p q = decide (u = v) /\ dB .neq .f64 p q = decide (u ≠ v) /\ dB .lss .f64 p q = decide (u < v) /\ dB .leq .f64 p q = decide (u <= v) /\ dB .gtr .f64 p q = decide (v < u) /\ dB .geq .f64 p q = decide (v <= u) := HC (k := .f64) hp hq
theorem aI.XU {s D : TypeId} {u u' : Int} (hu : Ieee.u32 p = some u) (hr : Ieee.u64 (Ieee.double.write (Ieee.single.read p)) = some u') (hx : aS fl x = some (.v (.aO .f32) p) := by rfl) (hb : pM P s D .f64 = true := by kernel_rfl) : aI P fl σ (.convert s D x) (.v (.aO .f64) (Ieee.double.write (Ieee.single.read p))) :=
  aI.an4 (k := .f32) .f64 (by decide) hu rfl hr hx hb
theorem aI.aiD {s D : TypeId} {sg : Bool} (hu : Ieee.single.read p = .infinity sg) (hx : aS fl x = some (.v (.aO .f32) p) := by rfl) (hb : pM P s D .f64 = true := by kernel_rfl) : aI P fl σ (.convert s D x) (.v (.aO .f64) (Ieee.double.write (.infinity sg))) :=
  aI.al3 (k := .f32) .f64 (by decide) hu hx hb
theorem aI.aiE {s D : TypeId} {sg : Bool} {m : Nat} (hu : Ieee.single.read p = .nan sg m) (hx : aS fl x = some (.v (.aO .f32) p) := by rfl) (hb : pM P s D .f64 = true := by kernel_rfl) : aI P fl σ (.convert s D x) (.raw (jK .f64)) :=
  aI.al4 (k := .f32) .f64 (by decide) hu hx hb
theorem Y0 {P : Program} {y : Nat} {s : Bool} {m : Nat} {pl : Int} (h : Ieee.double.read y = .number s m pl) : bX P (Extern.MathFloor.toIntegral "math.archFloor" .down #[.float .f64 y]) = some (.float .f64 (Ieee.double.write ((Ieee.double.read y).integral .down))) := by
  have e : Extern.MathFloor.toIntegral "math.archFloor" .down #[.float .f64 y] = (match FloatKind.f64.decode y with
    | .nan s t =>
      if FloatKind.f64.format.quiet t = t then pure (.float .f64 y) else do
      let kept <- choose (.extern "math.Floor,Ceil,Trunc,RoundToEven.signallingNaN kept" 2)
      pure (.float .f64 (if kept == 1 then y else FloatKind.f64.encode (.nan s (FloatKind.f64.format.quiet t))))
    | d => pure (.float .f64 (FloatKind.f64.encode (d.integral .down)))) := rfl
  have h2 : FloatKind.f64.decode y = .number s m pl := h; rw [e, h2, h]; rfl
theorem Y1 {b : Nat} : ((BitVec.ofInt 64 (b : Int)) &&& ~~~(BitVec.ofInt 64 9223372036854775808)).toNat = b % 9223372036854775808 := by
  rw [BitVec.toNat_and]
  have e1 : (~~~(BitVec.ofInt 64 9223372036854775808)).toNat = 2 ^ 63 - 1 := by decide
  have e2 : (BitVec.ofInt 64 (b : Int)).toNat = b % 2 ^ 64 := by
    rw [BitVec.toNat_ofInt]; omega
  rw [e1, e2, Nat.and_two_pow_sub_one_eq_mod]; omega
theorem aI.Y1 {b : Nat} (hx : aS fl x = some (.v (.int .u64) ((b : Nat) : Int))) (hy : aS fl y = some (.v (.int .u64) 9223372036854775808)) : aI P fl σ (.binOp .andNot T x y T') (.v (.int .u64) ((b % 9223372036854775808 : Nat) : Int)) :=
  .rO hx hy (u := .int .u64 ((b % 9223372036854775808 : Nat) : Int)) (by
    show (aD P (Op.intBits .andNot .u64 (b : Int) 9223372036854775808)).bind _ = _; have e1 : Op.intBits .andNot .u64 (b : Int) 9223372036854775808 = pure (.int .u64 (IntKind.u64.wrap (((BitVec.ofInt 64 (b : Int)) &&& ~~~(BitVec.ofInt 64 9223372036854775808)).toNat : Int))) := rfl; rw [e1, Fs.Y1, aL]
    have e2 : IntKind.u64.wrap ((b % 9223372036854775808 : Nat) : Int) = ((b % 9223372036854775808 : Nat) : Int) := by
      have e3 : IntKind.u64.wrap ((b % 9223372036854775808 : Nat) : Int) = ((b % 9223372036854775808 : Nat) : Int) % 18446744073709551616 := rfl; rw [e3]; omega
    rw [e2]; rfl) fun h S => aE.ofInt _ _
end Go.Fs
namespace Ieee
open Format
theorem ac6 {b : Nat} : double.read (b % 9223372036854775808) = match double.read b with
    | .number _ m p => .number false m p
    | .infinity _ => .infinity false
    | .nan _ f => .nan false f := by
  have e0 : double.signWeight = 9223372036854775808 := by decide
  have e1 : b % 9223372036854775808 % double.signWeight = b % double.signWeight := by rw [e0]; omega
  have e2 : (b % 9223372036854775808 / double.signWeight % 2 == 1) = false := by
    rw [e0, show b % 9223372036854775808 / 9223372036854775808 = 0 by omega]; rfl
  unfold Format.read; simp only [e1, e2]; split
  . rfl
  split
  . rfl
  split <;> rfl
theorem Y2 {b : Nat} {v : Int} (h : double.cW b = some v) : double.cW (b % 9223372036854775808) = some (v.natAbs : Int) := by
  obtain ⟨s, m, p, h1, h2, rfl⟩ := eB h; unfold cW; rw [ac6, h1]; simp only; rw [oH]; rfl
def U1 : Int := (2 ^ 53 - 1) * (((2 ^ (2045 : Nat) : Nat)) : Int)
theorem al5 : u64 9218868437227405311 = some U1 := by decide +kernel
theorem Y3 {u : Int} (h : u.natAbs <= 2 ^ HB) : ((u * (kW : Nat)).natAbs : Int) <= U1 := by
  have h1 : 2 ^ HB * kW <= U1.natAbs := by decide +kernel
  have h2 : (u * (kW : Nat)).natAbs <= 2 ^ HB * kW := by
    rw [Int.natAbs_mul, Int.natAbs_natCast]; exact Nat.mul_le_mul_right _ h
  have h3 : (U1.natAbs : Int) = U1 := by decide +kernel
  omega
end Ieee
namespace Go.Fs
variable {P : Program} {orc : FuncId -> List Value -> U -> Option (Value × U)} {aY : Option Nat} {h : U} {S : List Nat} {σ : aR} {t : Tr} {fl : VL} {x y : Operand} {T : TypeId} {n : Nat} {τ dC : Ty} {Q : Ex -> VL -> aR -> Prop}
def afW (P : Program) (T : TypeId) (j k : Nat) (dC : Ty) : Bool :=
  match P.underlying T with
  | some (.array n e) => match P.info? e with
    | some i => Nat.blt j n && Nat.beq k (j * i.size) && TF P e dC
    | none => false
  | _ => false
theorem ac7 {j k : Nat} (hb : afW P T j k dC = true) : ∃ m e i, P.underlying T = some (.array m e) /\ P.info? e = some i /\ j < m /\ k = j * i.size /\ fU P e dC := by
  unfold afW at hb; split at hb
  . rename_i m e hu; split at hb
    . rename_i i hi; obtain ⟨h1, h2⟩ := aQ hb; obtain ⟨h3, h4⟩ := aQ h1; exact ⟨m, e, i, hu, hi, jA h3, bV h4, gM h2⟩
    cases hb
  cases hb
theorem aI.ixP (j : Nat) {k : Nat} {dx : τ.den} {dy : dC.den} (hs : Sub τ dx k dC dy) (hb : afW P T j k dC = true := by kernel_rfl) (hx : aS fl x = some (.p τ dx) := by rfl) (hy : aS fl y = some (.v (.int .i64) ((j : Nat) : Int)) := by rfl) : aI P fl σ (.indexAddr T x y) (.p dC dy) :=
  ⟨rfl, fun h S t hq _ => by
    have hp : mI h S τ (aB t x) dx := hq x (by simp [Op.operands]) _ hx; have hi : aB t y = .int .i64 ((j : Nat) : Int) := aE.int (hq y (by simp [Op.operands]) _ hy : aE h S (.int .i64) _ ((j : Nat) : Int)); obtain ⟨m, e, i, u1, u2, u3, u4, u5⟩ := ac7 hb; obtain ⟨b', o, e', rs, own, more, h1, h2, h3, h4, h5⟩ := hp; refine ⟨.pointer (some ⟨b', o + k, none⟩), ?_, fun _ _ _ _ _ H => ?_⟩
    . obtain ⟨h6, h7⟩ := hs.TK h5; rw [List.length_take, List.length_drop] at h6; refine ⟨b', o + k, e', rs, own, more, rfl, h2, h3, by omega, ?_⟩; rw [List.drop_take, List.take_take, List.drop_drop, Nat.min_eq_left (by omega)] at h7; exact h7
    show (if af (aB t y) then (aD P (Instr.indexAt T (aB t x) (aB t y))).map _ else none) = _; rw [hi, h1, if_pos (show af (Value.int .i64 ((j : Nat) : Int)) = true from rfl)]
    have h6 : (0 : Int) <= ((j : Nat) : Int) /\ ((j : Nat) : Int) < (m : Nat) := by omega
    have h7 : aD P (Instr.indexAt T (.pointer (some ⟨b', o, none⟩)) (.int .i64 ((j : Nat) : Int))) = some (.pointer (some ⟨b', o + k, none⟩)) := by
      unfold Instr.indexAt; simp only [aC, asIntOf, aL, Option.bind_some, aK u1, Instr.sureAddr, if_pos h6, iD u2, q5, Int.toNat_natCast, u4]
    rw [h7]; rfl⟩
section
variable {T' : TypeId}
end
end Go.Fs
namespace Go.Fs
variable {P : Program} {orc : FuncId -> List Value -> U -> Option (Value × U)} {aY : Option Nat} {h h' h0 h1 h2 : U} {S S' S0 B G : List Nat} {σ σ' : aR} {t t' : Tr} {ms : List Nat} {fl nw : VL} {ops : Array Oper} {n : Nat} {l : List Oper} {K : VL -> aR -> Prop} {Q : Ex -> VL -> aR -> Prop}
  {d : Tmp} {ty : TypeId} {pos : String} {after : Array Edge} {op : Op} {v pv : PV} {g : Option (Nat × Bool)} {x y z : Operand} {T T' e : TypeId} {w : Value} {s : ByteArray} {p : Nat}
theorem jR.rng (hT : P.underlying T = some .string := by kernel_rfl) (hx : aS fl x = some (.v .str s) := by rfl) : jR P fl (.range T x) (.it s 0) :=
  ⟨rfl, fun h S t hs bZ hS => by
    have hv : aB t x = .string s := aE.str (hs x (by simp [Op.operands]) _ hx : aE h S .str _ s); refine ⟨fun k => .pointer (some ⟨k, 0, none⟩), .iter s 0, fun _ => rfl, fun S' hN hm => ⟨h.next, rfl, hm, by rw [U.bQ, if_pos rfl]⟩, fun H _ _ _ _ _ => ?_⟩; show xY P T (aB t x) H = _; rw [hv]
    simp [xY, hT]⟩
theorem cT.al6 (hp : p < s.size) (hx : aS fl x = some (.raw w)) : cT P fl ((w, .it s p) :: σ) (.next x true) fun v σ' => v = .oD [.v .bool true, .v (.int .i64) ((p : Nat) : Int), .v (.int .i32) (((Utf8.decode s p).1 : Nat) : Int)] /\ σ' = (w, .it s (p + (Utf8.decode s p).2)) :: σ :=
  ⟨rfl, fun S0 h t L => by
    have h1 : aB t x = w := dL L.aJ hx; obtain ⟨b, h3, h4, hg⟩ := L.cells _ List.mem_cons_self; have hw : w = .pointer (some ⟨b, 0, none⟩) := h3
    have pX : dX w = [b] := by rw [hw]; rfl
    refine ⟨.tuple #[.bool true, .int .i64 ((p : Nat) : Int), .int .i32 (((Utf8.decode s p).1 : Nat) : Int)], h.set b (.iter s (p + (Utf8.decode s p).2)), _, _, ⟨rfl, rfl⟩, Made.head L (cI.set hg (by rw [pX]; simp)) (fun b hb => .inl hb) (by rw [pX]; simp) fun hN => ?_, ?_, fun _ _ _ _ _ => ?_⟩
    . refine ⟨b, h3, ?_, by rw [U.cX hg, if_pos rfl]⟩; rw [cO]; exact List.mem_append_left _ (List.mem_append_left _ (by rw [pX]; simp))
    . exact ⟨_, rfl, _, _, rfl, aE.ofBool _, _, _, rfl, aE.ofInt _ _, _, _, rfl, aE.ofInt _ _, rfl⟩
    show w5 (aB t x) true h = _; rw [h1, hw]
    simp [w5, hg, hp]⟩
theorem cT.al7 (hp : ¬ p < s.size) (hx : aS fl x = some (.raw w)) : cT P fl ((w, .it s p) :: σ) (.next x true) fun v σ' => v = .oD [.v .bool false] /\ σ' = (w, .it s p) :: σ :=
  ⟨rfl, fun S0 h t L => by
    have h1 : aB t x = w := dL L.aJ hx; obtain ⟨b, h3, h4, hg⟩ := L.cells _ List.mem_cons_self; have hw : w = .pointer (some ⟨b, 0, none⟩) := h3; refine ⟨.tuple #[.bool false], h, _, _, ⟨rfl, rfl⟩, Made.same L (cI.refl h []), ⟨_, rfl, _, _, rfl, aE.ofBool _, rfl⟩, fun _ _ _ _ _ => ?_⟩; show w5 (aB t x) true h = _; rw [h1, hw]
    simp [w5, hg, hp]⟩
theorem J.next (hx : aS fl x = some (.raw w)) (h1 : p < s.size -> J P orc ops n l ((d, .oD [.v .bool true, .v (.int .i64) ((p : Nat) : Int), .v (.int .i32) (((Utf8.decode s p).1 : Nat) : Int)]) :: fl) ((w, .it s (p + (Utf8.decode s p).2)) :: σ) K) (h2 : ¬ p < s.size -> J P orc ops n l ((d, .oD [.v .bool false]) :: fl) ((w, .it s p) :: σ) K)
    (hw : cV ops fl g = some true := by rfl) (hn : (Nat.blt d n && Nat.ble n 4000) = true := by rfl) : J P orc ops n (⟨some d, .next x true, ty, pos, after, g⟩ :: l) fl ((w, .it s p) :: σ) K := by
  by_cases hp : p < s.size
  . exact J.mk (cT.al6 hp hx) (by rintro _ _ ⟨rfl, rfl⟩; exact h1 hp) hw hn
  exact J.mk (cT.al7 hp hx) (by rintro _ _ ⟨rfl, rfl⟩; exact h2 hp) hw hn
theorem aI.an6 {b : Bool} (hx : aS fl x = some (.oD [.v .bool b]) := by rfl) : aI P fl σ (.extract x 0) (.v .bool b) := ⟨rfl, fun h S t hs _ => by
  obtain ⟨us, h1, u, r, rfl, h2, h3⟩ := (hs x (by simp [Op.operands]) _ hx : aH h S (.oD [.v .bool b]) _); obtain rfl : r = [] := h3; have hu : u = .bool b := aE.bool h2; subst hu; refine ⟨.bool b, aE.ofBool _, fun _ _ _ _ _ H => ?_⟩; show (bif tQ (aB t x) then none else (aD P (Instr.extract (aB t x) 0)).map _) = _; rw [h1]; have hj : tQ (.tuple [Value.bool b].toArray) = false := rfl; rw [hj]
  rfl⟩
theorem HD {i : Nat} (h : (s.get! i).toNat < 128) : Utf8.decode s i = ((s.get! i).toNat, 1) := by
  unfold Utf8.decode; simp only [Nat.add_zero]; rw [if_pos h]
theorem decode_high {i : Nat} (h : ¬ (s.get! i).toNat < 128) : 128 <= (Utf8.decode s i).1 := by
  unfold Utf8.decode; simp only [Nat.add_zero]; rw [if_neg h]
  have hr : 128 <= Utf8.runeError := by decide
  split
  . split
    . assumption
    exact hr
  split
  . split
    . rename_i hc; have := (Bool.and_eq_true .. ▸ hc : _ /\ _).1; have := of_decide_eq_true this; simp only; omega
    exact hr
  split
  . split
    . rename_i hc; have := (Bool.and_eq_true .. ▸ hc : _ /\ _).1; have := of_decide_eq_true this; simp only; omega
    exact hr
  exact hr
structure GdT (ops : Array Oper) (fl : VL) (g : Option (Nat × Bool)) (b : Bool) : Prop where
  want : ∀ {h : U} {S : List Nat} {t : Tr}, eQ h S t fl -> ∀ o : Oper, o.guard = g -> bL ops t o = some b
end Go.Fs
namespace Go.Fs
instance : DecidableEq (Ty.den .str) := inferInstanceAs (DecidableEq ByteArray)
instance {k : IntKind} : DecidableEq (Ty.den (.int k)) := inferInstanceAs (DecidableEq Int)
instance : DecidableEq (Ty.den .bool) := inferInstanceAs (DecidableEq Bool)
instance {a b : Ty} [DecidableEq a.den] [DecidableEq b.den] : DecidableEq (Ty.den (.pair a b)) := inferInstanceAs (DecidableEq (a.den × b.den))
variable {P : Program} {orc : FuncId -> List Value -> U -> Option (Value × U)} {fl : VL} {σ γ : aR} {T : TypeId} {τ : Ty}
theorem OT {h : U} {S : List Nat} : ∀ (us : List Value), bA h S (us.map PV.raw) us
  | [] => rfl
  | u :: r => ⟨u, r, rfl, rfl, OT r⟩
def hD (s : ByteArray) (i : Int) : Int := (((s.get! i.toNat).toNat : Nat) : Int)
theorem Y4 (s : ByteArray) (i : Nat) : hD s i = (((s.get! i).toNat : Nat) : Int) := rfl
theorem aI.ixS {x y : Operand} {s : ByteArray} {i : Int} (hx : aS fl x = some (.v .str s)) (hy : aS fl y = some (.v (.int .i64) i)) (h0 : 0 <= i) (h1 : i < (s.size : Nat)) (hT : P.underlying T = some .string := by kernel_rfl) : aI P fl σ (.index T x y) (.v (.int .u8) (hD s i)) :=
  ⟨rfl, fun h S t hq _ => by
    have hv : aB t x = .string s := aE.str (hq x (by simp [Op.operands]) _ hx : aE h S .str _ s); have hi : aB t y = .int .i64 i := aE.int (hq y (by simp [Op.operands]) _ hy : aE h S (.int .i64) _ i); refine ⟨.int .u8 (hD s i), aE.ofInt _ _, fun _ _ _ _ _ H => ?_⟩; show (if af (aB t y) then (aD P (Instr.index T (aB t x) (aB t y))).map _ else none) = _; rw [hi, hv, if_pos (show af (Value.int .i64 i) = true from rfl)]
    have hb : i.toNat < s.size := by omega
    have h8 : s[i.toNat]? = some (s.get! i.toNat) := by
      rw [getElem?_pos s i.toNat hb]; congr 1; show s.data[i.toNat] = s.data[i.toNat]!; rw [getElem!_pos s.data i.toNat hb]
    have h9 : aD P (Instr.index T (.string s) (.int .i64 i)) = some (.int .u8 (hD s i)) := by
      unfold Instr.index; simp only [aC, asIntOf, aL, Option.bind_some, aK hT, if_pos h0, h8]; rfl
    rw [h9]; rfl⟩
end Go.Fs
namespace Go.Fs
variable {P : Program} {orc : FuncId -> List Value -> U -> Option (Value × U)} {fl : VL} {σ : aR} {T T' e ty : TypeId} {τ : Ty} {ops : Array Oper} {n : Nat} {l : List Oper} {K : VL -> aR -> Prop} {d : Tmp} {pos : String} {after : Array Edge} {g : Option (Nat × Bool)} {x y : Operand} {xs : List τ.den}
theorem J.al8 (hx : aS fl x = some (.v (.sl τ) xs)) (hy : aS fl y = some (.raw (.slice none 0 0))) (hT : P.underlying T = some (.slice e)) (hp : bX P (do eqGuard .eql T x y (.slice none 0 0) (.slice none 0 0); binOp .eql T (.slice none 0 0) (.slice none 0 0)) = some (.bool true))
    (h1 : xs = [] -> J P orc ops n l ((d, .v .bool true) :: fl) σ K) (h2 : J P orc ops n l ((d, .v .bool false) :: fl) σ K)
    (hw : cV ops fl g = some true := by rfl) (hn : (Nat.blt d n && Nat.ble n 4000) = true := by rfl) : J P orc ops n (⟨some d, .binOp .eql T x y T', ty, pos, after, g⟩ :: l) fl σ K := fun h0 G S0 t h ms eF => by
  obtain ⟨n1, n2⟩ := fits hn; have a1 : aE _ _ (.sl τ) (aB t x) xs := dL eF.aJ hx; have a2 : aB t y = .slice none 0 0 := dL eF.aJ hy; have a3 := a1.sl; rcases a3 with ⟨hv, hl⟩ | ⟨b, o, mk, hv, _⟩
  . have hs : gG P ⟨some d, .binOp .eql T x y T', ty, pos, after, g⟩ (aB t) h = some (.bool true, h) := by
      show (if (af (aB t x) && af (aB t y)) = true then _ else _) = _; rw [hv, a2, if_pos (show (af (Value.slice none 0 0) && af (Value.slice none 0 0)) = true from rfl), hp]; rfl
    exact lZ.op (cC eF.aJ hw) hs (bU n1 t _) (h1 hl h0 G S0 _ h ms (eF.set (show aH _ _ (.v .bool true) (.bool true) from aE.ofBool _) n2))
  have hs : gG P ⟨some d, .binOp .eql T x y T', ty, pos, after, g⟩ (aB t) h = some (.bool false, h) := by
    show (if (af (aB t x) && af (aB t y)) = true then _ else ((w6 P .eql T (aB t x) (aB t y)).or _).map _) = _; rw [hv, a2, if_neg (by exact Bool.false_ne_true), show w6 P .eql T (.slice (some ⟨b, o, none⟩) xs.length mk) (.slice none 0 0) = some false from by unfold w6; simp only [hT]; rfl]; rfl
  exact lZ.op (cC eF.aJ hw) hs (bU n1 t _) (h2 h0 G S0 _ h ms (eF.set (show aH _ _ (.v .bool false) (.bool false) from aE.ofBool _) n2))
theorem vJ {w : Value} (h : aN w = true) : fZ w = false := by
  cases w <;> first | rfl | cases h
end Go.Fs
namespace Go.Fs
variable {P : Program} {orc : FuncId -> List Value -> U -> Option (Value × U)} {h h1 h2 h' : U} {S S0 : List Nat} {σ γ nW : aR} {fl : VL} {ops : Array Oper} {n : Nat} {l : List Oper} {K : VL -> aR -> Prop} {d : Tmp} {ty : TypeId} {pos : String} {after : Array Edge} {g : Option (Nat × Bool)}
theorem NH {o : Oper} {c : Call} {f : Operand} {j : Nat} {ev : Operand -> Value} (ho : o.op = .call c) (hc : c.callee = .value f) (hf : ev f = .func (.yield j) #[] #[]) (m : Nat) (h : U) :
    lV P orc m o ev h = eK (dK P orc m) j (c.args.toList.map ev) h := by
  unfold lV cP; rw [ho]; simp only [hc, hf]
theorem lZ.yield {QO : Tr -> U -> Prop} {o : Oper} {t : Tr} {c : Call} {f : Operand} {j : Nat} (hw : bL ops t o = some true) (ho : o.op = .call c) (hc : c.callee = .value f) (hf : aB t f = .func (.yield j) #[] #[])
    (hl : S8 P orc j (c.args.toList.map (aB t)) h fun v h' => ∃ t', put n t o.dst v = some t' /\ lZ P orc ops n l t' h' QO) : lZ P orc ops n (o :: l) t h QO := by
  obtain ⟨m, v, h1, hr, t1, hp, k, t2, h2, kG, hq⟩ := hl; refine ⟨max m k, t2, h2, ?_, hq⟩; have h3 := nN (gT (P := P) (orc := orc) (Nat.le_max_left m k)) _ _ _ _ hr; have h4 : y4 P orc (max m k) o (aB t) h = some (v, h1) := EJ _ _ _ _ (by rw [NH ho hc hf]; exact h3); simp only [oZ, hw, h4, hp]; exact qV (GM (Nat.le_max_right m k)) _ _ _ _ kG
theorem S8.mono {j : Nat} {args : List Value} {Q Q' : Value -> U -> Prop} (hc : S8 P orc j args h Q) (hq : ∀ v h', Q v h' -> Q' v h') : S8 P orc j args h Q' :=
  let ⟨m, v, h', h1, h2⟩ := hc; ⟨m, v, h', h1, hq _ _ h2⟩
theorem S8.round {Q : Value -> U -> Prop} {j : Nat} {j0 : Option Code} {tmps t : Tr} {params : Array Tmp} {assign body : Code} {dm : Nat} {args : List Value} (hg : h.get j = some (.dM .ready j0 tmps n params assign body dm)) (hlen : Nat.beq args.length params.size = true) (ht : qO n tmps (params.toList.zip args) = some t)
    (ha : gX P orc (some j) assign ⟨t, n, []⟩ h fun e fr h1 => e = .normal /\ ∃ jp tm n' Y5 NF Y6 d', h1.get j = some (.dM .ready jp tm n' Y5 NF Y6 d') /\
      gX P orc (some j) body fr (h1.set j (.dM .busy jp tm n' Y5 NF Y6 d')) fun e _ h2 => ∃ st jp2 tm2 n2 ps2 as2 bo2 d2, h2.get j = some (.dM st jp2 tm2 n2 ps2 as2 bo2 d2) /\
        Q (.bool (eY e).isNone) (h2.set j (.dM (bif (eY e).isNone then .ready else .done) (eY e) tm2 n2 ps2 as2 bo2 d2))) : S8 P orc j args h Q := by
  obtain ⟨m, e, fr, h1, hr, rfl, jp, tm, n', Y5, NF, Y6, d', JD, k, e2, MW, h2, kG, st, jp2, tm2, n2, ps2, as2, bo2, d2, IE, hq⟩ := ha; refine ⟨max m k, _, _, ?_, hq⟩; have a1 := gT (P := P) (orc := orc) (Nat.le_max_left m k) _ _ _ _ _ hr; have a2 := gT (P := P) (orc := orc) (Nat.le_max_right m k) _ _ _ _ _ kG; unfold eK; simp only [hg, hlen, cond_true, ht, a1, JD, a2, IE]
def HE (P : Program) (orc : FuncId -> List Value -> U -> Option (Value × U)) (f : FuncId) (args : List Value) (h : U) (Q : Value -> U -> Prop) : Prop := ∃ m v h', kE P true (dK P orc m) f args h = some (v, h') /\ Q v h'
theorem HE.mono {f : FuncId} {args : List Value} {Q Q' : Value -> U -> Prop} (hc : HE P orc f args h Q) (hq : ∀ v h', Q v h' -> Q' v h') : HE P orc f args h Q' :=
  let ⟨m, v, h', h1, h2⟩ := hc; ⟨m, v, h', h1, hq _ _ h2⟩
theorem HE.enter {f : FuncId} {args : List Value} {fn : Func} {c : Code} {QF : Value -> U -> Prop} (kF : P.funcs[f]? = some fn) (hc : fn.body = some c) (hn : (Nat.blt 4000 fn.ntmps || Nat.blt fn.ntmps args.length) = false)
    (hb : gX P orc none c ⟨iI .leaf 0 args, fn.ntmps, []⟩ { next := h.next, low := h.next, aA := h.aA } fun e fr h1 =>
      e.goes = true /\ ∃ h2 vs, iV fr.marks h1 = some h2 /\ fX P fr.t h2 fn.results.toList = some vs /\ QF (gS vs) { next := h2.next, low := min h.low h2.low, aA := h2.aA }) : HE P orc f args h QF := by
  obtain ⟨m, e, fr, h1, hr, hg, h2, vs, hd, w9, hq⟩ := hb; refine ⟨m, _, _, ?_, hq⟩; unfold kE; simp only [kF, hc, hn, cond_false, hr, hg, cond_true, hd, w9, Bool.not_true, Bool.false_and]
theorem gX.rangeFunc {fr : Fr} {Q : Ex -> Fr -> U -> Prop} {x : Operand} {f : FuncId} {a c : Array Value} {ps : Array Tmp} {assign body : Code} (hgv : aB fr.t x = .func (.func f) a c)
    (hl : HE P orc f (a.toList ++ [.func (.yield (h.push .iP).next) #[] #[]] ++ c.toList) ((h.push .iP).push (.dM .ready none fr.t fr.n ps assign body h.next)) fun _ h3 =>
      ∃ st e tm n' Y5 NF Y6 d', h3.get (h.push .iP).next = some (.dM st (eY e) tm n' Y5 NF Y6 d') /\ st ≠ .busy /\ Q e ⟨fr.t, fr.n, h.next :: fr.marks⟩ (h3.set (h.push .iP).next (.dM .exhausted (eY e) tm n' Y5 NF Y6 d'))) :
    gX P orc none (.rangeFunc x ps assign body) fr h Q := by
  obtain ⟨m, v, h3, hr, st, e, tm, n', Y5, NF, Y6, d', hg, bT, hq⟩ := hl; refine ⟨m + 1, e, _, _, ?_, hq⟩; show jL P (dK P orc m) none x ps assign body fr h = _; unfold jL IU; simp only [hgv, hr, hg]
  cases st with
  | busy => exact absurd rfl bT
  | _ => cases e <;> rfl
section
variable (P orc)
def NI (yv : Value) (args : List PV) (γ : aR) (Q : PV -> aR -> Prop) : Prop := ∀ (h : U) (S : List Nat) (us : List Value), nK h -> (∀ b ∈ S, b < h.next) -> (∀ c ∈ γ, cU h (own γ ++ S) c.1 c.2) -> (own γ).Nodup -> (∀ b ∈ own γ, b ∉ S) -> bA h (own γ ++ S) args us ->
  ∃ j, yv = .func (.yield j) #[] #[] /\ S8 P orc j us h fun u h' => ∃ r gN, Q r gN /\ Made S h h' γ gN /\ aH h' (own gN ++ S) r u
end
theorem J.al9 {f : Operand} {args : Array Operand} {mC : Array TypeId} {yv : Value} {asl : List PV} {Q : PV -> aR -> Prop} (γ : aR) (L9 : γ ++ σ = nW) (hf : aS fl f = some (.raw yv)) (ha : kI fl args.toList = some asl) (hc : NI P orc yv asl γ Q) (hk : ∀ r gN, Q r gN -> J P orc ops n l ((d, r) :: fl) (gN ++ σ) K)
    (hw : cV ops fl g = some true := by rfl) (hn : (Nat.blt d n && Nat.ble n 4000) = true := by rfl) : J P orc ops n (⟨some d, .call { callee := .value f, args := args, argTypes := mC }, ty, pos, after, g⟩ :: l) fl nW K := fun h0 G S0 t h ms eF => by
  subst L9; obtain ⟨n1, n2⟩ := fits hn; have L := eF.lc; have pG := L.apart; rw [dF] at pG; obtain ⟨aa6, TP, DO⟩ := List.nodup_append.1 pG; have SX : aB t f = yv := dL eF.aJ hf; have l7 := r4 eF.aJ ha; rw [dF, List.append_assoc] at l7
  have eP : ∀ c ∈ γ, cU h (own γ ++ (own σ ++ S0)) c.1 c.2 := fun c hc => by
    have := L.cells c (List.mem_append_left _ hc)
    rwa [dF, List.append_assoc] at this
  obtain ⟨j, hj, hY⟩ := hc h (own σ ++ S0) _ eF.ok (fun b hb => L.lt b (by
    rcases List.mem_append.1 hb with hb | hb
    . exact List.mem_append_left _ (by rw [dF]; exact List.mem_append_right _ hb)
    . exact List.mem_append_right _ hb)) eP aa6 (fun b hb hm => by
    rcases List.mem_append.1 hm with hm | hm
    . exact DO b hb b hm rfl
    exact L.sep b (by rw [dF]; exact List.mem_append_left _ hb) hm) l7
  refine lZ.yield (cC eF.aJ hw) rfl rfl (SX.trans hj) (hY.mono fun u h' hq => ?_); obtain ⟨r, gN, q1, q2, q3⟩ := hq; refine ⟨_, bU n1 t u, hk r gN q1 h0 G S0 _ h' ms ((eF.made (Made.app L q2)).set ?_ n2)⟩; rw [dF, List.append_assoc]; exact q3
def LI : List Tmp -> List PV -> VL -> VL
  | p :: ps, a :: asl, fl => LI ps asl ((p, a) :: fl)
  | _, _, fl => fl
theorem B1 (hn4 : n <= 4000) : ∀ {ps : List Tmp} {asl : List PV} {us : List Value} {t : Tr} {fl : VL}, (∀ p ∈ ps, Nat.blt p n = true) -> eQ h S t fl -> bA h S asl us -> ps.length = asl.length ->
    ∃ t', qO n t (ps.zip us) = some t' /\ eQ h S t' (LI ps asl fl)
  | [], asl, us, t, fl, _, hs, hr, _ => ⟨t, by cases us <;> rfl, by cases asl <;> exact hs⟩
  | p :: ps, [], us, t, fl, _, hs, hr, hl => by cases hl
  | p :: ps, a :: asl, us, t, fl, hp, hs, ⟨u, r, h1, h2, h3⟩, hl => by
    subst h1; have hpn := hp p List.mem_cons_self; have hp4 : p < 4000 := Nat.lt_of_lt_of_le (jA hpn) hn4; obtain ⟨t', e1, e2⟩ := B1 (ps := ps) (asl := asl) (us := r) (t := t.set depth p u) (fl := (p, a) :: fl) hn4 (fun q hq => hp q (List.mem_cons_of_mem _ hq)) (hs.set h2 hp4) h3 (by simpa using hl); refine ⟨t', ?_, e2⟩; show qO n t ((p, u) :: ps.zip r) = _; unfold qO; rw [bU hpn]; exact e1
theorem NI.round {yv : Value} {fl0 : VL} {ps : Array Tmp} {assign body : Code} {args : List PV} {Qb : Ex -> VL -> aR -> Prop} (hlen : ps.size = args.length) (FJ : ∀ p ∈ ps.toList, Nat.blt p n = true) (hn4 : n <= 4000)
    (hb : ∀ j, VC P orc (some j) assign n (LI ps.toList args fl0) γ (fun e fl σ => e = .normal /\ VC P orc (some j) body n fl σ Qb)) :
    NI P orc yv args ((yv, .loop .ready none n fl0 ps assign body) :: γ) (fun r gN => ∃ e fl σ', Qb e fl σ' /\ r = .v .bool (eY e).isNone /\ gN = (yv, .loop (bif (eY e).isNone then .ready else .done) (eY e) n fl0 ps assign body) :: σ') := by
  intro h S us bZ hS eP kS B0 ha; obtain ⟨j, tmps, dm, hyv, hjS, hg, vB⟩ := eP _ List.mem_cons_self; have an7 : yv = .func (.yield j) #[] #[] := hyv; subst an7; have QY : ∀ (c : Cell) (s : aR), own ((.func (.yield j) #[] #[], c) :: s) = j :: own s := fun c s => rfl; rw [QY] at eP kS B0 ha vB; obtain ⟨hj1, afX⟩ := List.nodup_cons.1 kS; have hjn : j < h.next := bZ j _ hg; have ap1 : j ∉ S := B0 j List.mem_cons_self
  have BO : dA h (j :: own γ ++ S) h (own γ ++ (j :: S)) := dA.less fun b hb => by
    rcases List.mem_append.1 hb with hb | hb
    . exact List.mem_append_left _ (List.mem_cons_of_mem _ hb)
    rcases List.mem_cons.1 hb with hb | hb
    . subst hb; exact List.mem_append_left _ List.mem_cons_self
    exact List.mem_append_right _ hb
  obtain ⟨t1, xH, an8⟩ := B1 (n := n) hn4 FJ vB ha hlen; have hlu := ha.len
  have I1 : Iv h (own γ) (j :: S) h γ t1 [] (LI ps.toList args fl0) := {
    ok := bZ
    s0 := fun b hb => by
      rcases List.mem_cons.1 hb with hb | hb
      . subst hb; exact hjn
      exact hS b hb
    iH := cI.refl _ _
    cells := fun c hc => (eP c (List.mem_cons_of_mem _ hc)).aV (fun _ _ => rfl) BO fun b hb => List.mem_append_left _ (List.mem_flatMap.2 ⟨c, hc, hb⟩)
    new := fun b hb => ⟨.inl hb, fun hm => by
      rcases List.mem_cons.1 hm with hm | hm
      . subst hm; exact hj1 hb
      exact B0 b (List.mem_cons_of_mem _ hb) hm⟩
    apart := afX
    mark := fun d hd => by cases hd
    marks := List.nodup_nil
    aJ := an8.nx BO }
  refine ⟨j, rfl, S8.round hg (by rw [hlu, <- hlen]; exact Nat.beq_refl _) xH ((hb j h (own γ) (j :: S) t1 h [] I1).mono fun e fr h1 hq => ?_)⟩; obtain ⟨kF, fl1, tE, iM, he, alA⟩ := hq; have g1 : h1.get j = h.get j := iM.iH.get j hjn hj1; have JD := g1.trans hg; refine ⟨he, _, _, _, _, _, _, _, JD, ?_⟩
  let B : bC := .dM .busy none tmps n ps assign body dm
  have hgB : ∀ b, (h1.set j B).get b = if b = j then some B else h1.get b := fun b => U.cX JD ..; have hgA : ∀ b, (h.set j B).get b = if b = j then some B else h.get b := fun b => U.cX hg ..; have hj2 : j ∉ own tE := fun hm => (iM.new j hm).2 List.mem_cons_self
  have afY : dA h1 (own tE ++ (j :: S)) (h1.set j B) (own tE ++ (j :: S)) := fun b o hb hn => ⟨by
    rw [hgB, if_neg (fun e => hn (by subst e; exact List.mem_append_right _ List.mem_cons_self))]; exact hb, hn⟩
  have a2 := (cI.set (h := h1) (o' := B) (B := [j]) JD List.mem_cons_self)
  have I2 : Iv (h.set j B) (own γ) (j :: S) (h1.set j B) tE fr.t fr.marks fl1 := {
    ok := a2.ok iM.ok
    s0 := I1.s0
    iH := {
      next := iM.iH.next
      get := fun b hb hn => by
        rw [hgB, hgA]; split
        . rfl
        exact iM.iH.get b hb hn
      ok := fun _ => a2.ok iM.ok
      low := fun e h3 h4 h5 => by
        have h6 : e <= h.low := Nat.le_trans h3 (Nat.min_le_left _ _); have h7 : e <= j := Nat.le_trans h3 (Nat.min_le_right _ _); exact Nat.le_min.2 ⟨iM.iH.low e h6 h4 h5, h7⟩
      chg := fun b hb => by
        rw [hgB, hgA]; by_cases e : b = j
        . rw [if_pos e, if_pos e]; exact .inl rfl
        rw [if_neg e, if_neg e]; rcases iM.iH.chg b hb with h3 | h3
        . exact .inl h3
        exact .inr (Nat.le_trans (Nat.min_le_left _ _) h3)
      tA := by
        show min h1.low j <= min h.low j; have := iM.iH.tA
        omega }
    cells := fun c hc => (iM.cells c hc).aV (fun b hb => by
      rw [hgB, if_neg (fun e => hj2 (by subst e; exact List.mem_flatMap.2 ⟨c, hc, hb⟩))]) afY fun b hb => List.mem_append_left _ (List.mem_flatMap.2 ⟨c, hc, hb⟩)
    new := iM.new
    apart := iM.apart
    mark := fun d hd => by
      obtain ⟨m1, m2⟩ := iM.mark d hd; refine ⟨m1, ?_⟩; rw [hgB, if_neg (fun e => by subst e; rw [JD] at m2; cases m2)]; exact m2
    marks := iM.marks
    aJ := iM.aJ.nx afY }
  have uX : fr = ⟨fr.t, n, fr.marks⟩ := by cases fr; cases kF; rfl
  rw [uX]; refine (alA (h.set j B) (own γ) (j :: S) fr.t (h1.set j B) fr.marks I2).mono fun e2 MW h2 JE => ?_; obtain ⟨_, fl2, U2, Iv2, hQb⟩ := JE; have hj3 : j ∉ own U2 := fun hm => (Iv2.new j hm).2 List.mem_cons_self
  have g2 : h2.get j = some B := by
    rw [Iv2.iH.get j hjn hj1, hgA, if_pos rfl]
  refine ⟨_, _, _, _, _, _, _, _, g2, .v .bool (eY e2).isNone, _, ⟨e2, fl2, U2, hQb, rfl, rfl⟩, ?_, aE.ofBool _⟩
  let C : bC := .dM (bif (eY e2).isNone then .ready else .done) (eY e2) tmps n ps assign body dm
  have Y7 : ∀ b, (h2.set j C).get b = if b = j then some C else h2.get b := fun b => U.cX g2 ..; have at1 : cI h (h.set j B) (j :: own γ) := cI.set hg List.mem_cons_self; have at2 : cI h h2 (j :: own γ) := at1.trans Iv2.iH fun i hi => .inl (List.mem_cons_of_mem _ hi); have Y8 : cI h (h2.set j C) (j :: own γ) := at2.trans (cI.set (B := [j]) g2 List.mem_cons_self) fun i hi => .inl (by rw [List.mem_singleton.1 hi]; exact List.mem_cons_self)
  have jB : ∀ b ∈ j :: own U2, b ∈ j :: own γ \/ h.next <= b := fun b hb => by
    rcases List.mem_cons.1 hb with hb | hb
    . subst hb; exact .inl List.mem_cons_self
    rcases (Iv2.new b hb).1 with h3 | h3
    . exact .inl (List.mem_cons_of_mem _ h3)
    exact .inr h3
  have Y9 : dA h (j :: own γ ++ S) (h2.set j C) (j :: own U2 ++ S) := Y8.goes bZ (fun b hb => List.mem_append_left _ hb) fun b hb => by
    rcases List.mem_append.1 hb with hb | hb
    . rcases jB b hb with h3 | h3
      . exact .inl (List.mem_append_left _ h3)
      exact .inr h3
    exact .inl (List.mem_append_right _ hb)
  refine ⟨Y8, jB, List.nodup_cons.2 ⟨hj3, Iv2.apart⟩, fun c hc => ?_⟩; show cU (h2.set j C) (j :: own U2 ++ S) c.1 c.2; rcases List.mem_cons.1 hc with LJ | LJ
  . subst LJ; exact ⟨j, tmps, dm, rfl, List.mem_append_left _ List.mem_cons_self, by rw [Y7, if_pos rfl], vB.nx Y9⟩
  refine (Iv2.cells c LJ).aV (fun b hb => ?_) (fun b o hb hn => ⟨?_, fun hm => ?_⟩) fun b hb => List.mem_append_left _ (List.mem_cons_of_mem _ (List.mem_flatMap.2 ⟨c, LJ, hb⟩))
  . rw [Y7, if_neg (fun e => hj3 (by subst e; exact List.mem_flatMap.2 ⟨c, LJ, hb⟩))]
  . rw [Y7, if_neg (fun e => hn (by subst e; exact List.mem_append_right _ List.mem_cons_self))]; exact hb
  rcases List.mem_append.1 hm with hm | hm
  . rcases List.mem_cons.1 hm with hm | hm
    . exact hn (by subst hm; exact List.mem_append_right _ List.mem_cons_self)
    exact hn (List.mem_append_left _ hm)
  exact hn (List.mem_append_right _ (List.mem_cons_of_mem _ hm))
theorem NI.mono {yv : Value} {args : List PV} {Q Q' : PV -> aR -> Prop} (hy : NI P orc yv args γ Q) (hq : ∀ r s, Q r s -> Q' r s) : NI P orc yv args γ Q' := fun h S us a1 a2 a3 a4 a5 a6 => by
  obtain ⟨j, e, hY⟩ := hy h S us a1 a2 a3 a4 a5 a6; exact ⟨j, e, hY.mono fun u h' ⟨r, gN, q1, q2⟩ => ⟨r, gN, hq _ _ q1, q2⟩⟩
section
variable (P orc)
def aaD (f : FuncId) (args : List PV) (γ : aR) (Q : aR -> Prop) : Prop := ∀ (h : U) (S : List Nat) (us : List Value), nK h -> (∀ b ∈ S, b < h.next) -> (∀ c ∈ γ, cU h (own γ ++ S) c.1 c.2) -> (own γ).Nodup -> (∀ b ∈ own γ, b ∉ S) -> bA h (own γ ++ S) args us ->
  HE P orc f us h fun _ h' => ∃ gN, Q gN /\ Made S h h' γ gN
def LK {X : Type} (f : FuncId) (a c : List PV) (asl : X -> List PV) (xs : List X) : Prop := ∀ (yv : Value) (I : List X -> aR -> Prop) (E : aR -> Prop) (γ : aR),
  (∀ x rest γ, I (x :: rest) γ -> NI P orc yv (asl x) γ fun r gN => (r = .v .bool true /\ I rest gN) \/ (r = .v .bool false /\ E gN)) -> I xs γ -> aaD P orc f (a ++ [.raw yv] ++ c) γ fun gN => I [] gN \/ E gN
end
theorem aaD.enter {f : FuncId} {args : List PV} {fn : Func} {c : Code} {Q : aR -> Prop} (kF : P.funcs[f]? = some fn) (hc : fn.body = some c) (sT : fn.results.toList = []) (hn : (Nat.blt 4000 fn.ntmps || Nat.blt fn.ntmps args.length) = false)
    (hb : VC P orc none c fn.ntmps (pI 0 args) γ (fun e _ σ => e.goes = true /\ Q σ)) : aaD P orc f args γ Q := fun h S us bZ hS eP kS B0 ha => by
  have hl := ha.len
  have s7 : Nat.blt 4000 fn.ntmps = false /\ Nat.blt fn.ntmps args.length = false := by simpa using hn
  have n3 := iG s7.1; have n4 := iG s7.2; have pY : bA (entry h) (own γ ++ S) args us := bA.nx (h := h) (h' := entry h) (fun _ _ a b => ⟨a, b⟩) ha
  have I0 : Iv (entry h) (own γ) S (entry h) γ (iI .leaf 0 us) [] (pI 0 args) := {
    ok := bZ
    s0 := hS
    iH := cI.refl _ _
    cells := fun c hc => (eP c hc).aV (fun _ _ => rfl) (fun _ _ a b => ⟨a, b⟩) fun b hb => List.mem_append_left _ (List.mem_flatMap.2 ⟨c, hc, hb⟩)
    new := fun b hb => ⟨.inl hb, B0 b hb⟩
    apart := kS
    mark := fun d hd => by cases hd
    marks := List.nodup_nil
    aJ := oR pY (by omega) }
  refine HE.enter kF hc (by rw [hl]; exact hn) ((hb (entry h) (own γ) S _ (entry h) [] I0).mono fun e fr h1 hq => ?_); obtain ⟨_, eS, σ', iM, he, hQ⟩ := hq; obtain ⟨h2, d1, d2, d3⟩ := sH iM.marks fun d hd => (iM.mark d hd).2
  have iK : ∀ b o, h1.get b = some o -> o ≠ .iP -> h2.get b = some o := fun b o hg cA => by
    rw [d3 b (fun hm => cA (by have := (iM.mark b hm).2; rw [hg] at this; exact Option.some.inj this))]; exact hg
  have a2 : cI (entry h) h2 (own γ) := iM.iH.trans d2 fun i hi => .inr (iM.mark i hi).1
  have xN : ∀ c ∈ σ', ∀ b ∈ dX c.1, h2.get b = h1.get b := fun c hc b hb => by
    obtain ⟨o, hg, cA⟩ := (iM.cells c hc).isObj b hb; rw [iK b _ hg cA, hg]
  have u6 : ∀ c ∈ σ', cU h2 (own σ' ++ S) c.1 c.2 := fun c hc => by
    have hx := iM.cells c hc; have hN : qD h1 (own σ' ++ S) h2 (own σ' ++ S) := fun b _ hg cA uI => ⟨iK b _ hg cA, uI⟩; have hgb := xN c hc; obtain ⟨w, cc⟩ := c
    cases cc with
    | row e τ xs =>
      rcases hx with hx | ⟨b, rs, m, h3, h4, h5, h6⟩
      . exact .inl hx
      exact .inr ⟨b, rs, m, h3, h4, iK b _ h5 (by simp), h6.1, fun i hi => (h6.2 i hi).mK hN⟩
    | var cs =>
      obtain ⟨b, e, vs, h3, h4, h5, h6, h7⟩ := hx
      exact ⟨b, e, vs, h3, h4, iK b _ h5 (by simp), h6.mK hN, h7⟩
    | cap e k τ xs =>
      obtain ⟨b, rs, m, h3, h4, h5, h6, h7, h8⟩ := hx
      exact ⟨b, rs, m, h3, h4, iK b _ h5 (by simp), h6, h7, h8.1, fun i hi => (h8.2 i hi).mK hN⟩
    | mp κ ν n5 =>
      obtain ⟨b, es, c, h3, h4, h5, h6, h7⟩ := hx
      exact ⟨b, es, c, h3, h4, iK b _ h5 (by simp), h6, fun i hi hj => ⟨⟨(h7 i hi hj).1.1, (h7 i hi hj).1.2.mK hN⟩, ⟨(h7 i hi hj).2.1, (h7 i hi hj).2.2.mK hN⟩⟩⟩
    | it s pos =>
      obtain ⟨b, h3, h4, h5⟩ := hx
      exact ⟨b, h3, h4, iK b _ h5 (by simp)⟩
    | loop st jump n fl ps assign body =>
      obtain ⟨l, tmps, d, h3, h4, h5, h6⟩ := hx
      exact ⟨l, tmps, d, h3, h4, iK l _ h5 (by simp), h6.mK hN⟩
    | NC e n cs =>
      rcases hx with hx | ⟨b, rs, m, h3, h4, h5, h6, h7⟩
      . exact .inl hx
      exact .inr ⟨b, rs, m, h3, h4, iK b _ h5 (by simp), h6.mK hN, h7⟩
  have LB : ∀ b ∈ own σ', b ∈ own γ \/ h.next <= b := fun b hb => (iM.new b hb).1; refine ⟨he, h2, [], d1, by rw [sT]; rfl, σ', hQ, ⟨⟨a2.next, a2.get, fun x => a2.ok x, fun e h3 h4 h5 => Nat.le_min.2 ⟨h3, a2.low e (Nat.le_trans h4 (Nat.le_refl _)) h4 h5⟩, fun b hb => ?_, Nat.min_le_left _ _⟩, LB, iM.apart, fun c hc => (u6 c hc).aV (fun _ _ => rfl) (fun _ _ a b => ⟨a, b⟩) fun b hb => List.mem_append_left _ (List.mem_flatMap.2 ⟨c, hc, hb⟩)⟩⟩; rcases a2.chg b hb with h3 | h3
  . exact .inl h3
  exact .inr (Nat.le_trans (Nat.min_le_right _ _) h3)
theorem LK.enter {X : Type} {f : FuncId} {a c : List PV} {asl : X -> List PV} {xs : List X} {fn : Func} {cd : Code} (kF : P.funcs[f]? = some fn) (hc : fn.body = some cd) (sT : fn.results.toList = []) (hn : ∀ yv : Value, (Nat.blt 4000 fn.ntmps || Nat.blt fn.ntmps (a ++ [PV.raw yv] ++ c).length) = false)
    (hb : ∀ (yv : Value) (I : List X -> aR -> Prop) (E : aR -> Prop) (γ : aR), (∀ x rest γ, I (x :: rest) γ -> NI P orc yv (asl x) γ fun r gN => (r = .v .bool true /\ I rest gN) \/ (r = .v .bool false /\ E gN)) -> I xs γ ->
      VC P orc none cd fn.ntmps (pI 0 (a ++ [.raw yv] ++ c)) γ (fun e _ σ => e.goes = true /\ (I [] σ \/ E σ))) : LK P orc f a c asl xs := fun yv I E γ hy h0 => aaD.enter kF hc sT (hn yv) (hb yv I E γ hy h0)
theorem VC.rangeFunc {X : Type} {asl : X -> List PV} {xs : List X} {f : FuncId} {a c : List PV} {x : Operand} {ps : Array Tmp} {assign body : Code} {Q : Ex -> VL -> aR -> Prop} (hg : aS fl x = some (.lA f a c)) (hit : LK P orc f a c asl xs) (hlen : ∀ y, ps.size = (asl y).length) (FJ : ps.toList.all (fun p => Nat.blt p n) = true) (hn4 : Nat.ble n 4000 = true)
    (I : List X -> aR -> Prop) (E : Ex -> aR -> Prop) (h0 : I xs σ)
    (hb : ∀ j y rest σ, I (y :: rest) σ -> VC P orc (some j) assign n (LI ps.toList (asl y) fl) σ fun e eS σ' => e = .normal /\ VC P orc (some j) body n eS σ' fun e _ σ' => (e = .normal /\ I rest σ') \/ (e ≠ .normal /\ E e σ'))
    (h1 : ∀ σ', I [] σ' -> Q .normal fl σ') (h2 : ∀ e σ', e ≠ .normal -> E e σ' -> Q e fl σ') : VC P orc none (.rangeFunc x ps assign body) n fl σ Q := fun jX G S0 t h ms eF => by
  obtain ⟨va, vc, hv, ra, rc⟩ := (dL eF.aJ hg : aH h _ (.lA f a c) (aB t x))
  let hm := h.push .iP
  let j := hm.next
  let yv : Value := .func (.yield j) #[] #[]
  let L : bC := .dM .ready none t n ps assign body h.next
  have hjd : j = h.next + 1 := rfl
  have IE : ∀ b, (hm.push L).get b = if b = h.next + 1 then some L else if b = h.next then some .iP else h.get b := fun b => by
    rw [U.bQ]; show (if b = h.next + 1 then _ else (h.push .iP).get b) = _; rw [U.bQ]
  have ap : cI h (hm.push L) (j :: own σ) := (cI.push h .iP _).trans (cI.push hm L (j :: own σ)) fun i hi => .inl hi; have bO : ∀ b ∈ own σ, b < h.next := QI eF.cells eF.ok; have Lc0 := eF.lc
  have BO : dA h (own σ ++ S0) (hm.push L) (j :: own σ ++ S0) := fun b o hb hn => by
    have hbn : b < h.next := eF.ok b o hb; refine ⟨by rw [IE, if_neg (by omega), if_neg (by omega)]; exact hb, fun fR => ?_⟩; rcases List.mem_append.1 fR with fR | fR
    . rcases List.mem_cons.1 fR with fR | fR
      . omega
      exact hn (List.mem_append_left _ fR)
    exact hn (List.mem_append_right _ fR)
  have hS0 : ∀ b ∈ S0, b < h.next := Lc0.s0
  have hj1 : j ∉ own σ := fun fR => by have := bO j fR; omega
  have an9 := hit yv (fun rest γ => ∃ σ', γ = (yv, .loop .ready none n fl ps assign body) :: σ' /\ I rest σ') (fun γ => ∃ e σ', e ≠ .normal /\ γ = (yv, .loop .done (eY e) n fl ps assign body) :: σ' /\ E e σ') ((yv, .loop .ready none n fl ps assign body) :: σ)
    (fun y rest γ ⟨σ', hγ, hI⟩ => by
      subst hγ; refine (NI.round (hlen y) (fun p hp => List.all_eq_true.1 FJ p hp) (fY hn4) (fun jj => hb jj y rest σ' hI)).mono fun r s hq => ?_; obtain ⟨e, eS, U2, hQ, rfl, rfl⟩ := hq; rcases hQ with ⟨rfl, hI2⟩ | ⟨cA, hE⟩
      . exact .inl ⟨rfl, U2, rfl, hI2⟩
      refine .inr ⟨?_, e, U2, cA, ?_, hE⟩
      . cases e <;> first | exact absurd rfl cA | rfl
      cases e <;> first | exact absurd rfl cA | rfl)
    ⟨σ, rfl, h0⟩
  have QY : ∀ (c : Cell) (s : aR), own ((yv, c) :: s) = j :: own s := fun c s => rfl; refine gX.rangeFunc (fr := ⟨t, n, ms⟩) hv ((an9 (hm.push L) S0 _ (ap.ok eF.ok) (fun b hb => by have := hS0 b hb; have := ap.next; omega) (fun cc hc => ?_) (by rw [QY]; exact List.nodup_cons.2 ⟨hj1, eF.apart⟩) (fun b hb => ?_) ?_).mono fun u h3 hq => ?_)
  . rw [QY]; rcases List.mem_cons.1 hc with LJ | LJ
    . subst LJ; exact ⟨j, t, h.next, rfl, List.mem_append_left _ List.mem_cons_self, by rw [IE, if_pos hjd], eF.aJ.nx BO⟩
    refine (eF.cells cc LJ).aV (fun b hb => ?_) BO fun b hb => List.mem_append_left _ (List.mem_cons_of_mem _ (List.mem_flatMap.2 ⟨cc, LJ, hb⟩)); have := bO b (List.mem_flatMap.2 ⟨cc, LJ, hb⟩); rw [IE, if_neg (by omega), if_neg (by omega)]
  . rw [QY] at hb; intro X3; rcases List.mem_cons.1 hb with hb | hb
    . have := hS0 b X3; omega
    exact (eF.new b hb).2 X3
  . rw [QY]; have ry : bA (hm.push L) (j :: own σ ++ S0) [.raw yv] [yv] := ⟨yv, [], rfl, rfl, rfl⟩; exact ((ra.nx BO).append ry).append (rc.nx BO)
  obtain ⟨gN, hq, made⟩ := hq
  have key : ∃ st e σ', st ≠ .busy /\ gN = (yv, .loop st (eY e) n fl ps assign body) :: σ' /\ Q e fl σ' := by
    rcases hq with ⟨σ', rfl, hI⟩ | ⟨e, σ', cA, rfl, hE⟩
    . exact ⟨.ready, .normal, σ', (fun e => by cases e), rfl, h1 σ' hI⟩
    exact ⟨.done, e, σ', (fun e => by cases e), rfl, h2 e σ' cA hE⟩
  obtain ⟨st, e, σ', bT, rfl, hQ⟩ := key; obtain ⟨j', tm, dm, PJ, hjS, hgj, _⟩ := made.cells _ List.mem_cons_self
  have MX : j = j' := by
    have : yv = .func (.yield j') #[] #[] := PJ; injection this with h5; injection h5
  subst MX; refine ⟨st, e, tm, n, ps, assign, body, dm, hgj, bT, rfl, fl, σ', ?_, hQ⟩; have kS := made.apart; rw [QY] at kS; obtain ⟨hj3, afX⟩ := List.nodup_cons.1 kS
  let C : bC := .dM .exhausted (eY e) tm n ps assign body dm
  have Y7 : ∀ b, (h3.set j C).get b = if b = j then some C else h3.get b := fun b => U.cX hgj ..; have ma : cI (hm.push L) h3 (j :: own σ) := made.iH; have Y8 : cI h (h3.set j C) (j :: own σ) := (ap.trans ma fun i hi => .inl hi).trans (cI.set (B := [j]) hgj List.mem_cons_self) fun i hi => .inl (by rw [List.mem_singleton.1 hi]; exact List.mem_cons_self)
  have jB : ∀ b ∈ own σ', b ∈ own σ \/ h.next <= b := fun b hb => by
    rcases made.new b (by rw [QY]; exact List.mem_cons_of_mem _ hb) with h5 | h5
    . rw [QY] at h5; rcases List.mem_cons.1 h5 with h5 | h5
      . subst h5; exact absurd hb hj3
      exact .inl h5
    have := ap.next; exact .inr (by omega)
  have Y9 : dA h (own σ ++ S0) (h3.set j C) (own σ' ++ S0) := fun b o hb hn => by
    have hbn : b < h.next := eF.ok b o hb
    refine ⟨by rw [Y8.get b hbn (fun fR => by
      rcases List.mem_cons.1 fR with fR | fR
      . omega
      exact hn (List.mem_append_left _ fR))]; exact hb, fun fR => ?_⟩
    rcases List.mem_append.1 fR with fR | fR
    . rcases jB b fR with h5 | h5
      . exact hn (List.mem_append_left _ h5)
      omega
    exact hn (List.mem_append_right _ fR)
  have anA : h3.get h.next = some .iP := by
    rw [ma.get h.next (by show h.next < h.next + 1 + 1; omega) (fun fR => by
      rcases List.mem_cons.1 fR with fR | fR
      . omega
      have := bO _ fR; omega), IE, if_neg (by omega), if_pos rfl]
  exact {
    ok := Y8.ok eF.ok
    s0 := eF.s0
    iH := eF.iH.trans Y8 fun i hi => by
      have := eF.iH.next; rcases List.mem_cons.1 hi with hi | hi
      . right; omega
      exact (eF.new i hi).1
    cells := fun c hc => (made.cells c (List.mem_cons_of_mem _ hc)).aV (fun b hb => by
        rw [Y7, if_neg (fun e => hj3 (by subst e; exact List.mem_flatMap.2 ⟨c, hc, hb⟩))]) (fun b o hb hn => ⟨by
        rw [Y7, if_neg (fun e => hn (by subst e; exact List.mem_append_left _ List.mem_cons_self))]; exact hb, fun fR => hn (by
        rcases List.mem_append.1 fR with fR | fR
        . exact List.mem_append_left _ (List.mem_cons_of_mem _ fR)
        exact List.mem_append_right _ fR)⟩) fun b hb => List.mem_append_left _ (List.mem_flatMap.2 ⟨c, hc, hb⟩)
    new := fun b hb => by
      have := eF.iH.next; rcases jB b hb with h5 | h5
      . exact eF.new b h5
      exact ⟨.inr (by omega), fun fR => by have := hS0 b fR; omega⟩
    apart := afX
    mark := fun d hd => by
      have := eF.iH.next; rcases List.mem_cons.1 hd with hd | hd
      . subst hd; exact ⟨this, by rw [Y7, if_neg (by omega)]; exact anA⟩
      obtain ⟨m1, m2⟩ := eF.mark d hd; refine ⟨m1, ?_⟩; have hdn : d < h.next := eF.ok d _ m2
      rw [Y8.get d hdn (fun fR => by
        rcases List.mem_cons.1 fR with fR | fR
        . omega
        obtain ⟨c, hc, hb⟩ := List.mem_flatMap.1 fR; obtain ⟨o, hgo, cA⟩ := (eF.cells c hc).isObj d hb; rw [m2] at hgo
        exact cA (Option.some.inj hgo).symm)]
      exact m2
    marks := List.nodup_cons.2 ⟨fun fR => by have := eF.ok _ _ (eF.mark _ fR).2; omega, eF.marks⟩
    aJ := eF.aJ.nx Y9 }
theorem J.aiF {f : Operand} {args : Array Operand} {mC : Array TypeId} {yv : Value} {asl : List PV} {Q : PV -> aR -> Prop} (hf : aS fl f = some (.raw yv)) (ha : kI fl args.toList = some asl) (hc : NI P orc yv asl σ Q) (hk : ∀ r σ', Q r σ' -> J P orc ops n l ((d, r) :: fl) σ' K)
    (hw : cV ops fl g = some true := by rfl) (hn : (Nat.blt d n && Nat.ble n 4000) = true := by rfl) : J P orc ops n (⟨some d, .call { callee := .value f, args := args, argTypes := mC }, ty, pos, after, g⟩ :: l) fl σ K :=
  J.al9 (σ := []) σ (List.append_nil _) hf ha hc (fun r σ' hq => by rw [List.append_nil]; exact hk r σ' hq) hw hn
end Go.Fs
namespace Go.Fs
variable {P : Program} {orc : FuncId -> List Value -> U -> Option (Value × U)} {h h' h0 h1 h2 : U} {S S' S0 B G : List Nat} {σ σ' nW : aR} {t t' : Tr} {ms : List Nat} {fl : VL} {ops : Array Oper} {n i mem : Nat} {l : List Oper} {K : VL -> aR -> Prop} {Q : Ex -> VL -> aR -> Prop}
  {d : Tmp} {ty : TypeId} {pos : String} {after : Array Edge} {op : Op} {v pv : PV} {g : Option (Nat × Bool)} {x y z : Operand} {T T' e : TypeId} {τ dC : Ty} {w : Value}
def rowFrom (w : Value) (sz k : Nat) : Value :=
  match w with
  | .slice (some ⟨b, o, none⟩) n mk => cutAt sz b o k n mk
  | u => u
theorem ac8 {xs : List τ.den} {k b : Nat} {rs : List Value} {m : Bool} {H : U} (hT : fO P T e τ) (hk : k <= xs.length) (hg : H.get b = some (.row e rs true m)) : bS P T (.slice (some ⟨b, 0, none⟩) xs.length 0) (some (.int .i64 (k : Nat))) none none H = some (rowFrom (.slice (some ⟨b, 0, none⟩) xs.length 0) τ.size k) := by
  obtain ⟨i, z, mJ, jQ, _⟩ := hT.sl.info
  have e1 : Nat.ble k xs.length = true := by rw [Nat.ble_eq]; exact hk
  have e2 : Nat.ble xs.length xs.length = true := by rw [Nat.ble_eq]; exact Nat.le_refl _
  have e3 : Nat.beq e e = true := Nat.beq_refl _; have e4 : Nat.beq 0 1 = false := rfl; have e5 : Nat.beq 0 0 = true := rfl; have h0 : (0 : Int) <= (k : Nat) := Int.natCast_nonneg _
  have mB : l5 e b k 0 H = 0 := by
    unfold l5; rw [hg]; cases Nat.beq k 0 <;> simp [e3, e5]
  simp only [bS, hT.sl.sl, mJ, cR, if_pos h0, Int.toNat_natCast, e1, e2, e4, Bool.and_self, cond_true, cond_false, mB, jQ, rowFrom]
theorem cJ.alB {xs : List τ.den} {k : Nat} {lo : Operand} (hx : aS fl x = some (.raw w)) (hl : aS fl lo = some (.v (.int .i64) ((k : Nat) : Int))) (hm : (w, Cell.row e τ xs) ∈ σ) (hT : fO P T e τ) (h0 : 0 < xs.length) (hk : k <= xs.length) : cJ P fl σ (.slice T x (some lo) none none) (.raw (rowFrom w τ.size k)) :=
  ⟨rfl, fun h S t hs hc => by
    have h1 : aB t x = w := hs x (by simp [Op.operands]) _ hx; have h2 := aE.int (hs lo (by simp [Op.operands]) _ hl); rcases hc _ hm with ⟨_, rfl⟩ | ⟨b, rs, m, h3, h4, h5, h6⟩
    . simp at h0
    have hw : w = _ := h3; refine ⟨_, rfl, fun H hH _ _ _ _ _ => ?_⟩; show (bS P T (aB t x) (some (aB t lo)) none none H).map _ = _
    rw [h1, h2, hw, ac8 hT hk (hH _ _ h5)]; rfl⟩
theorem afZ {xs : List τ.den} {k b : Nat} (hk : k < xs.length) : rowFrom (.slice (some ⟨b, 0, none⟩) xs.length 0) τ.size k = .slice (some ⟨b, 0 + k * τ.size, none⟩) (xs.length - k) 0 := by
  have e1 : Nat.blt k xs.length = true := by show Nat.ble (k + 1) xs.length = true; rw [Nat.ble_eq]; exact hk
  simp [rowFrom, cutAt, e1]
theorem gV.aiG {γ : aR} {f : FuncId} {args : List PV} {fn : Func} {c : Code} {r : PV} (kF : P.funcs[f]? = some fn) (hc : fn.body = some c) (ho : ∀ us h, orc f us h = none) (hn : (Nat.blt 4000 fn.ntmps || Nat.blt fn.ntmps args.length) = false)
    (hb : VC P orc none c fn.ntmps (pI 0 args) γ (aW P fn r)) : gV P orc f args γ (fun r' g => r' = r /\ g = []) := fun h S us bZ hS eP kS B0 ha => by
  have hl := ha.len
  have s7 : Nat.blt 4000 fn.ntmps = false /\ Nat.blt fn.ntmps args.length = false := by simpa using hn
  have n3 := iG s7.1; have n4 := iG s7.2; have pY : bA (entry h) (own γ ++ S) args us := bA.nx (h := h) (h' := entry h) (fun _ _ a b => ⟨a, b⟩) ha
  have I0 : Iv (entry h) (own γ) S (entry h) γ (iI .leaf 0 us) [] (pI 0 args) := {
    ok := bZ
    s0 := hS
    iH := cI.refl _ _
    cells := fun c hc => (eP c hc).aV (fun _ _ => rfl) (fun _ _ a b => ⟨a, b⟩) fun b hb => List.mem_append_left _ (List.mem_flatMap.2 ⟨c, hc, hb⟩)
    new := fun b hb => ⟨.inl hb, B0 b hb⟩
    apart := kS
    mark := fun d hd => by cases hd
    marks := List.nodup_nil
    aJ := oR pY (by omega) }
  refine qW.enter kF hc (ho us h) (by rw [hl]; exact hn) ((hb (entry h) (own γ) S _ (entry h) [] I0).mono fun e fr h1 hq => ?_); obtain ⟨_, eS, σ', I, he, ps, FJ, rfl⟩ := hq; obtain ⟨h2, d1, d2, d3⟩ := sH I.marks fun d hd => (I.mark d hd).2
  have iK : ∀ b o, h1.get b = some o -> o ≠ .iP -> h2.get b = some o := fun b o hg cA => by
    rw [d3 b (fun hm => cA (by have := (I.mark b hm).2; rw [hg] at this; exact Option.some.inj this))]; exact hg
  have a2 : cI (entry h) h2 (own γ) := I.iH.trans d2 fun i hi => .inr (I.mark i hi).1; have hN : qD h1 S h2 S := fun b _ hg cA uI => ⟨iK b _ hg cA, uI⟩; obtain ⟨uN, e1, e2⟩ := FJ.ok I.lc iK hN; have nF := KW e2; refine ⟨he, h2, uN, d1, e1, ?_⟩; unfold leftOf
  cases pV : (af (gS uN) && Nat.ble h.next h2.low) with
  | true => exact ⟨_, [], ⟨rfl, rfl⟩, ⟨cI.refl _ _, fun b hb => (by cases hb), List.nodup_nil, fun c hc => (by cases hc)⟩, nF.FI (aQ pV).1⟩
  | false =>
    refine ⟨_, [], ⟨rfl, rfl⟩, ⟨⟨a2.next, a2.get, fun x => a2.ok x, fun e h3 h4 h5 => Nat.le_min.2 ⟨h3, a2.low e (Nat.le_trans h4 (Nat.le_refl _)) h4 h5⟩, fun b hb => ?_, Nat.min_le_left _ _⟩, fun b hb => (by cases hb), List.nodup_nil, fun c hc => (by cases hc)⟩, aH.nx (h := h2) (h' := { next := h2.next, low := min h.low h2.low, aA := h2.aA }) (fun _ _ a b => ⟨a, b⟩) nF⟩; rcases a2.chg b hb with h3 | h3
    . exact .inl h3
    exact .inr (Nat.le_trans (Nat.min_le_right _ _) h3)
section
variable {α : Type} [DecidableEq α] {dd : α} {xs : List α}
end
end Go.Fs
namespace Go.Fs
variable {α : Type}
structure ap2 (lt : α -> α -> Bool) : Prop where
  asym : ∀ a b, lt a b = true -> lt b a = false
  neg : ∀ a b c, lt a b = false -> lt b c = false -> lt a c = false
variable {lt : α -> α -> Bool}
def eqv (lt : α -> α -> Bool) (a b : α) : Bool := !lt a b && !lt b a
def aiH (lt : α -> α -> Bool) (xs ys : List α) : Prop := ∀ a, xs.filter (eqv lt a) = ys.filter (eqv lt a)
variable {d : α}
abbrev at_ (xs : List α) (i : Nat) (d : α) : α := xs.getD i d
structure Seg (lt : α -> α -> Bool) (xs ys : List α) (a b : Nat) : Prop where
  len : ys.length = xs.length
  lo : ys.take a = xs.take a
  hi : ys.drop b = xs.drop b
  same : aiH lt xs ys
theorem three (xs : List α) {a b : Nat} (h : a <= b) : xs = xs.take a ++ ((xs.take b).drop a ++ xs.drop b) := by
  conv => lhs; rw [<- List.take_append_drop b xs]
  rw [<- List.append_assoc]; congr 1
  conv => lhs; rw [<- List.take_append_drop a (xs.take b)]
  rw [List.take_take, Nat.min_eq_left h]
structure ap3 (lt : α -> α -> Bool) (d : α) (ys : List α) (a j i : Nat) : Prop where
  srt : ∀ p q, a <= p -> p < q -> q <= i -> q ≠ j -> p ≠ j -> lt (ys.getD q d) (ys.getD p d) = false
  less : ∀ q, j < q -> q <= i -> lt (ys.getD j d) (ys.getD q d) = true
end Go.Fs
namespace Go.Fs
variable {α : Type} {lt : α -> α -> Bool} {d : α} {ys : List α} {a b m n s e i j k : Nat}
theorem four (h1 : s <= m) (h2 : m <= e) : ys = ys.take s ++ ((ys.drop s).take (m - s) ++ ((ys.drop m).take (e - m) ++ ys.drop e)) := by
  conv => lhs; rw [<- List.take_append_drop s ys, <- List.take_append_drop (m - s) (ys.drop s), List.drop_drop, show s + (m - s) = m by omega, <- List.take_append_drop (e - m) (ys.drop m), List.drop_drop, show m + (e - m) = e by omega]
structure Cut (lt : α -> α -> Bool) (d : α) (ys : List α) (a m b s e : Nat) : Prop where
  le : s <= m /\ m <= e /\ a <= s /\ e <= b
  lo : a < s -> e < b -> lt (ys.getD e d) (ys.getD (s - 1) d) = false
  hi : s < m -> m < e -> lt (ys.getD (e - 1) d) (ys.getD s d) = true
end Go.Fs
namespace Go.Fs
variable {P : Program} {orc : FuncId -> List Value -> U -> Option (Value × U)} {h h' h0 h1 h2 : U} {S S' S0 B G : List Nat} {σ σ' nW : aR} {t t' : Tr} {ms : List Nat} {fl : VL} {ops : Array Oper} {n i mem : Nat} {l : List Oper} {K : VL -> aR -> Prop} {Q : Ex -> VL -> aR -> Prop}
  {d : Tmp} {ty : TypeId} {pos : String} {after : Array Edge} {op : Op} {v pv : PV} {g : Option (Nat × Bool)} {x y z : Operand} {T T' e : TypeId} {τ dC : Ty} {w : Value}
theorem aI.LL {p q : Int} (hx : aS fl x = some (.v (.int .u64) p)) (hy : aS fl y = some (.v (.int .u64) q)) (hq : 0 <= q /\ q <= 64) : aI P fl σ (.binOp .shr T x y T') (.v (.int .u64) (p.fdiv (2 ^ q.toNat))) :=
  .rO hx hy (u := .int .u64 (p.fdiv (2 ^ q.toNat))) (by have this : min q.toNat IntKind.u64.bits = q.toNat := Nat.min_eq_left (show q.toNat <= 64 by omega); show (aD P (Op.shift .shr .u64 p .u64 q)).bind _ = _; unfold Op.shift; rw [if_neg (by omega)]; simp only [this]; rfl) fun h S => aE.ofInt _ _
end Go.Fs
namespace Go.Fs
variable {P : Program} {orc : FuncId -> List Value -> U -> Option (Value × U)} {aY : Option Nat} {h h' h0 h1 h2 : U} {S S' S0 B G : List Nat} {σ σ' nW : aR} {t t' : Tr} {ms : List Nat} {fl : VL} {ops : Array Oper} {n i mem : Nat} {l : List Oper} {K : VL -> aR -> Prop} {Q : Ex -> VL -> aR -> Prop}
  {d : Tmp} {ty : TypeId} {pos : String} {after : Array Edge} {op : Op} {v pv : PV} {g : Option (Nat × Bool)} {x y z : Operand} {T T' e : TypeId} {τ dC : Ty} {w : Value}
theorem VC.aaE {c : Code} {xs : List τ.den} {k : Nat} (hk : xs.length = k) (hx : VC P orc aY c n fl ((w, .row e τ xs) :: σ) Q) : VC P orc aY c n fl ((w, .cap e k τ xs) :: σ) Q := fun h0 G S0 t h ms I => by
  refine hx h0 G S0 t h ms { I with cells := fun c hc => ?_, new := I.new, apart := I.apart, aJ := I.aJ }; rcases List.mem_cons.1 hc with rfl | hc
  . obtain ⟨b, rs, m, h1, h2, h3, h4, h5, h6⟩ := I.cells _ List.mem_cons_self; subst hk; exact .inr ⟨b, rs, m, h1, h2, h3, by rwa [List.take_of_length_le (Nat.le_of_eq h4)] at h6⟩
  exact I.cells c (List.mem_cons_of_mem _ hc)
theorem VC.aaF {c : Code} (e : TypeId) (τ : Ty) (hx : VC P orc aY c n fl ((.slice none 0 0, .row e τ []) :: σ) Q) : VC P orc aY c n fl σ Q := fun h0 G S0 t h ms I => by
  refine hx h0 G S0 t h ms { I with cells := fun c hc => ?_, new := I.new, apart := I.apart, aJ := I.aJ }; rcases List.mem_cons.1 hc with rfl | hc
  . exact .inl ⟨rfl, rfl⟩
  exact I.cells c hc
theorem k9.cellsOf {v : Value} {ys : List τ.den} (hv : k9 h S τ v ys) (hp : 0 < τ.size) : mF v = some ys.length /\ ∃ vs, Fs.cellsOf τ.size ys.length v h = some vs /\ bM h S τ vs ys := by
  rcases hv with ⟨rfl, rfl⟩ | ⟨b, o, mk, rfl, hv⟩
  . exact ⟨rfl, [], rfl, bM.nil⟩
  refine ⟨rfl, ?_⟩
  have e1 : Nat.ble ys.length ys.length = true := by rw [Nat.ble_eq]; exact Nat.le_refl _
  by_cases hz : ys.length = 0
  . obtain rfl := List.eq_nil_of_length_eq_zero hz; refine ⟨[], ?_, bM.nil⟩; simp only [Fs.cellsOf, List.length_nil, Nat.zero_mul]; rfl
  rcases hv with rfl | ⟨h1, e', rs, own, more, h2, h3, h4⟩
  . exact absurd rfl hz
  have e2 : Nat.beq (ys.length * τ.size) 0 = false := eE (Nat.ne_of_gt (Nat.mul_pos (Nat.pos_of_ne_zero hz) hp))
  have e3 : Nat.ble (o + ys.length * τ.size) rs.length = true := by rw [Nat.ble_eq]; exact h3
  refine ⟨(rs.drop o).take (ys.length * τ.size), ?_, ?_, fun i hi => ?_⟩
  . simp only [Fs.cellsOf, e1, cond_true, e2, cond_false, h2, e3]
  . rw [List.length_take, List.length_drop]; omega
  have h9 : (i + 1) * τ.size <= ys.length * τ.size := Nat.mul_le_mul_right _ hi; rw [Nat.add_mul, Nat.one_mul] at h9; have := h4 i hi; rw [List.drop_take, List.take_take, List.drop_drop, Nat.min_eq_left (by omega)]; exact this
theorem cT.alC {xs ys : List τ.den} (hT : fO P T e τ) (hl : ys.length = xs.length) (hx : aS fl x = some (.raw w)) (hy : aS fl y = some (.v (.sl τ) ys)) :
    cT P fl ((w, .row e τ xs) :: σ) (.call { callee := .builtin .copy, args := #[x, y], argTypes := #[T, T'] }) fun v σ' => v = .v (.int .i64) ((ys.length : Nat) : Int) /\ σ' = (w, .row e τ ys) :: σ :=
  ⟨rfl, fun S0 h t L => by
    have h1 : aB t x = w := dL L.aJ hx; have hu := (dL L.aJ hy : aE h _ (.sl τ) (aB t y) ys).sl; obtain ⟨i, z, mJ, jQ, IJ, vD, AQ, BJ, IK⟩ := hT.sl.info; obtain ⟨c1, vs, c2, c3⟩ := hu.cellsOf hT.sl.pos; have xI : Nat.min ys.length xs.length = ys.length := Nat.min_eq_left (Nat.le_of_eq hl); have JR : vs.length = ys.length * τ.size := c3.1; have hvo : vs.all aN = true := bM.kC _ _ c3; rcases L.cells _ List.mem_cons_self with ⟨hw, rfl⟩ | ⟨b, rs, m, h3, h4, h5, h6⟩
    . obtain rfl := List.eq_nil_of_length_eq_zero hl; have KF : w = .slice none 0 0 := hw; obtain rfl := List.eq_nil_of_length_eq_zero (by rw [JR]; simp : vs.length = 0); refine ⟨.int .i64 ((0 : Nat) : Int), h, .v (.int .i64) ((0 : Nat) : Int), _, ⟨rfl, rfl⟩, Made.same L (cI.refl _ _), aE.ofInt _ _, fun _ _ _ _ _ => ?_⟩; show (kA P #[T, T'] (aB t x) (aB t y) h) = _; rw [h1, KF]; have c1' : mF (aB t y) = some 0 := c1; have c2' : Fs.cellsOf τ.size 0 (aB t y) h = some [] := c2; simp only [kA, List.getElem?_toArray, List.getElem?_cons_zero, hT.sl.sl, mJ, c1', show mF (.slice none 0 0) = some 0 from rfl, jQ, show Nat.min 0 0 = 0 from rfl, c2', List.length_nil, Nat.zero_mul]; rfl
    have hw : w = _ := h3
    have pX : dX w = [b] := by rw [hw]; rfl
    have qC := h6.1; have jB : bM h (own ((w, Cell.row e τ xs) :: σ) ++ S0) τ vs ys := c3; by_cases hz : ys.length = 0
    . obtain rfl := List.eq_nil_of_length_eq_zero hz; obtain rfl := List.eq_nil_of_length_eq_zero (by rw [<- hl]; rfl : xs.length = 0); refine ⟨.int .i64 ((0 : Nat) : Int), h, .v (.int .i64) ((0 : Nat) : Int), _, ⟨rfl, rfl⟩, Made.same L (cI.refl _ _), aE.ofInt _ _, fun _ _ _ _ _ => ?_⟩; show (kA P #[T, T'] (aB t x) (aB t y) h) = _; rw [h1, hw]; obtain rfl := List.eq_nil_of_length_eq_zero (by rw [JR]; simp : vs.length = 0); have c1' : mF (aB t y) = some 0 := c1; have c2' : Fs.cellsOf τ.size 0 (aB t y) h = some [] := c2; simp only [kA, List.getElem?_toArray, List.getElem?_cons_zero, hT.sl.sl, mJ, c1', List.length_nil, show ∀ q m, mF (.slice q 0 m) = some 0 from fun _ _ => rfl, jQ, show Nat.min 0 0 = 0 from rfl, c2', Nat.zero_mul]; rfl
    refine ⟨.int .i64 ((ys.length : Nat) : Int), h.set b (.row e vs true m), .v (.int .i64) ((ys.length : Nat) : Int), _, ⟨rfl, rfl⟩, Made.head L (cI.set h5 (by rw [pX]; simp)) (fun b hb => .inl hb) (by rw [pX]; simp) fun hN => ?_, aE.ofInt _ _, fun _ _ _ _ _ => ?_⟩
    . refine .inr ⟨b, _, m, by rw [hl]; exact h3, ?_, by rw [U.cX h5, if_pos rfl], jB.nx hN⟩; rw [cO]; exact List.mem_append_left _ (List.mem_append_left _ (by rw [pX]; simp))
    show (kA P #[T, T'] (aB t x) (aB t y) h) = _; have e2 : Nat.beq (ys.length * τ.size) 0 = false := eE (Nat.ne_of_gt (Nat.mul_pos (Nat.pos_of_ne_zero hz) hT.sl.pos))
    have e3 : Nat.ble (0 + ys.length * τ.size) rs.length = true := by rw [Nat.ble_eq, qC, hl]; omega
    have e4 : Nat.beq vs.length (ys.length * τ.size) = true := by rw [JR]; exact Nat.beq_refl _
    have e5 : bF rs 0 vs = vs := GZ (by rw [JR, qC, hl]); rw [h1, hw]; simp only [kA, List.getElem?_toArray, List.getElem?_cons_zero, hT.sl.sl, mJ, c1, show ∀ q m, mF (.slice q xs.length m) = some xs.length from fun _ _ => rfl, jQ]
    simp only [show Nat.min ys.length xs.length = ys.length from xI, c2, e4, hvo, Bool.and_self, cond_true, e2, cond_false, h5, e3, e5]⟩
theorem J.copy {xs ys : List τ.den} (hx : aS fl x = some (.raw w)) (hy : aS fl y = some (.v (.sl τ) ys)) (hT : fO P T e τ) (hl : ys.length = xs.length) (hk : J P orc ops n l ((d, .v (.int .i64) ((ys.length : Nat) : Int)) :: fl) ((w, .row e τ ys) :: σ) K) (hw : cV ops fl g = some true := by rfl) (hn : (Nat.blt d n && Nat.ble n 4000) = true := by rfl) :
    J P orc ops n (⟨some d, .call { callee := .builtin .copy, args := #[x, y], argTypes := #[T, T'] }, ty, pos, after, g⟩ :: l) fl ((w, .row e τ xs) :: σ) K :=
  J.mk (cT.alC hT hl hx hy) (by rintro _ _ ⟨rfl, rfl⟩; exact hk) hw hn
end Go.Fs
namespace Go.Fs
variable {P : Program} {orc : FuncId -> List Value -> U -> Option (Value × U)} {aY : Option Nat} {h h' h0 h1 h2 : U} {S S' S0 B G : List Nat} {σ σ' nW : aR} {t t' : Tr} {ms : List Nat} {fl : VL} {ops : Array Oper} {n i mem : Nat} {l : List Oper} {K : VL -> aR -> Prop} {Q : Ex -> VL -> aR -> Prop}
  {d : Tmp} {ty : TypeId} {pos : String} {after : Array Edge} {op : Op} {v pv : PV} {g : Option (Nat × Bool)} {x y z : Operand} {T T' e : TypeId} {τ dC : Ty} {w : Value}
inductive B2 : (τ : Ty) -> τ.den -> Nat -> (dC : Ty) -> dC.den -> τ.den -> Prop where
  | o {τ : Ty} {x y : τ.den} : B2 τ x 0 τ y y
  | l {a b : Ty} {x : (Ty.pair a b).den} {k : Nat} {dC : Ty} {y : dC.den} {z : a.den} (hs : B2 a x.1 k dC y z) : B2 (.pair a b) x k dC y (z, x.2)
  | r {a b : Ty} {x : (Ty.pair a b).den} {k k' : Nat} {dC : Ty} {y : dC.den} {z : b.den} (hs : B2 b x.2 k dC y z) (hk : k' = a.size + k := by rfl) : B2 (.pair a b) x k' dC y (x.1, z)
theorem U3 {rs us : List Value} {a : Nat} (h : a + us.length <= rs.length) : (bF rs a us).length = rs.length := by
  unfold bF; rw [List.length_append, List.length_append, List.length_take, List.length_drop]; omega
theorem B2.fits {τ dC : Ty} {x z : τ.den} {y : dC.den} {k : Nat} (hs : B2 τ x k dC y z) : k + dC.size <= τ.size := by
  induction hs with
  | o => omega
  | @l a b x k dC y z hs ih => show _ <= a.size + b.size; omega
  | @r a b x k k' dC y z hs hk ih => show _ <= a.size + b.size; omega
theorem B2.TK {τ dC : Ty} {x z : τ.den} {y : dC.den} {k : Nat} (hs : B2 τ x k dC y z) : ∀ {cs us : List Value}, cG h S τ cs x -> cG h S dC us y -> cG h S τ (bF cs k us) z := by
  induction hs with
  | o =>
    intro cs us hx hy
    rw [GZ (by rw [hx.len, hy.len])]; exact hy
  | @l a b x k dC y z hs ih =>
    intro cs us hx hy; have hf := hs.fits; have XK := hy.len; have hal := hx.1.len; rw [List.length_take] at hal; have h1 := ih hx.1 hy; have h1l := h1.len
    have e : bF cs k us = bF (cs.take a.size) k us ++ cs.drop a.size := by
      unfold bF; rw [List.take_take, Nat.min_eq_left (by omega)]; simp only [List.append_assoc]; have := List.take_append_drop (a.size - (k + us.length)) (cs.drop (k + us.length)); rw [List.drop_drop, show k + us.length + (a.size - (k + us.length)) = a.size by omega] at this; rw [List.drop_take, this]
    rw [e]
    exact ⟨by rw [List.take_left' h1l]; exact h1, by rw [List.drop_left' h1l]; exact hx.2⟩
  | @r a b x k k' dC y z hs hk ih =>
    intro cs us hx hy; subst hk; have hf := hs.fits; have XK := hy.len; have hal := hx.1.len; rw [List.length_take] at hal; have h1 := ih hx.2 hy
    have e : bF cs (a.size + k) us = cs.take a.size ++ bF (cs.drop a.size) k us := by
      unfold bF; rw [List.take_add, List.drop_drop, List.append_assoc, List.append_assoc, List.append_assoc, Nat.add_assoc]
    have hl : (cs.take a.size).length = a.size := by rw [List.length_take]; omega
    rw [e]; exact ⟨by rw [List.take_left' hl]; exact hx.1, by rw [List.drop_left' hl]; exact h1⟩
theorem YA {rs us : List Value} {a k s : Nat} (h1 : k + us.length <= s) (h2 : a + s <= rs.length) : bF rs (a + k) us = bF rs a (bF ((rs.drop a).take s) k us) := by
  have hl : ((rs.drop a).take s).length = s := by rw [List.length_take, List.length_drop]; omega
  have nQ : (bF ((rs.drop a).take s) k us).length = s := by rw [U3 (by omega), hl]
  conv => rhs; unfold bF
  rw [show (((rs.drop a).take s).take k ++ us ++ ((rs.drop a).take s).drop (k + us.length)).length = s from nQ]; unfold bF; rw [List.take_take, Nat.min_eq_left (by omega), List.take_add, List.drop_take, List.drop_drop]; have := List.take_append_drop (s - (k + us.length)) (rs.drop (a + (k + us.length))); rw [List.drop_drop, show a + (k + us.length) + (s - (k + us.length)) = a + s by omega] at this; simp only [List.append_assoc]; rw [this, Nat.add_assoc]
def cellAt (τ : Ty) (rs : List Value) (o : Nat) : Value := if τ.agg then .agg ((rs.drop o).take τ.size).toArray else rs.getD o undef
theorem U4 {own more : Bool} {rs : List Value} {b o : Nat} {y : τ.den} (hT : fU P T τ) (hg : h.get b = some (.row e rs own more)) (hb : o + τ.size <= rs.length) (hr : cG h S τ ((rs.drop o).take τ.size) y) : dD P T (.pointer (some ⟨b, o, none⟩)) h = some (cellAt τ rs o) /\ aE h S τ (cellAt τ rs o) y := by
  obtain ⟨i, hi, hs⟩ := hT.info; obtain ⟨d, hd, ha⟩ := hT.agg; simp only [dD, cellAt, hg, hd, hi, ha, hs]
  cases sR : τ.agg with
  | true =>
    simp only [if_true, hb]
    refine ⟨trivial, by simpa [fZ] using sR.symm, by simpa [Value.cells] using hr⟩
  | false =>
    have h1 := Ty.qA sR; rw [h1] at hb hr
    have ho : o < rs.length := by omega
    rw [take_one ho] at hr; obtain ⟨u, hu, hv⟩ := hr.one sR; simp only [List.cons.injEq, and_true] at hu; simp only [Bool.false_eq_true, if_false, List.getD_eq_getElem?_getD, List.getElem?_eq_getElem ho, Option.getD_some]; exact ⟨trivial, by rw [hu]; exact hv⟩
theorem aI.faE {s : TypeId} {f k j : Nat} {xs : List τ.den} (hm : (w, Cell.row e τ xs) ∈ σ) (hj : j < xs.length) (hb : eI P s f k = true := by kernel_rfl) (hx : aS fl x = some (.raw (fS w τ.size j)) := by rfl) : aI P fl σ (.fieldAddr s x f) (.raw (oN (fS w τ.size j) k)) :=
  ⟨rfl, fun h S t hs hc => by
    have h1 : aB t x = fS w τ.size j := hs x (by simp [Op.operands]) _ hx; refine ⟨_, rfl, fun _ _ _ _ _ H => ?_⟩; rcases hc _ hm with ⟨_, rfl⟩ | ⟨b, rs, m, h3, h4, h5, h6⟩
    . simp at hj
    have hw : w = _ := h3; have AO : (j + 1) * τ.size <= xs.length * τ.size := Nat.mul_le_mul_right _ hj; rw [Nat.add_mul, Nat.one_mul] at AO; have qC := h6.1; have hp : mI h [] .unit (fS w τ.size j) () := ⟨b, 0 + j * τ.size, e, rs, true, m, by rw [hw]; rfl, by simp, h5, by show 0 + j * τ.size + 0 <= _; omega, by simp [cG, Ty.size]⟩; show (aD P (Instr.fieldAt s (aB t x) f)).map _ = _
    rw [h1, hp.fa hb]; rfl⟩
theorem cJ.ldE {j k : Nat} {xs : List τ.den} {dy : dC.den} (hj : j < xs.length) (hs : Sub τ xs[j] k dC dy) (hx : aS fl x = some (.raw (oN (fS w τ.size j) k))) (hm : (w, Cell.row e τ xs) ∈ σ) (hT : fU P T dC) : cJ P fl σ (.load T x) (.v dC dy) :=
  ⟨rfl, fun h S t vB hc => by
    have h1 : aB t x = oN (fS w τ.size j) k := vB x (by simp [Op.operands]) _ hx; rcases hc _ hm with ⟨_, rfl⟩ | ⟨b, rs, m, h3, h4, h5, h6⟩
    . simp at hj
    have hw : w = _ := h3; obtain ⟨q1, q2⟩ := hs.TK (h6.2 j hj); have AO : (j + 1) * τ.size <= xs.length * τ.size := Nat.mul_le_mul_right _ hj; rw [Nat.add_mul, Nat.one_mul] at AO; have qC := h6.1; rw [List.length_take, List.length_drop] at q1; rw [List.drop_take, List.take_take, List.drop_drop, Nat.min_eq_left (by omega)] at q2; refine ⟨cellAt dC rs (j * τ.size + k), (U4 hT h5 (by omega) q2).2, fun H hH _ _ _ _ _ => ?_⟩; have q3 : cG H S dC ((rs.drop (j * τ.size + k)).take dC.size) dy := q2.nx fun b o hg hb => ⟨hH b o hg, hb⟩; show (dD P T (aB t x) H).map _ = _; rw [h1, hw]; show (dD P T (.pointer (some ⟨b, 0 + j * τ.size + k, none⟩)) H).map _ = _
    rw [Nat.zero_add, (U4 hT (hH b _ h5) (by omega) q3).1]; rfl⟩
theorem cT.alD {xs : List τ.den} {dy : dC.den} {dz : τ.den} {j k : Nat} (hj : j < xs.length) (hT : fU P T dC) (hs : B2 τ xs[j] k dC dy dz) (hx : aS fl x = some (.raw (oN (fS w τ.size j) k))) (hy : aS fl y = some (.v dC dy)) :
    cT P fl ((w, .row e τ xs) :: σ) (.store T x y) fun v σ' => v = .raw undef /\ σ' = (w, .row e τ (xs.set j dz)) :: σ :=
  ⟨rfl, fun S0 h t L => by
    have h1 : aB t x = oN (fS w τ.size j) k := dL L.aJ hx; have hu := (dL L.aJ hy : aE h _ dC (aB t y) dy); rcases L.cells _ List.mem_cons_self with ⟨_, rfl⟩ | ⟨b, rs, m, h3, h4, h5, h6⟩
    . simp at hj
    have hw : w = _ := h3; have AO : (j + 1) * τ.size <= xs.length * τ.size := Nat.mul_le_mul_right _ hj; rw [Nat.add_mul, Nat.one_mul] at AO; have qC := h6.1; obtain ⟨i, hi, dR⟩ := hT.info; have FF : (aB t y).cells.toList.length = dC.size := hu.2.len
    have pX : dX w = [b] := by rw [hw]; rfl
    have hf := hs.fits; have jB := KQ h6 hj (hs.TK (h6.2 j hj) hu.2); rw [<- YA (by omega) (by omega)] at jB; refine ⟨undef, h.set b (.row e (bF rs (j * τ.size + k) (aB t y).cells.toList) true m), .raw undef, _, ⟨rfl, rfl⟩, Made.head L (cI.set h5 (by rw [pX]; simp)) (fun b hb => .inl hb) (by rw [pX]; simp) fun hN => ?_, rfl, fun _ _ _ _ _ => ?_⟩
    . refine .inr ⟨b, _, m, by rw [List.length_set]; exact h3, ?_, by rw [U.cX h5, if_pos rfl], jB.nx hN⟩; rw [cO]; exact List.mem_append_left _ (List.mem_append_left _ (by rw [pX]; simp))
    show (jJ P T (aB t x) (aB t y) h).map _ = _
    have : jJ P T (aB t x) (aB t y) h = some (h.set b (.row e (bF rs (j * τ.size + k) (aB t y).cells.toList) true m)) := by
      rw [h1, hw]; simp only [jJ, fS, oN, h5, hi, dR, FF, hu.2.kC, Nat.zero_add]; rw [if_pos ⟨trivial, by omega, trivial⟩]
    rw [this]; rfl⟩
end Go.Fs
namespace Go.Fs
variable {P : Program} {orc : FuncId -> List Value -> U -> Option (Value × U)} {aY : Option Nat} {h h' h0 h1 h2 : U} {S S' S0 B G : List Nat} {σ σ' nW : aR} {t t' : Tr} {ms : List Nat} {fl : VL} {ops : Array Oper} {n i mem : Nat} {l : List Oper} {K : VL -> aR -> Prop} {Q : Ex -> VL -> aR -> Prop}
  {d : Tmp} {ty : TypeId} {pos : String} {after : Array Edge} {op : Op} {v pv : PV} {g : Option (Nat × Bool)} {x y z : Operand} {T T' e : TypeId} {τ dC : Ty} {w : Value}
end Go.Fs
namespace Go.Fs
variable {P : Program} {orc : FuncId -> List Value -> U -> Option (Value × U)} {aY : Option Nat} {h h' h0 h1 h2 : U} {S S' S0 B G : List Nat} {σ σ' nW : aR} {t t' : Tr} {ms : List Nat} {fl : VL} {ops : Array Oper} {n i mem : Nat} {l : List Oper} {K : VL -> aR -> Prop} {Q : Ex -> VL -> aR -> Prop}
  {d : Tmp} {ty : TypeId} {pos : String} {after : Array Edge} {op : Op} {v pv : PV} {g : Option (Nat × Bool)} {x y z : Operand} {T T' e : TypeId} {τ dC : Ty} {w : Value} {ρ : aR} {bs nw : List Nat} {tl : Bool}
end Go.Fs
namespace Go.Fs
variable {P : Program} {O : FuncId -> List Value -> U -> Option (Value × U)} {h h' : U} {S : List Nat}
end Go.Fs
namespace Go.Fs
open Go.RowKit (Below)
open Go.Sort Go.Proofs
def Ty.DV : Ty -> Bool
  | .int _ => true
  | .bool => true
  | .str => true
  | .unit => true
  | .pair a b => a.DV && b.DV
  | _ => false
def HF : (τ : Ty) -> List Value -> Option (τ.den × List Value)
  | .int k, vs => match vs with
    | .int k' n :: r => if k' = k then some (n, r) else none
    | _ => none
  | .bool, vs => match vs with
    | .bool b :: r => some (b, r)
    | _ => none
  | .str, vs => match vs with
    | .string s :: r => some (s, r)
    | _ => none
  | .unit, vs => some ((), vs)
  | .pair a b, vs => match HF a vs with
    | some (x, r) => match HF b r with
      | some (y, r') => some ((x, y), r')
      | none => none
    | none => none
  | .aO _, _ => none
  | .sl _, _ => none
  | .mp _ _, _ => none
  | .fn, _ => none
  | .kS, _ => none
theorem ac9 : ∀ {τ : Ty} {vs r : List Value} {x : τ.den}, HF τ vs = some (x, r) -> vs = τ.lS x ++ r := by
  intro τ
  induction τ with
  | int k =>
    intro vs r x h; unfold HF at h; split at h
    . rename_i k' n r'; split at h
      . rename_i hk; subst hk; cases h; rfl
      cases h
    cases h
  | bool =>
    intro vs r x h; unfold HF at h; split at h
    . cases h; rfl
    cases h
  | str =>
    intro vs r x h; unfold HF at h; split at h
    . cases h; rfl
    cases h
  | unit => intro vs r x h; cases h; rfl
  | pair a b wH wI =>
    intro vs r x h; unfold HF at h; split at h
    . rename_i x1 r1 h1; split at h
      . rename_i y1 r2 h2; cases h; rw [wH h1, wI h2]; show _ = (a.lS x1 ++ b.lS y1) ++ r; rw [List.append_assoc]
      cases h
    cases h
  | aO k => intro vs r x h; cases h
  | sl e _ => intro vs r x h; cases h
  | mp a b _ _ => intro vs r x h; cases h
  | fn => intro vs r x h; cases h
  | kS => intro vs r x h; cases h
theorem YB : ∀ {τ : Ty} (x : τ.den), τ.DV = true -> (τ.lS x).length = τ.size := by
  intro τ
  induction τ with
  | int k => intro x _; rfl
  | bool => intro x _; rfl
  | str => intro x _; rfl
  | unit => intro x _; rfl
  | pair a b wH wI =>
    intro x h; obtain ⟨h1, h2⟩ := aQ h; show (a.lS x.1 ++ b.lS x.2).length = a.size + b.size
    rw [List.length_append, wH _ h1, wI _ h2]
  | aO k => intro x h; cases h
  | sl e _ => intro x h; cases h
  | mp a b _ _ => intro x h; cases h
  | fn => intro x h; cases h
  | kS => intro x h; cases h
section
variable {τ : Ty}
abbrev LM (τ : Ty) (xs : List τ.den) : List Value := xs.flatMap τ.lS
def U5 (τ : Ty) : Nat -> List Value -> Option (List τ.den)
  | _, [] => some []
  | 0, _ :: _ => none
  | m + 1, v :: vs => match HF τ (v :: vs) with
    | some (x, r) => match U5 τ m r with
      | some xs => some (x :: xs)
      | none => none
    | none => none
theorem acA : ∀ {m : Nat} {vs : List Value} {xs : List τ.den}, U5 τ m vs = some xs -> vs = LM τ xs
  | m, [], xs, h => by
    cases m <;> (unfold U5 at h; cases h; rfl)
  | 0, v :: vs, xs, h => by unfold U5 at h; cases h
  | m + 1, v :: vs, xs, h => by
    unfold U5 at h; split at h
    . rename_i x r h1; split at h
      . rename_i ys h2; cases h; rw [ac9 h1, acA h2]; rfl
      cases h
    cases h
theorem acB (hp : τ.DV = true) : ∀ (xs : List τ.den), (LM τ xs).length = xs.length * τ.size
  | [] => by simp
  | x :: r => by
    have e : LM τ (x :: r) = τ.lS x ++ LM τ r := rfl; rw [e, List.length_append, acB hp r, YB x hp, List.length_cons, Nat.add_mul]; omega
theorem ag0 : ∀ (xs : List τ.den), (LM τ xs).all eD = true
  | [] => rfl
  | x :: r => by
    have e : LM τ (x :: r) = τ.lS x ++ LM τ r := rfl; rw [e, List.all_append, ag0 r, sG]; rfl
variable {cf : τ.den -> τ.den -> Int}
local instance ao6 : Inhabited τ.den := ⟨wP τ⟩
def BP (cf : τ.den -> τ.den -> Int) (xs : List τ.den) : List τ.den := (pdq (ltOf cf) xs.toArray 0 xs.toArray.size (Lib.bitLen xs.toArray.size) true true).toList
theorem yS (sw : SWO (ltOf cf)) (xs : List τ.den) : PermIn 0 xs.toArray.size xs.toArray (BP cf xs).toArray /\ SortedIn (ltOf cf) 0 xs.toArray.size (BP cf xs).toArray := by
  have := pdq_sorts (ltOf cf) sw xs.toArray 0 xs.toArray.size (Lib.bitLen xs.toArray.size) true true (Nat.zero_le _) (Nat.le_refl _) (Or.inl rfl); exact this
theorem LN (sw : SWO (ltOf cf)) (xs : List τ.den) : (BP cf xs).length = xs.length := by
  have := (yS sw xs).1.1; simpa using this
theorem U6 (sw : SWO (ltOf cf)) (xs : List τ.den) : (BP cf xs).Perm xs := by
  have h := (yS sw xs).1.2.2; have h2 := LN sw xs
  have h3 : ((BP cf xs).take xs.length).Perm xs := by simpa using h
  rwa [List.take_of_length_le (by omega)] at h3
theorem NJ (sw : SWO (ltOf cf)) (xs : List τ.den) : (BP cf xs).Pairwise fun a b => ltOf cf b a = false := by
  rw [List.pairwise_iff_getElem]; intro i j hi hj SY; have h := (yS sw xs).2 i j (Nat.zero_le _) SY (by simpa [LN sw] using hj); simpa [hi, hj] using h
variable {P : Program} {O : FuncId -> List Value -> U -> Option (Value × U)} {h h' : U} {S : List Nat}
end
end Go.Fs
