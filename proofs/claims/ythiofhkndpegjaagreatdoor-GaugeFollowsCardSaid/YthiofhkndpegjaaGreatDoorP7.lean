/- Parts of the proof: an evaluator of the model, what it is sound for, and contracts of functions. No condition. -/
import Derived.Test.YthiofhkndpegjaaGreatDoorP5
import Derived.Test.YthiofhkndpegjaaGreatDoorP6
set_option linter.all false
namespace Go.Fs
section
variable {P : Program} {fl : VL} {σ : aR} {T T' : TypeId} {x y : Operand} {p q : Int}
theorem aI.UZ (hx : aS fl x = some (.v (.int .u64) p)) (hy : aS fl y = some (.v (.int .u64) q)) (h0 : 0 <= p * q /\ p * q < 18446744073709551616) : aI P fl σ (.binOp .mul T x y T') (.v (.int .u64) (p * q)) :=
  .rO hx hy (u := .int .u64 (IntKind.u64.wrap (p * q))) rfl fun h S => by rw [sZ h0]; exact aE.ofInt _ _
theorem aI.aaK (hx : aS fl x = some (.v (.int .u64) p)) (hy : aS fl y = some (.v (.int .u64) q)) (h0 : 0 <= p + q /\ p + q < 18446744073709551616) : aI P fl σ (.binOp .add T x y T') (.v (.int .u64) (p + q)) :=
  .rO hx hy (u := .int .u64 (IntKind.u64.wrap (p + q))) rfl fun h S => by rw [sZ h0]; exact aE.ofInt _ _
theorem acX {p : Int} (h : 0 <= p /\ p < 4294967296) : ((BitVec.ofInt 64 p &&& BitVec.ofInt 64 4294967295).toNat : Int) = p := by
  obtain ⟨n, rfl⟩ := Int.eq_ofNat_of_zero_le h.1
  have hn : n < 2 ^ 32 := by have := h.2; omega
  have e1 : (BitVec.ofInt 64 (n : Int)).toNat = n := by
    rw [BitVec.toNat_ofInt]; omega
  have e2 : (BitVec.ofInt 64 4294967295).toNat = 2 ^ 32 - 1 := by decide
  rw [BitVec.toNat_and, e1, e2, Nat.and_two_pow_sub_one_eq_mod, Nat.mod_eq_of_lt hn]
theorem aI.andM (hx : aS fl x = some (.v (.int .u64) p)) (hy : aS fl y = some (.v (.int .u64) 4294967295)) (h0 : 0 <= p /\ p < 4294967296) : aI P fl σ (.binOp .and T x y T') (.v (.int .u64) p) :=
  .rO hx hy (u := .int .u64 (IntKind.u64.wrap ((BitVec.ofInt 64 p &&& BitVec.ofInt 64 4294967295).toNat : Int))) rfl fun h S => by rw [acX h0, sZ ⟨h0.1, by omega⟩]; exact aE.ofInt _ _
theorem LZ {p : Int} (h : 0 <= p /\ p < 4294967296) : p.fdiv (2 ^ (32 : Int).toNat) = 0 := by
  have e : (2 ^ (32 : Int).toNat : Int) = 4294967296 := by decide
  rw [e, Int.fdiv_eq_ediv_of_nonneg _ (by decide)]; omega
end
variable {P : Program} {orc : FuncId -> List Value -> U -> Option (Value × U)} {h h' h0 h1 h2 : U} {S S' S0 B G : List Nat} {σ σ' nW : aR} {t t' : Tr} {ms : List Nat} {fl : VL} {ops : Array Oper} {n i mem : Nat} {l : List Oper} {K : VL -> aR -> Prop}
  {d : Tmp} {ty : TypeId} {pos : String} {after : Array Edge} {op : Op} {v pv : PV} {g : Option (Nat × Bool)} {x y z : Operand} {T T' e : TypeId} {τ dC : Ty} {w : Value}
theorem bM.agL {rs : List Value} {xs : List τ.den} {k : Nat} (he : bM h S τ rs xs) (hk : k <= xs.length) : bM h S τ (rs.take (k * τ.size)) (xs.take k) := by
  have qC := he.1; have yE : k * τ.size <= xs.length * τ.size := Nat.mul_le_mul_right _ hk; refine ⟨by rw [List.length_take, List.length_take, Nat.min_eq_left hk, Nat.min_eq_left (by omega)], fun i hi => ?_⟩
  have mJ : i < k := by rw [List.length_take] at hi; omega
  have h2 : (i + 1) * τ.size <= k * τ.size := Nat.mul_le_mul_right _ mJ; rw [Nat.add_mul, Nat.one_mul] at h2; rw [List.drop_take, List.take_take, Nat.min_eq_left (by omega), List.getElem_take]; exact he.2 i (by omega)
theorem bM.alG {rs : List Value} {xs : List τ.den} {k : Nat} (he : bM h S τ rs xs) : bM h S τ (rs.drop (k * τ.size)) (xs.drop k) := by
  have qC := he.1; refine ⟨by rw [List.length_drop, List.length_drop, qC, Nat.sub_mul], fun i hi => ?_⟩; rw [List.length_drop] at hi; rw [List.drop_drop, List.getElem_drop, <- Nat.add_mul]; exact he.2 (k + i) (by omega)
theorem bM.agM {rs vs : List Value} {xs ys : List τ.den} {k : Nat} (he : bM h S τ rs xs) (hv : bM h S τ vs ys) (hk : k + ys.length <= xs.length) : bM h S τ (bF rs (k * τ.size) vs) (xs.take k ++ ys ++ xs.drop (k + ys.length)) := by
  unfold bF; rw [hv.1, <- Nat.add_mul]; exact ((he.agL (by omega)).append hv).append he.alG
theorem E1 {rs vs : List Value} {xs ys : List τ.den} {k b : Nat} {m : Bool} (L : Lc S0 h ((w, .row e τ xs) :: σ) t fl) (h3 : w = .slice (some ⟨b, 0, none⟩) xs.length 0) (h4 : b ∈ own ((w, Cell.row e τ xs) :: σ)) (h5 : h.get b = some (.row e rs true m)) (h6 : bM h (own ((w, Cell.row e τ xs) :: σ) ++ S0) τ rs xs) (hv : bM h (own ((w, Cell.row e τ xs) :: σ) ++ S0) τ vs ys) (hk : k + ys.length <= xs.length) :
    Made S0 h (h.set b (.row e (bF rs (k * τ.size) vs) true m)) ((w, .row e τ xs) :: σ) ((w, .row e τ (xs.take k ++ ys ++ xs.drop (k + ys.length))) :: σ) := by
  have pX : dX w = [b] := by rw [h3]; rfl
  refine Made.head L (cI.set h5 (by rw [pX]; simp)) (fun b hb => .inl hb) (by rw [pX]; simp) fun hN => ?_; refine .inr ⟨b, _, m, ?_, ?_, by rw [U.cX h5, if_pos rfl], (h6.nx hN).agM (hv.nx hN) hk⟩
  . rw [List.length_append, List.length_append, List.length_take, List.length_drop, Nat.min_eq_left (by omega), show k + ys.length + (xs.length - (k + ys.length)) = xs.length by omega]; exact h3
  rw [cO]; exact List.mem_append_left _ (List.mem_append_left _ (by rw [pX]; simp))
theorem cT.YU {xs ys : List τ.den} (hT : fO P T e τ) (hl : ys.length <= xs.length) (hp : 0 < ys.length) (hx : aS fl x = some (.raw w)) (hy : aS fl y = some (.v (.sl τ) ys)) :
    cT P fl ((w, .row e τ xs) :: σ) (.call { callee := .builtin .copy, args := #[x, y], argTypes := #[T, T'] }) fun v σ' => v = .v (.int .i64) ((ys.length : Nat) : Int) /\ σ' = (w, .row e τ (xs.take 0 ++ ys ++ xs.drop (0 + ys.length))) :: σ :=
  ⟨rfl, fun S0 h t L => by
    have h1 : aB t x = w := dL L.aJ hx; have hu := (dL L.aJ hy : aE h _ (.sl τ) (aB t y) ys).sl; obtain ⟨i, z, mJ, jQ, IJ, vD, AQ, BJ, IK⟩ := hT.sl.info; obtain ⟨c1, vs, c2, c3⟩ := hu.cellsOf hT.sl.pos; have xI : Nat.min ys.length xs.length = ys.length := Nat.min_eq_left hl; have JR : vs.length = ys.length * τ.size := c3.1; have hvo : vs.all aN = true := bM.kC _ _ c3; rcases L.cells _ List.mem_cons_self with ⟨_, rfl⟩ | ⟨b, rs, m, h3, h4, h5, h6⟩
    . have rX : ys.length <= 0 := hl; omega
    have hw : w = _ := h3; have qC := h6.1; have hM := E1 (k := 0) L h3 (by rw [cO]; exact List.mem_append_left _ (by rw [hw]; exact List.mem_cons_self)) h5 h6 c3 (by omega); rw [Nat.zero_mul] at hM; refine ⟨.int .i64 ((ys.length : Nat) : Int), h.set b (.row e (bF rs 0 vs) true m), .v (.int .i64) ((ys.length : Nat) : Int), _, ⟨rfl, rfl⟩, hM, aE.ofInt _ _, fun _ _ _ _ _ => ?_⟩; show (kA P #[T, T'] (aB t x) (aB t y) h) = _; have e2 : Nat.beq (ys.length * τ.size) 0 = false := eE (Nat.ne_of_gt (Nat.mul_pos hp hT.sl.pos))
    have e3 : Nat.ble (0 + ys.length * τ.size) rs.length = true := by rw [Nat.ble_eq, qC, Nat.zero_add]; exact Nat.mul_le_mul_right _ hl
    have e4 : Nat.beq vs.length (ys.length * τ.size) = true := by rw [JR]; exact Nat.beq_refl _
    rw [h1, hw]; simp only [kA, List.getElem?_toArray, List.getElem?_cons_zero, hT.sl.sl, mJ, c1, show ∀ q m, mF (.slice q xs.length m) = some xs.length from fun _ _ => rfl, jQ]
    simp only [show Nat.min ys.length xs.length = ys.length from xI, c2, e4, hvo, Bool.and_self, cond_true, e2, cond_false, h5, e3]⟩
theorem J.YU {xs ys : List τ.den} (hx : aS fl x = some (.raw w)) (hy : aS fl y = some (.v (.sl τ) ys)) (hT : fO P T e τ) (hl : ys.length <= xs.length) (hp : 0 < ys.length) (hk : J P orc ops n l ((d, .v (.int .i64) ((ys.length : Nat) : Int)) :: fl) ((w, .row e τ (xs.take 0 ++ ys ++ xs.drop (0 + ys.length))) :: σ) K) (hw : cV ops fl g = some true := by rfl) (hn : (Nat.blt d n && Nat.ble n 4000) = true := by rfl) :
    J P orc ops n (⟨some d, .call { callee := .builtin .copy, args := #[x, y], argTypes := #[T, T'] }, ty, pos, after, g⟩ :: l) fl ((w, .row e τ xs) :: σ) K :=
  J.mk (cT.YU hT hl hp hx hy) (by rintro _ _ ⟨rfl, rfl⟩; exact hk) hw hn
def z7 (w : Value) (k : Nat) : Value :=
  match w with
  | .slice (some ⟨b, o, none⟩) _ mk => .slice (some ⟨b, o, none⟩) k mk
  | u => u
theorem cJ.alH {xs : List τ.den} {k : Nat} {hi : Operand} (hx : aS fl x = some (.raw w)) (hl : aS fl hi = some (.v (.int .i64) ((k : Nat) : Int))) (hm : (w, Cell.row e τ xs) ∈ σ) (hT : fO P T e τ) (h0 : 0 < xs.length) (hk : k <= xs.length) : cJ P fl σ (.slice T x none (some hi) none) (.raw (z7 w k)) :=
  ⟨rfl, fun h S t hs hc => by
    have h1 : aB t x = w := hs x (by simp [Op.operands]) _ hx; have h2 := aE.int (hs hi (by simp [Op.operands]) _ hl); rcases hc _ hm with ⟨_, rfl⟩ | ⟨b, rs, m, h3, h4, h5, h6⟩
    . simp at h0
    have hw : w = _ := h3; refine ⟨_, rfl, fun H hH _ _ _ _ _ => ?_⟩; show (bS P T (aB t x) none (some (aB t hi)) none H).map _ = _; obtain ⟨i, z, mJ, jQ, _⟩ := hT.sl.info
    have e1 : Nat.ble k xs.length = true := by rw [Nat.ble_eq]; exact hk
    have e2 : Nat.ble 0 k = true := by rw [Nat.ble_eq]; exact Nat.zero_le _
    have h0' : (0 : Int) <= (k : Nat) := Int.natCast_nonneg _; rw [h1, h2, hw]; simp [bS, hT.sl.sl, mJ, cR, if_pos h0', Int.toNat_natCast, e1, e2, l5, cutAt, z7]
    rfl⟩
theorem cT.alI {xs : List τ.den} {k : Nat} (hT : fO P T e τ) (hk : k < xs.length) (h0 : 0 < k) (hx : aS fl x = some (.raw (rowFrom w τ.size k))) (hy : aS fl y = some (.raw (z7 w k))) :
    cT P fl ((w, .row e τ xs) :: σ) (.call { callee := .builtin .copy, args := #[x, y], argTypes := #[T, T'] }) fun v σ' => v = .v (.int .i64) ((min k (xs.length - k) : Nat) : Int) /\ σ' = (w, .row e τ (xs.take k ++ xs.take (min k (xs.length - k)) ++ xs.drop (k + (xs.take (min k (xs.length - k))).length))) :: σ :=
  ⟨rfl, fun S0 h t L => by
    have h1 : aB t x = rowFrom w τ.size k := dL L.aJ hx; have h2 : aB t y = z7 w k := dL L.aJ hy; obtain ⟨i, z, mJ, jQ, IJ, vD, AQ, BJ, IK⟩ := hT.sl.info; rcases L.cells _ List.mem_cons_self with ⟨_, rfl⟩ | ⟨b, rs, m, h3, h4, h5, h6⟩
    . simp at hk
    have hw : w = _ := h3; have qC := h6.1
    have PN : min k (xs.length - k) <= xs.length := by omega
    have XK : (xs.take (min k (xs.length - k))).length = min k (xs.length - k) := by rw [List.length_take]; omega
    have hv := h6.agL PN; have hM := E1 (k := k) L h3 (by rw [cO]; exact List.mem_append_left _ (by rw [hw]; exact List.mem_cons_self)) h5 h6 hv (by rw [XK]; omega); refine ⟨.int .i64 ((min k (xs.length - k) : Nat) : Int), h.set b (.row e (bF rs (k * τ.size) (rs.take (min k (xs.length - k) * τ.size))) true m), .v (.int .i64) ((min k (xs.length - k) : Nat) : Int), _, ⟨rfl, rfl⟩, hM, aE.ofInt _ _, fun _ _ _ _ _ => ?_⟩; show (kA P #[T, T'] (aB t x) (aB t y) h) = _
    have oM : 0 < min k (xs.length - k) := by omega
    have e2 : Nat.beq (min k (xs.length - k) * τ.size) 0 = false := eE (Nat.ne_of_gt (Nat.mul_pos oM hT.sl.pos))
    have e3 : Nat.ble (0 + min k (xs.length - k) * τ.size) rs.length = true := by rw [Nat.ble_eq, qC, Nat.zero_add]; exact Nat.mul_le_mul_right _ PN
    have e4 : Nat.beq (rs.take (min k (xs.length - k) * τ.size)).length (min k (xs.length - k) * τ.size) = true := by rw [hv.1, XK]; exact Nat.beq_refl _
    have e5 : Nat.ble (min k (xs.length - k)) k = true := by rw [Nat.ble_eq]; omega
    have e6 : Nat.ble (0 + k * τ.size + min k (xs.length - k) * τ.size) rs.length = true := by rw [Nat.ble_eq, qC, Nat.zero_add, <- Nat.add_mul]; exact Nat.mul_le_mul_right _ (by omega)
    have e7 : (rs.take (min k (xs.length - k) * τ.size)).all aN = true := bM.kC _ _ hv; have xI : Nat.min k (xs.length - k) = min k (xs.length - k) := rfl; rw [h1, h2, hw, afZ hk]; simp only [kA, List.getElem?_toArray, List.getElem?_cons_zero, hT.sl.sl, mJ, z7, show ∀ q n m, mF (.slice q n m) = some n from fun _ _ _ => rfl, jQ, cellsOf, xI, e5, cond_true, e2, cond_false, h5, List.drop_zero, Nat.zero_add]; rw [Nat.zero_add] at e3 e6
    simp only [e3, cond_true, e4, e7, Bool.and_self, e6]⟩
theorem cT.YV {ys : List τ.den} (hT : fO P T e τ) (hx : aS fl x = some (.raw w)) (hy : aS fl y = some (.v (.sl τ) ys)) :
    cT P fl ((w, .row e τ []) :: σ) (.call { callee := .builtin .copy, args := #[x, y], argTypes := #[T, T'] }) fun v σ' => v = .v (.int .i64) ((0 : Nat) : Int) /\ σ' = (w, .row e τ []) :: σ :=
  ⟨rfl, fun S0 h t L => by
    have h1 : aB t x = w := dL L.aJ hx; have hu := (dL L.aJ hy : aE h _ (.sl τ) (aB t y) ys).sl; obtain ⟨i, z, mJ, jQ, IJ, vD, AQ, BJ, IK⟩ := hT.sl.info
    have c1 : ∃ m, mF (aB t y) = some m /\ Fs.cellsOf τ.size 0 (aB t y) h = some [] := by
      rcases hu with ⟨hv, _⟩ | ⟨b, o, mk, hv, _⟩
      . rw [hv]; exact ⟨0, rfl, rfl⟩
      rw [hv]; refine ⟨ys.length, rfl, ?_⟩
      have e1 : Nat.ble 0 ys.length = true := by rw [Nat.ble_eq]; exact Nat.zero_le _
      simp only [Fs.cellsOf, e1, cond_true, Nat.zero_mul]; rfl
    obtain ⟨m, c1, c2⟩ := c1; have xI : Nat.min m 0 = 0 := Nat.min_zero _; refine ⟨.int .i64 ((0 : Nat) : Int), h, .v (.int .i64) ((0 : Nat) : Int), _, ⟨rfl, rfl⟩, Made.same L (cI.refl _ _), aE.ofInt _ _, fun _ _ _ _ _ => ?_⟩; show (kA P #[T, T'] (aB t x) (aB t y) h) = _; rcases L.cells _ List.mem_cons_self with ⟨hw, _⟩ | ⟨b, rs, m', h3, h4, h5, h6⟩
    . have KF : w = .slice none 0 0 := hw; rw [h1, KF]; simp only [kA, List.getElem?_toArray, List.getElem?_cons_zero, hT.sl.sl, mJ, c1, show mF (.slice none 0 0) = some 0 from rfl, jQ, xI, c2, List.length_nil, Nat.zero_mul]; rfl
    have hw : w = .slice (some ⟨b, 0, none⟩) 0 0 := h3; rw [h1, hw]; simp only [kA, List.getElem?_toArray, List.getElem?_cons_zero, hT.sl.sl, mJ, c1, show ∀ q m, mF (.slice q 0 m) = some 0 from fun _ _ => rfl, jQ, xI, c2, List.length_nil, Nat.zero_mul]
    rfl⟩
theorem J.YV {xs ys : List τ.den} (hx : aS fl x = some (.raw w)) (hy : aS fl y = some (.v (.sl τ) ys)) (hT : fO P T e τ) (hl : xs = []) (hk : J P orc ops n l ((d, .v (.int .i64) ((0 : Nat) : Int)) :: fl) ((w, .row e τ []) :: σ) K) (hw : cV ops fl g = some true := by rfl) (hn : (Nat.blt d n && Nat.ble n 4000) = true := by rfl) :
    J P orc ops n (⟨some d, .call { callee := .builtin .copy, args := #[x, y], argTypes := #[T, T'] }, ty, pos, after, g⟩ :: l) fl ((w, .row e τ xs) :: σ) K := by
  subst hl; exact J.mk (cT.YV hT hx hy) (by rintro _ _ ⟨rfl, rfl⟩; exact hk) hw hn
end Go.Fs
namespace Go.Proofs
open Go.Fs Ieee
set_option maxHeartbeats 2000000
theorem eC : fO Tryz.prog 156 4 .bool := wJ (by kernel_rfl)
theorem zt4 : r6 Tryz.prog 4 .bool := nX (z := .bool false) (by kernel_rfl) rfl rfl
theorem YW {x : Int} {y : Int} (hx : 0 <= x /\ x < 4294967296) (hy : 0 <= y /\ y < 4294967296) (hp : 0 <= x * y /\ x * y < 4294967296) : VF Tryz.prog OA 185 [.v (.int .u64) x, .v (.int .u64) y] (.oD [.v (.int .u64) 0, .v (.int .u64) (x * y)]) := by
  refine VF.enter Tryz.func185 rfl (fun _ _ => rfl) rfl ?_; show VC _ _ _ _ _ [(0, .v (.int .u64) x), (1, .v (.int .u64) y)] [] _; refine VC.seq (VC.text ?_); refine J.c (.assign rfl) (J.c (.assign rfl) ?_); refine J.go (VC.seq (VC.text ?_)); refine J.c (.move rfl) (J.c (.andM rfl rfl hx) (J.c (.assign rfl) ?_)); refine J.go (VC.seq (VC.text ?_)); refine J.c (.move rfl) (J.c (.LL rfl rfl (by decide)) ?_); rw [LZ hx]; refine J.c (.assign rfl) ?_; refine J.go (VC.seq (VC.text ?_)); refine J.c (.move rfl) (J.c (.andM rfl rfl hy) (J.c (.assign rfl) ?_)); refine J.go (VC.seq (VC.text ?_)); refine J.c (.move rfl) (J.c (.LL rfl rfl (by decide)) ?_); rw [LZ hy]; refine J.c (.assign rfl) ?_; refine J.go (VC.seq (VC.text ?_)); refine J.c (.move rfl) (J.c (.move rfl) (J.c (.UZ rfl rfl (by omega)) (J.c (.assign rfl) ?_))); refine J.go (VC.seq (VC.text ?_)); refine J.c (.move rfl) (J.c (.move rfl) (J.c (.UZ (p := 0) rfl rfl (by omega)) (J.c (.move rfl) ?_))); refine J.c (.LL rfl rfl (by decide)) ?_; rw [LZ hp]; refine J.c (.aaK rfl rfl (by omega)) ?_; rw [show (0 : Int) * y + 0 = 0 by omega]; refine J.c (.assign rfl) ?_; refine J.go (VC.seq (VC.text ?_)); refine J.c (.move rfl) (J.c (.andM (p := 0) rfl rfl (by decide)) (J.c (.assign rfl) ?_)); refine J.go (VC.seq (VC.text ?_)); refine J.c (.move rfl) (J.c (.LL rfl rfl (by decide)) ?_); rw [LZ (p := 0) (by decide)]; refine J.c (.assign rfl) ?_; refine J.go (VC.seq ?_); refine VC.aV [(0, .v (.int .u64) x), (1, .v (.int .u64) y), (6, .v (.int .u64) x), (7, .v (.int .u64) 0), (9, .v (.int .u64) 0), (12, .v (.int .u64) 0), (13, .v (.int .u64) 0)] ⟨rfl, rfl, rfl, rfl, rfl, rfl, rfl, trivial⟩ ?_; refine VC.text ?_; refine J.c (.move rfl) (J.c (.move rfl) (J.c (.move rfl) (J.c (.UZ (q := 0) rfl rfl (by omega)) ?_))); refine J.c (.aaK rfl rfl (by omega)) ?_; rw [show (0 : Int) + x * 0 = 0 by omega]; refine J.c (.assign rfl) ?_; refine J.go (VC.seq (VC.text ?_)); refine J.c (.move rfl) (J.c (.move rfl) (J.c (.UZ (p := 0) (q := 0) rfl rfl (by decide)) (J.c (.move rfl) ?_))); refine J.c (.aaK rfl rfl (by decide)) ?_; rw [show (0 : Int) * 0 + 0 = 0 by rfl]; refine J.c (.move rfl) (J.c (.LL rfl rfl (by decide)) ?_); rw [LZ (p := 0) (by decide)]; refine J.c (.aaK rfl rfl (by decide)) ?_; rw [show (0 : Int) + 0 = 0 by rfl]; refine J.c (.assign rfl) ?_; refine J.go (VC.seq (VC.text ?_)); refine J.c (.move rfl) (J.c (.move rfl) (J.c (.UZ rfl rfl (by omega)) (J.c (.assign rfl) ?_))); refine J.go ?_; refine VC.ret ?_; exact aW.two rfl bP bP (fB (by rfl)) (fB (by rfl))
theorem V0 {x : Int} {y : Int} (hx : 0 <= x /\ x < 4294967296) (hy : 0 <= y /\ y < 4294967296) (hp : 0 <= x * y /\ x * y < 4294967296) : VF Tryz.prog OA 159 [.v (.int .u64) x, .v (.int .u64) y] (.oD [.v (.int .u64) 0, .v (.int .u64) (x * y)]) := by
  refine VF.enter Tryz.func159 rfl (fun _ _ => rfl) rfl ?_; show VC _ _ _ _ _ [(0, .v (.int .u64) x), (1, .v (.int .u64) y)] [] _; refine VC.seq (VC.text ?_); refine J.c (.assign rfl) (J.c (.assign rfl) ?_); refine J.go (VC.seq ?_); refine VC.uP rfl ?_; refine VC.skip (VC.seq (VC.text ?_)); refine J.c (.move rfl) (J.c (.move rfl) ?_); refine J.call rfl rfl (VF.call (YW (by first | assumption | omega | simp) (by first | assumption | omega | simp) (by first | assumption | omega | simp))) ?_; refine J.c (.move rfl) (J.c (.extract) (J.c (.extract) (J.c (.assign rfl) ?_))); refine J.c (.assign rfl) ?_; refine J.go (VC.seq (VC.text ?_)); refine J.c (.move rfl) (J.c (.move rfl) (J.c (.assign rfl) (J.c (.assign rfl) ?_))); refine J.go ?_; refine VC.ret ?_; exact aW.two rfl bP bP (fB (by rfl)) (fB (by rfl))
def o3 (n c : Nat) : List Bool := List.replicate c true ++ List.replicate (n - c) false
theorem G1 {n c : Nat} (h : c <= n) : (o3 n c).length = n := by simp [o3]; omega
theorem V1 {n : Nat} {x : List Bool} (hx : x = [true]) (h : 0 < n) : (List.replicate n false).take 0 ++ x ++ (List.replicate n false).drop (0 + x.length) = o3 n 1 := by
  subst hx; simp [o3]
theorem YX {n c : Nat} (h : c < n) (h0 : 0 < c) : (o3 n c).take c ++ (o3 n c).take (min c ((o3 n c).length - c)) ++ (o3 n c).drop (c + ((o3 n c).take (min c ((o3 n c).length - c))).length) = o3 n (c + min c (n - c)) := by
  have hl := G1 (n := n) (c := c) (by omega); rw [hl]
  have e1 : (o3 n c).take c = List.replicate c true := by
    unfold o3; rw [List.take_append_of_le_length (by simp), List.take_of_length_le (by simp)]
  have e2 : (o3 n c).take (min c (n - c)) = List.replicate (min c (n - c)) true := by
    unfold o3; rw [List.take_append_of_le_length (by simp; omega), List.take_replicate]; congr 1; omega
  have e3 : (o3 n c).drop (c + min c (n - c)) = List.replicate (n - (c + min c (n - c))) false := by
    unfold o3; rw [List.drop_append, List.drop_of_length_le (by simp), List.length_replicate, List.drop_replicate, List.nil_append]; congr 1; omega
  rw [e1, e2, List.length_replicate, e3, List.replicate_append_replicate]; rfl
theorem acY {x : List Bool} {n : Nat} (hx : x = [true]) (hn : n <= 4096) (h0 : 0 < n) : gV Tryz.prog OA 145 [.v (.sl .bool) x, I ((n : Nat) : Int)] [] (fun r g => ∃ w, r = .raw w /\ g = [(w, .row 4 .bool (List.replicate n true))]) := by
  refine gV.enter Tryz.func145 rfl (fun _ _ => rfl) rfl ?_; show VC _ _ _ _ _ [(0, .v (.sl .bool) x), (1, I ((n : Nat) : Int))] [] _; refine VC.seq (VC.text ?_); refine J.c (.assign rfl) ?_; refine J.go (VC.seq (VC.seq (VC.text ?_))); refine J.c (.move rfl) (J.c (.lss) (J.go ?_)); refine VC.aX rfl (fun c1 => ?_) (fun c1 => ?_)
  . exact absurd c1 (by omega)
  have FC : x.length = 1 := by rw [hx] <;> rfl
  have hxn : ((x.length : Nat) : Int) * ((n : Nat) : Int) = ((n : Nat) : Int) := by rw [FC]; omega
  refine VC.skip (VC.seq (VC.text ?_)); refine J.c (.move rfl) ?_; refine J.r (.len eC) ?_; refine J.c (.wM rfl .u64 (by exact sZ (by omega))) (J.c (.move rfl) (J.c (.wM rfl .u64 (by exact sZ (by omega))) ?_)); refine J.call rfl rfl (VF.call (V0 (by omega) (by omega) (by rw [hxn]; omega))) ?_; refine J.c (.move rfl) (J.c (.extract) (J.c (.extract) ?_)); rw [hxn]; refine J.c (.assign rfl) (J.c (.assign rfl) ?_); refine J.go (VC.seq (VC.seq (VC.text ?_))); refine J.c (.move rfl) (J.c (.gtr) (J.c (.move rfl) ?_)); refine J.cg (r := decide ((0 : Int) < 0)) (w := false) [] trivial (fun _ => (.move rfl)) ?_; refine J.cg (r := decide ((0 : Int) < 0)) (w := false) [(24, .v (.int .u64) ((n : Nat) : Int))] ⟨rfl, trivial⟩ (fun _ => (.gtr)) ?_; refine J.c (.or) (J.go ?_); refine VC.eR rfl (fun c4 => ?_) (fun c4 => ?_)
  . try simp only [Bool.and_eq_true, Bool.or_eq_true, Bool.and_eq_false_iff, Bool.or_eq_false_iff, Bool.not_eq_true', Bool.not_eq_false', decide_eq_true_eq, decide_eq_false_iff_not] at c4
    exact absurd c4 (by omega)
  try simp only [Bool.and_eq_true, Bool.or_eq_true, Bool.and_eq_false_iff, Bool.or_eq_false_iff, Bool.not_eq_true', Bool.not_eq_false', decide_eq_true_eq, decide_eq_false_iff_not] at c4
  refine VC.skip (VC.seq (VC.text ?_)); refine J.c (.move rfl) (J.c (.wM rfl .i64 (by exact wrap64 (by omega) (by omega))) ?_); refine J.cell (.make (k := n) rfl rfl eC zt4 (by omega)) ?_; intro fI; refine J.c (.assign rfl) ?_; refine J.go (VC.seq (VC.text ?_)); refine J.c (.move rfl) (J.c (.move rfl) ?_); refine J.YU rfl rfl eC (by simp; omega) (by omega) ?_; rw [show (wP Ty.bool : Bool) = false from rfl, V1 hx h0, FC]; refine J.c (.assign rfl) ?_; refine J.go (VC.seq (VC.block ?_)); refine VC.aV [(7, .raw fI), (8, I ((1 : Nat) : Int))] ⟨rfl, rfl, trivial⟩ ?_; refine VC.loop (I := fun kk ff ss => ∃ (c : Nat), kk = n - c /\ ff = [(7, .raw fI), (8, I ((c : Nat) : Int))] /\ ss = [(fI, .row 4 .bool (o3 n c))] /\ (1 <= c /\ c <= n)) ?_ _ _ _ ⟨1, rfl, rfl, rfl, (by omega)⟩; rintro kk ff ss ⟨c, kJ, rfl, rfl, hc⟩; refine VC.seq (VC.seq (VC.text ?_)); refine J.c (.move rfl) (J.c (.move rfl) ?_); refine J.r (.TM m0 eC) ?_; refine J.c (.lss) (J.go ?_); refine VC.aX rfl (fun c8 => ?_) (fun c8 => ?_)
  . have qC := G1 (n := n) (c := c) hc.2
    have hcn : c < n := by omega
    refine VC.skip (VC.block (VC.drawn ?_)); refine VD.c (.move rfl) (VD.c (.move rfl) (VD.c (.move rfl) ?_)); refine VD.r [(fI, .row 4 .bool (o3 n c))] (.alB (k := c) rfl rfl m0 eC (by omega) (by omega)) (.inr ⟨rfl, rfl⟩) ?_; refine VD.c (.move rfl) (VD.c (.move rfl) (VD.nw [] ?_)); refine VD.r [(fI, .row 4 .bool (o3 n c))] (.alH (k := c) rfl rfl m0 eC (by omega) (by omega)) (.inr ⟨rfl, rfl⟩) ?_; refine VD.mk (cT.alI (k := c) eC (by omega) (by omega) rfl rfl) ?_; rintro _ _ tl2 ⟨rfl, rfl⟩; rw [YX hcn hc.1, qC]; refine VD.c (.add rfl rfl (by omega)) (VD.c (.assign rfl) ?_); refine VD.nil ?_; refine ⟨_, [(7, .raw fI), (8, I (((c + min c (n - c)) : Nat) : Int))], ?_, ⟨rfl, rfl, trivial⟩, (c + min c (n - c)), rfl, rfl, (by simp), (by omega)⟩; omega
  refine VC.exit (VC.seq (VC.text ?_)); refine J.c (.move rfl) (J.c (.assign rfl) (J.go ?_)); refine VC.ret ?_; exact mN.row rfl bP ⟨fI, rfl, (by rw [show c = n by (have ap6 := G1 (n := n) (c := c) hc.2; omega)]; simp [o3])⟩
theorem acZ {x : List Bool} {n : Nat} (hx : x = [true]) (h0 : n = 0) : gV Tryz.prog OA 145 [.v (.sl .bool) x, I ((n : Nat) : Int)] [] (fun r g => ∃ w, r = .raw w /\ g = [(w, .row 4 .bool [])]) := by
  refine gV.enter Tryz.func145 rfl (fun _ _ => rfl) rfl ?_; show VC _ _ _ _ _ [(0, .v (.sl .bool) x), (1, I ((n : Nat) : Int))] [] _; refine VC.seq (VC.text ?_); refine J.c (.assign rfl) ?_; refine J.go (VC.seq (VC.seq (VC.text ?_))); refine J.c (.move rfl) (J.c (.lss) (J.go ?_)); refine VC.aX rfl (fun c1 => ?_) (fun c1 => ?_)
  . exact absurd c1 (by omega)
  have FC : x.length = 1 := by rw [hx] <;> rfl
  have hxn : ((x.length : Nat) : Int) * ((n : Nat) : Int) = ((n : Nat) : Int) := by rw [FC]; omega
  refine VC.skip (VC.seq (VC.text ?_)); refine J.c (.move rfl) ?_; refine J.r (.len eC) ?_; refine J.c (.wM rfl .u64 (by exact sZ (by omega))) (J.c (.move rfl) (J.c (.wM rfl .u64 (by exact sZ (by omega))) ?_)); refine J.call rfl rfl (VF.call (V0 (by omega) (by omega) (by rw [hxn]; omega))) ?_; refine J.c (.move rfl) (J.c (.extract) (J.c (.extract) ?_)); rw [hxn]; refine J.c (.assign rfl) (J.c (.assign rfl) ?_); refine J.go (VC.seq (VC.seq (VC.text ?_))); refine J.c (.move rfl) (J.c (.gtr) (J.c (.move rfl) ?_)); refine J.cg (r := decide ((0 : Int) < 0)) (w := false) [] trivial (fun _ => (.move rfl)) ?_; refine J.cg (r := decide ((0 : Int) < 0)) (w := false) [(24, .v (.int .u64) ((n : Nat) : Int))] ⟨rfl, trivial⟩ (fun _ => (.gtr)) ?_; refine J.c (.or) (J.go ?_); refine VC.eR rfl (fun c4 => ?_) (fun c4 => ?_)
  . try simp only [Bool.and_eq_true, Bool.or_eq_true, Bool.and_eq_false_iff, Bool.or_eq_false_iff, Bool.not_eq_true', Bool.not_eq_false', decide_eq_true_eq, decide_eq_false_iff_not] at c4
    exact absurd c4 (by omega)
  try simp only [Bool.and_eq_true, Bool.or_eq_true, Bool.and_eq_false_iff, Bool.or_eq_false_iff, Bool.not_eq_true', Bool.not_eq_false', decide_eq_true_eq, decide_eq_false_iff_not] at c4
  refine VC.skip (VC.seq (VC.text ?_)); refine J.c (.move rfl) (J.c (.wM rfl .i64 (by exact wrap64 (by omega) (by omega))) ?_); refine J.cell (.make (k := n) rfl rfl eC zt4 (by omega)) ?_; intro lU; refine J.c (.assign rfl) ?_; refine J.go (VC.seq (VC.text ?_)); refine J.c (.move rfl) (J.c (.move rfl) ?_); refine J.YV rfl rfl eC (by rw [h0] <;> rfl) ?_; refine J.c (.assign rfl) ?_; refine J.go (VC.seq (VC.block ?_)); refine VC.aV [(7, .raw lU), (8, I ((0 : Nat) : Int))] ⟨rfl, rfl, trivial⟩ ?_; refine VC.loop (I := fun kk ff ss => ∃ (c : Nat), kk = 0 /\ ff = [(7, .raw lU), (8, I ((c : Nat) : Int))] /\ ss = [(lU, .row 4 .bool [])] /\ (c = 0)) ?_ _ _ _ ⟨0, rfl, rfl, rfl, (by rfl)⟩; rintro kk ff ss ⟨c, kJ, rfl, rfl, hc⟩; refine VC.seq (VC.seq (VC.text ?_)); refine J.c (.move rfl) (J.c (.move rfl) ?_); refine J.r (.TM m0 eC) ?_; refine J.c (.lss) (J.go ?_); refine VC.aX rfl (fun c8 => ?_) (fun c8 => ?_)
  . exact absurd c8 (by simp)
  refine VC.exit (VC.seq (VC.text ?_)); refine J.c (.move rfl) (J.c (.assign rfl) (J.go ?_)); refine VC.ret ?_; exact mN.row rfl bP ⟨lU, rfl, (by rfl)⟩
theorem V2 {n : Nat} {x : List Bool} (hx : x = [true]) (hn : n <= 4096) : gV Tryz.prog OA 145 [.v (.sl .bool) x, I ((n : Nat) : Int)] [] (fun r g => ∃ w, r = .raw w /\ g = [(w, .row 4 .bool (List.replicate n true))]) := by
  by_cases h : n = 0
  . subst h; exact acZ hx rfl
  exact acY hx hn (by omega)
end Go.Proofs
namespace Go.Proofs
open Go.Fs Ieee
set_option maxHeartbeats 2000000
def eI (n : Nat) (p : Int -> Bool) : List Bool := (List.range n).map fun (t : Nat) => !p (t : Int)
theorem dE {n : Nat} {p : Int -> Bool} : (eI n p).length = n := by simp [eI]
theorem pO {n t : Nat} {p : Int -> Bool} (h : t < n) : (eI n p)[t]'(by rw [dE]; exact h) = !p (t : Int) := by
  unfold eI; rw [List.getElem_map, List.getElem_range]
theorem M0 {n : Nat} {p : Int -> Bool} (h : ∀ t : Nat, p t = false) : List.replicate n true = eI n p := by
  refine List.ext_getElem (by rw [List.length_replicate, dE]) fun i h1 h2 => ?_; rw [dE] at h2; rw [List.getElem_replicate, pO h2, h i] <;> rfl
theorem qJ {n : Nat} {p q : Int -> Bool} (h : ∀ t : Nat, t < n -> p t = q t) : eI n p = eI n q := by
  refine List.ext_getElem (by rw [dE, dE]) fun i h1 h2 => ?_; rw [dE] at h2; rw [pO h2, pO h2, h i h2]
theorem P3 {n t : Nat} {p q : Int -> Bool} (ht : t < n) (hq : q t = true) (IA : ∀ u : Nat, u ≠ t -> q u = p u) : eI n q = (eI n p).set t false := by
  refine List.ext_getElem (by rw [List.length_set, dE, dE]) fun i h1 h2 => ?_; rw [dE] at h1; rw [pO h1, List.getElem_set]; by_cases e : t = i
  . subst e; rw [if_pos rfl, hq] <;> rfl
  rw [if_neg e, pO h1, IA i (fun h => e h.symm)]
def aP (r : aG) : List Bool := eI r.2.2.1.length (Sp.bE r.2.2.2)
theorem wW {r : ByteArray × Int × (List Nat) × (List (Int × Int))} (hl : r.2.2.1.length <= 4096) (hg : r.2.2.2.length < 1000000) (vF : ∀ s ∈ r.2.2.2, 0 <= s.1 /\ s.1 < s.2 /\ s.2 <= (r.2.2.1.length : Nat)) : VF Tryz.prog OA 102 [.v dJ r] (.v (.sl .bool) (aP r)) := by
  refine VF.enter Tryz.func102 rfl (fun _ _ => rfl) rfl ?_; show VC _ _ _ _ _ [(0, .v dJ r)] [] _; refine VC.seq (VC.text ?_); refine J.new (.box) ?_; refine J.c (.assign rfl) ?_; refine J.go (VC.seq (VC.text ?_)); refine J.new (.lit [true] eC) ?_; refine J.c (.fa (.r (.r (.l .o)))) ?_; refine J.r (.ld dG) ?_; refine J.r (.len bW) ?_; refine J.pL [] rfl rfl rfl (gV.call (V2 rfl hl)) ?_; rintro _ _ ⟨fI, rfl, rfl⟩; show J _ _ _ _ _ _ [(fI, .row 4 .bool (List.replicate r.2.2.1.length true))] _; refine J.c (.assign rfl) ?_; refine J.go (VC.seq (VC.seq (VC.text ?_))); refine J.c (.fa (.r (.r (.r .o)))) ?_; refine J.r (.ld gK) ?_; refine J.r (.len cD) ?_; refine J.c (.move rfl) ?_; refine J.go (VC.block ?_); refine VC.aV [(3, .raw fI), (13, .v aZ r.2.2.2), (14, I ((r.2.2.2.length : Nat) : Int)), (15, I ((0 : Nat) : Int))] ⟨rfl, rfl, rfl, rfl, trivial⟩ ?_; refine VC.loop (I := fun kk ff ss => ∃ (i : Nat), kk = r.2.2.2.length - i /\ ff = [(3, .raw fI), (13, .v aZ r.2.2.2), (14, I ((r.2.2.2.length : Nat) : Int)), (15, I ((i : Nat) : Int))] /\ ss = [(fI, .row 4 .bool (eI r.2.2.1.length (Sp.bE (r.2.2.2.take i))))] /\ (i <= r.2.2.2.length)) ?_ _ _ _ ⟨0, rfl, rfl, (by rw [M0 (p := Sp.bE (r.2.2.2.take 0)) fun _ => rfl]), Nat.zero_le _⟩; rintro kk ff ss ⟨i, kJ, rfl, rfl, hi⟩; refine VC.seq (VC.text ?_); refine J.c (.lss) ?_; refine J.go (VC.seq ?_); refine VC.aX rfl (fun c3 => ?_) (fun c3 => ?_)
  . have nZ : i < r.2.2.2.length := by omega
    have hsi := vF _ (List.getElem_mem nZ); have hx := fJ nZ; refine VC.skip (VC.seq (VC.block (VC.seq (VC.text ?_)))); refine J.c (.ix (j := i) rfl rfl cD (by omega)) ?_; refine J.r (.ld nG) ?_; refine J.cell (.alloc HL) ?_; intro nD; refine J.lJ (cs' := [I ((r.2.2.2[i]).1), I ((r.2.2.2[i]).2)]) nG .v ?_; refine J.shut [(5, .p gH (r.2.2.2[i]))] (.cons rfl (.var m0 .refl) .nil) ?_; refine J.go (VC.seq (VC.text ?_)); refine J.c (.fa (.l .o)) ?_; refine J.r (.ld cQ) ?_; refine J.c (.assign rfl) ?_; refine J.go (VC.block ?_); refine VC.aV [(3, .raw fI), (5, .p gH (r.2.2.2[i])), (6, I ((((r.2.2.2[i]).1.toNat) : Nat) : Int)), (13, .v aZ r.2.2.2), (14, I ((r.2.2.2.length : Nat) : Int)), (15, I ((i : Nat) : Int))] ⟨rfl, rfl, vH rfl (by omega), rfl, rfl, rfl, trivial⟩ ?_; refine VC.loop (I := fun kk ff ss => ∃ (t : Nat), kk = r.2.2.1.length - t /\ ff = [(3, .raw fI), (5, .p gH (r.2.2.2[i])), (6, I ((t : Nat) : Int)), (13, .v aZ r.2.2.2), (14, I ((r.2.2.2.length : Nat) : Int)), (15, I ((i : Nat) : Int))] /\ ss = [(fI, .row 4 .bool (eI r.2.2.1.length (lY r.2.2.2 i t)))] /\ ((t : Int) <= (r.2.2.2[i]).2) /\ ((r.2.2.2[i]).1 <= t)) ?_ _ _ _ ⟨(r.2.2.2[i]).1.toNat, rfl, rfl, (by rw [qJ (q := Sp.bE (r.2.2.2.take i)) fun u _ => R0 (by rw [hx]; omega)]), (by omega), (by omega)⟩; rintro kk ff ss ⟨t, yE, rfl, rfl, ht, h0⟩; refine VC.seq (VC.seq (VC.text ?_)); refine J.c (.move rfl) (J.c (.fa (.r .o)) ?_); refine J.r (.ld cQ) ?_; refine J.c (.lss) (J.go ?_); refine VC.aX rfl (fun c6 => ?_) (fun c6 => ?_)
    . have bO : t < r.2.2.1.length := by omega
      have SO := dE (n := r.2.2.1.length) (p := lY r.2.2.2 i t); refine VC.skip (VC.seq (VC.block (VC.text ?_))); refine J.c (.move rfl) (J.c (.move rfl) (J.c (.AP (j := t) rfl rfl m0 eC (by omega)) ?_)); refine J.AZ t rfl rfl vt4 (by omega) ?_; refine J.nil (VC.text ?_); refine J.c (.move rfl) (J.c (.add rfl rfl (by omega)) (J.c (.assign rfl) ?_)); refine J.nil ?_; refine ⟨_, [(3, .raw fI), (5, .p gH (r.2.2.2[i])), (6, I (((t + 1) : Nat) : Int)), (13, .v aZ r.2.2.2), (14, I ((r.2.2.2.length : Nat) : Int)), (15, I ((i : Nat) : Int))], ?_, ⟨rfl, rfl, rfl, rfl, rfl, rfl, trivial⟩, (t + 1), rfl, rfl, (by rw [P3 bO (BR (by rw [hx]; exact h0)) (fun u hu => yY hu)]), (by omega), (by omega)⟩; omega
    refine VC.exit (VC.text ?_); refine J.c (.add rfl rfl (by omega)) (J.c (.move rfl) ?_); refine J.nil ?_; refine ⟨_, [(3, .raw fI), (13, .v aZ r.2.2.2), (14, I ((r.2.2.2.length : Nat) : Int)), (15, I (((i + 1) : Nat) : Int))], ?_, ⟨rfl, rfl, rfl, rfl, trivial⟩, (i + 1), rfl, rfl, (by rw [qJ (q := Sp.bE (r.2.2.2.take (i + 1))) fun u _ => FR nZ (by omega)]), (by omega)⟩; omega
  refine VC.exit (VC.seq (VC.text ?_)); refine J.c (.move rfl) (J.c (.assign rfl) (J.go ?_)); refine VC.ret ?_; exact aW.one rfl (L8 (.row m0)) (fF (by rw [List.take_of_length_le (by omega)] <;> rfl))
theorem V3 {rr : ByteArray × Int × (List Nat) × (List (Int × Int))} (hl : rr.2.2.1.length <= 4096) (hg : rr.2.2.2.length < 1000000) (vF : ∀ s ∈ rr.2.2.2, 0 <= s.1 /\ s.1 < s.2 /\ s.2 <= (rr.2.2.1.length : Nat)) : gV Tryz.prog OA 102 [.v dJ rr] [] (fun r g => ∃ w, r = .raw w /\ g = [(w, .row 4 .bool (aP rr))]) := by
  refine gV.enter Tryz.func102 rfl (fun _ _ => rfl) rfl ?_; show VC _ _ _ _ _ [(0, .v dJ rr)] [] _; refine VC.seq (VC.text ?_); refine J.new (.box) ?_; refine J.c (.assign rfl) ?_; refine J.go (VC.seq (VC.text ?_)); refine J.new (.lit [true] eC) ?_; refine J.c (.fa (.r (.r (.l .o)))) ?_; refine J.r (.ld dG) ?_; refine J.r (.len bW) ?_; refine J.pL [] rfl rfl rfl (gV.call (V2 rfl hl)) ?_; rintro _ _ ⟨lU, rfl, rfl⟩; show J _ _ _ _ _ _ [(lU, .row 4 .bool (List.replicate rr.2.2.1.length true))] _; refine J.c (.assign rfl) ?_; refine J.go (VC.seq (VC.seq (VC.text ?_))); refine J.c (.fa (.r (.r (.r .o)))) ?_; refine J.r (.ld gK) ?_; refine J.r (.len cD) ?_; refine J.c (.move rfl) ?_; refine J.go (VC.block ?_); refine VC.aV [(3, .raw lU), (13, .v aZ rr.2.2.2), (14, I ((rr.2.2.2.length : Nat) : Int)), (15, I ((0 : Nat) : Int))] ⟨rfl, rfl, rfl, rfl, trivial⟩ ?_; refine VC.loop (I := fun kk ff ss => ∃ (i : Nat), kk = rr.2.2.2.length - i /\ ff = [(3, .raw lU), (13, .v aZ rr.2.2.2), (14, I ((rr.2.2.2.length : Nat) : Int)), (15, I ((i : Nat) : Int))] /\ ss = [(lU, .row 4 .bool (eI rr.2.2.1.length (Sp.bE (rr.2.2.2.take i))))] /\ (i <= rr.2.2.2.length)) ?_ _ _ _ ⟨0, rfl, rfl, (by rw [M0 (p := Sp.bE (rr.2.2.2.take 0)) fun _ => rfl]), Nat.zero_le _⟩; rintro kk ff ss ⟨i, kJ, rfl, rfl, hi⟩; refine VC.seq (VC.text ?_); refine J.c (.lss) ?_; refine J.go (VC.seq ?_); refine VC.aX rfl (fun c3 => ?_) (fun c3 => ?_)
  . have nZ : i < rr.2.2.2.length := by omega
    have hsi := vF _ (List.getElem_mem nZ); have hx := fJ nZ; refine VC.skip (VC.seq (VC.block (VC.seq (VC.text ?_)))); refine J.c (.ix (j := i) rfl rfl cD (by omega)) ?_; refine J.r (.ld nG) ?_; refine J.cell (.alloc HL) ?_; intro tN; refine J.lJ (cs' := [I ((rr.2.2.2[i]).1), I ((rr.2.2.2[i]).2)]) nG .v ?_; refine J.shut [(5, .p gH (rr.2.2.2[i]))] (.cons rfl (.var m0 .refl) .nil) ?_; refine J.go (VC.seq (VC.text ?_)); refine J.c (.fa (.l .o)) ?_; refine J.r (.ld cQ) ?_; refine J.c (.assign rfl) ?_; refine J.go (VC.block ?_); refine VC.aV [(3, .raw lU), (5, .p gH (rr.2.2.2[i])), (6, I ((((rr.2.2.2[i]).1.toNat) : Nat) : Int)), (13, .v aZ rr.2.2.2), (14, I ((rr.2.2.2.length : Nat) : Int)), (15, I ((i : Nat) : Int))] ⟨rfl, rfl, vH rfl (by omega), rfl, rfl, rfl, trivial⟩ ?_; refine VC.loop (I := fun kk ff ss => ∃ (t : Nat), kk = rr.2.2.1.length - t /\ ff = [(3, .raw lU), (5, .p gH (rr.2.2.2[i])), (6, I ((t : Nat) : Int)), (13, .v aZ rr.2.2.2), (14, I ((rr.2.2.2.length : Nat) : Int)), (15, I ((i : Nat) : Int))] /\ ss = [(lU, .row 4 .bool (eI rr.2.2.1.length (lY rr.2.2.2 i t)))] /\ ((t : Int) <= (rr.2.2.2[i]).2) /\ ((rr.2.2.2[i]).1 <= t)) ?_ _ _ _ ⟨(rr.2.2.2[i]).1.toNat, rfl, rfl, (by rw [qJ (q := Sp.bE (rr.2.2.2.take i)) fun u _ => R0 (by rw [hx]; omega)]), (by omega), (by omega)⟩; rintro kk ff ss ⟨t, yE, rfl, rfl, ht, h0⟩; refine VC.seq (VC.seq (VC.text ?_)); refine J.c (.move rfl) (J.c (.fa (.r .o)) ?_); refine J.r (.ld cQ) ?_; refine J.c (.lss) (J.go ?_); refine VC.aX rfl (fun c6 => ?_) (fun c6 => ?_)
    . have bO : t < rr.2.2.1.length := by omega
      have SO := dE (n := rr.2.2.1.length) (p := lY rr.2.2.2 i t); refine VC.skip (VC.seq (VC.block (VC.text ?_))); refine J.c (.move rfl) (J.c (.move rfl) (J.c (.AP (j := t) rfl rfl m0 eC (by omega)) ?_)); refine J.AZ t rfl rfl vt4 (by omega) ?_; refine J.nil (VC.text ?_); refine J.c (.move rfl) (J.c (.add rfl rfl (by omega)) (J.c (.assign rfl) ?_)); refine J.nil ?_; refine ⟨_, [(3, .raw lU), (5, .p gH (rr.2.2.2[i])), (6, I (((t + 1) : Nat) : Int)), (13, .v aZ rr.2.2.2), (14, I ((rr.2.2.2.length : Nat) : Int)), (15, I ((i : Nat) : Int))], ?_, ⟨rfl, rfl, rfl, rfl, rfl, rfl, trivial⟩, (t + 1), rfl, rfl, (by rw [P3 bO (BR (by rw [hx]; exact h0)) (fun u hu => yY hu)]), (by omega), (by omega)⟩; omega
    refine VC.exit (VC.text ?_); refine J.c (.add rfl rfl (by omega)) (J.c (.move rfl) ?_); refine J.nil ?_; refine ⟨_, [(3, .raw lU), (13, .v aZ rr.2.2.2), (14, I ((rr.2.2.2.length : Nat) : Int)), (15, I (((i + 1) : Nat) : Int))], ?_, ⟨rfl, rfl, rfl, rfl, trivial⟩, (i + 1), rfl, rfl, (by rw [qJ (q := Sp.bE (rr.2.2.2.take (i + 1))) fun u _ => FR nZ (by omega)]), (by omega)⟩; omega
  refine VC.exit (VC.seq (VC.text ?_)); refine J.c (.move rfl) (J.c (.assign rfl) (J.go ?_)); refine VC.ret ?_; exact mN.row rfl bP ⟨lU, rfl, (by rw [List.take_of_length_le (by omega)] <;> rfl)⟩
end Go.Proofs
namespace Go.Proofs
open Go.Fs Ieee
set_option maxHeartbeats 2000000
abbrev mW : Ty := (.sl (.sl .bool))
abbrev mX : Ty := (.sl (.sl (.aO .f32)))
theorem BU : fU Tryz.prog 156 (.sl .bool) := gM (by kernel_rfl)
theorem wX : fO Tryz.prog 212 156 (.sl .bool) := wJ (by kernel_rfl)
theorem wY : fO Tryz.prog 213 53 cL := wJ (by kernel_rfl)
theorem YY {n : Nat} (h0 : 0 < n) (h1 : n <= 1000000) : gV Tryz.prog OA 149 [xO, I ((n : Nat) : Int)] [] (fun r g => ∃ w, r = .raw w /\ g = [(w, .cap 4 n .bool [])]) := by
  refine gV.enter Tryz.func149 rfl (fun _ _ => rfl) rfl ?_; show VC _ _ _ _ _ [(0, xO), (1, I ((n : Nat) : Int))] [] _; refine VC.seq (VC.text ?_); refine J.c (.assign rfl) ?_; refine J.go (VC.seq (VC.seq (VC.text ?_))); refine J.c (.move rfl) (J.c (.lss) (J.go ?_)); refine VC.aX rfl (fun c1 => ?_) (fun c1 => ?_)
  . exact absurd c1 (by omega)
  refine VC.skip (VC.seq (VC.seq (VC.text ?_))); refine J.c (.move rfl) (J.c (.move rfl) ?_); refine J.r (.OO eC) ?_; refine J.c (.move rfl) ?_; refine J.r (.OL eC) ?_; refine J.c (.sub rfl rfl (by decide)) (J.c (.sub rfl rfl (by omega)) (J.c (.assign rfl) ?_)); refine J.go (VC.seq (VC.text ?_)); refine J.c (.move rfl) (J.c (.gtr) (J.go ?_)); refine VC.aX rfl (fun c4 => ?_) (fun c4 => ?_)
  . refine VC.text ?_; refine J.c (.move rfl) (J.c (.move rfl) ?_); refine J.r (.OO eC) ?_; refine J.r (.ajO eC rfl rfl) ?_; refine J.c (.move rfl) ?_; refine J.grow (k := n) rfl (congrArg (fun z : Int => some (PV.v (.int .i64) z)) (show (((n : Nat) : Int) - (((0 : Nat) : Int) - ((0 : Nat) : Int))) = ((n : Nat) : Int) by omega)) eC (by kernel_rfl) (by omega) (by omega) ?_; intro bb1; refine J.c (.move rfl) ?_; refine J.r (.OL eC) ?_; refine J.r (.ajP eC rfl rfl) ?_; refine J.c (.assign rfl) ?_; refine J.go (VC.seq (VC.text ?_)); refine J.c (.move rfl) (J.c (.assign rfl) (J.go ?_)); refine VC.ret ?_; exact mN.cap rfl bP m0 ⟨(.slice (some ⟨bb1, 0, none⟩) 0 0), rfl, (by rfl)⟩
  exact absurd (by omega) c4
theorem NM {l : List (List Bool)} (hl : l.length < 100000) (h0 : 0 < l.flatten.length) (h1 : l.flatten.length <= 1000000) : gV Tryz.prog OA 116 [.v mW l] [] (fun r g => ∃ w, r = .raw w /\ g = [(w, .row 4 .bool l.flatten)]) := by
  refine gV.enter Tryz.func116 rfl (fun _ _ => rfl) rfl ?_; show VC _ _ _ _ _ [(0, .v mW l)] [] _; refine VC.seq (VC.text ?_); refine J.c (.assign rfl) ?_; refine J.go (VC.seq (VC.text ?_)); refine J.c (.assign rfl) ?_; refine J.go (VC.seq (VC.seq (VC.text ?_))); refine J.c (.move rfl) ?_; refine J.r (.len wX) ?_; refine J.c (.move rfl) ?_; refine J.go (VC.block ?_); refine VC.aV [(0, .v mW l), (3, I (((l.take 0).flatten.length : Nat) : Int)), (9, .v mW l), (10, I ((l.length : Nat) : Int)), (11, I ((0 : Nat) : Int))] ⟨rfl, vH rfl (by rfl), rfl, rfl, rfl, trivial⟩ ?_; refine VC.loop (I := fun kk ff ss => ∃ (j : Nat), kk = l.length - j /\ ff = [(0, .v mW l), (3, I (((l.take j).flatten.length : Nat) : Int)), (9, .v mW l), (10, I ((l.length : Nat) : Int)), (11, I ((j : Nat) : Int))] /\ ss = [] /\ (j <= l.length)) ?_ _ _ _ ⟨0, rfl, rfl, rfl, Nat.zero_le _⟩; rintro kk ff ss ⟨j, kJ, rfl, rfl, hj⟩; refine VC.seq (VC.text ?_); refine J.c (.lss) ?_; refine J.go (VC.seq ?_); refine VC.aX rfl (fun c3 => ?_) (fun c3 => ?_)
  . refine VC.skip (VC.seq (VC.block (VC.seq (VC.text ?_)))); refine J.c (.ix (j := j) rfl rfl wX (by omega)) ?_; refine J.r (.ld BU) ?_; refine J.c (.assign rfl) ?_; refine J.go (VC.seq (VC.text ?_)); have hs := r8 (l := l) (j + 1); rw [eX (by omega), List.length_append] at hs; refine J.c (.move rfl) (J.c (.move rfl) ?_); refine J.r (.len eC) ?_; refine J.c (.add rfl rfl (by omega)) (J.c (.assign rfl) ?_); refine J.go (VC.seq (VC.text ?_)); refine J.c (.move rfl) (J.c (.lss) (J.go ?_)); refine VC.aX rfl (fun c6 => ?_) (fun c6 => ?_)
    . exact absurd c6 (by omega)
    refine VC.skip (VC.text ?_); refine J.c (.add rfl rfl (by omega)) (J.c (.move rfl) ?_); refine J.nil ?_; refine ⟨_, [(0, .v mW l), (3, I (((l.take (j + 1)).flatten.length : Nat) : Int)), (9, .v mW l), (10, I ((l.length : Nat) : Int)), (11, I (((j + 1) : Nat) : Int))], ?_, ⟨rfl, vH rfl (by rw [eX (by omega), List.length_append] <;> rfl), rfl, rfl, rfl, trivial⟩, (j + 1), rfl, rfl, rfl, (by omega)⟩; omega
  refine VC.exit (VC.seq (VC.text ?_)); have nH : l.take j = l := List.take_of_length_le (by omega); refine J.c (.move rfl) ?_; refine J.pL [] rfl rfl rfl (gV.call (YY (by rw [nH]; exact h0) (by rw [nH]; exact h1))) ?_; rintro _ _ ⟨nD, rfl, rfl⟩; show J _ _ _ _ _ _ [(nD, .cap 4 ((l.take j).flatten.length) .bool [])] _; refine J.c (.assign rfl) ?_; refine J.go (VC.seq (VC.seq (VC.text ?_))); refine J.c (.move rfl) ?_; refine J.r (.len wX) ?_; refine J.c (.move rfl) ?_; refine J.go (VC.block ?_); refine VC.aV [(6, .raw nD), (25, .v mW l), (26, I ((l.length : Nat) : Int)), (27, I ((0 : Nat) : Int))] ⟨rfl, rfl, rfl, rfl, trivial⟩ ?_; refine VC.loop (I := fun kk ff ss => ∃ (i : Nat) (out : Value), kk = l.length - i /\ ff = [(6, .raw out), (25, .v mW l), (26, I ((l.length : Nat) : Int)), (27, I ((i : Nat) : Int))] /\ ss = [(out, .cap 4 ((l.take j).flatten.length) .bool ((l.take i).flatten))] /\ (i <= l.length)) ?_ _ _ _ ⟨0, nD, rfl, rfl, rfl, Nat.zero_le _⟩; rintro kk ff ss ⟨i, out, yE, rfl, rfl, hi⟩; refine VC.seq (VC.text ?_); refine J.c (.lss) ?_; refine J.go (VC.seq ?_); refine VC.aX rfl (fun R7 => ?_) (fun R7 => ?_)
  . refine VC.skip (VC.seq (VC.block (VC.seq (VC.text ?_)))); refine J.c (.ix (j := i) rfl rfl wX (by omega)) ?_; refine J.r (.ld BU) ?_; refine J.c (.assign rfl) ?_; refine J.go (VC.text ?_); have hs := r8 (l := l) (i + 1); rw [eX (by omega), List.length_append] at hs; refine J.c (.move rfl) (J.c (.move rfl) ?_); refine J.xP rfl rfl eC eC (by rw [nH]; exact hs) (by rw [nH]; exact h1) ?_; intro lU; refine J.c (.assign rfl) ?_; refine J.nil (VC.text ?_); refine J.c (.add rfl rfl (by omega)) (J.c (.move rfl) ?_); refine J.nil ?_; refine ⟨_, [(6, .raw lU), (25, .v mW l), (26, I ((l.length : Nat) : Int)), (27, I (((i + 1) : Nat) : Int))], ?_, ⟨rfl, rfl, rfl, rfl, trivial⟩, (i + 1), lU, rfl, rfl, (by rw [eX (by omega)] <;> rfl), (by omega)⟩; omega
  refine VC.exit (VC.seq ?_); refine VC.aaE (by rw [nH, List.take_of_length_le (by omega)]) ?_; refine VC.text ?_; refine J.c (.move rfl) (J.c (.assign rfl) (J.go ?_)); refine VC.ret ?_; exact mN.row rfl bP ⟨out, rfl, (by rw [List.take_of_length_le (by omega)])⟩
theorem V4 {n : Nat} (h0 : n = 0) : VF Tryz.prog OA 149 [xO, I ((n : Nat) : Int)] (xO) := by
  refine VF.enter Tryz.func149 rfl (fun _ _ => rfl) rfl ?_; show VC _ _ _ _ _ [(0, xO), (1, I ((n : Nat) : Int))] [] _; refine VC.seq (VC.text ?_); refine J.c (.assign rfl) ?_; refine J.go (VC.seq (VC.seq (VC.text ?_))); refine J.c (.move rfl) (J.c (.lss) (J.go ?_)); refine VC.aX rfl (fun c1 => ?_) (fun c1 => ?_)
  . exact absurd c1 (by omega)
  refine VC.skip (VC.seq (VC.seq (VC.text ?_))); refine J.c (.move rfl) (J.c (.move rfl) ?_); refine J.r (.OO eC) ?_; refine J.c (.move rfl) ?_; refine J.r (.OL eC) ?_; refine J.c (.sub rfl rfl (by decide)) (J.c (.sub rfl rfl (by omega)) (J.c (.assign rfl) ?_)); refine J.go (VC.seq (VC.text ?_)); refine J.c (.move rfl) (J.c (.gtr) (J.go ?_)); refine VC.aX rfl (fun c4 => ?_) (fun c4 => ?_)
  . exact absurd c4 (by omega)
  refine VC.skip (VC.seq (VC.text ?_)); refine J.c (.move rfl) (J.c (.assign rfl) (J.go ?_)); refine VC.ret ?_; exact aW.one rfl bP rfl
theorem NN {l : List (List Bool)} (hl : l.length < 100000) (h0 : l.flatten.length = 0) : gV Tryz.prog OA 116 [.v mW l] [] (fun r g => ∃ w, r = .raw w /\ g = [(w, .row 4 .bool l.flatten)]) := by
  refine gV.enter Tryz.func116 rfl (fun _ _ => rfl) rfl ?_; show VC _ _ _ _ _ [(0, .v mW l)] [] _; refine VC.seq (VC.text ?_); refine J.c (.assign rfl) ?_; refine J.go (VC.seq (VC.text ?_)); refine J.c (.assign rfl) ?_; refine J.go (VC.seq (VC.seq (VC.text ?_))); refine J.c (.move rfl) ?_; refine J.r (.len wX) ?_; refine J.c (.move rfl) ?_; refine J.go (VC.block ?_); refine VC.aV [(0, .v mW l), (3, I (((l.take 0).flatten.length : Nat) : Int)), (9, .v mW l), (10, I ((l.length : Nat) : Int)), (11, I ((0 : Nat) : Int))] ⟨rfl, vH rfl (by rfl), rfl, rfl, rfl, trivial⟩ ?_; refine VC.loop (I := fun kk ff ss => ∃ (j : Nat), kk = l.length - j /\ ff = [(0, .v mW l), (3, I (((l.take j).flatten.length : Nat) : Int)), (9, .v mW l), (10, I ((l.length : Nat) : Int)), (11, I ((j : Nat) : Int))] /\ ss = [] /\ (j <= l.length)) ?_ _ _ _ ⟨0, rfl, rfl, rfl, Nat.zero_le _⟩; rintro kk ff ss ⟨j, kJ, rfl, rfl, hj⟩; refine VC.seq (VC.text ?_); refine J.c (.lss) ?_; refine J.go (VC.seq ?_); refine VC.aX rfl (fun c3 => ?_) (fun c3 => ?_)
  . refine VC.skip (VC.seq (VC.block (VC.seq (VC.text ?_)))); refine J.c (.ix (j := j) rfl rfl wX (by omega)) ?_; refine J.r (.ld BU) ?_; refine J.c (.assign rfl) ?_; refine J.go (VC.seq (VC.text ?_)); have hs := r8 (l := l) (j + 1); rw [eX (by omega), List.length_append] at hs; refine J.c (.move rfl) (J.c (.move rfl) ?_); refine J.r (.len eC) ?_; refine J.c (.add rfl rfl (by omega)) (J.c (.assign rfl) ?_); refine J.go (VC.seq (VC.text ?_)); refine J.c (.move rfl) (J.c (.lss) (J.go ?_)); refine VC.aX rfl (fun c6 => ?_) (fun c6 => ?_)
    . exact absurd c6 (by omega)
    refine VC.skip (VC.text ?_); refine J.c (.add rfl rfl (by omega)) (J.c (.move rfl) ?_); refine J.nil ?_; refine ⟨_, [(0, .v mW l), (3, I (((l.take (j + 1)).flatten.length : Nat) : Int)), (9, .v mW l), (10, I ((l.length : Nat) : Int)), (11, I (((j + 1) : Nat) : Int))], ?_, ⟨rfl, vH rfl (by rw [eX (by omega), List.length_append] <;> rfl), rfl, rfl, rfl, trivial⟩, (j + 1), rfl, rfl, rfl, (by omega)⟩; omega
  refine VC.exit (VC.seq (VC.text ?_)); have nH : l.take j = l := List.take_of_length_le (by omega); refine J.c (.move rfl) ?_; refine J.call rfl rfl (VF.call (V4 (by rw [nH]; exact h0))) ?_; refine J.c (.assign rfl) ?_; refine J.go (VC.seq (VC.seq (VC.text ?_))); refine J.c (.move rfl) ?_; refine J.r (.len wX) ?_; refine J.c (.move rfl) ?_; refine J.go (VC.block ?_); refine VC.cell0 4 .bool ?_; refine VC.aV [(6, .raw (.slice none 0 0)), (25, .v mW l), (26, I ((l.length : Nat) : Int)), (27, I ((0 : Nat) : Int))] ⟨rfl, rfl, rfl, rfl, trivial⟩ ?_; refine VC.loop (I := fun kk ff ss => ∃ (i : Nat) (out : Value), kk = l.length - i /\ ff = [(6, .raw out), (25, .v mW l), (26, I ((l.length : Nat) : Int)), (27, I ((i : Nat) : Int))] /\ ss = [(out, .row 4 .bool ((l.take i).flatten))] /\ (i <= l.length)) ?_ _ _ _ ⟨0, (.slice none 0 0), rfl, rfl, rfl, Nat.zero_le _⟩; rintro kk ff ss ⟨i, out, yE, rfl, rfl, hi⟩; refine VC.seq (VC.text ?_); refine J.c (.lss) ?_; refine J.go (VC.seq ?_); refine VC.aX rfl (fun R7 => ?_) (fun R7 => ?_)
  . refine VC.skip (VC.seq (VC.block (VC.seq (VC.text ?_)))); refine J.c (.ix (j := i) rfl rfl wX (by omega)) ?_; refine J.r (.ld BU) ?_; refine J.c (.assign rfl) ?_; refine J.go (VC.text ?_); have hs := r8 (l := l) (i + 1); rw [eX (by omega), List.length_append] at hs; refine J.c (.move rfl) (J.c (.move rfl) ?_); refine J.app rfl rfl eC eC (by omega) ?_; intro tN; refine J.c (.assign rfl) ?_; refine J.nil (VC.text ?_); refine J.c (.add rfl rfl (by omega)) (J.c (.move rfl) ?_); refine J.nil ?_; refine ⟨_, [(6, .raw tN), (25, .v mW l), (26, I ((l.length : Nat) : Int)), (27, I (((i + 1) : Nat) : Int))], ?_, ⟨rfl, rfl, rfl, rfl, trivial⟩, (i + 1), tN, rfl, rfl, (by rw [eX (by omega)] <;> rfl), (by omega)⟩; omega
  refine VC.exit (VC.seq (VC.text ?_)); refine J.c (.move rfl) (J.c (.assign rfl) (J.go ?_)); refine VC.ret ?_; exact mN.row rfl bP ⟨out, rfl, (by rw [List.take_of_length_le (by omega)])⟩
theorem R8 {l : List (List Bool)} (hl : l.length < 100000) (h1 : l.flatten.length <= 1000000) : gV Tryz.prog OA 116 [.v mW l] [] (fun r g => ∃ w, r = .raw w /\ g = [(w, .row 4 .bool l.flatten)]) := by
  by_cases h : l.flatten.length = 0
  . exact NN hl h
  exact NM hl (Nat.pos_of_ne_zero h) h1
theorem YZ {n : Nat} (h0 : 0 < n) (h1 : n <= 1000000) : gV Tryz.prog OA 150 [xO, I ((n : Nat) : Int)] [] (fun r g => ∃ w, r = .raw w /\ g = [(w, .cap 59 n (.aO .f32) [])]) := by
  refine gV.enter Tryz.func150 rfl (fun _ _ => rfl) rfl ?_; show VC _ _ _ _ _ [(0, xO), (1, I ((n : Nat) : Int))] [] _; refine VC.seq (VC.text ?_); refine J.c (.assign rfl) ?_; refine J.go (VC.seq (VC.seq (VC.text ?_))); refine J.c (.move rfl) (J.c (.lss) (J.go ?_)); refine VC.aX rfl (fun c1 => ?_) (fun c1 => ?_)
  . exact absurd c1 (by omega)
  refine VC.skip (VC.seq (VC.seq (VC.text ?_))); refine J.c (.move rfl) (J.c (.move rfl) ?_); refine J.r (.OO bW) ?_; refine J.c (.move rfl) ?_; refine J.r (.OL bW) ?_; refine J.c (.sub rfl rfl (by decide)) (J.c (.sub rfl rfl (by omega)) (J.c (.assign rfl) ?_)); refine J.go (VC.seq (VC.text ?_)); refine J.c (.move rfl) (J.c (.gtr) (J.go ?_)); refine VC.aX rfl (fun c4 => ?_) (fun c4 => ?_)
  . refine VC.text ?_; refine J.c (.move rfl) (J.c (.move rfl) ?_); refine J.r (.OO bW) ?_; refine J.r (.ajO bW rfl rfl) ?_; refine J.c (.move rfl) ?_; refine J.grow (k := n) rfl (congrArg (fun z : Int => some (PV.v (.int .i64) z)) (show (((n : Nat) : Int) - (((0 : Nat) : Int) - ((0 : Nat) : Int))) = ((n : Nat) : Int) by omega)) bW (by kernel_rfl) (by omega) (by omega) ?_; intro bb5; refine J.c (.move rfl) ?_; refine J.r (.OL bW) ?_; refine J.r (.ajP bW rfl rfl) ?_; refine J.c (.assign rfl) ?_; refine J.go (VC.seq (VC.text ?_)); refine J.c (.move rfl) (J.c (.assign rfl) (J.go ?_)); refine VC.ret ?_; exact mN.cap rfl bP m0 ⟨(.slice (some ⟨bb5, 0, none⟩) 0 0), rfl, (by rfl)⟩
  exact absurd (by omega) c4
theorem NO {l : List (List Nat)} (hl : l.length < 100000) (h0 : 0 < l.flatten.length) (h1 : l.flatten.length <= 1000000) : gV Tryz.prog OA 117 [.v mX l] [] (fun r g => ∃ w, r = .raw w /\ g = [(w, .row 59 (.aO .f32) l.flatten)]) := by
  refine gV.enter Tryz.func117 rfl (fun _ _ => rfl) rfl ?_; show VC _ _ _ _ _ [(0, .v mX l)] [] _; refine VC.seq (VC.text ?_); refine J.c (.assign rfl) ?_; refine J.go (VC.seq (VC.text ?_)); refine J.c (.assign rfl) ?_; refine J.go (VC.seq (VC.seq (VC.text ?_))); refine J.c (.move rfl) ?_; refine J.r (.len wY) ?_; refine J.c (.move rfl) ?_; refine J.go (VC.block ?_); refine VC.aV [(0, .v mX l), (3, I (((l.take 0).flatten.length : Nat) : Int)), (9, .v mX l), (10, I ((l.length : Nat) : Int)), (11, I ((0 : Nat) : Int))] ⟨rfl, vH rfl (by rfl), rfl, rfl, rfl, trivial⟩ ?_; refine VC.loop (I := fun kk ff ss => ∃ (j : Nat), kk = l.length - j /\ ff = [(0, .v mX l), (3, I (((l.take j).flatten.length : Nat) : Int)), (9, .v mX l), (10, I ((l.length : Nat) : Int)), (11, I ((j : Nat) : Int))] /\ ss = [] /\ (j <= l.length)) ?_ _ _ _ ⟨0, rfl, rfl, rfl, Nat.zero_le _⟩; rintro kk ff ss ⟨j, kJ, rfl, rfl, hj⟩; refine VC.seq (VC.text ?_); refine J.c (.lss) ?_; refine J.go (VC.seq ?_); refine VC.aX rfl (fun c3 => ?_) (fun c3 => ?_)
  . refine VC.skip (VC.seq (VC.block (VC.seq (VC.text ?_)))); refine J.c (.ix (j := j) rfl rfl wY (by omega)) ?_; refine J.r (.ld dG) ?_; refine J.c (.assign rfl) ?_; refine J.go (VC.seq (VC.text ?_)); have hs := r8 (l := l) (j + 1); rw [eX (by omega), List.length_append] at hs; refine J.c (.move rfl) (J.c (.move rfl) ?_); refine J.r (.len bW) ?_; refine J.c (.add rfl rfl (by omega)) (J.c (.assign rfl) ?_); refine J.go (VC.seq (VC.text ?_)); refine J.c (.move rfl) (J.c (.lss) (J.go ?_)); refine VC.aX rfl (fun c6 => ?_) (fun c6 => ?_)
    . exact absurd c6 (by omega)
    refine VC.skip (VC.text ?_); refine J.c (.add rfl rfl (by omega)) (J.c (.move rfl) ?_); refine J.nil ?_; refine ⟨_, [(0, .v mX l), (3, I (((l.take (j + 1)).flatten.length : Nat) : Int)), (9, .v mX l), (10, I ((l.length : Nat) : Int)), (11, I (((j + 1) : Nat) : Int))], ?_, ⟨rfl, vH rfl (by rw [eX (by omega), List.length_append] <;> rfl), rfl, rfl, rfl, trivial⟩, (j + 1), rfl, rfl, rfl, (by omega)⟩; omega
  refine VC.exit (VC.seq (VC.text ?_)); have nH : l.take j = l := List.take_of_length_le (by omega); refine J.c (.move rfl) ?_; refine J.pL [] rfl rfl rfl (gV.call (YZ (by rw [nH]; exact h0) (by rw [nH]; exact h1))) ?_; rintro _ _ ⟨z8, rfl, rfl⟩; show J _ _ _ _ _ _ [(z8, .cap 59 ((l.take j).flatten.length) (.aO .f32) [])] _; refine J.c (.assign rfl) ?_; refine J.go (VC.seq (VC.seq (VC.text ?_))); refine J.c (.move rfl) ?_; refine J.r (.len wY) ?_; refine J.c (.move rfl) ?_; refine J.go (VC.block ?_); refine VC.aV [(6, .raw z8), (25, .v mX l), (26, I ((l.length : Nat) : Int)), (27, I ((0 : Nat) : Int))] ⟨rfl, rfl, rfl, rfl, trivial⟩ ?_; refine VC.loop (I := fun kk ff ss => ∃ (i : Nat) (out : Value), kk = l.length - i /\ ff = [(6, .raw out), (25, .v mX l), (26, I ((l.length : Nat) : Int)), (27, I ((i : Nat) : Int))] /\ ss = [(out, .cap 59 ((l.take j).flatten.length) (.aO .f32) ((l.take i).flatten))] /\ (i <= l.length)) ?_ _ _ _ ⟨0, z8, rfl, rfl, rfl, Nat.zero_le _⟩; rintro kk ff ss ⟨i, out, yE, rfl, rfl, hi⟩; refine VC.seq (VC.text ?_); refine J.c (.lss) ?_; refine J.go (VC.seq ?_); refine VC.aX rfl (fun R7 => ?_) (fun R7 => ?_)
  . refine VC.skip (VC.seq (VC.block (VC.seq (VC.text ?_)))); refine J.c (.ix (j := i) rfl rfl wY (by omega)) ?_; refine J.r (.ld dG) ?_; refine J.c (.assign rfl) ?_; refine J.go (VC.text ?_); have hs := r8 (l := l) (i + 1); rw [eX (by omega), List.length_append] at hs; refine J.c (.move rfl) (J.c (.move rfl) ?_); refine J.xP rfl rfl bW bW (by rw [nH]; exact hs) (by rw [nH]; exact h1) ?_; intro ww7; refine J.c (.assign rfl) ?_; refine J.nil (VC.text ?_); refine J.c (.add rfl rfl (by omega)) (J.c (.move rfl) ?_); refine J.nil ?_; refine ⟨_, [(6, .raw ww7), (25, .v mX l), (26, I ((l.length : Nat) : Int)), (27, I (((i + 1) : Nat) : Int))], ?_, ⟨rfl, rfl, rfl, rfl, trivial⟩, (i + 1), ww7, rfl, rfl, (by rw [eX (by omega)] <;> rfl), (by omega)⟩; omega
  refine VC.exit (VC.seq ?_); refine VC.aaE (by rw [nH, List.take_of_length_le (by omega)]) ?_; refine VC.text ?_; refine J.c (.move rfl) (J.c (.assign rfl) (J.go ?_)); refine VC.ret ?_; exact mN.row rfl bP ⟨out, rfl, (by rw [List.take_of_length_le (by omega)])⟩
theorem V5 {n : Nat} (h0 : n = 0) : VF Tryz.prog OA 150 [xO, I ((n : Nat) : Int)] (xO) := by
  refine VF.enter Tryz.func150 rfl (fun _ _ => rfl) rfl ?_; show VC _ _ _ _ _ [(0, xO), (1, I ((n : Nat) : Int))] [] _; refine VC.seq (VC.text ?_); refine J.c (.assign rfl) ?_; refine J.go (VC.seq (VC.seq (VC.text ?_))); refine J.c (.move rfl) (J.c (.lss) (J.go ?_)); refine VC.aX rfl (fun c1 => ?_) (fun c1 => ?_)
  . exact absurd c1 (by omega)
  refine VC.skip (VC.seq (VC.seq (VC.text ?_))); refine J.c (.move rfl) (J.c (.move rfl) ?_); refine J.r (.OO bW) ?_; refine J.c (.move rfl) ?_; refine J.r (.OL bW) ?_; refine J.c (.sub rfl rfl (by decide)) (J.c (.sub rfl rfl (by omega)) (J.c (.assign rfl) ?_)); refine J.go (VC.seq (VC.text ?_)); refine J.c (.move rfl) (J.c (.gtr) (J.go ?_)); refine VC.aX rfl (fun c4 => ?_) (fun c4 => ?_)
  . exact absurd c4 (by omega)
  refine VC.skip (VC.seq (VC.text ?_)); refine J.c (.move rfl) (J.c (.assign rfl) (J.go ?_)); refine VC.ret ?_; exact aW.one rfl bP rfl
theorem NP {l : List (List Nat)} (hl : l.length < 100000) (h0 : l.flatten.length = 0) : gV Tryz.prog OA 117 [.v mX l] [] (fun r g => ∃ w, r = .raw w /\ g = [(w, .row 59 (.aO .f32) l.flatten)]) := by
  refine gV.enter Tryz.func117 rfl (fun _ _ => rfl) rfl ?_; show VC _ _ _ _ _ [(0, .v mX l)] [] _; refine VC.seq (VC.text ?_); refine J.c (.assign rfl) ?_; refine J.go (VC.seq (VC.text ?_)); refine J.c (.assign rfl) ?_; refine J.go (VC.seq (VC.seq (VC.text ?_))); refine J.c (.move rfl) ?_; refine J.r (.len wY) ?_; refine J.c (.move rfl) ?_; refine J.go (VC.block ?_); refine VC.aV [(0, .v mX l), (3, I (((l.take 0).flatten.length : Nat) : Int)), (9, .v mX l), (10, I ((l.length : Nat) : Int)), (11, I ((0 : Nat) : Int))] ⟨rfl, vH rfl (by rfl), rfl, rfl, rfl, trivial⟩ ?_; refine VC.loop (I := fun kk ff ss => ∃ (j : Nat), kk = l.length - j /\ ff = [(0, .v mX l), (3, I (((l.take j).flatten.length : Nat) : Int)), (9, .v mX l), (10, I ((l.length : Nat) : Int)), (11, I ((j : Nat) : Int))] /\ ss = [] /\ (j <= l.length)) ?_ _ _ _ ⟨0, rfl, rfl, rfl, Nat.zero_le _⟩; rintro kk ff ss ⟨j, kJ, rfl, rfl, hj⟩; refine VC.seq (VC.text ?_); refine J.c (.lss) ?_; refine J.go (VC.seq ?_); refine VC.aX rfl (fun c3 => ?_) (fun c3 => ?_)
  . refine VC.skip (VC.seq (VC.block (VC.seq (VC.text ?_)))); refine J.c (.ix (j := j) rfl rfl wY (by omega)) ?_; refine J.r (.ld dG) ?_; refine J.c (.assign rfl) ?_; refine J.go (VC.seq (VC.text ?_)); have hs := r8 (l := l) (j + 1); rw [eX (by omega), List.length_append] at hs; refine J.c (.move rfl) (J.c (.move rfl) ?_); refine J.r (.len bW) ?_; refine J.c (.add rfl rfl (by omega)) (J.c (.assign rfl) ?_); refine J.go (VC.seq (VC.text ?_)); refine J.c (.move rfl) (J.c (.lss) (J.go ?_)); refine VC.aX rfl (fun c6 => ?_) (fun c6 => ?_)
    . exact absurd c6 (by omega)
    refine VC.skip (VC.text ?_); refine J.c (.add rfl rfl (by omega)) (J.c (.move rfl) ?_); refine J.nil ?_; refine ⟨_, [(0, .v mX l), (3, I (((l.take (j + 1)).flatten.length : Nat) : Int)), (9, .v mX l), (10, I ((l.length : Nat) : Int)), (11, I (((j + 1) : Nat) : Int))], ?_, ⟨rfl, vH rfl (by rw [eX (by omega), List.length_append] <;> rfl), rfl, rfl, rfl, trivial⟩, (j + 1), rfl, rfl, rfl, (by omega)⟩; omega
  refine VC.exit (VC.seq (VC.text ?_)); have nH : l.take j = l := List.take_of_length_le (by omega); refine J.c (.move rfl) ?_; refine J.call rfl rfl (VF.call (V5 (by rw [nH]; exact h0))) ?_; refine J.c (.assign rfl) ?_; refine J.go (VC.seq (VC.seq (VC.text ?_))); refine J.c (.move rfl) ?_; refine J.r (.len wY) ?_; refine J.c (.move rfl) ?_; refine J.go (VC.block ?_); refine VC.cell0 59 (.aO .f32) ?_; refine VC.aV [(6, .raw (.slice none 0 0)), (25, .v mX l), (26, I ((l.length : Nat) : Int)), (27, I ((0 : Nat) : Int))] ⟨rfl, rfl, rfl, rfl, trivial⟩ ?_; refine VC.loop (I := fun kk ff ss => ∃ (i : Nat) (out : Value), kk = l.length - i /\ ff = [(6, .raw out), (25, .v mX l), (26, I ((l.length : Nat) : Int)), (27, I ((i : Nat) : Int))] /\ ss = [(out, .row 59 (.aO .f32) ((l.take i).flatten))] /\ (i <= l.length)) ?_ _ _ _ ⟨0, (.slice none 0 0), rfl, rfl, rfl, Nat.zero_le _⟩; rintro kk ff ss ⟨i, out, yE, rfl, rfl, hi⟩; refine VC.seq (VC.text ?_); refine J.c (.lss) ?_; refine J.go (VC.seq ?_); refine VC.aX rfl (fun R7 => ?_) (fun R7 => ?_)
  . refine VC.skip (VC.seq (VC.block (VC.seq (VC.text ?_)))); refine J.c (.ix (j := i) rfl rfl wY (by omega)) ?_; refine J.r (.ld dG) ?_; refine J.c (.assign rfl) ?_; refine J.go (VC.text ?_); have hs := r8 (l := l) (i + 1); rw [eX (by omega), List.length_append] at hs; refine J.c (.move rfl) (J.c (.move rfl) ?_); refine J.app rfl rfl bW bW (by omega) ?_; intro wZ; refine J.c (.assign rfl) ?_; refine J.nil (VC.text ?_); refine J.c (.add rfl rfl (by omega)) (J.c (.move rfl) ?_); refine J.nil ?_; refine ⟨_, [(6, .raw wZ), (25, .v mX l), (26, I ((l.length : Nat) : Int)), (27, I (((i + 1) : Nat) : Int))], ?_, ⟨rfl, rfl, rfl, rfl, trivial⟩, (i + 1), wZ, rfl, rfl, (by rw [eX (by omega)] <;> rfl), (by omega)⟩; omega
  refine VC.exit (VC.seq (VC.text ?_)); refine J.c (.move rfl) (J.c (.assign rfl) (J.go ?_)); refine VC.ret ?_; exact mN.row rfl bP ⟨out, rfl, (by rw [List.take_of_length_le (by omega)])⟩
theorem R9 {l : List (List Nat)} (hl : l.length < 100000) (h1 : l.flatten.length <= 1000000) : gV Tryz.prog OA 117 [.v mX l] [] (fun r g => ∃ w, r = .raw w /\ g = [(w, .row 59 (.aO .f32) l.flatten)]) := by
  by_cases h : l.flatten.length = 0
  . exact NP hl h
  exact NO hl (Nat.pos_of_ne_zero h) h1
end Go.Proofs
namespace Go.Fs
variable {P : Program} {fl : VL} {σ : aR} {T : TypeId} {τ : Ty} {h : U} {S : List Nat}
inductive M1 : PV -> List PV -> Prop where
  | v {τ : Ty} {x : τ.den} : M1 (.v τ x) (j5 τ x)
  | w {w : Value} (ho : aN w = true) : M1 (.raw w) [.raw w]
theorem Z0 {w : Value} (ho : aN w = true) : w.cells.toList = [w] := by
  cases w with
  | agg cs => cases ho
  | _ => rfl
theorem M1.ok {p : PV} {qs : List PV} {u : Value} (hp : M1 p qs) (hu : aH h S p u) : bA h S qs u.cells.toList /\ u.cells.toList.all aN = true /\ u.cells.toList.length = qs.length := by
  cases hp with
  | v => 
    have hv : aE h S _ u _ := hu; have h1 := mL hv.2
    exact ⟨h1, hv.2.kC, h1.len⟩
  | w ho =>
    obtain rfl : u = _ := hu; rw [Z0 ho]; exact ⟨⟨_, [], rfl, rfl, rfl⟩, by rw [List.all_cons, ho]; rfl, rfl⟩
inductive M3 (pl : List (Nat × Nat)) : List PV -> List Nat -> List PV -> List PV -> Prop where
  | nil {L L' : List PV} (h : L = L') : M3 pl L [] [] L'
  | cons {L L' : List PV} {i o : Nat} {is : List Nat} {p : PV} {ps qs : List PV} (hp : M1 p qs) (hpl : pl[i]? = some (o, qs.length)) (ho : Nat.ble (o + qs.length) L.length = true) (r : M3 pl (DP L o qs) is ps L') : M3 pl L (i :: is) (p :: ps) L'
theorem M3.fill {pl : List (Nat × Nat)} : ∀ {is : List Nat} {ps : List PV} {us : List Value} {L L' : List PV} {cs : List Value}, M3 pl L is ps L' -> bA h S ps us -> bA h S L cs -> cs.all aN = true ->
    ∃ cs', Instr.fill (pl[·]?) cs.toArray (is.zip us) = some cs'.toArray /\ bA h S L' cs' /\ us.all (fun u => u.cells.toList.all aN) = true /\ is.length = us.length
  | [], [], us, L, L', cs, .nil e, hp, hL, ho => by
    obtain rfl : us = [] := hp; subst e
    exact ⟨cs, rfl, hL, rfl, rfl⟩
  | i :: is, p :: ps, us, L, L', cs, .cons (o := o) (qs := qs) hp hpl anN hr, ⟨u, r, h1, h2, h3⟩, hL, ho => by
    subst h1; have hlen := hL.len; have hle := fY anN; obtain ⟨g1, g2, FF⟩ := hp.ok h2
    have XJ : u.cells.size = qs.length := by simpa using FF
    obtain ⟨cs', f1, f2, f3, f4⟩ := M3.fill hr h3 (hL.DP o g1) (tZ o ho g2); refine ⟨cs', ?_, f2, by rw [List.all_cons, g2, f3]; rfl, by simp [f4]⟩; simp only [List.zip_cons_cons, Instr.fill, hpl]
    have h9 : (u.cells.size ≠ qs.length || o + u.cells.size > cs.toArray.size) = false := by simp [XJ]; omega
    rw [h9]; simp only [Bool.false_eq_true, if_false]
    have vF : u.cells.zipIdx.foldl (fun (cs : Array Value) (p : Value × Nat) => cs.setIfInBounds (o + p.2) p.1) cs.toArray = (bF cs o u.cells.toList).toArray := by
      have e0 : cs = cs.take o ++ ((cs.drop o).take qs.length) ++ cs.drop (o + qs.length) := by
        rw [<- List.drop_drop, List.append_assoc, List.take_append_drop, List.take_append_drop]
      have := DK qs.length o u (cs.take o) ((cs.drop o).take qs.length) (cs.drop (o + qs.length)) (by rw [List.length_take]; omega) (by rw [List.length_take, List.length_drop]; omega) XJ; rw [<- e0] at this; rw [this]; unfold bF; rw [FF]
    rw [vF]; exact f1
theorem aI.RA {pl : List (Nat × Nat)} {parts : Array (Nat × Operand)} {zs : List Value} {ps cs : List PV} (hT : L4 P T τ pl) (hz : pK τ = zs) (FJ : kI fl (parts.toList.map (·.2)) = some ps) (hb : M3 pl (zs.map .raw) (parts.toList.map (·.1)) ps cs) : aI P fl σ (.build T parts) (.agg cs) :=
  ⟨rfl, fun h S t hs _ => by
    obtain ⟨z, z1, z2, z3⟩ := hT.zer.zero; obtain ⟨y1, y2⟩ := qG h S τ; have hr : bA h S ps ((parts.toList.map (·.2)).map (aB t)) := wO (fun x hx => hs x (by simpa [Op.operands] using hx)) FJ; obtain ⟨cs', f1, f2, f3, f4⟩ := hb.fill hr (show bA h S (zs.map .raw) (pK τ) from by rw [hz]; exact OT zs) (DL y2); refine ⟨.agg cs'.toArray, ⟨cs', rfl, f2⟩, fun _ _ _ _ _ H => ?_⟩; show (bif (parts.toList.all fun p => (aB t p.2).cells.toList.all aN) && ((((P.info? T).bind (·.zero)).map fun z => z.cells.toList.all eD) == some true) then (aD P (Instr.build T (parts.map fun p => (p.1, aB t p.2)))).map fun v => (v, H) else none) = _
    have c1 : (parts.toList.all fun p => (aB t p.2).cells.toList.all aN) = true := by
      rw [List.map_map, List.all_map] at f3; exact f3
    have c2 : ((((P.info? T).bind (·.zero)).map fun z => z.cells.toList.all eD) == some true) = true := by
      rw [z1]
      have e : z.cells.toList.all eD = true := by rw [z2]; exact y2
      simp only [Option.map_some, e]; rfl
    have eZ := hT.run z (parts.map fun p => (p.1, aB t p.2)) cs'.toArray z1 (by
      rw [<- f1, Array.toList_map, <- zip_map, List.map_map]; congr 1
      rw [<- z2])
    rw [c1, c2, eZ]
    rfl⟩
theorem xS {p : PV} {l : List PV} (h : p.one = true) (r : l.all PV.one = true) : (p :: l).all PV.one = true := by rw [List.all_cons, h, r]; rfl
end Go.Fs
namespace Go.Proofs
open Go.Fs Ieee
set_option maxHeartbeats 2000000
theorem aaL : r6 Tryz.prog 55 dY := nX (z := .agg #[.string ByteArray.empty, .int .i64 0, .slice none 0 0, .slice none 0 0]) (by kernel_rfl) rfl rfl
theorem anO : r6 Tryz.prog 59 (.aO .f32) := nX (z := .float .f32 0) (by kernel_rfl) rfl rfl
theorem ajY : L4 Tryz.prog 55 dY [(0, 1), (1, 1), (2, 1), (3, 1)] := DR aaL rfl (by kernel_rfl)
def vN (out : List (Int × Int)) (s : Int × Int) : List (Int × Int) :=
  if s.2 <= s.1 then out
  else if 0 < out.length /\ s.1 <= (jF out (out.length - 1)).2 then out.set (out.length - 1) ((jF out (out.length - 1)).1, max (jF out (out.length - 1)).2 s.2)
  else out ++ [s]
def fV (l : List (Int × Int)) : List (Int × Int) := l.foldl vN []
theorem M4 (l : List (Int × Int)) (s : Int × Int) : fV (l ++ [s]) = vN (fV l) s := by simp [fV]
theorem Z1 {l : List (Int × Int)} {j : Nat} (h : j < l.length) : fV (l.take (j + 1)) = vN (fV (l.take j)) l[j] := by
  rw [List.take_succ_eq_append_getElem h, M4]
theorem ad0 (out : List (Int × Int)) (s : Int × Int) : (vN out s).length <= out.length + 1 := by
  unfold vN; split
  . omega
  split
  . rw [List.length_set]; omega
  rw [List.length_append, List.length_singleton]; omega
theorem M5 : ∀ (l out : List (Int × Int)), (l.foldl vN out).length <= out.length + l.length
  | [], out => by simp
  | s :: l, out => by
    have h1 := M5 l (vN out s); have h2 := ad0 out s; rw [List.foldl_cons, List.length_cons]; omega
theorem A2 (l : List (Int × Int)) : (fV l).length <= l.length := by
  have := M5 l []; simpa [fV] using this
theorem aiN {out : List (Int × Int)} {s : Int × Int} (h : s.2 <= s.1) : vN out s = out := by rw [vN, if_pos h]
theorem aaM {out : List (Int × Int)} {s : Int × Int} (h : ¬ s.2 <= s.1) (h0 : 0 < out.length) (h1 : s.1 <= (jF out (out.length - 1)).2) : vN out s = out.set (out.length - 1) ((jF out (out.length - 1)).1, max (jF out (out.length - 1)).2 s.2) := by rw [vN, if_neg h, if_pos ⟨h0, h1⟩]
theorem RB {out : List (Int × Int)} {s : Int × Int} (h : ¬ s.2 <= s.1) (h1 : ¬ (0 < out.length /\ s.1 <= (jF out (out.length - 1)).2)) : vN out s = out ++ [s] := by rw [vN, if_neg h, if_neg h1]
def zA (out : List (Int × Int)) (i : Nat) : List (Int × Int) :=
  if 0 < out.length /\ (jF out (out.length - 1)).2 = (i : Int) then out.set (out.length - 1) ((jF out (out.length - 1)).1, (i : Int) + 1)
  else out ++ [((i : Int), (i : Int) + 1)]
def dQ (l : List Bool) : Nat -> List (Int × Int)
  | 0 => []
  | i + 1 => if l.getD i false = true then dQ l i else zA (dQ l i) i
theorem ad1 (out : List (Int × Int)) (i : Nat) : (zA out i).length <= out.length + 1 := by
  unfold zA; split
  . rw [List.length_set]; omega
  rw [List.length_append, List.length_singleton]; omega
theorem M6 (l : List Bool) : ∀ i, (dQ l i).length <= i
  | 0 => Nat.le_refl _
  | i + 1 => by
    have h1 := M6 l i; have h2 := ad1 (dQ l i) i; unfold dQ; split <;> omega
theorem aaN {out : List (Int × Int)} {i : Nat} (h0 : 0 < out.length) (h1 : (jF out (out.length - 1)).2 = (i : Int)) : zA out i = out.set (out.length - 1) ((jF out (out.length - 1)).1, (i : Int) + 1) := by rw [zA, if_pos ⟨h0, h1⟩]
theorem RC {out : List (Int × Int)} {i : Nat} (h1 : ¬ (0 < out.length /\ (jF out (out.length - 1)).2 = (i : Int))) : zA out i = out ++ [((i : Int), (i : Int) + 1)] := by rw [zA, if_neg h1]
def hJ (l : List Bool) : Nat -> List (Int × Int)
  | 0 => []
  | i + 1 => if l.getD i false = true then hJ l i else hJ l i ++ [((i : Int), (i : Int) + 1)]
theorem vO {l : List Bool} {i : Nat} (h : i < l.length) (hb : l[i] = true) : hJ l (i + 1) = hJ l i := by
  rw [hJ, if_pos (by rw [List.getD_eq_getElem?_getD, List.getElem?_eq_getElem h]; exact hb)]
theorem zB {l : List Bool} {i : Nat} (h : i < l.length) (hb : ¬ l[i] = true) : hJ l (i + 1) = hJ l i ++ [((i : Int), (i : Int) + 1)] := by
  rw [hJ, if_neg (by rw [List.getD_eq_getElem?_getD, List.getElem?_eq_getElem h]; exact hb)]
theorem x3 (l : List Bool) : ∀ i, (hJ l i).length <= i
  | 0 => Nat.le_refl _
  | i + 1 => by
    have h1 := x3 l i; unfold hJ; split
    . omega
    rw [List.length_append, List.length_singleton]; omega
theorem NQ {out : List (Int × Int)} {s : Int × Int} (h : 0 < out.length) : jF (out.set (out.length - 1) s) ((out.set (out.length - 1) s).length - 1) = s := by
  rw [fJ (by rw [List.length_set]; omega), List.getElem_set, if_pos (by rw [List.length_set])]
theorem NR {out : List (Int × Int)} {s : Int × Int} : jF (out ++ [s]) ((out ++ [s]).length - 1) = s := by
  rw [fJ (by simp), List.getElem_append_right (by simp)]; simp
theorem M7 (l : List Bool) : ∀ i, 0 < (dQ l i).length -> (jF (dQ l i) ((dQ l i).length - 1)).2 <= (i : Int)
  | 0 => fun h => absurd h (by simp [dQ])
  | i + 1 => fun h => by
    unfold dQ at h ⊢; split at h
    . rename_i hb; rw [if_pos hb]; have := M7 l i h; omega
    rename_i hb; rw [if_neg hb]; unfold zA; split
    . rename_i hc; rw [NQ hc.1]; simp
    rw [NR]; simp
theorem A3 (l : List Bool) : ∀ i, fV (hJ l i) = dQ l i
  | 0 => rfl
  | i + 1 => by
    unfold hJ dQ; split
    . exact A3 l i
    rw [M4, A3 l i]; have hl := M7 l i; by_cases hc : 0 < (dQ l i).length /\ (jF (dQ l i) ((dQ l i).length - 1)).2 = (i : Int)
    . rw [aaN hc.1 hc.2, aaM (by show ¬ ((i : Int) + 1 <= (i : Int)); omega) hc.1 (by show (i : Int) <= _; omega)]; congr 2; show max _ ((i : Int) + 1) = _; omega
    rw [RC hc, RB (by show ¬ ((i : Int) + 1 <= (i : Int)); omega) (fun hd => hc ⟨hd.1, by have := hl hd.1; have h2 : (i : Int) <= _ := hd.2; omega⟩)]
theorem V6 {l : List (Int × Int)} {n : Nat} (h0 : 0 < n) (h : ((n : Int) - 1).toNat < l.length) : l[((n : Int) - 1).toNat] = jF l (n - 1) := by
  have e : ((n : Int) - 1).toNat = n - 1 := by omega
  simp only [e] at h ⊢; exact (fJ h).symm
theorem HU {rR : Value} {xs : List (Int × Int)} (hl : xs.length < 1000000) : gV Tryz.prog OA 113 [.raw rR] [(rR, .row 39 gH xs)] (fun r' g => r' = (.v aZ (fV xs)) /\ g = []) := by
  refine gV.aiG Tryz.func113 rfl (fun _ _ => rfl) rfl ?_; show VC _ _ _ _ _ [(0, .raw rR)] [(rR, .row 39 gH xs)] _; refine VC.seq (VC.text ?_); refine J.c (.assign rfl) ?_; refine J.go (VC.seq (VC.text ?_)); refine J.c (.assign rfl) ?_; refine J.go (VC.seq (VC.seq (VC.text ?_))); refine J.c (.move rfl) ?_; refine J.r (.TM m0 cD) ?_; refine J.c (.move rfl) ?_; refine J.go (VC.block ?_); refine VC.cell0 39 gH ?_; refine VC.aV [(3, .raw (.slice none 0 0)), (7, .raw rR), (8, I ((xs.length : Nat) : Int)), (9, I ((0 : Nat) : Int))] ⟨rfl, rfl, rfl, rfl, trivial⟩ ?_; refine VC.loop (I := fun kk ff ss => ∃ (i : Nat) (out : Value), kk = xs.length - i /\ ff = [(3, .raw out), (7, .raw rR), (8, I ((xs.length : Nat) : Int)), (9, I ((i : Nat) : Int))] /\ ss = [(out, .row 39 gH (fV (xs.take i))), (rR, .row 39 gH xs)] /\ (i <= xs.length) /\ ((fV (xs.take i)).length <= i)) ?_ _ _ _ ⟨0, (.slice none 0 0), rfl, rfl, rfl, Nat.zero_le _, (by rw [List.take_zero]; exact Nat.le_refl _)⟩; rintro kk ff ss ⟨i, out, kJ, rfl, rfl, hi, sN⟩; refine VC.seq (VC.text ?_); refine J.c (.lss) ?_; refine J.go (VC.seq ?_); refine VC.aX rfl (fun c3 => ?_) (fun c3 => ?_)
  . refine VC.skip (VC.seq (VC.block (VC.seq (VC.text ?_)))); have e1 := Z1 (show i < xs.length by omega); refine J.c (.AP (j := i) rfl rfl m1 cD (by omega)) ?_; refine J.r (.TL rfl m1 nG (by omega)) ?_; refine J.cell (.alloc HL) ?_; intro ww7; refine J.lJ (cs' := [I ((xs[i]).1), I ((xs[i]).2)]) nG .v ?_; refine J.shut [(5, .p gH (xs[i]))] (.cons rfl (.var m0 .refl) .nil) ?_; refine J.go (VC.seq (VC.text ?_)); refine J.c (.move rfl) ?_; refine J.r (.TM m0 cD) ?_; refine J.c (.assign rfl) ?_; refine J.go (VC.block (VC.seq (VC.text ?_))); refine J.c (.fa (.l .o)) ?_; refine J.r (.ld cQ) ?_; refine J.c (.fa (.r .o)) ?_; refine J.r (.ld cQ) ?_; refine J.c (.geq) (J.c (.assign rfl) (J.go ?_)); refine VC.aX rfl (fun c7 => ?_) (fun c7 => ?_)
    . have e3 := aiN (out := fV (xs.take i)) c7; refine VC.skip (VC.text ?_); refine J.c (.add rfl rfl (by omega)) (J.c (.move rfl) ?_); refine J.nil ?_; refine ⟨_, [(3, .raw out), (7, .raw rR), (8, I ((xs.length : Nat) : Int)), (9, I (((i + 1) : Nat) : Int))], ?_, ⟨rfl, rfl, rfl, rfl, trivial⟩, (i + 1), out, rfl, rfl, (by first | (rw [e1, e3]; done) | (rw [e1, e3, e2]; simp only [e4]; done) | (rw [e1, e3]; rfl)), (by omega), (by exact Nat.le_trans (A2 _) (List.length_take_le _ _))⟩; omega
    refine VC.seq (VC.drawn ?_); refine VD.c (.move rfl) (VD.c (.gtr) (VD.c (.move rfl) ?_)); refine VD.bJ (x := 28) rfl (fun HI => ?_) (fun HI => ?_)
    . refine VD.c (.move rfl) (VD.c (.move rfl) (VD.nw [] (VD.c (.sub rfl rfl (by omega)) ?_))); refine VD.co (.aa5 (k := ((((fV (xs.take i)).length : Nat) : Int) - (1 : Int))) rfl rfl m0 cD (by omega) (by omega)) ?_; refine VD.co (.faE (j := (Int.toNat ((((fV (xs.take i)).length : Nat) : Int) - (1 : Int)))) (k := 1) m0 (by omega)) ?_; refine VD.r [(out, .row 39 gH (fV (xs.take i))), (rR, .row 39 gH xs)] (.ldE (j := (Int.toNat ((((fV (xs.take i)).length : Nat) : Int) - (1 : Int)))) (k := 1) (by omega) (.r .o) rfl m0 cQ) (.inr ⟨rfl, rfl⟩) ?_; refine VD.c (.fa (.l .o)) ?_; refine VD.r [] (.ld cQ) (.inl rfl) ?_; refine VD.c (.geq) (VD.nw [] (VD.c (.cZ rfl rfl) (VD.c (.assign rfl) ?_))); refine VD.go ?_; refine VC.aX rfl (fun c8 => ?_) (fun c8 => ?_)
      . have h0 : 0 < (fV (xs.take i)).length := by omega
        have e2 := V6 (l := fV (xs.take i)) h0 (by omega); have e3 := aaM (out := fV (xs.take i)) c7 h0 (by rw [<- e2]; exact c8)
        have e4 : ((((fV (xs.take i)).length : Nat) : Int) - (1 : Int)).toNat = (fV (xs.take i)).length - 1 := by omega
        refine VC.drawn ?_; refine VD.c (.move rfl) (VD.c (.move rfl) (VD.c (.sub rfl rfl (by omega)) (VD.c (.move rfl) ?_))); refine VD.c (.move rfl) (VD.c (.sub rfl rfl (by omega)) (VD.nw [] ?_)); refine VD.co (.aa5 (k := ((((fV (xs.take i)).length : Nat) : Int) - (1 : Int))) rfl rfl m0 cD (by omega) (by omega)) ?_; refine VD.co (.faE (j := (Int.toNat ((((fV (xs.take i)).length : Nat) : Int) - (1 : Int)))) (k := 1) m0 (by omega)) ?_; refine VD.r [(out, .row 39 gH (fV (xs.take i))), (rR, .row 39 gH xs)] (.ldE (j := (Int.toNat ((((fV (xs.take i)).length : Nat) : Int) - (1 : Int)))) (k := 1) (by omega) (.r .o) rfl m0 cQ) (.inr ⟨rfl, rfl⟩) ?_; refine VD.c (.fa (.r .o)) ?_; refine VD.r [] (.ld cQ) (.inl rfl) ?_; refine VD.r [] (.max) (.inl rfl) ?_; refine VD.co (.aa5 (k := ((((fV (xs.take i)).length : Nat) : Int) - (1 : Int))) rfl rfl m0 cD (by omega) (by omega)) ?_; refine VD.nw [] ?_; refine VD.co (.faE (j := (Int.toNat ((((fV (xs.take i)).length : Nat) : Int) - (1 : Int)))) (k := 1) m0 (by omega)) ?_; refine VD.DM (cT.alD (j := (Int.toNat ((((fV (xs.take i)).length : Nat) : Int) - (1 : Int)))) (k := 1) (dz := (((fV (xs.take i))[(Int.toNat ((((fV (xs.take i)).length : Nat) : Int) - (1 : Int)))]).1, (max (((fV (xs.take i))[(Int.toNat ((((fV (xs.take i)).length : Nat) : Int) - (1 : Int)))]).2) ((xs[i]).2)))) (by omega) cQ (.r .o) rfl rfl) ?_; rintro _ _ tl8 ⟨rfl, rfl⟩; refine VD.nil ?_; refine VC.aV [(3, .raw out), (7, .raw rR), (8, I ((xs.length : Nat) : Int)), (9, I ((i : Nat) : Int))] ⟨rfl, rfl, rfl, rfl, trivial⟩ ?_; refine VC.text ?_; refine J.c (.add rfl rfl (by omega)) (J.c (.move rfl) ?_); refine J.nil ?_; refine ⟨_, [(3, .raw out), (7, .raw rR), (8, I ((xs.length : Nat) : Int)), (9, I (((i + 1) : Nat) : Int))], ?_, ⟨rfl, rfl, rfl, rfl, trivial⟩, (i + 1), out, rfl, rfl, (by first | (rw [e1, e3]; done) | (rw [e1, e3, e2]; simp only [e4]; done) | (rw [e1, e3]; rfl)), (by omega), (by exact Nat.le_trans (A2 _) (List.length_take_le _ _))⟩; omega
      have e3 := RB (out := fV (xs.take i)) c7 (fun hh => by first | exact absurd hh.1 (by omega) | (rw [<- V6 hh.1 (by omega)] at hh; exact c8 hh.2)); refine VC.text ?_; refine J.c (.move rfl) ?_; refine J.r (.ld nG) ?_; refine J.new (.lit [xs[i]] cD) ?_; refine J.app rfl rfl cD cD (by simp; omega) ?_; intro mD; refine J.c (.assign rfl) ?_; refine J.nil ?_; refine VC.aV [(3, .raw mD), (7, .raw rR), (8, I ((xs.length : Nat) : Int)), (9, I ((i : Nat) : Int))] ⟨rfl, rfl, rfl, rfl, trivial⟩ ?_; refine VC.text ?_; refine J.c (.add rfl rfl (by omega)) (J.c (.move rfl) ?_); refine J.nil ?_; refine ⟨_, [(3, .raw mD), (7, .raw rR), (8, I ((xs.length : Nat) : Int)), (9, I (((i + 1) : Nat) : Int))], ?_, ⟨rfl, rfl, rfl, rfl, trivial⟩, (i + 1), mD, rfl, rfl, (by first | (rw [e1, e3]; done) | (rw [e1, e3, e2]; simp only [e4]; done) | (rw [e1, e3]; rfl)), (by omega), (by exact Nat.le_trans (A2 _) (List.length_take_le _ _))⟩; omega
    have e3 := RB (out := fV (xs.take i)) c7 (fun hh => absurd hh.1 (by omega)); refine VD.skip (VD.skip (VD.nw [] (VD.skip ?_))); refine VD.skip (VD.skip (VD.skip (VD.skip ?_))); refine VD.skip (VD.skip (VD.nw [] (VD.c (.bB rfl rfl) ?_))); refine VD.c (.assign rfl) (VD.go ?_); refine VC.uP rfl ?_; refine VC.text ?_; refine J.c (.move rfl) ?_; refine J.r (.ld nG) ?_; refine J.new (.lit [xs[i]] cD) ?_; refine J.app rfl rfl cD cD (by simp; omega) ?_; intro vP; refine J.c (.assign rfl) ?_; refine J.nil ?_; refine VC.aV [(3, .raw vP), (7, .raw rR), (8, I ((xs.length : Nat) : Int)), (9, I ((i : Nat) : Int))] ⟨rfl, rfl, rfl, rfl, trivial⟩ ?_; refine VC.text ?_; refine J.c (.add rfl rfl (by omega)) (J.c (.move rfl) ?_); refine J.nil ?_; refine ⟨_, [(3, .raw vP), (7, .raw rR), (8, I ((xs.length : Nat) : Int)), (9, I (((i + 1) : Nat) : Int))], ?_, ⟨rfl, rfl, rfl, rfl, trivial⟩, (i + 1), vP, rfl, rfl, (by first | (rw [e1, e3]; done) | (rw [e1, e3, e2]; simp only [e4]; done) | (rw [e1, e3]; rfl)), (by omega), (by exact Nat.le_trans (A2 _) (List.length_take_le _ _))⟩; omega
  refine VC.exit (VC.seq (VC.text ?_)); refine J.c (.move rfl) (J.c (.assign rfl) (J.go ?_)); refine VC.ret ?_; exact aW.one rfl (L8 (.row m0)) (fF (by rw [List.take_of_length_le (by omega)]))
def gI (r : aG) (l : List Bool) (f : Nat -> Nat) (n : Nat) : List Nat := (List.range r.2.2.1.length).map fun i => if i < n /\ l.getD i false = true then f (r.2.2.1.getD i 0) else 0
theorem mY {r : aG} {l : List Bool} {f : Nat -> Nat} {n : Nat} : (gI r l f n).length = r.2.2.1.length := by simp [gI]
theorem A4 {r : aG} {l : List Bool} {f : Nat -> Nat} {n i : Nat} (h : i < r.2.2.1.length) : (gI r l f n)[i]'(by rw [mY]; exact h) = if i < n /\ l.getD i false = true then f (r.2.2.1.getD i 0) else 0 := by
  unfold gI; rw [List.getElem_map, List.getElem_range]
def eH (x : Nat) : Nat := (single.add x 0).getD 0
theorem Z2 : u32 0 = some 0 := by decide +kernel
theorem sJ {x : Nat} (h : bD x = 0) : single.add x 0 = some (eH x) /\ bD (eH x) = 0 /\ u32 (eH x) = u32 x := by
  obtain ⟨h1, h2, h3⟩ := gW h
  obtain ⟨r, hr, kG⟩ := al2 h1 Z2 (by
    rw [Int.add_zero, Int.natAbs_mul]
    exact wS (n := (bK x).natAbs) (j := 145) (by show _ < 2 ^ (23 + 1); omega) (by decide))
  have e : eH x = r := by rw [eH, hr] <;> rfl
  rw [Int.add_zero] at kG; rw [e]; exact ⟨hr, (QV kG h2 h3).1, by rw [kG, h1]⟩
def jG (r : aG) (l : List Bool) (n : Nat) : List Nat := (List.range r.2.2.1.length).map fun i => if i < n then (if l.getD i false = true then eH (r.2.2.1.getD i 0) else 0) else r.2.2.1.getD i 0
theorem k8 {r : aG} {l : List Bool} {n : Nat} : (jG r l n).length = r.2.2.1.length := by simp [jG]
theorem vQ {r : aG} {l : List Bool} {n i : Nat} (h : i < r.2.2.1.length) : (jG r l n)[i]'(by rw [k8]; exact h) = if i < n then (if l.getD i false = true then eH (r.2.2.1.getD i 0) else 0) else r.2.2.1.getD i 0 := by
  unfold jG; rw [List.getElem_map, List.getElem_range]
theorem fK {α : Type} {l : List α} {i : Nat} {d : α} (h : i < l.length) : l.getD i d = l[i] := by
  rw [List.getD_eq_getElem?_getD, List.getElem?_eq_getElem h] <;> rfl
theorem agN {r : aG} {l : List Bool} : r.2.2.1 = jG r l 0 := by
  refine List.ext_getElem (by rw [k8]) fun i h1 h2 => ?_; rw [vQ h1, if_neg (by omega), fK h1]
theorem Z3 {r : aG} {l : List Bool} {n : Nat} (hn : n < r.2.2.1.length) (h : n < (jG r l n).length) : (jG r l n)[n] = r.2.2.1[n] := by
  rw [vQ hn, if_neg (by omega), fK hn]
theorem V7 {r : aG} {l : List Bool} {n : Nat} (hn : n < r.2.2.1.length) : jG r l (n + 1) = (jG r l n).set n (if l.getD n false = true then eH (r.2.2.1.getD n 0) else 0) := by
  refine List.ext_getElem (by rw [List.length_set, k8, k8]) fun i h1 h2 => ?_; rw [k8] at h1; rw [List.getElem_set, vQ h1]; by_cases e : n = i
  . subst e; rw [if_pos rfl, if_pos (by omega)]
  rw [if_neg e, vQ h1]; exact ite_congr (propext ⟨fun hh => by omega, fun hh => by omega⟩) (fun _ => rfl) (fun _ => rfl)
theorem E2 {r : aG} {l : List Bool} {n : Nat} (hn : n < r.2.2.1.length) (h : n < l.length) (hb : l[n] = true) : jG r l (n + 1) = (jG r l n).set n (eH r.2.2.1[n]) := by
  rw [V7 hn, if_pos (by rw [fK h]; exact hb), fK hn]
theorem E3 {r : aG} {l : List Bool} {n : Nat} (hn : n < r.2.2.1.length) (h : n < l.length) (hb : l[n] = false) : jG r l (n + 1) = (jG r l n).set n 0 := by
  rw [V7 hn, if_neg (by rw [fK h, hb]; exact Bool.false_ne_true)]
theorem Z4 {r : aG} {l : List Bool} (h : l.length = r.2.2.1.length) : jG r l l.length = gI r l eH l.length := by
  refine List.ext_getElem (by rw [k8, mY]) fun i h1 h2 => ?_; rw [k8] at h1; rw [vQ h1, A4 h1, if_pos (by omega)]; exact ite_congr (propext ⟨fun hh => ⟨by omega, hh⟩, fun hh => hh.2⟩) (fun _ => rfl) (fun _ => rfl)
theorem E4 {r : ByteArray × Int × (List Nat) × (List (Int × Int))} {l : List Bool} (hr : r.2.2.1.length < 1000000) (hl : l.length = r.2.2.1.length) (hv : ∀ x ∈ r.2.2.1, bD x = 0) : VF Tryz.prog OA 101 [.v dJ r, .v (.sl .bool) l] (.v dJ (r.1, r.2.1, gI r l eH l.length, dQ l l.length)) := by
  refine VF.enter Tryz.func101 rfl (fun _ _ => rfl) rfl ?_; show VC _ _ _ _ _ [(0, .v dJ r), (1, .v (.sl .bool) l)] [] _; refine VC.seq (VC.text ?_); refine J.new (.box) ?_; refine J.cell (.alloc B4) ?_; intro M8; refine J.go (VC.seq (VC.drawn ?_)); refine VD.c (.fa (.l .o)) ?_; refine VD.r [] (.ld IP) (.inl rfl) ?_; refine VD.c (.fa (.r (.l .o))) ?_; refine VD.r [] (.ld cQ) (.inl rfl) ?_; refine VD.c (.fa (.r (.r (.l .o)))) ?_; refine VD.r [] (.ld dG) (.inl rfl) ?_; refine VD.nw [] ?_; refine VD.r [] (.len bW) (.inl rfl) ?_; refine VD.cell (.make (k := r.2.2.1.length) rfl rfl bW anO (by omega)) ?_; intro zC; refine VD.one m0 fun ajZ => ?_; refine VD.c (.RA (cs := [St r.1, I r.2.1, .raw zC, xO]) UX rfl rfl (.cons (.v) rfl rfl (.cons (.v) rfl rfl (.cons (.w ajZ) rfl rfl (.nil rfl))))) ?_; refine VD.cell (.alloc B4) ?_; intro o4; refine VD.DM (cT.tD (k := 0) fP (.TQ rfl (xS rfl (xS rfl (xS (p := .raw zC) ajZ (xS rfl rfl))))) (Nat.le_of_ble_eq_true rfl) (.inr ⟨rfl, rfl⟩) rfl rfl) ?_; rintro _ _ ap7 ⟨rfl, rfl⟩; refine VD.go (VC.seq (VC.text ?_)); refine J.c (.s9 (k := 2) m0) ?_; refine J.r (.wN (k := 2) m0 dG) ?_; refine J.c (.fa (.r (.r (.l .o)))) ?_; refine J.r (.ld dG) ?_; refine J.perm iL ?_; refine J.copy rfl rfl bW (by simp) ?_; refine J.go (VC.seq (VC.seq (VC.text ?_))); refine J.c (.move rfl) ?_; refine J.r (.len eC) ?_; refine J.c (.move rfl) ?_; refine J.go (VC.block ?_); refine VC.cell0 39 gH ?_; refine VC.aV [(4, .raw M8), (5, .raw o4), (22, .v (.sl .bool) l), (23, I ((l.length : Nat) : Int)), (24, I ((0 : Nat) : Int))] ⟨rfl, rfl, rfl, rfl, rfl, trivial⟩ ?_; refine VC.loop (I := fun kk ff ss => ∃ (i : Nat) (w : Value), kk = l.length - i /\ ff = [(4, .raw M8), (5, .raw o4), (22, .v (.sl .bool) l), (23, I ((l.length : Nat) : Int)), (24, I ((i : Nat) : Int))] /\ ss = [(w, .row 39 gH (hJ l i)), (zC, .row 59 (.aO .f32) (jG r l i)), (o4, .var [St r.1, I r.2.1, .raw zC, .raw w]), (M8, .var [St ByteArray.empty, I (0 : Int), .v cL [], .v aZ []])] /\ (i <= l.length) /\ ((jG r l i).length = r.2.2.1.length) /\ ((hJ l i).length <= i)) ?_ _ _ _ ⟨0, (.slice none 0 0), rfl, rfl, (by rw [<- agN] <;> rfl), Nat.zero_le _, (by exact k8), (by exact Nat.le_refl _)⟩; rintro kk ff ss ⟨i, w, kJ, rfl, rfl, hi, oW, FF⟩; refine VC.seq (VC.text ?_); refine J.c (.lss) ?_; refine J.go (VC.seq ?_); refine VC.aX rfl (fun c4 => ?_) (fun c4 => ?_)
  . have nZ : i < r.2.2.1.length := by omega
    have N1 := Z3 (r := r) (l := l) nZ (by omega)
    have hpz : single.add ((jG r l i)[i]'(by omega)) 0 = some (eH r.2.2.1[i]) := by rw [N1]; exact (sJ (hv _ (List.getElem_mem nZ))).1
    refine VC.skip (VC.seq (VC.block (VC.seq (VC.text ?_)))); refine J.c (.move rfl) (J.c (.ix (j := i) rfl rfl eC (by omega)) ?_); refine J.r (.ld vt4) ?_; refine J.c (.assign rfl) (J.c (.assign rfl) ?_); refine J.go (VC.seq (VC.seq (VC.text ?_))); refine J.c (.move rfl) (J.go ?_); refine VC.eR rfl (fun c6 => ?_) (fun c6 => ?_)
    . refine VC.seq (VC.text ?_); refine J.c (.s9 (k := 2) m2) ?_; refine J.r (.wN (k := 2) m2 dG) ?_; refine J.c (.move rfl) (J.c (.AP (j := i) rfl rfl m1 bW (by omega)) ?_); refine J.r (.TL rfl m1 eN (by omega)) ?_; refine J.c (.IM (QX hpz)) (J.c (.AP (j := i) rfl rfl m1 bW (by omega)) ?_); refine J.perm iL ?_; refine J.AZ i rfl rfl eN (by omega) ?_; refine J.go (VC.exit (VC.text ?_)); refine J.c (.add rfl rfl (by omega)) (J.c (.move rfl) ?_); refine J.perm rJ ?_; refine J.perm rJ ?_; refine J.perm wQ ?_; refine J.perm rJ ?_; refine J.nil ?_; refine ⟨_, [(4, .raw M8), (5, .raw o4), (22, .v (.sl .bool) l), (23, I ((l.length : Nat) : Int)), (24, I (((i + 1) : Nat) : Int))], ?_, ⟨rfl, rfl, rfl, rfl, rfl, trivial⟩, (i + 1), w, rfl, rfl, (by first | (rw [E2 (by omega) (by omega) c6, vO (by omega) c6]; done) | (rw [E3 (by omega) (by omega) c6, zB (by omega) (by rw [c6]; exact Bool.false_ne_true)]; done) | (rw [E2 (by omega) (by omega) c6, vO (by omega) c6]; rfl) | (rw [E3 (by omega) (by omega) c6, zB (by omega) (by rw [c6]; exact Bool.false_ne_true)]; rfl)), (by omega), (by exact k8), (by exact x3 l _)⟩; omega
    refine VC.skip (VC.seq (VC.text ?_)); refine J.c (.s9 (k := 2) m2) ?_; refine J.r (.wN (k := 2) m2 dG) ?_; refine J.c (.move rfl) (J.c (.AP (j := i) rfl rfl m1 bW (by omega)) ?_); refine J.perm iL ?_; refine J.AZ i rfl rfl eN (by omega) ?_; refine J.go (VC.text ?_); refine J.c (.s9 (k := 3) m2) ?_; refine J.r (.wN (k := 3) m2 gK) ?_; refine J.c (.move rfl) (J.c (.move rfl) (J.c (.add rfl rfl (by omega)) (J.c (.build (((i : Nat) : Int), (((i : Nat) : Int) + (1 : Int))) UI) ?_))); refine J.new (.lit [(((i : Nat) : Int), (((i : Nat) : Int) + (1 : Int)))] cD) ?_; refine J.perm iL ?_; refine J.app rfl rfl cD cD (by simp; omega) ?_; intro zD; refine J.c (.s9 (k := 3) m2) ?_; refine J.perm wQ ?_; refine J.one m1 fun ak0 => ?_; refine J.tD (cs' := [St r.1, I r.2.1, .raw zC, .raw zD]) 3 gK (.raw rfl (vJ ak0) ak0) ?_; refine J.nil (VC.text ?_); refine J.c (.add rfl rfl (by omega)) (J.c (.move rfl) ?_); refine J.perm rJ ?_; refine J.perm iL ?_; refine J.perm rJ ?_; refine J.perm rJ ?_; refine J.nil ?_; refine ⟨_, [(4, .raw M8), (5, .raw o4), (22, .v (.sl .bool) l), (23, I ((l.length : Nat) : Int)), (24, I (((i + 1) : Nat) : Int))], ?_, ⟨rfl, rfl, rfl, rfl, rfl, trivial⟩, (i + 1), zD, rfl, rfl, (by first | (rw [E2 (by omega) (by omega) c6, vO (by omega) c6]; done) | (rw [E3 (by omega) (by omega) c6, zB (by omega) (by rw [c6]; exact Bool.false_ne_true)]; done) | (rw [E2 (by omega) (by omega) c6, vO (by omega) c6]; rfl) | (rw [E3 (by omega) (by omega) c6, zB (by omega) (by rw [c6]; exact Bool.false_ne_true)]; rfl)), (by omega), (by exact k8), (by exact x3 l _)⟩; omega
  refine VC.exit (VC.seq (VC.text ?_)); refine J.c (.s9 (k := 3) m2) ?_; refine J.r (.wN (k := 3) m2 gK) ?_; refine J.pL [(w, .row 39 gH (hJ l i))] rfl rfl rfl (gV.call (HU (Nat.lt_of_le_of_lt (x3 _ _) (by omega)))) ?_; rintro _ _ ⟨rfl, rfl⟩; show J _ _ _ _ _ _ [(zC, .row 59 (.aO .f32) (jG r l i)), (o4, .var [St r.1, I r.2.1, .raw zC, .raw w]), (M8, .var [St ByteArray.empty, I (0 : Int), .v cL [], .v aZ []])] _; refine J.c (.s9 (k := 3) m1) ?_; refine J.perm iL ?_; refine J.tD (cs' := [St r.1, I r.2.1, .raw zC, .v aZ (fV (hJ l i))]) 3 gK .v ?_; refine J.go (VC.seq ?_); refine VC.perm iL ?_; refine VC.yP [(zC, .row 59 (.aO .f32) (jG r l i)), (o4, .var [St r.1, I r.2.1, .raw zC, .v aZ (fV (hJ l i))])] [(5, .p dJ (r.1, r.2.1, (jG r l i), fV (hJ l i)))] rfl (.cons rfl (.var m1 (.cons .same (.cons .same (.cons (.row m0) (.cons .same .nil))))) .nil) ?_; refine VC.text ?_; refine J.r (.ld fP) ?_; refine J.lJ (cs' := [St r.1, I r.2.1, .v cL (jG r l i), .v aZ (fV (hJ l i))]) fP .v ?_; refine J.go ?_; refine VC.ret ?_; exact aW.one rfl (.cell (x := (r.1, r.2.1, (jG r l i), fV (hJ l i))) rfl m0 fP .refl) (fF (by rw [show i = l.length by omega, A3, Z4 hl] <;> rfl))
end Go.Proofs
namespace Go.Fs
variable {P : Program} {fl : VL} {σ : aR} {T T' : TypeId} {x y : Operand} {p q : Int}
def wrI (p : Int) : Int := IntKind.i64.wrap p
theorem agO {p : Int} (h0 : -9223372036854775808 <= p) (h1 : p <= 9223372036854775807) : wrI p = p := wrap64 h0 h1
theorem aI.anP (hx : aS fl x = some (.v (.int .i64) p) := by rfl) (hy : aS fl y = some (.v (.int .i64) q) := by rfl) : aI P fl σ (.binOp .add T x y T') (.v (.int .i64) (wrI (p + q))) :=
  .rO hx hy (u := .int .i64 (IntKind.i64.wrap (p + q))) rfl fun h S => aE.ofInt _ _
end Go.Fs
namespace Go.Fs
variable {P : Program} {orc : FuncId -> List Value -> U -> Option (Value × U)} {h : U} {σ ρ : aR} {fl : VL} {ops : Array Oper} {n i mem : Nat} {l : List Oper} {K : VL -> aR -> Prop} {nw bs : List Nat} {tl : Bool} {hr : U} {S0 A : List Nat} {t : Tr} {rd chg : List Nat}
end Go.Fs
namespace Go.Proofs
open Go.Fs Ieee
set_option maxHeartbeats 400000
theorem dO {r : aG} (h : cM r = 0) : (0 <= r.2.1 /\ r.2.1 <= 100000) /\ r.2.2.1.length <= 4096 /\ r.2.2.2.length <= 2048 /\ (∀ x ∈ r.2.2.1, bD x = 0) /\ ∀ s ∈ r.2.2.2, 0 <= s.1 /\ s.1 < s.2 /\ s.2 <= (r.2.2.1.length : Nat) := by
  unfold cM at h; split at h
  . rename_i h1; exact absurd h h1
  rename_i h1; split at h
  . rename_i h2; exact absurd h h2
  rename_i h2; split at h
  . cases h
  rename_i h3; have h1 := cH.1 (Classical.not_not.1 h1); have h2 := rA.1 (Classical.not_not.1 h2); have h4 := jU h2.2; have h5 := YR (by simpa using h3); have h6 := h1 (gA r.2.1 0 100000) (by simp); have h7 := h1 (eM (decide ((4096 : Int) < (r.2.2.1.length : Nat))) 5) (by simp)
  have h6 : 0 <= r.2.1 /\ r.2.1 <= 100000 := by
    unfold gA at h6; split at h6
    . cases h6
    omega
  rw [kZ (by decide), decide_eq_false_iff_not] at h7; refine ⟨h6, by omega, h4.2, fun x hx => cH.1 h2.1 _ (List.mem_map.2 ⟨x, hx, rfl⟩), fun s hs => ?_⟩; have h8 := h4.1.1 s hs; exact ⟨h8.1, h8.2.1, h5 s hs⟩
def pP (a b : List Nat) : Bool := decide (a.length = b.length /\ ∀ i, i < a.length -> dB .neq .f32 (a.getD i 0) (b.getD i 0) = false)
theorem V8 {a : List Nat} {b : List Nat} (ha : a.length < 1000000) : VF Tryz.prog OA 67 [.v cL a, .v cL b] (B (pP a b)) := by
  refine VF.enter Tryz.func67 rfl (fun _ _ => rfl) rfl ?_; show VC _ _ _ _ _ [(0, .v cL a), (1, .v cL b)] [] _; refine VC.seq (VC.text ?_); refine J.c (.assign rfl) ?_; refine J.go (VC.seq (VC.seq (VC.text ?_))); refine J.c (.move rfl) ?_; refine J.r (.len bW) ?_; refine J.c (.move rfl) ?_; refine J.r (.len bW) ?_; refine J.c (.neq) (J.go ?_); refine VC.aX rfl (fun c1 => ?_) (fun c1 => ?_)
  . have cA : ¬ a.length = b.length := by omega
    refine VC.seq (VC.text ?_); refine J.c (.assign rfl) (J.go ?_); refine VC.ret ?_; exact aW.one rfl bP (fF (by exact (decide_eq_false fun hh => cA hh.1).symm))
  have hle : a.length = b.length := by omega
  refine VC.skip (VC.seq (VC.seq (VC.text ?_))); refine J.c (.assign rfl) ?_; refine J.go (VC.block ?_); refine VC.aV [(0, .v cL a), (1, .v cL b), (5, I ((0 : Nat) : Int))] ⟨rfl, rfl, rfl, trivial⟩ ?_; refine VC.loop (I := fun kk ff ss => ∃ (i : Nat), kk = a.length - i /\ ff = [(0, .v cL a), (1, .v cL b), (5, I ((i : Nat) : Int))] /\ ss = [] /\ (i <= a.length) /\ (∀ j, j < i -> dB .neq .f32 (a.getD j 0) (b.getD j 0) = false)) ?_ _ _ _ ⟨0, rfl, rfl, rfl, Nat.zero_le _, (by intro j hj; omega)⟩; rintro kk ff ss ⟨i, kJ, rfl, rfl, hi, hn⟩; refine VC.seq (VC.seq (VC.text ?_)); refine J.c (.move rfl) (J.c (.move rfl) ?_); refine J.r (.len bW) ?_; refine J.c (.lss) (J.go ?_); refine VC.aX rfl (fun c4 => ?_) (fun c4 => ?_)
  . have kQ : i < a.length := by omega
    refine VC.skip (VC.seq (VC.block (VC.seq (VC.drawn ?_)))); refine VD.c (.move rfl) (VD.c (.move rfl) (VD.c (.ix (j := i) rfl rfl bW (by omega)) ?_)); refine VD.r [] (.ld eN) (.inl rfl) ?_; refine VD.c (.move rfl) (VD.c (.move rfl) (VD.nw [] (VD.c (.ix (j := i) rfl rfl bW (by omega)) ?_))); refine VD.r [] (.ld eN) (.inl rfl) ?_; refine VD.c (.OP .neq) (VD.go ?_); refine VC.eR rfl (fun c6 => ?_) (fun c6 => ?_)
    . have c6' : dB .neq .f32 (a.getD i 0) (b.getD i 0) = true := by simpa [kQ, show i < b.length by omega] using c6
      refine VC.seq (VC.text ?_); refine J.c (.assign rfl) (J.go ?_); refine VC.ret ?_; exact aW.one rfl bP (fF (by exact (decide_eq_false fun hh => by rw [hh.2 i kQ] at c6'; cases c6').symm))
    have c6' : dB .neq .f32 (a.getD i 0) (b.getD i 0) = false := by simpa [kQ, show i < b.length by omega] using c6
    refine VC.skip (VC.text ?_); refine J.c (.move rfl) (J.c (.add rfl rfl (by omega)) (J.c (.assign rfl) ?_)); refine J.nil ?_; refine ⟨_, [(0, .v cL a), (1, .v cL b), (5, I (((i + 1) : Nat) : Int))], ?_, ⟨rfl, rfl, rfl, trivial⟩, (i + 1), rfl, rfl, rfl, (by omega), (by intro j hj; rcases Nat.lt_succ_iff_lt_or_eq.1 hj with h | h; exact hn j h; subst h; exact c6')⟩; omega
  refine VC.exit (VC.seq (VC.text ?_)); refine J.c (.assign rfl) (J.go ?_); refine VC.ret ?_; exact aW.one rfl bP (fF (by exact (decide_eq_true ⟨hle, fun j hj => hn j (by omega)⟩).symm))
def tG (a b : aG) : Bool := decide (a.1 = b.1) && decide (a.2.1 = b.2.1) && pP a.2.2.1 b.2.2.1 && decide (a.2.2.2 = b.2.2.2)
theorem RD {a : ByteArray × Int × (List Nat) × (List (Int × Int))} {b : ByteArray × Int × (List Nat) × (List (Int × Int))} (ha : a.2.2.1.length < 1000000) (ha2 : a.2.2.2.length < 1000000) (sR : b.2.2.2.length < 1000000) : VF Tryz.prog OA 66 [.v dY a, .v dY b] (B (tG a b)) := by
  refine VF.enter Tryz.func66 rfl (fun _ _ => rfl) rfl ?_; show VC _ _ _ _ _ [(0, .v dY a), (1, .v dY b)] [] _; refine VC.seq (VC.text ?_); refine J.new (.box) ?_; refine J.new (.box) ?_; refine J.c (.assign rfl) ?_; refine J.go (VC.seq (VC.text ?_)); refine J.c (.fa (.l .o)) ?_; refine J.r (.ld IP) ?_; refine J.c (.fa (.l .o)) ?_; refine J.r (.ld IP) ?_; refine J.c (.amV) (J.c (.move rfl) ?_); refine J.cg (r := decide (a.1 = b.1)) (w := true) [] trivial (fun _ => (.fa (.r (.l .o)))) ?_; refine J.rg (r := decide (a.1 = b.1)) (w := true) [(11, .p (.int .i64) a.2.1)] ⟨rfl, trivial⟩ (fun _ => (.ld cQ)) ?_; refine J.cg (r := decide (a.1 = b.1)) (w := true) [] trivial (fun _ => (.fa (.r (.l .o)))) ?_; refine J.rg (r := decide (a.1 = b.1)) (w := true) [(13, .p (.int .i64) b.2.1)] ⟨rfl, trivial⟩ (fun _ => (.ld cQ)) ?_; refine J.cg (r := decide (a.1 = b.1)) (w := true) [(12, I a.2.1), (14, I b.2.1)] ⟨rfl, rfl, trivial⟩ (fun _ => (.eql)) ?_; refine J.c (.and) (J.c (.move rfl) ?_); refine J.cg (r := ((decide (a.1 = b.1)) && (decide (a.2.1 = b.2.1)))) (w := true) [] trivial (fun _ => (.fa (.r (.r (.l .o))))) ?_; refine J.rg (r := ((decide (a.1 = b.1)) && (decide (a.2.1 = b.2.1)))) (w := true) [(18, .p cL a.2.2.1)] ⟨rfl, trivial⟩ (fun _ => (.ld dG)) ?_; refine J.cg (r := ((decide (a.1 = b.1)) && (decide (a.2.1 = b.2.1)))) (w := true) [] trivial (fun _ => (.fa (.r (.r (.l .o))))) ?_; refine J.rg (r := ((decide (a.1 = b.1)) && (decide (a.2.1 = b.2.1)))) (w := true) [(20, .p cL b.2.2.1)] ⟨rfl, trivial⟩ (fun _ => (.ld dG)) ?_; refine J.L7 (r0 := ((decide (a.1 = b.1)) && (decide (a.2.1 = b.2.1)))) (w := true) [(19, .v cL a.2.2.1), (21, .v cL b.2.2.1)] ⟨rfl, rfl, trivial⟩ rfl rfl .same .refl rfl (fun iK => have M9 : ((decide (a.1 = b.1)) && (decide (a.2.1 = b.2.1))) = true := (by simpa using iK); VF.call (V8 (by first | assumption | omega | simp))) ?_; refine J.c (.and) (J.c (.move rfl) ?_); refine J.cg (r := (((decide (a.1 = b.1)) && (decide (a.2.1 = b.2.1))) && (pP a.2.2.1 b.2.2.1))) (w := true) [] trivial (fun _ => (.fa (.r (.r (.r (k := 0) .o))))) ?_; refine J.rg (r := (((decide (a.1 = b.1)) && (decide (a.2.1 = b.2.1))) && (pP a.2.2.1 b.2.2.1))) (w := true) [(25, .p aZ a.2.2.2)] ⟨rfl, trivial⟩ (fun _ => (.ld gK)) ?_; refine J.cg (r := (((decide (a.1 = b.1)) && (decide (a.2.1 = b.2.1))) && (pP a.2.2.1 b.2.2.1))) (w := true) [] trivial (fun _ => (.fa (.r (.r (.r (k := 0) .o))))) ?_; refine J.rg (r := (((decide (a.1 = b.1)) && (decide (a.2.1 = b.2.1))) && (pP a.2.2.1 b.2.2.1))) (w := true) [(27, .p aZ b.2.2.2)] ⟨rfl, trivial⟩ (fun _ => (.ld gK)) ?_; refine J.L7 (r0 := (((decide (a.1 = b.1)) && (decide (a.2.1 = b.2.1))) && (pP a.2.2.1 b.2.2.1))) (w := true) [(26, .v aZ a.2.2.2), (28, .v aZ b.2.2.2)] ⟨rfl, rfl, trivial⟩ rfl rfl .same .refl rfl (fun iK => have aoL : (((decide (a.1 = b.1)) && (decide (a.2.1 = b.2.1))) && (pP a.2.2.1 b.2.2.1)) = true := (by simpa using iK); VF.call (UD (by first | assumption | omega | simp) (by first | assumption | omega | simp))) ?_; refine J.c (.and) (J.c (.assign rfl) (J.go ?_)); refine VC.ret ?_; exact aW.one rfl bP (fF (by first | rfl | simp [tG, *]))
theorem V9 {r : ByteArray × Int × (List Nat) × (List (Int × Int))} : VF Tryz.prog OA 65 [.v dJ r] (.v dY r) := by
  refine VF.enter Tryz.func65 rfl (fun _ _ => rfl) rfl ?_; show VC _ _ _ _ _ [(0, .v dJ r)] [] _; refine VC.seq (VC.text ?_); refine J.new (.box) ?_; refine J.cell (.alloc aaL) ?_; intro fI; refine J.go (VC.seq (VC.text ?_)); refine J.r (.ld fP) ?_; refine J.lJ (cs' := [St r.1, I r.2.1, .v cL r.2.2.1, .v aZ r.2.2.2]) rQ .v ?_; refine J.go ?_; refine VC.ret ?_; exact aW.one rfl (.cell (x := r) rfl m0 rQ .refl) (fF (by rfl))
def ak1 : aG := (ByteArray.empty, 0, [], [])
def dP (r : aG) (i : Int) : Bool := decide (0 <= i) && decide (i < (r.2.2.1.length : Nat)) && !Sp.bE r.2.2.2 i
theorem pQ {r : aG} {i : Nat} (h : i < r.2.2.1.length) : dP r i = !Sp.bE r.2.2.2 i := by
  unfold dP; rw [decide_eq_true (show (0 : Int) <= (i : Int) by omega), decide_eq_true (show (i : Int) < (r.2.2.1.length : Nat) by omega)] <;> rfl
def kN (a b : aG) : List Bool := aP a ++ aP b
theorem NS {a b : aG} : (kN a b).length = a.2.2.1.length + b.2.2.1.length := by simp [kN, aP, dE]
def both (a b : aG) : aG := (a.1, a.2.1, a.2.2.1 ++ b.2.2.1, [])
def xP (a b : aG) : Int := dV [cM a, cM b, eM (decide (a.1 ≠ b.1)) 30, eM (decide (b.2.1 ≠ wrI (a.2.1 + (a.2.2.1.length : Nat)))) 11, eM (decide ((4096 : Int) < (a.2.2.1.length : Nat) + (b.2.2.1.length : Nat))) 5]
def dH (a b : aG) : aG := if xP a b ≠ 0 then ak1 else (a.1, a.2.1, gI (both a b) (kN a b) eH (kN a b).length, dQ (kN a b) (kN a b).length)
theorem MA {a b : aG} : [aP (a.1, a.2.1, a.2.2.1, a.2.2.2), aP b].flatten = kN a b := by simp [kN]
theorem MB {r r' : aG} {l : List Bool} {f : Nat -> Nat} {n : Nat} (h : r.2.2.1 = r'.2.2.1) : gI r l f n = gI r' l f n := by unfold gI; rw [h]
theorem agP {a : ByteArray × Int × (List Nat) × (List (Int × Int))} {b : ByteArray × Int × (List Nat) × (List (Int × Int))} (ha : a.2.2.1.length < 100000) (hb : b.2.2.1.length < 100000) (ha2 : a.2.2.2.length < 1000000) (sR : b.2.2.2.length < 1000000) : VF Tryz.prog OA 68 [.v dJ a, .v dJ b] (.oD [.v dJ (dH a b), I (xP a b)]) := by
  refine VF.enter Tryz.func68 rfl (fun _ _ => rfl) rfl ?_; show VC _ _ _ _ _ [(0, .v dJ a), (1, .v dJ b)] [] _; refine VC.seq (VC.text ?_); refine J.cell (.box (τ := dJ) .v) ?_; intro wZ; refine J.new (.box) ?_; refine J.cell (.alloc B4) ?_; intro mD; refine J.c (.assign rfl) ?_; refine J.go (VC.seq (VC.text ?_)); refine J.c (.s9 (k := 2) m1) ?_; refine J.r (.wN (k := 2) m1 dG) ?_; refine J.r (.len bW) ?_; refine J.c (.assign rfl) ?_; refine J.go (VC.seq (VC.seq (VC.drawn ?_))); refine VD.r [(mD, .var [St ByteArray.empty, I (0 : Int), .v cL [], .v aZ []]), (wZ, .var [St a.1, I a.2.1, .v cL a.2.2.1, .v aZ a.2.2.2])] (.IH (dx := (a.1, a.2.1, a.2.2.1, a.2.2.2)) m1 fP) (.inr ⟨rfl, rfl⟩) ?_; refine VD.call rfl rfl (VF.call (vM (by show a.2.2.1.length < _; omega) ha2)) ?_; refine VD.r [] (.ld fP) (.inl rfl) ?_; refine VD.call rfl rfl (VF.call (vM (by first | assumption | omega | simp) (by first | assumption | omega | simp))) ?_; refine VD.co (.s9 (k := 0) m1) ?_; refine VD.r [(mD, .var [St ByteArray.empty, I (0 : Int), .v cL [], .v aZ []]), (wZ, .var [St a.1, I a.2.1, .v cL a.2.2.1, .v aZ a.2.2.2])] (.wN (k := 0) m1 IP) (.inr ⟨rfl, rfl⟩) ?_; refine VD.nw [] (VD.c (.fa (.l .o)) ?_); refine VD.r [] (.ld IP) (.inl rfl) ?_; refine VD.c (.ajR) ?_; refine VD.call rfl rfl (VF.call (kK )) ?_; refine VD.c (.fa (.r (.l .o))) ?_; refine VD.r [] (.ld cQ) (.inl rfl) ?_; refine VD.co (.s9 (k := 1) m1) ?_; refine VD.nw [] ?_; refine VD.r [(mD, .var [St ByteArray.empty, I (0 : Int), .v cL [], .v aZ []]), (wZ, .var [St a.1, I a.2.1, .v cL a.2.2.1, .v aZ a.2.2.2])] (.wN (k := 1) m1 cQ) (.inr ⟨rfl, rfl⟩) ?_; refine VD.c (.move rfl) (VD.c (.anP) (VD.c (.neq) ?_)); refine VD.call rfl rfl (VF.call (kK )) ?_; refine VD.c (.move rfl) (VD.c (.fa (.r (.r (.l .o)))) (VD.nw [] ?_)); refine VD.r [] (.ld dG) (.inl rfl) ?_; refine VD.r [] (.len bW) (.inl rfl) ?_; refine VD.c (.add rfl rfl (by omega)) (VD.c (.gtr) ?_); refine VD.call rfl rfl (VF.call (kK )) ?_; refine VD.new (.lit [cM (a.1, a.2.1, a.2.2.1, a.2.2.2), cM b, eM (decide (a.1 ≠ b.1)) (30 : Int), eM (decide (b.2.1 ≠ wrI (a.2.1 + (a.2.2.1.length : Nat)))) (11 : Int), eM (decide ((4096 : Int) < (((a.2.2.1.length : Nat) : Int) + ((b.2.2.1.length : Nat) : Int)))) (5 : Int)] uR) ?_; refine VD.oE rfl rfl (VF.call (mP (by first | assumption | omega | simp))) ?_; refine VD.nw [37] (VD.c (.assign rfl) ?_); refine VD.go (VC.seq ?_); refine VC.aV [(2, .raw wZ), (3, .p dJ b), (4, .raw mD), (7, I (xP a b))] ⟨rfl, rfl, rfl, rfl, trivial⟩ ?_; refine VC.text ?_; refine J.c (.move rfl) (J.c (.neq) (J.go ?_)); refine VC.aX rfl (fun c3 => ?_) (fun c3 => ?_)
  . refine VC.seq (VC.text ?_); refine J.c (.build (ByteArray.empty, 0, [], []) UX) (J.c (.move rfl) ?_); refine J.lJ (cs' := [St ByteArray.empty, I 0, .v cL [], .v aZ []]) fP .v ?_; refine J.c (.assign rfl) (J.go ?_); refine VC.ret ?_; exact aW.two rfl (.cell (x := (ByteArray.empty, 0, [], [])) rfl m0 fP .refl) bP (fF (by rw [dH, if_pos c3]; rfl)) (fB (by rfl))
  have hz := cH.1 (Classical.not_not.1 c3); have sB := dO (hz (cM a) (by simp)); have hrb := dO (hz (cM b) (by simp))
  have NL : ∀ x ∈ a.2.2.1 ++ b.2.2.1, bD x = 0 := fun x hx => by rcases List.mem_append.1 hx with h | h; exact sB.2.2.2.1 x h; exact hrb.2.2.2.1 x h
  have lO := NS (a := a) (b := b); refine VC.skip (VC.seq (VC.drawn ?_)); refine VD.r [(mD, .var [St ByteArray.empty, I (0 : Int), .v cL [], .v aZ []]), (wZ, .var [St a.1, I a.2.1, .v cL a.2.2.1, .v aZ a.2.2.2])] (.IH (dx := (a.1, a.2.1, a.2.2.1, a.2.2.2)) m1 fP) (.inr ⟨rfl, rfl⟩) ?_; refine VD.call rfl rfl (VF.call (wW (show a.2.2.1.length <= 4096 from sB.2.1) ha2 sB.2.2.2.2)) ?_; refine VD.r [] (.ld fP) (.inl rfl) ?_; refine VD.call rfl rfl (VF.call (wW (by omega) sR hrb.2.2.2.2)) ?_; refine VD.new (.lit [aP (a.1, a.2.1, a.2.2.1, a.2.2.2), aP b] wX) ?_; refine VD.pL rfl rfl (gV.call (R8 (by simp) (by simp [aP, dE]; omega))) ?_; rintro _ _ ⟨vP, rfl, rfl⟩; show VD _ _ _ _ _ _ _ _ [(vP, .row 4 .bool ([aP (a.1, a.2.1, a.2.2.1, a.2.2.2), aP b].flatten)), (mD, .var [St ByteArray.empty, I (0 : Int), .v cL [], .v aZ []]), (wZ, .var [St a.1, I a.2.1, .v cL a.2.2.1, .v aZ a.2.2.2])] _ _ _ _ _; refine VD.nw [48, 47, 46, 44] (VD.c (.assign rfl) ?_); refine VD.go (VC.seq (VC.text ?_)); refine J.c (.s9 (k := 2) m2) ?_; refine J.r (.wN (k := 2) m2 dG) ?_; refine J.c (.fa (.r (.r (.l .o)))) ?_; refine J.r (.ld dG) ?_; refine J.new (.lit [a.2.2.1, b.2.2.1] wY) ?_; refine J.pL [] rfl rfl rfl (gV.call (R9 (by simp) (by simp; omega))) ?_; rintro _ _ ⟨aaO, rfl, rfl⟩; show J _ _ _ _ _ _ [(aaO, .row 59 (.aO .f32) ([a.2.2.1, b.2.2.1].flatten)), (vP, .row 4 .bool ([aP (a.1, a.2.1, a.2.2.1, a.2.2.2), aP b].flatten)), (mD, .var [St ByteArray.empty, I (0 : Int), .v cL [], .v aZ []]), (wZ, .var [St a.1, I a.2.1, .v cL a.2.2.1, .v aZ a.2.2.2])] _; refine J.c (.s9 (k := 2) m3) ?_; refine J.perm rJ ?_; refine J.one m1 fun ak2 => ?_; refine J.tD (cs' := [St a.1, I a.2.1, .raw aaO, .v aZ a.2.2.2]) 2 dG (.raw rfl (vJ ak2) ak2) ?_; refine J.go (VC.seq ?_); refine VC.perm iL ?_; refine VC.yP [(aaO, .row 59 (.aO .f32) ([a.2.2.1, b.2.2.1].flatten)), (wZ, .var [St a.1, I a.2.1, .raw aaO, .v aZ a.2.2.2])] [(2, .p dJ (a.1, a.2.1, ([a.2.2.1, b.2.2.1].flatten), a.2.2.2))] rfl (.cons rfl (.var m1 (.cons .same (.cons .same (.cons (.row m0) (.cons .same .nil))))) .nil) ?_; refine VC.text ?_; refine J.r (.ld fP) ?_; refine J.c (.move rfl) ?_; refine J.shut [(8, .v (.sl .bool) ([aP (a.1, a.2.1, a.2.2.1, a.2.2.2), aP b].flatten)), (48, .v (.sl .bool) ([aP (a.1, a.2.1, a.2.2.1, a.2.2.2), aP b].flatten)), (57, .v (.sl .bool) ([aP (a.1, a.2.1, a.2.2.1, a.2.2.2), aP b].flatten))] (.cons rfl (.row m0) (.cons rfl (.row m0) (.cons rfl (.row m0) .nil))) ?_; refine J.call rfl rfl (VF.call (E4 (by simp; omega) (by simp [aP, dE]) (by simpa using NL))) ?_; refine J.lJ (cs' := [St a.1, I a.2.1, .v cL (gI (a.1, a.2.1, ([a.2.2.1, b.2.2.1].flatten), a.2.2.2) ([aP (a.1, a.2.1, a.2.2.1, a.2.2.2), aP b].flatten) eH ([aP (a.1, a.2.1, a.2.2.1, a.2.2.2), aP b].flatten).length), .v aZ (dQ ([aP (a.1, a.2.1, a.2.2.1, a.2.2.2), aP b].flatten) ([aP (a.1, a.2.1, a.2.2.1, a.2.2.2), aP b].flatten).length)]) fP .v ?_; refine J.c (.assign rfl) (J.go ?_); refine VC.ret ?_; exact aW.two rfl (.cell (x := (a.1, a.2.1, gI (a.1, a.2.1, ([a.2.2.1, b.2.2.1].flatten), a.2.2.2) ([aP (a.1, a.2.1, a.2.2.1, a.2.2.2), aP b].flatten) eH ([aP (a.1, a.2.1, a.2.2.1, a.2.2.2), aP b].flatten).length, dQ ([aP (a.1, a.2.1, a.2.2.1, a.2.2.2), aP b].flatten) ([aP (a.1, a.2.1, a.2.2.1, a.2.2.2), aP b].flatten).length)) rfl m0 fP .refl) bP (fF (by rw [dH, if_neg c3, MA]; exact congrArg (fun z => (a.1, a.2.1, z, dQ (kN a b) (kN a b).length)) (MB (by show [a.2.2.1, b.2.2.1].flatten = a.2.2.1 ++ b.2.2.1; simp)))) (fB (by exact (Classical.not_not.1 c3).symm))
end Go.Proofs
namespace Go.Proofs
open Go.Fs Ieee
set_option maxHeartbeats 400000
end Go.Proofs
namespace Go.Fs
variable {P : Program} {σ : aR} {fl : VL} {x y : Operand} {T : TypeId} {τ : Ty}
def anQ {α : Type} (a b c : α) : Nat -> α
  | 0 => a
  | 1 => b
  | _ => c
end Go.Fs
namespace Go.Proofs
open Go.Fs
def aiO (l : List Int) (x4 : Int) : Int × Bool :=
  if l.length = 3 then (l.getD 0 0 + l.getD 1 0 + l.getD 2 0 - min (min (l.getD 0 0) (l.getD 1 0)) (l.getD 2 0) - max (max (l.getD 0 0) (l.getD 1 0)) (l.getD 2 0), true)
  else if l.length = 2 /\ max (l.getD 0 0 - l.getD 1 0) (l.getD 1 0 - l.getD 0 0) <= x4 then (max (l.getD 0 0) (l.getD 1 0), true)
  else (0, false)
end Go.Proofs
namespace Go.Fs
variable {P : Program} {orc : FuncId -> List Value -> U -> Option (Value × U)} {σ : aR} {fl : VL} {ops : Array Oper} {n : Nat} {l : List Oper} {K : VL -> aR -> Prop} {d : Tmp} {ty : TypeId} {pos : String} {after : Array Edge} {g : Option (Nat × Bool)} {x : Operand} {T e : TypeId} {τ : Ty}
end Go.Fs
namespace Go.Fs
variable {P : Program} {fl : VL} {e : TypeId} {τ : Ty}
theorem RE {a b c d e : Value × Cell} {r : aR} : (a :: b :: c :: d :: e :: r).Perm (e :: a :: b :: c :: d :: r) := (rJ.cons a).trans (List.Perm.swap e a (b :: c :: d :: r))
end Go.Fs
namespace Go.Fs
variable {P : Program} {orc : FuncId -> List Value -> U -> Option (Value × U)} {aY : Option Nat} {h h' h0 h1 h2 hs : U} {S S' S0 B G : List Nat} {σ σ' : aR} {t t' : Tr} {ms : List Nat} {fl : VL} {ops : Array Oper} {n i mem : Nat} {l : List Oper} {K : VL -> aR -> Prop} {Q : Ex -> VL -> aR -> Prop}
  {d d1 d2 : Tmp} {ty ty1 ty2 : TypeId} {pos ap8 ap9 : String} {after ao7 ao8 : Array Edge} {op : Op} {v v1 : PV} {g g1 g2 : Option (Nat × Bool)} {bs nw : List Nat} {segs : List (Nat × Nat × Nat)} {tail so : Bool}
section
variable (P orc)
end
end Go.Fs
namespace Go.Fs
variable {P : Program} {orc : FuncId -> List Value -> U -> Option (Value × U)} {aY : Option Nat} {h h' h0 h1 h2 : U} {S S' S0 B G : List Nat} {σ σ' nW : aR} {t t' : Tr} {ms : List Nat} {fl : VL} {ops : Array Oper} {n i mem : Nat} {l : List Oper} {K : VL -> aR -> Prop} {Q : Ex -> VL -> aR -> Prop}
  {d : Tmp} {ty : TypeId} {pos : String} {after : Array Edge} {op : Op} {v pv : PV} {g : Option (Nat × Bool)} {x y z : Operand} {T T' e : TypeId} {τ dC : Ty} {bs nw : List Nat} {segs : List (Nat × Nat × Nat)} {tail so : Bool} {w w' : Value} {c c' : Cell}
end Go.Fs
namespace Go.Fs
variable {P : Program} {orc : FuncId -> List Value -> U -> Option (Value × U)} {aY : Option Nat} {h h' h0 h1 h2 hr : U} {S S' S0 B G A : List Nat} {σ σ' nW ρ : aR} {t t' : Tr} {ms : List Nat} {fl : VL} {ops : Array Oper} {n i mem : Nat} {l : List Oper} {K : VL -> aR -> Prop}
  {d : Tmp} {ty : TypeId} {pos : String} {after : Array Edge} {op : Op} {v pv : PV} {g : Option (Nat × Bool)} {x y z : Operand} {T T' e : TypeId} {τ dC : Ty} {bs nw rd chg : List Nat} {segs : List (Nat × Nat × Nat)} {tail tl : Bool} {w w' : Value}
theorem j7.alJ {c : Cell} {b : Nat} (hs : jR P fl op c) (hk : ∀ w, j7 P orc ops n l (i + 1) ((d, .raw w) :: fl) (fE false d nw) ((w, c) :: σ) ρ (bs ++ [b]) (mem ||| 2 ^ i) false K)
    (hb : aM bs ⟨some d, op, ty, pos, after, g⟩ = b := by rfl) (Q6 : yQ op = false := by rfl) (hw : cV ops fl g = some true := by rfl) (hn : (Nat.blt d n && Nat.ble n 4000) = true := by rfl) :
    j7 P orc ops n (⟨some d, op, ty, pos, after, g⟩ :: l) i fl nw σ ρ bs mem false K := fun hr h0 G S0 A t h ms rd chg segs tail ht I L => by
  obtain ⟨n1, n2⟩ := fits hn; obtain rfl := ht rfl; obtain ⟨mk, o, e0, e1, e2⟩ := hs.2 h _ t I.aJ.tB I.ok I.lc.lt; have hm : Made S0 h (h.push o) σ ((mk h.next, c) :: σ) := Made.cons I.lc (cI.push h o []) (fun b hb => by rw [e0] at hb; simp at hb; subst hb; exact Nat.le_refl _) (by rw [e0]; simp) fun hN => e1 _ hN (by rw [cO, e0]; simp); have xV : bL ops t ⟨some d, op, ty, pos, after, g⟩ = some true := cC I.aJ hw
  have hf : fN P hr (gG P) ops n ⟨some d, op, ty, pos, after, g⟩ i (⟨t, h, bs, segs, mem, false⟩, rd, chg) = some (⟨t.set depth d (mk h.next), h.push o, bs ++ [b], (i, h.next, h.next + 1) :: segs, mem ||| 2 ^ i, false⟩, rd, chg) := by
    have hMs : ∀ b' o', look (bif Nat.beq (mem &&& b) mem then h.aA else mask b segs h.aA) b' = some o' -> look h.aA b' = some o' := fun b' o' => by
      cases Nat.beq (mem &&& b) mem with
      | true => exact fun h => h
      | false => exact wK segs h.aA
    unfold fN; simp only [xV, hs.1, Bool.false_eq_true, if_false, FP Q6]; unfold p4; simp only [hb, Bool.false_and, cond_false]; rw [e2]; have bO : Nat.blt (h.next + 1) h.next = false := l9 (Nat.le_succ _); have e1 : ∀ L : List (Nat × bC), (∀ b' o', look L b' = some o' -> look h.aA b' = some o') -> bI h.next (h.next + 1) ((h.next, o) :: L) = [(h.next, o)] := fun L hL => H5 fun b' o' hg => I.ok b' o' (hL b' o' hg); simp only [U.push, bO, cond_false, bU n1, sY, cond_true]; rw [e1 _ hMs]; rfl
  have L9 : ∃ tE, ((mk h.next, c) :: σ : aR) = tE ++ ρ := by
    obtain ⟨tE, anR⟩ := L.suf; exact ⟨(mk h.next, c) :: tE, by rw [anR]; rfl⟩
  exact xW.opr hf (hk (mk h.next) hr h0 G S0 A _ _ ms rd _ _ false ht ((I.made hm).set (show aH _ _ (.raw (mk h.next)) (mk h.next) from rfl) n2) ((L.made I hm L9).set (old := false) n2 fun e => by cases e))
end Go.Fs
namespace Go.Proofs
open Ieee
end Go.Proofs
namespace Go.Proofs
open Go.Fs Ieee
set_option maxHeartbeats 400000
abbrev zE := aG × aG × aG
abbrev rk (l : zE) (k : Nat) : aG := anQ l.1 l.2.1 l.2.2 k
def Z5 (l : zE) (i : Nat) : Nat -> List Int
  | 0 => []
  | k + 1 => if dP (rk l k) i = true then Z5 l i k ++ [bK ((rk l k).2.2.1.getD i 0)] else Z5 l i k
def vE (l : zE) (x4 : Int) (i : Nat) : Int × Bool := aiO (Z5 l i 3) x4
def dvB (l : zE) (x4 : Int) (k i : Nat) : Bool := (vE l x4 i).2 && dP (rk l k) i && decide (x4 < max (bK ((rk l k).2.2.1.getD i 0) - (vE l x4 i).1) (0 - (bK ((rk l k).2.2.1.getD i 0) - (vE l x4 i).1)))
def Z6 (l : zE) (x4 : Int) (k : Nat) : Nat -> Int
  | 0 => 0
  | i + 1 => if dvB l x4 k i = true then Z6 l x4 k i + 1 else Z6 l x4 k i
def dvK (l : zE) (x4 : Int) (i j k : Nat) : Int := if j <= k then Z6 l x4 j (i + 1) else Z6 l x4 j i
structure Vot (l : zE) (x4 : Int) : Prop where
  lv : ∀ k, k < 3 -> ∀ x ∈ (rk l k).2.2.1, bD x = 0
  len : ∀ k, k < 3 -> (rk l k).2.2.1.length = l.1.2.2.1.length
  n : l.1.2.2.1.length <= 4096
  gap : ∀ k, k < 3 -> (rk l k).2.2.2.length < 1000000
  x4 : 0 <= x4 /\ x4 <= 2048
end Go.Proofs
namespace Go.Fs
variable {P : Program}
section
variable {orc : FuncId -> List Value -> U -> Option (Value × U)} {h : U} {S : List Nat} {fl : VL} {σ : aR} {T : TypeId} {τ : Ty}
end
end Go.Fs
namespace Go.Proofs
open Go.Fs Ieee
set_option maxHeartbeats 400000
def aiP (l : zE) : Prop := (l.2.1.2.1 = l.1.2.1 /\ l.2.2.2.1 = l.1.2.1) /\ l.2.1.2.2.1.length = l.1.2.2.1.length /\ l.2.2.2.2.1.length = l.1.2.2.1.length
instance : DecidablePred aiP := fun l => inferInstanceAs (Decidable ((l.2.1.2.1 = l.1.2.1 /\ l.2.2.2.1 = l.1.2.1) /\ l.2.1.2.2.1.length = l.1.2.2.1.length /\ l.2.2.2.2.1.length = l.1.2.2.1.length))
end Go.Proofs
namespace Go.Proofs
open Go.Fs Ieee
set_option maxHeartbeats 400000
end Go.Proofs
namespace Go.Proofs
open Go.Fs
set_option maxHeartbeats 2000000
def Z7 (x : Int) : Int := (742938285 * x).tmod 2147483647
theorem SU {x : Int} (h0 : 0 <= x) : 0 <= Z7 x /\ Z7 x < 2147483647 := by
  unfold Z7; rw [Int.tmod_eq_emod_of_nonneg (by omega)]; omega
theorem x5 {n lo hi : Int} : gA n lo hi = 0 ↔ lo <= n /\ n <= hi := by
  unfold gA; split
  . exact ⟨fun h => absurd h (by decide), fun h => by omega⟩
  exact ⟨fun _ => by omega, fun _ => rfl⟩
end Go.Proofs
namespace Go.Proofs
open Go.Fs
set_option maxHeartbeats 2000000
theorem Z8 {a : List Int} {b : List Int} (ha : a.length < 1000000) (hb : b.length < 1000000) : VF Tryz.prog OA 34 [.v j8 a, .v j8 b] (B (decide (a = b))) := by
  refine VF.enter Tryz.func34 rfl (fun _ _ => rfl) rfl ?_; show VC _ _ _ _ _ [(0, .v j8 a), (1, .v j8 b)] [] _; refine VC.seq (VC.text ?_); refine J.c (.assign rfl) ?_; refine J.go (VC.seq (VC.seq (VC.text ?_))); refine J.c (.move rfl) ?_; refine J.r (.len mO) ?_; refine J.c (.move rfl) ?_; refine J.r (.len mO) ?_; refine J.c (.neq) (J.go ?_); refine VC.aX rfl (fun c1 => ?_) (fun c1 => ?_)
  . refine VC.seq (VC.text ?_); refine J.c (.assign rfl) (J.go ?_); refine VC.ret ?_; exact aW.one rfl bP (fF (by exact (decide_eq_false (fun e => c1 (by rw [e]))).symm))
  refine VC.skip (VC.seq (VC.seq (VC.text ?_))); refine J.c (.assign rfl) ?_; refine J.go (VC.block ?_); refine VC.aV [(0, .v j8 a), (1, .v j8 b), (5, I ((0 : Nat) : Int))] ⟨rfl, rfl, rfl, trivial⟩ ?_; refine VC.loop (I := fun kk ff ss => ∃ (j : Nat), kk = a.length - j /\ ff = [(0, .v j8 a), (1, .v j8 b), (5, I ((j : Nat) : Int))] /\ ss = [] /\ (j <= a.length) /\ (a.length = b.length) /\ (∀ k (h : k < a.length) (h2 : k < b.length), k < j -> a[k] = b[k])) ?_ _ _ _ ⟨0, rfl, rfl, rfl, Nat.zero_le _, (by omega), (by exact fun k _ _ h => absurd h (by omega))⟩; rintro kk ff ss ⟨j, kJ, rfl, rfl, hj, hl, hi⟩; refine VC.seq (VC.seq (VC.text ?_)); refine J.c (.move rfl) (J.c (.move rfl) ?_); refine J.r (.len mO) ?_; refine J.c (.lss) (J.go ?_); refine VC.aX rfl (fun c4 => ?_) (fun c4 => ?_)
  . refine VC.skip (VC.seq (VC.block (VC.seq (VC.drawn ?_)))); refine VD.c (.move rfl) (VD.c (.move rfl) (VD.c (.ix (j := j) rfl rfl mO (by omega)) ?_)); refine VD.r [] (.ld cQ) (.inl rfl) ?_; refine VD.c (.move rfl) (VD.c (.move rfl) (VD.nw [] (VD.c (.ix (j := j) rfl rfl mO (by omega)) ?_))); refine VD.r [] (.ld cQ) (.inl rfl) ?_; refine VD.c (.neq) (VD.go ?_); refine VC.aX rfl (fun c6 => ?_) (fun c6 => ?_)
    . refine VC.seq (VC.text ?_); refine J.c (.assign rfl) (J.go ?_); refine VC.ret ?_; exact aW.one rfl bP (fF (by exact (decide_eq_false (fun h => c6 (List.getElem_of_eq h _))).symm))
    refine VC.skip (VC.text ?_); refine J.c (.move rfl) (J.c (.add rfl rfl (by omega)) (J.c (.assign rfl) ?_)); refine J.nil ?_; refine ⟨_, [(0, .v j8 a), (1, .v j8 b), (5, I (((j + 1) : Nat) : Int))], ?_, ⟨rfl, rfl, rfl, trivial⟩, (j + 1), rfl, rfl, rfl, (by omega), (by omega), (by exact fun k h h2 h3 => if e : k = j then (by subst e; exact Classical.not_not.1 c6) else hi k h h2 (by omega))⟩; omega
  refine VC.exit (VC.seq (VC.text ?_)); refine J.c (.assign rfl) (J.go ?_); refine VC.ret ?_; exact aW.one rfl bP (fF (by exact (decide_eq_true (List.ext_getElem hl (fun k h h2 => hi k h h2 (by omega)))).symm))
end Go.Proofs
namespace Go.Proofs
open Go.Fs Ieee
set_option maxHeartbeats 400000
def P4 (g : Nat) : Prop := g = 1065353216 \/ g = 3212836864
def sgE (g : Nat) : Int := if g = 3212836864 then -1 else 1
theorem agQ : u32 1065353216 = some 713623846352979940529142984724747568191373312 := by decide +kernel
theorem agR : u32 3212836864 = some (-713623846352979940529142984724747568191373312) := by decide +kernel
theorem aiQ {g : Nat} (h : P4 g) : u32 g = some (sgE g * 713623846352979940529142984724747568191373312) := by
  rcases h with rfl | rfl
  . rw [agQ] <;> rfl
  rw [agR] <;> rfl
def tP (g x : Nat) : Int := sgE g * bK x
def mulR (g x : Nat) : Nat := (single.mul x g).getD 0
theorem aiR {g x : Nat} (h : P4 g) (hx : bD x = 0) : single.LG (tP g x * 44601490397061246283071436545296723011960832).natAbs := by
  obtain ⟨h1, h2, h3⟩ := gW hx
  have hs : (tP g x).natAbs = (bK x).natAbs := by
    unfold tP sgE; split
    . rw [Int.neg_one_mul, Int.natAbs_neg]
    rw [Int.one_mul]
  rw [Int.natAbs_mul, hs]; exact wS (n := (bK x).natAbs) (j := 145) (by show _ < 2 ^ (23 + 1); omega) (by decide)
theorem tH {g x : Nat} (h : P4 g) (hx : bD x = 0) : single.mul x g = some (mulR g x) /\ u32 (mulR g x) = some (tP g x * 44601490397061246283071436545296723011960832) := by
  obtain ⟨r, hr, kG⟩ := Format.BN (r := tP g x * 44601490397061246283071436545296723011960832) (gW hx).1 (aiQ h) (by decide) (by
    rw [aa9]; unfold tP; generalize bK x = a; generalize sgE g = b
    rw [Int.mul_assoc b a, Int.mul_comm b (a * _), Int.mul_assoc (a * _) b]; rfl) (aiR h hx) vI
  have e : mulR g x = r := by rw [mulR, hr] <;> rfl
  rw [e]; exact ⟨hr, kG⟩
theorem anS {g x y : Nat} (h : P4 g) (hx : bD x = 0) (hy : bD y = 0) : dB .geq .f32 (mulR g y) (mulR g x) = decide (tP g x <= tP g y) := by
  rw [(nB (tH h hy).2 (tH h hx).2).2.2.2.2.2]; exact decide_eq_decide.2 ⟨fun h => by omega, fun h => by omega⟩
theorem anT {g x y : Nat} (h : P4 g) (hx : bD x = 0) (hy : bD y = 0) : dB .gtr .f32 (mulR g y) (mulR g x) = decide (tP g x < tP g y) := by
  rw [(nB (tH h hy).2 (tH h hx).2).2.2.2.2.1]; exact decide_eq_decide.2 ⟨fun h => by omega, fun h => by omega⟩
def gF (r : aG) (i : Nat) : Nat := r.2.2.1.getD i 0
theorem gO {r : aG} {i : Nat} (h : i < r.2.2.1.length) : gF r i = r.2.2.1[i] := fK h
def BV (r : aG) (w : Int) (g i k : Nat) : Bool := (decide ((k : Int) < i) && decide ((i : Int) - w <= k) && decide (tP g (gF r i) <= tP g (gF r k))) || (decide ((i : Int) < k) && decide ((k : Int) <= i + w) && decide (tP g (gF r i) < tP g (gF r k)))
theorem G2 {r : aG} {w : Int} {g i k : Nat} (hi : i < r.2.2.1.length) (hk : k < r.2.2.1.length) : BV r w g i k = ((decide ((k : Int) < i) && decide ((i : Int) - w <= k) && decide (tP g r.2.2.1[i] <= tP g r.2.2.1[k])) || (decide ((i : Int) < k) && decide ((k : Int) <= i + w) && decide (tP g r.2.2.1[i] < tP g r.2.2.1[k]))) := by
  unfold BV; rw [gO hi, gO hk]
def j6 (r : aG) (w : Int) (g i k : Nat) : Bool := dP r k && BV r w g i k
def eG (r : aG) (w : Int) (g i : Nat) : Bool := dP r i && !(List.range r.2.2.1.length).any (j6 r w g i)
theorem agS {r : aG} {w : Int} {g i k : Nat} (hk : k < r.2.2.1.length) (h : j6 r w g i k = true) : eG r w g i = false := by
  unfold eG; rw [List.any_eq_true.2 ⟨k, List.mem_range.2 hk, h⟩]; simp
theorem agT {r : aG} {w : Int} {g i : Nat} (h0 : dP r i = true) (h : ∀ k, k < r.2.2.1.length -> j6 r w g i k = false) : eG r w g i = true := by
  unfold eG; rw [h0, List.any_eq_false.2 fun k hk => by rw [h k (List.mem_range.1 hk)]; exact Bool.false_ne_true] <;> rfl
def mZ (r : aG) (w : Int) (g : Nat) : Nat -> List Int
  | 0 => []
  | i + 1 => if eG r w g i = true then mZ r w g i ++ [(i : Int)] else mZ r w g i
theorem G3 {r : aG} {w : Int} {g : Nat} : ∀ i, (mZ r w g i).length <= i
  | 0 => Nat.le_refl _
  | i + 1 => by
    have := G3 (r := r) (w := w) (g := g) i; unfold mZ; split
    . rw [List.length_append, List.length_singleton]; omega
    omega
theorem aiS {r : aG} {w : Int} {g i : Nat} (h : eG r w g i = true) : mZ r w g (i + 1) = mZ r w g i ++ [(i : Int)] := by rw [mZ, if_pos h]
theorem aaP {r : aG} {w : Int} {g i : Nat} (h : eG r w g i = false) : mZ r w g (i + 1) = mZ r w g i := by rw [mZ, if_neg (by rw [h]; exact Bool.false_ne_true)]
def Z9 (r : aG) (x i : Nat) : Bool := !dP r i || decide (bK (gF r i) <= bK x)
def rS (r : aG) (x n : Nat) : List Bool := (List.range r.2.2.1.length).map fun i => if i < n then Z9 r x i else false
theorem G4 {r : aG} {x n : Nat} : (rS r x n).length = r.2.2.1.length := by simp [rS]
theorem VA {r : aG} {x n i : Nat} (h : i < r.2.2.1.length) : (rS r x n)[i]'(by rw [G4]; exact h) = if i < n then Z9 r x i else false := by
  unfold rS; rw [List.getElem_map, List.getElem_range]
end Go.Proofs
namespace Go.Proofs
open Go.Fs Ieee
set_option maxHeartbeats 400000
theorem anU : r6 Tryz.prog 22 aZ := nX (z := .slice none 0 0) (by kernel_rfl) rfl rfl
def pR (r : aG) (i : Nat) : List (Int × Nat) := (List.range' i (r.2.2.1.length - i)).filterMap fun (k : Nat) => if dP r k = true then some ((k : Int), gF r k) else none
theorem sK {r : aG} {i : Nat} (h : r.2.2.1.length <= i) : pR r i = [] := by
  unfold pR; rw [show r.2.2.1.length - i = 0 by omega] <;> rfl
theorem u7 {r : aG} {i : Nat} (h : i < r.2.2.1.length) : pR r i = if dP r i = true then ((i : Int), gF r i) :: pR r (i + 1) else pR r (i + 1) := by
  unfold pR; rw [show r.2.2.1.length - i = (r.2.2.1.length - (i + 1)) + 1 by omega, List.range'_succ, List.filterMap_cons]; by_cases hb : dP r i = true
  . rw [if_pos hb, if_pos hb]
  rw [if_neg hb, if_neg hb]
theorem qK {r : aG} {i : Nat} (h : i < r.2.2.1.length) (h2 : i < (aP r).length) : (aP r)[i] = dP r i := by
  rw [pQ h]; exact pO h
theorem l4 {r : aG} : (aP r).length = r.2.2.1.length := dE
theorem BW {r : ByteArray × Int × (List Nat) × (List (Int × Int))} (hl : r.2.2.1.length <= 4096) (uY : r.2.2.2.length < 1000000) (vF : ∀ s ∈ r.2.2.2, 0 <= s.1 /\ s.1 < s.2 /\ s.2 <= (r.2.2.1.length : Nat)) : LK Tryz.prog OA 148 [] [.p dJ r] (fun x : Int × Nat => [I x.1, .v (.aO .f32) x.2]) (pR r 0) := by
  refine LK.enter Tryz.func148 rfl rfl (fun _ => rfl) fun yv II EE γ hy hI => ?_; show VC _ _ _ _ _ [(0, .raw yv), (1, .p dJ r)] γ _; refine VC.seq (VC.text ?_); refine J.r (.ld fP) ?_; refine J.call rfl rfl (VF.call (wW hl uY vF)) ?_; refine J.r (.len eC) ?_; refine J.c (.move rfl) ?_; refine J.go (VC.block ?_); refine VC.aV [(0, .raw yv), (1, .p dJ r), (6, .v (.sl .bool) (aP r)), (7, I (((aP r).length : Nat) : Int)), (8, I ((0 : Nat) : Int))] ⟨rfl, rfl, rfl, rfl, rfl, trivial⟩ ?_; refine VC.loop (I := fun kk ff ss => ∃ (i : Nat), kk = (aP r).length - i /\ ff = [(0, .raw yv), (1, .p dJ r), (6, .v (.sl .bool) (aP r)), (7, I (((aP r).length : Nat) : Int)), (8, I ((i : Nat) : Int))] /\ (i <= (aP r).length) /\ II (pR r i) ss) ?_ _ _ _ ⟨0, rfl, rfl, (by omega), (by exact hI)⟩; rintro kk ff ss ⟨i, kJ, rfl, hi, hI⟩; refine VC.seq (VC.text ?_); refine J.c (.lss) ?_; refine J.go (VC.seq ?_); refine VC.aX rfl (fun c1 => ?_) (fun c1 => ?_)
  . have kQ : i < (aP r).length := by omega
    have lO := l4 (r := r)
    have nZ : i < r.2.2.1.length := by omega
    have ZA := qK nZ kQ; have NL := gO nZ; refine VC.skip (VC.seq (VC.block (VC.seq (VC.text ?_)))); refine J.c (.move rfl) (J.c (.ix (j := i) rfl rfl eC (by omega)) ?_); refine J.r (.ld vt4) ?_; refine J.c (.assign rfl) (J.c (.assign rfl) ?_); refine J.go (VC.seq (VC.text ?_)); refine J.c (.move rfl) (J.c (.move rfl) ?_); refine J.iB (x := 14) rfl (fun aaQ => ?_) (fun aaQ => ?_)
    . refine J.c (.move rfl) (J.c (.move rfl) (J.c (.fa (.r (.r (.l .o)))) ?_)); refine J.r (.ld dG) ?_; refine J.c (.move rfl) (J.c (.ix (j := i) rfl rfl bW (by omega)) ?_); refine J.r (.ld eN) ?_; refine J.aiF rfl rfl (hy (((i : Nat) : Int), r.2.2.1[i]) (pR r (i + 1)) _ (by rw [u7 nZ, if_pos (by rw [<- ZA]; exact aaQ), NL] at hI; exact hI)) ?_; rintro _ ss (⟨rfl, hI⟩ | ⟨rfl, hE⟩)
      . refine J.c (.not) (J.c (.cZ rfl rfl) (J.go ?_)); refine VC.uP rfl ?_; refine VC.skip (VC.text ?_); refine J.c (.add rfl rfl (by omega)) (J.c (.move rfl) ?_); refine J.nil ?_; refine ⟨_, [(0, .raw yv), (1, .p dJ r), (6, .v (.sl .bool) (aP r)), (7, I (((aP r).length : Nat) : Int)), (8, I (((i + 1) : Nat) : Int))], ?_, ⟨rfl, rfl, rfl, rfl, rfl, trivial⟩, (i + 1), rfl, rfl, (by omega), (by first | exact hI | (rw [u7 nZ, if_neg (by rw [<- ZA, aaQ]; exact Bool.false_ne_true)] at hI; exact hI))⟩; omega
      refine J.c (.not) (J.c (.cZ rfl rfl) (J.go ?_)); refine VC.uO rfl ?_; refine VC.ret ?_; exact ⟨rfl, .inr hE⟩
    refine J.skip (J.skip (J.skip (J.skip ?_))); refine J.skip (J.skip (J.skip (J.skip ?_))); refine J.skip (J.c (.bB rfl rfl) (J.go ?_)); refine VC.uP rfl ?_; refine VC.skip (VC.text ?_); refine J.c (.add rfl rfl (by omega)) (J.c (.move rfl) ?_); refine J.nil ?_; refine ⟨_, [(0, .raw yv), (1, .p dJ r), (6, .v (.sl .bool) (aP r)), (7, I (((aP r).length : Nat) : Int)), (8, I (((i + 1) : Nat) : Int))], ?_, ⟨rfl, rfl, rfl, rfl, rfl, trivial⟩, (i + 1), rfl, rfl, (by omega), (by first | exact hI | (rw [u7 nZ, if_neg (by rw [<- ZA, aaQ]; exact Bool.false_ne_true)] at hI; exact hI))⟩; omega
  refine VC.exit ?_; exact ⟨rfl, .inl (by rw [sK (by have := l4 (r := r); omega)] at hI; exact hI)⟩
theorem G5 {r : ByteArray × Int × (List Nat) × (List (Int × Int))} : VF Tryz.prog OA 112 [.v dJ r] (.lA 148 [] [.p dJ r]) := by
  refine VF.enter Tryz.func112 rfl (fun _ _ => rfl) rfl ?_; show VC _ _ _ _ _ [(0, .v dJ r)] [] _; refine VC.seq (VC.text ?_); refine J.new (.box) ?_; refine J.c (.assign rfl) ?_; refine J.go (VC.seq (VC.text ?_)); refine J.c (.func) (J.c (.assign rfl) (J.go ?_)); refine VC.ret ?_; exact aW.one rfl bP rfl
theorem A5 {r : aG} : ∀ {n i : Nat}, n = r.2.2.1.length - i -> ∀ y ∈ pR r i, ∃ k : Nat, i <= k /\ k < r.2.2.1.length /\ dP r k = true /\ y = ((k : Int), gF r k)
  | 0, i, hn, y, hy => by rw [sK (by omega)] at hy; cases hy
  | n + 1, i, hn, y, hy => by
    rw [u7 (by omega)] at hy; by_cases hb : dP r i = true
    . rw [if_pos hb] at hy; rcases List.mem_cons.1 hy with rfl | hy
      . exact ⟨i, Nat.le_refl _, by omega, hb, rfl⟩
      obtain ⟨k, h1, h2, h3, h4⟩ := A5 (n := n) (by omega) y hy; exact ⟨k, by omega, h2, h3, h4⟩
    rw [if_neg hb] at hy; obtain ⟨k, h1, h2, h3, h4⟩ := A5 (n := n) (by omega) y hy; exact ⟨k, by omega, h2, h3, h4⟩
theorem A6 {r : aG} : ∀ {n i : Nat}, n = r.2.2.1.length - i -> (pR r i).length <= n
  | 0, i, hn => by rw [sK (by omega)]; exact Nat.le_refl _
  | n + 1, i, hn => by
    have := A6 (r := r) (n := n) (i := i + 1) (by omega); rw [u7 (by omega)]; split
    . rw [List.length_cons]; omega
    omega
theorem VB {r : aG} (hv : ∀ x ∈ r.2.2.1, bD x = 0) : ∀ y ∈ pR r 0, bD y.2 = 0 /\ 0 <= y.1 /\ y.1 < (r.2.2.1.length : Nat) := fun y hy => by
  obtain ⟨k, h1, h2, h3, rfl⟩ := A5 rfl y hy; rw [gO h2]; exact ⟨hv _ (List.getElem_mem h2), by show (0 : Int) <= (k : Int); omega, by show (k : Int) < _; omega⟩
theorem G6 {x y : Nat} (hx : bD x = 0) (hy : bD y = 0) : dB .gtr .f32 x y = decide (bK y < bK x) := by
  rw [(nB (gW hx).1 (gW hy).1).2.2.2.2.1]; exact decide_eq_decide.2 ⟨fun h => by omega, fun h => by omega⟩
def E5 (v : Nat) (gs : List (Int × Int)) (x : Int × Nat) : List (Int × Int) := if bK v < bK x.2 then gs ++ [(x.1, x.1 + 1)] else gs
theorem VE (v : Nat) (gs : List (Int × Int)) (x : Int × Nat) : (E5 v gs x).length <= gs.length + 1 := by
  unfold E5; split
  . rw [List.length_append, List.length_singleton]; omega
  omega
def VG (r : aG) (v : Nat) : Int := dV [cM r, bD v]
def P5 (r : aG) (v : Nat) : List (Int × Int) := if VG r v ≠ 0 then [] else fV ((pR r 0).foldl (E5 v) [])
theorem ZB {r : ByteArray × Int × (List Nat) × (List (Int × Int))} {v : Nat} (hl : r.2.2.1.length < 1000000) (uY : r.2.2.2.length < 1000000) : VF Tryz.prog OA 60 [.v dJ r, .v (.aO .f32) v] (.oD [.v aZ (P5 r v), I (VG r v)]) := by
  refine VF.enter Tryz.func60 rfl (fun _ _ => rfl) rfl ?_; show VC _ _ _ _ _ [(0, .v dJ r), (1, .v (.aO .f32) v)] [] _; refine VC.seq (VC.text ?_); refine J.new (.box) ?_; refine J.new (.box) ?_; refine J.c (.assign rfl) (J.c (.assign rfl) ?_); refine J.go (VC.seq (VC.seq (VC.drawn ?_))); refine VD.r [] (.ld fP) (.inl rfl) ?_; refine VD.call rfl rfl (VF.call (vM (by first | assumption | omega | simp) (by first | assumption | omega | simp))) ?_; refine VD.r [] (.ld eN) (.inl rfl) ?_; refine VD.call rfl rfl (VF.call (aaI )) ?_; refine VD.new (.lit [cM r, bD v] uR) ?_; refine VD.oE rfl rfl (VF.call (mP (by first | assumption | omega | simp))) ?_; refine VD.nw [14] (VD.c (.assign rfl) ?_); refine VD.go (VC.seq (VC.text ?_)); refine J.c (.move rfl) (J.c (.neq) (J.go ?_)); refine VC.aX rfl (fun c2 => ?_) (fun c2 => ?_)
  . refine VC.seq (VC.text ?_); refine J.c (.move rfl) (J.c (.assign rfl) (J.c (.assign rfl) (J.go ?_))); refine VC.ret ?_; exact aW.two rfl (L8 .nil) bP (fF (by rw [P5, VG, if_pos c2])) (fB (by rfl))
  have hz := cH.1 (Classical.not_not.1 c2); have sB := dO (hz (cM r) (by simp)); have NL : bD v = 0 := hz (bD v) (by simp); have qC := A6 (r := r) (i := 0) rfl; refine VC.skip (VC.seq (VC.text ?_)); refine J.cell (.aaJ anU) ?_; intro fI; refine J.go (VC.seq (VC.seq ?_)); refine VC.aaF 39 gH ?_; refine VC.text ?_; refine J.r (.ld fP) ?_; refine J.call rfl rfl (VF.call (G5 )) ?_; refine J.go (VC.block ?_); refine VC.aV [(3, .p (.aO .f32) v), (7, .raw fI), (20, .lA 148 [] [.p dJ r])] ⟨rfl, rfl, rfl, trivial⟩ ?_; refine VC.rangeFunc rfl (BW (show r.2.2.1.length <= 4096 from sB.2.1) uY sB.2.2.2.2) (fun _ => rfl) rfl rfl (fun rest ss => ∃ (gs : List (Int × Int)), ∃ (wg : Value), ss = [(wg, .row 39 gH gs), (fI, .var [.raw wg])] /\ (rest.foldl (E5 v) gs = (pR r 0).foldl (E5 v) []) /\ (∀ y ∈ rest, bD y.2 = 0 /\ 0 <= y.1 /\ y.1 < (r.2.2.1.length : Nat)) /\ (gs.length + rest.length <= 4096)) (fun ee ss => False) ⟨[], (.slice none 0 0), rfl, (by rfl), (by exact VB sB.2.2.2.1), (by (have := sB.2.1; simp; omega))⟩ ?_ ?_ ?_
  . rintro jj x rest _ ⟨gs, wg, rfl, hg, hm, NT⟩; show VC _ _ _ _ _ [(22, .v (.aO .f32) x.2), (21, I x.1), (3, .p (.aO .f32) v), (7, .raw fI), (20, .lA 148 [] [.p dJ r])] [(wg, .row 39 gH gs), (fI, .var [.raw wg])] _; refine VC.seq (VC.text ?_); have hx := hm x List.mem_cons_self; have agU := NT; rw [List.length_cons] at agU; refine J.c (.assign rfl) ?_; refine J.go (VC.text ?_); refine J.c (.assign rfl) ?_; refine J.nil ?_; refine ⟨rfl, ?_⟩; refine VC.block (VC.seq (VC.text ?_)); refine J.c (.move rfl) ?_; refine J.r (.ld eN) ?_; refine J.c (.jE (b := .gtr) (G6 hx.1 NL)) (J.go ?_); refine VC.aX rfl (fun c8 => ?_) (fun c8 => ?_)
    . refine VC.text ?_; refine J.r (.ldV m1 gK) ?_; refine J.c (.move rfl) (J.c (.move rfl) (J.c (.add rfl rfl (by omega)) (J.c (.build (x.1, (x.1 + (1 : Int))) UI) ?_))); refine J.new (.lit [(x.1, (x.1 + (1 : Int)))] cD) ?_; refine J.app rfl rfl cD cD (by simp; omega) ?_; intro nD; refine J.perm iL ?_; refine J.one m1 fun ho3 => ?_; refine J.lJ (cs' := [.raw nD]) gK (.raw rfl (vJ ho3) ho3) ?_; refine J.perm iL ?_; refine J.nil ?_; exact .inl ⟨rfl, E5 v gs x, nD, (by first | (rw [E5, if_pos c8]; done) | (rw [E5, if_neg c8]; done)), (by exact hg), (by exact fun y hy => hm y (List.mem_cons_of_mem _ hy)), (by (have h1 := VE v gs x; have h2 := NT; rw [List.length_cons] at h2; omega))⟩
    refine VC.skip ?_; exact .inl ⟨rfl, E5 v gs x, wg, (by first | (rw [E5, if_pos c8]; done) | (rw [E5, if_neg c8]; done)), (by exact hg), (by exact fun y hy => hm y (List.mem_cons_of_mem _ hy)), (by (have h1 := VE v gs x; have h2 := NT; rw [List.length_cons] at h2; omega))⟩
  . rintro _ ⟨gs, wg, rfl, hg, hm, NT⟩; refine VC.seq (VC.text ?_); refine J.r (.ldV m1 gK) ?_; refine J.pL [(wg, .row 39 gH gs)] rfl rfl rfl (gV.call (HU (by have := NT; rw [List.length_nil] at this; omega))) ?_; rintro _ _ ⟨rfl, rfl⟩; show J _ _ _ _ _ _ [(fI, .var [.raw wg])] _; refine J.c (.assign rfl) (J.c (.assign rfl) (J.go ?_)); refine VC.ret ?_; exact aW.two rfl bP bP (fF (by rw [P5, VG, if_neg c2, <- hg]; rfl)) (fB (by exact (Classical.not_not.1 c2).symm))
  rintro _ _ _ ⟨⟩
end Go.Proofs
namespace Go.Proofs
open Go.Fs Ieee
set_option maxHeartbeats 400000
theorem agV : fU Tryz.prog 37 j8 := gM (by kernel_rfl)
theorem anV : r6 Tryz.prog 37 j8 := nX (z := .slice none 0 0) (by kernel_rfl) rfl rfl
theorem alK : r6 Tryz.prog 156 (.sl .bool) := nX (z := .slice none 0 0) (by kernel_rfl) rfl rfl
def zF (r : aG) (w : Int) (g i : Nat) (k0 : Int) : Nat -> Bool
  | 0 => true
  | k + 1 => if k0 <= (k : Int) /\ j6 r w g i k = true then false else zF r w g i k0 k
theorem agW {r : aG} {w : Int} {g i : Nat} {k0 : Int} : ∀ k : Nat, (k : Int) <= k0 -> zF r w g i k0 k = true
  | 0, _ => rfl
  | k + 1, h => by
    unfold zF; rw [if_neg (fun hh => by have := hh.1; omega)]; exact agW k (by omega)
theorem agX {r : aG} {w : Int} {g i : Nat} {k0 : Int} {k : Nat} (h : k0 <= (k : Int)) (hb : j6 r w g i k = true) : zF r w g i k0 (k + 1) = false := by unfold zF; rw [if_pos ⟨h, hb⟩]
theorem agY {r : aG} {w : Int} {g i : Nat} {k0 : Int} {k : Nat} (hb : j6 r w g i k = false) : zF r w g i k0 (k + 1) = zF r w g i k0 k := by
  show (if _ then _ else _) = _; rw [if_neg (fun hh => by rw [hb] at hh; exact Bool.false_ne_true hh.2)]
theorem MC {r : aG} {w : Int} {g i : Nat} {k0 : Int} : ∀ k : Nat, (zF r w g i k0 k = true ↔ ∀ j : Nat, k0 <= (j : Int) -> j < k -> j6 r w g i j = false)
  | 0 => ⟨fun _ j _ h => absurd h (by omega), fun _ => rfl⟩
  | k + 1 => by
    unfold zF; by_cases hc : k0 <= (k : Int) /\ j6 r w g i k = true
    . rw [if_pos hc]; exact ⟨fun h => (by cases h), fun h => (by have := h k hc.1 (by omega); rw [hc.2] at this; cases this)⟩
    rw [if_neg hc, MC k]; refine ⟨fun h j h1 h2 => ?_, fun h j h1 h2 => h j h1 (by omega)⟩; by_cases e : j = k
    . subst e
      cases hb : j6 r w g i j with
      | false => rfl
      | true => exact absurd ⟨h1, hb⟩ hc
    exact h j h1 (by omega)
theorem ad2 {r : aG} {w : Int} {g i k : Nat} (hw : 0 <= w) (hi : i < r.2.2.1.length) (hr : dP r i = true) (hk : (k : Int) = min (r.2.2.1.length : Int) ((i : Int) + w + 1)) : zF r w g i (max 0 ((i : Int) - w)) k = eG r w g i := by
  have anW : ∀ j : Nat, j < r.2.2.1.length -> ¬ (max 0 ((i : Int) - w) <= (j : Int) /\ j < k) -> j6 r w g i j = false := fun j hj hn => by
    unfold j6 BV; rw [Bool.and_eq_false_iff]; refine .inr ?_; rw [Bool.eq_false_iff]; simp only [ne_eq, Bool.or_eq_true, Bool.and_eq_true, decide_eq_true_eq]; omega
  cases hh : zF r w g i (max 0 ((i : Int) - w)) k with
  | true =>
    have h1 := (MC k).1 hh
    exact (agT hr fun j hj => if hc : max 0 ((i : Int) - w) <= (j : Int) /\ j < k then h1 j hc.1 hc.2 else anW j hj hc).symm
  | false =>
    cases hw2 : eG r w g i with
    | false => rfl
    | true =>
      have : zF r w g i (max 0 ((i : Int) - w)) k = true := (MC k).2 fun j h1 h2 => by
        cases hb : j6 r w g i j with
        | false => rfl
        | true => rw [agS (show j < r.2.2.1.length by omega) hb] at hw2; cases hw2
      rw [hh] at this; cases this
def G7 (r : aG) (w : Int) (g : Nat) (gs : List Int) (x : Int × Nat) : List Int := if eG r w g x.1.toNat = true then gs ++ [x.1] else gs
theorem VH {r : aG} {w : Int} {g : Nat} (gs : List Int) (x : Int × Nat) : (G7 r w g gs x).length <= gs.length + 1 := by
  unfold G7; split
  . rw [List.length_append, List.length_singleton]; omega
  omega
theorem VI {r : aG} {w : Int} {g : Nat} : ∀ {n i : Nat}, n = r.2.2.1.length - i -> i <= r.2.2.1.length -> (pR r i).foldl (G7 r w g) (mZ r w g i) = mZ r w g r.2.2.1.length
  | 0, i, hn, hi => by rw [sK (by omega), show i = r.2.2.1.length by omega] <;> rfl
  | n + 1, i, hn, hi => by
    have ih := VI (r := r) (w := w) (g := g) (n := n) (i := i + 1) (by omega) (by omega); rw [u7 (by omega)]; by_cases hb : dP r i = true
    . rw [if_pos hb, List.foldl_cons]
      cases hc : eG r w g i with
      | true =>
        rw [show G7 r w g (mZ r w g i) ((i : Int), gF r i) = mZ r w g (i + 1) by rw [aiS hc]; exact if_pos hc]; exact ih
      | false =>
        rw [show G7 r w g (mZ r w g i) ((i : Int), gF r i) = mZ r w g (i + 1) by rw [aaP hc]; exact if_neg (by show ¬ eG r w g i = true; rw [hc]; exact Bool.false_ne_true)]; exact ih
    rw [if_neg hb]
    have hc : eG r w g i = false := by unfold eG; rw [show dP r i = false by simpa using hb] <;> rfl
    rw [<- aaP hc]; exact ih
def vR (r : aG) (w : Int) : Int := dV [cM r, gA w 1 4096]
def fL (r : aG) (w : Int) (g : Nat) : List Int := if vR r w ≠ 0 then [] else mZ r w g r.2.2.1.length
theorem agZ {w : Int} (h : gA w 1 4096 = 0) : 1 <= w /\ w <= 4096 := by
  unfold gA at h; split at h
  . cases h
  omega
theorem HV {r : ByteArray × Int × (List Nat) × (List (Int × Int))} {w : Int} {g : Nat} (hl : r.2.2.1.length < 1000000) (uY : r.2.2.2.length < 1000000) (hg : P4 g) : VF Tryz.prog OA 111 [.v dJ r, I w, .v (.aO .f32) g] (.oD [.v j8 (fL r w g), I (vR r w)]) := by
  refine VF.enter Tryz.func111 rfl (fun _ _ => rfl) rfl ?_; show VC _ _ _ _ _ [(0, .v dJ r), (1, I w), (2, .v (.aO .f32) g)] [] _; refine VC.seq (VC.text ?_); refine J.new (.box) ?_; refine J.new (.box) ?_; refine J.new (.box) ?_; refine J.c (.assign rfl) (J.c (.assign rfl) ?_); refine J.go (VC.seq (VC.seq (VC.drawn ?_))); refine VD.r [] (.ld fP) (.inl rfl) ?_; refine VD.call rfl rfl (VF.call (vM (by first | assumption | omega | simp) (by first | assumption | omega | simp))) ?_; refine VD.r [] (.ld cQ) (.inl rfl) ?_; refine VD.call rfl rfl (VF.call (yT )) ?_; refine VD.new (.lit [cM r, gA w (1 : Int) (4096 : Int)] uR) ?_; refine VD.oE rfl rfl (VF.call (mP (by first | assumption | omega | simp))) ?_; refine VD.nw [20] (VD.c (.assign rfl) ?_); refine VD.go (VC.seq (VC.text ?_)); refine J.c (.move rfl) (J.c (.neq) (J.go ?_)); refine VC.aX rfl (fun c2 => ?_) (fun c2 => ?_)
  . refine VC.seq (VC.text ?_); refine J.c (.move rfl) (J.c (.assign rfl) (J.c (.assign rfl) (J.go ?_))); refine VC.ret ?_; exact aW.two rfl (L8 .nil) bP (fF (by rw [fL, vR, if_pos c2])) (fB (by rfl))
  have hz := cH.1 (Classical.not_not.1 c2); have sB := dO (hz (cM r) (by simp)); have hw := agZ (hz (gA w 1 4096) (by simp)); have qC := A6 (r := r) (i := 0) rfl; have lO := l4 (r := r); refine VC.skip (VC.seq (VC.text ?_)); refine J.r (.ld fP) ?_; refine J.call rfl rfl (VF.call (wW (show r.2.2.1.length <= 4096 from sB.2.1) uY sB.2.2.2.2)) ?_; refine J.cell (.alloc alK) ?_; intro fI; refine J.lJ (cs' := [.v (.sl .bool) (aP r)]) BU .v ?_; refine J.shut [(9, .p (.sl .bool) (aP r))] (.cons rfl (.var m0 .refl) .nil) ?_; refine J.go (VC.seq (VC.text ?_)); refine J.cell (.aaJ anV) ?_; intro nD; refine J.go (VC.seq (VC.seq ?_)); refine VC.aaF 3 (.int .i64) ?_; refine VC.text ?_; refine J.r (.ld fP) ?_; refine J.call rfl rfl (VF.call (G5 )) ?_; refine J.go (VC.block ?_); refine VC.aV [(3, .p dJ r), (4, .p (.int .i64) w), (5, .p (.aO .f32) g), (9, .p (.sl .bool) (aP r)), (10, .raw nD), (28, .lA 148 [] [.p dJ r])] ⟨rfl, rfl, rfl, rfl, rfl, rfl, trivial⟩ ?_; refine VC.rangeFunc rfl (BW (show r.2.2.1.length <= 4096 from sB.2.1) uY sB.2.2.2.2) (fun _ => rfl) rfl rfl (fun rest ss => ∃ (gs : List Int), ∃ (wg : Value), ss = [(wg, .row 3 (.int .i64) gs), (nD, .var [.raw wg])] /\ (rest.foldl (G7 r w g) gs = (pR r 0).foldl (G7 r w g) []) /\ (∀ y ∈ rest, ∃ k : Nat, 0 <= k /\ k < r.2.2.1.length /\ dP r k = true /\ y = ((k : Int), gF r k)) /\ (gs.length + rest.length <= 4096)) (fun ee ss => False) ⟨[], (.slice none 0 0), rfl, (by rfl), (by exact A5 rfl), (by (have := sB.2.1; simp; omega))⟩ ?_ ?_ ?_
  . rintro jj x rest _ ⟨gs, wg, rfl, hgf, hm, NT⟩; show VC _ _ _ _ _ [(30, .v (.aO .f32) x.2), (29, I x.1), (3, .p dJ r), (4, .p (.int .i64) w), (5, .p (.aO .f32) g), (9, .p (.sl .bool) (aP r)), (10, .raw nD), (28, .lA 148 [] [.p dJ r])] [(wg, .row 3 (.int .i64) gs), (nD, .var [.raw wg])] _; refine VC.seq (VC.text ?_); obtain ⟨i, -, nO, hri, hxe⟩ := hm x List.mem_cons_self
    have FC : x.1 = (i : Int) := by rw [hxe]
    have PR : x.2 = r.2.2.1[i] := by rw [hxe]; exact gO nO
    have hxl : bD x.2 = 0 := by rw [PR]; exact sB.2.2.2.1 _ (List.getElem_mem nO)
    have agU := NT; rw [List.length_cons] at agU; refine J.c (.assign rfl) ?_; refine J.go (VC.text ?_); refine J.c (.assign rfl) ?_; refine J.nil ?_; refine ⟨rfl, ?_⟩; refine VC.block (VC.seq (VC.text ?_)); refine J.c (.assign rfl) ?_; refine J.go (VC.seq (VC.seq (VC.text ?_))); refine J.c (.move rfl) ?_; refine J.r (.ld cQ) ?_; refine J.c (.sub rfl rfl (by omega)) ?_; refine J.r (.max) ?_; refine J.c (.assign rfl) ?_; refine J.go (VC.block ?_); refine VC.aV [(3, .p dJ r), (4, .p (.int .i64) w), (5, .p (.aO .f32) g), (9, .p (.sl .bool) (aP r)), (10, .raw nD), (11, I x.1), (12, .v (.aO .f32) x.2), (13, B (zF r w g i (max 0 ((i : Int) - w)) ((max 0 (x.1 - w)).toNat))), (14, I ((((max 0 (x.1 - w)).toNat) : Nat) : Int))] ⟨rfl, rfl, rfl, rfl, rfl, rfl, rfl, rK rfl (by exact (agW _ (by omega)).symm), vH rfl (by omega), trivial⟩ ?_; refine VC.loop (I := fun kk ff ss => ∃ (k : Nat), kk = 5000 - k /\ ff = [(3, .p dJ r), (4, .p (.int .i64) w), (5, .p (.aO .f32) g), (9, .p (.sl .bool) (aP r)), (10, .raw nD), (11, I x.1), (12, .v (.aO .f32) x.2), (13, B (zF r w g i (max 0 ((i : Int) - w)) k)), (14, I ((k : Nat) : Int))] /\ ss = [(wg, .row 3 (.int .i64) gs), (nD, .var [.raw wg])] /\ (max 0 ((i : Int) - w) <= (k : Int)) /\ ((k : Int) <= min (r.2.2.1.length : Int) ((i : Int) + w + 1))) ?_ _ _ _ ⟨(max 0 (x.1 - w)).toNat, rfl, rfl, rfl, (by omega), (by omega)⟩; rintro kk ff ss ⟨k, yE, rfl, rfl, kJ, hk1⟩; refine VC.seq (VC.seq (VC.text ?_)); refine J.c (.move rfl) ?_; refine J.r (.ld BU) ?_; refine J.r (.len eC) ?_; refine J.c (.move rfl) ?_; refine J.r (.ld cQ) ?_; refine J.c (.add rfl rfl (by omega)) (J.c (.add rfl rfl (by omega)) ?_); refine J.r (.min) ?_; refine J.c (.lss) (J.go ?_); refine VC.aX rfl (fun R7 => ?_) (fun R7 => ?_)
    . have oW : k < r.2.2.1.length := by omega
      have hvk := sB.2.2.2.1 _ (List.getElem_mem oW); have ZA := qK oW (show k < (aP r).length by omega); refine VC.skip (VC.seq (VC.block (VC.seq (VC.drawn ?_)))); refine VD.c (.fa (.r (.r (.l .o)))) ?_; refine VD.r [] (.ld dG) (.inl rfl) ?_; refine VD.c (.move rfl) (VD.c (.ix (j := k) rfl rfl bW (by omega)) ?_); refine VD.r [] (.ld eN) (.inl rfl) ?_; refine VD.r [] (.ld eN) (.inl rfl) ?_; refine VD.nw [] (VD.c (.IM (A0 (tH hg hvk).1)) (VD.c (.assign rfl) ?_)); refine VD.go (VC.seq ?_); refine VC.join [(3, .p dJ r), (4, .p (.int .i64) w), (5, .p (.aO .f32) g), (9, .p (.sl .bool) (aP r)), (10, .raw nD), (11, I x.1), (12, .v (.aO .f32) x.2), (13, B (zF r w g i (max 0 ((i : Int) - w)) k)), (14, I ((k : Nat) : Int)), (80, B (j6 r w g i k))] [(wg, .row 3 (.int .i64) gs), (nD, .var [.raw wg])] ?_ ?_
      . skip
        refine VC.text ?_; refine J.r (.ld BU) ?_; refine J.c (.move rfl) (J.c (.ix (j := k) rfl rfl eC (by omega)) ?_); refine J.r (.ld vt4) ?_; refine J.c (.move rfl) ?_; refine J.iB (x := 57) rfl (fun alL => ?_) (fun alL => ?_)
        . refine J.c (.move rfl) (J.c (.move rfl) (J.c (.lss) (J.c (.move rfl) ?_))); refine J.cg (r := decide (((k : Nat) : Int) < x.1)) (w := true) [] trivial (fun _ => (.move rfl)) ?_; refine J.cg (r := decide (((k : Nat) : Int) < x.1)) (w := true) [] trivial (fun _ => (.move rfl)) ?_; refine J.rg (r := decide (((k : Nat) : Int) < x.1)) (w := true) [] trivial (fun _ => (.ld eN)) ?_; refine J.cg (r := decide (((k : Nat) : Int) < x.1)) (w := true) [(63, .v (.aO .f32) x.2), (64, .v (.aO .f32) g)] ⟨rfl, rfl, trivial⟩ (fun _ => (.IM (A0 (tH hg hxl).1))) ?_; refine J.cg (r := decide (((k : Nat) : Int) < x.1)) (w := true) [(62, .v (.aO .f32) (mulR g r.2.2.1[k])), (65, .v (.aO .f32) (mulR g x.2))] ⟨rfl, rfl, trivial⟩ (fun _ => (.jE (b := .geq) (anS hg hxl hvk))) ?_; refine J.c (.and) (J.c (.move rfl) ?_); refine J.iB (x := 68) rfl (fun RF => ?_) (fun RF => ?_)
          . try simp only [Bool.and_eq_true, Bool.or_eq_true, Bool.and_eq_false_iff, Bool.or_eq_false_iff, Bool.not_eq_true', Bool.not_eq_false', decide_eq_true_eq, decide_eq_false_iff_not] at RF
            refine J.skip (J.skip (J.skip (J.skip ?_))); refine J.skip (J.skip (J.skip (J.skip ?_))); refine J.skip (J.skip (J.c (.cZ rfl rfl) (J.c (.cZ rfl rfl) ?_))); refine J.nil ?_; exact ⟨⟨rfl, rfl, rfl, rfl, rfl, rfl, rfl, rfl, rfl, rK rfl (by rw [Bool.eq_iff_iff]; unfold j6; rw [G2 nO oW, <- ZA, <- PR]; cases NU : (aP r)[k] <;> simp only [Bool.true_eq_false, Bool.false_and, Bool.true_and, Bool.and_eq_true, Bool.or_eq_true, decide_eq_true_eq, Bool.false_eq_true, true_iff, false_iff, iff_true, iff_false, false_and, true_and, not_false_eq_true] <;> first | omega | (simp_all; done) | (simp_all; omega)), trivial⟩, rfl⟩
          try simp only [Bool.and_eq_true, Bool.or_eq_true, Bool.and_eq_false_iff, Bool.or_eq_false_iff, Bool.not_eq_true', Bool.not_eq_false', decide_eq_true_eq, decide_eq_false_iff_not] at RF
          refine J.c (.move rfl) (J.c (.move rfl) (J.c (.gtr) (J.c (.move rfl) ?_))); refine J.cg (r := decide (x.1 < ((k : Nat) : Int))) (w := true) [] trivial (fun _ => (.move rfl)) ?_; refine J.cg (r := decide (x.1 < ((k : Nat) : Int))) (w := true) [] trivial (fun _ => (.move rfl)) ?_; refine J.rg (r := decide (x.1 < ((k : Nat) : Int))) (w := true) [] trivial (fun _ => (.ld eN)) ?_; refine J.cg (r := decide (x.1 < ((k : Nat) : Int))) (w := true) [(74, .v (.aO .f32) x.2), (75, .v (.aO .f32) g)] ⟨rfl, rfl, trivial⟩ (fun _ => (.IM (A0 (tH hg hxl).1))) ?_; refine J.cg (r := decide (x.1 < ((k : Nat) : Int))) (w := true) [(73, .v (.aO .f32) (mulR g r.2.2.1[k])), (76, .v (.aO .f32) (mulR g x.2))] ⟨rfl, rfl, trivial⟩ (fun _ => (.jE (b := .gtr) (anT hg hxl hvk))) ?_; refine J.c (.and) (J.c (.bB rfl rfl) (J.c (.cZ rfl rfl) ?_)); refine J.nil ?_; exact ⟨⟨rfl, rfl, rfl, rfl, rfl, rfl, rfl, rfl, rfl, rK rfl (by rw [Bool.eq_iff_iff]; unfold j6; rw [G2 nO oW, <- ZA, <- PR]; cases NU : (aP r)[k] <;> simp only [Bool.true_eq_false, Bool.false_and, Bool.true_and, Bool.and_eq_true, Bool.or_eq_true, decide_eq_true_eq, Bool.false_eq_true, true_iff, false_iff, iff_true, iff_false, false_and, true_and, not_false_eq_true] <;> first | omega | (simp_all; done) | (simp_all; omega)), trivial⟩, rfl⟩
        refine J.skip (J.skip (J.skip (J.skip ?_))); refine J.skip (J.skip (J.skip (J.skip ?_))); refine J.skip (J.skip (J.skip (J.skip ?_))); refine J.skip (J.skip (J.skip (J.skip ?_))); refine J.skip (J.skip (J.skip (J.skip ?_))); refine J.skip (J.skip (J.c (.bB rfl rfl) ?_)); refine J.nil ?_; exact ⟨⟨rfl, rfl, rfl, rfl, rfl, rfl, rfl, rfl, rfl, rK rfl (by rw [Bool.eq_iff_iff]; unfold j6; rw [G2 nO oW, <- ZA, <- PR]; cases NU : (aP r)[k] <;> simp only [Bool.true_eq_false, Bool.false_and, Bool.true_and, Bool.and_eq_true, Bool.or_eq_true, decide_eq_true_eq, Bool.false_eq_true, true_iff, false_iff, iff_true, iff_false, false_and, true_and, not_false_eq_true] <;> first | omega | (simp_all; done) | (simp_all; omega)), trivial⟩, rfl⟩
      refine VC.eR rfl (fun ZC => ?_) (fun ZC => ?_)
      . refine VC.text ?_; refine J.c (.assign rfl) ?_; refine J.nil (VC.text ?_); refine J.c (.move rfl) (J.c (.add rfl rfl (by omega)) (J.c (.assign rfl) ?_)); refine J.nil ?_; refine ⟨_, [(3, .p dJ r), (4, .p (.int .i64) w), (5, .p (.aO .f32) g), (9, .p (.sl .bool) (aP r)), (10, .raw nD), (11, I x.1), (12, .v (.aO .f32) x.2), (13, B (zF r w g i (max 0 ((i : Int) - w)) (k + 1))), (14, I (((k + 1) : Nat) : Int))], ?_, ⟨rfl, rfl, rfl, rfl, rfl, rfl, rfl, rK rfl (by first | exact (agX kJ ZC).symm | exact (agY ZC).symm), rfl, trivial⟩, (k + 1), rfl, rfl, rfl, (by omega), (by omega)⟩; omega
      refine VC.skip (VC.text ?_); refine J.c (.move rfl) (J.c (.add rfl rfl (by omega)) (J.c (.assign rfl) ?_)); refine J.nil ?_; refine ⟨_, [(3, .p dJ r), (4, .p (.int .i64) w), (5, .p (.aO .f32) g), (9, .p (.sl .bool) (aP r)), (10, .raw nD), (11, I x.1), (12, .v (.aO .f32) x.2), (13, B (zF r w g i (max 0 ((i : Int) - w)) (k + 1))), (14, I (((k + 1) : Nat) : Int))], ?_, ⟨rfl, rfl, rfl, rfl, rfl, rfl, rfl, rK rfl (by first | exact (agX kJ ZC).symm | exact (agY ZC).symm), rfl, trivial⟩, (k + 1), rfl, rfl, rfl, (by omega), (by omega)⟩; omega
    refine VC.exit (VC.seq (VC.text ?_)); have xV := ad2 (r := r) (w := w) (g := g) (i := i) (k := k) (by omega) nO hri (by omega); refine J.c (.move rfl) (J.go ?_); refine VC.eR rfl (fun FY => ?_) (fun FY => ?_)
    . have hc : eG r w g x.1.toNat = true := by rw [FC]; show eG r w g i = true; rw [<- xV]; exact FY
      refine VC.text ?_; refine J.r (.ldV m1 agV) ?_; refine J.c (.move rfl) ?_; refine J.new (.lit [x.1] mO) ?_; refine J.app rfl rfl mO mO (by simp; omega) ?_; intro lU; refine J.perm iL ?_; refine J.one m1 fun ho4 => ?_; refine J.lJ (cs' := [.raw lU]) agV (.raw rfl (vJ ho4) ho4) ?_; refine J.perm iL ?_; refine J.nil ?_; exact .inl ⟨rfl, G7 r w g gs x, lU, (by first | (rw [G7, if_pos hc]; done) | (rw [G7, if_neg hc]; done)), (by exact hgf), (by exact fun y hy => hm y (List.mem_cons_of_mem _ hy)), (by (have h1 := VH (r := r) (w := w) (g := g) gs x; have h2 := NT; rw [List.length_cons] at h2; omega))⟩
    have hc : ¬ eG r w g x.1.toNat = true := by rw [FC]; show ¬ eG r w g i = true; rw [<- xV, FY]; exact Bool.false_ne_true
    refine VC.skip ?_; exact .inl ⟨rfl, G7 r w g gs x, wg, (by first | (rw [G7, if_pos hc]; done) | (rw [G7, if_neg hc]; done)), (by exact hgf), (by exact fun y hy => hm y (List.mem_cons_of_mem _ hy)), (by (have h1 := VH (r := r) (w := w) (g := g) gs x; have h2 := NT; rw [List.length_cons] at h2; omega))⟩
  . rintro _ ⟨gs, wg, rfl, hgf, hm, NT⟩; refine VC.seq (VC.text ?_); refine J.r (.ldV m1 agV) ?_; refine J.c (.assign rfl) (J.c (.assign rfl) (J.go ?_)); refine VC.ret ?_; exact aW.two rfl (L8 (.row m0)) bP (fF (by rw [fL, vR, if_neg c2, <- VI (r := r) (w := w) (g := g) rfl (Nat.zero_le _)]; exact hgf)) (fB (by exact (Classical.not_not.1 c2).symm))
  rintro _ _ _ ⟨⟩
end Go.Proofs
namespace Go.Fs
variable {P : Program} {h : U} {S : List Nat}
def sC : (τ : Ty) -> τ.den -> τ.den -> Bool
  | .int _, x, y => (show Int from x) == (show Int from y)
  | .bool, x, y => (show Bool from x) == (show Bool from y)
  | .str, x, y => decide ((show ByteArray from x) = (show ByteArray from y))
  | .aO k, x, y => Op.floatEq k x y
  | .unit, _, _ => true
  | .pair a b, x, y => sC a x.1 y.1 && sC b x.2 y.2
  | _, _, _ => false
def eqW (P : Program) : Nat -> Ty -> TypeId -> Bool
  | 0, _, _ => false
  | d + 1, τ, T => TF P T τ && match P.underlying T, τ with
    | some (.int k), .int k' => k == k'
    | some .bool, .bool => true
    | some .string, .str => true
    | some (.float k), .aO k' => k == k'
    | some (.struct fs), .pair a b => !P.stoodInHeld T && XL (eqW P d) fs.toList 0 (.pair a b)
    | _, _ => false
theorem VJ {E : Ty -> TypeId -> Bool} {n : Nat} {cs ds : Array Value} (hE : ∀ τ T, E τ T = true -> fU P T τ /\ ∀ (u v : Value) (x y : τ.den), aE h S τ u x -> aE h S τ v y -> aD P (Op.equalIn n T u v) = some (sC τ x y)) :
    ∀ (l : List Field) (o : Nat) (τ : Ty) (x y : τ.den), XL E l o τ = true -> cG h S τ (cs.toList.drop o) x -> cG h S τ (ds.toList.drop o) y ->
    aD P (forIn l (none, ()) fun f __s =>
            if f.name ≠ "_" then do
              let __do_lift <- part f.type cs f.offset
              let __do_lift_1 <- part f.type ds f.offset
              let __do_lift <- Op.equalIn n f.type __do_lift __do_lift_1
              if (!__do_lift) = true then pure (ForInStep.done (some false, ())) else pure (ForInStep.yield (none, ()))
            else pure (ForInStep.yield (none, ()))) = some (if sC τ x y = true then ((none : Option Bool), ()) else (some false, ())) := by
  intro l
  have key : ∀ (f : Field) (r : List Field) (o : Nat) (τ : Ty) (x y : τ.den) (R : Option (Option Bool × Unit)), (!(f.name == "_")) = true -> Nat.beq f.offset o = true -> E τ f.type = true -> cG h S τ ((cs.toList.drop o).take τ.size) x -> cG h S τ ((ds.toList.drop o).take τ.size) y ->
      aD P (forIn (f :: r) (none, ()) fun f __s =>
            if f.name ≠ "_" then do
              let __do_lift <- part f.type cs f.offset
              let __do_lift_1 <- part f.type ds f.offset
              let __do_lift <- Op.equalIn n f.type __do_lift __do_lift_1
              if (!__do_lift) = true then pure (ForInStep.done (some false, ())) else pure (ForInStep.yield (none, ()))
            else pure (ForInStep.yield (none, ()))) = if sC τ x y = true then aD P (forIn r (none, ()) fun f __s =>
            if f.name ≠ "_" then do
              let __do_lift <- part f.type cs f.offset
              let __do_lift_1 <- part f.type ds f.offset
              let __do_lift <- Op.equalIn n f.type __do_lift __do_lift_1
              if (!__do_lift) = true then pure (ForInStep.done (some false, ())) else pure (ForInStep.yield (none, ()))
            else pure (ForInStep.yield (none, ()))) else some (some false, ()) := by
    intro f r o τ x y R n1 n2 n3 r1 r2; obtain ⟨hT, hq⟩ := hE _ _ n3; obtain ⟨u, u1, u2⟩ := zY hT r1; obtain ⟨v, v1, v2⟩ := zY hT r2
    have hn : f.name ≠ "_" := by simpa using n1
    have ho := bV n2; rw [List.forIn_cons]; simp only [hn, ne_eq, not_false_eq_true, if_true, aC, ho, u1, v1, Option.bind_some, hq u v x y u2 v2]; cases he : sC τ x y <;> simp [aL, aC]
  induction l with
  | nil =>
    intro o τ x y hb hx hy; cases τ <;> first | (cases hb; done) | skip
    simp [aL, sC]
  | cons f r ih =>
    intro o τ x y hb hx hy; by_cases hp : (∀ a b, τ ≠ .pair a b) \/ (r = [] /\ (!(f.name == "_")) = true /\ Nat.beq f.offset o = true /\ E τ f.type = true)
    . have hs : r = [] /\ (!(f.name == "_")) = true /\ Nat.beq f.offset o = true /\ E τ f.type = true := by
        rcases hp with hp | hp
        . cases τ with
          | pair a b => exact absurd rfl (hp a b)
          | _ =>
            cases r with
            | cons f' r => cases hb
            | nil =>
              obtain ⟨n1, n3⟩ := aQ (show (!(f.name == "_") && Nat.beq f.offset o && E _ f.type) = true from hb); obtain ⟨n1, n2⟩ := aQ n1; exact ⟨rfl, n1, n2, n3⟩
        exact hp
      obtain ⟨rfl, n1, n2, n3⟩ := hs; rw [key f [] o τ x y none n1 n2 n3 (by rw [List.take_of_length_le (Nat.le_of_eq hx.len)]; exact hx) (by rw [List.take_of_length_le (Nat.le_of_eq hy.len)]; exact hy)]; cases he : sC τ x y <;> simp [aL]
    cases τ with
    | pair a b =>
      have sR : ((!(f.name == "_") && Nat.beq f.offset o && E a f.type && XL E r (o + a.size) b) || (r.isEmpty && !(f.name == "_") && Nat.beq f.offset o && E (.pair a b) f.type)) = true := hb; rcases Bool.or_eq_true_iff.1 sR with h1 | h1
      . obtain ⟨h1, n4⟩ := aQ h1; obtain ⟨h1, n3⟩ := aQ h1; obtain ⟨n1, n2⟩ := aQ h1; rw [key f r o a x.1 y.1 none n1 n2 n3 hx.1 hy.1]; have h2 := ih (o + a.size) b x.2 y.2 n4 (by rw [<- List.drop_drop]; exact hx.2) (by rw [<- List.drop_drop]; exact hy.2); rw [h2]; show (if sC a x.1 y.1 = true then some (if sC b x.2 y.2 = true then _ else _) else _) = some (if (sC a x.1 y.1 && sC b x.2 y.2) = true then _ else _); cases sC a x.1 y.1 <;> cases sC b x.2 y.2 <;> rfl
      obtain ⟨h1, n3⟩ := aQ h1; obtain ⟨h1, n2⟩ := aQ h1; obtain ⟨h1, n1⟩ := aQ h1
      exact absurd (.inr ⟨by simpa using h1, n1, n2, n3⟩) hp
    | _ => exact absurd (.inl fun _ _ h => by cases h) hp
theorem aiT : ∀ (d : Nat) (τ : Ty) (T : TypeId), eqW P d τ T = true -> ∀ (D : Nat) (u v : Value) (x y : τ.den), aE h S τ u x -> aE h S τ v y -> aD P (Op.equalIn (D + d) T u v) = some (sC τ x y) := by
  intro d
  induction d with
  | zero => intro τ T hb; cases hb
  | succ d ih =>
    intro τ T hb D u v x y hu hv; unfold eqW at hb; obtain ⟨hvt, hb⟩ := aQ hb
    cases hU : P.underlying T with
    | none => simp only [hU] at hb; cases hb
    | some dsc =>
      simp only [hU] at hb; cases τ <;> cases dsc <;> try (cases hb; done)
      . rename_i k _ k'
        obtain rfl : k = k' := by
          have : (k' == k) = true := hb; exact (by simpa using this : k' = k).symm
        obtain rfl := aE.int hu; obtain rfl := aE.int hv; rw [show D + (d + 1) = (D + d) + 1 from rfl, Op.equalIn, aC, aK hU]; simp only [Option.bind_some, if_true]; rfl
      . obtain rfl := aE.bool hu; obtain rfl := aE.bool hv; rw [show D + (d + 1) = (D + d) + 1 from rfl, Op.equalIn, aC, aK hU]; simp only [Option.bind_some]; rfl
      . obtain rfl := aE.str hu; obtain rfl := aE.str hv; rw [show D + (d + 1) = (D + d) + 1 from rfl, Op.equalIn, aC, aK hU]; simp only [Option.bind_some]; show some (_ == _) = some (decide (x = y)); by_cases he : x = y
        . rw [decide_eq_true he]; exact congrArg some (DS he)
        rw [decide_eq_false he]; exact congrArg some (DT he)
      . rename_i k _ k'
        obtain rfl : k = k' := by
          have : (k' == k) = true := hb; exact (by simpa using this : k' = k).symm
        obtain rfl := aE.aO hu; obtain rfl := aE.aO hv; rw [show D + (d + 1) = (D + d) + 1 from rfl, Op.equalIn, aC, aK hU]; simp only [Option.bind_some, if_true]; rfl
      rename_i a b fs; obtain ⟨h1, h2⟩ := aQ hb
      have hs : P.stoodInHeld T = false := by simpa using h1
      obtain ⟨cs, rfl⟩ : ∃ cs, u = .agg cs := by
        have := hu.1; cases u <;> first | exact ⟨_, rfl⟩ | cases this
      obtain ⟨ds, rfl⟩ : ∃ cs, v = .agg cs := by
        have := hv.1; cases v <;> first | exact ⟨_, rfl⟩ | cases this
      rw [show D + (d + 1) = (D + d) + 1 from rfl, Op.equalIn]; rw [aC, aK hU]; simp only [Option.bind_some, aC, n9, hs, Bool.false_eq_true, if_false]; simp only [<- Array.forIn_toList]; have hF := VJ (h := h) (S := S) (cs := cs) (ds := ds) (n := D + d) (fun τ T hb => ⟨gM ?_, fun u v x y => ih τ T hb D u v x y⟩) fs.toList 0 _ x y h2 hu.2 hv.2
      . rw [hF]; cases he : sC _ x y <;> simp [aL]
      cases d with
      | zero => cases hb
      | succ d => unfold eqW at hb; exact (aQ hb).1
variable {fl : VL} {σ : aR} {x y : Operand} {T T' : TypeId} {τ : Ty}
theorem aI.anX {p q : τ.den} (hb : (eqW P 40 τ T && !P.eqGuardType P.depth T && τ.agg && τ.iA) = true) (hx : aS fl x = some (.v τ p) := by rfl) (hy : aS fl y = some (.v τ q) := by rfl) : aI P fl σ (.binOp .eql T x y T') (.v .bool (sC τ p q)) :=
  .bin hx hy fun h S a c ha hc => by
    obtain ⟨hb, b4⟩ := aQ hb; obtain ⟨hb, b3⟩ := aQ hb; obtain ⟨b1, b2⟩ := aQ hb
    have b2 : P.eqGuardType P.depth T = false := by simpa using b2
    have h1 : aD P (Op.equal T a c) = some (sC τ p q) := aiT 40 τ T b1 9960 a c p q ha hc; obtain ⟨cs, rfl⟩ := QM b3 ha; obtain ⟨ds, rfl⟩ := QM b3 hc; refine ⟨.bool (sC τ p q), aE.ofBool _, ?_, ?_⟩
    . rw [(aH.flat (pv := .v τ p) b4 ha).1, (aH.flat (pv := .v τ q) b4 hc).1]; rfl
    have he : aD P (eqGuard .eql T x y (.agg cs) (.agg ds)) = some () := by
      unfold eqGuard; simp [aC, n9, b2, aL]
    have hb : aD P (binOp .eql T (.agg cs) (.agg ds)) = some (.bool (sC τ p q)) := by
      unfold binOp; simp only [aC, h1, Option.bind_some, aL]
    unfold bX; rw [aC, he]; simp only [Option.bind_some, hb]; rfl
def x6 (p q : Nat) : Nat := match Ieee.single.order p q with
  | some .lt => p
  | some .gt => q
  | _ => if (FloatKind.f32.decode p).neg then p else q
def x7 (p q : Nat) : Nat := match Ieee.single.order p q with
  | some .lt => q
  | some .gt => p
  | _ => if (FloatKind.f32.decode p).neg then q else p
theorem cJ.anY {a : Array TypeId} {p q : Nat} {c : Ordering} (ho : Ieee.single.order p q = some c) (hx : aS fl x = some (.v (.aO .f32) p) := by rfl) (hy : aS fl y = some (.v (.aO .f32) q) := by rfl) : cJ P fl σ (.call { callee := .builtin .min, args := #[x, y], argTypes := a }) (.v (.aO .f32) (x6 p q)) :=
  ⟨rfl, fun h S t hs _ => by
    have h1 := aE.aO (hs x (by simp [Op.operands, Call.operands]) _ hx); have h2 := aE.aO (hs y (by simp [Op.operands, Call.operands]) _ hy); refine ⟨_, aE.uM _ _, fun H _ d ty pos after g => ?_⟩; show (if [aB t x, aB t y].all af = true then (bX P (Builtin.min_ a ty [aB t x, aB t y].toArray)).map fun v => (v, H) else none) = _; rw [h1, h2]; have oA : FloatKind.f32.format.order p q = some c := ho
    have : (bX P (Builtin.min_ a ty [Value.float .f32 p, Value.float .f32 q].toArray)) = some (.float .f32 (x6 p q)) := by
      unfold x6; rw [ho]; simp only [Builtin.min_, List.foldlM, Builtin.min2, oA]; cases c <;> rfl
    rw [this]; rfl⟩
theorem cJ.anZ {a : Array TypeId} {p q : Nat} {c : Ordering} (ho : Ieee.single.order p q = some c) (hx : aS fl x = some (.v (.aO .f32) p) := by rfl) (hy : aS fl y = some (.v (.aO .f32) q) := by rfl) : cJ P fl σ (.call { callee := .builtin .max, args := #[x, y], argTypes := a }) (.v (.aO .f32) (x7 p q)) :=
  ⟨rfl, fun h S t hs _ => by
    have h1 := aE.aO (hs x (by simp [Op.operands, Call.operands]) _ hx); have h2 := aE.aO (hs y (by simp [Op.operands, Call.operands]) _ hy); refine ⟨_, aE.uM _ _, fun H _ d ty pos after g => ?_⟩; show (if [aB t x, aB t y].all af = true then (bX P (Builtin.max_ a ty [aB t x, aB t y].toArray)).map fun v => (v, H) else none) = _; rw [h1, h2]; have oA : FloatKind.f32.format.order p q = some c := ho
    have : (bX P (Builtin.max_ a ty [Value.float .f32 p, Value.float .f32 q].toArray)) = some (.float .f32 (x7 p q)) := by
      unfold x7; rw [ho]; simp only [Builtin.max_, List.foldlM, Builtin.max2, oA]; cases c <;> rfl
    rw [this]; rfl⟩
end Go.Fs
namespace Go.Proofs
open Go.Fs Ieee
set_option maxHeartbeats 400000
theorem ZD {r : ByteArray × Int × (List Nat) × (List (Int × Int))} {w : Int} (hl : r.2.2.1.length < 1000000) (uY : r.2.2.2.length < 1000000) : VF Tryz.prog OA 58 [.v dJ r, I w] (.oD [.v j8 (fL r w 1065353216), I (vR r w)]) := by
  refine VF.enter Tryz.func58 rfl (fun _ _ => rfl) rfl ?_; show VC _ _ _ _ _ [(0, .v dJ r), (1, I w)] [] _; refine VC.seq (VC.text ?_); refine J.new (.box) ?_; refine J.c (.assign rfl) (J.c (.assign rfl) ?_); refine J.go (VC.seq (VC.text ?_)); refine J.r (.ld fP) ?_; refine J.c (.move rfl) ?_; refine J.call rfl rfl (VF.call (HV hl uY (.inl rfl))) ?_; refine J.c (.extract) (J.c (.extract) (J.c (.assign rfl) (J.c (.assign rfl) ?_))); refine J.go ?_; refine VC.ret ?_; exact aW.two rfl bP bP (fF (by rfl)) (fB (by rfl))
theorem ad3 {r : ByteArray × Int × (List Nat) × (List (Int × Int))} {w : Int} (hl : r.2.2.1.length < 1000000) (uY : r.2.2.2.length < 1000000) : VF Tryz.prog OA 59 [.v dJ r, I w] (.oD [.v j8 (fL r w 3212836864), I (vR r w)]) := by
  refine VF.enter Tryz.func59 rfl (fun _ _ => rfl) rfl ?_; show VC _ _ _ _ _ [(0, .v dJ r), (1, I w)] [] _; refine VC.seq (VC.text ?_); refine J.new (.box) ?_; refine J.c (.assign rfl) (J.c (.assign rfl) ?_); refine J.go (VC.seq (VC.text ?_)); refine J.r (.ld fP) ?_; refine J.c (.move rfl) ?_; refine J.call rfl rfl (VF.call (HV hl uY (.inr rfl))) ?_; refine J.c (.extract) (J.c (.extract) (J.c (.assign rfl) (J.c (.assign rfl) ?_))); refine J.go ?_; refine VC.ret ?_; exact aW.two rfl bP bP (fF (by rfl)) (fB (by rfl))
abbrev xX := Int × Int × Nat × Nat
def RG (S : xX) (x : Nat) : Nat := if S.1 = 0 \/ bK x < bK S.2.2.1 then x else S.2.2.1
def RH (S : xX) (x : Nat) : Nat := if S.1 = 0 \/ bK S.2.2.2 < bK x then x else S.2.2.2
def aaR (S : xX) (x : Nat) : xX := (S.1 + 1, S.2.1 + bK x, RG S x, RH S x)
def dZ (r : aG) : Nat -> xX
  | 0 => (0, 0, 0, 0)
  | i + 1 => if dP r i = true then aaR (dZ r i) (gF r i) else dZ r i
theorem x8 {r : aG} {i : Nat} (h : dP r i = true) : dZ r (i + 1) = aaR (dZ r i) (gF r i) := by
  show (if _ then _ else _) = _; rw [if_pos h]
theorem x9 {r : aG} {i : Nat} (h : dP r i = false) : dZ r (i + 1) = dZ r i := by
  show (if _ then _ else _) = _; rw [if_neg (by rw [h]; exact Bool.false_ne_true)]
theorem VK : bD 0 = 0 := by decide +kernel
def ZE (i : Nat) (S : xX) : Prop := 0 <= S.1 /\ S.1 <= (i : Int) /\ -(1024 * (i : Int)) <= S.2.1 /\ S.2.1 <= 1024 * (i : Int) /\ bD S.2.2.1 = 0 /\ bD S.2.2.2 = 0
theorem ad4 {i : Nat} {S : xX} {x : Nat} (h : ZE i S) (hx : bD x = 0) : ZE (i + 1) (aaR S x) := by
  obtain ⟨h1, h2, h3, h4, h5, h6⟩ := h; obtain ⟨g1, g2, g3⟩ := gW hx; refine ⟨?_, ?_, ?_, ?_, ?_, ?_⟩
  . show 0 <= S.1 + 1; omega
  . show S.1 + 1 <= _; omega
  . show _ <= S.2.1 + bK x; omega
  . show S.2.1 + bK x <= _; omega
  . show bD (RG S x) = 0; unfold RG; split
    . exact hx
    exact h5
  show bD (RH S x) = 0; unfold RH; split
  . exact hx
  exact h6
theorem MD {r : aG} (hv : ∀ x ∈ r.2.2.1, bD x = 0) : ∀ i : Nat, i <= r.2.2.1.length -> ZE i (dZ r i)
  | 0, _ => ⟨Int.le_refl _, Int.le_refl _, Int.le_refl _, Int.le_refl _, VK, VK⟩
  | i + 1, h => by
    have ih := MD hv i (by omega)
    cases hb : dP r i with
    | true =>
      rw [x8 hb]; refine ad4 ih ?_; rw [gO (show i < r.2.2.1.length by omega)]
      exact hv _ (List.getElem_mem _)
    | false =>
      rw [x9 hb]; obtain ⟨h1, h2, h3, h4, h5, h6⟩ := ih; exact ⟨h1, by omega, by omega, by omega, h5, h6⟩
theorem RI {x y : Nat} (hx : bD x = 0) (hy : bD y = 0) : dB .lss .f32 x y = decide (bK x < bK y) := by
  rw [(nB (gW hx).1 (gW hy).1).2.2.1]; exact decide_eq_decide.2 ⟨fun h => by omega, fun h => by omega⟩
theorem ME {x : Nat} (h : bD x = 0) : bD (eH x) = 0 /\ bK (eH x) = bK x := by
  have h1 := sJ h; have h2 := gW h; exact QV (h1.2.2.trans h2.1) h2.2.1 h2.2.2
theorem E6 {x y : Nat} (hx : bD x = 0) (hy : bD y = 0) : single.order x y = some (compare (bK x * 44601490397061246283071436545296723011960832) (bK y * 44601490397061246283071436545296723011960832)) := Format.wR (gW hx).1 (gW hy).1
theorem VM {x y : Nat} (hx : bD x = 0) (hy : bD y = 0) : bD (x6 x y) = 0 /\ bK (x6 x y) = min (bK x) (bK y) := by
  unfold x6; rw [E6 hx hy]
  cases hc : compare (bK x * 44601490397061246283071436545296723011960832) (bK y * 44601490397061246283071436545296723011960832) with
  | lt => have := Int.compare_eq_lt.1 hc; exact ⟨hx, by show bK x = _; omega⟩
  | gt => have := Int.compare_eq_gt.1 hc; exact ⟨hy, by show bK y = _; omega⟩
  | eq =>
    have := Int.compare_eq_eq.1 hc; show bD (if _ then x else y) = 0 /\ bK (if _ then x else y) = _; split
    . exact ⟨hx, by omega⟩
    exact ⟨hy, by omega⟩
theorem VN {x y : Nat} (hx : bD x = 0) (hy : bD y = 0) : bD (x7 x y) = 0 /\ bK (x7 x y) = max (bK x) (bK y) := by
  unfold x7; rw [E6 hx hy]
  cases hc : compare (bK x * 44601490397061246283071436545296723011960832) (bK y * 44601490397061246283071436545296723011960832) with
  | lt => have := Int.compare_eq_lt.1 hc; exact ⟨hy, by show bK y = _; omega⟩
  | gt => have := Int.compare_eq_gt.1 hc; exact ⟨hx, by show bK x = _; omega⟩
  | eq =>
    have := Int.compare_eq_eq.1 hc; show bD (if _ then y else x) = 0 /\ bK (if _ then y else x) = _; split
    . exact ⟨hy, by omega⟩
    exact ⟨hx, by omega⟩
def VP (S : xX) (x : Int × Nat) : xX := (S.1 + 1, S.2.1 + bK x.2, x6 S.2.2.1 (eH x.2), x7 S.2.2.2 (eH x.2))
def ZF : xX := (0, 0, 1115684864, 3263168512)
def G8 (r : aG) : xX := (pR r 0).foldl VP ZF
def G9 (P R : xX) : Prop := P.1 = R.1 /\ P.2.1 = R.2.1 /\ bD P.2.2.1 = 0 /\ bD P.2.2.2 = 0 /\ (R.1 = 0 -> bK P.2.2.1 = 1024 /\ bK P.2.2.2 = -1024) /\ (R.1 ≠ 0 -> bK P.2.2.1 = bK R.2.2.1 /\ bK P.2.2.2 = bK R.2.2.2)
theorem aiU : G9 ZF (0, 0, 0, 0) := ⟨rfl, rfl, by decide +kernel, by decide +kernel, fun _ => ⟨by decide +kernel, by decide +kernel⟩, fun h => absurd rfl h⟩
theorem ZG {P R : xX} {k : Int} {x : Nat} (h : G9 P R) (h0 : 0 <= R.1) (hx : bD x = 0) : G9 (VP P (k, x)) (aaR R x) := by
  obtain ⟨h1, h2, h3, h4, h5, h6⟩ := h; obtain ⟨p1, p2⟩ := ME hx; obtain ⟨a1, a2⟩ := VM h3 p1; obtain ⟨b1, b2⟩ := VN h4 p1; obtain ⟨v1, v2, v3⟩ := gW hx; refine ⟨by show P.1 + 1 = R.1 + 1; omega, by show P.2.1 + bK x = R.2.1 + bK x; omega, a1, b1, fun hh => ?_, fun _ => ?_⟩
  . have : R.1 + 1 = 0 := hh; omega
  show bK (x6 P.2.2.1 (eH x)) = bK (RG R x) /\ bK (x7 P.2.2.2 (eH x)) = bK (RH R x); rw [a2, b2, p2]; unfold RG RH; by_cases hz : R.1 = 0
  . have := h5 hz; rw [if_pos (.inl hz), if_pos (.inl hz)]; omega
  have := h6 hz; refine ⟨?_, ?_⟩
  . split
    . rename_i hc; rcases hc with hc | hc
      . exact absurd hc hz
      omega
    rename_i hc; have := (not_or.1 hc).2; omega
  split
  . rename_i hc; rcases hc with hc | hc
    . exact absurd hc hz
    omega
  rename_i hc; have := (not_or.1 hc).2; omega
theorem GA {r : aG} (hv : ∀ x ∈ r.2.2.1, bD x = 0) : ∀ {n i : Nat} {P : xX}, n = r.2.2.1.length - i -> i <= r.2.2.1.length -> G9 P (dZ r i) -> G9 ((pR r i).foldl VP P) (dZ r r.2.2.1.length)
  | 0, i, P, hn, hi, h => by rw [sK (by omega), show r.2.2.1.length = i by omega]; exact h
  | n + 1, i, P, hn, hi, h => by
    have nZ : i < r.2.2.1.length := by omega
    rw [u7 nZ]
    cases hb : dP r i with
    | true =>
      rw [if_pos rfl, List.foldl_cons]; refine GA hv (n := n) (i := i + 1) (by omega) (by omega) ?_; rw [x8 hb]
      exact ZG h (MD hv i hi).1 (by rw [gO nZ]; exact hv _ (List.getElem_mem nZ))
    | false =>
      rw [if_neg Bool.false_ne_true]; refine GA hv (n := n) (i := i + 1) (by omega) (by omega) ?_; rw [x9 hb]; exact h
theorem VQ {r : aG} (hv : ∀ x ∈ r.2.2.1, bD x = 0) : G9 (G8 r) (dZ r r.2.2.1.length) := GA hv rfl (Nat.zero_le _) aiU
end Go.Proofs
