/- Parts of the proof: an evaluator of the model, what it is sound for, and contracts of functions. No condition. -/
import Derived.Test.YtedakjflddcbbaaGreatDoorP5
import Derived.Test.YtedakjflddcbbaaGreatDoorP4
import Derived.Test.YtedakjflddcbbaaGreatDoorP3
import Derived.Lib.Bytealg
set_option linter.all false
namespace Go.Proofs
open Go.Fs
abbrev tM : Ty := (.pair .str (.pair .bool (.sl .str)))
theorem gM : fN Tryz.prog 24 sU := fD (by kernel_rfl)
theorem YH : fN Tryz.prog 56 tM := fD (by kernel_rfl)
theorem aeB : oG Tryz.prog 56 tM := kS (z := .agg #[.string ByteArray.empty, .bool false, .slice none 0 0]) (by kernel_rfl) rfl rfl
def eG (c : dG) (i : Nat) (s : ByteArray) : Bool := decide (0 <= lD c.2.1 s) || decide (0 <= nT (c.2.2.take i) s)
def T7 (c : dG) (i : Nat) : D3 := c.2.2.getD i (ByteArray.empty, false, [])
theorem tY {c : dG} {i : Nat} (h : i < c.2.2.length) : T7 c i = c.2.2[i] := by simp [T7, h]
def tZ (c : dG) (i : Nat) : Int := bQ [bH (!iL (T7 c i).1) 8, bH (eG c i (T7 c i).1) 9, pF (eG c i) (T7 c i).2.2]
theorem MX {c : dG} {i : Nat} (h : i < c.2.2.length) : nT c.2.2 c.2.2[i].1 < (i : Int) ↔ 0 <= nT (c.2.2.take i) c.2.2[i].1 := T4 h (decide_eq_true rfl)
theorem F4 {K : ByteArray -> Bool} {l : List ByteArray} {i : Nat} (h : i < l.length) : kL K l i = if K l[i] = true then bH (hasB (l.take i) l[i]) 9 else 10 := by
  unfold kL; rw [show l.getD i ByteArray.empty = l[i] by simp [h], oH]; cases hk : K l[i] <;> simp [bH]
theorem T8 {c : (List (ByteArray × Int)) × (List (ByteArray × (List (ByteArray × Int)))) × (List (ByteArray × Bool × (List ByteArray)))} {i : Nat} (hm : c.2.1.length < 1000000) (hn : c.2.2.length < 1000000) (kX : ∀ x ∈ c.2.2, x.2.2.length < 1000000) (BD : i < c.2.2.length) : VF Tryz.prog OA 54 [.v bT c, I ((i : Nat) : Int)] (I (tZ c i)) := by
  refine VF.enter Tryz.func54 rfl (fun _ _ => rfl) rfl ?_; show U _ _ _ _ _ [(0, .v bT c), (1, I ((i : Nat) : Int))] [] _; refine U.seq (U.text ?_); refine J.new (.box) ?_; refine J.c (.assign rfl) ?_; refine J.go (U.seq (U.text ?_)); refine J.c (.fa (.r (.r .o))) ?_; refine J.r (.ld gM) ?_; refine J.c (.move rfl) (J.c (.ix (j := i) rfl rfl fJ (by omega)) ?_); refine J.r (.ld YH) ?_; refine J.cell (.alloc aeB) ?_; intro dE; refine J.eQ (cs' := [St ((c.2.2[i]).1), B ((c.2.2[i]).2.1), .v (.sl .str) ((c.2.2[i]).2.2)]) YH .v ?_; refine J.shut [(5, .p tM (c.2.2[i]))] (.cons rfl (.var m0 .refl) .nil) ?_; refine J.go (U.seq (U.seq (U.text ?_))); refine J.c (.fa (.l .o)) ?_; refine J.r (.ld cJ) ?_; refine J.call rfl rfl (VF.call (F1 )) ?_; refine J.c (.not) (J.go ?_); refine U.fO rfl (fun c2 => ?_) (fun c2 => ?_)
  . try simp only [Bool.and_eq_true, Bool.or_eq_true, Bool.and_eq_false_iff, Bool.or_eq_false_iff, Bool.not_eq_true', Bool.not_eq_false', decide_eq_true_eq, decide_eq_false_iff_not] at c2
    refine U.seq (U.text ?_); refine J.c (.assign rfl) (J.go ?_); refine U.ret ?_; exact aR.one rfl aZ (cY (by rw [tZ, tY BD, c2] <;> rfl))
  try simp only [Bool.and_eq_true, Bool.or_eq_true, Bool.and_eq_false_iff, Bool.or_eq_false_iff, Bool.not_eq_true', Bool.not_eq_false', decide_eq_true_eq, decide_eq_false_iff_not] at c2
  refine U.skip (U.seq (U.seq (U.text ?_))); refine J.r (.ld l5) ?_; refine J.c (.fa (.l .o)) ?_; refine J.r (.ld cJ) ?_; refine J.call rfl rfl (VF.call (F3 (by first | assumption | omega | simp))) ?_; refine J.c (.geq) (J.c (.move rfl) ?_); refine J.cg (r := decide ((0 : Int) <= lD c.2.1 ((c.2.2[i]).1))) (w := false) [] trivial (fun _ => (.fa (.r (.r (k := 0) .o)))) ?_; refine J.rg (r := decide ((0 : Int) <= lD c.2.1 ((c.2.2[i]).1))) (w := false) [(22, .p sU c.2.2)] ⟨rfl, trivial⟩ (fun _ => (.ld gM)) ?_; refine J.cg (r := decide ((0 : Int) <= lD c.2.1 ((c.2.2[i]).1))) (w := false) [] trivial (fun _ => (.fa (.l .o))) ?_; refine J.rg (r := decide ((0 : Int) <= lD c.2.1 ((c.2.2[i]).1))) (w := false) [(24, .p .str ((c.2.2[i]).1))] ⟨rfl, trivial⟩ (fun _ => (.ld cJ)) ?_; refine J.PF (r0 := decide ((0 : Int) <= lD c.2.1 ((c.2.2[i]).1))) (w := false) [(23, .v sU c.2.2), (25, St ((c.2.2[i]).1))] ⟨rfl, rfl, trivial⟩ rfl rfl .same .refl rfl (fun eW => have aqG : ¬ ((0 : Int) <= lD c.2.1 ((c.2.2[i]).1)) := (by simpa using eW); VF.call (K0 (by first | assumption | omega | simp))) ?_; refine J.cg (r := decide ((0 : Int) <= lD c.2.1 ((c.2.2[i]).1))) (w := false) [] trivial (fun _ => (.move rfl)) ?_; refine J.cg (r := decide ((0 : Int) <= lD c.2.1 ((c.2.2[i]).1))) (w := false) [(26, I (nT c.2.2 ((c.2.2[i]).1))), (27, I ((i : Nat) : Int))] ⟨rfl, rfl, trivial⟩ (fun _ => (.lss)) ?_; refine J.c (.or) (J.go ?_); refine U.fO rfl (fun c4 => ?_) (fun c4 => ?_)
  . try simp only [Bool.and_eq_true, Bool.or_eq_true, Bool.and_eq_false_iff, Bool.or_eq_false_iff, Bool.not_eq_true', Bool.not_eq_false', decide_eq_true_eq, decide_eq_false_iff_not] at c4
    have h4 : eG c i c.2.2[i].1 = true := by
      unfold eG; rcases c4 with h | h
      . rw [decide_eq_true h] <;> rfl
      rw [decide_eq_true ((MX BD).1 h), Bool.or_true]
    refine U.seq (U.text ?_); refine J.c (.assign rfl) (J.go ?_); refine U.ret ?_; exact aR.one rfl aZ (cY (by rw [tZ, tY BD, c2, h4] <;> rfl))
  try simp only [Bool.and_eq_true, Bool.or_eq_true, Bool.and_eq_false_iff, Bool.or_eq_false_iff, Bool.not_eq_true', Bool.not_eq_false', decide_eq_true_eq, decide_eq_false_iff_not] at c4
  have WQ := kX _ (List.getElem_mem BD)
  have h4 : eG c i c.2.2[i].1 = false := by
    unfold eG; rw [decide_eq_false c4.1, decide_eq_false (fun h => c4.2 ((MX BD).2 h))] <;> rfl
  have bK : tZ c i = pF (eG c i) c.2.2[i].2.2 := by rw [tZ, tY BD, c2, h4]; show (if _ = 0 then bQ [_, _] else _) = _; rw [oH] <;> rfl
  refine U.skip (U.seq (U.seq (U.text ?_))); refine J.c (.fa (.r (.r .o))) ?_; refine J.r (.ld gL) ?_; refine J.r (.len b8) ?_; refine J.c (.eql) (J.go ?_); refine U.aM rfl (fun c6 => ?_) (fun c6 => ?_)
  . refine U.seq (U.text ?_); refine J.c (.assign rfl) (J.go ?_); refine U.ret ?_; exact aR.one rfl aZ (cY (by rw [bK, pF, decide_eq_true c6] <;> rfl))
  refine U.skip (U.seq (U.seq (U.text ?_))); refine J.c (.fa (.r (.r .o))) ?_; refine J.r (.ld gL) ?_; refine J.r (.len b8) ?_; refine J.c (.gtr) (J.go ?_); refine U.aM rfl (fun c8 => ?_) (fun c8 => ?_)
  . refine U.seq (U.text ?_); refine J.c (.assign rfl) (J.go ?_); refine U.ret ?_; exact aR.one rfl aZ (cY (by rw [bK, pF, decide_eq_false c6, decide_eq_true c8] <;> rfl))
  have hu : pF (eG c i) c.2.2[i].2.2 = dI (kL (eG c i) c.2.2[i].2.2) 0 c.2.2[i].2.2.length := by rw [pF, decide_eq_false c6, decide_eq_false c8] <;> rfl
  refine U.skip (U.seq (U.seq (U.text ?_))); refine J.c (.assign rfl) ?_; refine J.go (U.block ?_); refine U.keep [(1, I ((i : Nat) : Int)), (2, .p bT c), (5, .p tM (c.2.2[i])), (6, I ((0 : Nat) : Int))] ⟨rfl, rfl, rfl, rfl, trivial⟩ ?_; refine U.loop (I := fun kk ff ss => ∃ (k : Nat), kk = c.2.2[i].2.2.length - k /\ ff = [(1, I ((i : Nat) : Int)), (2, .p bT c), (5, .p tM (c.2.2[i])), (6, I ((k : Nat) : Int))] /\ ss = [] /\ (k <= c.2.2[i].2.2.length) /\ (pF (eG c i) c.2.2[i].2.2 = dI (kL (eG c i) c.2.2[i].2.2) k c.2.2[i].2.2.length)) ?_ _ _ _ ⟨0, rfl, rfl, rfl, (by omega), (by exact hu)⟩; rintro kk ff ss ⟨k, kI, rfl, rfl, hk, hw⟩; refine U.seq (U.seq (U.text ?_)); refine J.c (.move rfl) (J.c (.fa (.r (.r .o))) ?_); refine J.r (.ld gL) ?_; refine J.r (.len b8) ?_; refine J.c (.lss) (J.go ?_); refine U.aM rfl (fun rL => ?_) (fun rL => ?_)
  . refine U.skip (U.seq (U.block (U.seq (U.seq (U.drawn ?_))))); refine VD.r [] (.ld l5) (.inl rfl) ?_; refine VD.c (.fa (.r (.r .o))) ?_; refine VD.r [] (.ld gL) (.inl rfl) ?_; refine VD.c (.move rfl) (VD.c (.ix (j := k) rfl rfl b8 (by omega)) ?_); refine VD.r [] (.ld cJ) (.inl rfl) ?_; refine VD.nw [] ?_; refine VD.call rfl rfl (VF.call (F3 (by first | assumption | omega | simp))) ?_; refine VD.c (.lss) (VD.c (.move rfl) ?_); refine VD.iW (x := 53) rfl (fun alZ => ?_) (fun alZ => ?_)
    . refine VD.c (.fa (.r (.r .o))) ?_; refine VD.r [] (.ld gM) (.inl rfl) ?_; refine VD.c (.move rfl) (VD.nw [] ?_); refine VD.r [] (.AB rfl rfl fJ (by omega)) (.inl rfl) ?_; refine VD.c (.fa (.r (.r .o))) ?_; refine VD.r [] (.ld gL) (.inl rfl) ?_; refine VD.c (.move rfl) (VD.c (.ix (j := k) rfl rfl b8 (by omega)) ?_); refine VD.r [] (.ld cJ) (.inl rfl) ?_; refine VD.call rfl rfl (VF.call (K0 (by simp; omega))) ?_; refine VD.nw [] (VD.c (.lss) (VD.c (.bS rfl rfl) (VD.go ?_))); refine U.aM rfl (fun c13 => ?_) (fun c13 => ?_)
      . have b7 : k < c.2.2[i].2.2.length := by omega
        have aoV : nT (c.2.2.take i) c.2.2[i].2.2[k] < 0 := c13
        have hv : kL (eG c i) c.2.2[i].2.2 k = 10 := by rw [F4 b7, if_neg (by unfold eG; rw [decide_eq_false (by omega), decide_eq_false (by omega)]; decide)]
        refine U.seq (U.text ?_); refine J.c (.assign rfl) (J.go ?_); refine U.ret ?_; exact aR.one rfl aZ (cY (by rw [bK, hw, bJ b7, hv] <;> rfl))
      have b7 : k < c.2.2[i].2.2.length := by omega
      have aoV : ¬ nT (c.2.2.take i) c.2.2[i].2.2[k] < 0 := c13
      have hy : kL (eG c i) c.2.2[i].2.2 k = bH (hasB (c.2.2[i].2.2.take k) c.2.2[i].2.2[k]) 9 := by rw [F4 b7, if_pos (by unfold eG; rw [decide_eq_true (show 0 <= nT (c.2.2.take i) c.2.2[i].2.2[k] by omega), Bool.or_true])]
      refine U.skip (U.seq (U.drawn ?_)); refine VD.c (.fa (.r (.r .o))) ?_; refine VD.r [] (.ld gL) (.inl rfl) ?_; refine VD.c (.move rfl) ?_; refine VD.r [] (.AB rfl rfl b8 (by omega)) (.inl rfl) ?_; refine VD.c (.fa (.r (.r .o))) ?_; refine VD.r [] (.ld gL) (.inl rfl) ?_; refine VD.nw [] (VD.c (.move rfl) (VD.c (.ix (j := k) rfl rfl b8 (by omega)) ?_)); refine VD.r [] (.ld cJ) (.inl rfl) ?_; refine VD.call rfl rfl (VF.call (SY (by simp; omega))) ?_; refine VD.go ?_; refine U.fO rfl (fun PN => ?_) (fun PN => ?_)
      . have hv : kL (eG c i) c.2.2[i].2.2 k = 9 := by rw [hy, show hasB (c.2.2[i].2.2.take k) c.2.2[i].2.2[k] = true from PN] <;> rfl
        refine U.seq ?_; refine U.keep [(1, I ((i : Nat) : Int)), (2, .p bT c), (5, .p tM (c.2.2[i])), (6, I ((k : Nat) : Int))] ⟨rfl, rfl, rfl, rfl, trivial⟩ ?_; refine U.text ?_; refine J.c (.assign rfl) (J.go ?_); refine U.ret ?_; exact aR.one rfl aZ (cY (by rw [bK, hw, bJ b7, hv] <;> rfl))
      have hz : kL (eG c i) c.2.2[i].2.2 k = 0 := by rw [hy, show hasB (c.2.2[i].2.2.take k) c.2.2[i].2.2[k] = false from PN] <;> rfl
      refine U.skip ?_; refine U.keep [(1, I ((i : Nat) : Int)), (2, .p bT c), (5, .p tM (c.2.2[i])), (6, I ((k : Nat) : Int))] ⟨rfl, rfl, rfl, rfl, trivial⟩ ?_; refine U.text ?_; refine J.c (.move rfl) (J.c (.add rfl rfl (by omega)) (J.c (.assign rfl) ?_)); refine J.nil ?_; refine ⟨_, [(1, I ((i : Nat) : Int)), (2, .p bT c), (5, .p tM (c.2.2[i])), (6, I (((k + 1) : Nat) : Int))], ?_, ⟨rfl, rfl, rfl, rfl, trivial⟩, (k + 1), rfl, rfl, rfl, (by omega), (by rw [hw, bJ b7, if_pos hz])⟩; omega
    have b7 : k < c.2.2[i].2.2.length := by omega
    have hy : kL (eG c i) c.2.2[i].2.2 k = bH (hasB (c.2.2[i].2.2.take k) c.2.2[i].2.2[k]) 9 := by rw [F4 b7, if_pos (by unfold eG; rw [decide_eq_true (by omega)]; rfl)]
    refine VD.skip (VD.skip (VD.skip (VD.nw [] ?_))); refine VD.skip (VD.skip (VD.skip (VD.skip ?_))); refine VD.skip (VD.skip (VD.skip (VD.nw [] ?_))); refine VD.skip (VD.c (.aU rfl rfl) (VD.go ?_)); refine U.eB rfl ?_; refine U.skip (U.seq (U.drawn ?_)); refine VD.c (.fa (.r (.r .o))) ?_; refine VD.r [] (.ld gL) (.inl rfl) ?_; refine VD.c (.move rfl) ?_; refine VD.r [] (.AB rfl rfl b8 (by omega)) (.inl rfl) ?_; refine VD.c (.fa (.r (.r .o))) ?_; refine VD.r [] (.ld gL) (.inl rfl) ?_; refine VD.nw [] (VD.c (.move rfl) (VD.c (.ix (j := k) rfl rfl b8 (by omega)) ?_)); refine VD.r [] (.ld cJ) (.inl rfl) ?_; refine VD.call rfl rfl (VF.call (SY (by simp; omega))) ?_; refine VD.go ?_; refine U.fO rfl (fun PN => ?_) (fun PN => ?_)
    . have hv : kL (eG c i) c.2.2[i].2.2 k = 9 := by rw [hy, show hasB (c.2.2[i].2.2.take k) c.2.2[i].2.2[k] = true from PN] <;> rfl
      refine U.seq ?_; refine U.keep [(1, I ((i : Nat) : Int)), (2, .p bT c), (5, .p tM (c.2.2[i])), (6, I ((k : Nat) : Int))] ⟨rfl, rfl, rfl, rfl, trivial⟩ ?_; refine U.text ?_; refine J.c (.assign rfl) (J.go ?_); refine U.ret ?_; exact aR.one rfl aZ (cY (by rw [bK, hw, bJ b7, hv] <;> rfl))
    have hz : kL (eG c i) c.2.2[i].2.2 k = 0 := by rw [hy, show hasB (c.2.2[i].2.2.take k) c.2.2[i].2.2[k] = false from PN] <;> rfl
    refine U.skip ?_; refine U.keep [(1, I ((i : Nat) : Int)), (2, .p bT c), (5, .p tM (c.2.2[i])), (6, I ((k : Nat) : Int))] ⟨rfl, rfl, rfl, rfl, trivial⟩ ?_; refine U.text ?_; refine J.c (.move rfl) (J.c (.add rfl rfl (by omega)) (J.c (.assign rfl) ?_)); refine J.nil ?_; refine ⟨_, [(1, I ((i : Nat) : Int)), (2, .p bT c), (5, .p tM (c.2.2[i])), (6, I (((k + 1) : Nat) : Int))], ?_, ⟨rfl, rfl, rfl, rfl, trivial⟩, (k + 1), rfl, rfl, rfl, (by omega), (by rw [hw, bJ b7, if_pos hz])⟩; omega
  refine U.exit (U.seq (U.text ?_)); refine J.c (.assign rfl) (J.go ?_); refine U.ret ?_; exact aR.one rfl aZ (cY (by rw [bK, hw, gW (by omega)]))
end Go.Proofs
namespace Go.Proofs
open Go.Fs
def fF (c : dG) : Int :=
  if fL c.1 ≠ 0 then fL c.1
  else if 64 < (c.2.1.length : Int) then 5
  else if dI (pG c) 0 c.2.1.length ≠ 0 then dI (pG c) 0 c.2.1.length
  else if 64 < (c.2.2.length : Int) then 5
  else dI (tZ c) 0 c.2.2.length
structure qC (c : dG) : Prop where
  v : c.1.length < 100000
  e : c.2.1.length < 100000
  l : c.2.2.length < 100000
  w : ∀ x ∈ c.2.1, x.2.length < 100000
  u : ∀ x ∈ c.2.2, x.2.2.length < 100000
theorem MY {c : (List (ByteArray × Int)) × (List (ByteArray × (List (ByteArray × Int)))) × (List (ByteArray × Bool × (List ByteArray)))} (hc : qC c) : VF Tryz.prog OA 10 [.v bT c] (I (fF c)) := by
  refine VF.enter Tryz.func10 rfl (fun _ _ => rfl) rfl ?_; show U _ _ _ _ _ [(0, .v bT c)] [] _; refine U.seq (U.text ?_); have h1 := hc.v; have h2 := hc.e; have h3 := hc.l; refine J.new (.box) ?_; refine J.c (.assign rfl) ?_; refine J.go (U.seq (U.seq (U.text ?_))); refine J.c (.fa (.l .o)) ?_; refine J.r (.ld gX) ?_; refine J.call rfl rfl (VF.call (LO (by omega))) ?_; refine J.c (.assign rfl) ?_; refine J.go (U.seq (U.text ?_)); refine J.c (.move rfl) (J.c (.neq) (J.go ?_)); refine U.aM rfl (fun c2 => ?_) (fun c2 => ?_)
  . refine U.seq (U.text ?_); refine J.c (.move rfl) (J.c (.assign rfl) (J.go ?_)); refine U.ret ?_; exact aR.one rfl aZ (cY (by rw [fF, if_pos c2]))
  refine U.skip (U.seq (U.seq (U.text ?_))); refine J.c (.fa (.r (.l .o))) ?_; refine J.r (.ld jD) ?_; refine J.r (.len iD) ?_; refine J.c (.gtr) (J.go ?_); refine U.aM rfl (fun c4 => ?_) (fun c4 => ?_)
  . refine U.seq (U.text ?_); refine J.c (.assign rfl) (J.go ?_); refine U.ret ?_; exact aR.one rfl aZ (cY (by rw [fF, if_neg c2, if_pos c4]))
  refine U.skip (U.seq (U.seq (U.text ?_))); refine J.c (.assign rfl) ?_; refine J.go (U.block ?_); refine U.keep [(1, .p bT c), (4, I ((0 : Nat) : Int))] ⟨rfl, rfl, trivial⟩ ?_; refine U.loop (I := fun kk ff ss => ∃ (i : Nat), kk = c.2.1.length - i /\ ff = [(1, .p bT c), (4, I ((i : Nat) : Int))] /\ ss = [] /\ (i <= c.2.1.length) /\ (dI (pG c) 0 c.2.1.length = dI (pG c) i c.2.1.length)) ?_ _ _ _ ⟨0, rfl, rfl, rfl, Nat.zero_le _, (by rfl)⟩; rintro kk ff ss ⟨i, kI, rfl, rfl, hi, hw⟩; refine U.seq (U.seq (U.text ?_)); refine J.c (.move rfl) (J.c (.fa (.r (.l .o))) ?_); refine J.r (.ld jD) ?_; refine J.r (.len iD) ?_; refine J.c (.lss) (J.go ?_); refine U.aM rfl (fun c7 => ?_) (fun c7 => ?_)
  . have b7 : i < c.2.1.length := by omega
    refine U.skip (U.seq (U.block (U.seq (U.text ?_)))); refine J.r (.ld l5) ?_; refine J.c (.move rfl) ?_; refine J.call rfl rfl (VF.call (WO (by omega) (by omega) (fun x hx => by have := hc.w x hx; omega) (by omega))) ?_; refine J.c (.assign rfl) ?_; refine J.go (U.seq (U.text ?_)); refine J.c (.move rfl) (J.c (.neq) (J.go ?_)); refine U.aM rfl (fun F5 => ?_) (fun F5 => ?_)
    . refine U.seq (U.text ?_); refine J.c (.move rfl) (J.c (.assign rfl) (J.go ?_)); refine U.ret ?_; exact aR.one rfl aZ (cY (by rw [fF, if_neg c2, if_neg c4, hw, bJ b7, if_neg F5, if_pos F5]))
    refine U.skip (U.text ?_); refine J.c (.move rfl) (J.c (.add rfl rfl (by omega)) (J.c (.assign rfl) ?_)); refine J.nil ?_; refine ⟨_, [(1, .p bT c), (4, I (((i + 1) : Nat) : Int))], ?_, ⟨rfl, rfl, trivial⟩, (i + 1), rfl, rfl, rfl, (by omega), (by rw [hw, bJ b7, if_pos (Decidable.not_not.1 F5)])⟩; omega
  have hz : dI (pG c) 0 c.2.1.length = 0 := by rw [hw, gW (by omega)]
  refine U.exit (U.seq (U.seq (U.text ?_))); refine J.c (.fa (.r (.r .o))) ?_; refine J.r (.ld gM) ?_; refine J.r (.len fJ) ?_; refine J.c (.gtr) (J.go ?_); refine U.aM rfl (fun LQ => ?_) (fun LQ => ?_)
  . refine U.seq (U.text ?_); refine J.c (.assign rfl) (J.go ?_); refine U.ret ?_; exact aR.one rfl aZ (cY (by rw [fF, if_neg c2, if_neg c4, hz, if_neg (fun h => h rfl), if_pos LQ]))
  refine U.skip (U.seq (U.seq (U.text ?_))); refine J.c (.assign rfl) ?_; refine J.go (U.block ?_); refine U.keep [(1, .p bT c), (6, I ((0 : Nat) : Int))] ⟨rfl, rfl, trivial⟩ ?_; refine U.loop (I := fun kk ff ss => ∃ (j : Nat), kk = c.2.2.length - j /\ ff = [(1, .p bT c), (6, I ((j : Nat) : Int))] /\ ss = [] /\ (j <= c.2.2.length) /\ (dI (tZ c) 0 c.2.2.length = dI (tZ c) j c.2.2.length)) ?_ _ _ _ ⟨0, rfl, rfl, rfl, Nat.zero_le _, (by rfl)⟩; rintro kk ff ss ⟨j, uF, rfl, rfl, hj, hx⟩; refine U.seq (U.seq (U.text ?_)); refine J.c (.move rfl) (J.c (.fa (.r (.r .o))) ?_); refine J.r (.ld gM) ?_; refine J.r (.len fJ) ?_; refine J.c (.lss) (J.go ?_); refine U.aM rfl (fun PN => ?_) (fun PN => ?_)
  . have D5 : j < c.2.2.length := by omega
    refine U.skip (U.seq (U.block (U.seq (U.text ?_)))); refine J.r (.ld l5) ?_; refine J.c (.move rfl) ?_; refine J.call rfl rfl (VF.call (T8 (by omega) (by omega) (fun x hx => by have := hc.u x hx; omega) (by omega))) ?_; refine J.c (.assign rfl) ?_; refine J.go (U.seq (U.text ?_)); refine J.c (.move rfl) (J.c (.neq) (J.go ?_)); refine U.aM rfl (fun c18 => ?_) (fun c18 => ?_)
    . refine U.seq (U.text ?_); refine J.c (.move rfl) (J.c (.assign rfl) (J.go ?_)); refine U.ret ?_; exact aR.one rfl aZ (cY (by rw [fF, if_neg c2, if_neg c4, hz, if_neg (fun h => h rfl), if_neg LQ, hx, bJ D5, if_neg c18]))
    refine U.skip (U.text ?_); refine J.c (.move rfl) (J.c (.add rfl rfl (by omega)) (J.c (.assign rfl) ?_)); refine J.nil ?_; refine ⟨_, [(1, .p bT c), (6, I (((j + 1) : Nat) : Int))], ?_, ⟨rfl, rfl, trivial⟩, (j + 1), rfl, rfl, rfl, (by omega), (by rw [hx, bJ D5, if_pos (Decidable.not_not.1 c18)])⟩; omega
  refine U.exit (U.seq (U.text ?_)); refine J.c (.assign rfl) (J.go ?_); refine U.ret ?_; exact aR.one rfl aZ (cY (by rw [fF, if_neg c2, if_neg c4, hz, if_neg (fun h => h rfl), if_neg LQ, hx, gW (by omega)]))
end Go.Proofs
namespace Go.Proofs
open Go.Fs
abbrev xB : Ty := (.sl (.pair .str (.sl (.pair .str (.int .i64)))))
abbrev pR : Ty := (.pair .str (.sl (.pair .str (.int .i64))))
theorem AI : fN Tryz.prog 33 xB := fD (by kernel_rfl)
theorem pS : fN Tryz.prog 36 kF := fD (by kernel_rfl)
theorem uL : fN Tryz.prog 101 pR := fD (by kernel_rfl)
theorem sZ : kB Tryz.prog 33 101 pR := qQ (by kernel_rfl)
theorem F6 : oG Tryz.prog 101 pR := kS (z := .agg #[.string ByteArray.empty, .slice none 0 0]) (by kernel_rfl) rfl rfl
theorem K3 : oG Tryz.prog 102 rO := kS (z := .agg #[.string ByteArray.empty, .bool false, .slice none 0 0]) (by kernel_rfl) rfl rfl
def kE (c : dG) : Nat -> List (ByteArray × Bool)
  | 0 => []
  | i + 1 => qY (kE c i) (T5 c i).1 true
def kC (c : dG) : Nat -> List (ByteArray × Bool)
  | 0 => kE c c.2.1.length
  | j + 1 => qY (kC c j) (T7 c j).1 true
theorem PO {c : dG} {s : ByteArray} : ∀ i, i <= c.2.1.length -> (cT (kE c i) s).getD false = decide (0 <= lD (c.2.1.take i) s)
  | 0, _ => by simp [kE, cT, lD, gV]
  | i + 1, h => by
    have b7 : i < c.2.1.length := by omega
    have ih := PO (c := c) (s := s) i (by omega); rw [kE, sW, lD, List.take_succ_eq_append_getElem b7, wM b7]; rw [lD] at ih; by_cases hs : s = c.2.1[i].1
    . rw [if_pos hs]; refine (decide_eq_true ?_).symm; exact gK.2 ⟨c.2.1[i], List.mem_append_right _ List.mem_cons_self, decide_eq_true hs.symm⟩
    rw [if_neg hs, ih]; refine decide_eq_decide.2 ?_; rw [gK, gK]; constructor
    . rintro ⟨x, hx, he⟩; exact ⟨x, List.mem_append_left _ hx, he⟩
    rintro ⟨x, hx, he⟩; rcases List.mem_append.1 hx with hx | hx
    . exact ⟨x, hx, he⟩
    obtain rfl := List.mem_singleton.1 hx; exact absurd (of_decide_eq_true he).symm hs
theorem PQ {c : dG} {s : ByteArray} : ∀ j, j <= c.2.2.length -> (cT (kC c j) s).getD false = eG c j s
  | 0, _ => by
    rw [kC, PO _ (Nat.le_refl _), List.take_length]; unfold eG
    simp [nT, gV]
  | j + 1, h => by
    have b7 : j < c.2.2.length := by omega
    have ih := PQ (c := c) (s := s) j (by omega); rw [kC, sW, tY b7]; unfold eG at ih ⊢; rw [nT, List.take_succ_eq_append_getElem b7]; rw [nT] at ih; by_cases hs : s = c.2.2[j].1
    . rw [if_pos hs, decide_eq_true (p := 0 <= gV _ (c.2.2.take j ++ [c.2.2[j]]) 0) (gK.2 ⟨c.2.2[j], List.mem_append_right _ List.mem_cons_self, decide_eq_true hs.symm⟩), Bool.or_true]; rfl
    rw [if_neg hs, ih]; congr 1; refine decide_eq_decide.2 ?_; rw [gK, gK]; constructor
    . rintro ⟨x, hx, he⟩; exact ⟨x, List.mem_append_left _ hx, he⟩
    rintro ⟨x, hx, he⟩; rcases List.mem_append.1 hx with hx | hx
    . exact ⟨x, hx, he⟩
    obtain rfl := List.mem_singleton.1 hx; exact absurd (of_decide_eq_true he).symm hs
theorem WR {c : dG} (hv : fL c.1 = 0) : (fun s => (cT (if fL c.1 = 0 then r4 c.1 c.1.length else []) s).isSome) = mY c := by
  funext s; rw [if_pos hv, MS (l := c.1) (i := c.1.length) (Nat.le_refl _), List.take_length]; rfl
theorem aj6 {c : dG} {j : Nat} (hj : j <= c.2.2.length) : (fun s => (cT (kC c j) s).getD false) = eG c j := funext fun s => PQ j hj
theorem YI {c : dG} {i : Nat} (hv : fL c.1 = 0) (h : i < c.2.1.length) :
    bQ [bH (!iL c.2.1[i].1) 8, bH ((cT (kE c i) c.2.1[i].1).getD false) 9, sX (fun s => (cT (if fL c.1 = 0 then r4 c.1 c.1.length else []) s).isSome) c.2.1[i].2] = pG c i := by
  rw [WR hv, PO i (by omega), pG, wM h]
theorem YJ {c : dG} {j : Nat} (h : j < c.2.2.length) :
    bQ [bH (!iL c.2.2[j].1) 8, bH ((cT (kC c j) c.2.2[j].1).getD false) 9, pF (fun s => (cT (kC c j) s).getD false) c.2.2[j].2.2] = tZ c j := by
  rw [aj6 (by omega), PQ j (by omega), tZ, tY h]
theorem YK {a : Int} {p : Prop} [Decidable p] (h : ¬ bQ [a, bH (decide p) 5] ≠ 0) : a = 0 /\ ¬ p := by
  have h := Decidable.not_not.1 h; rw [oH] at h; by_cases ha : a = 0
  . rw [if_pos ha] at h; refine ⟨ha, fun hp => ?_⟩; rw [decide_eq_true hp] at h; cases h
  rw [if_neg ha] at h; exact absurd h ha
theorem ab7 {c : dG} (h : bQ [fL c.1, bH (decide (64 < (c.2.1.length : Int))) 5] ≠ 0) : bQ [fL c.1, bH (decide (64 < (c.2.1.length : Int))) 5] = fF c := by
  rw [oH] at h ⊢; unfold fF; by_cases hv : fL c.1 = 0
  . rw [if_pos hv] at h ⊢; rw [if_neg (fun h2 => h2 hv)]; by_cases hp : 64 < (c.2.1.length : Int)
    . rw [if_pos hp, decide_eq_true hp] <;> rfl
    rw [decide_eq_false hp] at h; exact absurd rfl h
  rw [if_neg hv, if_pos hv]
theorem aeC {c : dG} (hv : fL c.1 = 0) (h4 : ¬ 64 < (c.2.1.length : Int)) : fF c = if dI (pG c) 0 c.2.1.length ≠ 0 then dI (pG c) 0 c.2.1.length else if 64 < (c.2.2.length : Int) then 5 else dI (tZ c) 0 c.2.2.length := by
  have h : ¬ fL c.1 ≠ 0 := fun h => h hv; unfold fF; rw [if_neg h, if_neg h4]
theorem MZ {c : (List (ByteArray × Int)) × (List (ByteArray × (List (ByteArray × Int)))) × (List (ByteArray × Bool × (List ByteArray)))} (hc : qC c) : VF Tryz.prog OA 40 [.v kF c] (I (fF c)) := by
  refine VF.enter Tryz.func40 rfl (fun _ _ => rfl) rfl ?_; show U _ _ _ _ _ [(0, .v kF c)] [] _; refine U.seq (U.text ?_); have h1 := hc.v; have h2 := hc.e; have h3 := hc.l; refine J.new (.box) ?_; refine J.c (.assign rfl) ?_; refine J.go (U.seq (U.text ?_)); refine J.r (.ld pS) ?_; refine J.call rfl rfl (VF.call (LP (by omega))) ?_; refine J.c (.move rfl) (J.c (.extract) (J.c (.extract) (J.c (.assign rfl) ?_))); refine J.c (.assign rfl) ?_; refine J.go (U.seq (U.seq (U.text ?_))); refine J.c (.move rfl) (J.c (.fa (.r (.l .o))) ?_); refine J.r (.ld AI) ?_; refine J.r (.len sZ) ?_; refine J.c (.gtr) ?_; refine J.call rfl rfl (VF.call (jQ )) ?_; refine J.new (.lit [fL c.1, bH (decide ((64 : Int) < ((c.2.1.length : Nat) : Int))) (5 : Int)] wL) ?_; refine J.call rfl rfl (VF.call (o4 (by simp))) ?_; refine J.c (.assign rfl) ?_; refine J.go (U.seq (U.text ?_)); refine J.c (.move rfl) (J.c (.neq) (J.go ?_)); refine U.aM rfl (fun c3 => ?_) (fun c3 => ?_)
  . refine U.seq (U.text ?_); refine J.c (.move rfl) (J.c (.assign rfl) (J.go ?_)); refine U.ret ?_; exact aR.one rfl aZ (cY (by exact ab7 c3))
  have hv : fL c.1 = 0 := (YK c3).1; have c4 : ¬ 64 < (c.2.1.length : Int) := (YK c3).2; have hk := aeC hv c4; refine U.skip (U.seq (U.text ?_)); refine J.cell (.mkMap .str .bool) ?_; intro dE; refine J.c (.assign rfl) ?_; refine J.go (U.seq (U.seq (U.text ?_))); refine J.c (.fa (.r (.l .o))) ?_; refine J.r (.ld AI) ?_; refine J.r (.len sZ) ?_; refine J.c (.move rfl) ?_; refine J.go (U.block ?_); refine U.keep [(1, .p kF c), (3, .v AG (if fL c.1 = 0 then r4 c.1 c.1.length else [])), (5, .raw dE), (30, .v xB c.2.1), (31, I ((c.2.1.length : Nat) : Int)), (32, I ((0 : Nat) : Int))] ⟨rfl, rfl, rfl, rfl, rfl, rfl, trivial⟩ ?_; refine U.loop (I := fun kk ff ss => ∃ (i : Nat), kk = c.2.1.length - i /\ ff = [(1, .p kF c), (3, .v AG (if fL c.1 = 0 then r4 c.1 c.1.length else [])), (5, .raw dE), (30, .v xB c.2.1), (31, I ((c.2.1.length : Nat) : Int)), (32, I ((i : Nat) : Int))] /\ ss = [(dE, .mp .str .bool (kE c i))] /\ (i <= c.2.1.length) /\ (dI (pG c) 0 c.2.1.length = dI (pG c) i c.2.1.length)) ?_ _ _ _ ⟨0, rfl, rfl, rfl, Nat.zero_le _, (by rfl)⟩; rintro kk ff ss ⟨i, kI, rfl, rfl, hi, hw⟩; refine U.seq (U.text ?_); refine J.c (.lss) ?_; refine J.go (U.seq ?_); refine U.aM rfl (fun c7 => ?_) (fun c7 => ?_)
  . have b7 : i < c.2.1.length := by omega
    refine U.skip (U.seq (U.block (U.seq (U.text ?_)))); refine J.c (.ix (j := i) rfl rfl sZ (by omega)) ?_; refine J.r (.ld uL) ?_; refine J.cell (.alloc F6) ?_; intro kJ; refine J.eQ (cs' := [St ((c.2.1[i]).1), .v pQ ((c.2.1[i]).2)]) uL .v ?_; refine J.shut [(7, .p pR (c.2.1[i]))] (.cons rfl (.var m0 .refl) .nil) ?_; refine J.go (U.seq (U.seq (U.drawn ?_))); refine VD.c (.fa (.l .o)) ?_; refine VD.r [] (.ld cJ) (.inl rfl) ?_; refine VD.call rfl rfl (VF.call (PL )) ?_; refine VD.c (.move rfl) (VD.c (.fa (.l .o)) ?_); refine VD.r [] (.ld cJ) (.inl rfl) ?_; refine VD.nw [] ?_; refine VD.r [(dE, .mp .str .bool (kE c i))] (.W8 BC m0) (.inr ⟨rfl, rfl⟩) ?_; refine VD.call rfl rfl (VF.call (jQ )) ?_; refine VD.c (.fa (.r .o)) ?_; refine VD.r [] (.ld sV) (.inl rfl) ?_; refine VD.c (.move rfl) ?_; refine VD.call rfl rfl (VF.call (ab5 (by have := hc.w _ (List.getElem_mem b7); omega))) ?_; refine VD.new (.lit [bH (!iL ((c.2.1[i]).1)) 8, bH ((cT (kE c i) ((c.2.1[i]).1)).getD false) (9 : Int), sX (fun s => (cT (if fL c.1 = 0 then r4 c.1 c.1.length else []) s).isSome) ((c.2.1[i]).2)] wL) ?_; refine VD.nw [48] ?_; refine VD.B6 rfl rfl (VF.call (o4 (by simp))) ?_; refine VD.c (.assign rfl) ?_; refine VD.go (U.seq (U.text ?_)); refine J.c (.move rfl) (J.c (.neq) (J.go ?_)); refine U.aM rfl (fun F5 => ?_) (fun F5 => ?_)
    . have aoW := YI hv b7; refine U.seq (U.text ?_); refine J.c (.move rfl) (J.c (.assign rfl) (J.go ?_)); refine U.ret ?_; exact aR.one rfl aZ (cY (by rw [hk, hw, bJ b7, <- aoW, if_neg F5, if_pos F5]))
    have hz : pG c i = 0 := by rw [<- YI hv b7]; exact Decidable.not_not.1 F5
    refine U.skip (U.text ?_); refine J.c (.move rfl) (J.c (.fa (.l .o)) ?_); refine J.r (.ld cJ) ?_; refine J.MO BC ?_; refine J.nil (U.text ?_); refine J.c (.add rfl rfl (by omega)) (J.c (.move rfl) ?_); refine J.nil ?_; refine ⟨_, [(1, .p kF c), (3, .v AG (if fL c.1 = 0 then r4 c.1 c.1.length else [])), (5, .raw dE), (30, .v xB c.2.1), (31, I ((c.2.1.length : Nat) : Int)), (32, I (((i + 1) : Nat) : Int))], ?_, ⟨rfl, rfl, rfl, rfl, rfl, rfl, trivial⟩, (i + 1), rfl, rfl, (by rw [kE, wM b7]), (by omega), (by rw [hw, bJ b7, if_pos hz])⟩; omega
  have hz : dI (pG c) 0 c.2.1.length = 0 := by rw [hw, gW (by omega)]
  have uD : i = c.2.1.length := by omega
  refine U.exit (U.seq (U.seq (U.text ?_))); refine J.c (.fa (.r (.r .o))) ?_; refine J.r (.ld x4) ?_; refine J.r (.len r3) ?_; refine J.c (.gtr) (J.go ?_); refine U.aM rfl (fun D4 => ?_) (fun D4 => ?_)
  . refine U.seq (U.text ?_); refine J.c (.assign rfl) (J.go ?_); refine U.ret ?_; exact aR.one rfl aZ (cY (by rw [hk, hz, if_neg (fun h => h rfl), if_pos D4]))
  refine U.skip (U.seq (U.seq (U.text ?_))); refine J.c (.fa (.r (.r .o))) ?_; refine J.r (.ld x4) ?_; refine J.r (.len r3) ?_; refine J.c (.move rfl) ?_; refine J.go (U.block ?_); refine U.keep [(5, .raw dE), (62, .v F2 c.2.2), (63, I ((c.2.2.length : Nat) : Int)), (64, I ((0 : Nat) : Int))] ⟨rfl, rfl, rfl, rfl, trivial⟩ ?_; refine U.loop (I := fun kk ff ss => ∃ (j : Nat), kk = c.2.2.length - j /\ ff = [(5, .raw dE), (62, .v F2 c.2.2), (63, I ((c.2.2.length : Nat) : Int)), (64, I ((j : Nat) : Int))] /\ ss = [(dE, .mp .str .bool (kC c j))] /\ (j <= c.2.2.length) /\ (dI (tZ c) 0 c.2.2.length = dI (tZ c) j c.2.2.length)) ?_ _ _ _ ⟨0, rfl, rfl, (by rw [uD] <;> rfl), Nat.zero_le _, (by rfl)⟩; rintro kk ff ss ⟨j, uF, rfl, rfl, hj, hx⟩; refine U.seq (U.text ?_); refine J.c (.lss) ?_; refine J.go (U.seq ?_); refine U.aM rfl (fun c17 => ?_) (fun c17 => ?_)
  . have D5 : j < c.2.2.length := by omega
    refine U.skip (U.seq (U.block (U.seq (U.text ?_)))); refine J.c (.ix (j := j) rfl rfl r3 (by omega)) ?_; refine J.r (.ld yC) ?_; refine J.cell (.alloc K3) ?_; intro ww3; refine J.eQ (cs' := [St ((c.2.2[j]).1), B ((c.2.2[j]).2.1), .v (.sl .str) ((c.2.2[j]).2.2)]) yC .v ?_; refine J.shut [(10, .p rO (c.2.2[j]))] (.cons rfl (.var m0 .refl) .nil) ?_; refine J.go (U.seq (U.seq (U.drawn ?_))); refine VD.c (.fa (.l .o)) ?_; refine VD.r [] (.ld cJ) (.inl rfl) ?_; refine VD.call rfl rfl (VF.call (PL )) ?_; refine VD.c (.move rfl) (VD.c (.fa (.l .o)) ?_); refine VD.r [] (.ld cJ) (.inl rfl) ?_; refine VD.nw [] ?_; refine VD.r [(dE, .mp .str .bool (kC c j))] (.W8 BC m0) (.inr ⟨rfl, rfl⟩) ?_; refine VD.call rfl rfl (VF.call (jQ )) ?_; refine VD.c (.fa (.r (.r .o))) ?_; refine VD.r [] (.ld gL) (.inl rfl) ?_; refine VD.c (.move rfl) ?_; refine VD.PC rfl rfl .same (.cons .same (.cons (.mp m0) .nil)) rfl (VF.call (ab6 (by have := hc.u _ (List.getElem_mem D5); omega))) ?_; refine VD.new (.lit [bH (!iL ((c.2.2[j]).1)) 8, bH ((cT (kC c j) ((c.2.2[j]).1)).getD false) (9 : Int), pF (fun s => (cT (kC c j) s).getD false) ((c.2.2[j]).2.2)] wL) ?_; refine VD.nw [80] ?_; refine VD.B6 rfl rfl (VF.call (o4 (by simp))) ?_; refine VD.c (.assign rfl) ?_; refine VD.go (U.seq (U.text ?_)); refine J.c (.move rfl) (J.c (.neq) (J.go ?_)); refine U.aM rfl (fun c20 => ?_) (fun c20 => ?_)
    . have aoX := YJ D5; refine U.seq (U.text ?_); refine J.c (.move rfl) (J.c (.assign rfl) (J.go ?_)); refine U.ret ?_; exact aR.one rfl aZ (cY (by rw [hk, hz, if_neg (fun h => h rfl), if_neg D4, hx, bJ D5, <- aoX, if_neg c20]))
    have UZ : tZ c j = 0 := by rw [<- YJ D5]; exact Decidable.not_not.1 c20
    refine U.skip (U.text ?_); refine J.c (.move rfl) (J.c (.fa (.l .o)) ?_); refine J.r (.ld cJ) ?_; refine J.MO BC ?_; refine J.nil (U.text ?_); refine J.c (.add rfl rfl (by omega)) (J.c (.move rfl) ?_); refine J.nil ?_; refine ⟨_, [(5, .raw dE), (62, .v F2 c.2.2), (63, I ((c.2.2.length : Nat) : Int)), (64, I (((j + 1) : Nat) : Int))], ?_, ⟨rfl, rfl, rfl, rfl, trivial⟩, (j + 1), rfl, rfl, (by rw [kC, tY D5]), (by omega), (by rw [hx, bJ D5, if_pos UZ])⟩; omega
  refine U.exit (U.seq (U.text ?_)); refine J.c (.assign rfl) (J.go ?_); refine U.ret ?_; exact aR.one rfl aZ (cY (by rw [hk, hz, if_neg (fun h => h rfl), if_neg D4, hx, gW (by omega)]))
end Go.Proofs
namespace Go.Fs
variable {P : Program} {h : Heap} {S : List Nat} {σ : aG} {t : Tr} {fl : VL} {x : Operand} {T e : TypeId} {τ : Ty}
end Go.Fs
namespace Go.Fs
variable {P : Program} {σ : aG} {fl : VL} {x y : Operand} {T T' : TypeId} {p q : Bool}
theorem T9 (hT : P.underlying T = some .bool) : aC P (Op.equal T (.bool p) (.bool q)) = some (p == q) := by
  unfold Op.equal; rw [show Op.maxDepth = 9999 + 1 from rfl, Op.equalIn]; simp only [aE, bB hT, Option.bind_some, aQ]
theorem aK.aoY (hT : P.underlying T = some .bool := by kernel_rfl) (hx : b9 fl x = some (.v .bool p) := by rfl) (hy : b9 fl y = some (.v .bool q) := by rfl) : aK P fl σ (.binOp .neq T x y T') (.v .bool (p != q)) :=
  .bin hx hy fun h S a c ha hc => by
    obtain rfl := aF.bool ha; obtain rfl := aF.bool hc; refine ⟨.bool (p != q), aF.ofBool _, rfl, ?_⟩
    have h1 : aC P (Op.equal T (.bool p) (.bool q) >>= fun b => pure (Value.bool !b)) = some (.bool (p != q)) := by
      rw [aE, T9 hT]; rfl
    unfold fK; show (aC P (Op.equal T (.bool p) (.bool q) >>= fun b => pure (Value.bool !b))).bind _ = _; rw [h1]; rfl
end Go.Fs
namespace Go.Fs
variable {P : Program} {orc : FuncId -> List Value -> Heap -> Option (Value × Heap)} {σ : aG} {fl : VL} {ops : Array Oper} {n : Nat} {l : List Oper} {K : VL -> aG -> Prop} {d : Tmp} {ty : TypeId} {pos : String} {after : Array Edge} {g : Option (Nat × Bool)} {x : Operand} {T e : TypeId} {τ : Ty}
end Go.Fs
namespace Go.Fs
variable {P : Program} {fl : VL} {e : TypeId} {τ : Ty}
theorem N0 {h : Heap} {S : List Nat} : ∀ vs : List Value, b6 h S (vs.map PV.raw) vs
  | [] => rfl
  | v :: vs => ⟨v, vs, rfl, rfl, N0 vs⟩
theorem jY.zK {zs : List PV} (hZ : oG P e τ) (hz : (o3 τ).map PV.raw = zs := by rfl) : jY P fl (.alloc e) (.var zs) :=
  ⟨rfl, fun h S t hs bD hS => by
    obtain ⟨z, h1, h2, h3⟩ := hZ.zero; obtain ⟨z1, z2⟩ := mW h S τ; obtain ⟨a1, a2⟩ := zF (u := z) (by rw [h2]; exact z2); subst hz; refine ⟨fun k => .pointer (some ⟨k, 0, none⟩), .row e z.cells.toList true false, fun _ => rfl, fun S' hN hm => ?_, fun H _ _ _ _ _ => ?_⟩
    . exact ⟨h.next, e, _, rfl, hm, by rw [Heap.bE, if_pos rfl], by rw [h2]; exact N0 _, a2⟩
    show (match (P.info? e).bind (·.zero) with | some z => if af z then pT e z H else none | none => none) = _; rw [h1]; simp only [a1, if_true]; unfold pT
    rw [if_pos a2]⟩
theorem tA {a b c d e : Value × Cell} {r : aG} : (a :: b :: c :: d :: e :: r).Perm (e :: a :: b :: c :: d :: r) := (lX.cons a).trans (List.Perm.swap e a (b :: c :: d :: r))
theorem uM {a b c d e f : Value × Cell} {r : aG} : (a :: b :: c :: d :: e :: f :: r).Perm (f :: a :: b :: c :: d :: e :: r) := (tA.cons a).trans (List.Perm.swap f a (b :: c :: d :: e :: r))
end Go.Fs
namespace Go.Proofs
open Go.Fs
set_option maxHeartbeats 2000000
abbrev A1 : Ty := (.sl (.pair .str (.sl (.pair .str (.int .i64)))))
abbrev rX : Ty := (.pair .str (.int .i64))
theorem BE : fN Tryz.prog 4 .bool := fD (by kernel_rfl)
theorem GP : fN Tryz.prog 52 rX := fD (by kernel_rfl)
theorem N1 : oG Tryz.prog 36 kF := kS (z := .agg #[.slice none 0 0, .slice none 0 0, .slice none 0 0]) (by kernel_rfl) rfl rfl
theorem aeD : oG Tryz.prog 52 rX := kS (z := .agg #[.string ByteArray.empty, .int .i64 0]) (by kernel_rfl) rfl rfl
theorem aeE : wZ Tryz.prog 101 pR [(0, 1), (1, 1)] := pC F6 rfl (by kernel_rfl)
theorem aeF : wZ Tryz.prog 102 rO [(0, 1), (1, 1), (2, 1)] := pC K3 rfl (by kernel_rfl)
theorem WS {c : (List (ByteArray × Int)) × (List (ByteArray × (List (ByteArray × Int)))) × (List (ByteArray × Bool × (List ByteArray)))} (hc : qC c) : VF Tryz.prog OA 8 [.v bT c] (.v kF c) := by
  refine VF.enter Tryz.func8 rfl (fun _ _ => rfl) rfl ?_; show U _ _ _ _ _ [(0, .v bT c)] [] _; refine U.seq (U.text ?_); have hcv := hc.v; have hce := hc.e; have rQ := hc.l; refine J.new (.box) ?_; refine J.cell (.zK (zs := [cK, cK, cK]) N1) ?_; intro dE; refine J.go (U.seq (U.text ?_)); refine J.cell (.zK (zs := [cK, cK, cK]) N1) ?_; intro kJ; refine J.go (U.seq (U.seq (U.text ?_))); refine J.c (.fa (.l .o)) ?_; refine J.r (.ld gX) ?_; refine J.r (.len eC) ?_; refine J.c (.move rfl) ?_; refine J.go (U.block ?_); refine U.cell0 98 o5 ?_; refine U.keep [(1, .p bT c), (2, .raw dE), (3, .raw kJ), (14, .v mL c.1), (15, I ((c.1.length : Nat) : Int)), (16, I ((0 : Nat) : Int))] ⟨rfl, rfl, rfl, rfl, rfl, rfl, trivial⟩ ?_; refine U.loop (I := fun kk ff ss => ∃ (i : Nat) (w0 : Value), kk = c.1.length - i /\ ff = [(1, .p bT c), (2, .raw dE), (3, .raw kJ), (14, .v mL c.1), (15, I ((c.1.length : Nat) : Int)), (16, I ((i : Nat) : Int))] /\ ss = [(w0, .row 98 o5 (c.1.take i)), (kJ, .var [.raw w0, cK, cK]), (dE, .var [cK, cK, cK])] /\ (i <= c.1.length)) ?_ _ _ _ ⟨0, (.slice none 0 0), rfl, rfl, rfl, Nat.zero_le _⟩; rintro kk ff ss ⟨i, w0, kI, rfl, rfl, hi⟩; refine U.seq (U.text ?_); refine J.c (.lss) ?_; refine J.go (U.seq ?_); refine U.aM rfl (fun c3 => ?_) (fun c3 => ?_)
  . refine U.skip (U.seq (U.block (U.seq (U.text ?_)))); refine J.c (.ix (j := i) rfl rfl eC (by omega)) ?_; refine J.r (.ld GP) ?_; refine J.cell (.alloc aeD) ?_; intro ww3; refine J.eQ (cs' := [St ((c.1[i]).1), I ((c.1[i]).2)]) GP .v ?_; refine J.shut [(5, .p rX (c.1[i]))] (.cons rfl (.var m0 .refl) .nil) ?_; refine J.go (U.text ?_); refine J.c (.eL (k := 0) m1) ?_; refine J.r (.jK (k := 0) m1 sV) ?_; refine J.r (.ld GP) ?_; refine J.new (.lit [c.1[i]] l4) ?_; refine J.app rfl rfl l4 l4 (by simp; omega) ?_; intro ww4; refine J.c (.eL (k := 0) m1) ?_; refine J.perm cW ?_; refine J.one m1 fun ho5 => ?_; refine J.fP (cs' := [.raw ww4, cK, cK]) 0 sV (.raw rfl (fE ho5) ho5) ?_; refine J.nil (U.text ?_); refine J.c (.add rfl rfl (by omega)) (J.c (.move rfl) ?_); refine J.perm dF ?_; refine J.perm cW ?_; refine J.perm dF ?_; refine J.nil ?_; refine ⟨_, [(1, .p bT c), (2, .raw dE), (3, .raw kJ), (14, .v mL c.1), (15, I ((c.1.length : Nat) : Int)), (16, I (((i + 1) : Nat) : Int))], ?_, ⟨rfl, rfl, rfl, rfl, rfl, rfl, trivial⟩, (i + 1), ww4, rfl, rfl, (by rw [List.take_succ_eq_append_getElem (by omega)] <;> rfl), (by omega)⟩; omega
  refine U.exit (U.seq (U.seq (U.text ?_))); refine J.c (.fa (.r (.l .o))) ?_; refine J.r (.ld jD) ?_; refine J.r (.len iD) ?_; refine J.c (.move rfl) ?_; refine J.go (U.block ?_); refine U.cell0 101 pR ?_; refine U.keep [(1, .p bT c), (2, .raw dE), (3, .raw kJ), (28, .v A1 c.2.1), (29, I ((c.2.1.length : Nat) : Int)), (30, I ((0 : Nat) : Int))] ⟨rfl, rfl, rfl, rfl, rfl, rfl, trivial⟩ ?_; refine U.loop (I := fun kk ff ss => ∃ (j : Nat) (w1 : Value), kk = c.2.1.length - j /\ ff = [(1, .p bT c), (2, .raw dE), (3, .raw kJ), (28, .v A1 c.2.1), (29, I ((c.2.1.length : Nat) : Int)), (30, I ((j : Nat) : Int))] /\ ss = [(w1, .row 101 pR (c.2.1.take j)), (w0, .row 98 o5 (c.1.take i)), (kJ, .var [.raw w0, .raw w1, cK]), (dE, .var [cK, cK, cK])] /\ (j <= c.2.1.length)) ?_ _ _ _ ⟨0, (.slice none 0 0), rfl, rfl, rfl, Nat.zero_le _⟩; rintro kk ff ss ⟨j, w1, uF, rfl, rfl, hj⟩; refine U.seq (U.text ?_); refine J.c (.lss) ?_; refine J.go (U.seq ?_); refine U.aM rfl (fun c8 => ?_) (fun c8 => ?_)
  . have WQ := hc.w _ (List.getElem_mem (show j < c.2.1.length by omega)); refine U.skip (U.seq (U.block (U.seq (U.text ?_)))); refine J.c (.ix (j := j) rfl rfl iD (by omega)) ?_; refine J.r (.ld GN) ?_; refine J.cell (.alloc T3) ?_; intro ww6; refine J.eQ (cs' := [St ((c.2.1[j]).1), .v mL ((c.2.1[j]).2)]) GN .v ?_; refine J.shut [(7, .p tL (c.2.1[j]))] (.cons rfl (.var m0 .refl) .nil) ?_; refine J.go (U.seq (U.text ?_)); refine J.c (.fa (.l .o)) ?_; refine J.r (.ld cJ) ?_; refine J.c (.D0 (cs := [St ((c.2.1[j]).1), cK]) aeE rfl) ?_; refine J.cell (.alloc F6) ?_; intro K4; refine J.eQ (cs' := [St ((c.2.1[j]).1), cK]) uL (.GB rfl rfl) ?_; refine J.go (U.seq (U.seq (U.text ?_))); refine J.c (.fa (.r .o)) ?_; refine J.r (.ld gX) ?_; refine J.r (.len eC) ?_; refine J.c (.move rfl) ?_; refine J.go (U.block ?_); refine U.cell0 98 o5 ?_; refine U.keep [(1, .p bT c), (2, .raw dE), (3, .raw kJ), (8, .raw K4), (28, .v A1 c.2.1), (29, I ((c.2.1.length : Nat) : Int)), (30, I ((j : Nat) : Int)), (38, .v mL ((c.2.1[j]).2)), (39, I ((((c.2.1[j]).2).length : Nat) : Int)), (40, I ((0 : Nat) : Int))] ⟨rfl, rfl, rfl, rfl, rfl, rfl, rfl, rfl, rfl, rfl, trivial⟩ ?_; refine U.loop (I := fun kk ff ss => ∃ (k : Nat) (w2 : Value), kk = (c.2.1[j]).2.length - k /\ ff = [(1, .p bT c), (2, .raw dE), (3, .raw kJ), (8, .raw K4), (28, .v A1 c.2.1), (29, I ((c.2.1.length : Nat) : Int)), (30, I ((j : Nat) : Int)), (38, .v mL ((c.2.1[j]).2)), (39, I ((((c.2.1[j]).2).length : Nat) : Int)), (40, I ((k : Nat) : Int))] /\ ss = [(w2, .row 98 o5 ((c.2.1[j]).2.take k)), (K4, .var [St ((c.2.1[j]).1), .raw w2]), (w1, .row 101 pR (c.2.1.take j)), (w0, .row 98 o5 (c.1.take i)), (kJ, .var [.raw w0, .raw w1, cK]), (dE, .var [cK, cK, cK])] /\ (k <= (c.2.1[j]).2.length)) ?_ _ _ _ ⟨0, (.slice none 0 0), rfl, rfl, rfl, (by omega)⟩; rintro kk ff ss ⟨k, w2, hk4, rfl, rfl, hk⟩; refine U.seq (U.text ?_); refine J.c (.lss) ?_; refine J.go (U.seq ?_); refine U.aM rfl (fun LQ => ?_) (fun LQ => ?_)
    . refine U.skip (U.seq (U.block (U.seq (U.text ?_)))); refine J.c (.ix (j := k) rfl rfl eC (by omega)) ?_; refine J.r (.ld GP) ?_; refine J.cell (.alloc aeD) ?_; intro ww8; refine J.eQ (cs' := [St ((((c.2.1[j]).2)[k]).1), I ((((c.2.1[j]).2)[k]).2)]) GP .v ?_; refine J.shut [(10, .p rX (((c.2.1[j]).2)[k]))] (.cons rfl (.var m0 .refl) .nil) ?_; refine J.go (U.text ?_); refine J.c (.eL (k := 1) m1) ?_; refine J.r (.jK (k := 1) m1 sV) ?_; refine J.r (.ld GP) ?_; refine J.new (.lit [((c.2.1[j]).2)[k]] l4) ?_; refine J.app rfl rfl l4 l4 (by simp; omega) ?_; intro ww9; refine J.c (.eL (k := 1) m1) ?_; refine J.perm cW ?_; refine J.one m1 fun TA => ?_; refine J.fP (cs' := [St ((c.2.1[j]).1), .raw ww9]) 1 sV (.raw rfl (fE TA) TA) ?_; refine J.nil (U.text ?_); refine J.c (.add rfl rfl (by omega)) (J.c (.move rfl) ?_); refine J.perm uM ?_; refine J.perm uM ?_; refine J.perm uM ?_; refine J.perm uM ?_; refine J.perm tA ?_; refine J.perm uM ?_; refine J.nil ?_; refine ⟨_, [(1, .p bT c), (2, .raw dE), (3, .raw kJ), (8, .raw K4), (28, .v A1 c.2.1), (29, I ((c.2.1.length : Nat) : Int)), (30, I ((j : Nat) : Int)), (38, .v mL ((c.2.1[j]).2)), (39, I ((((c.2.1[j]).2).length : Nat) : Int)), (40, I (((k + 1) : Nat) : Int))], ?_, ⟨rfl, rfl, rfl, rfl, rfl, rfl, rfl, rfl, rfl, rfl, trivial⟩, (k + 1), ww9, rfl, rfl, (by rw [List.take_succ_eq_append_getElem (by omega)] <;> rfl), (by omega)⟩; omega
    refine U.exit ?_; refine U.perm cW ?_; refine U.perm cW ?_; refine U.wK [(w2, .row 98 o5 ((c.2.1[j]).2.take k)), (K4, .var [St ((c.2.1[j]).1), .raw w2])] [(8, .p pR ((c.2.1[j]).1, ((c.2.1[j]).2.take k)))] rfl (.cons rfl (.var m1 (.cons .same (.cons (.row m0) .nil))) .nil) ?_; refine U.text ?_; refine J.c (.eL (k := 1) m2) ?_; refine J.r (.jK (k := 1) m2 AI) ?_; refine J.r (.ld uL) ?_; refine J.new (.lit [((c.2.1[j]).1, ((c.2.1[j]).2.take k))] sZ) ?_; refine J.app rfl rfl sZ sZ (by simp; omega) ?_; intro TB; refine J.c (.eL (k := 1) m2) ?_; refine J.perm dF ?_; refine J.one m1 fun TC => ?_; refine J.fP (cs' := [.raw w0, .raw TB, cK]) 1 AI (.raw rfl (fE TC) TC) ?_; refine J.nil (U.text ?_); refine J.c (.add rfl rfl (by omega)) (J.c (.move rfl) ?_); refine J.perm lX ?_; refine J.perm cW ?_; refine J.perm lX ?_; refine J.perm lX ?_; refine J.nil ?_; refine ⟨_, [(1, .p bT c), (2, .raw dE), (3, .raw kJ), (28, .v A1 c.2.1), (29, I ((c.2.1.length : Nat) : Int)), (30, I (((j + 1) : Nat) : Int))], ?_, ⟨rfl, rfl, rfl, rfl, rfl, rfl, trivial⟩, (j + 1), TB, rfl, rfl, (by rw [List.take_succ_eq_append_getElem (by omega), List.take_of_length_le (i := k) (by omega)] <;> rfl), (by omega)⟩; omega
  refine U.exit (U.seq (U.seq (U.text ?_))); refine J.c (.fa (.r (.r .o))) ?_; refine J.r (.ld gM) ?_; refine J.r (.len fJ) ?_; refine J.c (.move rfl) ?_; refine J.go (U.block ?_); refine U.cell0 102 rO ?_; refine U.keep [(2, .raw dE), (3, .raw kJ), (59, .v sU c.2.2), (60, I ((c.2.2.length : Nat) : Int)), (61, I ((0 : Nat) : Int))] ⟨rfl, rfl, rfl, rfl, rfl, trivial⟩ ?_; refine U.loop (I := fun kk ff ss => ∃ (m : Nat) (w3 : Value), kk = c.2.2.length - m /\ ff = [(2, .raw dE), (3, .raw kJ), (59, .v sU c.2.2), (60, I ((c.2.2.length : Nat) : Int)), (61, I ((m : Nat) : Int))] /\ ss = [(w3, .row 102 rO (c.2.2.take m)), (w1, .row 101 pR (c.2.1.take j)), (w0, .row 98 o5 (c.1.take i)), (kJ, .var [.raw w0, .raw w1, .raw w3]), (dE, .var [cK, cK, cK])] /\ (m <= c.2.2.length)) ?_ _ _ _ ⟨0, (.slice none 0 0), rfl, rfl, rfl, Nat.zero_le _⟩; rintro kk ff ss ⟨m, w3, hk6, rfl, rfl, hm⟩; refine U.seq (U.text ?_); refine J.c (.lss) ?_; refine J.go (U.seq ?_); refine U.aM rfl (fun BF => ?_) (fun BF => ?_)
  . refine U.skip (U.seq (U.block (U.seq (U.text ?_)))); refine J.c (.ix (j := m) rfl rfl fJ (by omega)) ?_; refine J.r (.ld YH) ?_; refine J.cell (.alloc aeB) ?_; intro aoZ; refine J.eQ (cs' := [St ((c.2.2[m]).1), B ((c.2.2[m]).2.1), .v (.sl .str) ((c.2.2[m]).2.2)]) YH .v ?_; refine J.shut [(12, .p tM (c.2.2[m]))] (.cons rfl (.var m0 .refl) .nil) ?_; refine J.go (U.drawn ?_); refine VD.co (.eL (k := 2) m3) ?_; refine VD.r [(w3, .row 102 rO (c.2.2.take m)), (w1, .row 101 pR (c.2.1.take j)), (w0, .row 98 o5 (c.1.take i)), (kJ, .var [.raw w0, .raw w1, .raw w3]), (dE, .var [cK, cK, cK])] (.jK (k := 2) m3 x4) (.inr ⟨rfl, rfl⟩) ?_; refine VD.c (.fa (.l .o)) ?_; refine VD.r [] (.ld cJ) (.inl rfl) ?_; refine VD.c (.fa (.r (.l .o))) ?_; refine VD.r [] (.ld BE) (.inl rfl) ?_; refine VD.nw [] (VD.c (.fa (.r (.r .o))) ?_); refine VD.r [] (.ld gL) (.inl rfl) ?_; refine VD.call rfl rfl (VF.call (JZ (by have := hc.u _ (List.getElem_mem (show m < c.2.2.length by omega)); omega))) ?_; refine VD.c (.build ((c.2.2[m]).1, (c.2.2[m]).2.1, ((c.2.2[m]).2.2)) aeF) ?_; refine VD.new (.lit [((c.2.2[m]).1, (c.2.2[m]).2.1, ((c.2.2[m]).2.2))] r3) ?_; refine VD.mk (bF.app r3 r3 rfl rfl (by simp; omega)) ?_; rintro _ _ ap0 ⟨aeG, rfl, rfl⟩; refine VD.co (.eL (k := 2) m3) ?_; refine VD.perm lX ?_; refine VD.one m1 fun TD => ?_; refine VD.oN (bF.fP (k := 2) x4 (.raw rfl (fE TD) TD) (Nat.le_of_ble_eq_true rfl) (.inl rfl) rfl rfl) ?_; rintro _ _ ap1 ⟨rfl, rfl⟩; refine VD.nil ?_; refine U.text ?_; refine J.c (.add rfl rfl (by omega)) (J.c (.move rfl) ?_); refine J.perm tA ?_; refine J.perm cW ?_; refine J.perm tA ?_; refine J.perm tA ?_; refine J.perm tA ?_; refine J.nil ?_; refine ⟨_, [(2, .raw dE), (3, .raw kJ), (59, .v sU c.2.2), (60, I ((c.2.2.length : Nat) : Int)), (61, I (((m + 1) : Nat) : Int))], ?_, ⟨rfl, rfl, rfl, rfl, rfl, trivial⟩, (m + 1), aeG, rfl, rfl, (by rw [List.take_succ_eq_append_getElem (by omega)] <;> rfl), (by omega)⟩; omega
  refine U.exit (U.seq ?_); refine U.perm lX ?_; refine U.perm cW ?_; refine U.perm dF ?_; refine U.perm lX ?_; refine U.wK [(w0, .row 98 o5 (c.1.take i)), (w1, .row 101 pR (c.2.1.take j)), (w3, .row 102 rO (c.2.2.take m)), (kJ, .var [.raw w0, .raw w1, .raw w3])] [(3, .p kF ((c.1.take i), (c.2.1.take j), (c.2.2.take m)))] rfl (.cons rfl (.var m3 (.cons (.row m0) (.cons (.row m1) (.cons (.row m2) .nil)))) .nil) ?_; refine U.text ?_; refine J.r (.ld pS) ?_; refine J.eQ (cs' := [.v pQ (c.1.take i), .v xB (c.2.1.take j), .v F2 (c.2.2.take m)]) pS .v ?_; refine J.go ?_; refine U.ret ?_; exact aR.one rfl (.cell (x := ((c.1.take i), (c.2.1.take j), (c.2.2.take m))) rfl m0 pS .refl) (dV (by rw [List.take_of_length_le (by omega), List.take_of_length_le (by omega), List.take_of_length_le (by omega)]))
end Go.Proofs
namespace Go.Proofs
open Go.Fs
set_option maxHeartbeats 2000000
theorem BG : VF Tryz.prog OA 6 [] (B true) := VF.vR (fun _ => rfl) fun _ _ => ⟨rfl, rfl⟩
theorem WT : ∀ {a b : List ByteArray}, a.length = b.length -> (∀ i (h : i < a.length) (h2 : i < b.length), a[i] = b[i]) -> a = b := fun h h2 => List.ext_getElem h h2
theorem aeH {a b : List ByteArray} (h : (a.length : Int) ≠ (b.length : Int)) : ¬ a = b := fun e => h (by rw [e])
theorem aeI {a b : List ByteArray} {j : Nat} {ha : j < a.length} {hb : j < b.length} (hi : ∀ k (h : k < a.length) (h2 : k < b.length), k < j -> a[k] = b[k]) (e : ¬ a[j] ≠ b[j]) : ∀ k (h : k < a.length) (h2 : k < b.length), k < j + 1 -> a[k] = b[k] := fun k h h2 h3 => by
  by_cases h4 : k < j
  . exact hi k h h2 h4
  have : k = j := by omega
  subst this; exact Decidable.not_not.1 e
theorem ab8 {a : List ByteArray} {b : List ByteArray} (ha : a.length < 1000000) (hb : b.length < 1000000) : VF Tryz.prog OA 26 [.v (.sl .str) a, .v (.sl .str) b] (B (decide (a = b))) := by
  refine VF.enter Tryz.func26 rfl (fun _ _ => rfl) rfl ?_; show U _ _ _ _ _ [(0, .v (.sl .str) a), (1, .v (.sl .str) b)] [] _; refine U.seq (U.text ?_); refine J.c (.assign rfl) ?_; refine J.go (U.seq (U.seq (U.text ?_))); refine J.c (.move rfl) ?_; refine J.r (.len b8) ?_; refine J.c (.move rfl) ?_; refine J.r (.len b8) ?_; refine J.c (.neq) (J.go ?_); refine U.aM rfl (fun c1 => ?_) (fun c1 => ?_)
  . refine U.seq (U.text ?_); refine J.c (.assign rfl) (J.go ?_); refine U.ret ?_; exact aR.one rfl aZ (dV (by exact (decide_eq_false (aeH c1)).symm))
  refine U.skip (U.seq (U.seq (U.text ?_))); refine J.c (.assign rfl) ?_; refine J.go (U.block ?_); refine U.keep [(0, .v (.sl .str) a), (1, .v (.sl .str) b), (5, I ((0 : Nat) : Int))] ⟨rfl, rfl, rfl, trivial⟩ ?_; refine U.loop (I := fun kk ff ss => ∃ (j : Nat), kk = a.length - j /\ ff = [(0, .v (.sl .str) a), (1, .v (.sl .str) b), (5, I ((j : Nat) : Int))] /\ ss = [] /\ (j <= a.length) /\ (a.length = b.length) /\ (∀ k (h : k < a.length) (h2 : k < b.length), k < j -> a[k] = b[k])) ?_ _ _ _ ⟨0, rfl, rfl, rfl, Nat.zero_le _, (by omega), (by exact fun k _ _ h => absurd h (by omega))⟩; rintro kk ff ss ⟨j, kI, rfl, rfl, hj, hl, hi⟩; refine U.seq (U.seq (U.text ?_)); refine J.c (.move rfl) (J.c (.move rfl) ?_); refine J.r (.len b8) ?_; refine J.c (.lss) (J.go ?_); refine U.aM rfl (fun c4 => ?_) (fun c4 => ?_)
  . refine U.skip (U.seq (U.block (U.seq (U.drawn ?_)))); refine VD.c (.move rfl) (VD.c (.move rfl) (VD.c (.ix (j := j) rfl rfl b8 (by omega)) ?_)); refine VD.r [] (.ld cJ) (.inl rfl) ?_; refine VD.c (.move rfl) (VD.c (.move rfl) (VD.nw [] (VD.c (.ix (j := j) rfl rfl b8 (by omega)) ?_))); refine VD.r [] (.ld cJ) (.inl rfl) ?_; refine VD.c (.MN) (VD.go ?_); refine U.aM rfl (fun c6 => ?_) (fun c6 => ?_)
    . refine U.seq (U.text ?_); refine J.c (.assign rfl) (J.go ?_); refine U.ret ?_; exact aR.one rfl aZ (dV (by exact (decide_eq_false (fun h => c6 (List.getElem_of_eq h _))).symm))
    refine U.skip (U.text ?_); refine J.c (.move rfl) (J.c (.add rfl rfl (by omega)) (J.c (.assign rfl) ?_)); refine J.nil ?_; refine ⟨_, [(0, .v (.sl .str) a), (1, .v (.sl .str) b), (5, I (((j + 1) : Nat) : Int))], ?_, ⟨rfl, rfl, rfl, trivial⟩, (j + 1), rfl, rfl, rfl, (by omega), (by omega), (by exact aeI hi c6)⟩; omega
  refine U.exit (U.seq (U.text ?_)); refine J.c (.assign rfl) (J.go ?_); refine U.ret ?_; exact aR.one rfl aZ (dV (by exact (decide_eq_true (WT hl (fun k h h2 => hi k h h2 (by omega)))).symm))
def vS (v : fV) : Bool := decide (v.1.size <= 60)
def eS (x : vD) : Bool := (decide (x.1.size <= 60) && (decide (x.2.length <= 8) || decide (x.2.length = 17))) && x.2.all vS
def cS (x : D3) : Bool := (decide (x.1.size <= 60) && (decide (x.2.2.length <= 8) || decide (x.2.2.length = 17))) && mX x.2.2
def K5 (n : Nat) : Bool := decide (n <= 8 \/ n = 65)
def qS (c : dG) : Bool := (K5 c.1.length && (K5 c.2.1.length && K5 c.2.2.length)) && (c.1.all vS && (c.2.1.all eS && c.2.2.all cS))
theorem getD_at {α : Type} {l : List α} {i : Nat} {d : α} (h : i < l.length) : l.getD i d = l[i] := by rw [List.getD_eq_getElem?_getD, List.getElem?_eq_getElem h] <;> rfl
theorem ap2 {a b c : Nat} (ha : a <= 8 \/ a = 65) (hb : b <= 8 \/ b = 65) (hc : c <= 8 \/ c = 65) : (K5 a && (K5 b && K5 c)) = true := by
  unfold K5; rw [decide_eq_true ha, decide_eq_true hb, decide_eq_true hc]; rfl
theorem TE {c : dG} (h : ¬((c.1.length <= 8 \/ c.1.length = 65) /\ (c.2.1.length <= 8 \/ c.2.1.length = 65) /\ (c.2.2.length <= 8 \/ c.2.2.length = 65))) : false = qS c := by
  symm
  unfold qS; rw [Bool.and_eq_false_iff]; left; refine Bool.eq_false_iff.2 fun hh => h ?_; rw [Bool.and_eq_true, Bool.and_eq_true] at hh; exact ⟨of_decide_eq_true hh.1, of_decide_eq_true hh.2.1, of_decide_eq_true hh.2.2⟩
theorem aj7 {x : vD} (h : x.1.size <= 60) (h2 : x.2.length <= 8 \/ x.2.length = 17) : eS x = x.2.all vS := by
  unfold eS; rw [decide_eq_true h]; rcases h2 with h2 | h2
  . rw [decide_eq_true h2] <;> rfl
  rw [decide_eq_true h2, Bool.or_true] <;> rfl
theorem aeJ {x : vD} (h : ¬(x.1.size <= 60 /\ (x.2.length <= 8 \/ x.2.length = 17))) : eS x = false := by
  refine Bool.eq_false_iff.2 fun hh => h ?_; unfold eS at hh; rw [Bool.and_eq_true, Bool.and_eq_true, Bool.or_eq_true] at hh; exact ⟨of_decide_eq_true hh.1.1, hh.1.2.imp of_decide_eq_true of_decide_eq_true⟩
theorem aj8 {x : D3} (h : x.1.size <= 60) (h2 : x.2.2.length <= 8 \/ x.2.2.length = 17) (h3 : mX x.2.2 = true) : cS x = true := by
  unfold cS; rw [decide_eq_true h, h3]; rcases h2 with h2 | h2
  . rw [decide_eq_true h2] <;> rfl
  rw [decide_eq_true h2, Bool.or_true] <;> rfl
theorem PR {x : D3} (h : (x.1.size <= 60 /\ (x.2.2.length <= 8 \/ x.2.2.length = 17)) -> mX x.2.2 = false) : cS x = false := by
  refine Bool.eq_false_iff.2 fun hh => ?_; unfold cS at hh; rw [Bool.and_eq_true, Bool.and_eq_true, Bool.or_eq_true] at hh; have := h ⟨of_decide_eq_true hh.1.1, hh.1.2.imp of_decide_eq_true of_decide_eq_true⟩; rw [this] at hh; exact absurd hh.2 (by decide)
theorem aj9 {a b : Nat} (e : b = a) (h : (decide (8 < (a : Int)) && decide ((b : Int) ≠ 17)) = false) : b < 1000000 := by
  simp only [Bool.and_eq_false_iff, decide_eq_false_iff_not] at h; omega
theorem akE {x : D3} (h : (8 < (x.2.2.length : Int) /\ (x.2.2.length : Int) ≠ 17) \/ mX x.2.2 = false) : (x.1.size <= 60 /\ (x.2.2.length <= 8 \/ x.2.2.length = 17)) -> mX x.2.2 = false := fun hq => by
  rcases h with h | h
  . omega
  exact h
theorem akF {x : D3} (h : 60 < (x.1.size : Int)) : (x.1.size <= 60 /\ (x.2.2.length <= 8 \/ x.2.2.length = 17)) -> mX x.2.2 = false := fun hq => by omega
theorem F7 {n : Int} : VF Tryz.prog OA 16 [I n] (B (decide (n <= 8 \/ n = 65))) := by
  have h := aeA (n := n)
  rwa [<- Bool.decide_or] at h
theorem TF {c : (List (ByteArray × Int)) × (List (ByteArray × (List (ByteArray × Int)))) × (List (ByteArray × Bool × (List ByteArray)))} : VF Tryz.prog OA 5 [.v bT c] (B (qS c)) := by
  refine VF.enter Tryz.func5 rfl (fun _ _ => rfl) rfl ?_; show U _ _ _ _ _ [(0, .v bT c)] [] _; refine U.seq (U.text ?_); refine J.new (.box) ?_; refine J.c (.assign rfl) ?_; refine J.go (U.seq (U.seq (U.text ?_))); refine J.c (.fa (.l .o)) ?_; refine J.r (.ld gX) ?_; refine J.r (.len eC) ?_; refine J.call rfl rfl (VF.call (F7 )) ?_; refine J.c (.not) (J.c (.move rfl) ?_); refine J.cg (r := (!(decide (((c.1.length : Nat) : Int) <= 8 \/ ((c.1.length : Nat) : Int) = 65)))) (w := false) [] trivial (fun _ => (.fa (.r (.l .o)))) ?_; refine J.rg (r := (!(decide (((c.1.length : Nat) : Int) <= 8 \/ ((c.1.length : Nat) : Int) = 65)))) (w := false) [(13, .p A1 c.2.1)] ⟨rfl, trivial⟩ (fun _ => (.ld jD)) ?_; refine J.rg (r := (!(decide (((c.1.length : Nat) : Int) <= 8 \/ ((c.1.length : Nat) : Int) = 65)))) (w := false) [(14, .v A1 c.2.1)] ⟨rfl, trivial⟩ (fun _ => (.len iD)) ?_; refine J.PF (r0 := (!(decide (((c.1.length : Nat) : Int) <= 8 \/ ((c.1.length : Nat) : Int) = 65)))) (w := false) [(15, I ((c.2.1.length : Nat) : Int))] ⟨rfl, trivial⟩ rfl rfl .same .refl rfl (fun _ => VF.call (F7 )) ?_; refine J.cg (r := (!(decide (((c.1.length : Nat) : Int) <= 8 \/ ((c.1.length : Nat) : Int) = 65)))) (w := false) [(16, B (decide (((c.2.1.length : Nat) : Int) <= 8 \/ ((c.2.1.length : Nat) : Int) = 65)))] ⟨rfl, trivial⟩ (fun _ => (.not)) ?_; refine J.c (.or) (J.c (.move rfl) ?_); refine J.cg (r := ((!(decide (((c.1.length : Nat) : Int) <= 8 \/ ((c.1.length : Nat) : Int) = 65))) || (!(decide (((c.2.1.length : Nat) : Int) <= 8 \/ ((c.2.1.length : Nat) : Int) = 65))))) (w := false) [] trivial (fun _ => (.fa (.r (.r (k := 0) .o)))) ?_; refine J.rg (r := ((!(decide (((c.1.length : Nat) : Int) <= 8 \/ ((c.1.length : Nat) : Int) = 65))) || (!(decide (((c.2.1.length : Nat) : Int) <= 8 \/ ((c.2.1.length : Nat) : Int) = 65))))) (w := false) [(20, .p sU c.2.2)] ⟨rfl, trivial⟩ (fun _ => (.ld gM)) ?_; refine J.rg (r := ((!(decide (((c.1.length : Nat) : Int) <= 8 \/ ((c.1.length : Nat) : Int) = 65))) || (!(decide (((c.2.1.length : Nat) : Int) <= 8 \/ ((c.2.1.length : Nat) : Int) = 65))))) (w := false) [(21, .v sU c.2.2)] ⟨rfl, trivial⟩ (fun _ => (.len fJ)) ?_; refine J.PF (r0 := ((!(decide (((c.1.length : Nat) : Int) <= 8 \/ ((c.1.length : Nat) : Int) = 65))) || (!(decide (((c.2.1.length : Nat) : Int) <= 8 \/ ((c.2.1.length : Nat) : Int) = 65))))) (w := false) [(22, I ((c.2.2.length : Nat) : Int))] ⟨rfl, trivial⟩ rfl rfl .same .refl rfl (fun _ => VF.call (F7 )) ?_; refine J.cg (r := ((!(decide (((c.1.length : Nat) : Int) <= 8 \/ ((c.1.length : Nat) : Int) = 65))) || (!(decide (((c.2.1.length : Nat) : Int) <= 8 \/ ((c.2.1.length : Nat) : Int) = 65))))) (w := false) [(23, B (decide (((c.2.2.length : Nat) : Int) <= 8 \/ ((c.2.2.length : Nat) : Int) = 65)))] ⟨rfl, trivial⟩ (fun _ => (.not)) ?_; refine J.c (.or) (J.go ?_); refine U.fO rfl (fun c1 => ?_) (fun c1 => ?_)
  . try simp only [Bool.and_eq_true, Bool.or_eq_true, Bool.and_eq_false_iff, Bool.or_eq_false_iff, Bool.not_eq_true', Bool.not_eq_false', decide_eq_true_eq, decide_eq_false_iff_not] at c1
    refine U.seq (U.text ?_); refine J.c (.assign rfl) (J.go ?_); refine U.ret ?_; exact aR.one rfl aZ (dV (by exact TE (by omega)))
  try simp only [Bool.and_eq_true, Bool.or_eq_true, Bool.and_eq_false_iff, Bool.or_eq_false_iff, Bool.not_eq_true', Bool.not_eq_false', decide_eq_true_eq, decide_eq_false_iff_not] at c1
  refine U.skip (U.seq (U.seq (U.text ?_))); have h3 := ap2 (a := c.1.length) (b := c.2.1.length) (c := c.2.2.length) (by omega) (by omega) (by omega); refine J.c (.assign rfl) ?_; refine J.go (U.block ?_); refine U.keep [(1, .p bT c), (3, I ((0 : Nat) : Int))] ⟨rfl, rfl, trivial⟩ ?_; refine U.loop (I := fun kk ff ss => ∃ (i : Nat), kk = c.1.length - i /\ ff = [(1, .p bT c), (3, I ((i : Nat) : Int))] /\ ss = [] /\ (i <= c.1.length) /\ (qS c = ((c.1.drop i).all vS && (c.2.1.all eS && c.2.2.all cS)))) ?_ _ _ _ ⟨0, rfl, rfl, rfl, Nat.zero_le _, (by rw [qS, h3]; rfl)⟩; rintro kk ff ss ⟨i, kI, rfl, rfl, hi, hf⟩; refine U.seq (U.seq (U.text ?_)); refine J.c (.move rfl) (J.c (.fa (.l .o)) ?_); refine J.r (.ld gX) ?_; refine J.r (.len eC) ?_; refine J.c (.lss) (J.go ?_); refine U.aM rfl (fun c4 => ?_) (fun c4 => ?_)
  . refine U.skip (U.seq (U.block (U.seq (U.text ?_)))); refine J.c (.fa (.l .o)) ?_; refine J.r (.ld gX) ?_; refine J.c (.move rfl) (J.c (.ix (j := i) rfl rfl eC (by omega)) (J.c (.fa (.l .o)) ?_)); refine J.r (.ld cJ) ?_; refine J.r (.gU) ?_; refine J.c (.gtr) (J.go ?_); refine U.aM rfl (fun c6 => ?_) (fun c6 => ?_)
    . refine U.seq (U.text ?_); refine J.c (.assign rfl) (J.go ?_); refine U.ret ?_; exact aR.one rfl aZ (dV (by rw [hf, jZ (by omega), vS, decide_eq_false (by omega)] <;> rfl))
    refine U.skip (U.text ?_); refine J.c (.move rfl) (J.c (.add rfl rfl (by omega)) (J.c (.assign rfl) ?_)); refine J.nil ?_; refine ⟨_, [(1, .p bT c), (3, I (((i + 1) : Nat) : Int))], ?_, ⟨rfl, rfl, trivial⟩, (i + 1), rfl, rfl, rfl, (by omega), (by rw [hf, jZ (by omega), vS, decide_eq_true (by omega), Bool.true_and])⟩; omega
  refine U.exit (U.seq (U.seq (U.text ?_))); refine J.c (.assign rfl) ?_; refine J.go (U.block ?_); refine U.keep [(1, .p bT c), (4, I ((0 : Nat) : Int))] ⟨rfl, rfl, trivial⟩ ?_; refine U.loop (I := fun kk ff ss => ∃ (j : Nat), kk = c.2.1.length - j /\ ff = [(1, .p bT c), (4, I ((j : Nat) : Int))] /\ ss = [] /\ (j <= c.2.1.length) /\ (qS c = ((c.2.1.drop j).all eS && c.2.2.all cS))) ?_ _ _ _ ⟨0, rfl, rfl, rfl, Nat.zero_le _, (by rw [hf, List.drop_eq_nil_of_le (by omega)]; rfl)⟩; rintro kk ff ss ⟨j, uF, rfl, rfl, hj, hg⟩; refine U.seq (U.seq (U.text ?_)); refine J.c (.move rfl) (J.c (.fa (.r (.l .o))) ?_); refine J.r (.ld jD) ?_; refine J.r (.len iD) ?_; refine J.c (.lss) (J.go ?_); refine U.aM rfl (fun c9 => ?_) (fun c9 => ?_)
  . refine U.skip (U.seq (U.block (U.seq (U.seq (U.text ?_))))); refine J.c (.fa (.r (.l .o))) ?_; refine J.r (.ld jD) ?_; refine J.c (.move rfl) (J.c (.ix (j := j) rfl rfl iD (by omega)) (J.c (.fa (.l .o)) ?_)); refine J.r (.ld cJ) ?_; refine J.r (.gU) ?_; refine J.c (.gtr) (J.c (.move rfl) ?_); refine J.iW (x := 56) rfl (fun am0 => ?_) (fun am0 => ?_)
    . refine J.skip (J.skip (J.skip (J.skip ?_))); refine J.skip (J.skip (J.skip (J.skip ?_))); refine J.skip (J.skip (J.skip (J.skip ?_))); refine J.skip (J.skip (J.skip (J.skip ?_))); refine J.skip (J.skip (J.c (.bS rfl rfl) (J.go ?_))); refine U.jJ rfl ?_; refine U.seq ?_; refine U.keep [(1, .p bT c), (4, I ((j : Nat) : Int))] ⟨rfl, rfl, trivial⟩ ?_; refine U.text ?_; refine J.c (.assign rfl) (J.go ?_); refine U.ret ?_; exact aR.one rfl aZ (dV (by rw [hg, jZ (by omega), aeJ (by omega)] <;> rfl))
    refine J.c (.fa (.r (.l .o))) ?_; refine J.r (.ld jD) ?_; refine J.c (.move rfl) (J.c (.ix (j := j) rfl rfl iD (by omega)) (J.c (.fa (.r .o)) ?_)); refine J.r (.ld gX) ?_; refine J.r (.len eC) ?_; refine J.c (.gtr) (J.c (.move rfl) ?_); refine J.cg (r := decide ((8 : Int) < ((((c.2.1[j]).2).length : Nat) : Int))) (w := true) [] trivial (fun _ => (.fa (.r (.l .o)))) ?_; refine J.rg (r := decide ((8 : Int) < ((((c.2.1[j]).2).length : Nat) : Int))) (w := true) [(66, .p A1 c.2.1)] ⟨rfl, trivial⟩ (fun _ => (.ld jD)) ?_; refine J.cg (r := decide ((8 : Int) < ((((c.2.1[j]).2).length : Nat) : Int))) (w := true) [] trivial (fun _ => (.move rfl)) ?_; refine J.cg (r := decide ((8 : Int) < ((((c.2.1[j]).2).length : Nat) : Int))) (w := true) [(67, .v A1 c.2.1), (68, I ((j : Nat) : Int))] ⟨rfl, rfl, trivial⟩ (fun eW => have apP : (8 : Int) < ((((c.2.1[j]).2).length : Nat) : Int) := (by simpa using eW); (.ixD (j := j) rfl rfl (ByteArray.empty, []) iD (by omega))) ?_; refine J.cg (r := decide ((8 : Int) < ((((c.2.1[j]).2).length : Nat) : Int))) (w := true) [(69, .p tL (c.2.1.getD j (ByteArray.empty, [])))] ⟨rfl, trivial⟩ (fun _ => (.fa (.r (k := 0) .o))) ?_; refine J.rg (r := decide ((8 : Int) < ((((c.2.1[j]).2).length : Nat) : Int))) (w := true) [(70, .p mL ((c.2.1.getD j (ByteArray.empty, [])).2))] ⟨rfl, trivial⟩ (fun _ => (.ld gX)) ?_; refine J.rg (r := decide ((8 : Int) < ((((c.2.1[j]).2).length : Nat) : Int))) (w := true) [(71, .v mL ((c.2.1.getD j (ByteArray.empty, [])).2))] ⟨rfl, trivial⟩ (fun _ => (.len eC)) ?_; refine J.cg (r := decide ((8 : Int) < ((((c.2.1[j]).2).length : Nat) : Int))) (w := true) [(72, I ((((c.2.1.getD j (ByteArray.empty, [])).2).length : Nat) : Int))] ⟨rfl, trivial⟩ (fun _ => (.neq)) ?_; refine J.c (.and) (J.c (.aU rfl rfl) (J.go ?_)); refine U.fO rfl (fun rL => ?_) (fun rL => ?_)
    . try simp only [Bool.and_eq_true, Bool.or_eq_true, Bool.and_eq_false_iff, Bool.or_eq_false_iff, Bool.not_eq_true', Bool.not_eq_false', decide_eq_true_eq, decide_eq_false_iff_not] at rL
      try rw [getD_at (by omega)] at rL
      refine U.seq (U.text ?_); refine J.c (.assign rfl) (J.go ?_); refine U.ret ?_; exact aR.one rfl aZ (dV (by rw [hg, jZ (by omega), aeJ (by omega)] <;> rfl))
    try simp only [Bool.and_eq_true, Bool.or_eq_true, Bool.and_eq_false_iff, Bool.or_eq_false_iff, Bool.not_eq_true', Bool.not_eq_false', decide_eq_true_eq, decide_eq_false_iff_not] at rL
    try rw [getD_at (by omega)] at rL
    refine U.skip (U.seq (U.text ?_)); refine J.c (.assign rfl) ?_; refine J.go (U.block ?_); refine U.keep [(1, .p bT c), (4, I ((j : Nat) : Int)), (5, I ((0 : Nat) : Int))] ⟨rfl, rfl, rfl, trivial⟩ ?_; refine U.loop (I := fun kk ff ss => ∃ (k : Nat), kk = (c.2.1[j]).2.length - k /\ ff = [(1, .p bT c), (4, I ((j : Nat) : Int)), (5, I ((k : Nat) : Int))] /\ ss = [] /\ (k <= (c.2.1[j]).2.length) /\ (qS c = (((c.2.1[j]).2.drop k).all vS && ((c.2.1.drop (j + 1)).all eS && c.2.2.all cS)))) ?_ _ _ _ ⟨0, rfl, rfl, rfl, (by omega), (by rw [hg, jZ (by omega), aj7 (by omega) (by omega)]; exact Bool.and_assoc _ _ _)⟩; rintro kk ff ss ⟨k, hk4, rfl, rfl, hk, hh⟩; refine U.seq (U.seq (U.text ?_)); refine J.c (.move rfl) (J.c (.fa (.r (.l .o))) ?_); refine J.r (.ld jD) ?_; refine J.c (.move rfl) (J.c (.ix (j := j) rfl rfl iD (by omega)) (J.c (.fa (.r .o)) ?_)); refine J.r (.ld gX) ?_; refine J.r (.len eC) ?_; refine J.c (.lss) (J.go ?_); refine U.aM rfl (fun D4 => ?_) (fun D4 => ?_)
    . refine U.skip (U.seq (U.block (U.seq (U.text ?_)))); refine J.c (.fa (.r (.l .o))) ?_; refine J.r (.ld jD) ?_; refine J.c (.move rfl) (J.c (.ix (j := j) rfl rfl iD (by omega)) (J.c (.fa (.r .o)) ?_)); refine J.r (.ld gX) ?_; refine J.c (.move rfl) (J.c (.ix (j := k) rfl rfl eC (by omega)) (J.c (.fa (.l .o)) ?_)); refine J.r (.ld cJ) ?_; refine J.r (.gU) ?_; refine J.c (.gtr) (J.go ?_); refine U.aM rfl (fun PM => ?_) (fun PM => ?_)
      . refine U.seq (U.text ?_); refine J.c (.assign rfl) (J.go ?_); refine U.ret ?_; exact aR.one rfl aZ (dV (by rw [hh, jZ (by omega), vS, decide_eq_false (by omega)] <;> rfl))
      refine U.skip (U.text ?_); refine J.c (.move rfl) (J.c (.add rfl rfl (by omega)) (J.c (.assign rfl) ?_)); refine J.nil ?_; refine ⟨_, [(1, .p bT c), (4, I ((j : Nat) : Int)), (5, I (((k + 1) : Nat) : Int))], ?_, ⟨rfl, rfl, rfl, trivial⟩, (k + 1), rfl, rfl, rfl, (by omega), (by rw [hh, jZ (by omega), vS, decide_eq_true (by omega), Bool.true_and])⟩; omega
    refine U.exit (U.text ?_); refine J.c (.move rfl) (J.c (.add rfl rfl (by omega)) (J.c (.assign rfl) ?_)); refine J.nil ?_; refine ⟨_, [(1, .p bT c), (4, I (((j + 1) : Nat) : Int))], ?_, ⟨rfl, rfl, trivial⟩, (j + 1), rfl, rfl, rfl, (by omega), (by rw [hh, List.drop_eq_nil_of_le (by omega)] <;> rfl)⟩; omega
  refine U.exit (U.seq (U.seq (U.text ?_))); refine J.c (.assign rfl) ?_; refine J.go (U.block ?_); refine U.keep [(1, .p bT c), (6, I ((0 : Nat) : Int))] ⟨rfl, rfl, trivial⟩ ?_; refine U.loop (I := fun kk ff ss => ∃ (m : Nat), kk = c.2.2.length - m /\ ff = [(1, .p bT c), (6, I ((m : Nat) : Int))] /\ ss = [] /\ (m <= c.2.2.length) /\ (qS c = (c.2.2.drop m).all cS)) ?_ _ _ _ ⟨0, rfl, rfl, rfl, Nat.zero_le _, (by rw [hg, List.drop_eq_nil_of_le (by omega)]; rfl)⟩; rintro kk ff ss ⟨m, hk6, rfl, rfl, hm, hz⟩; refine U.seq (U.seq (U.text ?_)); refine J.c (.move rfl) (J.c (.fa (.r (.r .o))) ?_); refine J.r (.ld gM) ?_; refine J.r (.len fJ) ?_; refine J.c (.lss) (J.go ?_); refine U.aM rfl (fun BF => ?_) (fun BF => ?_)
  . refine U.skip (U.seq (U.block (U.seq (U.text ?_)))); refine J.c (.fa (.r (.r .o))) ?_; refine J.r (.ld gM) ?_; refine J.c (.move rfl) (J.c (.ix (j := m) rfl rfl fJ (by omega)) (J.c (.fa (.l .o)) ?_)); refine J.r (.ld cJ) ?_; refine J.r (.gU) ?_; refine J.c (.gtr) (J.c (.move rfl) ?_); refine J.iW (x := 114) rfl (fun WU => ?_) (fun WU => ?_)
    . refine J.skip (J.skip (J.skip (J.skip ?_))); refine J.skip (J.skip (J.skip (J.skip ?_))); refine J.skip (J.skip (J.skip (J.skip ?_))); refine J.skip (J.skip (J.skip (J.skip ?_))); refine J.skip (J.skip (J.c (.bS rfl rfl) (J.c (.move rfl) ?_))); refine J.skip (J.skip (J.skip (J.skip ?_))); refine J.skip (J.skip (J.skip (J.skip ?_))); refine J.c (.bS rfl rfl) (J.go ?_); refine U.jJ rfl ?_; refine U.seq ?_; refine U.keep [(1, .p bT c), (6, I ((m : Nat) : Int))] ⟨rfl, rfl, trivial⟩ ?_; refine U.text ?_; refine J.c (.assign rfl) (J.go ?_); refine U.ret ?_; exact aR.one rfl aZ (dV (by first | (rw [hz, jZ (by omega), PR (akE TG)]; rfl) | (rw [hz, jZ (by omega), PR (akF WU)]; rfl)))
    refine J.c (.fa (.r (.r .o))) ?_; refine J.r (.ld gM) ?_; refine J.c (.move rfl) (J.c (.ix (j := m) rfl rfl fJ (by omega)) (J.c (.fa (.r (.r .o))) ?_)); refine J.r (.ld gL) ?_; refine J.r (.len b8) ?_; refine J.c (.gtr) (J.c (.move rfl) ?_); refine J.cg (r := decide ((8 : Int) < ((((c.2.2[m]).2.2).length : Nat) : Int))) (w := true) [] trivial (fun _ => (.fa (.r (.r (k := 0) .o)))) ?_; refine J.rg (r := decide ((8 : Int) < ((((c.2.2[m]).2.2).length : Nat) : Int))) (w := true) [(124, .p sU c.2.2)] ⟨rfl, trivial⟩ (fun _ => (.ld gM)) ?_; refine J.cg (r := decide ((8 : Int) < ((((c.2.2[m]).2.2).length : Nat) : Int))) (w := true) [] trivial (fun _ => (.move rfl)) ?_; refine J.cg (r := decide ((8 : Int) < ((((c.2.2[m]).2.2).length : Nat) : Int))) (w := true) [(125, .v sU c.2.2), (126, I ((m : Nat) : Int))] ⟨rfl, rfl, trivial⟩ (fun eW => have apQ : (8 : Int) < ((((c.2.2[m]).2.2).length : Nat) : Int) := (by first | exact eq_of_beq eW | simpa using eW); (.ixD (j := m) rfl rfl (ByteArray.empty, false, []) fJ (by omega))) ?_; refine J.cg (r := decide ((8 : Int) < ((((c.2.2[m]).2.2).length : Nat) : Int))) (w := true) [(127, .p tM (c.2.2.getD m (ByteArray.empty, false, [])))] ⟨rfl, trivial⟩ (fun _ => (.fa (.r (.r (k := 0) .o)))) ?_; refine J.rg (r := decide ((8 : Int) < ((((c.2.2[m]).2.2).length : Nat) : Int))) (w := true) [(128, .p (.sl .str) ((c.2.2.getD m (ByteArray.empty, false, [])).2.2))] ⟨rfl, trivial⟩ (fun _ => (.ld gL)) ?_; refine J.rg (r := decide ((8 : Int) < ((((c.2.2[m]).2.2).length : Nat) : Int))) (w := true) [(129, .v (.sl .str) ((c.2.2.getD m (ByteArray.empty, false, [])).2.2))] ⟨rfl, trivial⟩ (fun _ => (.len b8)) ?_; refine J.cg (r := decide ((8 : Int) < ((((c.2.2[m]).2.2).length : Nat) : Int))) (w := true) [(130, I ((((c.2.2.getD m (ByteArray.empty, false, [])).2.2).length : Nat) : Int))] ⟨rfl, trivial⟩ (fun _ => (.neq)) ?_; refine J.c (.and) (J.c (.aU rfl rfl) (J.c (.move rfl) ?_)); refine J.cg (r := ((decide ((8 : Int) < ((((c.2.2[m]).2.2).length : Nat) : Int))) && (decide (((((c.2.2.getD m (ByteArray.empty, false, [])).2.2).length : Nat) : Int) ≠ (17 : Int))))) (w := false) [] trivial (fun _ => (.fa (.r (.r (k := 0) .o)))) ?_; refine J.rg (r := ((decide ((8 : Int) < ((((c.2.2[m]).2.2).length : Nat) : Int))) && (decide (((((c.2.2.getD m (ByteArray.empty, false, [])).2.2).length : Nat) : Int) ≠ (17 : Int))))) (w := false) [(135, .p sU c.2.2)] ⟨rfl, trivial⟩ (fun _ => (.ld gM)) ?_; refine J.cg (r := ((decide ((8 : Int) < ((((c.2.2[m]).2.2).length : Nat) : Int))) && (decide (((((c.2.2.getD m (ByteArray.empty, false, [])).2.2).length : Nat) : Int) ≠ (17 : Int))))) (w := false) [] trivial (fun _ => (.move rfl)) ?_; refine J.cg (r := ((decide ((8 : Int) < ((((c.2.2[m]).2.2).length : Nat) : Int))) && (decide (((((c.2.2.getD m (ByteArray.empty, false, [])).2.2).length : Nat) : Int) ≠ (17 : Int))))) (w := false) [(136, .v sU c.2.2), (137, I ((m : Nat) : Int))] ⟨rfl, rfl, trivial⟩ (fun eW => have YL : ((decide ((8 : Int) < ((((c.2.2[m]).2.2).length : Nat) : Int))) && (decide (((((c.2.2.getD m (ByteArray.empty, false, [])).2.2).length : Nat) : Int) ≠ (17 : Int)))) = false := (by first | exact eq_of_beq eW | simpa using eW); (.ixD (j := m) rfl rfl (ByteArray.empty, false, []) fJ (by omega))) ?_; refine J.cg (r := ((decide ((8 : Int) < ((((c.2.2[m]).2.2).length : Nat) : Int))) && (decide (((((c.2.2.getD m (ByteArray.empty, false, [])).2.2).length : Nat) : Int) ≠ (17 : Int))))) (w := false) [(138, .p tM (c.2.2.getD m (ByteArray.empty, false, [])))] ⟨rfl, trivial⟩ (fun _ => (.fa (.r (.r (k := 0) .o)))) ?_; refine J.rg (r := ((decide ((8 : Int) < ((((c.2.2[m]).2.2).length : Nat) : Int))) && (decide (((((c.2.2.getD m (ByteArray.empty, false, [])).2.2).length : Nat) : Int) ≠ (17 : Int))))) (w := false) [(139, .p (.sl .str) ((c.2.2.getD m (ByteArray.empty, false, [])).2.2))] ⟨rfl, trivial⟩ (fun _ => (.ld gL)) ?_; refine J.PF (r0 := ((decide ((8 : Int) < ((((c.2.2[m]).2.2).length : Nat) : Int))) && (decide (((((c.2.2.getD m (ByteArray.empty, false, [])).2.2).length : Nat) : Int) ≠ (17 : Int))))) (w := false) [(140, .v (.sl .str) ((c.2.2.getD m (ByteArray.empty, false, [])).2.2))] ⟨rfl, trivial⟩ rfl rfl .same .refl rfl (fun eW => have YL : ((decide ((8 : Int) < ((((c.2.2[m]).2.2).length : Nat) : Int))) && (decide (((((c.2.2.getD m (ByteArray.empty, false, [])).2.2).length : Nat) : Int) ≠ (17 : Int)))) = false := (by first | exact eq_of_beq eW | simpa using eW); VF.call (WL (aj9 (by rw [getD_at (by omega)]) YL))) ?_; refine J.cg (r := ((decide ((8 : Int) < ((((c.2.2[m]).2.2).length : Nat) : Int))) && (decide (((((c.2.2.getD m (ByteArray.empty, false, [])).2.2).length : Nat) : Int) ≠ (17 : Int))))) (w := false) [(141, B (mX ((c.2.2.getD m (ByteArray.empty, false, [])).2.2)))] ⟨rfl, trivial⟩ (fun _ => (.not)) ?_; refine J.c (.or) (J.go ?_); refine U.fO rfl (fun TG => ?_) (fun TG => ?_)
    . try simp only [Bool.and_eq_true, Bool.or_eq_true, Bool.and_eq_false_iff, Bool.or_eq_false_iff, Bool.not_eq_true', Bool.not_eq_false', decide_eq_true_eq, decide_eq_false_iff_not] at TG
      try simp only [getD_at (show m < c.2.2.length by omega)] at TG
      refine U.seq (U.text ?_); refine J.c (.assign rfl) (J.go ?_); refine U.ret ?_; exact aR.one rfl aZ (dV (by first | (rw [hz, jZ (by omega), PR (akE TG)]; rfl) | (rw [hz, jZ (by omega), PR (akF WU)]; rfl)))
    try simp only [Bool.and_eq_true, Bool.or_eq_true, Bool.and_eq_false_iff, Bool.or_eq_false_iff, Bool.not_eq_true', Bool.not_eq_false', decide_eq_true_eq, decide_eq_false_iff_not] at TG
    try simp only [getD_at (show m < c.2.2.length by omega)] at TG
    refine U.skip (U.text ?_); refine J.c (.move rfl) (J.c (.add rfl rfl (by omega)) (J.c (.assign rfl) ?_)); refine J.nil ?_; refine ⟨_, [(1, .p bT c), (6, I (((m + 1) : Nat) : Int))], ?_, ⟨rfl, rfl, trivial⟩, (m + 1), rfl, rfl, rfl, (by omega), (by rw [hz, jZ (by omega), aj8 (by omega) (by omega) TG.2, Bool.true_and])⟩; omega
  refine U.exit (U.seq (U.text ?_)); refine J.c (.assign rfl) (J.go ?_); refine U.ret ?_; exact aR.one rfl aZ (dV (by rw [hz, List.drop_eq_nil_of_le (by omega)] <;> rfl))
end Go.Proofs
namespace Go.Proofs
open Go.Fs
set_option maxHeartbeats 2000000
theorem WV {c : dG} (h : qS c = true) : qC c := by
  unfold qS at h; simp only [Bool.and_eq_true] at h; obtain ⟨⟨h1, h2, h3⟩, h4, h5, h6⟩ := h; have h1 := of_decide_eq_true h1; have h2 := of_decide_eq_true h2; have h3 := of_decide_eq_true h3; refine ⟨by omega, by omega, by omega, fun x hx => ?_, fun x hx => ?_⟩
  . have h7 := List.all_eq_true.1 h5 x hx; unfold eS at h7; simp only [Bool.and_eq_true, Bool.or_eq_true, decide_eq_true_eq] at h7; omega
  have h7 := List.all_eq_true.1 h6 x hx; unfold cS at h7; simp only [Bool.and_eq_true, Bool.or_eq_true, decide_eq_true_eq] at h7; omega
end Go.Proofs
namespace Go.Proofs
open Go.Fs
theorem ap3 : EqT Tryz.prog 52 rX := aj2 (by kernel_rfl)
theorem ab9 {α : Type} {a b : List α} (h : (a.length : Int) ≠ (b.length : Int)) : ¬ a = b := fun e => h (by rw [e])
theorem F8 {α : Type} {a b : List α} {j : Nat} {ha : j < a.length} {hb : j < b.length} (hi : ∀ k (h : k < a.length) (h2 : k < b.length), k < j -> a[k] = b[k]) (e : ¬ a[j] ≠ b[j]) : ∀ k (h : k < a.length) (h2 : k < b.length), k < j + 1 -> a[k] = b[k] := fun k h h2 h3 => by
  by_cases h4 : k < j
  . exact hi k h h2 h4
  have : k = j := by omega
  subst this; exact Classical.not_not.1 e
theorem K6 {a : List (ByteArray × Int)} {b : List (ByteArray × Int)} (ha : a.length < 1000000) (hb : b.length < 1000000) : VF Tryz.prog OA 39 [.v mL a, .v mL b] (B (decide (a = b))) := by
  refine VF.enter Tryz.func39 rfl (fun _ _ => rfl) rfl ?_; show U _ _ _ _ _ [(0, .v mL a), (1, .v mL b)] [] _; refine U.seq (U.text ?_); refine J.c (.assign rfl) ?_; refine J.go (U.seq (U.seq (U.text ?_))); refine J.c (.move rfl) ?_; refine J.r (.len eC) ?_; refine J.c (.move rfl) ?_; refine J.r (.len eC) ?_; refine J.c (.neq) (J.go ?_); refine U.aM rfl (fun c1 => ?_) (fun c1 => ?_)
  . refine U.seq (U.text ?_); refine J.c (.assign rfl) (J.go ?_); refine U.ret ?_; exact aR.one rfl aZ (dV (by exact (decide_eq_false (ab9 c1)).symm))
  refine U.skip (U.seq (U.seq (U.text ?_))); refine J.c (.assign rfl) ?_; refine J.go (U.block ?_); refine U.keep [(0, .v mL a), (1, .v mL b), (5, I ((0 : Nat) : Int))] ⟨rfl, rfl, rfl, trivial⟩ ?_; refine U.loop (I := fun kk ff ss => ∃ (j : Nat), kk = a.length - j /\ ff = [(0, .v mL a), (1, .v mL b), (5, I ((j : Nat) : Int))] /\ ss = [] /\ (j <= a.length) /\ (a.length = b.length) /\ (∀ k (h : k < a.length) (h2 : k < b.length), k < j -> a[k] = b[k])) ?_ _ _ _ ⟨0, rfl, rfl, rfl, Nat.zero_le _, (by omega), (by exact fun k _ _ h => absurd h (by omega))⟩; rintro kk ff ss ⟨j, kI, rfl, rfl, hj, hl, hi⟩; refine U.seq (U.seq (U.text ?_)); refine J.c (.move rfl) (J.c (.move rfl) ?_); refine J.r (.len eC) ?_; refine J.c (.lss) (J.go ?_); refine U.aM rfl (fun c4 => ?_) (fun c4 => ?_)
  . refine U.skip (U.seq (U.block (U.seq (U.drawn ?_)))); refine VD.c (.move rfl) (VD.c (.move rfl) (VD.c (.ix (j := j) rfl rfl eC (by omega)) ?_)); refine VD.r [] (.ld GP) (.inl rfl) ?_; refine VD.c (.move rfl) (VD.c (.move rfl) (VD.nw [] (VD.c (.ix (j := j) rfl rfl eC (by omega)) ?_))); refine VD.r [] (.ld GP) (.inl rfl) ?_; refine VD.c (.aoI ap3) (VD.go ?_); refine U.aM rfl (fun c6 => ?_) (fun c6 => ?_)
    . refine U.seq (U.text ?_); refine J.c (.assign rfl) (J.go ?_); refine U.ret ?_; exact aR.one rfl aZ (dV (by exact (decide_eq_false (fun h => c6 (List.getElem_of_eq h _))).symm))
    refine U.skip (U.text ?_); refine J.c (.move rfl) (J.c (.add rfl rfl (by omega)) (J.c (.assign rfl) ?_)); refine J.nil ?_; refine ⟨_, [(0, .v mL a), (1, .v mL b), (5, I (((j + 1) : Nat) : Int))], ?_, ⟨rfl, rfl, rfl, trivial⟩, (j + 1), rfl, rfl, rfl, (by omega), (by omega), (by exact F8 hi c6)⟩; omega
  refine U.exit (U.seq (U.text ?_)); refine J.c (.assign rfl) (J.go ?_); refine U.ret ?_; exact aR.one rfl aZ (dV (by exact (decide_eq_true (List.ext_getElem hl (fun k h h2 => hi k h h2 (by omega)))).symm))
end Go.Proofs
namespace Go.Proofs
open Go.Fs
set_option maxHeartbeats 2000000
theorem N2 : oG Tryz.prog 26 bT := kS (z := .agg #[.slice none 0 0, .slice none 0 0, .slice none 0 0]) (by kernel_rfl) rfl rfl
theorem akG : wZ Tryz.prog 54 tL [(0, 1), (1, 1)] := pC T3 rfl (by kernel_rfl)
theorem aeK : wZ Tryz.prog 56 tM [(0, 1), (1, 1), (2, 1)] := pC aeB rfl (by kernel_rfl)
def BH (a b : dG) : Bool := decide (a.1 = b.1) && (decide (a.2.1 = b.2.1) && decide (a.2.2 = b.2.2))
theorem jE {a b : dG} (h : a = b) : BH a b = true := by
  subst h; unfold BH; rw [decide_eq_true rfl, decide_eq_true rfl, decide_eq_true rfl] <;> rfl
theorem abA {a b : dG} (h : BH a b = true) : a = b := by
  unfold BH at h; rw [Bool.and_eq_true, Bool.and_eq_true, decide_eq_true_eq, decide_eq_true_eq, decide_eq_true_eq] at h; exact Prod.ext h.1 (Prod.ext h.2.1 h.2.2)
theorem k8 {a b : dG} (h : ¬ a = b) : BH a b = false := by
  cases hs : BH a b with
  | false => rfl
  | true => exact absurd (abA hs) h
theorem ajA {x y : Bool} (h : (x != y) = false) : x = y := by
  cases x <;> cases y <;> first | rfl | cases h
theorem K7 {x y : Bool} (h : (x != y) = true) : x ≠ y := fun e => by
  subst e; cases x <;> cases h
theorem aeL {a b : dG} (h : (a.1 = b.1 /\ ¬ ((a.2.1.length : Nat) : Int) ≠ ((b.2.1.length : Nat) : Int)) /\ ¬ ((a.2.2.length : Nat) : Int) ≠ ((b.2.2.length : Nat) : Int)) : a.1 = b.1 /\ a.2.1.length = b.2.1.length /\ a.2.2.length = b.2.2.length := ⟨h.1.1, by omega, by omega⟩
theorem aeM {a b : dG} (h : (¬ a.1 = b.1 \/ ((a.2.1.length : Nat) : Int) ≠ ((b.2.1.length : Nat) : Int)) \/ ((a.2.2.length : Nat) : Int) ≠ ((b.2.2.length : Nat) : Int)) : ¬ a = b := fun e => by
  subst e; rcases h with (h | h) | h <;> exact h rfl
theorem D6 {a b : dG} {j : Nat} {ha : j < a.2.1.length} {hb : j < b.2.1.length} (h : a.2.1[j].1 ≠ b.2.1[j].1 \/ a.2.1[j].2 ≠ b.2.1[j].2) : ¬ a = b := fun e => by
  subst e; rcases h with h | h <;> exact h rfl
theorem rY {a b : dG} {j : Nat} {ha : j < a.2.2.length} {hb : j < b.2.2.length} (h : a.2.2[j].1 ≠ b.2.2[j].1 \/ a.2.2[j].2.1 ≠ b.2.2[j].2.1 \/ a.2.2[j].2.2 ≠ b.2.2[j].2.2) : ¬ a = b := fun e => by
  subst e; rcases h with h | h | h <;> exact h rfl
theorem aeN {a b : List vD} {j : Nat} {ha : j < a.length} {hb : j < b.length} (hi : ∀ k (h : k < a.length) (h2 : k < b.length), k < j -> a[k] = b[k]) (e1 : ¬ a[j].1 ≠ b[j].1) (e2 : a[j].2 = b[j].2) : ∀ k (h : k < a.length) (h2 : k < b.length), k < j + 1 -> a[k] = b[k] :=
  F8 (ha := ha) (hb := hb) hi fun h => h (Prod.ext (Classical.not_not.1 e1) e2)
theorem ajB {a b : List D3} {j : Nat} {ha : j < a.length} {hb : j < b.length} (hi : ∀ k (h : k < a.length) (h2 : k < b.length), k < j -> a[k] = b[k]) (e1 : ¬ a[j].1 ≠ b[j].1) (e2 : ¬ a[j].2.1 ≠ b[j].2.1) (e3 : a[j].2.2 = b[j].2.2) : ∀ k (h : k < a.length) (h2 : k < b.length), k < j + 1 -> a[k] = b[k] :=
  F8 (ha := ha) (hb := hb) hi fun h => h (Prod.ext (Classical.not_not.1 e1) (Prod.ext (Classical.not_not.1 e2) e3))
theorem abB {a b : dG} (h1 : a.1 = b.1) (h2 : a.2.1.length = b.2.1.length) (h3 : a.2.2.length = b.2.2.length) (hi : ∀ k (h : k < a.2.1.length) (h2 : k < b.2.1.length), a.2.1[k] = b.2.1[k]) (hj : ∀ k (h : k < a.2.2.length) (h2 : k < b.2.2.length), a.2.2[k] = b.2.2[k]) : a = b :=
  Prod.ext h1 (Prod.ext (List.ext_getElem h2 hi) (List.ext_getElem h3 hj))
theorem WW {a : (List (ByteArray × Int)) × (List (ByteArray × (List (ByteArray × Int)))) × (List (ByteArray × Bool × (List ByteArray)))} {b : (List (ByteArray × Int)) × (List (ByteArray × (List (ByteArray × Int)))) × (List (ByteArray × Bool × (List ByteArray)))} (ha : qC a) (hb : qC b) : VF Tryz.prog OA 13 [.v bT a, .v bT b] (B (BH a b)) := by
  refine VF.enter Tryz.func13 rfl (fun _ _ => rfl) rfl ?_; show U _ _ _ _ _ [(0, .v bT a), (1, .v bT b)] [] _; refine U.seq (U.text ?_); have hav := ha.v; have hae := ha.e; have hal := ha.l; have hbv := hb.v; have hbe := hb.e; have H7 := hb.l; refine J.new (.box) ?_; refine J.new (.box) ?_; refine J.c (.assign rfl) ?_; refine J.go (U.seq (U.seq (U.text ?_))); refine J.c (.fa (.l .o)) ?_; refine J.r (.ld gX) ?_; refine J.c (.fa (.l .o)) ?_; refine J.r (.ld gX) ?_; refine J.call rfl rfl (VF.call (K6 (by first | assumption | omega | simp) (by first | assumption | omega | simp))) ?_; refine J.c (.not) (J.c (.move rfl) ?_); refine J.cg (r := (!(decide (a.1 = b.1)))) (w := false) [] trivial (fun _ => (.fa (.r (.l .o)))) ?_; refine J.rg (r := (!(decide (a.1 = b.1)))) (w := false) [(14, .p A1 a.2.1)] ⟨rfl, trivial⟩ (fun _ => (.ld jD)) ?_; refine J.rg (r := (!(decide (a.1 = b.1)))) (w := false) [(15, .v A1 a.2.1)] ⟨rfl, trivial⟩ (fun _ => (.len iD)) ?_; refine J.cg (r := (!(decide (a.1 = b.1)))) (w := false) [] trivial (fun _ => (.fa (.r (.l .o)))) ?_; refine J.rg (r := (!(decide (a.1 = b.1)))) (w := false) [(17, .p A1 b.2.1)] ⟨rfl, trivial⟩ (fun _ => (.ld jD)) ?_; refine J.rg (r := (!(decide (a.1 = b.1)))) (w := false) [(18, .v A1 b.2.1)] ⟨rfl, trivial⟩ (fun _ => (.len iD)) ?_; refine J.cg (r := (!(decide (a.1 = b.1)))) (w := false) [(16, I ((a.2.1.length : Nat) : Int)), (19, I ((b.2.1.length : Nat) : Int))] ⟨rfl, rfl, trivial⟩ (fun _ => (.neq)) ?_; refine J.c (.or) (J.c (.move rfl) ?_); refine J.cg (r := ((!(decide (a.1 = b.1))) || (decide (((a.2.1.length : Nat) : Int) ≠ ((b.2.1.length : Nat) : Int))))) (w := false) [] trivial (fun _ => (.fa (.r (.r (k := 0) .o)))) ?_; refine J.rg (r := ((!(decide (a.1 = b.1))) || (decide (((a.2.1.length : Nat) : Int) ≠ ((b.2.1.length : Nat) : Int))))) (w := false) [(23, .p sU a.2.2)] ⟨rfl, trivial⟩ (fun _ => (.ld gM)) ?_; refine J.rg (r := ((!(decide (a.1 = b.1))) || (decide (((a.2.1.length : Nat) : Int) ≠ ((b.2.1.length : Nat) : Int))))) (w := false) [(24, .v sU a.2.2)] ⟨rfl, trivial⟩ (fun _ => (.len fJ)) ?_; refine J.cg (r := ((!(decide (a.1 = b.1))) || (decide (((a.2.1.length : Nat) : Int) ≠ ((b.2.1.length : Nat) : Int))))) (w := false) [] trivial (fun _ => (.fa (.r (.r (k := 0) .o)))) ?_; refine J.rg (r := ((!(decide (a.1 = b.1))) || (decide (((a.2.1.length : Nat) : Int) ≠ ((b.2.1.length : Nat) : Int))))) (w := false) [(26, .p sU b.2.2)] ⟨rfl, trivial⟩ (fun _ => (.ld gM)) ?_; refine J.rg (r := ((!(decide (a.1 = b.1))) || (decide (((a.2.1.length : Nat) : Int) ≠ ((b.2.1.length : Nat) : Int))))) (w := false) [(27, .v sU b.2.2)] ⟨rfl, trivial⟩ (fun _ => (.len fJ)) ?_; refine J.cg (r := ((!(decide (a.1 = b.1))) || (decide (((a.2.1.length : Nat) : Int) ≠ ((b.2.1.length : Nat) : Int))))) (w := false) [(25, I ((a.2.2.length : Nat) : Int)), (28, I ((b.2.2.length : Nat) : Int))] ⟨rfl, rfl, trivial⟩ (fun _ => (.neq)) ?_; refine J.c (.or) (J.go ?_); refine U.fO rfl (fun c1 => ?_) (fun c1 => ?_)
  . try simp only [Bool.and_eq_true, Bool.or_eq_true, Bool.and_eq_false_iff, Bool.or_eq_false_iff, Bool.not_eq_true', Bool.not_eq_false', decide_eq_true_eq, decide_eq_false_iff_not] at c1
    refine U.seq (U.text ?_); refine J.c (.assign rfl) (J.go ?_); refine U.ret ?_; exact aR.one rfl aZ (dV (by exact (k8 (aeM c1)).symm))
  try simp only [Bool.and_eq_true, Bool.or_eq_true, Bool.and_eq_false_iff, Bool.or_eq_false_iff, Bool.not_eq_true', Bool.not_eq_false', decide_eq_true_eq, decide_eq_false_iff_not] at c1
  refine U.skip (U.seq (U.seq (U.text ?_))); refine J.c (.assign rfl) ?_; refine J.go (U.block ?_); refine U.keep [(2, .p bT a), (3, .p bT b), (5, I ((0 : Nat) : Int))] ⟨rfl, rfl, rfl, trivial⟩ ?_; refine U.loop (I := fun kk ff ss => ∃ (j : Nat), kk = a.2.1.length - j /\ ff = [(2, .p bT a), (3, .p bT b), (5, I ((j : Nat) : Int))] /\ ss = [] /\ (j <= a.2.1.length) /\ (a.1 = b.1 /\ a.2.1.length = b.2.1.length /\ a.2.2.length = b.2.2.length) /\ (∀ k (h : k < a.2.1.length) (h2 : k < b.2.1.length), k < j -> a.2.1[k] = b.2.1[k])) ?_ _ _ _ ⟨0, rfl, rfl, rfl, Nat.zero_le _, (by exact aeL c1), (by exact fun k _ _ h => absurd h (by omega))⟩; rintro kk ff ss ⟨j, kI, rfl, rfl, hj, hl, hi⟩; refine U.seq (U.seq (U.text ?_)); refine J.c (.move rfl) (J.c (.fa (.r (.l .o))) ?_); refine J.r (.ld jD) ?_; refine J.r (.len iD) ?_; refine J.c (.lss) (J.go ?_); refine U.aM rfl (fun c4 => ?_) (fun c4 => ?_)
  . have hwa := ha.w _ (List.getElem_mem (show j < a.2.1.length by omega)); have hwb := hb.w _ (List.getElem_mem (show j < b.2.1.length by omega)); refine U.skip (U.seq (U.block (U.seq (U.drawn ?_)))); refine VD.c (.fa (.r (.l .o))) ?_; refine VD.r [] (.ld jD) (.inl rfl) ?_; refine VD.c (.move rfl) (VD.c (.ix (j := j) rfl rfl iD (by omega)) (VD.c (.fa (.l .o)) ?_)); refine VD.r [] (.ld cJ) (.inl rfl) ?_; refine VD.nw [] (VD.c (.fa (.r (.l .o))) ?_); refine VD.r [] (.ld jD) (.inl rfl) ?_; refine VD.c (.move rfl) (VD.c (.ix (j := j) rfl rfl iD (by omega)) (VD.c (.fa (.l .o)) ?_)); refine VD.r [] (.ld cJ) (.inl rfl) ?_; refine VD.c (.MN) (VD.nw [] (VD.c (.move rfl) ?_)); refine VD.iW (x := 51) rfl (fun PS => ?_) (fun PS => ?_)
    . refine VD.skip (VD.skip (VD.skip (VD.skip ?_))); refine VD.skip (VD.nw [] (VD.skip (VD.skip ?_))); refine VD.skip (VD.skip (VD.skip (VD.skip ?_))); refine VD.skip (VD.nw [] (VD.skip (VD.skip ?_))); refine VD.c (.bS rfl rfl) (VD.go ?_); refine U.jJ rfl ?_; refine U.seq ?_; refine U.keep [(2, .p bT a), (3, .p bT b), (5, I ((j : Nat) : Int))] ⟨rfl, rfl, rfl, trivial⟩ ?_; refine U.text ?_; refine J.c (.assign rfl) (J.go ?_); refine U.ret ?_; exact aR.one rfl aZ (dV (by first | exact (k8 (D6 (.inl PS))).symm | exact (k8 (D6 (.inr c6))).symm))
    refine VD.c (.fa (.r (.l .o))) ?_; refine VD.r [] (.ld jD) (.inl rfl) ?_; refine VD.c (.move rfl) (VD.c (.ix (j := j) rfl rfl iD (by omega)) (VD.c (.fa (.r .o)) (VD.nw [] ?_))); refine VD.r [] (.ld gX) (.inl rfl) ?_; refine VD.c (.fa (.r (.l .o))) ?_; refine VD.r [] (.ld jD) (.inl rfl) ?_; refine VD.c (.move rfl) (VD.c (.ix (j := j) rfl rfl iD (by omega)) (VD.c (.fa (.r .o)) ?_)); refine VD.r [] (.ld gX) (.inl rfl) ?_; refine VD.nw [] ?_; refine VD.call rfl rfl (VF.call (K6 (by first | assumption | omega | simp) (by first | assumption | omega | simp))) ?_; refine VD.c (.not) (VD.c (.aU rfl rfl) (VD.go ?_)); refine U.fO rfl (fun c6 => ?_) (fun c6 => ?_)
    . try simp only [Bool.and_eq_true, Bool.or_eq_true, Bool.and_eq_false_iff, Bool.or_eq_false_iff, Bool.not_eq_true', Bool.not_eq_false', decide_eq_true_eq, decide_eq_false_iff_not] at c6
      refine U.seq ?_; refine U.keep [(2, .p bT a), (3, .p bT b), (5, I ((j : Nat) : Int))] ⟨rfl, rfl, rfl, trivial⟩ ?_; refine U.text ?_; refine J.c (.assign rfl) (J.go ?_); refine U.ret ?_; exact aR.one rfl aZ (dV (by first | exact (k8 (D6 (.inl PS))).symm | exact (k8 (D6 (.inr c6))).symm))
    try simp only [Bool.and_eq_true, Bool.or_eq_true, Bool.and_eq_false_iff, Bool.or_eq_false_iff, Bool.not_eq_true', Bool.not_eq_false', decide_eq_true_eq, decide_eq_false_iff_not] at c6
    refine U.skip ?_; refine U.keep [(2, .p bT a), (3, .p bT b), (5, I ((j : Nat) : Int))] ⟨rfl, rfl, rfl, trivial⟩ ?_; refine U.text ?_; refine J.c (.move rfl) (J.c (.add rfl rfl (by omega)) (J.c (.assign rfl) ?_)); refine J.nil ?_; refine ⟨_, [(2, .p bT a), (3, .p bT b), (5, I (((j + 1) : Nat) : Int))], ?_, ⟨rfl, rfl, rfl, trivial⟩, (j + 1), rfl, rfl, rfl, (by omega), (by exact hl), (by exact aeN hi PS c6)⟩; omega
  refine U.exit (U.seq (U.seq (U.text ?_))); refine J.c (.assign rfl) ?_; refine J.go (U.block ?_); refine U.keep [(2, .p bT a), (3, .p bT b), (6, I ((0 : Nat) : Int))] ⟨rfl, rfl, rfl, trivial⟩ ?_; refine U.loop (I := fun kk ff ss => ∃ (m : Nat), kk = a.2.2.length - m /\ ff = [(2, .p bT a), (3, .p bT b), (6, I ((m : Nat) : Int))] /\ ss = [] /\ (m <= a.2.2.length) /\ (∀ k (h : k < a.2.2.length) (h2 : k < b.2.2.length), k < m -> a.2.2[k] = b.2.2[k])) ?_ _ _ _ ⟨0, rfl, rfl, rfl, Nat.zero_le _, (by exact fun k _ _ h => absurd h (by omega))⟩; rintro kk ff ss ⟨m, uF, rfl, rfl, hm, hn⟩; refine U.seq (U.seq (U.text ?_)); refine J.c (.move rfl) (J.c (.fa (.r (.r .o))) ?_); refine J.r (.ld gM) ?_; refine J.r (.len fJ) ?_; refine J.c (.lss) (J.go ?_); refine U.aM rfl (fun c9 => ?_) (fun c9 => ?_)
  . have hua := ha.u _ (List.getElem_mem (show m < a.2.2.length by omega)); have hub := hb.u _ (List.getElem_mem (show m < b.2.2.length by omega)); refine U.skip (U.seq (U.block (U.seq (U.drawn ?_)))); refine VD.c (.fa (.r (.r .o))) ?_; refine VD.r [] (.ld gM) (.inl rfl) ?_; refine VD.c (.move rfl) (VD.c (.ix (j := m) rfl rfl fJ (by omega)) (VD.c (.fa (.l .o)) ?_)); refine VD.r [] (.ld cJ) (.inl rfl) ?_; refine VD.nw [] (VD.c (.fa (.r (.r .o))) ?_); refine VD.r [] (.ld gM) (.inl rfl) ?_; refine VD.c (.move rfl) (VD.c (.ix (j := m) rfl rfl fJ (by omega)) (VD.c (.fa (.l .o)) ?_)); refine VD.r [] (.ld cJ) (.inl rfl) ?_; refine VD.c (.MN) (VD.nw [] (VD.c (.move rfl) ?_)); refine VD.iW (x := 87) rfl (fun D7 => ?_) (fun D7 => ?_)
    . refine VD.skip (VD.skip (VD.skip (VD.skip ?_))); refine VD.skip (VD.nw [] (VD.skip (VD.skip ?_))); refine VD.skip (VD.skip (VD.skip (VD.skip ?_))); refine VD.skip (VD.nw [] (VD.skip (VD.c (.bS rfl rfl) ?_))); refine VD.c (.move rfl) (VD.skip (VD.skip (VD.skip ?_))); refine VD.skip (VD.nw [] (VD.skip (VD.skip ?_))); refine VD.skip (VD.skip (VD.skip (VD.skip ?_))); refine VD.skip (VD.nw [] (VD.skip (VD.skip ?_))); refine VD.skip (VD.c (.bS rfl rfl) (VD.go ?_)); refine U.jJ rfl ?_; refine U.seq ?_; refine U.keep [(2, .p bT a), (3, .p bT b), (6, I ((m : Nat) : Int))] ⟨rfl, rfl, rfl, trivial⟩ ?_; refine U.text ?_; refine J.c (.assign rfl) (J.go ?_); refine U.ret ?_; exact aR.one rfl aZ (dV (by first | exact (k8 (rY (.inl D7))).symm | exact (k8 (rY (.inr (.inl (K7 wN))))).symm | exact (k8 (rY (.inr (.inr rL)))).symm))
    refine VD.c (.fa (.r (.r .o))) ?_; refine VD.r [] (.ld gM) (.inl rfl) ?_; refine VD.c (.move rfl) (VD.c (.ix (j := m) rfl rfl fJ (by omega)) (VD.c (.fa (.r (.l .o))) (VD.nw [] ?_))); refine VD.r [] (.ld BE) (.inl rfl) ?_; refine VD.c (.fa (.r (.r .o))) ?_; refine VD.r [] (.ld gM) (.inl rfl) ?_; refine VD.c (.move rfl) (VD.c (.ix (j := m) rfl rfl fJ (by omega)) (VD.c (.fa (.r (.l .o))) ?_)); refine VD.r [] (.ld BE) (.inl rfl) ?_; refine VD.nw [] (VD.c (.aoY) (VD.c (.aU rfl rfl) (VD.c (.move rfl) ?_))); refine VD.splitB (x := 102) rfl (fun wN => ?_) (fun wN => ?_)
    . try simp only [Bool.and_eq_true, Bool.or_eq_true, Bool.and_eq_false_iff, Bool.or_eq_false_iff, Bool.not_eq_true', Bool.not_eq_false', decide_eq_true_eq, decide_eq_false_iff_not] at wN
      refine VD.skip (VD.skip (VD.skip (VD.nw [] ?_))); refine VD.skip (VD.skip (VD.skip (VD.skip ?_))); refine VD.skip (VD.skip (VD.skip (VD.nw [] ?_))); refine VD.skip (VD.skip (VD.skip (VD.skip ?_))); refine VD.c (.bS rfl rfl) (VD.go ?_); refine U.jJ rfl ?_; refine U.seq ?_; refine U.keep [(2, .p bT a), (3, .p bT b), (6, I ((m : Nat) : Int))] ⟨rfl, rfl, rfl, trivial⟩ ?_; refine U.text ?_; refine J.c (.assign rfl) (J.go ?_); refine U.ret ?_; exact aR.one rfl aZ (dV (by first | exact (k8 (rY (.inl D7))).symm | exact (k8 (rY (.inr (.inl (K7 wN))))).symm | exact (k8 (rY (.inr (.inr rL)))).symm))
    try simp only [Bool.and_eq_true, Bool.or_eq_true, Bool.and_eq_false_iff, Bool.or_eq_false_iff, Bool.not_eq_true', Bool.not_eq_false', decide_eq_true_eq, decide_eq_false_iff_not] at wN
    refine VD.c (.fa (.r (.r .o))) ?_; refine VD.r [] (.ld gM) (.inl rfl) ?_; refine VD.c (.move rfl) (VD.nw [] (VD.c (.ix (j := m) rfl rfl fJ (by omega)) (VD.c (.fa (.r (.r .o))) ?_))); refine VD.r [] (.ld gL) (.inl rfl) ?_; refine VD.c (.fa (.r (.r .o))) ?_; refine VD.r [] (.ld gM) (.inl rfl) ?_; refine VD.c (.move rfl) (VD.c (.ix (j := m) rfl rfl fJ (by omega)) (VD.nw [] (VD.c (.fa (.r (.r .o))) ?_))); refine VD.r [] (.ld gL) (.inl rfl) ?_; refine VD.call rfl rfl (VF.call (ab8 (by first | assumption | omega | simp) (by first | assumption | omega | simp))) ?_; refine VD.c (.not) (VD.c (.aU rfl rfl) (VD.go ?_)); refine U.fO rfl (fun rL => ?_) (fun rL => ?_)
    . try simp only [Bool.and_eq_true, Bool.or_eq_true, Bool.and_eq_false_iff, Bool.or_eq_false_iff, Bool.not_eq_true', Bool.not_eq_false', decide_eq_true_eq, decide_eq_false_iff_not] at rL
      refine U.seq ?_; refine U.keep [(2, .p bT a), (3, .p bT b), (6, I ((m : Nat) : Int))] ⟨rfl, rfl, rfl, trivial⟩ ?_; refine U.text ?_; refine J.c (.assign rfl) (J.go ?_); refine U.ret ?_; exact aR.one rfl aZ (dV (by first | exact (k8 (rY (.inl D7))).symm | exact (k8 (rY (.inr (.inl (K7 wN))))).symm | exact (k8 (rY (.inr (.inr rL)))).symm))
    try simp only [Bool.and_eq_true, Bool.or_eq_true, Bool.and_eq_false_iff, Bool.or_eq_false_iff, Bool.not_eq_true', Bool.not_eq_false', decide_eq_true_eq, decide_eq_false_iff_not] at rL
    refine U.skip ?_; refine U.keep [(2, .p bT a), (3, .p bT b), (6, I ((m : Nat) : Int))] ⟨rfl, rfl, rfl, trivial⟩ ?_; refine U.text ?_; refine J.c (.move rfl) (J.c (.add rfl rfl (by omega)) (J.c (.assign rfl) ?_)); refine J.nil ?_; refine ⟨_, [(2, .p bT a), (3, .p bT b), (6, I (((m + 1) : Nat) : Int))], ?_, ⟨rfl, rfl, rfl, trivial⟩, (m + 1), rfl, rfl, rfl, (by omega), (by exact ajB hn D7 (fun h => h (ajA wN)) rL)⟩; omega
  refine U.exit (U.seq (U.text ?_)); refine J.c (.assign rfl) (J.go ?_); refine U.ret ?_; exact aR.one rfl aZ (dV (by exact (jE (abB hl.1 hl.2.1 hl.2.2 (fun k h h2 => hi k h h2 (by omega)) (fun k h h2 => hn k h h2 (by omega)))).symm))
theorem abC {c : (List (ByteArray × Int)) × (List (ByteArray × (List (ByteArray × Int)))) × (List (ByteArray × Bool × (List ByteArray)))} (hc : qC c) : VF Tryz.prog OA 14 [.v kF c] (.v bT c) := by
  refine VF.enter Tryz.func14 rfl (fun _ _ => rfl) rfl ?_; show U _ _ _ _ _ [(0, .v kF c)] [] _; refine U.seq (U.text ?_); have hcv := hc.v; have hce := hc.e; have rQ := hc.l; refine J.new (.box) ?_; refine J.cell (.zK (zs := [cK, cK, cK]) N2) ?_; intro dE; refine J.go (U.seq (U.text ?_)); refine J.cell (.zK (zs := [cK, cK, cK]) N2) ?_; intro kJ; refine J.go (U.seq (U.seq (U.text ?_))); refine J.c (.fa (.l .o)) ?_; refine J.r (.ld sV) ?_; refine J.r (.len l4) ?_; refine J.c (.move rfl) ?_; refine J.go (U.block ?_); refine U.cell0 52 rX ?_; refine U.keep [(1, .p kF c), (2, .raw dE), (3, .raw kJ), (14, .v pQ c.1), (15, I ((c.1.length : Nat) : Int)), (16, I ((0 : Nat) : Int))] ⟨rfl, rfl, rfl, rfl, rfl, rfl, trivial⟩ ?_; refine U.loop (I := fun kk ff ss => ∃ (i : Nat) (w0 : Value), kk = c.1.length - i /\ ff = [(1, .p kF c), (2, .raw dE), (3, .raw kJ), (14, .v pQ c.1), (15, I ((c.1.length : Nat) : Int)), (16, I ((i : Nat) : Int))] /\ ss = [(w0, .row 52 rX (c.1.take i)), (kJ, .var [.raw w0, cK, cK]), (dE, .var [cK, cK, cK])] /\ (i <= c.1.length)) ?_ _ _ _ ⟨0, (.slice none 0 0), rfl, rfl, rfl, Nat.zero_le _⟩; rintro kk ff ss ⟨i, w0, kI, rfl, rfl, hi⟩; refine U.seq (U.text ?_); refine J.c (.lss) ?_; refine J.go (U.seq ?_); refine U.aM rfl (fun c3 => ?_) (fun c3 => ?_)
  . refine U.skip (U.seq (U.block (U.seq (U.text ?_)))); refine J.c (.ix (j := i) rfl rfl l4 (by omega)) ?_; refine J.r (.ld n9) ?_; refine J.cell (.alloc AH) ?_; intro ww3; refine J.eQ (cs' := [St ((c.1[i]).1), I ((c.1[i]).2)]) n9 .v ?_; refine J.shut [(5, .p o5 (c.1[i]))] (.cons rfl (.var m0 .refl) .nil) ?_; refine J.go (U.text ?_); refine J.c (.eL (k := 0) m1) ?_; refine J.r (.jK (k := 0) m1 gX) ?_; refine J.r (.ld n9) ?_; refine J.new (.lit [c.1[i]] eC) ?_; refine J.app rfl rfl eC eC (by simp; omega) ?_; intro ww4; refine J.c (.eL (k := 0) m1) ?_; refine J.perm cW ?_; refine J.one m1 fun ho5 => ?_; refine J.fP (cs' := [.raw ww4, cK, cK]) 0 gX (.raw rfl (fE ho5) ho5) ?_; refine J.nil (U.text ?_); refine J.c (.add rfl rfl (by omega)) (J.c (.move rfl) ?_); refine J.perm dF ?_; refine J.perm cW ?_; refine J.perm dF ?_; refine J.nil ?_; refine ⟨_, [(1, .p kF c), (2, .raw dE), (3, .raw kJ), (14, .v pQ c.1), (15, I ((c.1.length : Nat) : Int)), (16, I (((i + 1) : Nat) : Int))], ?_, ⟨rfl, rfl, rfl, rfl, rfl, rfl, trivial⟩, (i + 1), ww4, rfl, rfl, (by rw [List.take_succ_eq_append_getElem (by omega)] <;> rfl), (by omega)⟩; omega
  refine U.exit (U.seq (U.seq (U.text ?_))); refine J.c (.fa (.r (.l .o))) ?_; refine J.r (.ld AI) ?_; refine J.r (.len sZ) ?_; refine J.c (.move rfl) ?_; refine J.go (U.block ?_); refine U.cell0 54 tL ?_; refine U.keep [(1, .p kF c), (2, .raw dE), (3, .raw kJ), (28, .v xB c.2.1), (29, I ((c.2.1.length : Nat) : Int)), (30, I ((0 : Nat) : Int))] ⟨rfl, rfl, rfl, rfl, rfl, rfl, trivial⟩ ?_; refine U.loop (I := fun kk ff ss => ∃ (j : Nat) (w1 : Value), kk = c.2.1.length - j /\ ff = [(1, .p kF c), (2, .raw dE), (3, .raw kJ), (28, .v xB c.2.1), (29, I ((c.2.1.length : Nat) : Int)), (30, I ((j : Nat) : Int))] /\ ss = [(w1, .row 54 tL (c.2.1.take j)), (w0, .row 52 rX (c.1.take i)), (kJ, .var [.raw w0, .raw w1, cK]), (dE, .var [cK, cK, cK])] /\ (j <= c.2.1.length)) ?_ _ _ _ ⟨0, (.slice none 0 0), rfl, rfl, rfl, Nat.zero_le _⟩; rintro kk ff ss ⟨j, w1, uF, rfl, rfl, hj⟩; refine U.seq (U.text ?_); refine J.c (.lss) ?_; refine J.go (U.seq ?_); refine U.aM rfl (fun c8 => ?_) (fun c8 => ?_)
  . have WQ := hc.w _ (List.getElem_mem (show j < c.2.1.length by omega)); refine U.skip (U.seq (U.block (U.seq (U.text ?_)))); refine J.c (.ix (j := j) rfl rfl sZ (by omega)) ?_; refine J.r (.ld uL) ?_; refine J.cell (.alloc F6) ?_; intro ww6; refine J.eQ (cs' := [St ((c.2.1[j]).1), .v pQ ((c.2.1[j]).2)]) uL .v ?_; refine J.shut [(7, .p pR (c.2.1[j]))] (.cons rfl (.var m0 .refl) .nil) ?_; refine J.go (U.seq (U.text ?_)); refine J.c (.fa (.l .o)) ?_; refine J.r (.ld cJ) ?_; refine J.c (.D0 (cs := [St ((c.2.1[j]).1), cK]) akG rfl) ?_; refine J.cell (.alloc T3) ?_; intro K4; refine J.eQ (cs' := [St ((c.2.1[j]).1), cK]) GN (.GB rfl rfl) ?_; refine J.go (U.seq (U.seq (U.text ?_))); refine J.c (.fa (.r .o)) ?_; refine J.r (.ld sV) ?_; refine J.r (.len l4) ?_; refine J.c (.move rfl) ?_; refine J.go (U.block ?_); refine U.cell0 52 rX ?_; refine U.keep [(1, .p kF c), (2, .raw dE), (3, .raw kJ), (8, .raw K4), (28, .v xB c.2.1), (29, I ((c.2.1.length : Nat) : Int)), (30, I ((j : Nat) : Int)), (38, .v pQ ((c.2.1[j]).2)), (39, I ((((c.2.1[j]).2).length : Nat) : Int)), (40, I ((0 : Nat) : Int))] ⟨rfl, rfl, rfl, rfl, rfl, rfl, rfl, rfl, rfl, rfl, trivial⟩ ?_; refine U.loop (I := fun kk ff ss => ∃ (k : Nat) (w2 : Value), kk = (c.2.1[j]).2.length - k /\ ff = [(1, .p kF c), (2, .raw dE), (3, .raw kJ), (8, .raw K4), (28, .v xB c.2.1), (29, I ((c.2.1.length : Nat) : Int)), (30, I ((j : Nat) : Int)), (38, .v pQ ((c.2.1[j]).2)), (39, I ((((c.2.1[j]).2).length : Nat) : Int)), (40, I ((k : Nat) : Int))] /\ ss = [(w2, .row 52 rX ((c.2.1[j]).2.take k)), (K4, .var [St ((c.2.1[j]).1), .raw w2]), (w1, .row 54 tL (c.2.1.take j)), (w0, .row 52 rX (c.1.take i)), (kJ, .var [.raw w0, .raw w1, cK]), (dE, .var [cK, cK, cK])] /\ (k <= (c.2.1[j]).2.length)) ?_ _ _ _ ⟨0, (.slice none 0 0), rfl, rfl, rfl, (by omega)⟩; rintro kk ff ss ⟨k, w2, hk4, rfl, rfl, hk⟩; refine U.seq (U.text ?_); refine J.c (.lss) ?_; refine J.go (U.seq ?_); refine U.aM rfl (fun LQ => ?_) (fun LQ => ?_)
    . refine U.skip (U.seq (U.block (U.seq (U.text ?_)))); refine J.c (.ix (j := k) rfl rfl l4 (by omega)) ?_; refine J.r (.ld n9) ?_; refine J.cell (.alloc AH) ?_; intro ww8; refine J.eQ (cs' := [St ((((c.2.1[j]).2)[k]).1), I ((((c.2.1[j]).2)[k]).2)]) n9 .v ?_; refine J.shut [(10, .p o5 (((c.2.1[j]).2)[k]))] (.cons rfl (.var m0 .refl) .nil) ?_; refine J.go (U.text ?_); refine J.c (.eL (k := 1) m1) ?_; refine J.r (.jK (k := 1) m1 gX) ?_; refine J.r (.ld n9) ?_; refine J.new (.lit [((c.2.1[j]).2)[k]] eC) ?_; refine J.app rfl rfl eC eC (by simp; omega) ?_; intro ww9; refine J.c (.eL (k := 1) m1) ?_; refine J.perm cW ?_; refine J.one m1 fun TA => ?_; refine J.fP (cs' := [St ((c.2.1[j]).1), .raw ww9]) 1 gX (.raw rfl (fE TA) TA) ?_; refine J.nil (U.text ?_); refine J.c (.add rfl rfl (by omega)) (J.c (.move rfl) ?_); refine J.perm uM ?_; refine J.perm uM ?_; refine J.perm uM ?_; refine J.perm uM ?_; refine J.perm tA ?_; refine J.perm uM ?_; refine J.nil ?_; refine ⟨_, [(1, .p kF c), (2, .raw dE), (3, .raw kJ), (8, .raw K4), (28, .v xB c.2.1), (29, I ((c.2.1.length : Nat) : Int)), (30, I ((j : Nat) : Int)), (38, .v pQ ((c.2.1[j]).2)), (39, I ((((c.2.1[j]).2).length : Nat) : Int)), (40, I (((k + 1) : Nat) : Int))], ?_, ⟨rfl, rfl, rfl, rfl, rfl, rfl, rfl, rfl, rfl, rfl, trivial⟩, (k + 1), ww9, rfl, rfl, (by rw [List.take_succ_eq_append_getElem (by omega)] <;> rfl), (by omega)⟩; omega
    refine U.exit ?_; refine U.perm cW ?_; refine U.perm cW ?_; refine U.wK [(w2, .row 52 rX ((c.2.1[j]).2.take k)), (K4, .var [St ((c.2.1[j]).1), .raw w2])] [(8, .p tL ((c.2.1[j]).1, ((c.2.1[j]).2.take k)))] rfl (.cons rfl (.var m1 (.cons .same (.cons (.row m0) .nil))) .nil) ?_; refine U.text ?_; refine J.c (.eL (k := 1) m2) ?_; refine J.r (.jK (k := 1) m2 jD) ?_; refine J.r (.ld GN) ?_; refine J.new (.lit [((c.2.1[j]).1, ((c.2.1[j]).2.take k))] iD) ?_; refine J.app rfl rfl iD iD (by simp; omega) ?_; intro TB; refine J.c (.eL (k := 1) m2) ?_; refine J.perm dF ?_; refine J.one m1 fun TC => ?_; refine J.fP (cs' := [.raw w0, .raw TB, cK]) 1 jD (.raw rfl (fE TC) TC) ?_; refine J.nil (U.text ?_); refine J.c (.add rfl rfl (by omega)) (J.c (.move rfl) ?_); refine J.perm lX ?_; refine J.perm cW ?_; refine J.perm lX ?_; refine J.perm lX ?_; refine J.nil ?_; refine ⟨_, [(1, .p kF c), (2, .raw dE), (3, .raw kJ), (28, .v xB c.2.1), (29, I ((c.2.1.length : Nat) : Int)), (30, I (((j + 1) : Nat) : Int))], ?_, ⟨rfl, rfl, rfl, rfl, rfl, rfl, trivial⟩, (j + 1), TB, rfl, rfl, (by rw [List.take_succ_eq_append_getElem (by omega), List.take_of_length_le (i := k) (by omega)] <;> rfl), (by omega)⟩; omega
  refine U.exit (U.seq (U.seq (U.text ?_))); refine J.c (.fa (.r (.r .o))) ?_; refine J.r (.ld x4) ?_; refine J.r (.len r3) ?_; refine J.c (.move rfl) ?_; refine J.go (U.block ?_); refine U.cell0 56 tM ?_; refine U.keep [(2, .raw dE), (3, .raw kJ), (59, .v F2 c.2.2), (60, I ((c.2.2.length : Nat) : Int)), (61, I ((0 : Nat) : Int))] ⟨rfl, rfl, rfl, rfl, rfl, trivial⟩ ?_; refine U.loop (I := fun kk ff ss => ∃ (m : Nat) (w3 : Value), kk = c.2.2.length - m /\ ff = [(2, .raw dE), (3, .raw kJ), (59, .v F2 c.2.2), (60, I ((c.2.2.length : Nat) : Int)), (61, I ((m : Nat) : Int))] /\ ss = [(w3, .row 56 tM (c.2.2.take m)), (w1, .row 54 tL (c.2.1.take j)), (w0, .row 52 rX (c.1.take i)), (kJ, .var [.raw w0, .raw w1, .raw w3]), (dE, .var [cK, cK, cK])] /\ (m <= c.2.2.length)) ?_ _ _ _ ⟨0, (.slice none 0 0), rfl, rfl, rfl, Nat.zero_le _⟩; rintro kk ff ss ⟨m, w3, hk6, rfl, rfl, hm⟩; refine U.seq (U.text ?_); refine J.c (.lss) ?_; refine J.go (U.seq ?_); refine U.aM rfl (fun BF => ?_) (fun BF => ?_)
  . refine U.skip (U.seq (U.block (U.seq (U.text ?_)))); refine J.c (.ix (j := m) rfl rfl r3 (by omega)) ?_; refine J.r (.ld yC) ?_; refine J.cell (.alloc K3) ?_; intro aoZ; refine J.eQ (cs' := [St ((c.2.2[m]).1), B ((c.2.2[m]).2.1), .v (.sl .str) ((c.2.2[m]).2.2)]) yC .v ?_; refine J.shut [(12, .p rO (c.2.2[m]))] (.cons rfl (.var m0 .refl) .nil) ?_; refine J.go (U.drawn ?_); refine VD.co (.eL (k := 2) m3) ?_; refine VD.r [(w3, .row 56 tM (c.2.2.take m)), (w1, .row 54 tL (c.2.1.take j)), (w0, .row 52 rX (c.1.take i)), (kJ, .var [.raw w0, .raw w1, .raw w3]), (dE, .var [cK, cK, cK])] (.jK (k := 2) m3 gM) (.inr ⟨rfl, rfl⟩) ?_; refine VD.c (.fa (.l .o)) ?_; refine VD.r [] (.ld cJ) (.inl rfl) ?_; refine VD.c (.fa (.r (.l .o))) ?_; refine VD.r [] (.ld BE) (.inl rfl) ?_; refine VD.nw [] (VD.c (.fa (.r (.r .o))) ?_); refine VD.r [] (.ld gL) (.inl rfl) ?_; refine VD.call rfl rfl (VF.call (JZ (by have := hc.u _ (List.getElem_mem (show m < c.2.2.length by omega)); omega))) ?_; refine VD.c (.build ((c.2.2[m]).1, (c.2.2[m]).2.1, ((c.2.2[m]).2.2)) aeK) ?_; refine VD.new (.lit [((c.2.2[m]).1, (c.2.2[m]).2.1, ((c.2.2[m]).2.2))] fJ) ?_; refine VD.mk (bF.app fJ fJ rfl rfl (by simp; omega)) ?_; rintro _ _ ap0 ⟨aeG, rfl, rfl⟩; refine VD.co (.eL (k := 2) m3) ?_; refine VD.perm lX ?_; refine VD.one m1 fun TD => ?_; refine VD.oN (bF.fP (k := 2) gM (.raw rfl (fE TD) TD) (Nat.le_of_ble_eq_true rfl) (.inl rfl) rfl rfl) ?_; rintro _ _ ap1 ⟨rfl, rfl⟩; refine VD.nil ?_; refine U.text ?_; refine J.c (.add rfl rfl (by omega)) (J.c (.move rfl) ?_); refine J.perm tA ?_; refine J.perm cW ?_; refine J.perm tA ?_; refine J.perm tA ?_; refine J.perm tA ?_; refine J.nil ?_; refine ⟨_, [(2, .raw dE), (3, .raw kJ), (59, .v F2 c.2.2), (60, I ((c.2.2.length : Nat) : Int)), (61, I (((m + 1) : Nat) : Int))], ?_, ⟨rfl, rfl, rfl, rfl, rfl, trivial⟩, (m + 1), aeG, rfl, rfl, (by rw [List.take_succ_eq_append_getElem (by omega)] <;> rfl), (by omega)⟩; omega
  refine U.exit (U.seq ?_); refine U.perm lX ?_; refine U.perm cW ?_; refine U.perm dF ?_; refine U.perm lX ?_; refine U.wK [(w0, .row 52 rX (c.1.take i)), (w1, .row 54 tL (c.2.1.take j)), (w3, .row 56 tM (c.2.2.take m)), (kJ, .var [.raw w0, .raw w1, .raw w3])] [(3, .p bT ((c.1.take i), (c.2.1.take j), (c.2.2.take m)))] rfl (.cons rfl (.var m3 (.cons (.row m0) (.cons (.row m1) (.cons (.row m2) .nil)))) .nil) ?_; refine U.text ?_; refine J.r (.ld l5) ?_; refine J.eQ (cs' := [.v mL (c.1.take i), .v A1 (c.2.1.take j), .v sU (c.2.2.take m)]) l5 .v ?_; refine J.go ?_; refine U.ret ?_; exact aR.one rfl (.cell (x := ((c.1.take i), (c.2.1.take j), (c.2.2.take m))) rfl m0 l5 .refl) (dV (by rw [List.take_of_length_le (by omega), List.take_of_length_le (by omega), List.take_of_length_le (by omega)]))
end Go.Proofs
namespace Go.Fs
variable {P : Program} {orc : FuncId -> List Value -> Heap -> Option (Value × Heap)} {aV : Option Nat} {h h' h0 h1 h2 hs : Heap} {S S' S0 B G : List Nat} {σ aJ : aG} {t t' : Tr} {ms : List Nat} {fl : VL} {ops : Array Oper} {n i mem : Nat} {l : List Oper} {K : VL -> aG -> Prop} {Q : Ex -> VL -> aG -> Prop}
  {d d1 d2 : Tmp} {ty ty1 ty2 : TypeId} {pos aqH aqI : String} {after apR apS : Array Edge} {op : Op} {v v1 : PV} {g g1 g2 : Option (Nat × Bool)} {bs nw : List Nat} {segs : List (Nat × Nat × Nat)} {tail so : Bool}
section
variable (P orc)
end
end Go.Fs
namespace Go.Fs
variable {P : Program} {orc : FuncId -> List Value -> Heap -> Option (Value × Heap)} {aV : Option Nat} {h h' h0 h1 h2 : Heap} {S S' S0 B G : List Nat} {σ aJ : aG} {t t' : Tr} {ms : List Nat} {fl : VL} {ops : Array Oper} {n i mem : Nat} {l : List Oper} {K : VL -> aG -> Prop} {Q : Ex -> VL -> aG -> Prop}
  {d : Tmp} {ty : TypeId} {pos : String} {after : Array Edge} {op : Op} {v pv : PV} {g : Option (Nat × Bool)} {bs nw : List Nat} {segs : List (Nat × Nat × Nat)} {so : Bool}
end Go.Fs
namespace Go.Fs
variable {P : Program} {orc : FuncId -> List Value -> Heap -> Option (Value × Heap)} {aV : Option Nat} {h h' h0 h1 h2 : Heap} {S S' S0 B G : List Nat} {σ aJ kR : aG} {t t' : Tr} {ms : List Nat} {fl : VL} {ops : Array Oper} {n i mem : Nat} {l : List Oper} {K : VL -> aG -> Prop} {Q : Ex -> VL -> aG -> Prop}
  {d : Tmp} {ty : TypeId} {pos : String} {after : Array Edge} {op : Op} {v pv : PV} {g : Option (Nat × Bool)} {x y z : Operand} {T T' e e' : TypeId} {τ eP : Ty} {w w' : Value} {c c' : Cell}
end Go.Fs
namespace Go.Fs
variable {P : Program} {orc : FuncId -> List Value -> Heap -> Option (Value × Heap)} {aV : Option Nat} {h h' h0 h1 h2 : Heap} {S S' S0 B G : List Nat} {σ aJ kR : aG} {t t' : Tr} {ms : List Nat} {fl : VL} {ops : Array Oper} {n i mem : Nat} {l : List Oper} {K : VL -> aG -> Prop} {Q : Ex -> VL -> aG -> Prop}
  {d : Tmp} {ty : TypeId} {pos : String} {after : Array Edge} {op : Op} {v pv : PV} {g : Option (Nat × Bool)} {x y z : Operand} {T T' e : TypeId} {τ eP : Ty} {bs nw : List Nat} {segs : List (Nat × Nat × Nat)} {tail so : Bool} {w w' : Value} {c c' : Cell}
end Go.Fs
namespace Go.Fs
variable {P : Program} {orc : FuncId -> List Value -> Heap -> Option (Value × Heap)} {aV : Option Nat} {h h' h0 h1 h2 : Heap} {S S' S0 G : List Nat} {σ aJ kR γ gD : aG} {t t' : Tr} {ms : List Nat} {fl nw : VL} {ops : Array Oper} {n i mem : Nat} {l : List Oper} {K : VL -> aG -> Prop} {Q : Ex -> VL -> aG -> Prop}
  {d : Tmp} {ty : TypeId} {pos : String} {after : Array Edge} {op : Op} {v pv : PV} {g : Option (Nat × Bool)} {bs nw0 : List Nat} {tail so : Bool} {x y z : Operand} {T T' e : TypeId} {τ eP : Ty} {w w' : Value}
end Go.Fs
namespace Go.Fs
variable {P : Program} {orc : FuncId -> List Value -> Heap -> Option (Value × Heap)} {aV : Option Nat} {h h' h0 h1 h2 : Heap} {S S' S0 G : List Nat} {σ aJ kR γ gD : aG} {t t' : Tr} {ms : List Nat} {fl nw : VL} {ops : Array Oper} {n i mem : Nat} {l : List Oper} {K : VL -> aG -> Prop} {Q : Ex -> VL -> aG -> Prop}
  {d : Tmp} {ty : TypeId} {pos : String} {after : Array Edge} {op : Op} {v pv : PV} {g : Option (Nat × Bool)} {bs nw0 : List Nat} {tail so : Bool} {x y z : Operand} {T T' e : TypeId} {τ eP : Ty} {w w' : Value}
theorem dN.PT {cs : List PV} (hm : (w, Cell.var cs) ∈ σ) (hT : fN P T τ) (hl : cs.length = τ.size := by rfl) (ha : τ.agg = true := by rfl) (hx : b9 fl x = some (.raw w) := by rfl) : dN P fl σ (.load T x) (.agg cs) :=
  ⟨rfl, fun h S t hs y4 => by
    have h1 : aB t x = w := hs x (by simp [Op.operands]) _ hx; obtain ⟨b, e, vs, h3, h4, h5, h6, _⟩ := y4 _ hm; refine ⟨.agg vs.toArray, ⟨vs, rfl, h6⟩, fun H hH _ _ _ _ _ => ?_⟩; have hB : tT H 0 w vs := ⟨b, e, h3, Nat.zero_le _, hH b _ h5⟩; show (eO P T (aB t x) H).map _ = _
    rw [h1, hB.ldA hT ha (by rw [h6.len, hl])]; rfl⟩
end Go.Fs
namespace Go.Fs
variable {P : Program} {orc : FuncId -> List Value -> Heap -> Option (Value × Heap)} {aV : Option Nat} {h h' h0 h1 h2 : Heap} {S S' S0 S1 S2 B G : List Nat} {σ aJ kR γ : aG} {t t' : Tr} {ms : List Nat} {fl : VL} {ops : Array Oper} {n i mem : Nat} {l : List Oper} {K : VL -> aG -> Prop} {Q : Ex -> VL -> aG -> Prop}
  {d : Tmp} {ty : TypeId} {pos : String} {after : Array Edge} {op : Op} {v pv : PV} {g : Option (Nat × Bool)} {x y z : Operand} {T T' e e' e2 : TypeId} {τ eP : Ty} {w w' : Value} {c c' : Cell}
theorem N3 : ∀ {us : List Value}, b6 h S (us.map .raw) us
  | [] => rfl
  | u :: us => ⟨u, us, rfl, rfl, N3⟩
theorem D8 : ∀ {us rs : List Value}, b6 h S (us.map .raw) rs -> rs = us
  | [], rs, hr => hr
  | u :: us, rs, ⟨v, r, h1, h2, h3⟩ => by
    subst h1; rw [show v = u from h2, D8 h3]
end Go.Fs
namespace Go.Fs
variable {P : Program} {orc : FuncId -> List Value -> Heap -> Option (Value × Heap)} {aV : Option Nat} {h h' h0 h1 h2 : Heap} {S S' S0 S1 S2 B G : List Nat} {σ aJ kR γ : aG} {t t' : Tr} {ms : List Nat} {fl : VL} {ops : Array Oper} {n i mem : Nat} {l : List Oper} {K : VL -> aG -> Prop} {Q : Ex -> VL -> aG -> Prop}
  {d : Tmp} {ty : TypeId} {pos : String} {after : Array Edge} {op : Op} {v pv : PV} {g : Option (Nat × Bool)} {x y z : Operand} {T T' e e' e2 : TypeId} {τ eP : Ty} {w w' a u : Value} {c c' : Cell} {b : Nat}
def aW (s : ByteArray) : List Int := s.data.toList.map fun c => ((c.toNat : Nat) : Int)
theorem j5 (s : ByteArray) : (aW s).length = s.size := by
  show (s.data.toList.map _).length = s.data.size; simp
theorem TH (s r : ByteArray) : aW (s ++ r) = aW s ++ aW r := by
  unfold aW; rw [ByteArray.data_append, Array.toList_append, List.map_append]
def u3 (s : ByteArray) : List Value := (aW s).map (.int .u8)
theorem TI (s : ByteArray) : (u3 s).length = s.size := by rw [u3, List.length_map, j5]
theorem F9 {rs : List Value} {xs : List Int} (he : cV h S (.int .u8) rs xs) : rs = xs.map (.int .u8) := by
  have h1 := he.1; simp only [Ty.size, Nat.mul_one] at h1; refine List.ext_getElem (by simpa using h1) fun i h2 h3 => ?_; rw [List.getElem_map]
  have hi : i < xs.length := by simpa using h3
  have h4 := he.2 i hi; have h4 : (rs.drop (i * 1)).take 1 = [.int .u8 xs[i]] := h4; rw [Nat.mul_one, List.drop_eq_getElem_cons h2] at h4; exact List.cons.inj h4 |>.1
theorem N4 {xs : List Int} : cV h S (.int .u8) (xs.map (.int .u8)) xs := ⟨by simp [Ty.size], fun i hi => by
  show ((xs.map (Value.int .u8)).drop (i * 1)).take 1 = [.int .u8 xs[i]]; rw [Nat.mul_one, List.drop_eq_getElem_cons (by simpa using hi)]
  simp⟩
theorem GQ : ∀ l : List UInt8, l9 (l.map fun c => Value.int .u8 ((c.toNat : Nat) : Int)) = some l
  | [] => rfl
  | c :: r => by
    show (bif Nat.blt c.toNat 256 then (l9 _).map (UInt8.ofNat c.toNat :: ·) else none) = _
    have h1 : Nat.blt c.toNat 256 = true := by
      show Nat.ble (c.toNat + 1) 256 = true; rw [Nat.ble_eq]; exact c.toNat_lt
    rw [h1, GQ r]; simp
theorem N5 (s : ByteArray) : l9 (u3 s) = some s.data.toList := by
  rw [u3, aW, List.map_map]; exact GQ _
abbrev bP (b : Nat) : Value := .pointer (some ⟨b, 0, none⟩)
abbrev bW (b : Nat) : Value := .slice (some ⟨b, 0, none⟩) 0 0
theorem tB (hc : bA h S (bW b) (.eE T 0 [.raw a, .raw u])) : b ∈ S /\ h.get b = some (.row T [a, u] true false) /\ aT a = true /\ aT u = true := by
  rcases hc with ⟨h1, _⟩ | ⟨b', rs, m, h1, h2, h3, h4, h5, h6⟩
  . cases h1
  have h1 : bW b = .slice (some ⟨b', 0, none⟩) 0 0 := h1
  have hb : b = b' := by injection h1 with h1; injection h1 with h1; injection h1
  subst hb; obtain rfl : rs = [a, u] := D8 (us := [a, u]) h4; obtain rfl := h6 rfl; simp at h5; exact ⟨h2, h3, h5.1, h5.2⟩
theorem D9 (hb : b ∈ S) (hg : h.get b = some (.row T [a, u] true false)) (ha : aT a = true) (hu : aT u = true) : bA h S (bW b) (.eE T 0 [.raw a, .raw u]) :=
  .inr ⟨b, [a, u], false, rfl, hb, hg, N3 (us := [a, u]), by simp [ha, hu], fun _ => rfl⟩
theorem bF.ajC (hz : (P.info? T).bind (·.zero) = some (.agg #[.pointer none, .slice none 0 0])) : bF P fl σ (.alloc T) fun v aJ => ∃ b, v = .raw (bP b) /\ aJ = (bW b, .eE T 0 [.raw (.pointer none), .raw (.slice none 0 0)]) :: σ :=
  ⟨rfl, fun S0 h t L => by
    refine ⟨_, h.push (.row T [.pointer none, .slice none 0 0] true false), .raw (bP h.next), _, ⟨_, rfl, rfl⟩, Made.cons L (cD.push h _ _) (fun b hb => by simp [cI] at hb; omega) (by simp [cI]) fun hN => ?_, rfl, fun _ _ _ _ _ => ?_⟩
    . exact D9 (List.mem_append_left _ (by rw [bZ]; simp [cI])) (by rw [Heap.bE, if_pos rfl]) rfl rfl
    show (match (P.info? T).bind (·.zero) with | some z => if af z then pT T z h else none | none => none) = _; rw [hz]
    rfl⟩
theorem aK.TJ {p : Addr} (hx : b9 fl x = some (.raw (.pointer (some p))) := by rfl) : aK P fl σ (.nilCheck x) (.raw (.pointer (some p))) :=
  ⟨rfl, fun h S t hs hc => by
    have h1 : aB t x = .pointer (some p) := hs x (by simp [Op.operands]) _ hx; refine ⟨_, rfl, fun _ _ _ _ _ H => ?_⟩; show (match aB t x with | .pointer (some a) => some (Value.pointer (some a), H) | .func (.func f) a b => some (.func (.func f) a b, H) | _ => none) = _
    rw [h1]⟩
theorem aK.faB {s : TypeId} {f k : Nat} (hm : (bW b, Cell.eE T 0 [.raw a, .raw u]) ∈ σ) (hb : JD P s f k = true := by kernel_rfl) (hx : b9 fl x = some (.raw (bP b)) := by rfl) : aK P fl σ (.fieldAddr s x f) (.raw (nO (bP b) k)) :=
  ⟨rfl, fun h S t hs hc => by
    have h1 : aB t x = bP b := hs x (by simp [Op.operands]) _ hx; obtain ⟨_, h5, _⟩ := tB (hc _ hm); have hB : tT h 0 (bP b) [a, u] := ⟨b, T, rfl, Nat.zero_le _, h5⟩; refine ⟨_, rfl, fun _ _ _ _ _ H => ?_⟩; show (aC P (Instr.fieldAt s (aB t x) f)).map _ = _
    rw [h1, hB.fa hb]; rfl⟩
theorem dN.ldB (hm : (bW b, Cell.eE T 0 [.raw a, .raw u]) ∈ σ) (hT : fN P T' τ) (ha : τ.agg = false := by rfl) (hx : b9 fl x = some (.raw (nO (bP b) 1)) := by rfl) : dN P fl σ (.load T' x) (.raw u) :=
  ⟨rfl, fun h S t hs hc => by
    have h1 : aB t x = nO (bP b) 1 := hs x (by simp [Op.operands]) _ hx; obtain ⟨_, h5, _⟩ := tB (hc _ hm); refine ⟨u, rfl, fun H hH _ _ _ _ _ => ?_⟩; have hB : tT H 0 (bP b) [a, u] := ⟨b, T, rfl, Nat.zero_le _, hH b _ h5⟩; show (eO P T' (aB t x) H).map _ = _
    rw [h1, hB.ld1 hT ha (u := u) (by rfl)]; rfl⟩
theorem bF.stB {u' : Value} (hT : fN P T' (.sl τ)) (hx : b9 fl x = some (.raw (nO (bP b) 1))) (hy : b9 fl y = some (.raw u')) (ho : aT u' = true) :
    bF P fl ((bW b, .eE T 0 [.raw a, .raw u]) :: σ) (.store T' x y) fun v aJ => v = .raw undef /\ aJ = (bW b, .eE T 0 [.raw a, .raw u']) :: σ :=
  ⟨rfl, fun S0 h t L => by
    have h1 : aB t x = nO (bP b) 1 := dP L.aH hx; have h2 : aB t y = u' := dP L.aH hy; obtain ⟨g1, g2, g3, g4⟩ := tB (L.cells _ List.mem_cons_self); obtain ⟨i, hi, hs⟩ := hT.info; have hs : i.size = 1 := hs
    have S9 : u'.cells.toList = [u'] := by rw [eJ (fE ho)]
    refine ⟨undef, h.set b (.row T [a, u'] true false), .raw undef, _, ⟨rfl, rfl⟩, Made.head L (cD.set g2 (by simp [cI])) (fun b hb => .inl hb) (by simp [cI]) fun hN => ?_, rfl, fun _ _ _ _ _ => ?_⟩
    . exact D9 (List.mem_append_left _ (by rw [bZ]; simp [cI])) (by rw [Heap.dB g2, if_pos rfl]) g3 ho
    show (jR P T' (aB t x) (aB t y) h).map _ = _
    have : jR P T' (aB t x) (aB t y) h = some (h.set b (.row T [a, u'] true false)) := by
      rw [h1, h2]; simp only [jR, nO, g2, hi, hs, S9]; rw [if_pos ⟨rfl, by show 0 + 1 + 1 <= 2; omega, by simp [ho]⟩]; rfl
    rw [this]; rfl⟩
theorem AJ {i : TypeInfo} {z : Value} {s : ByteArray} {xd : TypeDesc} (hi : isInt xd = false) : j7 i z (isInt xd) (.string s) h = some (s.size, u3 s) := by
  rw [hi]; show (match wR (.string s) with | some m => (cellsOf i.size m (.string s) h).map fun cs => (m, cs) | none => none) = _; simp only [wR, cellsOf, Option.map_some]; congr 2; rw [show s.extract 0 s.size = s from ByteArray.extract_zero_size]; simp [u3, aW, Array.toList_map, List.map_map]
theorem WX (hT : kB P T e τ) {xd : TypeDesc} (EX : P.underlying T' = some xd) {u : Value} {news : List Value} {xs ys : List τ.den} (bD : mU h) (hg : bA h S w (.row e τ xs)) 
    (nE : ∀ i z, i.size = τ.size -> z.cells.toList.all eN = true -> j7 i z (isInt xd) u h = some (ys.length, news)) (hy : cV h S τ news ys) (kI : 0 < ys.length) (cX : xs.length + ys.length <= 1000000) :
    ∃ h' rs, fQ P #[T, T'] w u h = some (.slice (some ⟨h.next, 0, none⟩) (xs.length + ys.length) 0, h') /\ cD h h' (cI w) /\ h'.get h.next = some (.row e rs true true) /\ (∀ S', cH h S h' S' -> cV h' S' τ rs (xs ++ ys)) := by
  obtain ⟨i, z, CV, q9, SD, CW, LI, PE, W4⟩ := hT.sl.info; have mG : news.all aT = true := hy.p8; have AT : news.length = ys.length * τ.size := hy.1
  have wF : (xs.length + ys.length) * i.bytes <= 274877906944 := by
    have := Nat.mul_le_mul cX CW; omega
  unfold fQ; simp only [List.getElem?_toArray, List.getElem?_cons_zero, List.getElem?_cons_succ, hT.sl.sl, EX, CV, LI, nE i z q9 W4, q9]
  have hc : (Nat.blt 0 τ.size && Nat.blt 0 i.bytes && Nat.beq news.length (ys.length * τ.size) && news.all aT && Nat.beq z.cells.size τ.size) = true := by
    have e1 : Nat.blt 0 τ.size = true := by show Nat.ble 1 τ.size = true; rw [Nat.ble_eq]; exact hT.sl.pos
    have e2 : Nat.blt 0 i.bytes = true := by show Nat.ble 1 i.bytes = true; rw [Nat.ble_eq]; exact SD
    rw [e1, e2, AT, Nat.beq_refl, mG, PE, Nat.beq_refl]; rfl
  rw [hc]; simp only [cond_true]; have e0 : Nat.beq ys.length 0 = false := fG (by omega); rcases hg with ⟨rfl, rfl⟩ | ⟨b0, rs, m, rfl, jI, n8, wG⟩
  . refine ⟨h.push (.row e news true true), news, ?_, cD.push h _ _, by rw [Heap.bE, if_pos rfl], fun S' hN => by rw [List.nil_append]; exact hy.nx hN⟩; unfold mN
    have e2 : Nat.ble (ys.length * i.bytes) 274877906944 = true := by rw [Nat.ble_eq]; simpa using wF
    simp only [e0, cond_false, e2, cond_true, grown, List.length_nil, Nat.zero_add]
  have LH := wG.1; have zV : 0 < ys.length * τ.size := Nat.mul_pos kI hT.sl.pos; have acS : (xs.length + ys.length) * τ.size = xs.length * τ.size + ys.length * τ.size := Nat.add_mul _ _ _
  have e1 : (Nat.beq ys.length 0 && Nat.beq 0 1) = false := by rw [e0]; rfl
  have e2 : Nat.beq e e = true := Nat.beq_refl _
  have e3 : Nat.ble ((xs.length + ys.length) * i.bytes) 274877906944 = true := by rw [Nat.ble_eq]; exact wF
  have e4 : Nat.ble (0 + xs.length * i.size) rs.length = true := by rw [Nat.ble_eq, q9]; omega
  have e5 : Nat.ble (0 + (xs.length + ys.length) * i.size) rs.length = false := by
    cases hx : Nat.ble (0 + (xs.length + ys.length) * i.size) rs.length with
    | false => rfl
    | true => have := dY hx; rw [q9] at this; omega
  have e6 : Nat.beq (xs.length * i.size) rs.length = true := by rw [q9, LH]; exact Nat.beq_refl _
  have e7 : Nat.beq 0 1 = false := rfl; have e8 : Nat.beq 0 0 = true := rfl; have ak2 := bD b0 _ n8; have rJ : cI (.slice (some ⟨b0, 0, none⟩) xs.length 0) = [b0] := rfl
  cases m with
  | true =>
    refine ⟨(h.drop b0).push (.row e (rs ++ news) true true), rs ++ news, ?_, (cD.drop (B := cI _) (by rw [rJ]; simp)).trans (cD.push (h.drop b0) _ []) (fun i hi => by cases hi), ?_, fun S' hN => (wG.append hy).nx hN⟩
    . unfold mN; simp only [n8, e1, cond_false, e2, e3, e4, Bool.and_self, cond_true, e7, e8, e5, Bool.not_true, e6, grown, Bool.true_and, Bool.and_false]; rfl
    have : (h.drop b0).next = h.next := rfl
    rw [Heap.bE, if_pos this.symm]
  | false =>
    refine ⟨h.push (.row e (rs ++ news) true true), rs ++ news, ?_, cD.push h _ _, by rw [Heap.bE, if_pos rfl], fun S' hN => (wG.append hy).nx hN⟩; unfold mN
    have e9 : (rs.drop 0).take (xs.length * i.size) = rs := by rw [List.drop_zero, q9, <- LH, List.take_length]
    simp only [n8, e1, cond_false, e2, e3, e4, Bool.and_self, cond_true, e7, e8, e5, Bool.not_false, grown, Bool.true_and, Bool.and_false, e9]
theorem bF.ap4 {acc s : ByteArray} (hT : kB P T e (.int .u8)) (EX : P.underlying T' = some .string) (hx : b9 fl x = some (.raw w)) (hy : b9 fl y = some (.v .str s)) (cX : acc.size + s.size <= 1000000) (hn : acc.size = 0 -> w = .slice none 0 0) :
    bF P fl ((w, .row e (.int .u8) (aW acc)) :: σ) (.call { callee := .builtin .append, args := #[x, y], argTypes := #[T, T'] }) fun v aJ => ∃ w', (v = .raw w' /\ aJ = (w', .row e (.int .u8) (aW (acc ++ s))) :: σ) /\ ((acc ++ s).size = 0 -> w' = .slice none 0 0) :=
  ⟨rfl, fun S0 h t L => by
    have h1 : aB t x = w := dP L.aH hx; have h2 : aB t y = .string s := aF.str (dP L.aH hy : aF h _ .str (aB t y) s); have hc := L.cells _ List.mem_cons_self
    have cC : ∀ u h', fQ P #[T, T'] w (.string s) h = some (u, h') -> ∀ (d : Option Tmp) (ty : TypeId) (pos : String) (after : Array Edge) (g : Option (Nat × Bool)), iI P ⟨d, .call { callee := .builtin .append, args := #[x, y], argTypes := #[T, T'] }, ty, pos, after, g⟩ (aB t) h = some (u, h') := fun u h' e _ _ _ _ _ => by
      show fQ P #[T, T'] (aB t x) (aB t y) h = _; rw [h1, h2, e]
    have hal := j5 acc; have zX := j5 s; by_cases hp : 0 < s.size
    . obtain ⟨h', P7, e1, e2, e3, e4⟩ := WX hT EX L.ok hc (u := .string s) (news := u3 s) (ys := aW s) (fun i z _ _ => by rw [zX]; exact AJ rfl) N4 (by omega) (by omega); refine ⟨_, h', .raw (.slice (some ⟨h.next, 0, none⟩) ((aW acc).length + (aW s).length) 0), _, ⟨_, ⟨rfl, rfl⟩, fun hz => ?_⟩, Made.head L e2 (fun b hb => .inr (by simp [cI] at hb; omega)) (by simp [cI]) fun hN => ?_, rfl, cC _ _ e1⟩
      . rw [ByteArray.size_append] at hz; omega
      rw [TH]; exact .inr ⟨h.next, P7, true, by rw [List.length_append], List.mem_append_left _ (by rw [bZ]; simp [cI]), e3, e4 _ hN⟩
    have yD : s.size = 0 := by omega
    have hse : acc ++ s = acc := by
      have : aW s = [] := List.eq_nil_of_length_eq_zero (by omega); apply ByteArray.ext; rw [ByteArray.data_append]; have h9 : s.data = #[] := Array.eq_empty_of_size_eq_zero yD; rw [h9, Array.append_empty]
    refine ⟨w, h, .raw w, _, ⟨w, ⟨rfl, rfl⟩, fun hz => hn (by rw [hse] at hz; exact hz)⟩, ?_, rfl, cC _ _ ?_⟩
    . rw [hse]; exact Made.same L (cD.refl _ _)
    obtain ⟨i, z, CV, q9, SD, CW, LI, PE, W4⟩ := hT.sl.info; have q9 : i.size = 1 := q9
    have nE : j7 i z (isInt .string) (.string s) h = some (0, []) := by
      have := AJ (i := i) (z := z) (h := h) (s := s) (xd := .string) rfl; rw [this, yD]; have h8 : u3 s = [] := List.eq_nil_of_length_eq_zero (by rw [TI]; exact yD); rw [h8]
    unfold fQ; simp only [List.getElem?_toArray, List.getElem?_cons_zero, List.getElem?_cons_succ, hT.sl.sl, EX, CV, LI, nE, q9]
    have mS : (Nat.blt 0 1 && Nat.blt 0 i.bytes && Nat.beq ([] : List Value).length (0 * 1) && ([] : List Value).all aT && Nat.beq z.cells.size 1) = true := by
      have e2 : Nat.blt 0 i.bytes = true := by show Nat.ble 1 i.bytes = true; rw [Nat.ble_eq]; exact SD
      rw [e2, show z.cells.size = 1 from PE]; rfl
    rw [mS]; simp only [cond_true]; rcases hc with ⟨kX, hx0⟩ | ⟨b0, rs, m, kX, jI, n8, wG⟩
    . have kX : w = .slice none 0 0 := kX; rw [kX]; rfl
    have kX : w = .slice (some ⟨b0, 0, none⟩) (aW acc).length 0 := kX; rw [kX]; have LH : rs.length = (aW acc).length * 1 := wG.1
    have e3 : Nat.ble (((aW acc).length + 0) * i.bytes) 274877906944 = true := by
      rw [Nat.ble_eq]; have := Nat.mul_le_mul (show (aW acc).length + 0 <= 1000000 by omega) CW; omega
    have e4 : Nat.ble (0 + (aW acc).length * 1) rs.length = true := by rw [Nat.ble_eq]; omega
    have e5 : Nat.ble (0 + ((aW acc).length + 0) * 1) rs.length = true := by rw [Nat.ble_eq]; omega
    unfold mN; simp only [n8, q9, e3, e4, e5, Nat.beq_refl, Bool.and_self, cond_true, show Nat.beq 0 1 = false from rfl, show Nat.beq 0 0 = true from rfl, Bool.and_false, cond_false, Nat.add_zero]; simp only [Nat.add_zero] at e3 e5; simp only [e3, e5, cond_true]
    rfl⟩
theorem fX.cop {O O2 : FuncId -> List Value -> Heap -> Option (Value × Heap)} {fc : FuncId} {tb : TypeId} (hE : ∀ us h, O2 fc us h = G6 fc tb O fc us h) (ha : a = .pointer none \/ a = bP b) :
    fX P O2 fc [.raw (bP b)] [(bW b, .eE tb 0 [.raw a, .raw u])] fun r gD => r = .mE [] /\ gD = [(bW b, .eE tb 0 [.raw (bP b), .raw u])] := fun h S us bD hS bO kP tV har => by
  obtain ⟨v, r, rfl, h1, h2⟩ := har; obtain rfl : r = [] := h2; obtain rfl : v = bP b := h1; obtain ⟨g1, g2, g3, g4⟩ := tB (bO _ List.mem_cons_self); have gb : b ∈ own [(bW b, Cell.eE tb 0 [.raw (bP b), .raw u])] ++ S := List.mem_append_left _ (by simp [own, cI]); rcases ha with rfl | rfl
  . have ho : G6 fc tb O fc [bP b] h = some (.tuple #[], h.set b (.row tb [bP b, u] true false)) := by
      simp only [G6, Nat.beq_refl, cond_true, g2]
    refine oS.vR ((hE _ _).trans ho) ⟨_, _, ⟨rfl, rfl⟩, ⟨cD.set g2 (by simp [own, cI]), fun b' w6 => .inl (by simpa [own, cI] using w6), by simp [own, cI], fun c hc => ?_⟩, ⟨[], rfl, rfl⟩⟩
    obtain rfl : c = _ := by simpa using hc
    exact D9 gb (by rw [Heap.dB g2, if_pos rfl]) rfl g4
  have ho : G6 fc tb O fc [bP b] h = some (.tuple #[], h) := by
    simp only [G6, Nat.beq_refl, cond_true, g2, Bool.and_self]
  refine oS.vR ((hE _ _).trans ho) ⟨_, _, ⟨rfl, rfl⟩, ⟨cD.refl _ _, fun b' w6 => .inl (by simpa [own, cI] using w6), by simp [own, cI], fun c hc => ?_⟩, ⟨[], rfl, rfl⟩⟩
  obtain rfl : c = _ := by simpa using hc
  exact D9 gb g2 rfl g4
def sdV : Value -> Value
  | .slice a _ _ => .pointer a
  | v => v
theorem dN.sd {acc : ByteArray} {T1 : TypeId} (hx : b9 fl x = some (.raw w)) (hm : (w, Cell.row e (.int .u8) (aW acc)) ∈ σ) (hn : acc.size = 0 -> w = .slice none 0 0) : dN P fl σ (.call { callee := .builtin .unsafeSliceData, args := #[x], argTypes := #[T1] }) (.raw (sdV w)) :=
  ⟨rfl, fun h S t hs hc => by
    have h1 : aB t x = w := hs x (by simp [Op.operands, Call.operands]) _ hx; refine ⟨sdV w, rfl, fun H hH _ _ _ _ _ => ?_⟩; show ((oR (aB t x)).map fun v => (v, H)) = _; rw [h1]; rcases hc _ hm with ⟨h3, _⟩ | ⟨b, rs, m, h3, _⟩
    . have h3 : w = .slice none 0 0 := h3; rw [h3]; rfl
    have h3 : w = .slice (some ⟨b, 0, none⟩) (aW acc).length 0 := h3
    have hz : acc.size ≠ 0 := fun hz => by rw [hn hz] at h3; cases h3
    have hb : Nat.beq (aW acc).length 0 = false := fG (by rw [j5]; exact hz); rw [h3]; simp only [oR, hb, cond_false]
    rfl⟩
theorem bF.ap5 {acc : ByteArray} {T1 T2 : TypeId} (hT : P.underlying T1 = some (.pointer e)) (nY : P.cellsOf e = 1) (hx : b9 fl x = some (.raw (sdV w))) (hy : b9 fl y = some (.v (.int .i64) ((acc.size : Nat) : Int))) (cX : acc.size <= 1000000) (hn : acc.size = 0 -> w = .slice none 0 0) :
    bF P fl ((w, .row e (.int .u8) (aW acc)) :: σ) (.call { callee := .builtin .unsafeString, args := #[x, y], argTypes := #[T1, T2] }) fun v aJ => v = .v .str acc /\ aJ = σ :=
  ⟨rfl, fun S0 h t L => by
    have h1 : aB t x = sdV w := dP L.aH hx; have h2 : aB t y = .int .i64 ((acc.size : Nat) : Int) := aF.int (dP L.aH hy); have nE := L.apart; rw [bZ] at nE; obtain ⟨CU, y7, sS⟩ := List.nodup_append.1 nE
    have aeO : ∀ {h' : Heap}, cD h h' (cI w) -> Made S0 h h' ((w, .row e (.int .u8) (aW acc)) :: σ) σ := fun {h'} ha => by
      have oL : cD h h' (own ((w, Cell.row e (.int .u8) (aW acc)) :: σ)) := ha.MH fun b hb => by rw [bZ]; exact List.mem_append_left _ hb
      have hN : cH h (own ((w, Cell.row e (.int .u8) (aW acc)) :: σ) ++ S0) h' (own σ ++ S0) := oL.goes L.ok (fun b hb => List.mem_append_left _ hb) fun b hb => by
        rcases List.mem_append.1 hb with hb | hb
        . exact .inl (List.mem_append_left _ (by rw [bZ]; exact List.mem_append_right _ hb))
        exact .inl (List.mem_append_right _ hb)
      refine ⟨oL, fun b hb => .inl (by rw [bZ]; exact List.mem_append_right _ hb), y7, fun c hc => ?_⟩; have x9 : ∀ b ∈ cI c.1, b ∈ own σ := fun b hb => List.mem_flatMap.2 ⟨c, hc, hb⟩; refine (L.cells c (List.mem_cons_of_mem _ hc)).keep (fun b hb => ?_) hN fun b hb => List.mem_append_left _ (x9 b hb); exact ha.get b (L.lt b (List.mem_append_left _ (by rw [bZ]; exact List.mem_append_right _ (x9 b hb)))) fun hm => sS b hm b (x9 b hb) rfl
    rcases L.cells _ List.mem_cons_self with ⟨h3, h4⟩ | ⟨b, rs, m, h3, h4, h5, h6⟩
    . have h3 : w = .slice none 0 0 := h3; have h4 : aW acc = [] := h4
      have hz : acc.size = 0 := by rw [<- j5, h4]; rfl
      have he : acc = ByteArray.empty := by
        apply ByteArray.ext; exact Array.eq_empty_of_size_eq_zero hz
      refine ⟨.string acc, h, .v .str acc, σ, ⟨rfl, rfl⟩, aeO (cD.refl _ _), aF.ofStr _, fun _ _ _ _ _ => ?_⟩; show iR P #[T1, T2] (aB t x) (aB t y) h = _; rw [h1, h2, h3, hz, he]; show iR P #[T1, T2] (.pointer none) (.int .i64 0) h = _; unfold iR; show (match P.underlying T1 with | some (.pointer _) => some (Value.string .empty, h) | _ => none) = _; rw [hT]
    have h3 : w = .slice (some ⟨b, 0, none⟩) (aW acc).length 0 := h3
    have hz : acc.size ≠ 0 := fun hz => by rw [hn hz] at h3; cases h3
    obtain ⟨q, hq⟩ : ∃ q, acc.size = q + 1 := ⟨acc.size - 1, by omega⟩; have hrs := F9 h6
    have rJ : cI w = [b] := by rw [h3]; rfl
    have VE : l9 (rs.take (q + 1)) = some acc.data.toList := by
      rw [hrs, List.take_of_length_le (by rw [List.length_map, j5]; omega)]; exact N5 acc
    refine ⟨.string acc, h.drop b, .v .str acc, σ, ⟨rfl, rfl⟩, aeO (cD.drop (by rw [rJ]; simp)), aF.ofStr _, fun _ _ _ _ _ => ?_⟩; show iR P #[T1, T2] (aB t x) (aB t y) h = _; rw [h1, h2, h3, hq]
    have e1 : Nat.ble (q + 1) rs.length = true := by rw [Nat.ble_eq, hrs, List.length_map, j5]; omega
    have e2 : Nat.ble q 1000000000 = true := by rw [Nat.ble_eq]; omega
    show iR P #[T1, T2] (.pointer (some ⟨b, 0, none⟩)) (.int .i64 (.ofNat (q + 1))) h = _
    simp only [iR, hT, h5, Nat.beq_refl, nY, e1, e2, Bool.and_self, cond_true, VE]⟩
def am1 (P : Program) (fn : Func) (γ : aG) (Q : PV -> aG -> Prop) : Ex -> VL -> aG -> Prop := fun e fl σ => e.goes = true /\ ∃ ps, AA P fl [] fn.results.toList ps /\ Q (GA ps) σ /\ ∀ (h h2 : Heap) (S : List Nat), (∀ c ∈ γ, bA h (own γ ++ S) c.1 c.2) -> (∀ c ∈ σ, bA h2 (own σ ++ S) c.1 c.2) -> (∀ b ∈ own γ, h2.get b = h.get b) -> (∀ b o, h.get b = some o -> h2.get b = some o) -> (∀ b ∈ own σ, b ∈ own γ) /\ ∀ c ∈ σ, bA h (own σ ++ S) c.1 c.2
theorem fX.DA {f : FuncId} {args : List PV} {fn : Func} {c : Code} {Q : PV -> aG -> Prop} (lB : P.funcs[f]? = some fn) (hc : fn.body = some c) (ho : ∀ us h, orc f us h = none) (hn : (Nat.blt 4000 fn.ntmps || Nat.blt fn.ntmps args.length) = false)
    (hb : U P orc none c fn.ntmps (q8 0 args) γ (am1 P fn γ Q)) : fX P orc f args γ Q := fun h S us bD hS bO kP tV ha => by
  have hl := ha.len
  have pO : Nat.blt 4000 fn.ntmps = false /\ Nat.blt fn.ntmps args.length = false := by simpa using hn
  have n3 := gR pO.1; have n4 := gR pO.2; have oL : b6 (entry h) (own γ ++ S) args us := b6.nx (h := h) (h' := entry h) (fun _ _ a b => ⟨a, b⟩) ha
  have I0 : Iv (entry h) (own γ) S (entry h) γ (iS .leaf 0 us) [] (q8 0 args) := {
    ok := bD
    s0 := hS.1
    gC := cD.refl _ _
    cells := fun c hc => (bO c hc).keep (fun _ _ => rfl) (fun _ _ a b => ⟨a, b⟩) fun b hb => List.mem_append_left _ (List.mem_flatMap.2 ⟨c, hc, hb⟩)
    new := fun b hb => ⟨.inl hb, tV b hb⟩
    apart := kP
    mark := fun d hd => by cases hd
    marks := List.nodup_nil
    aH := oF (hS.2.ent bO) oL (by omega) }
  refine oS.enter lB hc (ho us h) (by rw [hl]; exact hn) ((hb (entry h) (own γ) S _ (entry h) [] I0).mono fun e fr h1 hq => ?_); obtain ⟨_, eV, aJ, fM, he, ps, uK, hQ, hkd⟩ := hq; obtain ⟨h2, d1, d2, d3⟩ := sB fM.marks fun d hd => (fM.mark d hd).2
  have eW : ∀ b o, h1.get b = some o -> o ≠ .iX -> h2.get b = some o := fun b o hg cL => by
    rw [d3 b (fun hm => cL (by have := (fM.mark b hm).2; rw [hg] at this; exact Option.some.inj this))]; exact hg
  have a2 : cD (entry h) h2 (own γ) := fM.gC.trans d2 fun i hi => .inr (fM.mark i hi).1; have L1 := fM.lc; have Lz : Lc (own aJ ++ S) h1 [] fr.t eV := ⟨L1.ok, L1.lt, (fun c hc => by cases hc), (fun b hb => by cases hb), List.nodup_nil, L1.aH⟩; obtain ⟨us', e1, e2⟩ := uK.ok Lz eW (fun b _ hg cL pZ => ⟨eW b _ hg cL, pZ⟩); have n7 := CR e2
  have n8 : ∀ c ∈ aJ, ∀ b ∈ cI c.1, h2.get b = h1.get b := fun c hc b hb => by
    obtain ⟨o, hg, cL⟩ := (fM.cells c hc).isObj b hb; rw [eW b _ hg cL, hg]
  have pD : ∀ c ∈ aJ, bA h2 (own aJ ++ S) c.1 c.2 := fun c hc => by
    have hx := fM.cells c hc; have hN : p9 h1 (own aJ ++ S) h2 (own aJ ++ S) := fun b _ hg cL pZ => ⟨eW b _ hg cL, pZ⟩; have hgb := n8 c hc; obtain ⟨w, cc⟩ := c
    cases cc with
    | row e τ xs =>
      rcases hx with hx | ⟨b, rs, m, h3, h4, h5, h6⟩
      . exact .inl hx
      exact .inr ⟨b, rs, m, h3, h4, eW b _ h5 (by simp), h6.1, fun i hi => (h6.2 i hi).iV hN⟩
    | var cs =>
      obtain ⟨b, e, vs, h3, h4, h5, h6, h7⟩ := hx
      exact ⟨b, e, vs, h3, h4, eW b _ h5 (by simp), h6.iV hN, h7⟩
    | cap e k τ xs =>
      obtain ⟨b, rs, m, h3, h4, h5, h6, h7, h8⟩ := hx
      exact ⟨b, rs, m, h3, h4, eW b _ h5 (by simp), h6, h7, h8.1, fun i hi => (h8.2 i hi).iV hN⟩
    | mp κ ν kvs =>
      obtain ⟨b, es, c, h3, h4, h5, h6, h7⟩ := hx
      exact ⟨b, es, c, h3, h4, eW b _ h5 (by simp), h6, fun i hi hj => ⟨⟨(h7 i hi hj).1.1, (h7 i hi hj).1.2.iV hN⟩, ⟨(h7 i hi hj).2.1, (h7 i hi hj).2.2.iV hN⟩⟩⟩
    | it s pos =>
      obtain ⟨b, h3, h4, h5⟩ := hx
      exact ⟨b, h3, h4, eW b _ h5 (by simp)⟩
    | loop st jump n fl ps assign body =>
      obtain ⟨l, tmps, d, h3, h4, h5, h6⟩ := hx
      exact ⟨l, tmps, d, h3, h4, eW l _ h5 (by simp), h6.iV hN⟩
    | eE e n cs =>
      rcases hx with hx | ⟨b, rs, m, h3, h4, h5, h6, h7⟩
      . exact .inl hx
      exact .inr ⟨b, rs, m, h3, h4, eW b _ h5 (by simp), h6.iV hN, h7⟩
  have B7 : ∀ b ∈ own aJ, b ∈ own γ \/ h.next <= b := fun b hb => (fM.new b hb).1; refine ⟨he, h2, us', d1, e1, ?_⟩; unfold leftOf
  cases nJ : (af (iA us') && Nat.ble h.next h2.low) with
  | true =>
    obtain ⟨vC, dK⟩ := aY nJ; have dK := dY dK
    have gH : ∀ b ∈ own γ, h2.get b = h.get b := fun b hb => by
      rcases a2.chg b (wD bO bD b hb) with h3 | h3
      . exact h3
      have := wD bO bD b hb; omega
    have fU : ∀ b o, h.get b = some o -> h2.get b = some o := fun b o hb => by
      have b7 := bD b o hb; rcases a2.chg b b7 with h3 | h3
      . rw [h3]; exact hb
      have : h.next <= b := Nat.le_trans dK h3; omega
    obtain ⟨k1, k2⟩ := hkd h h2 S bO pD gH fU
    exact ⟨_, aJ, hQ, ⟨cD.refl _ _, fun b hb => .inl (k1 b hb), fM.apart, k2⟩, n7.EV vC⟩
  | false =>
    refine ⟨_, aJ, hQ, ⟨⟨a2.next, a2.get, fun x => a2.ok x, fun e h3 h4 h5 => Nat.le_min.2 ⟨h3, a2.low e (Nat.le_trans h4 (Nat.le_refl _)) h4 h5⟩, fun b hb => ?_, Nat.min_le_left _ _⟩, B7, fM.apart, fun c hc => (pD c hc).keep (fun _ _ => rfl) (fun _ _ a b => ⟨a, b⟩) fun b hb => List.mem_append_left _ (List.mem_flatMap.2 ⟨c, hc, hb⟩)⟩, aI.nx (h := h2) (h' := { next := h2.next, low := min h.low h2.low, aA := h2.aA }) (fun _ _ a b => ⟨a, b⟩) n7⟩; rcases a2.chg b hb with h3 | h3
    . exact .inl h3
    exact .inr (Nat.le_trans (Nat.min_le_right _ _) h3)
theorem N6 {T1 T2 : TypeId} {a' u' : Value} (hg : bA h S (bW b) (.eE T1 0 [.raw a, .raw u])) (hs : bA h2 S' (bW b) (.eE T2 0 [.raw a', .raw u'])) (hk : h2.get b = h.get b) : T2 = T1 /\ a' = a /\ u' = u := by
  obtain ⟨_, g2, _⟩ := tB hg; obtain ⟨_, s2, _⟩ := tB hs; rw [s2, g2] at hk; injection hk with hk; injection hk with h1 h2; injection h2 with h3 h4; injection h4 with h5 h6; exact ⟨h1, h3, h5⟩
theorem FA {acc TK : ByteArray} {a' u' : Value} (h h2 : Heap) (S : List Nat) (hg : ∀ c ∈ [(bW b, Cell.eE T 0 [.raw a, .raw u]), (u, .row e (.int .u8) (aW acc))], bA h (own [(bW b, Cell.eE T 0 [.raw a, .raw u]), (u, .row e (.int .u8) (aW acc))] ++ S) c.1 c.2)
    (hs : ∀ c ∈ [(bW b, Cell.eE T 0 [.raw a', .raw u']), (u', .row e (.int .u8) (aW TK))], bA h2 (own [(bW b, Cell.eE T 0 [.raw a', .raw u']), (u', .row e (.int .u8) (aW TK))] ++ S) c.1 c.2)
    (hk : ∀ b' ∈ own [(bW b, Cell.eE T 0 [.raw a, .raw u]), (u, .row e (.int .u8) (aW acc))], h2.get b' = h.get b') (hx : ∀ b o, h.get b = some o -> h2.get b = some o) :
    (∀ b' ∈ own [(bW b, Cell.eE T 0 [.raw a', .raw u']), (u', .row e (.int .u8) (aW TK))], b' ∈ own [(bW b, Cell.eE T 0 [.raw a, .raw u]), (u, .row e (.int .u8) (aW acc))]) /\ ∀ c ∈ [(bW b, Cell.eE T 0 [.raw a', .raw u']), (u', .row e (.int .u8) (aW TK))], bA h (own [(bW b, Cell.eE T 0 [.raw a', .raw u']), (u', .row e (.int .u8) (aW TK))] ++ S) c.1 c.2 := by
  obtain ⟨_, rfl, rfl⟩ := N6 (hg _ List.mem_cons_self) (hs _ List.mem_cons_self) (hk b (by simp [own, cI])); refine ⟨fun b' hb => hb, fun c hc => ?_⟩; rcases List.mem_cons.1 hc with rfl | hc
  . exact hg _ List.mem_cons_self
  obtain rfl := List.mem_singleton.1 hc; rcases hs _ (List.mem_cons_of_mem _ List.mem_cons_self) with hx | ⟨b2, rs, m, h3, h4, h5, h6⟩
  . exact .inl hx
  have h3 : u' = _ := h3; refine .inr ⟨b2, rs, m, h3, h4, ?_, ?_⟩
  . rw [<- hk b2 (by rw [bZ]; exact List.mem_append_right _ (by rw [bZ, h3]; simp [cI]))]; exact h5
  rw [F9 h6]; exact N4
theorem WY {acc : ByteArray} {a' u' : Value} (h h2 : Heap) (S : List Nat) (hg : ∀ c ∈ [(bW b, Cell.eE T 0 [.raw a, .raw u]), (u, .row e (.int .u8) (aW acc))], bA h (own [(bW b, Cell.eE T 0 [.raw a, .raw u]), (u, .row e (.int .u8) (aW acc))] ++ S) c.1 c.2)
    (hs : ∀ c ∈ [(bW b, Cell.eE T 0 [.raw a', .raw u'])], bA h2 (own [(bW b, Cell.eE T 0 [.raw a', .raw u'])] ++ S) c.1 c.2)
    (hk : ∀ b' ∈ own [(bW b, Cell.eE T 0 [.raw a, .raw u]), (u, .row e (.int .u8) (aW acc))], h2.get b' = h.get b') (hx : ∀ b o, h.get b = some o -> h2.get b = some o) :
    (∀ b' ∈ own [(bW b, Cell.eE T 0 [.raw a', .raw u'])], b' ∈ own [(bW b, Cell.eE T 0 [.raw a, .raw u]), (u, .row e (.int .u8) (aW acc))]) /\ ∀ c ∈ [(bW b, Cell.eE T 0 [.raw a', .raw u'])], bA h (own [(bW b, Cell.eE T 0 [.raw a', .raw u'])] ++ S) c.1 c.2 := by
  obtain ⟨_, rfl, rfl⟩ := N6 (hg _ List.mem_cons_self) (hs _ List.mem_cons_self) (hk b (by simp [own, cI])); refine ⟨fun b' hb => by rw [bZ] at hb ⊢; exact List.mem_append_left _ (by simpa [own] using hb), fun c hc => ?_⟩; obtain rfl := List.mem_singleton.1 hc; obtain ⟨_, g2, g3, g4⟩ := tB (hg _ List.mem_cons_self); exact D9 (List.mem_append_left _ (by simp [own, cI])) g2 g3 g4
end Go.Fs
namespace Go.Fs
def mA (c : UInt8) : Bool := decide (48 <= c.toNat /\ c.toNat <= 57)
def x5 (d : Nat) : UInt8 := UInt8.ofNat (48 + d)
theorem vE {d : Nat} (h : d < 10) : (x5 d).toNat = 48 + d := by
  unfold x5; rw [UInt8.toNat_ofNat']; omega
theorem N7 {d : Nat} (h : d < 10) : mA (x5 d) = true := decide_eq_true (by rw [vE h]; omega)
def tC (n : Nat) : List UInt8 := if n < 10 then [x5 n] else tC (n / 10) ++ [x5 (n % 10)]
termination_by n
decreasing_by omega
theorem nR {n : Nat} (h : n < 10) : tC n = [x5 n] := by rw [tC, if_pos h]
theorem tD {n : Nat} (h : 10 <= n) : tC n = tC (n / 10) ++ [x5 (n % 10)] := by rw [tC, if_neg (by omega)]
def pH (w : List UInt8) (v : Nat) : Nat := w.foldl (fun v c => 10 * v + (c.toNat - 48)) v
theorem BI {w : List UInt8} {c : UInt8} {v : Nat} : pH (w ++ [c]) v = 10 * pH w v + (c.toNat - 48) := by
  unfold pH; rw [List.foldl_append]; rfl
theorem aeP (n : Nat) : pH (tC n) 0 = n := by
  induction n using Nat.strongRecOn with
  | ind n ih =>
    by_cases h : n < 10
    . rw [nR h]; show 10 * 0 + ((x5 n).toNat - 48) = n; rw [vE h]; omega
    rw [tD (by omega), BI, ih (n / 10) (by omega), vE (by omega)]; omega
theorem TL (n : Nat) : ∀ c ∈ tC n, mA c = true := by
  induction n using Nat.strongRecOn with
  | ind n ih =>
    by_cases h : n < 10
    . rw [nR h]; intro c hc; rw [List.mem_singleton.1 hc]; exact N7 h
    rw [tD (by omega)]; intro c hc; rcases List.mem_append.1 hc with hc | hc
    . exact ih (n / 10) (by omega) c hc
    rw [List.mem_singleton.1 hc]; exact N7 (by omega)
theorem ajD (n : Nat) : tC n ≠ [] := by
  by_cases h : n < 10
  . rw [nR h]; simp
  rw [tD (by omega)]; simp
theorem TM (k : Nat) : ∀ n : Nat, n < 10 ^ (k + 1) -> (tC n).length <= k + 1 := by
  induction k with
  | zero => intro n h; rw [nR (by simpa using h)]; simp
  | succ k ih =>
    intro n h; by_cases h2 : n < 10
    . rw [nR h2]; simp
    rw [tD (by omega), List.length_append]; have h3 : n / 10 < 10 ^ (k + 1) := Nat.div_lt_of_lt_mul (by rw [Nat.pow_succ, Nat.mul_comm] at h; exact h); have := ih _ h3; simp only [List.length_singleton]; omega
theorem abD {n : Nat} (h : 1 <= n) : ∃ c r, tC n = c :: r /\ c.toNat ≠ 48 := by
  induction n using Nat.strongRecOn with
  | ind n ih =>
    by_cases h2 : n < 10
    . exact ⟨x5 n, [], nR h2, by rw [vE h2]; omega⟩
    obtain ⟨c, r, h3, h4⟩ := ih (n / 10) (by omega) (by omega); exact ⟨c, r ++ [x5 (n % 10)], by rw [tD (by omega), h3]; rfl, h4⟩
def K8 (w : List UInt8) : Option Nat := if (w = [] \/ 9 < w.length) \/ (1 < w.length /\ (w.headD 0).toNat = 48) \/ w.all mA = false then none else some (pH w 0)
theorem aeQ {n : Nat} (h : n < 10 ^ 9) : K8 (tC n) = some n := by
  have h1 := TM 8 n h; unfold K8; rw [if_neg, aeP]; rintro ((h2 | h2) | ⟨h2, h3⟩ | h2)
  . exact ajD n h2
  . omega
  . by_cases h4 : n < 10
    . rw [nR h4] at h2; simp at h2
    obtain ⟨c, r, h5, h6⟩ := abD (n := n) (by omega); rw [h5] at h3; exact h6 h3
  rw [List.all_eq_true.2 (TL n)] at h2; cases h2
theorem aeR {α : Type} {w : List α} (h : w ≠ []) : ∃ r c, w = r ++ [c] := ⟨w.dropLast, w.getLast h, (List.dropLast_concat_getLast h).symm⟩
def kH (s : UInt8) : List UInt8 -> List (List UInt8)
  | [] => [[]]
  | x :: r => if x = s then [] :: kH s r else match kH s r with
    | [] => [[x]]
    | w :: l => (x :: w) :: l
theorem PU {s : UInt8} : ∀ l : List UInt8, kH s l ≠ []
  | [] => by simp [kH]
  | x :: r => by
    unfold kH; split
    . simp
    split <;> simp
theorem K9 {s : UInt8} {r : List UInt8} : kH s (s :: r) = [] :: kH s r := by rw [kH, if_pos rfl]
theorem zL {s x : UInt8} {r w : List UInt8} {l : List (List UInt8)} (h : x ≠ s) (hr : kH s r = w :: l) : kH s (x :: r) = (x :: w) :: l := by rw [kH, if_neg h, hr]
theorem FB {s : UInt8} : ∀ {w : List UInt8}, (∀ c ∈ w, c ≠ s) -> kH s w = [w]
  | [], _ => rfl
  | x :: w, h => zL (h x List.mem_cons_self) (FB fun c hc => h c (List.mem_cons_of_mem _ hc))
theorem KA {s : UInt8} : ∀ {w r : List UInt8}, (∀ c ∈ w, c ≠ s) -> kH s (w ++ s :: r) = w :: kH s r
  | [], r, _ => K9
  | x :: w, r, h => zL (h x List.mem_cons_self) (KA fun c hc => h c (List.mem_cons_of_mem _ hc))
def yE (s : UInt8) : List (List UInt8) -> List UInt8
  | [] => []
  | [w] => w
  | w :: v :: l => w ++ s :: yE s (v :: l)
theorem abE {s : UInt8} {w : List UInt8} {l : List (List UInt8)} (h : l ≠ []) : yE s (w :: l) = w ++ s :: yE s l := by
  cases l with
  | nil => exact absurd rfl h
  | cons v l => rfl
end Go.Fs
namespace Go.Fs
variable {P : Program} {orc : FuncId -> List Value -> Heap -> Option (Value × Heap)} {h : Heap} {S : List Nat} {σ : aG} {t : Tr} {fl : VL} {x y z lo hi : Operand} {T : TypeId} {s : ByteArray} {a b : Int}
theorem wO {k : Int} {n : Nat} {q : BoundsCode} (h : 0 <= k /\ k <= ((n : Nat) : Int)) : aC P (Instr.sliceBound (.int .i64 k) n q) = some k.toNat := by
  unfold Instr.sliceBound; simp [aE, asIntOf, aQ, h.1, h.2]
theorem str_slice {l r : Option Value} {i j : Nat} (hT : P.underlying T = some .string) (hb : aC P (Instr.sliceBounds false s.size s.size l r none) = some (i, j, s.size)) : aC P (Instr.sliceAt T (.string s) l r none) = some (.string (s.extract i j)) := by
  have h1 : aC P (Instr.sliceAt T (.string s) l r none) = aC P (Instr.slice T (.string s) l r none) := by
    unfold Instr.sliceAt; simp only [aE, bB hT, Option.bind_some]
  rw [h1]; unfold Instr.slice; simp only [aE, bB hT, Option.bind_some, Option.isSome_none, Bool.false_eq_true, if_false, hb, aQ]
theorem dN.WZ {k : Int} (hT : P.underlying T = some .string) (hx : b9 fl x = some (.v .str s)) (hh : b9 fl hi = some (.v (.int .i64) k)) (h0 : 0 <= k /\ k <= ((s.size : Nat) : Int)) : dN P fl σ (.slice T x none (some hi) none) (.v .str (s.extract 0 k.toNat)) :=
  ⟨rfl, fun h S t hs _ => by
    have h1 := aF.str (hs x (by simp [Op.operands]) _ hx : aF h S .str (aB t x) s); have h2 := aF.int (hs hi (by simp [Op.operands]) _ hh); refine ⟨.string (s.extract 0 k.toNat), aF.ofStr _, fun H _ _ _ _ _ _ => ?_⟩; show (cZ P T (aB t x) none (some (aB t hi)) none H).map _ = _
    have hb : aC P (Instr.sliceBounds false s.size s.size none (some (.int .i64 k)) none) = some (0, k.toNat, s.size) := by
      unfold Instr.sliceBounds; simp only [aE, aQ, Option.bind_some, wO h0]
    rw [h1, h2]; simp only [cZ, hT, str_slice hT hb]
    rfl⟩
theorem dN.X0 {k : Int} (hT : P.underlying T = some .string) (hx : b9 fl x = some (.v .str s)) (hh : b9 fl lo = some (.v (.int .i64) k)) (h0 : 0 <= k /\ k <= ((s.size : Nat) : Int)) : dN P fl σ (.slice T x (some lo) none none) (.v .str (s.extract k.toNat s.size)) :=
  ⟨rfl, fun h S t hs _ => by
    have h1 := aF.str (hs x (by simp [Op.operands]) _ hx : aF h S .str (aB t x) s); have h2 := aF.int (hs lo (by simp [Op.operands]) _ hh); refine ⟨.string (s.extract k.toNat s.size), aF.ofStr _, fun H _ _ _ _ _ _ => ?_⟩; show (cZ P T (aB t x) (some (aB t lo)) none none H).map _ = _
    have hb : aC P (Instr.sliceBounds false s.size s.size (some (.int .i64 k)) none none) = some (k.toNat, s.size, s.size) := by
      unfold Instr.sliceBounds; simp only [aE, aQ, Option.bind_some, wO h0]
    rw [h1, h2]; simp only [cZ, hT, str_slice hT hb]
    rfl⟩
theorem dN.ajE (hT : P.underlying T = some .string) (hx : b9 fl x = some (.v .str s)) (hl : b9 fl lo = some (.v (.int .i64) a)) (hh : b9 fl hi = some (.v (.int .i64) b)) (h0 : 0 <= a /\ a <= b) (h1 : b <= ((s.size : Nat) : Int)) : dN P fl σ (.slice T x (some lo) (some hi) none) (.v .str (s.extract a.toNat b.toNat)) :=
  ⟨rfl, fun h S t hs _ => by
    have g1 := aF.str (hs x (by simp [Op.operands]) _ hx : aF h S .str (aB t x) s); have g2 := aF.int (hs lo (by simp [Op.operands]) _ hl); have g3 := aF.int (hs hi (by simp [Op.operands]) _ hh); refine ⟨.string (s.extract a.toNat b.toNat), aF.ofStr _, fun H _ _ _ _ _ _ => ?_⟩; show (cZ P T (aB t x) (some (aB t lo)) (some (aB t hi)) none H).map _ = _
    have hb : aC P (Instr.sliceBounds false s.size s.size (some (.int .i64 a)) (some (.int .i64 b)) none) = some (a.toNat, b.toNat, s.size) := by
      unfold Instr.sliceBounds
      have e2 : a <= ((b.toNat : Nat) : Int) := by omega
      simp only [aE, aQ, Option.bind_some]; have e3 := wO (P := P) (k := b) (n := s.size) (q := .sliceAlen) ⟨by omega, h1⟩; have e4 := wO (P := P) (k := a) (n := b.toNat) (q := .sliceB) ⟨h0.1, e2⟩; show (aC P (Instr.sliceBound (.int .i64 b) s.size .sliceAlen)).bind _ = _; rw [e3]; show (aC P (Instr.sliceBound (.int .i64 a) b.toNat .sliceB)).bind _ = _; rw [e4]; rfl
    rw [g1, g2, g3]; simp only [cZ, hT, str_slice hT hb]
    rfl⟩
theorem TN {h : Heap} {S : List Nat} {us : List Value} {c : Int} (hr : b6 h S [.v .str s, .v (.int .u8) c] us) : us = [.string s, .int .u8 c] := by
  obtain ⟨u, r, rfl, h2, u2, r2, rfl, h3, h4⟩ := hr; obtain rfl : r2 = [] := h4; rw [aF.str h2, aF.int h3]
theorem VF.aeS {f : FuncId} {fn : Func} {c : Int} (lB : P.funcs[f]? = some fn) (ho : ∀ us h, orc f us h = none) (hb : (fn.body.isNone && !(fn.name == "runtime.NumGoroutine")) = true) (h1 : (Extern.findNext fn).isNone = true) (h2 : Extern.find fn = some Extern.BytealgIndexByte.indexByte) :
    VF P orc f [.v .str s, .v (.int .u8) c] (.v (.int .i64) (Go.Lib.indexByte s.data.toList c.toNat.toUInt8)) :=
  VF.ext (us := [.string s, .int .u8 c]) lB ho hb h1 h2 rfl (fun _ _ _ hr => TN hr) (w := .int .i64 (Go.Lib.indexByte s.data.toList c.toNat.toUInt8)) (by
    have e : aC P (Extern.BytealgIndexByte.indexByte #[.string s, .int .u8 c]) = some (.int .i64 (Go.Lib.indexByte s.data.toList c.toNat.toUInt8)) := by
      rw [<- Go.Lib.firstIdx_eq]; unfold Go.firstIdx; show aC P (do let b <- Extern.Bytes.bytesOf (.string s); let c <- Extern.Bytes.asByte (.int .u8 c); match (List.range b.size).find? fun i => b[i]! == c with | some i => pure (goInt i) | none => pure (goInt (-1))) = _; simp only [Extern.Bytes.bytesOf, Extern.Bytes.asByte, aE, aQ, Option.bind_some]
      cases (List.range s.size).find? fun i => s[i]! == c.toNat.toUInt8 with
      | none => rfl
      | some i => rfl
    show ((aC P (Extern.BytealgIndexByte.indexByte #[.string s, .int .u8 c])).bind fun v => if af v then some v else none) = _
    rw [e]; rfl) fun _ _ => aF.ofInt _ _
theorem VF.aeT {f : FuncId} {fn : Func} {c : Int} (lB : P.funcs[f]? = some fn) (ho : ∀ us h, orc f us h = none) (hb : (fn.body.isNone && !(fn.name == "runtime.NumGoroutine")) = true) (h1 : (Extern.findNext fn).isNone = true) (h2 : Extern.find fn = some Extern.BytealgCount.count) :
    VF P orc f [.v .str s, .v (.int .u8) c] (.v (.int .i64) ((s.data.toList.count c.toNat.toUInt8 : Nat) : Int)) :=
  VF.ext (us := [.string s, .int .u8 c]) lB ho hb h1 h2 rfl (fun _ _ _ hr => TN hr) (w := .int .i64 ((s.data.toList.count c.toNat.toUInt8 : Nat) : Int)) (by
    have e : aC P (Extern.BytealgCount.count #[.string s, .int .u8 c]) = some (.int .i64 ((s.data.toList.count c.toNat.toUInt8 : Nat) : Int)) := by
      show aC P (do let b <- Extern.Bytes.bytesOf (.string s); let c' <- Extern.Bytes.asByte (.int .u8 c); pure (goInt (b.foldl (fun n x => if x == c' then n + 1 else n) (0 : Nat)))) = _; simp only [Extern.Bytes.bytesOf, Extern.Bytes.asByte, aE, aQ, Option.bind_some]; rw [Go.Lib.foldl_data, Go.Lib.count_foldl]; simp [goInt, Go.Lib.countByte]
    show ((aC P (Extern.BytealgCount.count #[.string s, .int .u8 c])).bind fun v => if af v then some v else none) = _
    rw [e]; rfl) fun _ _ => aF.ofInt _ _
end Go.Fs
namespace Go.Fs
open Go.Lib (indexByte)
theorem FC {c : UInt8} : ∀ {l : List UInt8}, indexByte l c < 0 -> ∀ x ∈ l, x ≠ c
  | [], _, x, hx => by cases hx
  | b :: l, h, x, hx => by
    unfold indexByte at h; by_cases hb : b = c
    . rw [if_pos (by simp [hb])] at h; omega
    rw [if_neg (by simp [hb])] at h
    have ih : indexByte l c < 0 := by
      split at h
      . rename_i he; have := of_decide_eq_true he; omega
      have := Go.Lib.indexByte_ge l c; omega
    rcases List.mem_cons.1 hx with rfl | hx
    . exact hb
    exact FC ih x hx
theorem zM {c : UInt8} : ∀ {l : List UInt8} {k : Nat}, indexByte l c = ((k : Nat) : Int) -> k < l.length /\ (∀ x ∈ l.take k, x ≠ c) /\ l.drop k = c :: l.drop (k + 1)
  | [], k, h => by
    unfold indexByte at h
    omega
  | b :: l, k, h => by
    unfold indexByte at h; by_cases hb : b = c
    . rw [if_pos (by simp [hb])] at h
      obtain rfl : k = 0 := by omega
      subst hb; exact ⟨by simp, fun x hx => by simp at hx, rfl⟩
    rw [if_neg (by simp [hb])] at h; split at h
    . omega
    rename_i he; have I9 := Go.Lib.indexByte_ge l c; have cL : indexByte l c ≠ -1 := fun e => he (by rw [e]; rfl); obtain ⟨j, rfl⟩ : ∃ j, k = j + 1 := ⟨k - 1, by omega⟩; obtain ⟨h1, h2, h3⟩ := zM (c := c) (l := l) (k := j) (by omega); refine ⟨by simp; omega, fun x hx => ?_, by simpa using h3⟩; rw [List.take_succ_cons] at hx; rcases List.mem_cons.1 hx with rfl | hx
    . exact hb
    exact h2 x hx
theorem TO {c : UInt8} {l : List UInt8} {k : Nat} (h : indexByte l c = ((k : Nat) : Int)) : kH c l = l.take k :: kH c (l.drop (k + 1)) := by
  obtain ⟨h1, h2, h3⟩ := zM h
  have e : l = l.take k ++ c :: l.drop (k + 1) := by rw [<- h3, List.take_append_drop]
  have := KA (s := c) (w := l.take k) (r := l.drop (k + 1)) h2; rw [<- e] at this; exact this
theorem YM {c : UInt8} {l : List UInt8} (h : indexByte l c < 0) : kH c l = [l] := FB (FC h)
theorem vF {c : UInt8} : ∀ l : List UInt8, (kH c l).length = l.count c + 1
  | [] => rfl
  | x :: r => by
    have ih := vF (c := c) r; by_cases h : x = c
    . subst h; rw [K9, List.length_cons, ih, List.count_cons_self]
    cases hr : kH c r with
    | nil => exact absurd hr (PU r)
    | cons w l =>
      rw [hr] at ih; rw [zL h hr, List.length_cons, List.count_cons_of_ne h]; simpa using ih
def aS (s : ByteArray) : List UInt8 := s.data.toList
def DB (l : List UInt8) : ByteArray := ⟨l.toArray⟩
theorem yF (s : ByteArray) : DB (aS s) = s := rfl
theorem pI (l : List UInt8) : aS (DB l) = l := rfl
theorem cU (s : ByteArray) : (aS s).length = s.size := by
  show s.data.toList.length = s.data.size; simp
theorem lL (s r : ByteArray) : aS (s ++ r) = aS s ++ aS r := by
  unfold aS; rw [ByteArray.data_append, Array.toList_append]
theorem tE {s r : ByteArray} (h : aS s = aS r) : s = r := by rw [<- yF s, <- yF r, h]
theorem sC (s : ByteArray) (k : Nat) : aS (s.extract 0 k) = (aS s).take k := by
  unfold aS; rw [ByteArray.data_extract, Array.toList_extract, List.extract_eq_take_drop, List.drop_zero, Nat.sub_zero]
theorem sD (s : ByteArray) (k : Nat) : aS (s.extract k s.size) = (aS s).drop k := by
  have hl := cU s; unfold aS at hl ⊢; rw [ByteArray.data_extract, Array.toList_extract, List.extract_eq_take_drop, List.take_of_length_le (by rw [List.length_drop]; omega)]
def dL (c : UInt8) (s : ByteArray) : List ByteArray := (kH c (aS s)).map DB
theorem N8 {c : UInt8} {s : ByteArray} : (dL c s).length = (aS s).count c + 1 := by rw [dL, List.length_map, vF]
theorem N9 {c : UInt8} {s : ByteArray} {k : Nat} (h : indexByte (aS s) c = ((k : Nat) : Int)) : dL c s = s.extract 0 k :: dL c (s.extract (k + 1) s.size) := by
  unfold dL; rw [TO h, List.map_cons, sD, <- sC, yF]
theorem TP {c : UInt8} {s : ByteArray} (h : indexByte (aS s) c < 0) : dL c s = [s] := by
  unfold dL; rw [YM h]; rfl
theorem KB {c : UInt8} {l : List UInt8} {k : Nat} (h : indexByte l c = ((k : Nat) : Int)) : l.count c = (l.drop (k + 1)).count c + 1 := by
  have h1 := vF (c := c) l; rw [TO h, List.length_cons, vF] at h1; omega
theorem abF {c : UInt8} {l : List UInt8} (h : indexByte l c < 0) : l.count c = 0 := by
  have h1 := vF (c := c) l; rw [YM h] at h1; simpa using h1.symm
end Go.Fs
namespace Go.Proofs
open Go.Fs
set_option maxHeartbeats 1000000
theorem aeU {s : ByteArray} {c : Int} : VF Tryz.prog OA 167 [.v .str s, .v (.int .u8) c] (.v (.int .i64) (Go.Lib.indexByte (aS s) c.toNat.toUInt8)) := VF.aeS Tryz.func167 (fun _ _ => rfl) (by kernel_rfl) (by kernel_rfl) (by kernel_rfl)
theorem abG {s : ByteArray} {c : Int} : VF Tryz.prog OA 170 [.v .str s, .v (.int .u8) c] (.v (.int .i64) (((aS s).count c.toNat.toUInt8 : Nat) : Int)) := VF.aeT Tryz.func170 (fun _ _ => rfl) (by kernel_rfl) (by kernel_rfl) (by kernel_rfl)
def eR (p : ByteArray) : UInt8 := p.get! 0
theorem TQ {p : ByteArray} : (bV p 0).toNat.toUInt8 = eR p := by
  show ((((p.get! 0).toNat : Nat) : Int)).toNat.toUInt8 = p.get! 0; rw [Int.toNat_natCast]; exact UInt8.ofNat_toNat
theorem one_byte {p : ByteArray} (hp : p.size = 1) : ∃ c, p = DB [c] := by
  have hl := cU p; rw [hp] at hl; obtain ⟨c, hc⟩ := List.length_eq_one_iff.1 hl; exact ⟨c, by rw [<- hc, yF]⟩
theorem abH {p : ByteArray} (hp : p.size = 1) : Go.Lib.indexByte (aS p) (eR p) = 0 := by
  obtain ⟨c, rfl⟩ := one_byte hp; show Go.Lib.indexByte [c] c = 0; unfold Go.Lib.indexByte; rw [if_pos (by simp)]
theorem YN {s : ByteArray} {c : Int} : VF Tryz.prog OA 138 [St s, .v (.int .u8) c] (I (Go.Lib.indexByte (aS s) c.toNat.toUInt8)) := by
  refine VF.enter Tryz.func138 rfl (fun _ _ => rfl) rfl ?_; show U _ _ _ _ _ [(0, St s), (1, .v (.int .u8) c)] [] _; refine U.seq (U.text ?_); refine J.c (.assign rfl) ?_; refine J.go (U.seq (U.text ?_)); refine J.c (.move rfl) (J.c (.move rfl) ?_); refine J.call rfl rfl (VF.call (aeU )) ?_; refine J.c (.assign rfl) (J.go ?_); refine U.ret ?_; exact aR.one rfl aZ (cY (by rfl))
theorem aeV {s : ByteArray} {p : ByteArray} (hp : p.size = 1) : VF Tryz.prog OA 171 [St s, St p] (I (Go.Lib.indexByte (aS s) (eR p))) := by
  refine VF.enter Tryz.func171 rfl (fun _ _ => rfl) rfl ?_; show U _ _ _ _ _ [(0, St s), (1, St p)] [] _; refine U.seq (U.text ?_); refine J.c (.assign rfl) ?_; refine J.go (U.seq (U.text ?_)); refine J.c (.move rfl) ?_; refine J.r (.gU) ?_; refine J.c (.assign rfl) ?_; refine J.go (U.seq (U.block (U.seq (U.text ?_)))); refine J.c (.move rfl) (J.c (.eql) (J.c (.move rfl) ?_)); refine J.cg (r := decide (((p.size : Nat) : Int) = (0 : Int))) (w := false) [] trivial (fun _ => (.move rfl)) ?_; refine J.cg (r := decide (((p.size : Nat) : Int) = (0 : Int))) (w := false) [] trivial (fun _ => (.move rfl)) ?_; refine J.cg (r := decide (((p.size : Nat) : Int) = (0 : Int))) (w := false) [(20, St p), (21, St s)] ⟨rfl, rfl, trivial⟩ (fun _ => (.sT)) ?_; refine J.c (.or) (J.c (.assign rfl) (J.go ?_)); refine U.fO rfl (fun c2 => ?_) (fun c2 => ?_)
  . try simp only [Bool.and_eq_true, Bool.or_eq_true, Bool.and_eq_false_iff, Bool.or_eq_false_iff, Bool.not_eq_true', Bool.not_eq_false', decide_eq_true_eq, decide_eq_false_iff_not] at c2
    refine U.seq (U.text ?_); refine J.c (.assign rfl) (J.go ?_); refine U.ret ?_; exact aR.one rfl aZ (cY (by rcases c2 with h | h; exact absurd h (by omega); rw [<- h, abH hp]))
  try simp only [Bool.and_eq_true, Bool.or_eq_true, Bool.and_eq_false_iff, Bool.or_eq_false_iff, Bool.not_eq_true', Bool.not_eq_false', decide_eq_true_eq, decide_eq_false_iff_not] at c2
  refine U.seq (U.text ?_); refine J.c (.move rfl) (J.c (.eql) (J.c (.assign rfl) (J.go ?_))); refine U.aM rfl (fun c4 => ?_) (fun c4 => ?_)
  . refine U.seq (U.text ?_); refine J.c (.move rfl) (J.c (.move rfl) (J.c (.PH rfl rfl (by omega) (by omega)) ?_)); refine J.call rfl rfl (VF.call (YN )) ?_; refine J.c (.assign rfl) (J.go ?_); refine U.ret ?_; exact aR.one rfl aZ (cY (by exact congrArg (Go.Lib.indexByte (aS s)) TQ))
  omega
theorem ajF {s : ByteArray} {p : ByteArray} (hp : p.size = 1) : VF Tryz.prog OA 143 [St s, St p] (I (Go.Lib.indexByte (aS s) (eR p))) := by
  refine VF.enter Tryz.func143 rfl (fun _ _ => rfl) rfl ?_; show U _ _ _ _ _ [(0, St s), (1, St p)] [] _; refine U.seq (U.text ?_); refine J.c (.assign rfl) ?_; refine J.go (U.seq (U.text ?_)); refine J.c (.move rfl) (J.c (.move rfl) ?_); refine J.call rfl rfl (VF.call (aeV hp)) ?_; refine J.c (.assign rfl) (J.go ?_); refine U.ret ?_; exact aR.one rfl aZ (cY (by rfl))
theorem aeW {s : ByteArray} {p : ByteArray} (hp : p.size = 1) : VF Tryz.prog OA 142 [St s, St p] (I (((aS s).count (eR p) : Nat) : Int)) := by
  refine VF.enter Tryz.func142 rfl (fun _ _ => rfl) rfl ?_; show U _ _ _ _ _ [(0, St s), (1, St p)] [] _; refine U.seq (U.text ?_); refine J.c (.assign rfl) ?_; refine J.go (U.seq (U.seq (U.text ?_))); refine J.c (.move rfl) ?_; refine J.r (.gU) ?_; refine J.c (.eql) (J.go ?_); refine U.aM rfl (fun c1 => ?_) (fun c1 => ?_)
  . omega
  refine U.skip (U.seq (U.seq (U.text ?_))); refine J.c (.move rfl) ?_; refine J.r (.gU) ?_; refine J.c (.eql) (J.go ?_); refine U.aM rfl (fun c3 => ?_) (fun c3 => ?_)
  . refine U.seq (U.text ?_); refine J.c (.move rfl) (J.c (.move rfl) (J.c (.PH rfl rfl (by omega) (by omega)) ?_)); refine J.call rfl rfl (VF.call (abG )) ?_; refine J.c (.assign rfl) (J.go ?_); refine U.ret ?_; exact aR.one rfl aZ (cY (by exact congrArg (fun c => (((aS s).count c : Nat) : Int)) TQ))
  omega
def tF (c : UInt8) (s : ByteArray) : ByteArray := if Go.Lib.indexByte (aS s) c < 0 then s else s.extract 0 (Go.Lib.indexByte (aS s) c).toNat
def pJ (c : UInt8) (s : ByteArray) : ByteArray := if Go.Lib.indexByte (aS s) c < 0 then ByteArray.empty else s.extract ((Go.Lib.indexByte (aS s) c).toNat + 1) s.size
theorem PW {s : ByteArray} {c : UInt8} : Go.Lib.indexByte (aS s) c < ((s.size : Nat) : Int) := by
  have hl := cU s; by_cases h : 0 <= Go.Lib.indexByte (aS s) c
  . obtain ⟨k, hk⟩ := Int.eq_ofNat_of_zero_le h; have := (zM hk).1; omega
  omega
end Go.Proofs
namespace Go.Proofs
open Go.Fs
set_option maxHeartbeats 1000000
theorem zt9 : oG Tryz.prog 9 .str := kS (z := .string ByteArray.empty) (by kernel_rfl) rfl rfl
theorem aeX {α : Type} {W : List α} {i n : Nat} {d x : α} (hn : W.length = n) (hi : i < W.length) (hx : W[i] = x) : (W.take i ++ List.replicate (n - i) d).set i x = W.take (i + 1) ++ List.replicate (n - (i + 1)) d := by
  have h1 : (W.take i).length = i := by rw [List.length_take]; omega
  rw [List.set_append_right _ _ (by omega), h1, Nat.sub_self, show n - i = (n - (i + 1)) + 1 by omega, List.replicate_succ, List.set_cons_zero, List.take_succ_eq_append_getElem hi, hx, List.append_assoc]; rfl
theorem am2 {α : Type} {W : List α} {i n : Nat} {d : α} (hn : W.length = n) (hi : i <= n) : (W.take i ++ List.replicate (n - i) d).length = n := by
  rw [List.length_append, List.length_take, List.length_replicate]; omega
theorem PX {α : Type} {W A R : List α} {x : α} {i : Nat} (h : W = A ++ x :: R) (hA : A.length = i) : ∃ hi : i < W.length, W[i] = x := by
  subst h; refine ⟨by rw [List.length_append, List.length_cons]; omega, ?_⟩; subst hA; simp
theorem abI {α : Type} {W R : List α} {x : α} {i : Nat} (h : W = W.take i ++ x :: R) (hi : i < W.length) : W = W.take (i + 1) ++ R := by
  obtain ⟨h1, h2⟩ := PX (i := i) h (by rw [List.length_take]; omega); rw [List.take_succ_eq_append_getElem hi, h2, List.append_assoc]; exact h
theorem abJ {c : UInt8} {s : ByteArray} (h : (aS s).count c = 0) : dL c s = [s] := by
  by_cases hx : Go.Lib.indexByte (aS s) c < 0
  . exact TP hx
  obtain ⟨m, hm⟩ := Int.eq_ofNat_of_zero_le (show 0 <= Go.Lib.indexByte (aS s) c by omega); have := KB hm; omega
theorem aeY {s : ByteArray} {p : ByteArray} {sv : Int} {n : Int} (hp : p.size = 1) (hs : s.size < 100000) (hsv : sv = 0) (hn : n = -1) : VF Tryz.prog OA 98 [St s, St p, I sv, I n] (.v (.sl .str) (dL (eR p) s)) := by
  refine VF.enter Tryz.func98 rfl (fun _ _ => rfl) rfl ?_; show U _ _ _ _ _ [(0, St s), (1, St p), (2, I sv), (3, I n)] [] _; refine U.seq (U.text ?_); have rQ := List.count_le_length (a := eR p) (l := aS s); rw [cU] at rQ; refine J.c (.assign rfl) ?_; refine J.go (U.seq (U.seq (U.text ?_))); refine J.c (.move rfl) (J.c (.eql) (J.go ?_)); refine U.aM rfl (fun c1 => ?_) (fun c1 => ?_)
  . omega
  refine U.skip (U.seq (U.seq (U.text ?_))); refine J.c (.move rfl) (J.c (.sT) (J.go ?_)); refine U.aM rfl (fun c3 => ?_) (fun c3 => ?_)
  . rw [c3] at hp; cases hp
  refine U.skip (U.seq (U.seq (U.text ?_))); refine J.c (.move rfl) (J.c (.lss) (J.go ?_)); refine U.aM rfl (fun c5 => ?_) (fun c5 => ?_)
  . refine U.text ?_; refine J.c (.move rfl) (J.c (.move rfl) ?_); refine J.call rfl rfl (VF.call (aeW hp)) ?_; refine J.c (.add rfl rfl (by omega)) (J.c (.assign rfl) ?_); refine J.go (U.seq (U.text ?_))
    have R4 : min ((((aS s).count (eR p) : Nat) : Int) + 1) (((s.size : Nat) : Int) + 1) = (((aS s).count (eR p) + 1 : Nat) : Int) := by omega
    have WQ := N8 (c := eR p) (s := s); refine J.c (.move rfl) (J.c (.move rfl) ?_); refine J.r (.gU) ?_; refine J.c (.add rfl rfl (by omega)) (J.c (.aoE) ?_); rw [R4]; refine J.c (.assign rfl) ?_; refine J.go (U.seq (U.text ?_)); refine J.c (.move rfl) ?_; refine J.cell (.make (k := ((aS s).count (eR p) + 1)) rfl rfl b8 zt9 (by omega)) ?_; intro dE; refine J.c (.assign rfl) ?_; refine J.go (U.seq (U.text ?_)); refine J.c (.move rfl) (J.c (.sub rfl rfl (by omega)) (J.c (.assign rfl) ?_)); refine J.go (U.seq (U.text ?_)); refine J.c (.assign rfl) ?_; refine J.go (U.seq (U.block ?_)); refine U.keep [(0, St s), (1, St p), (2, I sv), (3, I ((((aS s).count (eR p) + 1 : Nat) : Int) - (1 : Int))), (9, .raw dE), (10, I ((0 : Nat) : Int))] ⟨rfl, rfl, rfl, rfl, rfl, rfl, trivial⟩ ?_; refine U.loop (I := fun kk ff ss => ∃ (i : Nat) (S : ByteArray), kk = (aS s).count (eR p) - i /\ ff = [(0, St S), (1, St p), (2, I sv), (3, I ((((aS s).count (eR p) + 1 : Nat) : Int) - (1 : Int))), (9, .raw dE), (10, I ((i : Nat) : Int))] /\ ss = [(dE, .row 9 .str ((dL (eR p) s).take i ++ List.replicate ((aS s).count (eR p) + 1 - i) ByteArray.empty))] /\ (i <= (aS s).count (eR p)) /\ (dL (eR p) s = (dL (eR p) s).take i ++ dL (eR p) S) /\ ((aS S).count (eR p) + i = (aS s).count (eR p)) /\ (S.size <= s.size)) ?_ _ _ _ ⟨0, s, rfl, rfl, rfl, (by omega), (by rfl), (by rfl), (by exact Nat.le_refl _)⟩; rintro kk ff ss ⟨i, S, kI, rfl, rfl, hi, hS, hc, hz⟩; have hfl := am2 (d := ByteArray.empty) WQ (i := i) (by omega); refine U.seq (U.seq (U.text ?_)); refine J.c (.move rfl) (J.c (.move rfl) (J.c (.lss) (J.go ?_))); refine U.aM rfl (fun rL => ?_) (fun rL => ?_)
    . have hit : i < (aS s).count (eR p) := by omega
      have I9 := Go.Lib.indexByte_ge (aS S) (eR p); have b7 := PW (s := S) (c := eR p); refine U.skip (U.block (U.seq (U.text ?_))); refine J.c (.move rfl) (J.c (.move rfl) ?_); refine J.call rfl rfl (VF.call (ajF hp)) ?_; refine J.c (.assign rfl) ?_; refine J.go (U.seq (U.seq (U.text ?_))); refine J.c (.move rfl) (J.c (.lss) (J.go ?_)); refine U.aM rfl (fun c13 => ?_) (fun c13 => ?_)
      . have := abF (l := aS S) c13; omega
      obtain ⟨m, hm⟩ := Int.eq_ofNat_of_zero_le (show 0 <= Go.Lib.indexByte (aS S) (eR p) by omega)
      have he1 : (Go.Lib.indexByte (aS S) (eR p) + sv).toNat = m := by omega
      have he2 : (Go.Lib.indexByte (aS S) (eR p) + ((p.size : Nat) : Int)).toNat = m + 1 := by omega
      have hsp := N9 hm; have FD := KB hm; have uT := hS; rw [hsp] at uT; have gA := abI uT (by omega); obtain ⟨LC, B8⟩ := PX (i := i) uT (by rw [List.length_take]; omega); have xI := aeX (d := ByteArray.empty) WQ (by omega) B8
      have hzl : (S.extract (m + 1) S.size).size <= S.size := by
        have h7 := congrArg List.length (sD S (m + 1)); rw [cU, List.length_drop, cU] at h7; omega
      refine U.skip (U.seq (U.text ?_)); refine J.c (.move rfl) (J.c (.move rfl) (J.c (.move rfl) (J.c (.move rfl) ?_))); refine J.c (.move rfl) (J.c (.add rfl rfl (by omega)) ?_); refine J.r (.WZ (by kernel_rfl) rfl rfl (by omega)) ?_; rw [he1]; refine J.c (.ixO (j := i) rfl rfl m0 b8 (by omega)) ?_; refine J.YD i rfl rfl cJ (by omega) ?_; refine J.go (U.seq (U.text ?_)); refine J.c (.move rfl) (J.c (.move rfl) (J.c (.move rfl) ?_)); refine J.r (.gU) ?_; refine J.c (.add rfl rfl (by omega)) ?_; refine J.r (.X0 (by kernel_rfl) rfl rfl (by omega)) ?_; rw [he2]; refine J.c (.assign rfl) ?_; refine J.go (U.text ?_); refine J.c (.move rfl) (J.c (.add rfl rfl (by omega)) (J.c (.assign rfl) ?_)); refine J.nil ?_; refine ⟨_, [(0, St (S.extract (m + 1) S.size)), (1, St p), (2, I sv), (3, I ((((aS s).count (eR p) + 1 : Nat) : Int) - (1 : Int))), (9, .raw dE), (10, I (((i + 1) : Nat) : Int))], ?_, ⟨qA rfl (by first | rfl | simp | omega), rfl, rfl, rfl, rfl, rfl, trivial⟩, (i + 1), (S.extract (m + 1) S.size), rfl, rfl, (by rw [xI]), (by omega), (by exact gA), (by rw [sD]; omega), (by exact Nat.le_trans hzl hz)⟩; omega
    have hic : i = (aS s).count (eR p) := by omega
    have hS4 := hS; rw [abJ (s := S) (by omega)] at hS4; obtain ⟨LC, B8⟩ := PX (i := i) hS4 (by rw [List.length_take]; omega); have xI := aeX (d := ByteArray.empty) WQ LC B8
    have fU : ((dL (eR p) s).take i ++ List.replicate ((aS s).count (eR p) + 1 - i) ByteArray.empty).set i S = dL (eR p) s := by
      rw [xI, List.take_of_length_le (by omega), show (aS s).count (eR p) + 1 - (i + 1) = 0 by omega]; simp
    refine U.exit (U.seq (U.text ?_)); refine J.c (.move rfl) (J.c (.move rfl) (J.c (.move rfl) (J.c (.ixO (j := i) rfl rfl m0 b8 (by omega)) ?_))); refine J.YD i rfl rfl cJ (by omega) ?_; refine J.go (U.seq (U.text ?_)); refine J.c (.move rfl) (J.c (.move rfl) (J.c (.add rfl rfl (by omega)) ?_)); refine J.shut [(9, .v (.sl .str) (((dL (eR p) s).take i ++ List.replicate ((aS s).count (eR p) + 1 - i) ByteArray.empty).set i S)), (58, .v (.sl .str) (((dL (eR p) s).take i ++ List.replicate ((aS s).count (eR p) + 1 - i) ByteArray.empty).set i S)), (62, .v (.sl .str) (((dL (eR p) s).take i ++ List.replicate ((aS s).count (eR p) + 1 - i) ByteArray.empty).set i S))] (.cons rfl (.row m0) (.cons rfl (.row m0) (.cons rfl (.row m0) .nil))) ?_; refine J.r (.AB rfl rfl b8 (by rw [List.length_set]; omega)) ?_; refine J.c (.assign rfl) (J.go ?_); refine U.ret ?_; exact aR.one rfl aZ (dV (by rw [fU, List.take_of_length_le (by omega)]))
  omega
theorem X1 {s : ByteArray} {p : ByteArray} (hp : p.size = 1) (hs : s.size < 100000) : VF Tryz.prog OA 51 [St s, St p] (.v (.sl .str) (dL (eR p) s)) := by
  refine VF.enter Tryz.func51 rfl (fun _ _ => rfl) rfl ?_; show U _ _ _ _ _ [(0, St s), (1, St p)] [] _; refine U.seq (U.text ?_); refine J.c (.assign rfl) ?_; refine J.go (U.seq (U.text ?_)); refine J.c (.move rfl) (J.c (.move rfl) ?_); refine J.call rfl rfl (VF.call (aeY hp hs rfl rfl)) ?_; refine J.c (.assign rfl) (J.go ?_); refine U.ret ?_; exact aR.one rfl aZ (dV (by rfl))
end Go.Proofs
