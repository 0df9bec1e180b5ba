/- Parts of the proof: an evaluator of the model, what it is sound for, and contracts of functions. No condition. -/
import Derived.Test.YtjmkmalgfanifaaGreatDoorP5
set_option linter.all false
namespace Go.Proofs
open Go.Fs
set_option maxHeartbeats 1000000
abbrev y49 : Ty := (.pair (.int .i64) (.int .i64))
theorem vt49 : ValT Tryz.prog 49 y49 := valT_of (by kernel_rfl)
theorem vt111 : ValT Tryz.prog 111 y111 := valT_of (by kernel_rfl)
theorem vt168 : ValT Tryz.prog 168 y168 := valT_of (by kernel_rfl)
theorem zt49 : ZerT Tryz.prog 49 y49 := zerT_of (z := .agg #[.int .i64 0, .int .i64 0]) (by kernel_rfl) rfl rfl
theorem zt111 : ZerT Tryz.prog 111 y111 := zerT_of (z := .agg #[.int .i64 0, .int .i64 0]) (by kernel_rfl) rfl rfl
theorem zt168 : ZerT Tryz.prog 168 y168 := zerT_of (z := .agg #[.slice none 0 0, .int .i64 0, .int .i64 0]) (by kernel_rfl) rfl rfl
theorem bt49 : BldT Tryz.prog 49 y49 [(0, 1), (1, 1)] := bldT_of zt49 rfl (by kernel_rfl)
theorem bt168 : BldT Tryz.prog 168 y168 [(0, 1), (1, 1), (2, 1)] := bldT_of zt168 rfl (by kernel_rfl)
theorem eq111 : EqT Tryz.prog 111 y111 := eqT_of (by kernel_rfl)
structure ShpOk (l : List Shp) : Prop where
  len : l.length ≤ 8
  arr : ∀ i, 0 ≤ (shA l i).2.1 ∧ (shA l i).2.1 ≤ 100000
  lng : ∀ i, 0 ≤ (shA l i).2.2.1 ∧ (shA l i).2.2.1 ≤ 1000
  pri : ∀ i, 0 ≤ (shA l i).2.2.2.2 ∧ (shA l i).2.2.2.2 ≤ 1000
theorem ships_ok {l : List Shp} (h : shpsE l = 0) : ShpOk l := by
  unfold shpsE at h; by_cases h8 : 8 < ((l.length : Nat) : Int)
  · rw [if_pos h8] at h; cases h
  rw [if_neg h8] at h; have hz := firstR_zero.1 h
  have hall : ∀ i, (0 ≤ (shA l i).2.1 ∧ (shA l i).2.1 ≤ 100000) ∧ (0 ≤ (shA l i).2.2.1 ∧ (shA l i).2.2.1 ≤ 1000) ∧ (0 ≤ (shA l i).2.2.2.2 ∧ (shA l i).2.2.2.2 ≤ 1000) := fun i => by
    by_cases hi : i < l.length
    · have := firstE_zero.1 (hz i hi); have h1 := rangeE_zero.1 (this (rangeE (shA l i).2.1 0 100000) (by simp)); have h2 := rangeE_zero.1 (this (rangeE (shA l i).2.2.1 1 1000) (by simp)); have h3 := rangeE_zero.1 (this (rangeE (shA l i).2.2.2.2 1 1000) (by simp)); omega
    have : shA l i = (ByteArray.empty, 0, 0, 0, 0) := by simp [shA, List.getElem?_eq_none (show l.length ≤ i by omega)]
    rw [this]; simp
  exact ⟨by omega, fun i => (hall i).1, fun i => (hall i).2.1, fun i => (hall i).2.2⟩
def freeF (l : List Shp) (turn : Int) (last : Int × Int) (s : Nat) : Int :=
  if last = (-1, 0) then (shA l s).2.1 else max (last.2 + (shA l last.1.toNat).2.2.1 + (if (shA l last.1.toNat).2.2.2.1 ≠ (shA l s).2.2.2.1 then turn else 0)) (shA l s).2.1
def LastOk (l : List Shp) (last : Int × Int) : Prop := last = (-1, 0) ∨ (0 ≤ last.1 ∧ last.1 < ((l.length : Nat) : Int) ∧ 0 ≤ last.2 ∧ last.2 ≤ 100000)
theorem sides_eq {a b : Int} : [a, b] = [b, a] ↔ a = b := by
  constructor
  · intro h; exact (List.cons.inj h).1
  intro h; rw [h]
theorem free_last {l : List Shp} {last : Int × Int} (h : LastOk l last) (hn : ¬ last = (-1, 0)) : 0 ≤ last.1 ∧ last.1 < ((l.length : Nat) : Int) ∧ 0 ≤ last.2 ∧ last.2 ≤ 100000 := h.resolve_left hn
theorem cFree_ok {x : (List (ByteArray × Int × Int × Int × Int)) × Int × Int} {last : Int × Int} {s : Int} (hs : 0 ≤ s ∧ s < ((x.1.length : Nat) : Int)) (hok : ShpOk x.1) (htu : 0 ≤ x.2.1 ∧ x.2.1 ≤ 1000) (hla : LastOk x.1 last) : VF Tryz.prog OA 133 [.v y168 x, .v y111 last, I s] (I (freeF x.1 x.2.1 last s.toNat)) := by
  refine VF.enter Tryz.func133 rfl (fun _ _ => rfl) rfl ?_; show VC _ _ _ _ _ [(0, .v y168 x), (1, .v y111 last), (2, I s)] [] _; refine VC.seq (VC.text ?_); refine VO.new (.box) ?_; refine VO.new (.box) ?_; refine VO.c (.assign rfl) ?_; refine VO.go (VC.seq (VC.text ?_)); refine VO.c (.fa (.l .o)) ?_; refine VO.r (.ld vt62) ?_; refine VO.c (.move rfl) (VO.c (.ixZ rfl rfl el62 hs.1 hs.2) ?_); refine VO.r (.ld vt173) ?_; refine VO.cell (.alloc zt173) ?_; intro ww1; refine VO.setV (cs' := [St ((x.1[s.toNat]).1), I ((x.1[s.toNat]).2.1), I ((x.1[s.toNat]).2.2.1), I ((x.1[s.toNat]).2.2.2.1), I ((x.1[s.toNat]).2.2.2.2)]) vt173 .v ?_; refine VO.shut [(7, .p y173 (x.1[s.toNat]))] (.cons rfl (.var m0 .refl) .nil) ?_; refine VO.go (VC.seq (VC.seq (VC.text ?_))); refine VO.r (.ld vt111) ?_; refine VO.ldG (x := ((-1 : Int), (0 : Int))) (.head _) vt111 ?_; refine VO.c (.eeql eq111) (VO.go ?_); refine VC.condD rfl (fun c2 => ?_) (fun c2 => ?_)
  · refine VC.seq (VC.text ?_); refine VO.c (.fa (.r (.l .o))) ?_; refine VO.r (.ld vt3) ?_; refine VO.c (.assign rfl) (VO.go ?_); refine VC.ret ?_; exact VEnd.one rfl evT (pvI (by rw [freeF, if_pos c2, shA_eq (by omega)]))
  have hl := free_last hla c2; have hsa : shA x.1 s.toNat = x.1[s.toNat]'(by omega) := shA_eq (by omega); have hlb : shA x.1 last.1.toNat = x.1[last.1.toNat]'(by omega) := shA_eq (by omega); have hg := hok.lng last.1.toNat; rw [hlb] at hg; have ha := hok.arr s.toNat; rw [hsa] at ha; refine VC.skip (VC.seq (VC.text ?_)); refine VO.c (.fa (.l .o)) ?_; refine VO.r (.ld vt62) ?_; refine VO.c (.fa (.l .o)) ?_; refine VO.r (.ld vt3) ?_; refine VO.c (.ixZ (k := last.1) rfl rfl el62 (by omega) (by omega)) ?_; refine VO.r (.ld vt173) ?_; refine VO.cell (.alloc zt173) ?_; intro ww2; refine VO.setV (cs' := [St ((x.1[Int.toNat last.1]).1), I ((x.1[Int.toNat last.1]).2.1), I ((x.1[Int.toNat last.1]).2.2.1), I ((x.1[Int.toNat last.1]).2.2.2.1), I ((x.1[Int.toNat last.1]).2.2.2.2)]) vt173 .v ?_; refine VO.shut [(8, .p y173 (x.1[Int.toNat last.1]))] (.cons rfl (.var m0 .refl) .nil) ?_; refine VO.go (VC.seq (VC.text ?_)); refine VO.c (.fa (.r .o)) ?_; refine VO.r (.ld vt3) ?_; refine VO.c (.fa (.r (.r (.l .o)))) ?_; refine VO.r (.ld vt3) ?_; refine VO.c (.add rfl rfl (by omega)) (VO.c (.assign rfl) ?_); refine VO.go (VC.seq (VC.seq (VC.text ?_))); refine VO.c (.fa (.r (.r (.r (.l .o))))) ?_; refine VO.r (.ld vt3) ?_; refine VO.c (.fa (.r (.r (.r (.l .o))))) ?_; refine VO.r (.ld vt3) ?_; refine VO.c (.build ((x.1[Int.toNat last.1]).2.2.2.1, (x.1[s.toNat]).2.2.2.1) bt49) ?_; refine VO.cell (.alloc zt49) ?_; intro ww3; refine VO.setV (cs' := [I ((x.1[Int.toNat last.1]).2.2.2.1), I ((x.1[s.toNat]).2.2.2.1)]) vt49 .v ?_; refine VO.shut [(10, .p y49 ((x.1[Int.toNat last.1]).2.2.2.1, (x.1[s.toNat]).2.2.2.1))] (.cons rfl (.var m0 .refl) .nil) ?_; refine VO.go (VC.seq ?_); refine VC.keep [(3, .p y168 x), (7, .p y173 (x.1[s.toNat])), (8, .p y173 (x.1[Int.toNat last.1])), (9, I (last.2 + (x.1[Int.toNat last.1]).2.2.1)), (10, .p y49 ((x.1[Int.toNat last.1]).2.2.2.1, (x.1[s.toNat]).2.2.2.1))] ⟨rfl, rfl, rfl, rfl, rfl, trivial⟩ ?_; refine VC.text ?_; refine VO.r (.ld vt49) ?_; refine VO.c (.fa (.r (.r (.r (.l .o))))) ?_; refine VO.r (.ld vt3) ?_; refine VO.c (.fa (.r (.r (.r (.l .o))))) ?_; refine VO.r (.ld vt3) ?_; refine VO.c (.build ((x.1[s.toNat]).2.2.2.1, (x.1[Int.toNat last.1]).2.2.2.1) bt49) (VO.c (.arrCmp (xs := [(x.1[Int.toNat last.1]).2.2.2.1, (x.1[s.toNat]).2.2.2.1]) (ys := [(x.1[s.toNat]).2.2.2.1, (x.1[Int.toNat last.1]).2.2.2.1]) (.inr ⟨rfl, rfl⟩) rfl rfl rfl rfl (by kernel_rfl) rfl) (VO.go ?_)); refine VC.join [(7, .p y173 (x.1[s.toNat])), (9, I (last.2 + (x.1[last.1.toNat]'(by omega)).2.2.1 + (if (x.1[last.1.toNat]'(by omega)).2.2.2.1 ≠ (x.1[s.toNat]'(by omega)).2.2.2.1 then x.2.1 else 0)))] [] ?_ ?_; refine VC.condB rfl (fun c7 => ?_) (fun c7 => ?_)
  · try simp only [Bool.and_eq_true, Bool.or_eq_true, Bool.and_eq_false_iff, Bool.or_eq_false_iff, Bool.not_eq_true', Bool.not_eq_false', decide_eq_true_eq, decide_eq_false_iff_not] at c7
    refine VC.text ?_; refine VO.c (.move rfl) (VO.c (.fa (.r (.l .o))) ?_); refine VO.r (.ld vt3) ?_; refine VO.c (.add rfl rfl (by omega)) (VO.c (.assign rfl) ?_); refine VO.nil ?_; exact ⟨⟨rfl, slI rfl (by first | (rw [if_pos (fun h => c7 (sides_eq.2 h))]; done) | (rw [if_neg (fun h => h (sides_eq.1 c7))]; omega)), trivial⟩, rfl⟩
  · try simp only [Bool.and_eq_true, Bool.or_eq_true, Bool.and_eq_false_iff, Bool.or_eq_false_iff, Bool.not_eq_true', Bool.not_eq_false', decide_eq_true_eq, decide_eq_false_iff_not] at c7
    refine VC.skip ?_; exact ⟨⟨rfl, slI rfl (by first | (rw [if_pos (fun h => c7 (sides_eq.2 h))]; done) | (rw [if_neg (fun h => h (sides_eq.1 c7))]; omega)), trivial⟩, rfl⟩
  refine VC.seq (VC.text ?_); refine VO.c (.move rfl) (VO.c (.fa (.r (.l .o))) ?_); refine VO.r (.ld vt3) ?_; refine VO.c (.imax) (VO.c (.assign rfl) (VO.go ?_)); refine VC.ret ?_; exact VEnd.one rfl evT (pvI (by rw [freeF, if_neg c2, hsa, hlb]))
def paA (p : List (Int × Int)) (i : Nat) : Int × Int := p.getD i (0, 0)
theorem paA_eq {p : List (Int × Int)} {i : Nat} (h : i < p.length) : paA p i = p[i] := by simp [paA, h]
def twiP (p : List (Int × Int)) (i : Nat) (s : Int) : Bool := (p.take i).any fun x => decide (x.1 = s)
def lastP (p : List (Int × Int)) : Nat → Int × Int
  | 0 => (-1, 0)
  | i + 1 => paA p i
def pasX (l : List Shp) (turn clear : Int) (y last : Int × Int) (t : Bool) : Int := firstE [whenE t 9, whenE (decide (y.2 < freeF l turn last y.1.toNat)) 11, whenE (decide (clear - (shA l y.1.toNat).2.2.1 < y.2)) 21]
def pasE (l : List Shp) (turn clear : Int) (p : List (Int × Int)) (i : Nat) : Int :=
  if (paA p i).1 < 0 ∨ ((l.length : Nat) : Int) ≤ (paA p i).1 then 10 else pasX l turn clear (paA p i) (lastP p i) (twiP p i (paA p i).1)
def passE (l : List Shp) (turn clear : Int) (p : List (Int × Int)) : Int := firstR (pasE l turn clear p) 0 p.length
def sumP (l : List Shp) (p : List (Int × Int)) : Nat → Int
  | 0 => 0
  | i + 1 => sumP l p i + (shA l (paA p i).1.toNat).2.2.2.2
theorem sumP_b {l : List Shp} (h : ShpOk l) {p : List (Int × Int)} : ∀ i, 0 ≤ sumP l p i ∧ sumP l p i ≤ 1000 * ((i : Nat) : Int)
  | 0 => by simp [sumP]
  | i + 1 => by
    have h1 := sumP_b h (p := p) i; have h2 := h.pri (paA p i).1.toNat; show 0 ≤ sumP l p i + _ ∧ sumP l p i + _ ≤ _; omega
theorem pas_ok {l : List Shp} (hok : ShpOk l) {turn clear : Int} {p : List (Int × Int)} {i : Nat} (hc : clear ≤ 100000) (h : pasE l turn clear p i = 0) : (0 ≤ (paA p i).1 ∧ (paA p i).1 < ((l.length : Nat) : Int)) ∧ twiP p i (paA p i).1 = false ∧ freeF l turn (lastP p i) (paA p i).1.toNat ≤ (paA p i).2 ∧ (paA p i).2 ≤ clear - (shA l (paA p i).1.toNat).2.2.1 ∧ 0 ≤ (paA p i).2 ∧ (paA p i).2 ≤ 100000 := by
  unfold pasE at h; by_cases hr : (paA p i).1 < 0 ∨ ((l.length : Nat) : Int) ≤ (paA p i).1
  · rw [if_pos hr] at h; cases h
  rw [if_neg hr] at h; have hz := firstE_zero.1 h; have h1 := (whenE_zero (by decide)).1 (hz _ List.mem_cons_self); have h2 := of_decide_eq_false ((whenE_zero (by decide)).1 (hz _ (List.mem_cons_of_mem _ List.mem_cons_self))); have h3 := of_decide_eq_false ((whenE_zero (by decide)).1 (hz _ (List.mem_cons_of_mem _ (List.mem_cons_of_mem _ List.mem_cons_self)))); have h4 := hok.lng (paA p i).1.toNat; have h5 := hok.arr (paA p i).1.toNat
  have h6 : (shA l (paA p i).1.toNat).2.1 ≤ freeF l turn (lastP p i) (paA p i).1.toNat := by
    unfold freeF; by_cases e : lastP p i = (-1, 0)
    · rw [if_pos e]; omega
    rw [if_neg e]; omega
  exact ⟨by omega, h1, by omega, by omega, by omega, by omega⟩
theorem last_ok {l : List Shp} (hok : ShpOk l) {turn clear : Int} {p : List (Int × Int)} (hc : clear ≤ 100000) {i : Nat} (h : ∀ j, j < i → pasE l turn clear p j = 0) : LastOk l (lastP p i) := by
  cases i with
  | zero => exact .inl rfl
  | succ i =>
    have := pas_ok hok hc (h i (by omega)); exact .inr ⟨this.1.1, this.1.2, this.2.2.2.2.1, this.2.2.2.2.2⟩
theorem pass_r {l : List Shp} {turn clear : Int} {p : List (Int × Int)} {i : Nat} (hw : passE l turn clear p = firstR (pasE l turn clear p) i p.length) (hi : i < p.length) (hz : pasE l turn clear p i ≠ 0) : passE l turn clear p = pasE l turn clear p i := by
  rw [hw, firstR_step hi, if_neg hz]
theorem pas_u {l : List Shp} {turn clear : Int} {p : List (Int × Int)} {i : Nat} (hi : i < p.length) (h : p[i].1 < 0 ∨ ((l.length : Nat) : Int) ≤ p[i].1) : pasE l turn clear p i = 10 := by
  rw [pasE, paA_eq hi, if_pos h]
theorem pas_x {l : List Shp} {turn clear : Int} {p : List (Int × Int)} {i : Nat} (hi : i < p.length) (h : ¬ (p[i].1 < 0 ∨ ((l.length : Nat) : Int) ≤ p[i].1)) : pasE l turn clear p i = pasX l turn clear p[i] (lastP p i) (twiP p i p[i].1) := by
  rw [pasE, paA_eq hi, if_neg h]
theorem zIndexPa_ok {F : Int × Int → Bool} {l : List (Int × Int)} {f : PV} (hl : l.length < 1000000) (hf : ∀ x ∈ l, VCall Tryz.prog OA f [.v y111 x] (B (F x))) : VF Tryz.prog OA 153 [.v y59 l, f] (I (idxG F l 0)) := by
  refine VF.enter Tryz.func153 rfl (fun _ _ => rfl) rfl ?_; show VC _ _ _ _ _ [(0, .v y59 l), (1, f)] [] _; refine VC.seq (VC.text ?_); refine VO.c (.assign rfl) ?_; refine VO.go (VC.seq (VC.seq (VC.text ?_))); refine VO.c (.move rfl) ?_; refine VO.r (.len el59) ?_; refine VO.c (.move rfl) ?_; refine VO.go (VC.block ?_); refine VC.keep [(0, .v y59 l), (1, f), (7, I ((l.length : Nat) : Int)), (8, I ((0 : Nat) : Int))] ⟨rfl, rfl, rfl, rfl, trivial⟩ ?_; refine VC.loop (I := fun kk ff ss => ∃ (j : Nat), kk = l.length - j ∧ ff = [(0, .v y59 l), (1, f), (7, I ((l.length : Nat) : Int)), (8, I ((j : Nat) : Int))] ∧ ss = [] ∧ (j ≤ l.length) ∧ (idxG F l 0 = idxG F (l.drop j) (j : Nat))) ?_ _ _ _ ⟨0, rfl, rfl, rfl, Nat.zero_le _, (by rfl)⟩; rintro kk ff ss ⟨j, hk0, rfl, rfl, hj, hi⟩; refine VC.seq (VC.text ?_); refine VO.c (.lss) ?_; refine VO.go (VC.seq ?_); refine VC.condD rfl (fun c2 => ?_) (fun c2 => ?_)
  · refine VC.skip (VC.seq (VC.block (VC.seq (VC.text ?_)))); refine VO.c (.move rfl) (VO.c (.assign rfl) ?_); refine VO.go (VC.seq (VC.text ?_)); refine VO.c (.move rfl) (VO.c (.move rfl) (VO.c (.move rfl) (VO.c (.ix (j := j) rfl rfl el59 (by omega)) ?_))); refine VO.r (.ld vt111) ?_; refine VO.call rfl rfl ((hf _ (List.getElem_mem _)) ) ?_; refine VO.go ?_; refine VC.condB rfl (fun c4 => ?_) (fun c4 => ?_)
    · refine VC.seq (VC.text ?_); refine VO.c (.move rfl) (VO.c (.assign rfl) (VO.go ?_)); refine VC.ret ?_; exact VEnd.one rfl evT (pvI (by rw [hi, idxG_drop (by omega), if_pos c4]))
    refine VC.skip (VC.text ?_); refine VO.c (.add rfl rfl (by omega)) (VO.c (.move rfl) ?_); refine VO.nil ?_; refine ⟨_, [(0, .v y59 l), (1, f), (7, I ((l.length : Nat) : Int)), (8, I (((j + 1) : Nat) : Int))], ?_, ⟨rfl, rfl, rfl, rfl, trivial⟩, (j + 1), rfl, rfl, rfl, (by omega), (by rw [hi, idxG_drop (by omega), if_neg (by rw [c4]; decide)])⟩; omega
  refine VC.exit (VC.seq (VC.text ?_)); refine VO.c (.assign rfl) (VO.go ?_); refine VC.ret ?_; exact VEnd.one rfl evT (pvI (by rw [hi, idxG_end (by omega)]))
theorem zContPa_ok {F : Int × Int → Bool} {l : List (Int × Int)} {f : PV} (hl : l.length < 1000000) (hf : ∀ x ∈ l, VCall Tryz.prog OA f [.v y111 x] (B (F x))) : VF Tryz.prog OA 121 [.v y59 l, f] (B (l.any F)) := by
  refine VF.enter Tryz.func121 rfl (fun _ _ => rfl) rfl ?_; show VC _ _ _ _ _ [(0, .v y59 l), (1, f)] [] _; refine VC.seq (VC.text ?_); refine VO.c (.assign rfl) ?_; refine VO.go (VC.seq (VC.text ?_)); refine VO.c (.move rfl) (VO.c (.move rfl) ?_); refine VO.call rfl rfl (VF.call (zIndexPa_ok (F := F) hl hf)) ?_; refine VO.c (.geq) (VO.c (.assign rfl) (VO.go ?_)); refine VC.ret ?_; exact VEnd.one rfl evT (pvE (by have h9 := idxG_any (F := F) (l := l) (k := 0) (by omega); cases h8 : l.any F <;> simp_all))
theorem cPas1_ok {o : Int × Int} {y : Int × Int} : VF Tryz.prog OA 132 [.v y111 o, .p y111 y] (B (decide (o.1 = y.1))) := by
  refine VF.enter Tryz.func132 rfl (fun _ _ => rfl) rfl ?_; show VC _ _ _ _ _ [(0, .v y111 o), (1, .p y111 y)] [] _; refine VC.seq (VC.text ?_); refine VO.new (.box) ?_; refine VO.c (.assign rfl) ?_; refine VO.go (VC.seq (VC.text ?_)); refine VO.c (.fa (.l .o)) ?_; refine VO.r (.ld vt3) ?_; refine VO.c (.fa (.l .o)) ?_; refine VO.r (.ld vt3) ?_; refine VO.c (.eql) (VO.c (.assign rfl) (VO.go ?_)); refine VC.ret ?_; exact VEnd.one rfl evT (pvE (by rfl))
def passR (l : List Shp) (turn clear : Int) (p : List (Int × Int)) : Int := if lockE l turn clear = 0 then passE l turn clear p else lockE l turn clear
theorem lock_ok {l : List Shp} {turn clear : Int} (h : lockE l turn clear = 0) : ShpOk l ∧ (0 ≤ turn ∧ turn ≤ 1000) ∧ 0 ≤ clear ∧ clear ≤ 100000 := by
  have hz := firstE_zero.1 h; exact ⟨ships_ok (hz _ List.mem_cons_self), rangeE_zero.1 (hz _ (List.mem_cons_of_mem _ List.mem_cons_self)), rangeE_zero.1 (hz _ (List.mem_cons_of_mem _ (List.mem_cons_of_mem _ List.mem_cons_self)))⟩
theorem cPassages_ok {l : List (ByteArray × Int × Int × Int × Int)} {turn : Int} {clear : Int} {p : List (Int × Int)} (hl : l.length < 100000) (hp : p.length < 1000) : VF Tryz.prog OA 64 [.v y62 l, I turn, I clear, .v y59 p] (.tup [I (if passR l turn clear p = 0 then sumP l p p.length else 0), I (passR l turn clear p)]) := by
  refine VF.enter Tryz.func64 rfl (fun _ _ => rfl) rfl ?_; show VC _ _ _ _ _ [(0, .v y62 l), (1, I turn), (2, I clear), (3, .v y59 p)] [] _; refine VC.seq (VC.text ?_); refine VO.c (.assign rfl) (VO.c (.assign rfl) ?_); refine VO.go (VC.seq (VC.text ?_)); refine VO.c (.move rfl) (VO.c (.move rfl) (VO.c (.move rfl) (VO.c (.build (l, turn, clear) bt168) ?_))); refine VO.cell (.alloc zt168) ?_; intro ww4; refine VO.setV (cs' := [.v y62 l, I turn, I clear]) vt168 .v ?_; refine VO.shut [(10, .p y168 (l, turn, clear))] (.cons rfl (.var m0 .refl) .nil) ?_; refine VO.go (VC.seq (VC.seq (VC.text ?_))); refine VO.r (.ld vt168) ?_; refine VO.call rfl rfl (VF.call (cLockC_ok hl)) ?_; refine VO.c (.assign rfl) ?_; refine VO.go (VC.seq (VC.text ?_)); refine VO.c (.move rfl) (VO.c (.neq) (VO.go ?_)); refine VC.condD rfl (fun c3 => ?_) (fun c3 => ?_)
  · refine VC.seq (VC.text ?_); refine VO.c (.move rfl) (VO.c (.assign rfl) (VO.c (.assign rfl) (VO.go ?_))); refine VC.ret ?_; exact VEnd.two rfl evT evT (pvI (by rw [if_neg (by rw [passR, if_neg c3]; exact c3)])) (pvI (by rw [passR, if_neg c3] <;> rfl))
  have hL : lockE l turn clear = 0 := Classical.not_not.1 c3; have hO := lock_ok hL; have hok := hO.1; have hl8 := hok.len
  have hR : passR l turn clear p = passE l turn clear p := by rw [passR, if_pos hL]
  refine VC.skip (VC.seq (VC.text ?_)); refine VO.c (.assign rfl) ?_; refine VO.go (VC.seq (VC.text ?_)); refine VO.ldG (x := ((-1 : Int), (0 : Int))) (.head _) vt111 ?_; refine VO.cell (.alloc zt111) ?_; intro ww5; refine VO.setV (cs' := [I (-1 : Int), I (0 : Int)]) vt111 .v ?_; refine VO.go (VC.seq (VC.seq (VC.text ?_))); refine VO.c (.move rfl) ?_; refine VO.r (.len el59) ?_; refine VO.c (.move rfl) ?_; refine VO.go (VC.block ?_); refine VC.keep [(0, .v y62 l), (2, I clear), (3, .v y59 p), (10, .p y168 (l, turn, clear)), (12, I (sumP l p 0)), (13, .raw ww5), (28, .v y59 p), (29, I ((p.length : Nat) : Int)), (30, I ((0 : Nat) : Int))] ⟨rfl, rfl, rfl, rfl, rfl, rfl, rfl, rfl, rfl, trivial⟩ ?_; refine VC.loop (I := fun kk ff ss => ∃ (i : Nat), kk = p.length - i ∧ ff = [(0, .v y62 l), (2, I clear), (3, .v y59 p), (10, .p y168 (l, turn, clear)), (12, I (sumP l p i)), (13, .raw ww5), (28, .v y59 p), (29, I ((p.length : Nat) : Int)), (30, I ((i : Nat) : Int))] ∧ ss = [(ww5, .var [I ((lastP p i).1), I ((lastP p i).2)])] ∧ (i ≤ p.length) ∧ (passE l turn clear p = firstR (pasE l turn clear p) i p.length) ∧ (∀ j, j < i → pasE l turn clear p j = 0)) ?_ _ _ _ ⟨0, rfl, rfl, rfl, Nat.zero_le _, (by rfl), (by intro j hj; omega)⟩; rintro kk ff ss ⟨i, hk0, rfl, rfl, hi, hw, hq⟩; refine VC.seq (VC.text ?_); refine VO.c (.lss) ?_; refine VO.go (VC.seq ?_); refine VC.condD rfl (fun c8 => ?_) (fun c8 => ?_)
  · have hlt : i < p.length := by omega
    have hsb := sumP_b hok (p := p) i; have hlo := last_ok hok hO.2.2.2 hq; refine VC.skip (VC.seq (VC.block (VC.seq (VC.text ?_)))); refine VO.c (.move rfl) (VO.c (.ix (j := i) rfl rfl el59 (by omega)) ?_); refine VO.r (.ld vt111) ?_; refine VO.cell (.alloc zt111) ?_; intro ww6; refine VO.c (.assign rfl) ?_; refine VO.setV (cs' := [I ((p[i]).1), I ((p[i]).2)]) vt111 .v ?_; refine VO.shut [(15, .p y111 (p[i]))] (.cons rfl (.var m0 .refl) .nil) ?_; refine VO.go (VC.seq (VC.seq (VC.text ?_))); refine VO.c (.fa (.l .o)) ?_; refine VO.r (.ld vt3) ?_; refine VO.c (.lss) (VO.c (.move rfl) ?_); refine VO.cg (r := decide ((p[i]).1 < (0 : Int))) (w := false) [] trivial (fun _ => (.fa (.l .o))) ?_; refine VO.rg (r := decide ((p[i]).1 < (0 : Int))) (w := false) [(39, .p (.int .i64) ((p[i]).1))] ⟨rfl, trivial⟩ (fun _ => (.ld vt3)) ?_; refine VO.cg (r := decide ((p[i]).1 < (0 : Int))) (w := false) [] trivial (fun _ => (.move rfl)) ?_; refine VO.rg (r := decide ((p[i]).1 < (0 : Int))) (w := false) [(41, .v y62 l)] ⟨rfl, trivial⟩ (fun _ => (.len el62)) ?_; refine VO.cg (r := decide ((p[i]).1 < (0 : Int))) (w := false) [(40, I ((p[i]).1)), (42, I ((l.length : Nat) : Int))] ⟨rfl, rfl, trivial⟩ (fun _ => (.geq)) ?_; refine VO.c (.or) (VO.go ?_); refine VC.condB rfl (fun c10 => ?_) (fun c10 => ?_)
    · try simp only [Bool.and_eq_true, Bool.or_eq_true, Bool.and_eq_false_iff, Bool.or_eq_false_iff, Bool.not_eq_true', Bool.not_eq_false', decide_eq_true_eq, decide_eq_false_iff_not] at c10
      refine VC.seq (VC.text ?_); refine VO.c (.assign rfl) (VO.c (.assign rfl) (VO.go ?_)); refine VC.ret ?_; exact VEnd.two rfl evT evT (pvI (by rw [if_neg (by rw [hR, pass_r hw hlt (by rw [pas_u hlt c10]; decide), pas_u hlt c10]; decide)])) (pvI (by rw [hR, pass_r hw hlt (by rw [pas_u hlt c10]; decide), pas_u hlt c10]))
    try simp only [Bool.and_eq_true, Bool.or_eq_true, Bool.and_eq_false_iff, Bool.or_eq_false_iff, Bool.not_eq_true', Bool.not_eq_false', decide_eq_true_eq, decide_eq_false_iff_not] at c10
    have hx := pas_x (l := l) (turn := turn) (clear := clear) hlt (by omega)
    have hx2 : pasE l turn clear p i = firstE [whenE ((p.take ((i : Nat) : Int).toNat).any fun o => decide (o.1 = (paA p i).1)) 9, whenE (decide (p[i].2 < freeF l turn (lastP p i) (p[i].1).toNat)) 11, whenE (decide (clear - (l[(p[i].1).toNat]'(by omega)).2.2.1 < p[i].2)) 21] := by rw [hx, pasX, shA_eq (by omega), paA_eq hlt] <;> rfl
    have hga := hok.lng (p[i].1).toNat; rw [shA_eq (by omega)] at hga; have hpr := hok.pri (p[i].1).toNat; rw [shA_eq (by omega)] at hpr; refine VC.skip (VC.seq (VC.text ?_)); refine VO.c (.move rfl) (VO.c (.move rfl) ?_); refine VO.r (.cutH rfl rfl el59 (by omega)) ?_; refine VO.c (.func) ?_; refine VO.call rfl rfl (VF.call (zContPa_ok (F := fun o => decide (o.1 = (paA p i).1)) (by rw [List.length_take]; omega) (fun o _ => by rw [paA_eq hlt]; exact VF.clo cPas1_ok))) ?_; refine VO.c (.assign rfl) ?_; refine VO.go (VC.seq (VC.seq (VC.drawn ?_))); refine VD.c (.move rfl) ?_; refine VD.call rfl rfl (VF.call (cWhen_ok )) ?_; refine VD.c (.fa (.r .o)) ?_; refine VD.r [] (.ld vt3) (.inl rfl) ?_; refine VD.r [] (.ld vt168) (.inl rfl) ?_; refine VD.r [(ww5, .var [I ((lastP p i).1), I ((lastP p i).2)])] (.ldA (dx := (((lastP p i).1), ((lastP p i).2))) m0 vt111) (.inr ⟨rfl, rfl⟩) ?_; refine VD.nw [] (VD.c (.fa (.l .o)) ?_); refine VD.r [] (.ld vt3) (.inl rfl) ?_; refine VD.call rfl rfl (VF.call (cFree_ok ⟨(by omega), (show p[i].1 < ((l.length : Nat) : Int) by omega)⟩ hok hO.2.1 hlo)) ?_; refine VD.c (.lss) ?_; refine VD.call rfl rfl (VF.call (cWhen_ok )) ?_; refine VD.c (.fa (.r .o)) ?_; refine VD.r [] (.ld vt3) (.inl rfl) ?_; refine VD.nw [] (VD.c (.move rfl) (VD.c (.move rfl) (VD.c (.fa (.l .o)) ?_))); refine VD.r [] (.ld vt3) (.inl rfl) ?_; refine VD.c (.ixZ (k := (p[i]).1) rfl rfl el62 (by omega) (by omega)) (VD.c (.fa (.r (.r (.l .o)))) ?_); refine VD.r [] (.ld vt3) (.inl rfl) ?_; refine VD.nw [] (VD.c (.sub rfl rfl (by omega)) (VD.c (.gtr) ?_)); refine VD.call rfl rfl (VF.call (cWhen_ok )) ?_; refine VD.new (.lit [whenE ((p.take (((i : Nat) : Int)).toNat).any (fun o => decide (o.1 = (paA p i).1))) (9 : Int), whenE (decide ((p[i]).2 < freeF l turn (((lastP p i).1), ((lastP p i).2)) ((p[i]).1).toNat)) (11 : Int), whenE (decide ((clear - (l[Int.toNat ((p[i]).1)]).2.2.1) < (p[i]).2)) (21 : Int)] el154) ?_; refine VD.callO rfl rfl (VF.call (cFirst_ok (by simp))) ?_; refine VD.c (.assign rfl) ?_; refine VD.go (VC.seq ?_); refine VC.keep [(0, .v y62 l), (2, I clear), (3, .v y59 p), (10, .p y168 (l, turn, clear)), (12, I (sumP l p i)), (13, .raw ww5), (15, .p y111 (p[i])), (17, I (firstE [whenE ((p.take (((i : Nat) : Int)).toNat).any (fun o => decide (o.1 = (paA p i).1))) (9 : Int), whenE (decide ((p[i]).2 < freeF l turn (((lastP p i).1), ((lastP p i).2)) ((p[i]).1).toNat)) (11 : Int), whenE (decide ((clear - (l[Int.toNat ((p[i]).1)]).2.2.1) < (p[i]).2)) (21 : Int)])), (28, .v y59 p), (29, I ((p.length : Nat) : Int)), (30, I ((i : Nat) : Int))] ⟨rfl, rfl, rfl, rfl, rfl, rfl, rfl, rfl, rfl, rfl, rfl, trivial⟩ ?_; refine VC.text ?_; refine VO.c (.move rfl) (VO.c (.neq) (VO.go ?_)); refine VC.condD rfl (fun c14 => ?_) (fun c14 => ?_)
    · refine VC.seq (VC.text ?_); refine VO.c (.move rfl) (VO.c (.assign rfl) (VO.c (.assign rfl) (VO.go ?_))); refine VC.ret ?_; exact VEnd.two rfl evT evT (pvI (by rw [if_neg (by rw [hR, pass_r hw hlt (by rw [hx2]; exact c14), hx2]; exact c14)])) (pvI (by rw [hR, pass_r hw hlt (by rw [hx2]; exact c14), hx2]))
    have hz : pasE l turn clear p i = 0 := by rw [hx2]; exact Classical.not_not.1 c14
    have hpo := pas_ok hok hO.2.2.2 hz; refine VC.skip (VC.seq (VC.text ?_)); refine VO.c (.move rfl) (VO.c (.move rfl) (VO.c (.fa (.l .o)) ?_)); refine VO.r (.ld vt3) ?_; refine VO.c (.ixZ (k := (p[i]).1) rfl rfl el62 (by omega) (by omega)) (VO.c (.fa (.r (.r (.r (.r .o))))) ?_); refine VO.r (.ld vt3) ?_; refine VO.c (.add rfl rfl (by omega)) (VO.c (.assign rfl) ?_); refine VO.go (VC.text ?_); refine VO.r (.ld vt111) ?_; refine VO.setV (cs' := [I ((p[i]).1), I ((p[i]).2)]) vt111 .v ?_; refine VO.nil (VC.text ?_); refine VO.c (.add rfl rfl (by omega)) (VO.c (.move rfl) ?_); refine VO.nil ?_; refine ⟨_, [(0, .v y62 l), (2, I clear), (3, .v y59 p), (10, .p y168 (l, turn, clear)), (12, I (sumP l p (i + 1))), (13, .raw ww5), (28, .v y59 p), (29, I ((p.length : Nat) : Int)), (30, I (((i + 1) : Nat) : Int))], ?_, ⟨rfl, rfl, rfl, rfl, slI rfl (by rw [sumP, paA_eq hlt, shA_eq (by omega)]), rfl, rfl, rfl, rfl, trivial⟩, (i + 1), rfl, rfl, (by simp only [lastP, paA_eq hlt]), (by omega), (by rw [hw, firstR_step hlt, if_pos hz]), (by intro j hj; rcases Nat.lt_succ_iff_lt_or_eq.1 hj with h | h; exact hq j h; subst h; exact hz)⟩; omega
  have hpl : i = p.length := by omega
  have hR0 : passR l turn clear p = 0 := by rw [hR, hw, firstR_end (by omega)]
  refine VC.exit (VC.seq (VC.text ?_)); refine VO.c (.move rfl) (VO.c (.assign rfl) (VO.c (.assign rfl) (VO.go ?_))); refine VC.ret ?_; exact VEnd.two rfl evT evT (pvI (by rw [if_pos hR0, hpl])) (pvI (by exact hR0.symm))
end Go.Proofs
namespace Go.Proofs
open Go.Fs
set_option maxHeartbeats 1000000
def curK (o : List Int) (y : Int) (k : Nat) : List Int := o.take k ++ y :: o.drop k
def bubK (o : List Int) (y : Int) : Nat → List Int
  | 0 => y :: o
  | k + 1 => if y < o.getD k 0 then bubK o y k else curK o y (k + 1)
def shpL (p : List (Int × Int)) : Nat → List Int
  | 0 => []
  | i + 1 => bubK (shpL p i) (paA p i).1 (shpL p i).length
theorem curK_len {o : List Int} {y : Int} {k : Nat} (h : k ≤ o.length) : (curK o y k).length = o.length + 1 := by
  simp [curK]; omega
theorem bubK_len {o : List Int} {y : Int} : ∀ k, k ≤ o.length → (bubK o y k).length = o.length + 1
  | 0, _ => by simp [bubK]
  | k + 1, h => by
    unfold bubK; split
    · exact bubK_len k (by omega)
    exact curK_len h
theorem shpL_len {p : List (Int × Int)} : ∀ i, (shpL p i).length = i
  | 0 => rfl
  | i + 1 => by rw [shpL, bubK_len _ (Nat.le_refl _), shpL_len i]
theorem last_take {p : List (Int × Int)} {i : Nat} (hi : i ≤ p.length) : (i = 0 → lastP p i = (-1, 0)) ∧ ∀ h : 0 < (p.take i).length, lastP p i = (p.take i)[(p.take i).length - 1] := by
  cases i with
  | zero => exact ⟨fun _ => rfl, fun h => by simp at h⟩
  | succ i =>
    refine ⟨fun h => (by omega), fun h => ?_⟩
    · show paA p i = _; rw [paA_eq (by omega), List.getElem_take]; congr 1; rw [List.length_take]; omega
def endP (q : List (Int × Int)) : Int × Int := lastP q q.length
theorem pasX_0 {l : List Shp} {turn clear : Int} {y last : Int × Int} {t : Bool} (h : t = false) (h2 : ¬ y.2 < freeF l turn last y.1.toNat) (h3 : ¬ clear - (shA l y.1.toNat).2.2.1 < y.2) : pasX l turn clear y last t = 0 := by
  subst h; unfold pasX; rw [decide_eq_false h2, decide_eq_false h3] <;> rfl
end Go.Proofs
namespace Go.Proofs
open Go.Fs
set_option maxHeartbeats 1000000
end Go.Proofs
namespace Go.Fs
variable {P : Program} {orc : FuncId → List Value → Heap → Option (Value × Heap)} {rnd : Option Nat} {h h' h0 h1 h2 : Heap} {S S' S0 B G : List Nat} {σ σ' σr : Sto} {t t' : Tr} {ms : List Nat} {fl : VL} {ops : Array Oper} {n i mem : Nat} {l : List Oper} {K : VL → Sto → Prop} {Q : Ex → VL → Sto → Prop}
  {d : Tmp} {ty : TypeId} {pos : String} {after : Array Edge} {op : Op} {v pv : PV} {g : Option (Nat × Bool)} {x y z : Operand} {T T' e : TypeId} {τ τ' : Ty} {bs nw : List Nat} {segs : List (Nat × Nat × Nat)} {tail so : Bool} {w w' : Value} {c c' : Cell}
end Go.Fs
namespace Go.Fs
variable {P : Program} {fl : VL} {σ : Sto} {T : TypeId} {τ : Ty} {h : Heap} {S : List Nat}
inductive PartP : PV → List PV → Prop where
  | v {τ : Ty} {x : τ.den} : PartP (.v τ x) (cellsPV τ x)
  | w {w : Value} (ho : oneCell w = true) : PartP (.raw w) [.raw w]
inductive BldR (pl : List (Nat × Nat)) : List PV → List Nat → List PV → List PV → Prop where
  | nil {L L' : List PV} (h : L = L') : BldR pl L [] [] L'
  | cons {L L' : List PV} {i o : Nat} {is : List Nat} {p : PV} {ps qs : List PV} (hp : PartP p qs) (hpl : pl[i]? = some (o, qs.length)) (ho : Nat.ble (o + qs.length) L.length = true) (r : BldR pl (spl L o qs) is ps L') : BldR pl L (i :: is) (p :: ps) L'
end Go.Fs
namespace Go.Fs
variable {P : Program} {fl : VL} {σ : Sto} {T T' : TypeId} {x y : Operand} {p q : Int}
end Go.Fs
namespace Go.Fs
variable {P : Program} {orc : FuncId → List Value → Heap → Option (Value × Heap)} {h : Heap} {σ ρ : Sto} {fl : VL} {ops : Array Oper} {n i mem : Nat} {l : List Oper} {K : VL → Sto → Prop} {nw bs : List Nat} {tl : Bool} {hr : Heap} {S0 A : List Nat} {t : Tr} {rd chg : List Nat}
def keysNew : VL → List Nat → List Nat
  | [], nw => nw
  | (k, _) :: r, nw => k :: keysNew r nw
theorem keysNew_no : ∀ {nl : VL} {nw : List Nat} {k : Nat}, nwHas (keysNew nl nw) k = false → (∀ pv, lkV (nl ++ fl) k = some pv → lkV fl k = some pv) ∧ nwHas nw k = false
  | [], nw, k, h => ⟨fun _ h => h, h⟩
  | (j, v) :: r, nw, k, h => by
    simp only [keysNew, nwHas] at h
    cases hb : Nat.beq j k with
    | true => rw [hb] at h; cases h
    | false =>
      rw [hb] at h; obtain ⟨h1, h2⟩ := keysNew_no (nl := r) h; refine ⟨fun pv hp => h1 pv ?_, h2⟩; simp only [List.cons_append, lkV, hb, cond_false] at hp; exact hp
end Go.Fs
namespace Go.Fs
variable {P : Program} {orc : FuncId → List Value → Heap → Option (Value × Heap)} {rnd : Option Nat} {h h' h0 h1 h2 hr : Heap} {S S' S0 B G A : List Nat} {σ σ' σr ρ : Sto} {t t' : Tr} {ms : List Nat} {fl : VL} {ops : Array Oper} {n i mem : Nat} {l : List Oper} {K : VL → Sto → Prop}
  {d : Tmp} {ty : TypeId} {pos : String} {after : Array Edge} {op : Op} {v pv : PV} {g : Option (Nat × Bool)} {x y z : Operand} {T T' e : TypeId} {τ τ' : Ty} {bs nw rd chg : List Nat} {segs : List (Nat × Nat × Nat)} {tail tl : Bool} {w w' : Value}
end Go.Fs
namespace Go.Proofs
open Go.Fs
set_option maxHeartbeats 1000000
def cmpI (a b : Int) : Int := if a < b then -1 else if b < a then 1 else 0
theorem zNaN_ok {x : Int} : VF Tryz.prog OA 184 [I x] (B false) := by
  refine VF.enter Tryz.func184 rfl (fun _ _ => rfl) rfl ?_; show VC _ _ _ _ _ [(0, I x)] [] _; refine VC.seq (VC.text ?_); refine VO.c (.assign rfl) ?_; refine VO.go (VC.seq (VC.text ?_)); refine VO.c (.move rfl) (VO.c (.move rfl) (VO.c (.neq) (VO.c (.assign rfl) ?_))); refine VO.go ?_; refine VC.ret ?_; exact VEnd.one rfl evT (pvE (by simp))
theorem zCmp_ok {a : Int} {b : Int} : VF Tryz.prog OA 165 [I a, I b] (I (cmpI a b)) := by
  refine VF.enter Tryz.func165 rfl (fun _ _ => rfl) rfl ?_; show VC _ _ _ _ _ [(0, I a), (1, I b)] [] _; refine VC.seq (VC.text ?_); refine VO.c (.assign rfl) ?_; refine VO.go (VC.seq (VC.text ?_)); refine VO.c (.move rfl) ?_; refine VO.call rfl rfl (VF.call (zNaN_ok )) ?_; refine VO.c (.assign rfl) ?_; refine VO.go (VC.seq (VC.text ?_)); refine VO.c (.move rfl) ?_; refine VO.call rfl rfl (VF.call (zNaN_ok )) ?_; refine VO.c (.assign rfl) ?_; refine VO.go (VC.seq (VC.seq (VC.text ?_))); refine VO.c (.move rfl) (VO.go ?_); refine VC.condF rfl ?_; refine VC.skip (VC.seq (VC.seq (VC.text ?_))); refine VO.c (.move rfl) (VO.go ?_); refine VC.condF rfl ?_; refine VC.skip (VC.seq (VC.seq (VC.text ?_))); refine VO.c (.move rfl) (VO.c (.move rfl) (VO.c (.lss) (VO.go ?_))); refine VC.condD rfl (fun c9 => ?_) (fun c9 => ?_)
  · refine VC.seq (VC.text ?_); refine VO.c (.assign rfl) (VO.go ?_); refine VC.ret ?_; exact VEnd.one rfl evT (pvI (by rw [cmpI, if_pos c9]))
  refine VC.skip (VC.seq (VC.seq (VC.text ?_))); refine VO.c (.move rfl) (VO.c (.move rfl) (VO.c (.gtr) (VO.go ?_))); refine VC.condD rfl (fun c11 => ?_) (fun c11 => ?_)
  · refine VC.seq (VC.text ?_); refine VO.c (.assign rfl) (VO.go ?_); refine VC.ret ?_; exact VEnd.one rfl evT (pvI (by rw [cmpI, if_neg c9, if_pos c11]))
  refine VC.skip (VC.seq (VC.text ?_)); refine VO.c (.assign rfl) (VO.go ?_); refine VC.ret ?_; exact VEnd.one rfl evT (pvI (by rw [cmpI, if_neg c9, if_neg c11]))
theorem zOr_ok {l : List Int} (hl : l.length < 1000000) : VF Tryz.prog OA 164 [.v y25 l] (I (firstE l)) := by
  refine VF.enter Tryz.func164 rfl (fun _ _ => rfl) rfl ?_; show VC _ _ _ _ _ [(0, .v y25 l)] [] _; refine VC.seq (VC.text ?_); refine VO.c (.assign rfl) ?_; refine VO.go (VC.seq (VC.text ?_)); refine VO.c (.assign rfl) ?_; refine VO.go (VC.seq (VC.seq (VC.text ?_))); refine VO.c (.move rfl) ?_; refine VO.r (.len el25) ?_; refine VO.c (.move rfl) ?_; refine VO.go (VC.block ?_); refine VC.keep [(3, I (0 : Int)), (6, .v y25 l), (7, I ((l.length : Nat) : Int)), (8, I ((0 : Nat) : Int))] ⟨rfl, rfl, rfl, rfl, trivial⟩ ?_; refine VC.loop (I := fun kk ff ss => ∃ (j : Nat), kk = l.length - j ∧ ff = [(3, I (0 : Int)), (6, .v y25 l), (7, I ((l.length : Nat) : Int)), (8, I ((j : Nat) : Int))] ∧ ss = [] ∧ (j ≤ l.length) ∧ (firstE l = firstE (l.drop j))) ?_ _ _ _ ⟨0, rfl, rfl, rfl, Nat.zero_le _, (by rfl)⟩; rintro kk ff ss ⟨j, hk0, rfl, rfl, hj, hf⟩; refine VC.seq (VC.text ?_); refine VO.c (.lss) ?_; refine VO.go (VC.seq ?_); refine VC.condD rfl (fun c3 => ?_) (fun c3 => ?_)
  · refine VC.skip (VC.seq (VC.block (VC.seq (VC.text ?_)))); refine VO.c (.ix (j := j) rfl rfl el25 (by omega)) ?_; refine VO.r (.ld vt3) ?_; refine VO.c (.assign rfl) ?_; refine VO.go (VC.seq (VC.text ?_)); refine VO.c (.move rfl) (VO.c (.move rfl) (VO.c (.neq) (VO.go ?_))); refine VC.condD rfl (fun c5 => ?_) (fun c5 => ?_)
    · refine VC.seq (VC.text ?_); refine VO.c (.move rfl) (VO.c (.assign rfl) (VO.go ?_)); refine VC.ret ?_; exact VEnd.one rfl evT (pvI (by rw [hf, firstE_drop (by omega), if_neg c5]))
    refine VC.skip (VC.text ?_); refine VO.c (.add rfl rfl (by omega)) (VO.c (.move rfl) ?_); refine VO.nil ?_; refine ⟨_, [(3, I (0 : Int)), (6, .v y25 l), (7, I ((l.length : Nat) : Int)), (8, I (((j + 1) : Nat) : Int))], ?_, ⟨rfl, rfl, rfl, rfl, trivial⟩, (j + 1), rfl, rfl, rfl, (by omega), (by rw [hf, firstE_drop (by omega), if_pos (by simpa using c5)])⟩; omega
  refine VC.exit (VC.seq (VC.text ?_)); refine VO.c (.move rfl) (VO.c (.assign rfl) (VO.go ?_)); refine VC.ret ?_; exact VEnd.one rfl evT (pvI (by rw [hf, firstE_end (by omega)]))
def cmpL : List Int → List Int → Int
  | [], [] => 0
  | [], _ :: _ => -1
  | _ :: _, [] => 1
  | a :: x, b :: y => if cmpI a b ≠ 0 then cmpI a b else cmpL x y
theorem cmpL_r {x y : List Int} {i : Nat} (hx : i < x.length) (hy : y.length ≤ i) : cmpL (x.drop i) (y.drop i) = 1 := by
  rw [List.drop_eq_getElem_cons hx, List.drop_eq_nil_of_le hy] <;> rfl
theorem cmpL_s {x y : List Int} {i : Nat} (hx : i < x.length) (hy : i < y.length) : cmpL (x.drop i) (y.drop i) = if cmpI x[i] y[i] ≠ 0 then cmpI x[i] y[i] else cmpL (x.drop (i + 1)) (y.drop (i + 1)) := by
  rw [List.drop_eq_getElem_cons hx, List.drop_eq_getElem_cons hy] <;> rfl
theorem cmpL_l {x y : List Int} {i : Nat} (hx : x.length ≤ i) : cmpL (x.drop i) (y.drop i) = if i < y.length then -1 else 0 := by
  rw [List.drop_eq_nil_of_le hx]; by_cases h : i < y.length
  · rw [if_pos h, List.drop_eq_getElem_cons h] <;> rfl
  rw [if_neg h, List.drop_eq_nil_of_le (by omega)] <;> rfl
theorem zCompareI_ok {x : List Int} {y : List Int} (hx : x.length < 1000000) (hy : y.length < 1000000) : VF Tryz.prog OA 166 [.v y25 x, .v y25 y] (I (cmpL x y)) := by
  refine VF.enter Tryz.func166 rfl (fun _ _ => rfl) rfl ?_; show VC _ _ _ _ _ [(0, .v y25 x), (1, .v y25 y)] [] _; refine VC.seq (VC.text ?_); refine VO.c (.assign rfl) ?_; refine VO.go (VC.seq (VC.seq (VC.text ?_))); refine VO.c (.move rfl) ?_; refine VO.r (.len el25) ?_; refine VO.c (.move rfl) ?_; refine VO.go (VC.block ?_); refine VC.keep [(0, .v y25 x), (1, .v y25 y), (9, .v y25 x), (10, I ((x.length : Nat) : Int)), (11, I ((0 : Nat) : Int))] ⟨rfl, rfl, rfl, rfl, rfl, trivial⟩ ?_; refine VC.loop (I := fun kk ff ss => ∃ (i : Nat), kk = x.length - i ∧ ff = [(0, .v y25 x), (1, .v y25 y), (9, .v y25 x), (10, I ((x.length : Nat) : Int)), (11, I ((i : Nat) : Int))] ∧ ss = [] ∧ (i ≤ x.length) ∧ (cmpL x y = cmpL (x.drop i) (y.drop i)) ∧ (i ≤ y.length)) ?_ _ _ _ ⟨0, rfl, rfl, rfl, Nat.zero_le _, (by rfl), Nat.zero_le _⟩; rintro kk ff ss ⟨i, hk0, rfl, rfl, hi, hw, hyl⟩; refine VC.seq (VC.text ?_); refine VO.c (.lss) ?_; refine VO.go (VC.seq ?_); refine VC.condD rfl (fun c2 => ?_) (fun c2 => ?_)
  · refine VC.skip (VC.seq (VC.block (VC.seq (VC.text ?_)))); refine VO.c (.move rfl) (VO.c (.ix (j := i) rfl rfl el25 (by omega)) ?_); refine VO.r (.ld vt3) ?_; refine VO.c (.assign rfl) (VO.c (.assign rfl) ?_); refine VO.go (VC.seq (VC.seq (VC.text ?_))); refine VO.c (.move rfl) (VO.c (.move rfl) ?_); refine VO.r (.len el25) ?_; refine VO.c (.geq) (VO.go ?_); refine VC.condD rfl (fun c4 => ?_) (fun c4 => ?_)
    · refine VC.seq (VC.text ?_); refine VO.c (.assign rfl) (VO.go ?_); refine VC.ret ?_; exact VEnd.one rfl evT (pvI (by rw [hw, cmpL_r (by omega) (by omega)]))
    refine VC.skip (VC.seq (VC.text ?_)); refine VO.c (.move rfl) (VO.c (.move rfl) (VO.c (.ix (j := i) rfl rfl el25 (by omega)) ?_)); refine VO.r (.ld vt3) ?_; refine VO.c (.assign rfl) ?_; refine VO.go (VC.seq (VC.text ?_)); refine VO.c (.move rfl) (VO.c (.move rfl) ?_); refine VO.call rfl rfl (VF.call (zCmp_ok )) ?_; refine VO.c (.assign rfl) ?_; refine VO.go (VC.seq (VC.text ?_)); refine VO.c (.move rfl) (VO.c (.neq) (VO.go ?_)); refine VC.condD rfl (fun c8 => ?_) (fun c8 => ?_)
    · refine VC.seq (VC.text ?_); refine VO.c (.move rfl) (VO.c (.assign rfl) (VO.go ?_)); refine VC.ret ?_; exact VEnd.one rfl evT (pvI (by rw [hw, cmpL_s (by omega) (by omega), if_pos c8]))
    refine VC.skip (VC.text ?_); refine VO.c (.add rfl rfl (by omega)) (VO.c (.move rfl) ?_); refine VO.nil ?_; refine ⟨_, [(0, .v y25 x), (1, .v y25 y), (9, .v y25 x), (10, I ((x.length : Nat) : Int)), (11, I (((i + 1) : Nat) : Int))], ?_, ⟨rfl, rfl, rfl, rfl, rfl, trivial⟩, (i + 1), rfl, rfl, rfl, (by omega), (by rw [hw, cmpL_s (by omega) (by omega), if_neg c8]), (by omega)⟩; omega
  refine VC.exit (VC.seq (VC.seq (VC.text ?_))); refine VO.c (.move rfl) ?_; refine VO.r (.len el25) ?_; refine VO.c (.move rfl) ?_; refine VO.r (.len el25) ?_; refine VO.c (.lss) (VO.go ?_); refine VC.condD rfl (fun c11 => ?_) (fun c11 => ?_)
  · refine VC.seq (VC.text ?_); refine VO.c (.assign rfl) (VO.go ?_); refine VC.ret ?_; exact VEnd.one rfl evT (pvI (by rw [hw, cmpL_l (by omega), if_pos (by omega)]))
  refine VC.skip (VC.seq (VC.text ?_)); refine VO.c (.assign rfl) (VO.go ?_); refine VC.ret ?_; exact VEnd.one rfl evT (pvI (by rw [hw, cmpL_l (by omega), if_neg (by omega)]))
theorem zClonePa_ok {l : List (Int × Int)} (hl : l.length < 100000) : VFG Tryz.prog OA 185 [.v y59 l] [] (fun r g => ∃ w, r = .raw w ∧ g = [(w, .row 111 y111 l)]) := by
  refine VFG.enter Tryz.func185 rfl (fun _ _ => rfl) rfl ?_; show VC _ _ _ _ _ [(0, .v y59 l)] [] _; refine VC.seq (VC.text ?_); refine VO.c (.assign rfl) ?_; refine VO.go (VC.seq (VC.seq (VC.text ?_))); refine VO.c (.move rfl) ?_; refine VO.isnil (e := 111) rfl rfl (by kernel_rfl) (by kernel_rfl) (fun h1_1 => ?_) ?_
  · refine VO.go ?_; refine VC.condT rfl ?_; refine VC.seq (VC.text ?_); refine VO.c (.assign rfl) (VO.go ?_); refine VC.cell0 111 y111 ?_; refine VC.ret ?_; simp only [thenV]; exact VEndG.row rfl evT ⟨(.slice none 0 0), rfl, (by rw [h1_1])⟩
  refine VO.go ?_; refine VC.condF rfl ?_; refine VC.skip (VC.seq (VC.text ?_)); refine VO.cell (.lit0 el59) ?_; intro ww1; refine VO.c (.move rfl) ?_; refine VO.app rfl rfl el59 el59 (by simp; omega) ?_; intro ww2; refine VO.c (.assign rfl) (VO.go ?_); refine VC.ret ?_; exact VEndG.row rfl evT ⟨ww2, rfl, (by rfl)⟩
theorem cSet1_ok {p : Int × Int} : VF Tryz.prog OA 189 [.v y111 p] (I p.1) := by
  refine VF.enter Tryz.func189 rfl (fun _ _ => rfl) rfl ?_; show VC _ _ _ _ _ [(0, .v y111 p)] [] _; refine VC.seq (VC.text ?_); refine VO.new (.box) ?_; refine VO.c (.assign rfl) ?_; refine VO.go (VC.seq (VC.text ?_)); refine VO.c (.fa (.l .o)) ?_; refine VO.r (.ld vt3) ?_; refine VO.c (.assign rfl) (VO.go ?_); refine VC.ret ?_; exact VEnd.one rfl evT (pvI (by rfl))
theorem cMapPI_ok {F : Int × Int → Int} {l : List (Int × Int)} {f : PV} (hl : l.length < 100000) (hf : ∀ x ∈ l, VCall Tryz.prog OA f [.v y111 x] (I (F x))) : VF Tryz.prog OA 188 [.v y59 l, f] (.v y25 (l.map F)) := by
  refine VF.enter Tryz.func188 rfl (fun _ _ => rfl) rfl ?_; show VC _ _ _ _ _ [(0, .v y59 l), (1, f)] [] _; refine VC.seq (VC.text ?_); refine VO.c (.assign rfl) ?_; refine VO.go (VC.seq (VC.text ?_)); refine VO.c (.assign rfl) ?_; refine VO.go (VC.seq (VC.seq (VC.text ?_))); refine VO.c (.move rfl) ?_; refine VO.r (.len el59) ?_; refine VO.c (.move rfl) ?_; refine VO.go (VC.block ?_); refine VC.cell0 3 (.int .i64) ?_; refine VC.keep [(1, f), (5, .raw (.slice none 0 0)), (8, .v y59 l), (9, I ((l.length : Nat) : Int)), (10, I ((0 : Nat) : Int))] ⟨rfl, rfl, rfl, rfl, rfl, trivial⟩ ?_; refine VC.loop (I := fun kk ff ss => ∃ (j : Nat) (out : Value), kk = l.length - j ∧ ff = [(1, f), (5, .raw out), (8, .v y59 l), (9, I ((l.length : Nat) : Int)), (10, I ((j : Nat) : Int))] ∧ ss = [(out, .row 3 (.int .i64) ((l.take j).map F))] ∧ (j ≤ l.length)) ?_ _ _ _ ⟨0, (.slice none 0 0), rfl, rfl, rfl, Nat.zero_le _⟩; rintro kk ff ss ⟨j, out, hk0, rfl, rfl, hj⟩; refine VC.seq (VC.text ?_); refine VO.c (.lss) ?_; refine VO.go (VC.seq ?_); refine VC.condD rfl (fun c3 => ?_) (fun c3 => ?_)
  · refine VC.skip (VC.seq (VC.block (VC.seq (VC.text ?_)))); refine VO.c (.ix (j := j) rfl rfl el59 (by omega)) ?_; refine VO.r (.ld vt111) ?_; refine VO.cell (.alloc zt111) ?_; intro ww3; refine VO.setV (cs' := [I ((l[j]).1), I ((l[j]).2)]) vt111 .v ?_; refine VO.shut [(7, .p y111 (l[j]))] (.cons rfl (.var m0 .refl) .nil) ?_; refine VO.go (VC.text ?_); refine VO.c (.move rfl) (VO.c (.move rfl) ?_); refine VO.r (.ld vt111) ?_; refine VO.call rfl rfl ((hf _ (List.getElem_mem _)) ) ?_; refine VO.new (.lit [F (l[j])] el25) ?_; refine VO.app rfl rfl el25 el25 (by simp; omega) ?_; intro ww4; refine VO.c (.assign rfl) ?_; refine VO.nil (VC.text ?_); refine VO.c (.add rfl rfl (by omega)) (VO.c (.move rfl) ?_); refine VO.nil ?_; refine ⟨_, [(1, f), (5, .raw ww4), (8, .v y59 l), (9, I ((l.length : Nat) : Int)), (10, I (((j + 1) : Nat) : Int))], ?_, ⟨rfl, rfl, rfl, rfl, rfl, trivial⟩, (j + 1), ww4, rfl, rfl, (by rw [List.take_succ_eq_append_getElem (by omega), List.map_append] <;> rfl), (by omega)⟩; omega
  refine VC.exit (VC.seq (VC.text ?_)); refine VO.c (.move rfl) (VO.c (.assign rfl) (VO.go ?_)); refine VC.ret ?_; exact VEnd.one rfl (evC (.row m0)) (pvE (by rw [List.take_of_length_le (by omega)]))
def choL (F : Int → Bool) (n : Nat) : List Int := ((List.range n).map fun i => ((i : Nat) : Int)).filter F
theorem choL_succ {F : Int → Bool} {n : Nat} : choL F (n + 1) = if F ((n : Nat) : Int) = true then choL F n ++ [((n : Nat) : Int)] else choL F n := by
  unfold choL; rw [List.range_succ, List.map_append, List.filter_append]; by_cases h : F ((n : Nat) : Int) = true
  · rw [if_pos h]; simp [h]
  rw [if_neg h]; simp [h]
theorem choL_len {F : Int → Bool} {n : Nat} : (choL F n).length ≤ n := by
  have := List.length_filter_le F ((List.range n).map fun i => ((i : Nat) : Int)); unfold choL; simpa using this
theorem cChosen_ok {F : Int → Bool} {l : List (ByteArray × Int × Int × Int × Int)} {f : PV} (hl : l.length < 100000) (hf : ∀ i : Nat, i < l.length → VCall Tryz.prog OA f [I ((i : Nat) : Int)] (B (F ((i : Nat) : Int)))) : VF Tryz.prog OA 119 [.v y62 l, f] (.v y25 (choL F l.length)) := by
  refine VF.enter Tryz.func119 rfl (fun _ _ => rfl) rfl ?_; show VC _ _ _ _ _ [(0, .v y62 l), (1, f)] [] _; refine VC.seq (VC.text ?_); refine VO.c (.assign rfl) ?_; refine VO.go (VC.seq (VC.text ?_)); refine VO.c (.assign rfl) ?_; refine VO.go (VC.seq (VC.seq (VC.text ?_))); refine VO.c (.move rfl) ?_; refine VO.r (.len el62) ?_; refine VO.c (.move rfl) ?_; refine VO.go (VC.block ?_); refine VC.cell0 3 (.int .i64) ?_; refine VC.keep [(1, f), (5, .raw (.slice none 0 0)), (8, I ((l.length : Nat) : Int)), (9, I ((0 : Nat) : Int))] ⟨rfl, rfl, rfl, rfl, trivial⟩ ?_; refine VC.loop (I := fun kk ff ss => ∃ (i : Nat) (out : Value), kk = l.length - i ∧ ff = [(1, f), (5, .raw out), (8, I ((l.length : Nat) : Int)), (9, I ((i : Nat) : Int))] ∧ ss = [(out, .row 3 (.int .i64) (choL F i))] ∧ (i ≤ l.length)) ?_ _ _ _ ⟨0, (.slice none 0 0), rfl, rfl, rfl, Nat.zero_le _⟩; rintro kk ff ss ⟨i, out, hk0, rfl, rfl, hi⟩; refine VC.seq (VC.text ?_); refine VO.c (.lss) ?_; refine VO.go (VC.seq ?_); refine VC.condD rfl (fun c3 => ?_) (fun c3 => ?_)
  · have hcl := choL_len (F := F) (n := i); refine VC.skip (VC.seq (VC.block (VC.seq (VC.text ?_)))); refine VO.c (.move rfl) (VO.c (.assign rfl) ?_); refine VO.go (VC.seq (VC.text ?_)); refine VO.c (.move rfl) (VO.c (.move rfl) ?_); refine VO.call rfl rfl ((hf i (by omega)) ) ?_; refine VO.go ?_; refine VC.condB rfl (fun c5 => ?_) (fun c5 => ?_)
    · refine VC.text ?_; refine VO.c (.move rfl) (VO.c (.move rfl) ?_); refine VO.new (.lit [((i : Nat) : Int)] el25) ?_; refine VO.app rfl rfl el25 el25 (by simp; omega) ?_; intro ww5; refine VO.c (.assign rfl) ?_; refine VO.nil (VC.text ?_); refine VO.c (.add rfl rfl (by omega)) (VO.c (.move rfl) ?_); refine VO.nil ?_; refine ⟨_, [(1, f), (5, .raw ww5), (8, I ((l.length : Nat) : Int)), (9, I (((i + 1) : Nat) : Int))], ?_, ⟨rfl, rfl, rfl, rfl, trivial⟩, (i + 1), ww5, rfl, rfl, (by rw [choL_succ]; first | (rw [if_pos c5]; done) | (rw [if_neg (by rw [c5]; decide)]; done)), (by omega)⟩; omega
    refine VC.skip (VC.text ?_); refine VO.c (.add rfl rfl (by omega)) (VO.c (.move rfl) ?_); refine VO.nil ?_; refine ⟨_, [(1, f), (5, .raw out), (8, I ((l.length : Nat) : Int)), (9, I (((i + 1) : Nat) : Int))], ?_, ⟨rfl, rfl, rfl, rfl, trivial⟩, (i + 1), out, rfl, rfl, (by rw [choL_succ]; first | (rw [if_pos c5]; done) | (rw [if_neg (by rw [c5]; decide)]; done)), (by omega)⟩; omega
  refine VC.exit (VC.seq (VC.text ?_)); refine VO.c (.move rfl) (VO.c (.assign rfl) (VO.go ?_)); refine VC.ret ?_; exact VEnd.one rfl (evC (.row m0)) (pvE (by rw [show i = l.length by omega]))
theorem cLate1_ok {i : Int} {l : List (ByteArray × Int × Int × Int × Int)} {clear : Int} (h0 : 0 ≤ i) (h1 : i < ((l.length : Nat) : Int)) (hok : ShpOk l) : VF Tryz.prog OA 123 [I i, .p y62 l, .p (.int .i64) clear] (B (decide (clear < (shA l i.toNat).2.1 + (shA l i.toNat).2.2.1))) := by
  refine VF.enter Tryz.func123 rfl (fun _ _ => rfl) rfl ?_; show VC _ _ _ _ _ [(0, I i), (1, .p y62 l), (2, .p (.int .i64) clear)] [] _; refine VC.seq (VC.text ?_); refine VO.c (.assign rfl) ?_; refine VO.go (VC.seq (VC.drawn ?_)); have ha := hok.arr i.toNat; have hg := hok.lng i.toNat; have hsa : shA l i.toNat = l[i.toNat]'(by omega) := shA_eq (by omega); rw [hsa] at ha hg; refine VD.r [] (.ld vt62) (.inl rfl) ?_; refine VD.c (.move rfl) (VD.c (.ixZ (k := i) rfl rfl el62 (by omega) (by omega)) (VD.c (.fa (.r (.l .o))) ?_)); refine VD.r [] (.ld vt3) (.inl rfl) ?_; refine VD.r [] (.ld vt62) (.inl rfl) ?_; refine VD.nw [] (VD.c (.move rfl) (VD.c (.ixZ (k := i) rfl rfl el62 (by omega) (by omega)) (VD.c (.fa (.r (.r (.l .o)))) ?_))); refine VD.r [] (.ld vt3) (.inl rfl) ?_; refine VD.c (.add rfl rfl (by omega)) ?_; refine VD.r [] (.ld vt3) (.inl rfl) ?_; refine VD.c (.gtr) (VD.nw [] (VD.c (.assign rfl) (VD.go ?_))); refine VC.ret ?_; exact VEnd.one rfl evT (pvE (by rw [hsa]))
end Go.Proofs
namespace Go.Proofs
open Go.Fs
set_option maxHeartbeats 1000000
abbrev y171 : Ty := (.pair (.sl (.pair (.int .i64) (.int .i64))) (.pair (.int .i64) (.int .i64)))
theorem vt59 : ValT Tryz.prog 59 y59 := valT_of (by kernel_rfl)
theorem vt171 : ValT Tryz.prog 171 y171 := valT_of (by kernel_rfl)
abbrev sortE (l : List (Int × Int)) : List (Int × Int) := Go.Fs.sortG (τ := .pair (.int .i64) (.int .i64)) cmpE l
theorem sortE_sorted (l : List (Int × Int)) : (sortE l).Pairwise fun a b => a.1 ≤ b.1 :=
  (Go.Fs.sortG_sorted (τ := .pair (.int .i64) (.int .i64)) swoE l).imp fun {a b} h => by rw [ltE] at h; simp at h; exact h
theorem sortE_perm (l : List (Int × Int)) : (sortE l).Perm l := Go.Fs.sortG_perm (τ := .pair (.int .i64) (.int .i64)) swoE l
theorem zSortPa_ok {w_l : Value} {l : List (Int × Int)} (hl : l.length ≤ 1000000) : VFG Tryz.prog OA 186 [.raw w_l, .clo 187 [] []] [(w_l, .row 111 (.pair (.int .i64) (.int .i64)) l)] (fun r g => r = .tup [] ∧ g = [(w_l, .row 111 (.pair (.int .i64) (.int .i64)) (sortE l))]) := VFG.sortG (τ := .pair (.int .i64) (.int .i64)) rfl (by decide) swoE hl
def setL (p : List (Int × Int)) : List Int := (sortE p).map (·.1)
theorem bub_perm {o : List Int} {y : Int} : ∀ k, (bubK o y k).Perm (y :: o)
  | 0 => .refl _
  | k + 1 => by
    unfold bubK; split
    · exact bub_perm k
    have h := List.perm_middle (a := y) (l₁ := o.take (k + 1)) (l₂ := o.drop (k + 1))
    rwa [List.take_append_drop] at h
theorem bub_sorted {o : List Int} {y : Int} (hs : o.Pairwise (· ≤ ·)) : ∀ k, k ≤ o.length → (∀ z ∈ o.drop k, y ≤ z) → (bubK o y k).Pairwise (· ≤ ·)
  | 0, _, h2 => List.pairwise_cons.2 ⟨h2, hs⟩
  | k + 1, hk, h2 => by
    have hg : o.getD k 0 = o[k] := getDg (by omega); unfold bubK; split
    · rename_i hy; refine bub_sorted hs k (by omega) fun z hz => ?_; rw [List.drop_eq_getElem_cons (show k < o.length by omega)] at hz; rcases List.mem_cons.1 hz with rfl | hz
      · rw [hg] at hy; omega
      exact h2 z hz
    rename_i hy; rw [hg] at hy; have hs2 := hs; rw [← List.take_append_drop (k + 1) o, List.pairwise_append] at hs2; refine List.pairwise_append.2 ⟨hs2.1, List.pairwise_cons.2 ⟨h2, hs2.2.1⟩, fun a ha b hb => ?_⟩; rcases List.mem_cons.1 hb with rfl | hb
    · obtain ⟨j, hj, rfl⟩ := List.mem_iff_getElem.1 ha; rw [List.length_take] at hj; rw [List.getElem_take]; by_cases e : j = k
      · subst e; omega
      have := List.pairwise_iff_getElem.1 hs j k (by omega) (by omega) (by omega); omega
    exact hs2.2.2 a ha b hb
theorem shpL_sorted {p : List (Int × Int)} : ∀ i, (shpL p i).Pairwise (· ≤ ·)
  | 0 => List.Pairwise.nil
  | i + 1 => bub_sorted (shpL_sorted i) _ (Nat.le_refl _) fun z hz => by rw [List.drop_length] at hz; cases hz
theorem shpL_perm {p : List (Int × Int)} : ∀ i, i ≤ p.length → (shpL p i).Perm ((p.take i).map (·.1))
  | 0, _ => by simp [shpL]
  | i + 1, h => by
    rw [shpL, List.take_succ_eq_append_getElem (by omega), List.map_append, paA_eq (by omega)]; refine (bub_perm _).trans ?_; refine (List.Perm.cons _ (shpL_perm i (by omega))).trans ?_; exact (List.perm_append_comm (l₁ := [p[i].1]))
theorem set_shp {p : List (Int × Int)} : setL p = shpL p p.length := by
  have h1 : (setL p).Pairwise (· ≤ ·) := List.pairwise_map.2 (sortE_sorted p); have h2 := shpL_sorted (p := p) p.length
  have h3 : (setL p).Perm (shpL p p.length) := by
    have := shpL_perm (p := p) p.length (Nat.le_refl _); rw [List.take_length] at this; exact ((sortE_perm p).map _).trans this.symm
  exact h3.eq_of_pairwise (fun a b _ _ h h' => Int.le_antisymm h h') h1 h2
theorem setL_len {p : List (Int × Int)} : (setL p).length = p.length := by rw [set_shp, shpL_len]
theorem cSet_ok {r : (List (Int × Int)) × Int × Int} (hl : r.1.length < 100000) : VF Tryz.prog OA 167 [.v y171 r] (.v y25 (setL r.1)) := by
  refine VF.enter Tryz.func167 rfl (fun _ _ => rfl) rfl ?_; show VC _ _ _ _ _ [(0, .v y171 r)] [] _; refine VC.seq (VC.text ?_); refine VO.new (.box) ?_; refine VO.c (.assign rfl) ?_; refine VO.go (VC.seq (VC.text ?_)); refine VO.c (.fa (.l .o)) ?_; refine VO.r (.ld vt59) ?_; refine VO.callG [] rfl rfl rfl (VFG.call (zClonePa_ok hl)) ?_; rintro _ _ ⟨ww1, rfl, rfl⟩; show VO _ _ _ _ _ _ [(ww1, .row 111 y111 r.1)] _; refine VO.c (.assign rfl) ?_; refine VO.go (VC.seq (VC.text ?_)); refine VO.c (.move rfl) ?_; refine VO.callG [(ww1, .row 111 y111 r.1)] rfl rfl rfl (VFG.call (zSortPa_ok (by omega))) ?_; rintro _ _ ⟨rfl, rfl⟩; show VO _ _ _ _ _ _ [(ww1, .row 111 y111 (sortE r.1))] _; refine VO.go (VC.seq (VC.text ?_)); refine VO.c (.move rfl) ?_; refine VO.shut [(3, .v y59 (sortE r.1)), (6, .v y59 (sortE r.1)), (7, .v y59 (sortE r.1)), (9, .v y59 (sortE r.1))] (.cons rfl (.row m0) (.cons rfl (.row m0) (.cons rfl (.row m0) (.cons rfl (.row m0) .nil)))) ?_; refine VO.call rfl rfl (VF.call (cMapPI_ok (F := fun p => p.1) (by have h := (sortE_perm r.1).length_eq; rw [h]; exact hl) (fun _ _ => VF.call cSet1_ok))) ?_; refine VO.c (.assign rfl) (VO.go ?_); refine VC.ret ?_; exact VEnd.one rfl evT (pvE (by rfl))
def betC (r o : List (Int × Int) × Int × Int) : Bool := decide (firstE [cmpI o.2.1 r.2.1, cmpL (setL r.1) (setL o.1), cmpI r.2.2 o.2.2] < 0)
theorem cBetter_ok {r : (List (Int × Int)) × Int × Int} {o : (List (Int × Int)) × Int × Int} (hr : r.1.length < 100000) (ho : o.1.length < 100000) : VF Tryz.prog OA 152 [.v y171 r, .v y171 o] (B (betC r o)) := by
  refine VF.enter Tryz.func152 rfl (fun _ _ => rfl) rfl ?_; show VC _ _ _ _ _ [(0, .v y171 r), (1, .v y171 o)] [] _; refine VC.seq (VC.text ?_); refine VO.new (.box) ?_; refine VO.new (.box) ?_; refine VO.c (.assign rfl) ?_; refine VO.go (VC.seq (VC.drawn ?_)); refine VD.c (.fa (.r (.l .o))) ?_; refine VD.r [] (.ld vt3) (.inl rfl) ?_; refine VD.c (.fa (.r (.l .o))) ?_; refine VD.r [] (.ld vt3) (.inl rfl) ?_; refine VD.call rfl rfl (VF.call (zCmp_ok )) ?_; refine VD.r [] (.ld vt171) (.inl rfl) ?_; refine VD.nw [] ?_; refine VD.call rfl rfl (VF.call (cSet_ok hr)) ?_; refine VD.r [] (.ld vt171) (.inl rfl) ?_; refine VD.call rfl rfl (VF.call (cSet_ok ho)) ?_; refine VD.callO rfl rfl (VF.call (zCompareI_ok (by rw [setL_len]; omega) (by rw [setL_len]; omega))) ?_; refine VD.c (.fa (.r (.r .o))) ?_; refine VD.r [] (.ld vt3) (.inl rfl) ?_; refine VD.c (.fa (.r (.r .o))) (VD.nw [13, 11] ?_); refine VD.r [] (.ld vt3) (.inl rfl) ?_; refine VD.call rfl rfl (VF.call (zCmp_ok )) ?_; refine VD.new (.lit [cmpI o.2.1 r.2.1, cmpL (setL r.1) (setL o.1), cmpI r.2.2 o.2.2] el25) ?_; refine VD.callO rfl rfl (VF.call (zOr_ok (by simp))) ?_; refine VD.c (.lss) (VD.c (.assign rfl) (VD.go ?_)); refine VC.ret ?_; exact VEnd.one rfl evT (pvE (by rfl))
end Go.Proofs
namespace Go.Fs
variable {P : Program} {fl : VL} {σ : Sto} {x : Operand} {T : TypeId}
end Go.Fs
namespace Go.Proofs
open Go.Fs
set_option maxHeartbeats 1000000
abbrev y213 : Ty := (.sl (.sl (.pair (.int .i64) (.int .i64))))
theorem el213 : ElT Tryz.prog 213 59 y59 := elT_of (by kernel_rfl)
theorem flat_le {α : Type} {l : List (List α)} (j : Nat) : (l.take j).flatten.length ≤ l.flatten.length := by
  have : l.flatten = (l.take j).flatten ++ (l.drop j).flatten := by rw [← List.flatten_append, List.take_append_drop]
  rw [this, List.length_append]; omega
theorem flat_succ {α : Type} {l : List (List α)} {j : Nat} (hj : j < l.length) : (l.take (j + 1)).flatten = (l.take j).flatten ++ l[j] := by
  rw [List.take_succ_eq_append_getElem hj, List.flatten_append]; simp
theorem zGrowPa_ok {n : Nat} (h0 : 0 < n) (h1 : n ≤ 1000000) : VFG Tryz.prog OA 163 [nilV, I ((n : Nat) : Int)] [] (fun r g => ∃ w, r = .raw w ∧ g = [(w, .cap 111 n y111 [])]) := by
  refine VFG.enter Tryz.func163 rfl (fun _ _ => rfl) rfl ?_; show VC _ _ _ _ _ [(0, nilV), (1, I ((n : Nat) : Int))] [] _; refine VC.seq (VC.text ?_); refine VO.c (.assign rfl) ?_; refine VO.go (VC.seq (VC.seq (VC.text ?_))); refine VO.c (.move rfl) (VO.c (.lss) (VO.go ?_)); refine VC.condD rfl (fun c1 => ?_) (fun c1 => ?_)
  · exact absurd c1 (by omega)
  refine VC.skip (VC.seq (VC.seq (VC.text ?_))); refine VO.c (.move rfl) (VO.c (.move rfl) ?_); refine VO.r (.cap0 el59) ?_; refine VO.c (.move rfl) ?_; refine VO.r (.len0 el59) ?_; refine VO.c (.sub rfl rfl (by decide)) (VO.c (.sub rfl rfl (by omega)) (VO.c (.assign rfl) ?_)); refine VO.go (VC.seq (VC.text ?_)); refine VO.c (.move rfl) (VO.c (.gtr) (VO.go ?_)); refine VC.condD rfl (fun c4 => ?_) (fun c4 => ?_)
  · refine VC.text ?_; refine VO.c (.move rfl) (VO.c (.move rfl) ?_); refine VO.r (.cap0 el59) ?_; refine VO.r (.nil0 el59 rfl rfl) ?_; refine VO.c (.move rfl) ?_; refine VO.grow (k := n) rfl (congrArg (fun z : Int => some (PV.v (.int .i64) z)) (show (((n : Nat) : Int) - (((0 : Nat) : Int) - ((0 : Nat) : Int))) = ((n : Nat) : Int) by omega)) el59 (by kernel_rfl) (by omega) (by omega) ?_; intro bb1; refine VO.c (.move rfl) ?_; refine VO.r (.len0 el59) ?_; refine VO.r (.cut0 el59 rfl rfl) ?_; refine VO.c (.assign rfl) ?_; refine VO.go (VC.seq (VC.text ?_)); refine VO.c (.move rfl) (VO.c (.assign rfl) (VO.go ?_)); refine VC.ret ?_; exact VEndG.cap rfl evT m0 ⟨(.slice (some ⟨bb1, 0, none⟩) 0 0), rfl, (by rfl)⟩
  exact absurd (by omega) c4
theorem zConcatPa1_ok {l : List (List (Int × Int))} (hl : l.length < 100000) (h0 : 0 < l.flatten.length) (h1 : l.flatten.length ≤ 1000000) : VFG Tryz.prog OA 151 [.v y213 l] [] (fun r g => ∃ w, r = .raw w ∧ g = [(w, .row 111 y111 l.flatten)]) := by
  refine VFG.enter Tryz.func151 rfl (fun _ _ => rfl) rfl ?_; show VC _ _ _ _ _ [(0, .v y213 l)] [] _; refine VC.seq (VC.text ?_); refine VO.c (.assign rfl) ?_; refine VO.go (VC.seq (VC.text ?_)); refine VO.c (.assign rfl) ?_; refine VO.go (VC.seq (VC.seq (VC.text ?_))); refine VO.c (.move rfl) ?_; refine VO.r (.len el213) ?_; refine VO.c (.move rfl) ?_; refine VO.go (VC.block ?_); refine VC.keep [(0, .v y213 l), (3, I (((l.take 0).flatten.length : Nat) : Int)), (9, .v y213 l), (10, I ((l.length : Nat) : Int)), (11, I ((0 : Nat) : Int))] ⟨rfl, slI rfl (by rfl), rfl, rfl, rfl, trivial⟩ ?_; refine VC.loop (I := fun kk ff ss => ∃ (j : Nat), kk = l.length - j ∧ ff = [(0, .v y213 l), (3, I (((l.take j).flatten.length : Nat) : Int)), (9, .v y213 l), (10, I ((l.length : Nat) : Int)), (11, I ((j : Nat) : Int))] ∧ ss = [] ∧ (j ≤ l.length)) ?_ _ _ _ ⟨0, rfl, rfl, rfl, Nat.zero_le _⟩; rintro kk ff ss ⟨j, hk0, rfl, rfl, hj⟩; refine VC.seq (VC.text ?_); refine VO.c (.lss) ?_; refine VO.go (VC.seq ?_); refine VC.condD rfl (fun c3 => ?_) (fun c3 => ?_)
  · refine VC.skip (VC.seq (VC.block (VC.seq (VC.text ?_)))); refine VO.c (.ix (j := j) rfl rfl el213 (by omega)) ?_; refine VO.r (.ld vt59) ?_; refine VO.c (.assign rfl) ?_; refine VO.go (VC.seq (VC.text ?_)); have hs := flat_le (l := l) (j + 1); rw [flat_succ (by omega), List.length_append] at hs; refine VO.c (.move rfl) (VO.c (.move rfl) ?_); refine VO.r (.len el59) ?_; refine VO.c (.add rfl rfl (by omega)) (VO.c (.assign rfl) ?_); refine VO.go (VC.seq (VC.text ?_)); refine VO.c (.move rfl) (VO.c (.lss) (VO.go ?_)); refine VC.condD rfl (fun c6 => ?_) (fun c6 => ?_)
    · exact absurd c6 (by omega)
    refine VC.skip (VC.text ?_); refine VO.c (.add rfl rfl (by omega)) (VO.c (.move rfl) ?_); refine VO.nil ?_; refine ⟨_, [(0, .v y213 l), (3, I (((l.take (j + 1)).flatten.length : Nat) : Int)), (9, .v y213 l), (10, I ((l.length : Nat) : Int)), (11, I (((j + 1) : Nat) : Int))], ?_, ⟨rfl, slI rfl (by rw [flat_succ (by omega), List.length_append] <;> rfl), rfl, rfl, rfl, trivial⟩, (j + 1), rfl, rfl, rfl, (by omega)⟩; omega
  refine VC.exit (VC.seq (VC.text ?_)); have hjl : l.take j = l := List.take_of_length_le (by omega); refine VO.c (.move rfl) ?_; refine VO.callG [] rfl rfl rfl (VFG.call (zGrowPa_ok (by rw [hjl]; exact h0) (by rw [hjl]; exact h1))) ?_; rintro _ _ ⟨ww2, rfl, rfl⟩; show VO _ _ _ _ _ _ [(ww2, .cap 111 ((l.take j).flatten.length) y111 [])] _; refine VO.c (.assign rfl) ?_; refine VO.go (VC.seq (VC.seq (VC.text ?_))); refine VO.c (.move rfl) ?_; refine VO.r (.len el213) ?_; refine VO.c (.move rfl) ?_; refine VO.go (VC.block ?_); refine VC.keep [(6, .raw ww2), (25, .v y213 l), (26, I ((l.length : Nat) : Int)), (27, I ((0 : Nat) : Int))] ⟨rfl, rfl, rfl, rfl, trivial⟩ ?_; refine VC.loop (I := fun kk ff ss => ∃ (i : Nat) (out : Value), kk = l.length - i ∧ ff = [(6, .raw out), (25, .v y213 l), (26, I ((l.length : Nat) : Int)), (27, I ((i : Nat) : Int))] ∧ ss = [(out, .cap 111 ((l.take j).flatten.length) y111 ((l.take i).flatten))] ∧ (i ≤ l.length)) ?_ _ _ _ ⟨0, ww2, rfl, rfl, rfl, Nat.zero_le _⟩; rintro kk ff ss ⟨i, out, hk2, rfl, rfl, hi⟩; refine VC.seq (VC.text ?_); refine VO.c (.lss) ?_; refine VO.go (VC.seq ?_); refine VC.condD rfl (fun c11 => ?_) (fun c11 => ?_)
  · refine VC.skip (VC.seq (VC.block (VC.seq (VC.text ?_)))); refine VO.c (.ix (j := i) rfl rfl el213 (by omega)) ?_; refine VO.r (.ld vt59) ?_; refine VO.c (.assign rfl) ?_; refine VO.go (VC.text ?_); have hs := flat_le (l := l) (i + 1); rw [flat_succ (by omega), List.length_append] at hs; refine VO.c (.move rfl) (VO.c (.move rfl) ?_); refine VO.appC rfl rfl el59 el59 (by rw [hjl]; exact hs) (by rw [hjl]; exact h1) ?_; intro ww3; refine VO.c (.assign rfl) ?_; refine VO.nil (VC.text ?_); refine VO.c (.add rfl rfl (by omega)) (VO.c (.move rfl) ?_); refine VO.nil ?_; refine ⟨_, [(6, .raw ww3), (25, .v y213 l), (26, I ((l.length : Nat) : Int)), (27, I (((i + 1) : Nat) : Int))], ?_, ⟨rfl, rfl, rfl, rfl, trivial⟩, (i + 1), ww3, rfl, rfl, (by rw [flat_succ (by omega)] <;> rfl), (by omega)⟩; omega
  refine VC.exit (VC.seq ?_); refine VC.capRow (by rw [hjl, List.take_of_length_le (by omega)]) ?_; refine VC.text ?_; refine VO.c (.move rfl) (VO.c (.assign rfl) (VO.go ?_)); refine VC.ret ?_; exact VEndG.row rfl evT ⟨out, rfl, (by rw [List.take_of_length_le (by omega)])⟩
theorem zGrowPa0_ok {n : Nat} (h0 : n = 0) : VF Tryz.prog OA 163 [nilV, I ((n : Nat) : Int)] (nilV) := by
  refine VF.enter Tryz.func163 rfl (fun _ _ => rfl) rfl ?_; show VC _ _ _ _ _ [(0, nilV), (1, I ((n : Nat) : Int))] [] _; refine VC.seq (VC.text ?_); refine VO.c (.assign rfl) ?_; refine VO.go (VC.seq (VC.seq (VC.text ?_))); refine VO.c (.move rfl) (VO.c (.lss) (VO.go ?_)); refine VC.condD rfl (fun c1 => ?_) (fun c1 => ?_)
  · exact absurd c1 (by omega)
  refine VC.skip (VC.seq (VC.seq (VC.text ?_))); refine VO.c (.move rfl) (VO.c (.move rfl) ?_); refine VO.r (.cap0 el59) ?_; refine VO.c (.move rfl) ?_; refine VO.r (.len0 el59) ?_; refine VO.c (.sub rfl rfl (by decide)) (VO.c (.sub rfl rfl (by omega)) (VO.c (.assign rfl) ?_)); refine VO.go (VC.seq (VC.text ?_)); refine VO.c (.move rfl) (VO.c (.gtr) (VO.go ?_)); refine VC.condD rfl (fun c4 => ?_) (fun c4 => ?_)
  · exact absurd c4 (by omega)
  refine VC.skip (VC.seq (VC.text ?_)); refine VO.c (.move rfl) (VO.c (.assign rfl) (VO.go ?_)); refine VC.ret ?_; exact VEnd.one rfl evT rfl
theorem zConcatPa0_ok {l : List (List (Int × Int))} (hl : l.length < 100000) (h0 : l.flatten.length = 0) : VFG Tryz.prog OA 151 [.v y213 l] [] (fun r g => ∃ w, r = .raw w ∧ g = [(w, .row 111 y111 l.flatten)]) := by
  refine VFG.enter Tryz.func151 rfl (fun _ _ => rfl) rfl ?_; show VC _ _ _ _ _ [(0, .v y213 l)] [] _; refine VC.seq (VC.text ?_); refine VO.c (.assign rfl) ?_; refine VO.go (VC.seq (VC.text ?_)); refine VO.c (.assign rfl) ?_; refine VO.go (VC.seq (VC.seq (VC.text ?_))); refine VO.c (.move rfl) ?_; refine VO.r (.len el213) ?_; refine VO.c (.move rfl) ?_; refine VO.go (VC.block ?_); refine VC.keep [(0, .v y213 l), (3, I (((l.take 0).flatten.length : Nat) : Int)), (9, .v y213 l), (10, I ((l.length : Nat) : Int)), (11, I ((0 : Nat) : Int))] ⟨rfl, slI rfl (by rfl), rfl, rfl, rfl, trivial⟩ ?_; refine VC.loop (I := fun kk ff ss => ∃ (j : Nat), kk = l.length - j ∧ ff = [(0, .v y213 l), (3, I (((l.take j).flatten.length : Nat) : Int)), (9, .v y213 l), (10, I ((l.length : Nat) : Int)), (11, I ((j : Nat) : Int))] ∧ ss = [] ∧ (j ≤ l.length)) ?_ _ _ _ ⟨0, rfl, rfl, rfl, Nat.zero_le _⟩; rintro kk ff ss ⟨j, hk0, rfl, rfl, hj⟩; refine VC.seq (VC.text ?_); refine VO.c (.lss) ?_; refine VO.go (VC.seq ?_); refine VC.condD rfl (fun c3 => ?_) (fun c3 => ?_)
  · refine VC.skip (VC.seq (VC.block (VC.seq (VC.text ?_)))); refine VO.c (.ix (j := j) rfl rfl el213 (by omega)) ?_; refine VO.r (.ld vt59) ?_; refine VO.c (.assign rfl) ?_; refine VO.go (VC.seq (VC.text ?_)); have hs := flat_le (l := l) (j + 1); rw [flat_succ (by omega), List.length_append] at hs; refine VO.c (.move rfl) (VO.c (.move rfl) ?_); refine VO.r (.len el59) ?_; refine VO.c (.add rfl rfl (by omega)) (VO.c (.assign rfl) ?_); refine VO.go (VC.seq (VC.text ?_)); refine VO.c (.move rfl) (VO.c (.lss) (VO.go ?_)); refine VC.condD rfl (fun c6 => ?_) (fun c6 => ?_)
    · exact absurd c6 (by omega)
    refine VC.skip (VC.text ?_); refine VO.c (.add rfl rfl (by omega)) (VO.c (.move rfl) ?_); refine VO.nil ?_; refine ⟨_, [(0, .v y213 l), (3, I (((l.take (j + 1)).flatten.length : Nat) : Int)), (9, .v y213 l), (10, I ((l.length : Nat) : Int)), (11, I (((j + 1) : Nat) : Int))], ?_, ⟨rfl, slI rfl (by rw [flat_succ (by omega), List.length_append] <;> rfl), rfl, rfl, rfl, trivial⟩, (j + 1), rfl, rfl, rfl, (by omega)⟩; omega
  refine VC.exit (VC.seq (VC.text ?_)); have hjl : l.take j = l := List.take_of_length_le (by omega); refine VO.c (.move rfl) ?_; refine VO.call rfl rfl (VF.call (zGrowPa0_ok (by rw [hjl]; exact h0))) ?_; refine VO.c (.assign rfl) ?_; refine VO.go (VC.seq (VC.seq (VC.text ?_))); refine VO.c (.move rfl) ?_; refine VO.r (.len el213) ?_; refine VO.c (.move rfl) ?_; refine VO.go (VC.block ?_); refine VC.cell0 111 y111 ?_; refine VC.keep [(6, .raw (.slice none 0 0)), (25, .v y213 l), (26, I ((l.length : Nat) : Int)), (27, I ((0 : Nat) : Int))] ⟨rfl, rfl, rfl, rfl, trivial⟩ ?_; refine VC.loop (I := fun kk ff ss => ∃ (i : Nat) (out : Value), kk = l.length - i ∧ ff = [(6, .raw out), (25, .v y213 l), (26, I ((l.length : Nat) : Int)), (27, I ((i : Nat) : Int))] ∧ ss = [(out, .row 111 y111 ((l.take i).flatten))] ∧ (i ≤ l.length)) ?_ _ _ _ ⟨0, (.slice none 0 0), rfl, rfl, rfl, Nat.zero_le _⟩; rintro kk ff ss ⟨i, out, hk2, rfl, rfl, hi⟩; refine VC.seq (VC.text ?_); refine VO.c (.lss) ?_; refine VO.go (VC.seq ?_); refine VC.condD rfl (fun c11 => ?_) (fun c11 => ?_)
  · refine VC.skip (VC.seq (VC.block (VC.seq (VC.text ?_)))); refine VO.c (.ix (j := i) rfl rfl el213 (by omega)) ?_; refine VO.r (.ld vt59) ?_; refine VO.c (.assign rfl) ?_; refine VO.go (VC.text ?_); have hs := flat_le (l := l) (i + 1); rw [flat_succ (by omega), List.length_append] at hs; refine VO.c (.move rfl) (VO.c (.move rfl) ?_); refine VO.app rfl rfl el59 el59 (by omega) ?_; intro ww4; refine VO.c (.assign rfl) ?_; refine VO.nil (VC.text ?_); refine VO.c (.add rfl rfl (by omega)) (VO.c (.move rfl) ?_); refine VO.nil ?_; refine ⟨_, [(6, .raw ww4), (25, .v y213 l), (26, I ((l.length : Nat) : Int)), (27, I (((i + 1) : Nat) : Int))], ?_, ⟨rfl, rfl, rfl, rfl, trivial⟩, (i + 1), ww4, rfl, rfl, (by rw [flat_succ (by omega)] <;> rfl), (by omega)⟩; omega
  refine VC.exit (VC.seq (VC.text ?_)); refine VO.c (.move rfl) (VO.c (.assign rfl) (VO.go ?_)); refine VC.ret ?_; exact VEndG.row rfl evT ⟨out, rfl, (by rw [List.take_of_length_le (by omega)])⟩
theorem zConcatPa_ok {l : List (List (Int × Int))} (hl : l.length < 100000) (h1 : l.flatten.length ≤ 1000000) : VFG Tryz.prog OA 151 [.v y213 l] [] (fun r g => ∃ w, r = .raw w ∧ g = [(w, .row 111 y111 l.flatten)]) := by
  by_cases h : l.flatten.length = 0
  · exact zConcatPa0_ok hl h
  exact zConcatPa1_ok hl (Nat.pos_of_ne_zero h) h1
def fstB : List Int → List Int → Bool
  | [], [] => false
  | [], _ :: _ => true
  | _ :: _, [] => false
  | a :: x, b :: y => if a ≠ b then decide (a < b) else fstB x y
theorem fstB_cmp : ∀ {x y : List Int}, fstB x y = decide (cmpL x y < 0)
  | [], [] => rfl
  | [], _ :: _ => rfl
  | _ :: _, [] => rfl
  | a :: x, b :: y => by
    unfold fstB cmpL cmpI; by_cases h : a = b
    · subst h; simp only [ne_eq, not_true_eq_false, if_false, Int.lt_irrefl]; exact fstB_cmp
    by_cases h2 : a < b
    · simp [h, h2]
    have h3 : b < a := by omega
    simp [h, h2, h3]
theorem cmpL_zero : ∀ {x y : List Int}, cmpL x y = 0 ↔ x = y
  | [], [] => by simp [cmpL]
  | [], _ :: _ => by simp [cmpL]
  | _ :: _, [] => by simp [cmpL]
  | a :: x, b :: y => by
    unfold cmpL cmpI; by_cases h : a = b
    · subst h; simp only [ne_eq, not_true_eq_false, if_false, Int.lt_irrefl]; rw [cmpL_zero]; simp
    by_cases h2 : a < b
    · simp [h, h2]
    have h3 : b < a := by omega
    simp [h, h2, h3]
def endT (l : List Shp) (q : List (Int × Int)) : Int := if q.length = 0 then 0 else (endP q).2 + (shA l (endP q).1.toNat).2.2.1
def QOk (l : List Shp) (turn clear : Int) (q : List (Int × Int)) : Prop := ∀ i, i < q.length → pasE l turn clear q i = 0
def betR (l : List Shp) (p q : List (Int × Int)) : Bool := if sumP l p p.length ≠ sumP l q q.length then decide (sumP l q q.length < sumP l p p.length) else if setL p ≠ setL q then fstB (setL p) (setL q) else decide (endT l p < endT l q)
end Go.Proofs
namespace Go.Proofs
open Go.Fs
set_option maxHeartbeats 1000000
def hasQ (q : List (Int × Int)) (i : Nat) : Bool := q.any fun y => decide (y.1 = ((i : Nat) : Int))
def cntQ (n : Nat) (q : List (Int × Int)) : Nat := ((List.range n).filter fun i => !hasQ q i).length
def goQ (l : List Shp) (turn clear : Int) (q : List (Int × Int)) (i : Nat) : Bool := !hasQ q i && decide (freeF l turn (endP q) i + (shA l i).2.2.1 ≤ clear)
def addQ (l : List Shp) (turn : Int) (q : List (Int × Int)) (i : Nat) : List (Int × Int) := q ++ [(((i : Nat) : Int), freeF l turn (endP q) i)]
def bestF (l : List Shp) (turn clear : Int) (R : List (Int × Int) → List (Int × Int)) (q : List (Int × Int)) : Nat → List (Int × Int)
  | 0 => q
  | i + 1 => if goQ l turn clear q i = true then (if betR l (R (addQ l turn q i)) (bestF l turn clear R q i) = true then R (addQ l turn q i) else bestF l turn clear R q i) else bestF l turn clear R q i
def bestG (l : List Shp) (turn clear : Int) : Nat → List (Int × Int) → List (Int × Int)
  | 0, q => q
  | f + 1, q => bestF l turn clear (bestG l turn clear f) q l.length
def bestE (l : List Shp) (turn clear : Int) (q : List (Int × Int)) : List (Int × Int) := bestG l turn clear (cntQ l.length q) q
theorem cnt_one {n i : Nat} {p : Nat → Bool} (hi : i < n) (hp : p i = true) : ((List.range n).filter fun j => p j && !(decide (j = i))).length + 1 = ((List.range n).filter p).length := by
  induction n with
  | zero => omega
  | succ n ih =>
    rw [List.range_succ, List.filter_append, List.filter_append, List.length_append, List.length_append]; by_cases e : i = n
    · subst e
      have h1 : ((List.range i).filter fun j => p j && !(decide (j = i))) = (List.range i).filter p := by
        refine List.filter_congr fun j hj => ?_; have := List.mem_range.1 hj; rw [decide_eq_false (show ¬ j = i by omega)]; simp
      rw [h1]; simp [hp]
    have := ih (by omega)
    have h2 : ([n].filter fun j => p j && !(decide (j = i))) = [n].filter p := by
      simp [List.filter_cons, show ¬ n = i by omega]
    rw [h2]; omega
theorem has_add {l : List Shp} {turn : Int} {q : List (Int × Int)} {i j : Nat} : hasQ (addQ l turn q i) j = (hasQ q j || decide (j = i)) := by
  unfold hasQ addQ; rw [List.any_append]; congr 1; simp only [List.any_cons, List.any_nil, Bool.or_false]; by_cases h : j = i
  · subst h; simp
  rw [decide_eq_false h, decide_eq_false (fun e => h (by omega))]
theorem cnt_add {l : List Shp} {turn : Int} {n : Nat} {q : List (Int × Int)} {i : Nat} (hi : i < n) (h : hasQ q i = false) : cntQ n (addQ l turn q i) + 1 = cntQ n q := by
  unfold cntQ; rw [← cnt_one (p := fun i => !hasQ q i) hi (by rw [h]; rfl)]; congr 2; refine List.filter_congr fun j _ => ?_; rw [has_add, Bool.not_or]
theorem go_has {l : List Shp} {turn clear : Int} {q : List (Int × Int)} {i : Nat} (h : goQ l turn clear q i = true) : hasQ q i = false := by
  unfold goQ at h; have := (band h).1; simpa using this
theorem cnt_pos {n : Nat} {q : List (Int × Int)} {i : Nat} (hi : i < n) (h : hasQ q i = false) : 0 < cntQ n q := by
  have := cnt_add (l := []) (turn := 0) hi h; omega
theorem bestF_cg {l : List Shp} {turn clear : Int} {R R' : List (Int × Int) → List (Int × Int)} {q : List (Int × Int)} : ∀ {n : Nat}, (∀ i, i < n → goQ l turn clear q i = true → R (addQ l turn q i) = R' (addQ l turn q i)) → bestF l turn clear R q n = bestF l turn clear R' q n
  | 0, _ => rfl
  | n + 1, h => by
    have ih := bestF_cg (R := R) (R' := R') (q := q) (n := n) fun i hi => h i (by omega); unfold bestF; rw [ih]; by_cases hg : goQ l turn clear q n = true
    · rw [if_pos hg, if_pos hg, h n (by omega) hg]
    rw [if_neg hg, if_neg hg]
theorem bestF_none {l : List Shp} {turn clear : Int} {R : List (Int × Int) → List (Int × Int)} {q : List (Int × Int)} : ∀ {n : Nat}, (∀ i, i < n → ¬ goQ l turn clear q i = true) → bestF l turn clear R q n = q
  | 0, _ => rfl
  | n + 1, h => by
    unfold bestF; rw [if_neg (h n (by omega))]; exact bestF_none fun i hi => h i (by omega)
theorem bestE_eq {l : List Shp} {turn clear : Int} {q : List (Int × Int)} : bestE l turn clear q = bestF l turn clear (bestE l turn clear) q l.length := by
  unfold bestE
  cases hc : cntQ l.length q with
  | zero =>
    show q = _
    rw [bestF_none fun i hi hg => by have := cnt_pos hi (go_has hg); omega]
  | succ f =>
    show bestF l turn clear (bestG l turn clear f) q l.length = _; refine bestF_cg fun i hi hg => ?_; have := cnt_add (l := l) (turn := turn) hi (go_has hg); rw [show cntQ l.length (addQ l turn q i) = f by omega]
theorem paA_app {q : List (Int × Int)} {y : Int × Int} {j : Nat} (h : j < q.length) : paA (q ++ [y]) j = paA q j := by
  rw [paA_eq (by simp; omega), paA_eq h, List.getElem_append_left h]
theorem paA_end {q : List (Int × Int)} {y : Int × Int} : paA (q ++ [y]) q.length = y := by
  rw [paA_eq (by simp), List.getElem_append_right (Nat.le_refl _)]; simp
theorem lastP_app {q : List (Int × Int)} {y : Int × Int} : ∀ {j : Nat}, j ≤ q.length → lastP (q ++ [y]) j = lastP q j
  | 0, _ => rfl
  | j + 1, h => paA_app (by omega)
theorem endP_app {q : List (Int × Int)} {y : Int × Int} : endP (q ++ [y]) = y := by
  unfold endP; rw [List.length_append, List.length_singleton]; exact paA_end
theorem sumP_app {l : List Shp} {q : List (Int × Int)} {y : Int × Int} : ∀ {j : Nat}, j ≤ q.length → sumP l (q ++ [y]) j = sumP l q j
  | 0, _ => rfl
  | j + 1, h => by rw [sumP, sumP, sumP_app (by omega), paA_app (by omega)]
theorem sumP_add {l : List Shp} {q : List (Int × Int)} {y : Int × Int} : sumP l (q ++ [y]) (q ++ [y]).length = sumP l q q.length + (shA l y.1.toNat).2.2.2.2 := by
  rw [List.length_append, List.length_singleton, sumP, sumP_app (Nat.le_refl _), paA_end]
theorem qok_add {l : List Shp} (hok : ShpOk l) {turn clear : Int} {q : List (Int × Int)} (h : QOk l turn clear q) {i : Nat} (hi : i < l.length) (hg : goQ l turn clear q i = true) : QOk l turn clear (addQ l turn q i) := fun j hj => by
  unfold addQ at hj ⊢; rw [List.length_append, List.length_singleton] at hj; by_cases e : j < q.length
  · have h1 := h j e; unfold pasE at h1 ⊢; rw [paA_app e, lastP_app (by omega)]; unfold twiP at h1 ⊢; rw [List.take_append_of_le_length (by omega)]; exact h1
  obtain rfl : j = q.length := by omega
  have hh := go_has hg; have h2 := of_decide_eq_true (band hg).2; have e1 := paA_end (q := q) (y := (((i : Nat) : Int), freeF l turn (endP q) i)); unfold pasE; rw [e1, if_neg (by show ¬ (((i : Nat) : Int) < 0 ∨ _ ≤ ((i : Nat) : Int)); omega), lastP_app (Nat.le_refl _)]; refine pasX_0 ?_ ?_ ?_
  · unfold twiP; rw [List.take_append_of_le_length (Nat.le_refl _), List.take_length]; exact hh
  · show ¬ freeF l turn (endP q) i < freeF l turn (lastP q q.length) (((i : Nat) : Int)).toNat; rw [Int.toNat_natCast]; exact Int.lt_irrefl _
  show ¬ clear - (shA l (((i : Nat) : Int)).toNat).2.2.1 < freeF l turn (endP q) i; rw [Int.toNat_natCast]; omega
structure QI (l : List Shp) (turn clear : Int) (q : List (Int × Int)) : Prop where
  ok : QOk l turn clear q
  len : q.length + cntQ l.length q ≤ l.length
theorem QI.add {l : List Shp} (hok : ShpOk l) {turn clear : Int} {q : List (Int × Int)} (h : QI l turn clear q) {i : Nat} (hi : i < l.length) (hg : goQ l turn clear q i = true) : QI l turn clear (addQ l turn q i) where
  ok := qok_add hok h.ok hi hg
  len := by
    have := cnt_add (l := l) (turn := turn) hi (go_has hg); have := h.len
    have e : (addQ l turn q i).length = q.length + 1 := by simp [addQ]
    omega
theorem QI.nil {l : List Shp} {turn clear : Int} : QI l turn clear [] where
  ok := fun i hi => by cases hi
  len := by
    have := List.length_filter_le (fun i => !hasQ [] i) (List.range l.length); unfold cntQ; simpa using this
theorem bestF_ok {l : List Shp} {turn clear : Int} {R : List (Int × Int) → List (Int × Int)} {q : List (Int × Int)} (hq : QOk l turn clear q ∧ q.length ≤ l.length) : ∀ {n : Nat}, (∀ i, i < n → goQ l turn clear q i = true → QOk l turn clear (R (addQ l turn q i)) ∧ (R (addQ l turn q i)).length ≤ l.length) → QOk l turn clear (bestF l turn clear R q n) ∧ (bestF l turn clear R q n).length ≤ l.length
  | 0, _ => hq
  | n + 1, h => by
    have ih := bestF_ok (R := R) hq (n := n) fun i hi => h i (by omega); unfold bestF; by_cases hg : goQ l turn clear q n = true
    · rw [if_pos hg]; split
      · exact h n (by omega) hg
      exact ih
    rw [if_neg hg]; exact ih
theorem bestE_ok {l : List Shp} (hok : ShpOk l) {turn clear : Int} : ∀ (f : Nat) {q : List (Int × Int)}, cntQ l.length q ≤ f → QI l turn clear q → QOk l turn clear (bestE l turn clear q) ∧ (bestE l turn clear q).length ≤ l.length
  | 0, q, hf, h => by
    rw [bestE_eq]
    exact bestF_ok ⟨h.ok, by have := h.len; omega⟩ fun i hi hg => by have := cnt_pos hi (go_has hg); omega
  | f + 1, q, hf, h => by
    rw [bestE_eq]; exact bestF_ok ⟨h.ok, by have := h.len; omega⟩ fun i hi hg => bestE_ok hok f (by have := cnt_add (l := l) (turn := turn) hi (go_has hg); omega) (h.add hok hi hg)
def bestP (l : List Shp) (turn clear : Int) (q : List (Int × Int)) (n : Nat) : List (Int × Int) := bestF l turn clear (bestE l turn clear) q n
theorem bestP_ok {l : List Shp} (hok : ShpOk l) {turn clear : Int} {q : List (Int × Int)} (h : QI l turn clear q) {n : Nat} (hn : n ≤ l.length) : QOk l turn clear (bestP l turn clear q n) ∧ (bestP l turn clear q n).length ≤ l.length :=
  bestF_ok ⟨h.ok, by have := h.len; omega⟩ fun i hi hg => bestE_ok hok _ (Nat.le_refl _) (h.add hok (by omega) hg)
theorem bestP_s {l : List Shp} {turn clear : Int} {q : List (Int × Int)} {n : Nat} (hg : goQ l turn clear q n = true) : bestP l turn clear q (n + 1) = if betR l (bestE l turn clear (addQ l turn q n)) (bestP l turn clear q n) = true then bestE l turn clear (addQ l turn q n) else bestP l turn clear q n := by
  unfold bestP
  conv => lhs; unfold bestF
  rw [if_pos hg]
theorem bestP_n {l : List Shp} {turn clear : Int} {q : List (Int × Int)} {n : Nat} (hg : ¬ goQ l turn clear q n = true) : bestP l turn clear q (n + 1) = bestP l turn clear q n := by
  unfold bestP
  conv => lhs; unfold bestF
  rw [if_neg hg]
def rowQ (l : List Shp) (q : List (Int × Int)) : List (Int × Int) × Int × Int := (q, sumP l q q.length, endT l q)
theorem rowQ_add {l : List Shp} {turn : Int} {q : List (Int × Int)} {i : Nat} : rowQ l (addQ l turn q i) = (addQ l turn q i, sumP l q q.length + (shA l i).2.2.2.2, freeF l turn (endP q) i + (shA l i).2.2.1) := by
  unfold rowQ addQ; rw [sumP_add, endT, if_neg (by simp), endP_app]; rfl
theorem cmpI_lt {a b : Int} : cmpI a b < 0 ↔ a < b := by
  unfold cmpI; by_cases h : a < b
  · simp [h]
  rw [if_neg h]; by_cases h2 : b < a <;> simp [h, h2]
theorem cmpI_zero {a b : Int} : cmpI a b = 0 ↔ a = b := by
  unfold cmpI; by_cases h : a < b
  · simp [h]; omega
  rw [if_neg h]; by_cases h2 : b < a
  · simp [h2]; omega
  simp [h2]; omega
theorem betC_R {l : List Shp} {p q : List (Int × Int)} : betC (rowQ l p) (rowQ l q) = betR l p q := by
  unfold betC betR rowQ firstE; simp only; by_cases h : sumP l p p.length = sumP l q q.length
  · rw [if_pos (cmpI_zero.2 h.symm), if_neg (fun hh => hh h)]; unfold firstE; by_cases h2 : setL p = setL q
    · rw [if_pos (cmpL_zero.2 h2), if_neg (fun hh => hh h2)]; unfold firstE; by_cases h3 : endT l p = endT l q
      · rw [if_pos (cmpI_zero.2 h3), h3]; simp [firstE]
      rw [if_neg (fun hh => h3 (cmpI_zero.1 hh))]; exact decide_eq_decide.2 cmpI_lt
    rw [if_neg (fun hh => h2 (cmpL_zero.1 hh)), if_pos h2, fstB_cmp]
  rw [if_neg (fun hh => h (cmpI_zero.1 hh).symm), if_pos h]; exact decide_eq_decide.2 cmpI_lt
end Go.Proofs
namespace Go.Proofs
open Go.Fs
set_option maxHeartbeats 1000000
def sumQ (l : List Shp) (q : List (Int × Int)) : Int := sumP l q q.length
theorem betR_t {l : List Shp} {p q : List (Int × Int)} (h : betR l p q = true) : sumQ l q ≤ sumQ l p := by
  unfold betR at h; unfold sumQ; by_cases e : sumP l p p.length = sumP l q q.length
  · omega
  rw [if_pos e] at h; have := of_decide_eq_true h; omega
theorem betR_f {l : List Shp} {p q : List (Int × Int)} (h : ¬ betR l p q = true) : sumQ l p ≤ sumQ l q := by
  unfold betR at h; unfold sumQ; by_cases e : sumP l p p.length = sumP l q q.length
  · omega
  rw [if_pos e] at h; by_cases h2 : sumP l q q.length < sumP l p p.length
  · exact absurd (decide_eq_true h2) h
  omega
theorem bestF_ge {l : List Shp} {turn clear : Int} {R : List (Int × Int) → List (Int × Int)} {q : List (Int × Int)} : ∀ {n : Nat}, sumQ l q ≤ sumQ l (bestF l turn clear R q n) ∧ ∀ i, i < n → goQ l turn clear q i = true → sumQ l (R (addQ l turn q i)) ≤ sumQ l (bestF l turn clear R q n)
  | 0 => ⟨Int.le_refl _, fun i hi => by omega⟩
  | n + 1 => by
    obtain ⟨h1, h2⟩ := bestF_ge (l := l) (turn := turn) (clear := clear) (R := R) (q := q) (n := n); unfold bestF; by_cases hg : goQ l turn clear q n = true
    · rw [if_pos hg]; by_cases hb : betR l (R (addQ l turn q n)) (bestF l turn clear R q n) = true
      · rw [if_pos hb]; have h3 := betR_t hb; refine ⟨by omega, fun i hi hgi => ?_⟩; by_cases e : i = n
        · subst e; exact Int.le_refl _
        have := h2 i (by omega) hgi; omega
      rw [if_neg hb]; have h3 := betR_f hb; refine ⟨h1, fun i hi hgi => ?_⟩; by_cases e : i = n
      · subst e; exact h3
      exact h2 i (by omega) hgi
    rw [if_neg hg]; refine ⟨h1, fun i hi hgi => ?_⟩; by_cases e : i = n
    · subst e; exact absurd hgi hg
    exact h2 i (by omega) hgi
theorem bestE_ge {l : List Shp} {turn clear : Int} {q : List (Int × Int)} : sumQ l q ≤ sumQ l (bestE l turn clear q) := by
  rw [bestE_eq]; exact bestF_ge.1
theorem bestE_add {l : List Shp} {turn clear : Int} {q : List (Int × Int)} {i : Nat} (hi : i < l.length) (hg : goQ l turn clear q i = true) : sumQ l (bestE l turn clear (addQ l turn q i)) ≤ sumQ l (bestE l turn clear q) := by
  conv => rhs; rw [bestE_eq]
  exact bestF_ge.2 i hi hg
def grd (l : List Shp) (turn : Int) (p : List (Int × Int)) : Nat → List (Int × Int)
  | 0 => []
  | j + 1 => addQ l turn (grd l turn p j) (paA p j).1.toNat
theorem grd_len {l : List Shp} {turn : Int} {p : List (Int × Int)} : ∀ j, (grd l turn p j).length = j
  | 0 => rfl
  | j + 1 => by show (addQ l turn (grd l turn p j) _).length = _; simp [addQ, grd_len j]
theorem free_mono {l : List Shp} {turn : Int} {a b : Int × Int} {s : Nat} (h1 : a.1 = b.1) (h2 : a.2 ≤ b.2) (hb : 0 ≤ b.1) : freeF l turn a s ≤ freeF l turn b s := by
  have ha : ¬ a = (-1, 0) := fun e => by have : a.1 = -1 := congrArg Prod.fst e; omega
  have hb2 : ¬ b = (-1, 0) := fun e => by have : b.1 = -1 := congrArg Prod.fst e; omega
  unfold freeF; rw [if_neg ha, if_neg hb2, h1]; split <;> omega
structure GrI (l : List Shp) (turn : Int) (p : List (Int × Int)) (j : Nat) : Prop where
  at_ : ∀ i, i < j → (paA (grd l turn p j) i).1 = (paA p i).1 ∧ (paA (grd l turn p j) i).2 ≤ (paA p i).2
  sum : sumQ l (grd l turn p j) = sumP l p j
theorem has_at {q : List (Int × Int)} {i : Nat} : hasQ q i = true ↔ ∃ j, j < q.length ∧ (paA q j).1 = ((i : Nat) : Int) := by
  unfold hasQ; rw [List.any_eq_true]; constructor
  · rintro ⟨y, hy, he⟩; obtain ⟨j, hj, rfl⟩ := List.mem_iff_getElem.1 hy; exact ⟨j, hj, by rw [paA_eq hj]; exact of_decide_eq_true he⟩
  rintro ⟨j, hj, he⟩; exact ⟨q[j], List.getElem_mem hj, decide_eq_true (by rw [← paA_eq hj]; exact he)⟩
theorem twi_at {p : List (Int × Int)} {n : Nat} (hn : n ≤ p.length) {s : Int} : twiP p n s = true ↔ ∃ j, j < n ∧ (paA p j).1 = s := by
  unfold twiP; rw [List.any_eq_true]; constructor
  · rintro ⟨y, hy, he⟩; obtain ⟨j, hj, rfl⟩ := List.mem_iff_getElem.1 hy; rw [List.length_take] at hj; rw [List.getElem_take] at he; exact ⟨j, by omega, by rw [paA_eq (by omega)]; exact of_decide_eq_true he⟩
  rintro ⟨j, hj, he⟩; refine ⟨p[j], List.mem_iff_getElem.2 ⟨j, by rw [List.length_take]; omega, by rw [List.getElem_take]⟩, decide_eq_true ?_⟩; rw [← paA_eq (by omega)]; exact he
theorem grd_go {l : List Shp} (hok : ShpOk l) {turn clear : Int} (hc : clear ≤ 100000) {p : List (Int × Int)} (hp : QOk l turn clear p) {j : Nat} (hj : j < p.length) (h : GrI l turn p j) : goQ l turn clear (grd l turn p j) (paA p j).1.toNat = true := by
  have h1 := pas_ok hok hc (hp j hj)
  have hno : hasQ (grd l turn p j) (paA p j).1.toNat = false := by
    cases hh : hasQ (grd l turn p j) (paA p j).1.toNat with
    | false => rfl
    | true =>
      obtain ⟨i, hi, he⟩ := has_at.1 hh; rw [grd_len] at hi; rw [(h.at_ i hi).1] at he; have := (twi_at (show j ≤ p.length by omega) (s := (paA p j).1)).2 ⟨i, hi, by omega⟩; rw [h1.2.1] at this; cases this
  have hfr : freeF l turn (endP (grd l turn p j)) (paA p j).1.toNat ≤ freeF l turn (lastP p j) (paA p j).1.toNat := by
    cases j with
    | zero => exact Int.le_refl _
    | succ j =>
      have h2 := h.at_ j (by omega); have h3 := pas_ok hok hc (hp j (by omega))
      have e : endP (grd l turn p (j + 1)) = paA (grd l turn p (j + 1)) j := by unfold endP; rw [grd_len] <;> rfl
      rw [e]; exact free_mono h2.1 h2.2 h3.1.1
  unfold goQ; rw [hno, decide_eq_true (by have := h1.2.2.1; have := h1.2.2.2.1; omega)] <;> rfl
theorem grd_i {l : List Shp} (hok : ShpOk l) {turn clear : Int} (hc : clear ≤ 100000) {p : List (Int × Int)} (hp : QOk l turn clear p) : ∀ j, j ≤ p.length → GrI l turn p j
  | 0, _ => ⟨fun i hi => by omega, rfl⟩
  | j + 1, hj => by
    have ih := grd_i hok hc hp j (by omega); have hg := grd_go hok hc hp (show j < p.length by omega) ih; have h1 := pas_ok hok hc (hp j (by omega)); have hl := grd_len (l := l) (turn := turn) (p := p) j
    have hfr : freeF l turn (endP (grd l turn p j)) (paA p j).1.toNat ≤ (paA p j).2 := by
      have h0 := h1.2.2.1
      have : freeF l turn (endP (grd l turn p j)) (paA p j).1.toNat ≤ freeF l turn (lastP p j) (paA p j).1.toNat := by
        cases j with
        | zero => exact Int.le_refl _
        | succ j =>
          have h2 := ih.at_ j (by omega); have h3 := pas_ok hok hc (hp j (by omega))
          have e : endP (grd l turn p (j + 1)) = paA (grd l turn p (j + 1)) j := by unfold endP; rw [grd_len] <;> rfl
          rw [e]; exact free_mono h2.1 h2.2 h3.1.1
      omega
    refine ⟨fun i hi => ?_, ?_⟩
    · show (paA (addQ l turn (grd l turn p j) (paA p j).1.toNat) i).1 = _ ∧ (paA (addQ l turn (grd l turn p j) (paA p j).1.toNat) i).2 ≤ _; unfold addQ; by_cases e : i < j
      · rw [paA_app (by omega)]; exact ih.at_ i e
      obtain rfl : i = j := by omega
      have e2 := paA_end (q := grd l turn p i) (y := ((((paA p i).1.toNat : Nat) : Int), freeF l turn (endP (grd l turn p i)) (paA p i).1.toNat)); rw [hl] at e2; rw [e2]; exact ⟨Int.toNat_of_nonneg h1.1.1, hfr⟩
    show sumP l (addQ l turn (grd l turn p j) (paA p j).1.toNat) (addQ l turn (grd l turn p j) (paA p j).1.toNat).length = _; unfold addQ; rw [sumP_add, sumP]; have := ih.sum; unfold sumQ at this; rw [this, Int.toNat_natCast]
theorem best_max {l : List Shp} (hok : ShpOk l) {turn clear : Int} (hc : clear ≤ 100000) {p : List (Int × Int)} (hp : QOk l turn clear p) : sumQ l p ≤ sumQ l (bestE l turn clear []) := by
  have key : ∀ j, j ≤ p.length → sumQ l (bestE l turn clear (grd l turn p j)) ≤ sumQ l (bestE l turn clear []) := by
    intro j
    induction j with
    | zero => intro _; exact Int.le_refl _
    | succ j ih =>
      intro hj; have h1 := ih (by omega); have hg := grd_go hok hc hp (show j < p.length by omega) (grd_i hok hc hp j (by omega)); have hs := (pas_ok hok hc (hp j (by omega))).1; have h2 := bestE_add (turn := turn) (clear := clear) (q := grd l turn p j) (show (paA p j).1.toNat < l.length by omega) hg; exact Int.le_trans h2 h1
  have h1 := key p.length (Nat.le_refl _); have h2 := (grd_i hok hc hp p.length (Nat.le_refl _)).sum; have h3 := bestE_ge (l := l) (turn := turn) (clear := clear) (q := grd l turn p p.length); unfold sumQ at *; omega
end Go.Proofs
namespace Go.Proofs
open Go.Fs
set_option maxHeartbeats 1000000
theorem pas_iff {l : List Shp} {turn clear : Int} {p : List (Int × Int)} {i : Nat} : pasE l turn clear p i = 0 ↔ (0 ≤ (paA p i).1 ∧ (paA p i).1 < ((l.length : Nat) : Int)) ∧ twiP p i (paA p i).1 = false ∧ freeF l turn (lastP p i) (paA p i).1.toNat ≤ (paA p i).2 ∧ (paA p i).2 ≤ clear - (shA l (paA p i).1.toNat).2.2.1 := by
  constructor
  · intro h; unfold pasE at h; by_cases hr : (paA p i).1 < 0 ∨ ((l.length : Nat) : Int) ≤ (paA p i).1
    · rw [if_pos hr] at h; cases h
    rw [if_neg hr] at h; have hz := firstE_zero.1 h; have h1 := (whenE_zero (by decide)).1 (hz _ List.mem_cons_self); have h2 := of_decide_eq_false ((whenE_zero (by decide)).1 (hz _ (List.mem_cons_of_mem _ List.mem_cons_self))); have h3 := of_decide_eq_false ((whenE_zero (by decide)).1 (hz _ (List.mem_cons_of_mem _ (List.mem_cons_of_mem _ List.mem_cons_self)))); exact ⟨by omega, h1, by omega, by omega⟩
  rintro ⟨h1, h2, h3, h4⟩; unfold pasE; rw [if_neg (by omega)]; exact pasX_0 h2 (by omega) (by omega)
theorem qok_clear {l : List Shp} {turn clear clear' : Int} {p : List (Int × Int)} (hc : clear ≤ clear') (h : QOk l turn clear p) : QOk l turn clear' p := fun i hi => by
  obtain ⟨h1, h2, h3, h4⟩ := pas_iff.1 (h i hi); exact pas_iff.2 ⟨h1, h2, h3, by omega⟩
theorem free_turn {l : List Shp} {turn turn' : Int} (ht : turn' ≤ turn) (h0 : 0 ≤ turn') {a : Int × Int} {s : Nat} : freeF l turn' a s ≤ freeF l turn a s := by
  unfold freeF; by_cases e : a = (-1, 0)
  · rw [if_pos e, if_pos e]; exact Int.le_refl _
  rw [if_neg e, if_neg e]; split <;> omega
theorem qok_turn {l : List Shp} {turn turn' clear : Int} {p : List (Int × Int)} (ht : turn' ≤ turn) (h0 : 0 ≤ turn') (h : QOk l turn clear p) : QOk l turn' clear p := fun i hi => by
  obtain ⟨h1, h2, h3, h4⟩ := pas_iff.1 (h i hi); exact pas_iff.2 ⟨h1, h2, Int.le_trans (free_turn ht h0) h3, h4⟩
theorem free_neg {l : List Shp} {turn : Int} {a : Int × Int} {s : Nat} (h : ¬ a = (-1, 0)) : freeF l turn a s = max (a.2 + (shA l a.1.toNat).2.2.1 + (if (shA l a.1.toNat).2.2.2.1 ≠ (shA l s).2.2.2.1 then turn else 0)) (shA l s).2.1 := if_neg h
def shfP (p : List (Int × Int)) : List (Int × Int) := p.map fun y => (y.1 + 1, y.2)
theorem shA_succ {x : Shp} {l : List Shp} {i : Nat} : shA (x :: l) (i + 1) = shA l i := rfl
theorem paA_shf {p : List (Int × Int)} {i : Nat} (h : i < p.length) : paA (shfP p) i = ((paA p i).1 + 1, (paA p i).2) := by
  rw [paA_eq (by simpa [shfP] using h), paA_eq h]; simp [shfP]
theorem qok_shf {x : Shp} {l : List Shp} (hok : ShpOk l) {turn clear : Int} (hc : clear ≤ 100000) {p : List (Int × Int)} (h : QOk l turn clear p) : QOk (x :: l) turn clear (shfP p) := fun i hi => by
  have hi : i < p.length := by simpa [shfP] using hi
  have h0 := pas_iff.1 (h i hi); obtain ⟨h1, h2, h3, h4⟩ := h0; have e := paA_shf hi
  have e2 : ((paA p i).1 + 1).toNat = (paA p i).1.toNat + 1 := by omega
  refine pas_iff.2 ?_; rw [e]; refine ⟨by show 0 ≤ (paA p i).1 + 1 ∧ (paA p i).1 + 1 < _; rw [List.length_cons]; omega, ?_, ?_, ?_⟩
  · show twiP (shfP p) i ((paA p i).1 + 1) = false; refine Bool.eq_false_iff.2 fun ht => ?_; obtain ⟨j, hj, he⟩ := (twi_at (p := shfP p) (by simp [shfP]; omega)).1 ht; rw [paA_shf (by omega)] at he; have he : (paA p j).1 + 1 = (paA p i).1 + 1 := he; have := (twi_at (p := p) (show i ≤ p.length by omega) (s := (paA p i).1)).2 ⟨j, hj, by omega⟩; rw [h2] at this; cases this
  · show freeF (x :: l) turn (lastP (shfP p) i) ((paA p i).1 + 1).toNat ≤ (paA p i).2; rw [e2]; refine Int.le_trans (Int.le_of_eq ?_) h3
    cases i with
    | zero => rfl
    | succ j =>
      have h5 := (pas_iff.1 (h j (by omega))).1; have e3 : lastP (shfP p) (j + 1) = ((paA p j).1 + 1, (paA p j).2) := paA_shf (by omega); have e4 : lastP p (j + 1) = paA p j := rfl; rw [e3, e4]; rw [free_neg (a := ((paA p j).1 + 1, (paA p j).2)) (fun hh => by have : (paA p j).1 + 1 = -1 := congrArg Prod.fst hh; omega), free_neg (a := paA p j) (fun hh => by have : (paA p j).1 = -1 := congrArg Prod.fst hh; omega)]
      have e5 : ((paA p j).1 + 1).toNat = (paA p j).1.toNat + 1 := by omega
      show max ((paA p j).2 + (shA (x :: l) ((paA p j).1 + 1).toNat).2.2.1 + (if (shA (x :: l) ((paA p j).1 + 1).toNat).2.2.2.1 ≠ _ then turn else 0)) _ = _; rw [e5, shA_succ, shA_succ]
  show (paA p i).2 ≤ clear - (shA (x :: l) ((paA p i).1 + 1).toNat).2.2.1; rw [e2, shA_succ]; exact h4
theorem sumP_shf {x : Shp} {l : List Shp} {p : List (Int × Int)} : ∀ {j : Nat}, j ≤ p.length → (∀ i, i < j → 0 ≤ (paA p i).1) → sumP (x :: l) (shfP p) j = sumP l p j
  | 0, _, _ => rfl
  | j + 1, hj, h => by
    rw [sumP, sumP, sumP_shf (by omega) fun i hi => h i (by omega), paA_shf (by omega)]; have := h j (by omega)
    have e5 : ((paA p j).1 + 1).toNat = (paA p j).1.toNat + 1 := by omega
    show _ + (shA (x :: l) ((paA p j).1 + 1).toNat).2.2.2.2 = _; rw [e5, shA_succ]
theorem sumQ_shf {x : Shp} {l : List Shp} {turn clear : Int} {p : List (Int × Int)} (h : QOk l turn clear p) : sumQ (x :: l) (shfP p) = sumQ l p := by
  unfold sumQ; rw [show (shfP p).length = p.length by simp [shfP]]; exact sumP_shf (Nat.le_refl _) fun i hi => (pas_iff.1 (h i hi)).1.1
theorem best_one {x : Shp} {turn clear : Int} (h : x.2.1 + x.2.2.1 ≤ clear) (hp : 0 < x.2.2.2.2) : bestE [x] turn clear [] = [(0, x.2.1)] := by
  rw [bestE_eq]
  have hg : goQ [x] turn clear [] 0 = true := by
    unfold goQ; have : freeF [x] turn (endP []) 0 = x.2.1 := rfl; rw [this]; show (true && decide (x.2.1 + x.2.2.1 ≤ clear)) = true; rw [decide_eq_true h] <;> rfl
  have ha : addQ [x] turn [] 0 = [(0, x.2.1)] := rfl
  have hb : bestE [x] turn clear [(0, x.2.1)] = [(0, x.2.1)] := by
    have : cntQ [x].length [((0 : Int), x.2.1)] = 0 := by simp [cntQ, hasQ]
    unfold bestE; rw [this] <;> rfl
  show bestF [x] turn clear (bestE [x] turn clear) [] 1 = _; unfold bestF; rw [if_pos hg, ha, hb]
  have : betR [x] [(0, x.2.1)] (bestF [x] turn clear (bestE [x] turn clear) [] 0) = true := by
    show betR [x] [(0, x.2.1)] [] = true; unfold betR
    have e1 : sumP [x] [((0 : Int), x.2.1)] 1 = x.2.2.2.2 := by simp [sumP, paA, shA]
    have e2 : sumP [x] ([] : List (Int × Int)) 0 = 0 := rfl; show (if sumP [x] [((0 : Int), x.2.1)] 1 ≠ sumP [x] [] 0 then decide (sumP [x] [] 0 < sumP [x] [((0 : Int), x.2.1)] 1) else _) = true; rw [e1, e2, if_pos (by omega), decide_eq_true hp]
  rw [if_pos this]
theorem best_late {x : Shp} {turn clear : Int} (h : clear < x.2.1 + x.2.2.1) : bestE [x] turn clear [] = [] := by
  rw [bestE_eq]; refine bestF_none fun i hi hg => ?_
  have hi : i = 0 := by simpa using hi
  subst hi; have h2 := of_decide_eq_true (band hg).2; have : freeF [x] turn (endP []) 0 = x.2.1 := rfl; rw [this] at h2; have h2 : x.2.1 + x.2.2.1 ≤ clear := h2; omega
end Go.Proofs
namespace Go.Proofs
open Go.Fs
set_option maxHeartbeats 1000000
theorem last_qi {l : List Shp} (hok : ShpOk l) {turn clear : Int} (hc : clear ≤ 100000) {q : List (Int × Int)} (h : QOk l turn clear q) : LastOk l (endP q) := last_ok hok hc (i := q.length) h
theorem goQ_t {l : List Shp} {turn clear : Int} {q : List (Int × Int)} {i : Nat} (h : hasQ q i = false) (h2 : ¬ clear < freeF l turn (endP q) i + (shA l i).2.2.1) : goQ l turn clear q i = true := by
  unfold goQ; rw [h, decide_eq_true (by omega)] <;> rfl
theorem free_b {l : List Shp} (hok : ShpOk l) {turn : Int} (ht : 0 ≤ turn ∧ turn ≤ 1000) {last : Int × Int} (hl : LastOk l last) (i : Nat) : 0 ≤ freeF l turn last i ∧ freeF l turn last i ≤ 102000 := by
  have h1 := hok.arr i; unfold freeF; by_cases e : last = (-1, 0)
  · rw [if_pos e]; omega
  rw [if_neg e]; have h2 := hl.resolve_left e; have h3 := hok.lng last.1.toNat; split <;> omega
end Go.Proofs
namespace Go.Proofs
open Go.Fs
set_option maxHeartbeats 1000000
def uncL (l : List Shp) (turn clear : Int) : List Int := choL (fun i => !(hasQ (bestE l turn clear []) i.toNat)) l.length
theorem best0_len {l : List Shp} (hok : ShpOk l) {turn clear : Int} : (bestE l turn clear []).length ≤ l.length := (bestE_ok hok _ (Nat.le_refl _) QI.nil).2
theorem lPassed_ok {l : List (Int × Int)} (hl : l.length < 100000) : VF Tryz.prog OA 52 [.v y59 l] (.v y68 l) := by
  refine VF.enter Tryz.func52 rfl (fun _ _ => rfl) rfl ?_; show VC _ _ _ _ _ [(0, .v y59 l)] [] _; refine VC.seq (VC.text ?_); refine VO.c (.assign rfl) ?_; refine VO.go (VC.seq (VC.text ?_)); refine VO.c (.assign rfl) ?_; refine VO.go (VC.seq (VC.seq (VC.text ?_))); refine VO.c (.move rfl) ?_; refine VO.r (.len el59) ?_; refine VO.c (.move rfl) ?_; refine VO.go (VC.block ?_); refine VC.cell0 128 y128 ?_; refine VC.keep [(3, .raw (.slice none 0 0)), (6, .v y59 l), (7, I ((l.length : Nat) : Int)), (8, I ((0 : Nat) : Int))] ⟨rfl, rfl, rfl, rfl, trivial⟩ ?_; refine VC.loop (I := fun kk ff ss => ∃ (i : Nat) (w : Value), kk = l.length - i ∧ ff = [(3, .raw w), (6, .v y59 l), (7, I ((l.length : Nat) : Int)), (8, I ((i : Nat) : Int))] ∧ ss = [(w, .row 128 y128 (l.take i))] ∧ (i ≤ l.length)) ?_ _ _ _ ⟨0, (.slice none 0 0), rfl, rfl, rfl, Nat.zero_le _⟩; rintro kk ff ss ⟨i, w, hk0, rfl, rfl, hi⟩; refine VC.seq (VC.text ?_); refine VO.c (.lss) ?_; refine VO.go (VC.seq ?_); refine VC.condD rfl (fun c3 => ?_) (fun c3 => ?_)
  · refine VC.skip (VC.seq (VC.block (VC.seq (VC.text ?_)))); refine VO.c (.ix (j := i) rfl rfl el59 (by omega)) ?_; refine VO.r (.ld vt111) ?_; refine VO.cell (.alloc zt111) ?_; intro ww2; refine VO.setV (cs' := [I ((l[i]).1), I ((l[i]).2)]) vt111 .v ?_; refine VO.shut [(5, .p y111 (l[i]))] (.cons rfl (.var m0 .refl) .nil) ?_; refine VO.go (VC.text ?_); refine VO.c (.move rfl) ?_; refine VO.r (.ld vt111) ?_; refine VO.new (.lit [l[i]] el68) ?_; refine VO.app rfl rfl el68 el68 (by simp; omega) ?_; intro ww3; refine VO.c (.assign rfl) ?_; refine VO.nil (VC.text ?_); refine VO.c (.add rfl rfl (by omega)) (VO.c (.move rfl) ?_); refine VO.nil ?_; refine ⟨_, [(3, .raw ww3), (6, .v y59 l), (7, I ((l.length : Nat) : Int)), (8, I (((i + 1) : Nat) : Int))], ?_, ⟨rfl, rfl, rfl, rfl, trivial⟩, (i + 1), ww3, rfl, rfl, (by rw [List.take_succ_eq_append_getElem (by omega)]), (by omega)⟩; omega
  refine VC.exit (VC.seq (VC.text ?_)); refine VO.c (.move rfl) (VO.c (.assign rfl) (VO.go ?_)); refine VC.ret ?_; exact VEnd.one rfl (evC (.row m0)) (pvE (by rw [List.take_of_length_le (by omega)]))
def lteR (l : List Shp) (clear : Int) : List Int := if firstE [shpsE l, rangeE clear 0 100000] = 0 then choL (fun i => decide (clear < (shA l i.toNat).2.1 + (shA l i.toNat).2.2.1)) l.length else []
theorem cLate_ok {l : List (ByteArray × Int × Int × Int × Int)} {clear : Int} (hl : l.length < 100000) : VF Tryz.prog OA 44 [.v y62 l, I clear] (.tup [.v y25 (lteR l clear), I (firstE [shpsE l, rangeE clear 0 100000])]) := by
  refine VF.enter Tryz.func44 rfl (fun _ _ => rfl) rfl ?_; show VC _ _ _ _ _ [(0, .v y62 l), (1, I clear)] [] _; refine VC.seq (VC.text ?_); refine VO.new (.box) ?_; refine VO.new (.box) ?_; refine VO.c (.assign rfl) (VO.c (.assign rfl) ?_); refine VO.go (VC.seq (VC.seq (VC.drawn ?_))); refine VD.r [] (.ld vt62) (.inl rfl) ?_; refine VD.call rfl rfl (VF.call (cShips_ok (by first | assumption | omega | simp))) ?_; refine VD.r [] (.ld vt3) (.inl rfl) ?_; refine VD.call rfl rfl (VF.call (cTime_ok )) ?_; refine VD.new (.lit [shpsE l, rangeE clear 0 100000] el154) ?_; refine VD.callO rfl rfl (VF.call (cFirst_ok (by simp))) ?_; refine VD.nw [11] (VD.c (.assign rfl) ?_); refine VD.go (VC.seq (VC.text ?_)); refine VO.c (.move rfl) (VO.c (.neq) (VO.go ?_)); refine VC.condD rfl (fun c2 => ?_) (fun c2 => ?_)
  · refine VC.seq (VC.text ?_); refine VO.c (.move rfl) (VO.c (.assign rfl) (VO.c (.assign rfl) (VO.go ?_))); refine VC.ret ?_; exact VEnd.two rfl (evC .nil) evT (pvE (by rw [lteR, if_neg c2])) (pvI (by rfl))
  have hz := firstE_zero.1 (Classical.not_not.1 c2); have hok := ships_ok (hz _ List.mem_cons_self); refine VC.skip (VC.seq (VC.text ?_)); refine VO.r (.ld vt62) ?_; refine VO.c (.func) ?_; refine VO.call rfl rfl (VF.call (cChosen_ok (F := fun i => decide (clear < (shA l i.toNat).2.1 + (shA l i.toNat).2.2.1)) hl (fun i hi => VF.clo (cLate1_ok (by omega) (by omega) hok)))) ?_; refine VO.c (.assign rfl) (VO.c (.assign rfl) (VO.go ?_)); refine VC.ret ?_; exact VEnd.two rfl evT evT (pvE (by rw [lteR, if_pos (Classical.not_not.1 c2)])) (pvI (by exact (Classical.not_not.1 c2).symm))
end Go.Proofs
namespace Go.Proofs
open Go.Fs
set_option maxHeartbeats 1000000
theorem cnt_nil {n : Nat} : cntQ n [] = n := by
  unfold cntQ; rw [show (List.range n).filter (fun i => !hasQ [] i) = List.range n from List.filter_eq_self.2 fun i _ => rfl]; simp
theorem bestF_cnt {l : List Shp} {turn clear : Int} {R : List (Int × Int) → List (Int × Int)} {q : List (Int × Int)} (hq : q.length + cntQ l.length q = l.length) : ∀ {n : Nat}, (∀ i, i < n → goQ l turn clear q i = true → (R (addQ l turn q i)).length + cntQ l.length (R (addQ l turn q i)) = l.length) → (bestF l turn clear R q n).length + cntQ l.length (bestF l turn clear R q n) = l.length
  | 0, _ => hq
  | n + 1, h => by
    have ih := bestF_cnt (R := R) hq (n := n) fun i hi => h i (by omega); unfold bestF; by_cases hg : goQ l turn clear q n = true
    · rw [if_pos hg]; split
      · exact h n (by omega) hg
      exact ih
    rw [if_neg hg]; exact ih
theorem bestE_cnt {l : List Shp} {turn clear : Int} : ∀ (f : Nat) {q : List (Int × Int)}, cntQ l.length q ≤ f → q.length + cntQ l.length q = l.length → (bestE l turn clear q).length + cntQ l.length (bestE l turn clear q) = l.length
  | 0, q, hf, h => by
    rw [bestE_eq]
    exact bestF_cnt h fun i hi hg => by have := cnt_pos hi (go_has hg); omega
  | f + 1, q, hf, h => by
    rw [bestE_eq]; refine bestF_cnt h fun i hi hg => ?_; have h1 := cnt_add (l := l) (turn := turn) hi (go_has hg)
    have h2 : (addQ l turn q i).length = q.length + 1 := by simp [addQ]
    exact bestE_cnt f (by omega) (by omega)
theorem unc_len {l : List Shp} {turn clear : Int} : (uncL l turn clear).length + (bestE l turn clear []).length = l.length := by
  have h1 := bestE_cnt (l := l) (turn := turn) (clear := clear) _ (Nat.le_refl _) (q := []) (by rw [cnt_nil]; simp)
  have h2 : (uncL l turn clear).length = cntQ l.length (bestE l turn clear []) := by
    unfold uncL choL cntQ; rw [List.filter_map, List.length_map]; rfl
  omega
theorem choL_mem {F : Int → Bool} {n : Nat} {x : Int} : x ∈ choL F n ↔ 0 ≤ x ∧ x < ((n : Nat) : Int) ∧ F x = true := by
  unfold choL; rw [List.mem_filter, List.mem_map]; constructor
  · rintro ⟨⟨i, hi, rfl⟩, h⟩; have := List.mem_range.1 hi; exact ⟨by omega, by omega, h⟩
  rintro ⟨h1, h2, h3⟩; exact ⟨⟨x.toNat, List.mem_range.2 (by omega), by omega⟩, h3⟩
theorem choL_lt {F : Int → Bool} {n : Nat} : (choL F n).Pairwise (· < ·) := by
  unfold choL; refine List.Pairwise.filter _ (List.pairwise_map.2 ?_)
  exact List.pairwise_lt_range.imp fun {a b} h => by omega
theorem late_out {l : List Shp} (hok : ShpOk l) {turn clear : Int} (ht : 0 ≤ turn) {q : List (Int × Int)} (hq : QOk l turn clear q) {i : Nat} (h : clear < (shA l i).2.1 + (shA l i).2.2.1) : hasQ q i = false := by
  cases hh : hasQ q i with
  | false => rfl
  | true =>
    obtain ⟨j, hj, he⟩ := has_at.1 hh; obtain ⟨h1, h2, h3, h4⟩ := pas_iff.1 (hq j hj); rw [he, Int.toNat_natCast] at h3 h4
    have : (shA l i).2.1 ≤ freeF l turn (lastP q j) i := by
      unfold freeF; by_cases e : lastP q j = (-1, 0)
      · rw [if_pos e]; exact Int.le_refl _
      rw [if_neg e]; exact Int.le_max_right _ _
    omega
end Go.Proofs
namespace Go.Fs
variable {P : Program} {orc : FuncId → List Value → Heap → Option (Value × Heap)} {rnd : Option Nat} {h h' h0 h1 h2 : Heap} {S S' S0 B G : List Nat} {σ σ' : Sto} {t t' : Tr} {ms : List Nat} {fl : VL} {ops : Array Oper} {n i mem : Nat} {l : List Oper} {K : VL → Sto → Prop} {Q : Ex → VL → Sto → Prop}
  {d : Tmp} {ty : TypeId} {pos : String} {after : Array Edge} {op : Op} {v pv : PV} {g : Option (Nat × Bool)} {bs nw : List Nat} {segs : List (Nat × Nat × Nat)} {so : Bool} {mk : Nat} {nw0 : List Nat}
section
variable (P orc)
def VDm (mk : Nat) (ops : Array Oper) (n : Nat) (l : List Oper) (i : Nat) (fl : VL) (nw : List Nat) (σ : Sto) (so : Bool) (bs : List Nat) (mem : Nat) (K : VL → Sto → Prop) : Prop :=
  ∀ (h0 : Heap) (G S0 : List Nat) (t : Tr) (h : Heap) (ms : List Nat) (segs : List (Nat × Nat × Nat)), Iv h0 G S0 h σ t ms fl → Old S0 h σ t fl nw so segs → (∀ s ∈ segs, s.2.1 = s.2.2 ∨ mk.testBit s.1 = true) →
    EvD P orc ops n l i ⟨t, h, bs, segs, mem, false⟩ fun s => ∃ fl' σ', Iv h0 G S0 s.h σ' s.t ms fl' ∧ K fl' σ'
end
theorem VDm.go (hx : VD P orc ops n l i fl nw σ so bs mem false K) : VDm P orc mk ops n l i fl nw σ so bs mem K := fun h0 G S0 t h ms segs I ho _ => hx h0 G S0 t h ms segs I fun _ => ho
theorem VDm.nws (nw1 : List Nat) (hk : VDm P orc mk ops n l i fl nw1 σ so bs mem K) (he : nw0 = nw1 := by rfl) : VDm P orc mk ops n l i fl nw0 σ so bs mem K := he ▸ hk
theorem VC.drawnM {id : Nat} {ops : Array Oper} (hx : VDm P orc 0 ops n ops.toList 0 fl [] σ true [] 0 fun fl' σ' => Q .normal fl' σ') (hl : lateB ops = false := by kernel_rfl) : VC P orc rnd (.region id ops true) n fl σ Q := fun h0 G S0 t h ms I => by
  refine EvC.draw hl ?_; obtain ⟨m, s', h1, fl', σ', h2, h3⟩ := hx h0 G S0 t h ms [] I ⟨h, I.ok, After.refl h, SegsOk.nil, I.lc.slt, fun k pv hk _ => I.slots k pv hk, fun _ => I.cells⟩ (fun s hs => by cases hs); exact ⟨m, s', h1, rfl, fl', σ', h2, h3⟩
theorem bit_or {a b i : Nat} (h : a.testBit i = true) : (a ||| b).testBit i = true := by rw [Nat.testBit_or, h]; rfl
theorem bit_own {a i : Nat} : (a ||| 2 ^ i).testBit i = true := by rw [Nat.testBit_or, Nat.testBit_two_pow_self]; simp
theorem outside_e {lo : Nat} (objs : List (Nat × AObj)) : objs.filter (outside lo lo) = objs := List.filter_eq_self.2 fun p _ => by
  unfold outside; by_cases h : lo ≤ p.1 <;> simp [h] <;> omega
theorem mask_all {b : Nat} : ∀ {segs : List (Nat × Nat × Nat)} {objs : List (Nat × AObj)}, (∀ s ∈ segs, s.2.1 = s.2.2 ∨ b.testBit s.1 = true) → mask b segs objs = objs
  | [], _, _ => rfl
  | (k, lo, hi) :: segs, objs, h => by
    unfold mask; have h1 := h _ List.mem_cons_self
    have e : (if b.testBit k = true then objs else objs.filter (outside lo hi)) = objs := by
      rcases h1 with h1 | h1
      · have h1 : lo = hi := h1; subst h1; rw [outside_e]; split <;> rfl
      have h1 : b.testBit k = true := h1; rw [if_pos h1]
    rw [e]; exact mask_all fun s hs => h s (List.mem_cons_of_mem _ hs)
theorem VDm.c {b : Nat} (hc : CalmV P fl [] op v) (hk : VDm P orc mk ops n l (i + 1) ((d, v) :: fl) (nwSet (oldOp nw op || v.flat0) d nw) σ so (bs ++ [b]) mem K)
    (hb : beforeOf bs ⟨some d, op, ty, pos, after, g⟩ = b := by rfl) (hw : wantV ops fl g = some true := by rfl) (hn : (Nat.blt d n && Nat.ble n 4000) = true := by rfl) :
    VDm P orc mk ops n (⟨some d, op, ty, pos, after, g⟩ :: l) i fl nw σ so bs mem K := fun h0 G S0 t h ms segs I ho hm => by
  obtain ⟨n1, n2⟩ := fits hn; obtain ⟨u, e1, e2⟩ := hc.2 h (own σ ++ S0) t I.slots.sees (fun _ hc => by cases hc); refine EvD.op (s' := ⟨t.set depth d u, h, bs ++ [b], segs, mem, false⟩) ?_ (hk h0 G S0 _ h ms segs (I.set e1 n2) (ho.set n2 fun hold hs a1 a2 a3 a4 a5 => ?_) hm)
  · unfold fsDraw; have hwt : fsWanted ops t ⟨some d, op, ty, pos, after, g⟩ = some true := want_ok I.slots hw; simp only [hwt, hc.1, if_true, e2, Nat.beq_refl, cond_true, put_fits n1, Option.map_some, hb]
  rcases Bool.or_eq_true_iff.1 hold with hold | hold
  · obtain ⟨u', f1, f2⟩ := hc.2 hs (own σ ++ S0) t (old_op a4 hold) (fun _ hc => by cases hc)
    have : u' = u := by
      have g1 := e2 none 0 "" #[] none h; rw [f2 none 0 "" #[] none h] at g1; simpa using g1
    rw [← this]; exact f1
  exact (RepPV.flat0 hold e1).2 _ _
theorem VDm.r {b : Nat} (cs : Sto) (hc : ReadV P fl cs op v) (hcs : cs = [] ∨ (so = true ∧ cs = σ)) (hk : VDm P orc mk ops n l (i + 1) ((d, v) :: fl) (nwSet true d nw) σ so (bs ++ [b]) (mem ||| 2 ^ i) K)
    (hb : beforeOf bs ⟨some d, op, ty, pos, after, g⟩ = b := by rfl) (hold : oldOp nw op = true := by rfl) (hw : wantV ops fl g = some true := by rfl) (hn : (Nat.blt d n && Nat.ble n 4000) = true := by rfl) :
    VDm P orc mk ops n (⟨some d, op, ty, pos, after, g⟩ :: l) i fl nw σ so bs mem K := fun h0 G S0 t h ms segs I ho hm => by
  obtain ⟨n1, n2⟩ := fits hn; obtain ⟨M, m1, m2, m3, m4, m5, m6, m7⟩ := seen_ok (tail := false) (mem := mem) I hb (fun _ => ho); obtain ⟨hs, a1, a2, a3, a4, a5, a6, a7⟩ := m7 rfl
  have hcell : ∀ c ∈ cs, CellR hs (own σ ++ S0) c.1 c.2 := by
    rcases hcs with rfl | ⟨hso, hcs⟩
    · intro c hc; cases hc
    rw [hcs]; exact a7 hso
  obtain ⟨u, e1, e2⟩ := hc.2 hs (own σ ++ S0) t (old_op a6 hold) hcell; have hst := e2 M (fun b o hg => by rw [a3.get b (a1 b o hg)]; exact hg) (some d) ty pos after g; have hrep : RepPV h (own σ ++ S0) v u := e1.nx (a2.nx a1); refine EvD.op (draw_read m1 m3 m4 hb rfl hc.1 (want_ok I.slots hw) rfl hst n1) (hk h0 G S0 _ h ms _ (I.set hrep n2) ?_ fun s hs => ?_)
  · refine Old.seg ?_ (Nat.le_refl _); refine Old.set (old := true) ⟨hs, a1, a2, a4, a5, a6, a7⟩ n2 fun _ hs' b1 b2 b3 b4 b5 => ?_
    have hcell' : ∀ c ∈ cs, CellR hs' (own σ ++ S0) c.1 c.2 := by
      rcases hcs with rfl | ⟨hso, hcs⟩
      · intro c hc; cases hc
      rw [hcs]; exact b5 hso
    obtain ⟨u', f1, f2⟩ := hc.2 hs' (own σ ++ S0) t (old_op b4 hold) hcell'; have g1 := e2 h (fun b o hg => by rw [a2.get b (a1 b o hg)]; exact hg) (some d) ty pos after g; rw [f2 h (fun b o hg => by rw [b2.get b (b1 b o hg)]; exact hg) (some d) ty pos after g] at g1
    have : u' = u := by simpa using g1
    rw [← this]; exact f1
  rcases List.mem_cons.1 hs with rfl | hs
  · exact .inl rfl
  exact hm s hs
theorem VDm.new {b : Nat} (hs : FreshV P fl op v) (hk : VDm P orc (mk ||| 2 ^ i) ops n l (i + 1) ((d, v) :: fl) (nwSet false d nw) σ so (bs ++ [b]) (mem ||| 2 ^ i) K)
    (hb : beforeOf bs ⟨some d, op, ty, pos, after, g⟩ = b := by rfl) (hw : wantV ops fl g = some true := by rfl) (hn : (Nat.blt d n && Nat.ble n 4000) = true := by rfl) :
    VDm P orc mk ops n (⟨some d, op, ty, pos, after, g⟩ :: l) i fl nw σ so bs mem K := fun h0 G S0 t h ms segs I ho hm => by
  obtain ⟨n1, n2⟩ := fits hn; obtain ⟨M, m1, m2, m3, m4, m5, m6, m7⟩ := seen_ok (tail := false) (mem := mem) I hb (fun _ => ho); obtain ⟨mk', o, e1, e2⟩ := hs.2 h _ t I.slots.sees I.ok I.lc.lt; refine EvD.op (draw_fresh m1 m2 m3 m4 hb rfl hs.1 (want_ok I.slots hw) rfl (e2 M _ _ _ _ _) n1) (hk h0 G S0 _ _ ms _ ((I.calm (Aft.push h o [])).set e1 n2) ?_ fun s hs => ?_)
  · exact (ho.set (old := false) n2 fun e => by cases e).next (After.push h o) (Nat.le_refl _)
  rcases List.mem_cons.1 hs with rfl | hs
  · exact .inr bit_own
  exact (hm s hs).imp_right bit_or
theorem seen_all {b : Nat} {o : Oper} (hb : beforeOf bs o = b) (hmk : Nat.beq (mk &&& b) mk = true) (hm : ∀ s ∈ segs, s.2.1 = s.2.2 ∨ mk.testBit s.1 = true) : seenBy o ⟨t, h, bs, segs, mem, false⟩ = entry h := by
  have e : mask b segs h.objs = h.objs := mask_all fun s hs => (hm s hs).imp_right fun h1 => by
    have h2 : (mk &&& b).testBit s.1 = mk.testBit s.1 := by rw [nbeq hmk]
    rw [Nat.testBit_and, h1] at h2; simpa using h2
  unfold seenBy entry; simp only [hb, e]; cases Nat.beq (mem &&& b) mem <;> rfl
theorem VDm.callG {b : Nat} {f : Operand} {args : Array Operand} {ats : Array TypeId} {F : PV} {asl : List PV} {Qr : PV → Sto → Prop} (hf : evV fl f = some F) (ha : evVs fl args.toList = some asl) (hc : VCallG P orc F asl [] Qr) (hk : ∀ r γ', Qr r γ' → VDm P orc (mk ||| 2 ^ i) ops n l (i + 1) ((d, r) :: fl) (nwSet false d nw0) (γ' ++ σ) false (bs ++ [b]) (mem ||| 2 ^ i) K)
    (hb : beforeOf bs ⟨some d, .call { callee := .value f, args := args, argTypes := ats }, ty, pos, after, g⟩ = b := by rfl) (hmk : Nat.beq (mk &&& b) mk = true := by rfl) (hw : wantV ops fl g = some true := by rfl) (hn : (Nat.blt d n && Nat.ble n 4000) = true := by rfl) :
    VDm P orc mk ops n (⟨some d, .call { callee := .value f, args := args, argTypes := ats }, ty, pos, after, g⟩ :: l) i fl nw0 σ so bs mem K := fun h0 G S0 t h ms segs I ho0 hm0 => by
  have ho : false = false → Old S0 h σ t fl nw0 so segs := fun _ => ho0; obtain ⟨n1, n2⟩ := fits hn; obtain ⟨M, m1, m2, m3, m4, m5, m6, m7⟩ := seen_ok (tail := false) (mem := mem) I hb ho; obtain rfl := m1.symm.trans (seen_all hb hmk hm0); have Le := I.lc.objs (h' := entry h) (fun _ => rfl) rfl; obtain ⟨fid, a, c, rfl, hv⟩ := hc; obtain ⟨va, vc, h1, h2, h3⟩ := (evV_ok Le.slots hf : RepPV (entry h) _ (.clo fid a c) (evalO t f)); have hargs := (h2.append (evVs_ok Le.slots ha)).append h3; refine EvD.call (o := ⟨some d, .call { callee := .value f, args := args, argTypes := ats }, ty, pos, after, g⟩) (want_ok I.slots hw) rfl rfl h1 rfl ?_; rw [m1]; refine (hv (entry h) (own σ ++ S0) _ m2 Le.sokA (fun c hc => by cases hc) List.nodup_nil (fun b hb => by cases hb) hargs).mono fun u h' hq => ?_; obtain ⟨r, γ', q1, q2, q3⟩ := hq; have hA : After (entry h) h' := q2.aft.after; have hl : h.next ≤ h'.low := hA.low h.next (Nat.le_refl _) (Nat.le_refl _)
  have hlow : Nat.ble h.next h'.low = true := by rw [Nat.ble_eq]; exact hl
  have hnx : h.next ≤ h'.next := hA.next; refine ⟨blt_of_le hnx, by simp only [hlow, Bool.true_or], _, put_fits n1 t u, ?_⟩
  have hd : drewOn ⟨some d, .call { callee := .value f, args := args, argTypes := ats }, ty, pos, after, g⟩ i ⟨t, h, bs, segs, mem, false⟩ (t.set depth d u) h' =
      ⟨t.set depth d u, { next := h'.next, low := h.low, objs := newer h.next h'.next h'.objs ++ h.objs }, bs ++ [b], (i, h.next, h'.next) :: segs, mem ||| 2 ^ i, false⟩ := by
    unfold drewOn; simp only [hlow, cond_true, hb]
  rw [hd]; obtain ⟨e1, e2⟩ := newer_left (h' := h') I.ok m5 rfl hA m2
  have hm : Made (own σ ++ S0) h { next := h'.next, low := h.low, objs := newer h.next h'.next h'.objs ++ h.objs } [] γ' := {
    aft := ⟨e1.next, fun b hb _ => e1.get b hb, e1.ok, fun e h3 h4 _ => e1.low e h3 h4, fun b hb => .inl (e1.get b hb), Nat.le_refl _⟩
    new := q2.new
    apart := q2.apart
    cells := fun c hc => (q2.cells c hc).keep (fun b hb => by
      obtain ⟨o, hg, _⟩ := (q2.cells c hc).isObj b hb
      exact ((e2 []) b _ hg (by simp)).1.trans hg.symm) (e2 _) fun b hb => List.mem_append_left _ (List.mem_flatMap.2 ⟨c, hc, hb⟩) }
  have hm2 := Made.app (γ := []) I.lc hm
  have q3' : RepPV { next := h'.next, low := h.low, objs := newer h.next h'.next h'.objs ++ h.objs } (own (γ' ++ σ) ++ S0) r u := by
    rw [own_app, List.append_assoc]; exact q3.nx (e2 _)
  refine hk r γ' q1 h0 G S0 _ _ ms _ ((I.made hm2).set q3' n2) ?_ fun s hs => by
    rcases List.mem_cons.1 hs with rfl | hs
    · exact .inr bit_own
    exact (hm0 s hs).imp_right bit_or
  obtain ⟨hs', a1, a2, a3, a4, a5, a6⟩ := ho0.set (v := r) (u := u) (old := false) n2 fun e => by cases e
  refine ⟨hs', a1, a2.trans e1, SegsOk.cons a2.next a3, a4, fun k pv hk hn => (a5 k pv hk hn).nx (h := hs') fun b ob hg hb => ⟨hg, ?_⟩, fun e => by cases e⟩; have h3 := a1 b ob hg; have h4 := a2.next; intro hmm; rcases List.mem_append.1 hmm with hmm | hmm
  · rcases hm2.new b hmm with h5 | h5
    · exact hb (List.mem_append_left _ h5)
    omega
  exact hb (List.mem_append_right _ hmm)
theorem VD.shut {tail : Bool} {c : Value × Cell} (nl : VL) (hs : Shut fl c nl) (hk : VD P orc ops n l i (nl ++ fl) (keysNew nl nw) σ false bs mem tail K) : VD P orc ops n l i fl nw (c :: σ) so bs mem tail K := fun h0 G S0 t h ms segs I ho =>
  hk h0 G S0 t h ms segs (I.shut hs) fun ht => by
    obtain ⟨hs0, a1, a2, a3, a4, a5, a6⟩ := ho ht; refine ⟨hs0, a1, a2, a3, a4, fun k pv hp hn => ?_, fun e => by cases e⟩; obtain ⟨h1, h2⟩ := keysNew_no (fl := fl) hn
    exact (a5 k pv (h1 pv hp) h2).nx (Goes.less fun b hb => by
      have ho : own (c :: σ) = blk c.1 ++ own σ := rfl; rw [ho]; rcases List.mem_append.1 hb with hm | hm
      · exact List.mem_append_left _ (List.mem_append_right _ hm)
      exact List.mem_append_right _ hm)
end Go.Fs
namespace Go.Proofs
open Go.Fs
set_option maxHeartbeats 1000000
theorem zt171 : ZerT Tryz.prog 171 y171 := zerT_of (z := .agg #[.slice none 0 0, .int .i64 0, .int .i64 0]) (by kernel_rfl) rfl rfl
theorem bt111 : BldT Tryz.prog 111 y111 [(0, 1), (1, 1)] := bldT_of zt111 rfl (by kernel_rfl)
theorem bt171 : BldT Tryz.prog 171 y171 [(0, 1), (1, 1), (2, 1)] := bldT_of zt171 rfl (by kernel_rfl)
theorem cBest1_ok {o : Int × Int} {i : Int} : VF Tryz.prog OA 150 [.v y111 o, .p (.int .i64) i] (B (decide (o.1 = i))) := by
  refine VF.enter Tryz.func150 rfl (fun _ _ => rfl) rfl ?_; show VC _ _ _ _ _ [(0, .v y111 o), (1, .p (.int .i64) i)] [] _; refine VC.seq (VC.text ?_); refine VO.new (.box) ?_; refine VO.c (.assign rfl) ?_; refine VO.go (VC.seq (VC.text ?_)); refine VO.c (.fa (.l .o)) ?_; refine VO.r (.ld vt3) ?_; refine VO.r (.ld vt3) ?_; refine VO.c (.eql) (VO.c (.assign rfl) (VO.go ?_)); refine VC.ret ?_; exact VEnd.one rfl evT (pvE (by rfl))
theorem end_nth {q : List (Int × Int)} (h : (((q.length : Nat) : Int) - 1).toNat < q.length) : q[(((q.length : Nat) : Int) - 1).toNat] = endP q := by
  have hp : 0 < q.length := by omega
  have := (last_take (p := q) (i := q.length) (Nat.le_refl _)).2 (by rw [List.length_take]; omega); rw [endP, this, List.getElem_take]; congr 1; rw [List.length_take]; omega
theorem end_nil {q : List (Int × Int)} (h : ¬ (0 : Int) < ((q.length : Nat) : Int)) : endP q = (-1, 0) := by
  have h0 : q.length = 0 := by omega
  rw [endP, h0] <;> rfl
theorem add_row {l : List Shp} {turn : Int} {r : List (Int × Int) × Int × Int} (hr : r = rowQ l r.1) {i : Nat} {x : Shp} (hx : shA l i = x) : ([r.1, [(((i : Nat) : Int), freeF l turn (endP r.1) (((i : Nat) : Int)).toNat)]].flatten, r.2.1 + x.2.2.2.2, freeF l turn (endP r.1) (((i : Nat) : Int)).toNat + x.2.2.1) = rowQ l (addQ l turn r.1 i) := by
  have h2 : r.2.1 = sumP l r.1 r.1.length := congrArg (fun z => z.2.1) hr; rw [rowQ_add, hx, ← h2, Int.toNat_natCast]; simp [addQ]
theorem flat_add {l : List Shp} {turn : Int} {q : List (Int × Int)} {i : Nat} : [q, [(((i : Nat) : Int), freeF l turn ((endP q).1, (endP q).2) (((i : Nat) : Int)).toNat)]].flatten = addQ l turn q i := by simp [addQ]
theorem betC_R' {l : List Shp} {p q : List (Int × Int)} : betC ((rowQ l p).1, (rowQ l p).2.1, (rowQ l p).2.2) ((rowQ l q).1, (rowQ l q).2.1, (rowQ l q).2.2) = betR l p q := betC_R
theorem cBestS_ok {x : (List (ByteArray × Int × Int × Int × Int)) × Int × Int} {r : (List (Int × Int)) × Int × Int} (hok : ShpOk x.1) (htu : 0 ≤ x.2.1 ∧ x.2.1 ≤ 1000) (hcl : 0 ≤ x.2.2 ∧ x.2.2 ≤ 100000) (hq : QI x.1 x.2.1 x.2.2 r.1) (hr : r = rowQ x.1 r.1) (ih : ∀ {r' : List (Int × Int) × Int × Int}, (∃ i, i < x.1.length ∧ goQ x.1 x.2.1 x.2.2 r.1 i = true ∧ r' = rowQ x.1 (addQ x.1 x.2.1 r.1 i)) → VF Tryz.prog OA 118 [.v y168 x, .v y171 r'] (.v y171 (rowQ x.1 (bestE x.1 x.2.1 x.2.2 r'.1)))) : VF Tryz.prog OA 118 [.v y168 x, .v y171 r] (.v y171 (rowQ x.1 (bestE x.1 x.2.1 x.2.2 r.1))) := by
  refine VF.enter Tryz.func118 rfl (fun _ _ => rfl) rfl ?_; show VC _ _ _ _ _ [(0, .v y168 x), (1, .v y171 r)] [] _; refine VC.seq (VC.text ?_); refine VO.new (.box) ?_; refine VO.new (.box) ?_; refine VO.cell (.alloc zt171) ?_; intro ww1; refine VO.go (VC.seq (VC.text ?_)); have hl8 := hok.len; have hql := hq.len; have hlk := last_qi hok hcl.2 hq.ok; refine VO.r (.ld vt171) ?_; refine VO.cell (.alloc zt171) ?_; intro ww2; refine VO.setV (cs' := [.v y59 r.1, I r.2.1, I r.2.2]) vt171 .v ?_; refine VO.go (VC.seq (VC.text ?_)); refine VO.ldG (x := ((-1 : Int), (0 : Int))) (.head _) vt111 ?_; refine VO.cell (.alloc zt111) ?_; intro ww3; refine VO.setV (cs' := [I (-1 : Int), I (0 : Int)]) vt111 .v ?_; refine VO.go (VC.seq (VC.seq (VC.text ?_))); refine VO.c (.fa (.l .o)) ?_; refine VO.r (.ld vt59) ?_; refine VO.r (.len el59) ?_; refine VO.c (.assign rfl) ?_; refine VO.go (VC.seq (VC.text ?_)); refine VO.c (.move rfl) (VO.c (.gtr) (VO.go ?_)); refine VC.join [(2, .p y168 x), (3, .p y171 r), (4, .raw ww1), (5, .raw ww2), (6, .raw ww3)] [(ww3, .var [I ((endP r.1).1), I ((endP r.1).2)]), (ww2, .var [.v y59 r.1, I r.2.1, I r.2.2]), (ww1, .var [.v y59 [], I (0 : Int), I (0 : Int)])] ?_ ?_; refine VC.condD rfl (fun c4 => ?_) (fun c4 => ?_)
  · refine VC.text ?_; refine VO.c (.fa (.l .o)) ?_; refine VO.r (.ld vt59) ?_; refine VO.c (.move rfl) (VO.c (.sub rfl rfl (by omega)) (VO.c (.ixZ (k := (((r.1.length : Nat) : Int) - (1 : Int))) rfl rfl el59 (by omega) (by omega)) ?_)); refine VO.r (.ld vt111) ?_; refine VO.setV (cs' := [I ((r.1[Int.toNat (((r.1.length : Nat) : Int) - (1 : Int))]).1), I ((r.1[Int.toNat (((r.1.length : Nat) : Int) - (1 : Int))]).2)]) vt111 .v ?_; refine VO.nil ?_; exact ⟨⟨rfl, rfl, rfl, rfl, rfl, trivial⟩, (by first | (rw [end_nil c4]; rfl) | (rw [end_nth]; rfl))⟩
  · refine VC.skip ?_; exact ⟨⟨rfl, rfl, rfl, rfl, rfl, trivial⟩, (by first | (rw [end_nil c4]; rfl) | (rw [end_nth]; rfl))⟩
  refine VC.seq (VC.seq (VC.text ?_)); refine VO.c (.fa (.l .o)) ?_; refine VO.r (.ld vt62) ?_; refine VO.r (.len el62) ?_; refine VO.c (.move rfl) ?_; refine VO.go (VC.block ?_); refine VC.keep [(2, .p y168 x), (3, .p y171 r), (4, .raw ww1), (5, .raw ww2), (6, .raw ww3), (27, .v y62 x.1), (28, I ((x.1.length : Nat) : Int)), (29, I ((0 : Nat) : Int))] ⟨rfl, rfl, rfl, rfl, rfl, rfl, rfl, rfl, trivial⟩ ?_; refine VC.loop (I := fun kk ff ss => ∃ (i : Nat), kk = x.1.length - i ∧ ff = [(2, .p y168 x), (3, .p y171 r), (4, .raw ww1), (5, .raw ww2), (6, .raw ww3), (27, .v y62 x.1), (28, I ((x.1.length : Nat) : Int)), (29, I ((i : Nat) : Int))] ∧ ss = [(ww3, .var [I ((endP r.1).1), I ((endP r.1).2)]), (ww2, .var [.v y59 ((rowQ x.1 (bestP x.1 x.2.1 x.2.2 r.1 i)).1), I ((rowQ x.1 (bestP x.1 x.2.1 x.2.2 r.1 i)).2.1), I ((rowQ x.1 (bestP x.1 x.2.1 x.2.2 r.1 i)).2.2)]), (ww1, .var [.v y59 [], I (0 : Int), I (0 : Int)])] ∧ (i ≤ x.1.length)) ?_ _ _ _ ⟨0, rfl, rfl, (by rw [show bestP x.1 x.2.1 x.2.2 r.1 0 = r.1 from rfl, ← hr] <;> rfl), Nat.zero_le _⟩; rintro kk ff ss ⟨i, hk0, rfl, rfl, hi⟩; refine VC.seq (VC.text ?_); refine VO.c (.lss) ?_; refine VO.go (VC.seq ?_); refine VC.condD rfl (fun c7 => ?_) (fun c7 => ?_)
  · have hlt : i < x.1.length := by omega
    have hga := hok.lng i; have hpr := hok.pri i; have hsa := shA_eq hlt; rw [hsa] at hga hpr; have hfb : 0 ≤ freeF x.1 x.2.1 ((endP r.1).1, (endP r.1).2) (((i : Nat) : Int)).toNat ∧ freeF x.1 x.2.1 ((endP r.1).1, (endP r.1).2) (((i : Nat) : Int)).toNat ≤ 102000 := free_b hok htu hlk i; have hr2 : r.2.1 = sumP x.1 r.1 r.1.length := congrArg (fun z => z.2.1) hr; have hsb := sumP_b hok (p := r.1) r.1.length; have hbo := bestP_ok hok hq (n := i) (by omega); refine VC.skip (VC.seq (VC.block (VC.seq (VC.text ?_)))); refine VO.c (.move rfl) (VO.c (.ix (j := i) rfl rfl el62 (by omega)) ?_); refine VO.r (.ld vt173) ?_; refine VO.cell (.alloc zt3) ?_; intro ww4; refine VO.cell (.alloc zt173) ?_; intro ww5; refine VO.perm swap1 ?_; refine VO.setV (cs' := [I ((i : Nat) : Int)]) vt3 .v ?_; refine VO.shut [(8, .p (.int .i64) ((i : Nat) : Int))] (.cons rfl (.var m0 .refl) .nil) ?_; refine VO.setV (cs' := [St ((x.1[i]).1), I ((x.1[i]).2.1), I ((x.1[i]).2.2.1), I ((x.1[i]).2.2.2.1), I ((x.1[i]).2.2.2.2)]) vt173 .v ?_; refine VO.shut [(9, .p y173 (x.1[i]))] (.cons rfl (.var m0 .refl) .nil) ?_; refine VO.go (VC.seq (VC.text ?_)); refine VO.r (.ld vt168) ?_; refine VO.r (.ldA (dx := (((endP r.1).1), ((endP r.1).2))) m0 vt111) ?_; refine VO.r (.ld vt3) ?_; refine VO.call rfl rfl (VF.call (cFree_ok ⟨(by omega), (by omega)⟩ hok htu hlk)) ?_; refine VO.c (.assign rfl) ?_; refine VO.go (VC.seq (VC.text ?_)); refine VO.c (.fa (.l .o)) ?_; refine VO.r (.ld vt59) ?_; refine VO.c (.func) ?_; refine VO.call rfl rfl (VF.call (zContPa_ok (F := fun o => decide (o.1 = ((i : Nat) : Int))) (by omega) (fun o _ => VF.clo cBest1_ok))) ?_; refine VO.c (.assign rfl) ?_; refine VO.go (VC.seq (VC.seq (VC.text ?_))); refine VO.c (.move rfl) (VO.c (.move rfl) ?_); refine VO.cg (r := r.1.any (fun o => decide (o.1 = ((i : Nat) : Int)))) (w := false) [] trivial (fun _ => (.move rfl)) ?_; refine VO.cg (r := r.1.any (fun o => decide (o.1 = ((i : Nat) : Int)))) (w := false) [] trivial (fun _ => (.fa (.r (.r (.l .o))))) ?_; refine VO.rg (r := r.1.any (fun o => decide (o.1 = ((i : Nat) : Int)))) (w := false) [(45, .p (.int .i64) ((x.1[i]).2.2.1))] ⟨rfl, trivial⟩ (fun _ => (.ld vt3)) ?_; refine VO.cg (r := r.1.any (fun o => decide (o.1 = ((i : Nat) : Int)))) (w := false) [(44, I (freeF x.1 x.2.1 (((endP r.1).1), ((endP r.1).2)) ((i : Nat) : Int).toNat)), (46, I ((x.1[i]).2.2.1))] ⟨rfl, rfl, trivial⟩ (fun hgd => have g11_1 : r.1.any (fun o => decide (o.1 = ((i : Nat) : Int))) = false := (by simpa using hgd); (.add rfl rfl (by omega))) ?_; refine VO.cg (r := r.1.any (fun o => decide (o.1 = ((i : Nat) : Int)))) (w := false) [] trivial (fun _ => (.fa (.r (.r (k := 0) .o)))) ?_; refine VO.rg (r := r.1.any (fun o => decide (o.1 = ((i : Nat) : Int)))) (w := false) [(48, .p (.int .i64) x.2.2)] ⟨rfl, trivial⟩ (fun _ => (.ld vt3)) ?_; refine VO.cg (r := r.1.any (fun o => decide (o.1 = ((i : Nat) : Int)))) (w := false) [(47, I (freeF x.1 x.2.1 (((endP r.1).1), ((endP r.1).2)) ((i : Nat) : Int).toNat + (x.1[i]).2.2.1)), (49, I x.2.2)] ⟨rfl, rfl, trivial⟩ (fun _ => (.gtr)) ?_; refine VO.c (.or) (VO.go ?_); refine VC.condB rfl (fun c11 => ?_) (fun c11 => ?_)
    · try simp only [Bool.and_eq_true, Bool.or_eq_true, Bool.and_eq_false_iff, Bool.or_eq_false_iff, Bool.not_eq_true', Bool.not_eq_false', decide_eq_true_eq, decide_eq_false_iff_not] at c11
      have hgo : ¬ goQ x.1 x.2.1 x.2.2 r.1 i = true := by
        intro hg; have h1 := go_has hg; have h2 := of_decide_eq_true (band hg).2; rw [hsa] at h2; rcases c11 with h | h
        · have h : hasQ r.1 i = true := h; rw [h1] at h; cases h
        have h : x.2.2 < freeF x.1 x.2.1 (endP r.1) i + x.1[i].2.2.1 := h; omega
      refine VC.exit (VC.text ?_); refine VO.c (.add rfl rfl (by omega)) (VO.c (.move rfl) ?_); refine VO.nil ?_; refine ⟨_, [(2, .p y168 x), (3, .p y171 r), (4, .raw ww1), (5, .raw ww2), (6, .raw ww3), (27, .v y62 x.1), (28, I ((x.1.length : Nat) : Int)), (29, I (((i + 1) : Nat) : Int))], ?_, ⟨rfl, rfl, rfl, rfl, rfl, rfl, rfl, rfl, trivial⟩, (i + 1), rfl, rfl, (by first | (rw [bestP_n hgo]; done) | (rw [flat_add, bestP_s hgo, if_pos c13]; done) | (rw [bestP_s hgo, if_neg (by rw [c13]; decide)]; done)), (by omega)⟩; omega
    try simp only [Bool.and_eq_true, Bool.or_eq_true, Bool.and_eq_false_iff, Bool.or_eq_false_iff, Bool.not_eq_true', Bool.not_eq_false', decide_eq_true_eq, decide_eq_false_iff_not] at c11
    have hgo : goQ x.1 x.2.1 x.2.2 r.1 i = true := goQ_t c11.1 (by rw [hsa]; exact c11.2); have hbe := bestE_ok hok _ (Nat.le_refl _) (hq.add hok hlt hgo); refine VC.skip (VC.seq ?_); refine VC.drawnM ?_; refine VDm.r [] (.ld vt168) (.inl rfl) ?_; refine VDm.c (.fa (.l .o)) ?_; refine VDm.r [] (.ld vt59) (.inl rfl) ?_; refine VDm.r [] (.ld vt3) (.inl rfl) ?_; refine VDm.c (.move rfl) ?_; refine VDm.c (.build (((i : Nat) : Int), freeF x.1 x.2.1 (((endP r.1).1), ((endP r.1).2)) ((i : Nat) : Int).toNat) bt111) ?_; refine VDm.nws [] ?_; refine VDm.new (.lit [(((i : Nat) : Int), freeF x.1 x.2.1 (((endP r.1).1), ((endP r.1).2)) ((i : Nat) : Int).toNat)] el59) ?_; refine VDm.new (.lit [r.1, [(((i : Nat) : Int), freeF x.1 x.2.1 (((endP r.1).1), ((endP r.1).2)) ((i : Nat) : Int).toNat)]] el213) ?_; refine VDm.callG rfl rfl (VFG.call (zConcatPa_ok (by simp) (by simp; omega))) ?_; rintro _ _ ⟨ww6, rfl, rfl⟩; refine VDm.go ?_; show VD _ _ _ _ _ _ _ _ [(ww6, .row 111 y111 ([r.1, [(((i : Nat) : Int), freeF x.1 x.2.1 (((endP r.1).1), ((endP r.1).2)) ((i : Nat) : Int).toNat)]].flatten)), (ww3, .var [I ((endP r.1).1), I ((endP r.1).2)]), (ww2, .var [.v y59 ((rowQ x.1 (bestP x.1 x.2.1 x.2.2 r.1 i)).1), I ((rowQ x.1 (bestP x.1 x.2.1 x.2.2 r.1 i)).2.1), I ((rowQ x.1 (bestP x.1 x.2.1 x.2.2 r.1 i)).2.2)]), (ww1, .var [.v y59 [], I (0 : Int), I (0 : Int)])] _ _ _ _ _; refine VD.c (.fa (.r (.l .o))) ?_; refine VD.r [] (.ld vt3) (.inl rfl) ?_; refine VD.c (.fa (.r (.r (.r (.r .o))))) ?_; refine VD.r [] (.ld vt3) (.inl rfl) ?_; refine VD.nw [60, 59, 58] (VD.c (.add rfl rfl (by omega)) (VD.c (.move rfl) (VD.c (.fa (.r (.r (.l .o)))) ?_))); refine VD.r [] (.ld vt3) (.inl rfl) ?_; refine VD.c (.add rfl rfl (by omega)) ?_; refine VD.shut [(60, .v y59 ([r.1, [(((i : Nat) : Int), freeF x.1 x.2.1 (((endP r.1).1), ((endP r.1).2)) ((i : Nat) : Int).toNat)]].flatten))] (.cons rfl (.row m0) .nil) ?_; refine VD.c (.build (([r.1, [(((i : Nat) : Int), freeF x.1 x.2.1 (((endP r.1).1), ((endP r.1).2)) ((i : Nat) : Int).toNat)]].flatten), (r.2.1 + (x.1[i]).2.2.2.2), (freeF x.1 x.2.1 (((endP r.1).1), ((endP r.1).2)) ((i : Nat) : Int).toNat + (x.1[i]).2.2.1)) bt171) ?_; refine VD.callO rfl rfl (VF.call (ih ⟨i, hlt, hgo, add_row hr hsa⟩)) ?_; refine VD.nw [71, 70, 60, 60, 59, 58] ?_; refine VD.cell (.alloc zt171) ?_; intro ww7; refine VD.mk0 (MakeV.setF (k := 0) vt171 .v (Nat.le_of_ble_eq_true rfl) (.inr ⟨rfl, rfl⟩) rfl rfl) ?_; rintro _ _ tl8 ⟨rfl, rfl⟩; refine VD.go (VC.seq ?_); refine VC.keep [(2, .p y168 x), (3, .p y171 r), (4, .raw ww1), (5, .raw ww2), (6, .raw ww3), (12, .raw ww7), (27, .v y62 x.1), (28, I ((x.1.length : Nat) : Int)), (29, I ((i : Nat) : Int))] ⟨rfl, rfl, rfl, rfl, rfl, rfl, rfl, rfl, rfl, trivial⟩ ?_; refine VC.text ?_; refine VO.r (.ldA (dx := rowQ x.1 (bestE x.1 x.2.1 x.2.2 ([r.1, [(((i : Nat) : Int), freeF x.1 x.2.1 (((endP r.1).1), ((endP r.1).2)) ((i : Nat) : Int).toNat)]].flatten))) m0 vt171) ?_; refine VO.r (.ldA (dx := (((rowQ x.1 (bestP x.1 x.2.1 x.2.2 r.1 i)).1), ((rowQ x.1 (bestP x.1 x.2.1 x.2.2 r.1 i)).2.1), ((rowQ x.1 (bestP x.1 x.2.1 x.2.2 r.1 i)).2.2))) m2 vt171) ?_; refine VO.call rfl rfl (VF.call (cBetter_ok (Nat.lt_of_le_of_lt hbe.2 (by omega)) (Nat.lt_of_le_of_lt hbo.2 (by omega)))) ?_; refine VO.go ?_; refine VC.condB rfl (fun c13 => ?_) (fun c13 => ?_)
    · rw [flat_add, betC_R'] at c13; refine VC.text ?_; refine VO.r (.ldA (dx := rowQ x.1 (bestE x.1 x.2.1 x.2.2 ([r.1, [(((i : Nat) : Int), freeF x.1 x.2.1 (((endP r.1).1), ((endP r.1).2)) ((i : Nat) : Int).toNat)]].flatten))) m0 vt171) ?_; refine VO.perm swap2 ?_; refine VO.setV (cs' := [.v y59 ((rowQ x.1 (bestE x.1 x.2.1 x.2.2 ([r.1, [(((i : Nat) : Int), freeF x.1 x.2.1 (((endP r.1).1), ((endP r.1).2)) ((i : Nat) : Int).toNat)]].flatten))).1), I ((rowQ x.1 (bestE x.1 x.2.1 x.2.2 ([r.1, [(((i : Nat) : Int), freeF x.1 x.2.1 (((endP r.1).1), ((endP r.1).2)) ((i : Nat) : Int).toNat)]].flatten))).2.1), I ((rowQ x.1 (bestE x.1 x.2.1 x.2.2 ([r.1, [(((i : Nat) : Int), freeF x.1 x.2.1 (((endP r.1).1), ((endP r.1).2)) ((i : Nat) : Int).toNat)]].flatten))).2.2)]) vt171 .v ?_; refine VO.nil (VC.text ?_); refine VO.c (.add rfl rfl (by omega)) (VO.c (.move rfl) ?_); refine VO.perm swap1 ?_; refine VO.forget ?_; refine VO.perm swap2 ?_; refine VO.perm swap1 ?_; refine VO.perm swap2 ?_; refine VO.nil ?_; refine ⟨_, [(2, .p y168 x), (3, .p y171 r), (4, .raw ww1), (5, .raw ww2), (6, .raw ww3), (27, .v y62 x.1), (28, I ((x.1.length : Nat) : Int)), (29, I (((i + 1) : Nat) : Int))], ?_, ⟨rfl, rfl, rfl, rfl, rfl, rfl, rfl, rfl, trivial⟩, (i + 1), rfl, rfl, (by first | (rw [bestP_n hgo]; done) | (rw [flat_add, bestP_s hgo, if_pos c13]; done) | (rw [bestP_s hgo, if_neg (by rw [c13]; decide)]; done)), (by omega)⟩; omega
    rw [flat_add, betC_R'] at c13; refine VC.skip (VC.text ?_); refine VO.c (.add rfl rfl (by omega)) (VO.c (.move rfl) ?_); refine VO.forget ?_; refine VO.nil ?_; refine ⟨_, [(2, .p y168 x), (3, .p y171 r), (4, .raw ww1), (5, .raw ww2), (6, .raw ww3), (27, .v y62 x.1), (28, I ((x.1.length : Nat) : Int)), (29, I (((i + 1) : Nat) : Int))], ?_, ⟨rfl, rfl, rfl, rfl, rfl, rfl, rfl, rfl, trivial⟩, (i + 1), rfl, rfl, (by first | (rw [bestP_n hgo]; done) | (rw [flat_add, bestP_s hgo, if_pos c13]; done) | (rw [bestP_s hgo, if_neg (by rw [c13]; decide)]; done)), (by omega)⟩; omega
  refine VC.exit (VC.seq (VC.text ?_)); refine VO.r (.ldA (dx := (((rowQ x.1 (bestP x.1 x.2.1 x.2.2 r.1 i)).1), ((rowQ x.1 (bestP x.1 x.2.1 x.2.2 r.1 i)).2.1), ((rowQ x.1 (bestP x.1 x.2.1 x.2.2 r.1 i)).2.2))) m1 vt171) ?_; refine VO.perm swap2 ?_; refine VO.setV (cs' := [.v y59 ((rowQ x.1 (bestP x.1 x.2.1 x.2.2 r.1 i)).1), I ((rowQ x.1 (bestP x.1 x.2.1 x.2.2 r.1 i)).2.1), I ((rowQ x.1 (bestP x.1 x.2.1 x.2.2 r.1 i)).2.2)]) vt171 .v ?_; refine VO.go ?_; refine VC.ret ?_; exact VEnd.one rfl (.cell (x := (((rowQ x.1 (bestP x.1 x.2.1 x.2.2 r.1 i)).1), ((rowQ x.1 (bestP x.1 x.2.1 x.2.2 r.1 i)).2.1), ((rowQ x.1 (bestP x.1 x.2.1 x.2.2 r.1 i)).2.2))) rfl m0 vt171 .refl) (pvE (by rw [show i = x.1.length by omega, bestP, ← bestE_eq]))
end Go.Proofs
namespace Go.Proofs
open Go.Fs
set_option maxHeartbeats 1000000
theorem zt59 : ZerT Tryz.prog 59 y59 := zerT_of (z := .slice none 0 0) (by kernel_rfl) rfl rfl
theorem cBestN {x : List Shp × Int × Int} (hok : ShpOk x.1) (htu : 0 ≤ x.2.1 ∧ x.2.1 ≤ 1000) (hcl : 0 ≤ x.2.2 ∧ x.2.2 ≤ 100000) : ∀ (n : Nat) {r : List (Int × Int) × Int × Int}, cntQ x.1.length r.1 ≤ n → QI x.1 x.2.1 x.2.2 r.1 → r = rowQ x.1 r.1 → VF Tryz.prog OA 118 [.v y168 x, .v y171 r] (.v y171 (rowQ x.1 (bestE x.1 x.2.1 x.2.2 r.1)))
  | 0, r, h, hq, hr => cBestS_ok hok htu hcl hq hr fun {r'} ⟨i, hi, hg, e⟩ => by have := cnt_pos hi (go_has hg); omega
  | n + 1, r, h, hq, hr => cBestS_ok hok htu hcl hq hr fun {r'} ⟨i, hi, hg, e⟩ => by
    subst e; exact cBestN hok htu hcl n (by show cntQ x.1.length (addQ x.1 x.2.1 r.1 i) ≤ n; have := cnt_add (l := x.1) (turn := x.2.1) hi (go_has hg); omega) (hq.add hok hi hg) rfl
theorem cBest_ok {x : List Shp × Int × Int} {r : List (Int × Int) × Int × Int} (hok : ShpOk x.1) (htu : 0 ≤ x.2.1 ∧ x.2.1 ≤ 1000) (hcl : 0 ≤ x.2.2 ∧ x.2.2 ≤ 100000) (hr : r = ([], 0, 0)) : VF Tryz.prog OA 118 [.v y168 x, .v y171 r] (.v y171 (rowQ x.1 (bestE x.1 x.2.1 x.2.2 []))) := by
  subst hr; exact cBestN hok htu hcl _ (Nat.le_refl _) QI.nil rfl
def bstR (l : List Shp) (turn clear : Int) : List (Int × Int) := if lockE l turn clear = 0 then bestE l turn clear [] else []
def uncR (l : List Shp) (turn clear : Int) : List Int := if lockE l turn clear = 0 then uncL l turn clear else []
theorem cPassagesB_ok {l : List (ByteArray × Int × Int × Int × Int)} {turn : Int} {clear : Int} (hl : l.length < 100000) : VF Tryz.prog OA 41 [.v y62 l, I turn, I clear] (.tup [.v y59 (bstR l turn clear), I (lockE l turn clear)]) := by
  refine VF.enter Tryz.func41 rfl (fun _ _ => rfl) rfl ?_; show VC _ _ _ _ _ [(0, .v y62 l), (1, I turn), (2, I clear)] [] _; refine VC.seq (VC.text ?_); refine VO.c (.assign rfl) (VO.c (.assign rfl) ?_); refine VO.go (VC.seq (VC.text ?_)); refine VO.c (.move rfl) (VO.c (.move rfl) (VO.c (.move rfl) (VO.c (.build (l, turn, clear) bt168) ?_))); refine VO.cell (.alloc zt168) ?_; intro ww1; refine VO.setV (cs' := [.v y62 l, I turn, I clear]) vt168 .v ?_; refine VO.shut [(8, .p y168 (l, turn, clear))] (.cons rfl (.var m0 .refl) .nil) ?_; refine VO.go (VC.seq (VC.seq (VC.text ?_))); refine VO.r (.ld vt168) ?_; refine VO.call rfl rfl (VF.call (cLockC_ok hl)) ?_; refine VO.c (.assign rfl) ?_; refine VO.go (VC.seq (VC.text ?_)); refine VO.c (.move rfl) (VO.c (.neq) (VO.go ?_)); refine VC.condD rfl (fun c3 => ?_) (fun c3 => ?_)
  · refine VC.seq (VC.text ?_); refine VO.c (.move rfl) (VO.c (.assign rfl) (VO.c (.assign rfl) (VO.go ?_))); refine VC.ret ?_; exact VEnd.two rfl (evC .nil) evT (pvE (by rw [bstR, if_neg c3])) (pvI (by rfl))
  have hL : lockE l turn clear = 0 := Classical.not_not.1 c3; have hO := lock_ok hL; refine VC.skip (VC.seq (VC.text ?_)); refine VO.r (.ld vt168) ?_; refine VO.c (.build ([], 0, 0) bt171) ?_; refine VO.call rfl rfl (VF.call (cBest_ok hO.1 hO.2.1 hO.2.2 rfl)) ?_; refine VO.c (.fld (.l .o)) (VO.c (.assign rfl) (VO.c (.assign rfl) (VO.go ?_))); refine VC.ret ?_; exact VEnd.two rfl evT evT (pvE (by rw [bstR, if_pos hL]; rfl)) (pvI (by exact hL.symm))
abbrev best0 (l : List Shp) (turn clear : Int) : List (Int × Int) := bestE l turn clear []
theorem cUnc11_ok {o : Int × Int} {i : Int} : VF Tryz.prog OA 122 [.v y111 o, .p (.int .i64) i] (B (decide (o.1 = i))) := by
  refine VF.enter Tryz.func122 rfl (fun _ _ => rfl) rfl ?_; show VC _ _ _ _ _ [(0, .v y111 o), (1, .p (.int .i64) i)] [] _; refine VC.seq (VC.text ?_); refine VO.new (.box) ?_; refine VO.c (.assign rfl) ?_; refine VO.go (VC.seq (VC.text ?_)); refine VO.c (.fa (.l .o)) ?_; refine VO.r (.ld vt3) ?_; refine VO.r (.ld vt3) ?_; refine VO.c (.eql) (VO.c (.assign rfl) (VO.go ?_)); refine VC.ret ?_; exact VEnd.one rfl evT (pvE (by rfl))
theorem cUnc1_ok {i : Int} {p : List (Int × Int)} (hp : p.length < 100000) (h0 : 0 ≤ i) : VF Tryz.prog OA 120 [I i, .p y59 p] (B (!(hasQ p i.toNat))) := by
  refine VF.enter Tryz.func120 rfl (fun _ _ => rfl) rfl ?_; show VC _ _ _ _ _ [(0, I i), (1, .p y59 p)] [] _; refine VC.seq (VC.text ?_); refine VO.new (.box) ?_; refine VO.c (.assign rfl) ?_; refine VO.go (VC.seq (VC.text ?_)); refine VO.r (.ld vt59) ?_; refine VO.c (.func) ?_; refine VO.call rfl rfl (VF.call (zContPa_ok (F := fun o => decide (o.1 = i)) (by omega) (fun o _ => VF.clo cUnc11_ok))) ?_; refine VO.c (.not) (VO.c (.assign rfl) (VO.go ?_)); refine VC.ret ?_; exact VEnd.one rfl evT (pvE (by rw [hasQ, Int.toNat_of_nonneg h0]))
theorem cUncl_ok {l : List (ByteArray × Int × Int × Int × Int)} {turn : Int} {clear : Int} (hl : l.length < 100000) : VF Tryz.prog OA 43 [.v y62 l, I turn, I clear] (.tup [.v y25 (uncR l turn clear), I (lockE l turn clear)]) := by
  refine VF.enter Tryz.func43 rfl (fun _ _ => rfl) rfl ?_; show VC _ _ _ _ _ [(0, .v y62 l), (1, I turn), (2, I clear)] [] _; refine VC.seq (VC.text ?_); refine VO.c (.assign rfl) (VO.c (.assign rfl) ?_); refine VO.go (VC.seq (VC.text ?_)); refine VO.c (.move rfl) (VO.c (.move rfl) (VO.c (.move rfl) ?_)); refine VO.call rfl rfl (VF.call (cPassagesB_ok hl)) ?_; refine VO.c (.move rfl) (VO.c (.extract) (VO.c (.extract) ?_)); refine VO.cell (.alloc zt59) ?_; intro ww2; refine VO.setV (cs' := [.v y59 (bstR l turn clear)]) vt59 .v ?_; refine VO.shut [(8, .p y59 (bstR l turn clear))] (.cons rfl (.var m0 .refl) .nil) ?_; refine VO.c (.assign rfl) ?_; refine VO.go (VC.seq (VC.seq (VC.text ?_))); refine VO.c (.move rfl) (VO.c (.neq) (VO.go ?_)); refine VC.condD rfl (fun c2 => ?_) (fun c2 => ?_)
  · refine VC.seq (VC.text ?_); refine VO.c (.move rfl) (VO.c (.assign rfl) (VO.c (.assign rfl) (VO.go ?_))); refine VC.ret ?_; exact VEnd.two rfl (evC .nil) evT (pvE (by rw [uncR, if_neg c2])) (pvI (by rfl))
  have hL : lockE l turn clear = 0 := Classical.not_not.1 c2; have hO := lock_ok hL; have hb0 := best0_len hO.1 (turn := turn) (clear := clear); have hl8 := hO.1.len; refine VC.skip (VC.seq (VC.text ?_)); refine VO.c (.move rfl) (VO.c (.func) ?_); refine VO.call rfl rfl (VF.call (cChosen_ok (F := fun i => !(hasQ (best0 l turn clear) i.toNat)) hl (fun i hi => by rw [bstR, if_pos hL]; exact VF.clo (cUnc1_ok (by omega) (by omega))))) ?_; refine VO.c (.assign rfl) (VO.c (.assign rfl) (VO.go ?_)); refine VC.ret ?_; exact VEnd.two rfl evT evT (pvE (by rw [uncR, if_pos hL]; rfl)) (pvI (by exact hL.symm))
end Go.Proofs
namespace Go.Proofs
open Go.Fs
set_option maxHeartbeats 1000000
theorem passR_z {l : List Shp} {turn clear : Int} {p : List (Int × Int)} (h : passR l turn clear p = 0) : lockE l turn clear = 0 ∧ passE l turn clear p = 0 := by
  unfold passR at h; by_cases h1 : lockE l turn clear = 0
  · rw [if_pos h1] at h; exact ⟨h1, h⟩
  rw [if_neg h1] at h; exact absurd h h1
end Go.Proofs
namespace Go.Proofs
open Go.Fs
set_option maxHeartbeats 1000000
end Go.Proofs
namespace Go.Proofs
open Go.Fs
set_option maxHeartbeats 4000000
theorem lock_z {l : List Shp} {turn clear : Int} (h : shpsE l = 0) (ht : 0 ≤ turn ∧ turn ≤ 1000) (hc : 0 ≤ clear ∧ clear ≤ 100000) : lockE l turn clear = 0 := by
  unfold lockE; rw [h, rangeE_zero.2 ht, rangeE_zero.2 hc] <;> rfl
theorem pass_z {l : List Shp} {turn clear : Int} {p : List (Int × Int)} (h : lockE l turn clear = 0) (hp : QOk l turn clear p) : passR l turn clear p = 0 := by
  rw [passR, if_pos h]; exact firstR_zero.2 fun i hi => hp i hi
theorem bestQ {l : List Shp} (hok : ShpOk l) {turn clear : Int} : QOk l turn clear (best0 l turn clear) ∧ (best0 l turn clear).length ≤ l.length := bestE_ok hok _ (Nat.le_refl _) QI.nil
def inM (p : List (Int × Int)) : Nat → List (Int × Bool)
  | 0 => []
  | i + 1 => mset (inM p i) (paA p i).1 true
theorem inM_has {p : List (Int × Int)} {s : Int} : ∀ i, i ≤ p.length → ((mget (inM p i) s).getD false = true ↔ twiP p i s = true)
  | 0, _ => by simp [inM, mget, twiP]
  | i + 1, h => by
    have ih := inM_has (p := p) (s := s) i (by omega); rw [inM, mget_mset]; by_cases e : s = (paA p i).1
    · rw [if_pos e]; simp only [Option.getD_some, true_iff]; exact (twi_at h).2 ⟨i, by omega, e.symm⟩
    rw [if_neg e, ih]; rw [twi_at (by omega), twi_at h]; constructor
    · rintro ⟨j, hj, he⟩; exact ⟨j, by omega, he⟩
    rintro ⟨j, hj, he⟩; refine ⟨j, ?_, he⟩; by_cases e2 : j = i
    · subst e2; exact absurd he.symm e
    omega
end Go.Proofs
namespace Go.Proofs
open Go.Fs
set_option maxHeartbeats 1000000
end Go.Proofs
namespace Go.Proofs
open Go.Fs
set_option maxHeartbeats 1000000
end Go.Proofs
namespace Go.Proofs
open Go.Fs
set_option maxHeartbeats 4000000
theorem wf8u {n : Int} (h : (Lit.int .u8 n).wf = true) : 0 ≤ n ∧ n < 256 := by
  have h1 : (decide (IntKind.u8.min ≤ n) && decide (n ≤ IntKind.u8.max)) = true := h; obtain ⟨h2, h3⟩ := band h1; have h4 : (0 : Int) ≤ n := of_decide_eq_true h2; have h5 : n ≤ (255 : Int) := of_decide_eq_true h3; exact ⟨h4, by omega⟩
structure ChnH (l : List Pha) (more dl : Int) : Prop where
  hz : planE l = 0
  h7 : l.length ≤ 7
  hdl : dl = (durR l).2 + more
  mo : 0 ≤ more ∧ more < 256
  hi : 0 ≤ (durR l).2 ∧ (durR l).2 ≤ 16000
  lat0 : latE l dl = 0
  latn : (latR l dl).length = l.length
  slan : (slaR l dl).length = l.length
  crin : (criR l).length ≤ l.length
end Go.Proofs
