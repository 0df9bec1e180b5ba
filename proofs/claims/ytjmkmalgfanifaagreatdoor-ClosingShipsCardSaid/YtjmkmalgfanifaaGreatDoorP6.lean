/- Parts of the proof: an evaluator of the model, what it is sound for, and contracts of functions. No condition. -/
import Derived.Test.YtjmkmalgfanifaaGreatDoorP5
import Derived.Test.YtjmkmalgfanifaaGreatDoorP3
import Derived.Test.YtjmkmalgfanifaaGreatDoorP2
set_option linter.all false
namespace Go.Proofs
open Go.Fs
set_option maxHeartbeats 1000000
def curK (o : List Int) (y : Int) (k : Nat) : List Int := o.take k ++ y :: o.drop k
def bubK (o : List Int) (y : Int) : Nat → List Int
  | 0 => y :: o
  | k + 1 => if y < o.getD k 0 then bubK o y k else curK o y (k + 1)
def shpL (p : List (Int × Int)) : Nat → List Int
  | 0 => []
  | i + 1 => bubK (shpL p i) (paA p i).1 (shpL p i).length
theorem curK_len {o : List Int} {y : Int} {k : Nat} (h : k ≤ o.length) : (curK o y k).length = o.length + 1 := by
  simp [curK]; omega
theorem curK_mem {o : List Int} {y x : Int} {k : Nat} : x ∈ curK o y k ↔ x = y ∨ x ∈ o := by
  unfold curK; rw [List.mem_append, List.mem_cons]
  conv => rhs; rw [← List.take_append_drop k o, List.mem_append]
  constructor
  · rintro (h | h | h)
    · exact .inr (.inl h)
    · exact .inl h
    exact .inr (.inr h)
  rintro (h | h | h)
  · exact .inr (.inl h)
  · exact .inl h
  exact .inr (.inr h)
theorem bubK_mem {o : List Int} {y x : Int} : ∀ k, x ∈ bubK o y k ↔ x = y ∨ x ∈ o
  | 0 => by simp [bubK]
  | k + 1 => by
    unfold bubK; split
    · exact bubK_mem k
    exact curK_mem
theorem bubK_len {o : List Int} {y : Int} : ∀ k, k ≤ o.length → (bubK o y k).length = o.length + 1
  | 0, _ => by simp [bubK]
  | k + 1, h => by
    unfold bubK; split
    · exact bubK_len k (by omega)
    exact curK_len h
theorem curK_at {o : List Int} {y : Int} {k q : Nat} (h : k ≤ o.length) (hq : q < (curK o y k).length) : (curK o y k)[q] = if q < k then o.getD q 0 else if q = k then y else o.getD (q - 1) 0 := by
  have hl := curK_len (y := y) h; unfold curK at hq ⊢; rw [List.getElem_append]; by_cases h1 : q < k
  · have : q < (o.take k).length := by rw [List.length_take]; omega
    rw [dif_pos this, if_pos h1, List.getElem_take, getDg (by omega)]
  have : ¬ q < (o.take k).length := by rw [List.length_take]; omega
  rw [dif_neg this, if_neg h1]
  have hk : (o.take k).length = k := by rw [List.length_take]; omega
  by_cases h2 : q = k
  · rw [if_pos h2]; simp only [hk, h2, Nat.sub_self] <;> rfl
  rw [if_neg h2]; simp only [hk]
  have h3 : q - k = (q - k - 1) + 1 := by omega
  have : ∀ (n : Nat) (hn : n < (y :: o.drop k).length), n = (q - k - 1) + 1 → (y :: o.drop k)[n] = o.getD (q - 1) 0 := by
    rintro n hn rfl; rw [List.getElem_cons_succ, List.getElem_drop, getDg (by simp at hn; omega)]; congr 1; omega
  exact this _ _ h3
theorem swap_b {o : List Int} {y a b : Int} {k j : Nat} (hj : j + 1 = k) (h : k ≤ o.length) (ha : a = o.getD (k - 1) 0) (hb : b = y) : ((curK o y k).set k a).set j b = curK o y (k - 1) := by
  obtain rfl : j = k - 1 := by omega
  have h0 : 0 < k := by omega
  subst hb; refine List.ext_getElem (by rw [List.length_set, List.length_set, curK_len h, curK_len (by omega)]) fun q h1 h2 => ?_; rw [curK_at (k := k - 1) (by omega) h2, List.getElem_set, List.getElem_set]; by_cases e1 : k - 1 = q
  · rw [if_pos e1, if_neg (by omega), if_pos (by omega)]
  rw [if_neg e1]; by_cases e2 : k = q
  · rw [if_pos e2, if_neg (by omega), if_neg (by omega), ha]; congr 1; omega
  rw [if_neg e2, curK_at h]; by_cases e3 : q < k
  · rw [if_pos e3, if_pos (by omega)]
  rw [if_neg e3, if_neg (by omega), if_neg (by omega), if_neg (by omega)]
theorem bub_step {o : List Int} {y : Int} {k : Nat} (h0 : 0 < k) (h : y < o.getD (k - 1) 0) : bubK o y k = bubK o y (k - 1) := by
  cases k with
  | zero => omega
  | succ k => rw [bubK, if_pos (show y < o.getD k 0 from h)] <;> rfl
theorem bub_end {o : List Int} {y : Int} {k : Nat} (h : k = 0 ∨ ¬ y < o.getD (k - 1) 0) : bubK o y k = curK o y k := by
  cases k with
  | zero => simp [bubK, curK]
  | succ k => rw [bubK, if_neg (show ¬ y < o.getD k 0 from h.resolve_left (by omega))]
theorem curK_end {o : List Int} {y : Int} : o ++ [y] = curK o y o.length := by simp [curK]
theorem shpL_len {p : List (Int × Int)} : ∀ i, (shpL p i).length = i
  | 0 => rfl
  | i + 1 => by rw [shpL, bubK_len _ (Nat.le_refl _), shpL_len i]
theorem shpL_mem {p : List (Int × Int)} {x : Int} : ∀ i, i ≤ p.length → (x ∈ shpL p i ↔ twiP p i x = true)
  | 0, _ => by simp [shpL, twiP]
  | i + 1, h => by
    have ih := shpL_mem (p := p) (x := x) i (by omega); rw [shpL, bubK_mem, ih]; unfold twiP; rw [List.take_succ_eq_append_getElem (by omega), List.any_append, paA_eq (by omega)]; simp only [List.any_cons, List.any_nil, Bool.or_false, Bool.or_eq_true, decide_eq_true_eq]; constructor
    · rintro (h | h)
      · exact .inr h.symm
      exact .inl h
    rintro (h | h)
    · exact .inr h
    exact .inl h.symm
theorem shpL_has {p : List (Int × Int)} {x : Int} {i : Nat} (h : i ≤ p.length) : (shpL p i).contains x = twiP p i x := by
  have := shpL_mem (p := p) (x := x) i h
  cases hb : twiP p i x with
  | true => exact List.contains_iff_mem.2 (this.2 hb)
  | false =>
    refine Bool.eq_false_iff.2 fun hc => ?_; have := this.1 (List.contains_iff_mem.1 hc); rw [hb] at this; cases this
theorem rShipsOf_ok {p : List (Int × Int)} (hl : p.length < 100000) : VF Tryz.prog OA 125 [.v y68 p] (.v y25 (shpL p p.length)) := by
  refine VF.enter Tryz.func125 rfl (fun _ _ => rfl) rfl ?_; show VC _ _ _ _ _ [(0, .v y68 p)] [] _; refine VC.seq (VC.text ?_); refine VO.c (.assign rfl) ?_; refine VO.go (VC.seq (VC.text ?_)); refine VO.c (.assign rfl) ?_; refine VO.go (VC.seq (VC.seq (VC.text ?_))); refine VO.c (.assign rfl) ?_; refine VO.go (VC.block ?_); refine VC.cell0 3 (.int .i64) ?_; refine VC.keep [(0, .v y68 p), (3, .raw (.slice none 0 0)), (4, I ((0 : Nat) : Int))] ⟨rfl, rfl, rfl, trivial⟩ ?_; refine VC.loop (I := fun kk ff ss => ∃ (i : Nat) (w : Value), kk = p.length - i ∧ ff = [(0, .v y68 p), (3, .raw w), (4, I ((i : Nat) : Int))] ∧ ss = [(w, .row 3 (.int .i64) (shpL p i))] ∧ (i ≤ p.length)) ?_ _ _ _ ⟨0, (.slice none 0 0), rfl, rfl, rfl, Nat.zero_le _⟩; rintro kk ff ss ⟨i, w, hk0, rfl, rfl, hi⟩; refine VC.seq (VC.seq (VC.text ?_)); refine VO.c (.move rfl) (VO.c (.move rfl) ?_); refine VO.r (.len el68) ?_; refine VO.c (.lss) (VO.go ?_); refine VC.condD rfl (fun c3 => ?_) (fun c3 => ?_)
  · have hlt : i < p.length := by omega
    have hsl := shpL_len (p := p) i; refine VC.skip (VC.seq (VC.block (VC.seq (VC.text ?_)))); refine VO.c (.move rfl) (VO.c (.move rfl) (VO.c (.move rfl) (VO.c (.ix (j := i) rfl rfl el68 (by omega)) ?_))); refine VO.c (.fa (.l .o)) ?_; refine VO.r (.ld vt3) ?_; refine VO.new (.lit [(p[i]).1] el25) ?_; refine VO.app rfl rfl el25 el25 (by rw [hsl]; simp; omega) ?_; intro ww1; refine VO.c (.assign rfl) ?_; refine VO.go (VC.seq (VC.text ?_)); refine VO.c (.move rfl) ?_; refine VO.r (.lenO m0 el25) ?_; refine VO.c (.sub rfl rfl (by rw [List.length_append]; simp; omega)) (VO.c (.assign rfl) ?_); refine VO.go (VC.block ?_); refine VC.keep [(0, .v y68 p), (3, .raw ww1), (4, I ((i : Nat) : Int)), (5, I ((((shpL p i).length) : Nat) : Int))] ⟨rfl, rfl, rfl, slI rfl (by rw [List.length_append]; simp), trivial⟩ ?_; refine VC.loop (I := fun kk ff ss => ∃ (k : Nat), kk = k ∧ ff = [(0, .v y68 p), (3, .raw ww1), (4, I ((i : Nat) : Int)), (5, I ((k : Nat) : Int))] ∧ ss = [(ww1, .row 3 (.int .i64) (curK (shpL p i) p[i].1 k))] ∧ (k ≤ (shpL p i).length) ∧ (bubK (shpL p i) p[i].1 (shpL p i).length = bubK (shpL p i) p[i].1 k)) ?_ _ _ _ ⟨(shpL p i).length, rfl, rfl, (by rw [curK_end]), (by omega), (by rfl)⟩; rintro kk ff ss ⟨k, hk2, rfl, rfl, hk, hb⟩; have hcl := curK_len (y := p[i].1) hk; refine VC.seq (VC.seq (VC.drawn ?_)); refine VD.c (.move rfl) (VD.c (.gtr) (VD.c (.move rfl) ?_)); refine VD.splitD (x := 25) rfl (fun g7_2 => ?_) (fun g7_2 => ?_)
    · refine VD.c (.move rfl) (VD.c (.move rfl) (VD.nw [] ?_)); refine VD.co (.ixO (j := k) rfl rfl m0 el25 (by omega)) ?_; refine VD.r [(ww1, .row 3 (.int .i64) (curK (shpL p i) p[i].1 k))] (.ldO rfl m0 vt3 (by omega)) (.inr ⟨rfl, rfl⟩) ?_; refine VD.c (.move rfl) (VD.c (.move rfl) (VD.c (.sub rfl rfl (by omega)) ?_)); refine VD.co (.ixOZ (k := (((k : Nat) : Int) - (1 : Int))) rfl rfl m0 el25 (by omega) (by omega)) ?_; refine VD.r [(ww1, .row 3 (.int .i64) (curK (shpL p i) p[i].1 k))] (.ldO rfl m0 vt3 (by omega)) (.inr ⟨rfl, rfl⟩) ?_; refine VD.nw [] (VD.c (.lss) (VD.c (.pickT rfl rfl) (VD.go ?_))); refine VC.condD rfl (fun c7 => ?_) (fun c7 => ?_)
      · have e1 : (curK (shpL p i) p[i].1 k)[k]'(by omega) = p[i].1 := by rw [curK_at hk, if_neg (by omega), if_pos rfl]
        have e2 : (curK (shpL p i) p[i].1 k)[(((k : Nat) : Int) - 1).toNat]'(by omega) = (shpL p i).getD (k - 1) 0 := by rw [curK_at hk, if_pos (by omega)]; congr 1; omega
        have hls : ((curK (shpL p i) p[i].1 k).set k ((curK (shpL p i) p[i].1 k)[(((k : Nat) : Int) - 1).toNat]'(by omega))).length = (shpL p i).length + 1 := by rw [List.length_set]; exact hcl
        have h7 := c7; rw [e1, e2] at h7; refine VC.skip (VC.seq (VC.block (VC.drawn ?_))); refine VD.c (.move rfl) (VD.c (.move rfl) (VD.c (.move rfl) (VD.c (.move rfl) ?_))); refine VD.c (.sub rfl rfl (by omega)) (VD.c (.move rfl) (VD.nw [] (VD.c (.move rfl) ?_))); refine VD.c (.sub rfl rfl (by omega)) ?_; refine VD.co (.ixOZ (k := (((k : Nat) : Int) - (1 : Int))) rfl rfl m0 el25 (by omega) (by omega)) ?_; refine VD.r [(ww1, .row 3 (.int .i64) (curK (shpL p i) p[i].1 k))] (.ldO rfl m0 vt3 (by omega)) (.inr ⟨rfl, rfl⟩) ?_; refine VD.c (.move rfl) (VD.c (.move rfl) ?_); refine VD.co (.ixO (j := k) rfl rfl m0 el25 (by omega)) ?_; refine VD.nw [] ?_; refine VD.r [(ww1, .row 3 (.int .i64) (curK (shpL p i) p[i].1 k))] (.ldO rfl m0 vt3 (by omega)) (.inr ⟨rfl, rfl⟩) ?_; refine VD.co (.ixO (j := k) rfl rfl m0 el25 (by omega)) ?_; refine VD.mk0 (MakeV.setE (j := k) vt3 (by omega) rfl rfl) ?_; rintro _ _ tl2 ⟨rfl, rfl⟩; refine VD.co (.ixOZ (k := (((k : Nat) : Int) - (1 : Int))) rfl rfl m0 el25 (by omega) (by omega)) ?_; refine VD.mk0 (MakeV.setE (j := (Int.toNat (((k : Nat) : Int) - (1 : Int)))) vt3 (by omega) rfl rfl) ?_; rintro _ _ tl3 ⟨rfl, rfl⟩; refine VD.nil ?_; refine VC.text ?_; refine VO.c (.move rfl) (VO.c (.sub rfl rfl (by omega)) (VO.c (.assign rfl) ?_)); refine VO.nil ?_; refine ⟨_, [(0, .v y68 p), (3, .raw ww1), (4, I ((i : Nat) : Int)), (5, I (((k - 1) : Nat) : Int))], ?_, ⟨rfl, rfl, rfl, slI rfl (by omega), trivial⟩, (k - 1), rfl, rfl, (by rw [swap_b (show (((k : Nat) : Int) - 1).toNat + 1 = k by omega) hk e2 e1]), (by omega), (by rw [hb, bub_step (by omega) h7])⟩; omega
      refine VC.exit (VC.text ?_); refine VO.c (.move rfl) (VO.c (.add rfl rfl (by omega)) (VO.c (.assign rfl) ?_)); refine VO.nil ?_; refine ⟨_, [(0, .v y68 p), (3, .raw ww1), (4, I (((i + 1) : Nat) : Int))], ?_, ⟨rfl, rfl, rfl, trivial⟩, (i + 1), ww1, rfl, rfl, (by rw [shpL, paA_eq hlt, hb]; first | (rw [bub_end (.inl (by omega))]; done) | (rw [bub_end (.inr (by rw [curK_at hk, curK_at hk, if_neg (by omega), if_pos rfl, if_pos (by omega)] at c7; rwa [show (((k : Nat) : Int) - 1).toNat = k - 1 by omega] at c7))]; done)), (by omega)⟩; omega
    refine VD.skip (VD.skip (VD.nw [] (VD.skip ?_))); refine VD.skip (VD.skip (VD.skip (VD.skip ?_))); refine VD.skip (VD.skip (VD.nw [] (VD.skip ?_))); refine VD.c (.pickF rfl rfl) (VD.go ?_); refine VC.condF rfl ?_; refine VC.exit (VC.text ?_); refine VO.c (.move rfl) (VO.c (.add rfl rfl (by omega)) (VO.c (.assign rfl) ?_)); refine VO.nil ?_; refine ⟨_, [(0, .v y68 p), (3, .raw ww1), (4, I (((i + 1) : Nat) : Int))], ?_, ⟨rfl, rfl, rfl, trivial⟩, (i + 1), ww1, rfl, rfl, (by rw [shpL, paA_eq hlt, hb]; first | (rw [bub_end (.inl (by omega))]; done) | (rw [bub_end (.inr (by rw [curK_at hk, curK_at hk, if_neg (by omega), if_pos rfl, if_pos (by omega)] at c7; rwa [show (((k : Nat) : Int) - 1).toNat = k - 1 by omega] at c7))]; done)), (by omega)⟩; omega
  refine VC.exit (VC.seq (VC.text ?_)); refine VO.c (.move rfl) (VO.c (.assign rfl) (VO.go ?_)); refine VC.ret ?_; exact VEnd.one rfl (evC (.row m0)) (pvE (by rw [show i = p.length by omega]))
theorem last_take {p : List (Int × Int)} {i : Nat} (hi : i ≤ p.length) : (i = 0 → lastP p i = (-1, 0)) ∧ ∀ h : 0 < (p.take i).length, lastP p i = (p.take i)[(p.take i).length - 1] := by
  cases i with
  | zero => exact ⟨fun _ => rfl, fun h => by simp at h⟩
  | succ i =>
    refine ⟨fun h => (by omega), fun h => ?_⟩
    · show paA p i = _; rw [paA_eq (by omega), List.getElem_take]; congr 1; rw [List.length_take]; omega
def endP (q : List (Int × Int)) : Int × Int := lastP q q.length
theorem rFree_ok {l : List (ByteArray × Int × Int × Int × Int)} {turn : Int} {q : List (Int × Int)} {s : Int} (hl : l.length < 100000) (hq : q.length < 100000) (hs : 0 ≤ s ∧ s < ((l.length : Nat) : Int)) (hok : ShpOk l) (htu : 0 ≤ turn ∧ turn ≤ 1000) (hla : LastOk l (endP q)) (hnn : 0 < q.length → endP q ≠ (-1, 0)) : VF Tryz.prog OA 134 [.v y57 l, I turn, .v y68 q, I s] (I (freeF l turn (endP q) s.toNat)) := by
  refine VF.enter Tryz.func134 rfl (fun _ _ => rfl) rfl ?_; show VC _ _ _ _ _ [(0, .v y57 l), (1, I turn), (2, .v y68 q), (3, I s)] [] _; refine VC.seq (VC.text ?_); refine VO.c (.assign rfl) ?_; refine VO.go (VC.seq (VC.text ?_)); refine VO.c (.move rfl) (VO.c (.move rfl) (VO.c (.ixZ rfl rfl el57 hs.1 hs.2) (VO.c (.fa (.r (.l .o))) ?_))); refine VO.r (.ld vt3) ?_; refine VO.c (.assign rfl) ?_; refine VO.go (VC.seq (VC.seq (VC.text ?_))); refine VO.c (.move rfl) ?_; refine VO.r (.len el68) ?_; refine VO.c (.gtr) (VO.go ?_); refine VC.condD rfl (fun c2 => ?_) (fun c2 => ?_)
  · have hne : ¬ endP q = (-1, 0) := hnn (by omega)
    have hqe : endP q = q[q.length - 1]'(by omega) := by
      have := (last_take (p := q) (i := q.length) (Nat.le_refl _)).2 (by rw [List.length_take]; omega); rw [endP, this, List.getElem_take]; congr 1; rw [List.length_take]; omega
    have hqz : q[(((q.length : Nat) : Int) - 1).toNat]'(by omega) = endP q := by rw [hqe]; congr 1; omega
    have hl9 := free_last hla hne; rw [← hqz] at hl9; have hsa : shA l s.toNat = l[s.toNat]'(by omega) := shA_eq (by omega); have hlb : shA l (q[(((q.length : Nat) : Int) - 1).toNat]'(by omega)).1.toNat = l[(q[(((q.length : Nat) : Int) - 1).toNat]'(by omega)).1.toNat]'(by omega) := shA_eq (by omega); have hg := hok.lng (q[(((q.length : Nat) : Int) - 1).toNat]'(by omega)).1.toNat; rw [hlb] at hg; have ha := hok.arr s.toNat; rw [hsa] at ha
    have hf : freeF l turn (endP q) s.toNat = max ((q[(((q.length : Nat) : Int) - 1).toNat]'(by omega)).2 + (l[(q[(((q.length : Nat) : Int) - 1).toNat]'(by omega)).1.toNat]'(by omega)).2.2.1 + (if (l[(q[(((q.length : Nat) : Int) - 1).toNat]'(by omega)).1.toNat]'(by omega)).2.2.2.1 ≠ (l[s.toNat]'(by omega)).2.2.2.1 then turn else 0)) (l[s.toNat]'(by omega)).2.1 := by rw [freeF, if_neg hne, ← hqz, hlb, hsa]
    refine VC.seq (VC.text ?_); refine VO.c (.move rfl) (VO.c (.move rfl) ?_); refine VO.r (.len el68) ?_; refine VO.c (.sub rfl rfl (by omega)) (VO.c (.ixZ (k := (((q.length : Nat) : Int) - (1 : Int))) rfl rfl el68 (by omega) (by omega)) ?_); refine VO.r (.ld vt128) ?_; refine VO.cell (.alloc zt128) ?_; intro ww4; refine VO.setV (cs' := [I ((q[Int.toNat (((q.length : Nat) : Int) - (1 : Int))]).1), I ((q[Int.toNat (((q.length : Nat) : Int) - (1 : Int))]).2)]) vt128 .v ?_; refine VO.shut [(10, .p y128 (q[Int.toNat (((q.length : Nat) : Int) - (1 : Int))]))] (.cons rfl (.var m0 .refl) .nil) ?_; refine VO.go (VC.seq (VC.drawn ?_)); refine VD.c (.fa (.r .o)) ?_; refine VD.r [] (.ld vt3) (.inl rfl) ?_; refine VD.c (.move rfl) (VD.c (.fa (.l .o)) ?_); refine VD.r [] (.ld vt3) (.inl rfl) ?_; refine VD.c (.ixZ (k := (q[Int.toNat (((q.length : Nat) : Int) - (1 : Int))]).1) rfl rfl el57 (by omega) (by omega)) (VD.nw [] (VD.c (.fa (.r (.r (.l .o)))) ?_)); refine VD.r [] (.ld vt3) (.inl rfl) ?_; refine VD.c (.add rfl rfl (by omega)) (VD.c (.assign rfl) ?_); refine VD.go (VC.seq (VC.seq (VC.drawn ?_))); refine VD.c (.move rfl) (VD.c (.fa (.l .o)) ?_); refine VD.r [] (.ld vt3) (.inl rfl) ?_; refine VD.c (.ixZ (k := (q[Int.toNat (((q.length : Nat) : Int) - (1 : Int))]).1) rfl rfl el57 (by omega) (by omega)) (VD.c (.fa (.r (.r (.r (.l .o))))) ?_); refine VD.r [] (.ld vt3) (.inl rfl) ?_; refine VD.nw [] (VD.c (.move rfl) (VD.c (.move rfl) (VD.c (.ixZ (k := s) rfl rfl el57 (by omega) (by omega)) ?_))); refine VD.c (.fa (.r (.r (.r (.l .o))))) ?_; refine VD.r [] (.ld vt3) (.inl rfl) ?_; refine VD.c (.neq) (VD.go ?_); refine VC.condD rfl (fun c5 => ?_) (fun c5 => ?_)
    · refine VC.keep [(1, I turn), (9, I ((l[s.toNat]).2.1)), (11, I ((q[Int.toNat (((q.length : Nat) : Int) - (1 : Int))]).2 + (l[Int.toNat ((q[Int.toNat (((q.length : Nat) : Int) - (1 : Int))]).1)]).2.2.1))] ⟨rfl, rfl, rfl, trivial⟩ ?_; refine VC.text ?_; refine VO.c (.move rfl) (VO.c (.move rfl) (VO.c (.add rfl rfl (by omega)) (VO.c (.assign rfl) ?_))); refine VO.go (VC.text ?_); refine VO.c (.move rfl) (VO.c (.move rfl) (VO.c (.imax) (VO.c (.assign rfl) ?_))); refine VO.go (VC.seq (VC.text ?_)); refine VO.c (.move rfl) (VO.c (.assign rfl) (VO.go ?_)); refine VC.ret ?_; exact VEnd.one rfl evT (pvI (by rw [hf, if_pos c5]; omega))
    refine VC.skip ?_; refine VC.keep [(9, I ((l[s.toNat]).2.1)), (11, I ((q[Int.toNat (((q.length : Nat) : Int) - (1 : Int))]).2 + (l[Int.toNat ((q[Int.toNat (((q.length : Nat) : Int) - (1 : Int))]).1)]).2.2.1))] ⟨rfl, rfl, trivial⟩ ?_; refine VC.text ?_; refine VO.c (.move rfl) (VO.c (.move rfl) (VO.c (.imax) (VO.c (.assign rfl) ?_))); refine VO.go (VC.seq (VC.text ?_)); refine VO.c (.move rfl) (VO.c (.assign rfl) (VO.go ?_)); refine VC.ret ?_; exact VEnd.one rfl evT (pvI (by rw [hf, if_neg c5]; omega))
  refine VC.skip (VC.seq (VC.text ?_)); refine VO.c (.move rfl) (VO.c (.assign rfl) (VO.go ?_)); refine VC.ret ?_; exact VEnd.one rfl evT (pvI (by rw [freeF, if_pos (by have h0 : q.length = 0 := (by omega); rw [endP, h0]; rfl), shA_eq (by omega)]))
theorem last_ne {l : List Shp} (hok : ShpOk l) {turn clear : Int} {p : List (Int × Int)} (hc : clear ≤ 100000) {i : Nat} (h : ∀ j, j < i → pasE l turn clear p j = 0) (hi : 0 < i) : lastP p i ≠ (-1, 0) := by
  cases i with
  | zero => omega
  | succ i =>
    have := pas_ok hok hc (h i (by omega)); intro e; have h1 := this.1.1; have e2 : (paA p i).1 = -1 := congrArg Prod.fst e; omega
theorem pasX_0 {l : List Shp} {turn clear : Int} {y last : Int × Int} {t : Bool} (h : t = false) (h2 : ¬ y.2 < freeF l turn last y.1.toNat) (h3 : ¬ clear - (shA l y.1.toNat).2.2.1 < y.2) : pasX l turn clear y last t = 0 := by
  subst h; unfold pasX; rw [decide_eq_false h2, decide_eq_false h3] <;> rfl
theorem rPrio_ok {l : List (ByteArray × Int × Int × Int × Int)} {p : List (Int × Int)} (hp : p.length < 1000) (hok : ShpOk l) (hr : ∀ i, i < p.length → 0 ≤ (paA p i).1 ∧ (paA p i).1 < ((l.length : Nat) : Int)) : VF Tryz.prog OA 67 [.v y57 l, .v y68 p] (I (sumP l p p.length)) := by
  refine VF.enter Tryz.func67 rfl (fun _ _ => rfl) rfl ?_; show VC _ _ _ _ _ [(0, .v y57 l), (1, .v y68 p)] [] _; refine VC.seq (VC.text ?_); refine VO.c (.assign rfl) ?_; refine VO.go (VC.seq (VC.text ?_)); refine VO.c (.assign rfl) ?_; refine VO.go (VC.seq (VC.seq (VC.text ?_))); refine VO.c (.assign rfl) ?_; refine VO.go (VC.block ?_); refine VC.keep [(0, .v y57 l), (1, .v y68 p), (5, I (sumP l p 0)), (6, I ((0 : Nat) : Int))] ⟨rfl, rfl, rfl, rfl, trivial⟩ ?_; refine VC.loop (I := fun kk ff ss => ∃ (i : Nat), kk = p.length - i ∧ ff = [(0, .v y57 l), (1, .v y68 p), (5, I (sumP l p i)), (6, I ((i : Nat) : Int))] ∧ ss = [] ∧ (i ≤ p.length)) ?_ _ _ _ ⟨0, rfl, rfl, rfl, Nat.zero_le _⟩; rintro kk ff ss ⟨i, hk0, rfl, rfl, hi⟩; refine VC.seq (VC.seq (VC.text ?_)); refine VO.c (.move rfl) (VO.c (.move rfl) ?_); refine VO.r (.len el68) ?_; refine VO.c (.lss) (VO.go ?_); refine VC.condD rfl (fun c3 => ?_) (fun c3 => ?_)
  · have hlt : i < p.length := by omega
    have hri := hr i hlt; rw [paA_eq hlt] at hri; have hsb := sumP_b hok (p := p) i; have hpr := hok.pri (p[i].1).toNat; rw [shA_eq (by omega)] at hpr; refine VC.skip (VC.seq (VC.block (VC.text ?_))); refine VO.c (.move rfl) (VO.c (.move rfl) (VO.c (.move rfl) (VO.c (.move rfl) ?_))); refine VO.c (.ix (j := i) rfl rfl el68 (by omega)) (VO.c (.fa (.l .o)) ?_); refine VO.r (.ld vt3) ?_; refine VO.c (.ixZ (k := (p[i]).1) rfl rfl el57 (by omega) (by omega)) (VO.c (.fa (.r (.r (.r (.r .o))))) ?_); refine VO.r (.ld vt3) ?_; refine VO.c (.add rfl rfl (by omega)) (VO.c (.assign rfl) ?_); refine VO.nil (VC.text ?_); refine VO.c (.move rfl) (VO.c (.add rfl rfl (by omega)) (VO.c (.assign rfl) ?_)); refine VO.nil ?_; refine ⟨_, [(0, .v y57 l), (1, .v y68 p), (5, I (sumP l p (i + 1))), (6, I (((i + 1) : Nat) : Int))], ?_, ⟨rfl, rfl, slI rfl (by rw [sumP, paA_eq hlt, shA_eq (by omega)]), rfl, trivial⟩, (i + 1), rfl, rfl, rfl, (by omega)⟩; omega
  refine VC.exit (VC.seq (VC.text ?_)); refine VO.c (.move rfl) (VO.c (.assign rfl) (VO.go ?_)); refine VC.ret ?_; exact VEnd.one rfl evT (pvI (by rw [show i = p.length by omega]))
end Go.Proofs
namespace Go.Proofs
open Go.Fs
set_option maxHeartbeats 1000000
end Go.Proofs
namespace Go.Fs
variable {P : Program} {orc : FuncId → List Value → Heap → Option (Value × Heap)} {rnd : Option Nat} {h h' h0 h1 h2 : Heap} {S S' S0 B G : List Nat} {σ σ' σr : Sto} {t t' : Tr} {ms : List Nat} {fl : VL} {ops : Array Oper} {n i mem : Nat} {l : List Oper} {K : VL → Sto → Prop} {Q : Ex → VL → Sto → Prop}
  {d : Tmp} {ty : TypeId} {pos : String} {after : Array Edge} {op : Op} {v pv : PV} {g : Option (Nat × Bool)} {x y z : Operand} {T T' e : TypeId} {τ τ' : Ty} {bs nw : List Nat} {segs : List (Nat × Nat × Nat)} {tail so : Bool} {w w' : Value} {c c' : Cell}
end Go.Fs
namespace Go.Fs
variable {P : Program} {fl : VL} {σ : Sto} {T : TypeId} {τ : Ty} {h : Heap} {S : List Nat}
inductive PartP : PV → List PV → Prop where
  | v {τ : Ty} {x : τ.den} : PartP (.v τ x) (cellsPV τ x)
  | w {w : Value} (ho : oneCell w = true) : PartP (.raw w) [.raw w]
inductive BldR (pl : List (Nat × Nat)) : List PV → List Nat → List PV → List PV → Prop where
  | nil {L L' : List PV} (h : L = L') : BldR pl L [] [] L'
  | cons {L L' : List PV} {i o : Nat} {is : List Nat} {p : PV} {ps qs : List PV} (hp : PartP p qs) (hpl : pl[i]? = some (o, qs.length)) (ho : Nat.ble (o + qs.length) L.length = true) (r : BldR pl (spl L o qs) is ps L') : BldR pl L (i :: is) (p :: ps) L'
end Go.Fs
namespace Go.Fs
variable {P : Program} {fl : VL} {σ : Sto} {T T' : TypeId} {x y : Operand} {p q : Int}
end Go.Fs
namespace Go.Fs
variable {P : Program} {orc : FuncId → List Value → Heap → Option (Value × Heap)} {h : Heap} {σ ρ : Sto} {fl : VL} {ops : Array Oper} {n i mem : Nat} {l : List Oper} {K : VL → Sto → Prop} {nw bs : List Nat} {tl : Bool} {hr : Heap} {S0 A : List Nat} {t : Tr} {rd chg : List Nat}
def keysNew : VL → List Nat → List Nat
  | [], nw => nw
  | (k, _) :: r, nw => k :: keysNew r nw
theorem keysNew_no : ∀ {nl : VL} {nw : List Nat} {k : Nat}, nwHas (keysNew nl nw) k = false → (∀ pv, lkV (nl ++ fl) k = some pv → lkV fl k = some pv) ∧ nwHas nw k = false
  | [], nw, k, h => ⟨fun _ h => h, h⟩
  | (j, v) :: r, nw, k, h => by
    simp only [keysNew, nwHas] at h
    cases hb : Nat.beq j k with
    | true => rw [hb] at h; cases h
    | false =>
      rw [hb] at h; obtain ⟨h1, h2⟩ := keysNew_no (nl := r) h; refine ⟨fun pv hp => h1 pv ?_, h2⟩; simp only [List.cons_append, lkV, hb, cond_false] at hp; exact hp
end Go.Fs
namespace Go.Fs
variable {P : Program} {orc : FuncId → List Value → Heap → Option (Value × Heap)} {rnd : Option Nat} {h h' h0 h1 h2 hr : Heap} {S S' S0 B G A : List Nat} {σ σ' σr ρ : Sto} {t t' : Tr} {ms : List Nat} {fl : VL} {ops : Array Oper} {n i mem : Nat} {l : List Oper} {K : VL → Sto → Prop}
  {d : Tmp} {ty : TypeId} {pos : String} {after : Array Edge} {op : Op} {v pv : PV} {g : Option (Nat × Bool)} {x y z : Operand} {T T' e : TypeId} {τ τ' : Ty} {bs nw rd chg : List Nat} {segs : List (Nat × Nat × Nat)} {tail tl : Bool} {w w' : Value}
end Go.Fs
namespace Go.Proofs
open Go.Fs
set_option maxHeartbeats 1000000
def cmpI (a b : Int) : Int := if a < b then -1 else if b < a then 1 else 0
theorem zNaN_ok {x : Int} : VF Tryz.prog OA 184 [I x] (B false) := by
  refine VF.enter Tryz.func184 rfl (fun _ _ => rfl) rfl ?_; show VC _ _ _ _ _ [(0, I x)] [] _; refine VC.seq (VC.text ?_); refine VO.c (.assign rfl) ?_; refine VO.go (VC.seq (VC.text ?_)); refine VO.c (.move rfl) (VO.c (.move rfl) (VO.c (.neq) (VO.c (.assign rfl) ?_))); refine VO.go ?_; refine VC.ret ?_; exact VEnd.one rfl evT (pvE (by simp))
theorem zCmp_ok {a : Int} {b : Int} : VF Tryz.prog OA 165 [I a, I b] (I (cmpI a b)) := by
  refine VF.enter Tryz.func165 rfl (fun _ _ => rfl) rfl ?_; show VC _ _ _ _ _ [(0, I a), (1, I b)] [] _; refine VC.seq (VC.text ?_); refine VO.c (.assign rfl) ?_; refine VO.go (VC.seq (VC.text ?_)); refine VO.c (.move rfl) ?_; refine VO.call rfl rfl (VF.call (zNaN_ok )) ?_; refine VO.c (.assign rfl) ?_; refine VO.go (VC.seq (VC.text ?_)); refine VO.c (.move rfl) ?_; refine VO.call rfl rfl (VF.call (zNaN_ok )) ?_; refine VO.c (.assign rfl) ?_; refine VO.go (VC.seq (VC.seq (VC.text ?_))); refine VO.c (.move rfl) (VO.go ?_); refine VC.condF rfl ?_; refine VC.skip (VC.seq (VC.seq (VC.text ?_))); refine VO.c (.move rfl) (VO.go ?_); refine VC.condF rfl ?_; refine VC.skip (VC.seq (VC.seq (VC.text ?_))); refine VO.c (.move rfl) (VO.c (.move rfl) (VO.c (.lss) (VO.go ?_))); refine VC.condD rfl (fun c9 => ?_) (fun c9 => ?_)
  · refine VC.seq (VC.text ?_); refine VO.c (.assign rfl) (VO.go ?_); refine VC.ret ?_; exact VEnd.one rfl evT (pvI (by rw [cmpI, if_pos c9]))
  refine VC.skip (VC.seq (VC.seq (VC.text ?_))); refine VO.c (.move rfl) (VO.c (.move rfl) (VO.c (.gtr) (VO.go ?_))); refine VC.condD rfl (fun c11 => ?_) (fun c11 => ?_)
  · refine VC.seq (VC.text ?_); refine VO.c (.assign rfl) (VO.go ?_); refine VC.ret ?_; exact VEnd.one rfl evT (pvI (by rw [cmpI, if_neg c9, if_pos c11]))
  refine VC.skip (VC.seq (VC.text ?_)); refine VO.c (.assign rfl) (VO.go ?_); refine VC.ret ?_; exact VEnd.one rfl evT (pvI (by rw [cmpI, if_neg c9, if_neg c11]))
theorem zOr_ok {l : List Int} (hl : l.length < 1000000) : VF Tryz.prog OA 164 [.v y25 l] (I (firstE l)) := by
  refine VF.enter Tryz.func164 rfl (fun _ _ => rfl) rfl ?_; show VC _ _ _ _ _ [(0, .v y25 l)] [] _; refine VC.seq (VC.text ?_); refine VO.c (.assign rfl) ?_; refine VO.go (VC.seq (VC.text ?_)); refine VO.c (.assign rfl) ?_; refine VO.go (VC.seq (VC.seq (VC.text ?_))); refine VO.c (.move rfl) ?_; refine VO.r (.len el25) ?_; refine VO.c (.move rfl) ?_; refine VO.go (VC.block ?_); refine VC.keep [(3, I (0 : Int)), (6, .v y25 l), (7, I ((l.length : Nat) : Int)), (8, I ((0 : Nat) : Int))] ⟨rfl, rfl, rfl, rfl, trivial⟩ ?_; refine VC.loop (I := fun kk ff ss => ∃ (j : Nat), kk = l.length - j ∧ ff = [(3, I (0 : Int)), (6, .v y25 l), (7, I ((l.length : Nat) : Int)), (8, I ((j : Nat) : Int))] ∧ ss = [] ∧ (j ≤ l.length) ∧ (firstE l = firstE (l.drop j))) ?_ _ _ _ ⟨0, rfl, rfl, rfl, Nat.zero_le _, (by rfl)⟩; rintro kk ff ss ⟨j, hk0, rfl, rfl, hj, hf⟩; refine VC.seq (VC.text ?_); refine VO.c (.lss) ?_; refine VO.go (VC.seq ?_); refine VC.condD rfl (fun c3 => ?_) (fun c3 => ?_)
  · refine VC.skip (VC.seq (VC.block (VC.seq (VC.text ?_)))); refine VO.c (.ix (j := j) rfl rfl el25 (by omega)) ?_; refine VO.r (.ld vt3) ?_; refine VO.c (.assign rfl) ?_; refine VO.go (VC.seq (VC.text ?_)); refine VO.c (.move rfl) (VO.c (.move rfl) (VO.c (.neq) (VO.go ?_))); refine VC.condD rfl (fun c5 => ?_) (fun c5 => ?_)
    · refine VC.seq (VC.text ?_); refine VO.c (.move rfl) (VO.c (.assign rfl) (VO.go ?_)); refine VC.ret ?_; exact VEnd.one rfl evT (pvI (by rw [hf, firstE_drop (by omega), if_neg c5]))
    refine VC.skip (VC.text ?_); refine VO.c (.add rfl rfl (by omega)) (VO.c (.move rfl) ?_); refine VO.nil ?_; refine ⟨_, [(3, I (0 : Int)), (6, .v y25 l), (7, I ((l.length : Nat) : Int)), (8, I (((j + 1) : Nat) : Int))], ?_, ⟨rfl, rfl, rfl, rfl, trivial⟩, (j + 1), rfl, rfl, rfl, (by omega), (by rw [hf, firstE_drop (by omega), if_pos (by simpa using c5)])⟩; omega
  refine VC.exit (VC.seq (VC.text ?_)); refine VO.c (.move rfl) (VO.c (.assign rfl) (VO.go ?_)); refine VC.ret ?_; exact VEnd.one rfl evT (pvI (by rw [hf, firstE_end (by omega)]))
def cmpL : List Int → List Int → Int
  | [], [] => 0
  | [], _ :: _ => -1
  | _ :: _, [] => 1
  | a :: x, b :: y => if cmpI a b ≠ 0 then cmpI a b else cmpL x y
theorem cmpL_r {x y : List Int} {i : Nat} (hx : i < x.length) (hy : y.length ≤ i) : cmpL (x.drop i) (y.drop i) = 1 := by
  rw [List.drop_eq_getElem_cons hx, List.drop_eq_nil_of_le hy] <;> rfl
theorem cmpL_s {x y : List Int} {i : Nat} (hx : i < x.length) (hy : i < y.length) : cmpL (x.drop i) (y.drop i) = if cmpI x[i] y[i] ≠ 0 then cmpI x[i] y[i] else cmpL (x.drop (i + 1)) (y.drop (i + 1)) := by
  rw [List.drop_eq_getElem_cons hx, List.drop_eq_getElem_cons hy] <;> rfl
theorem cmpL_l {x y : List Int} {i : Nat} (hx : x.length ≤ i) : cmpL (x.drop i) (y.drop i) = if i < y.length then -1 else 0 := by
  rw [List.drop_eq_nil_of_le hx]; by_cases h : i < y.length
  · rw [if_pos h, List.drop_eq_getElem_cons h] <;> rfl
  rw [if_neg h, List.drop_eq_nil_of_le (by omega)] <;> rfl
theorem zCompareI_ok {x : List Int} {y : List Int} (hx : x.length < 1000000) (hy : y.length < 1000000) : VF Tryz.prog OA 166 [.v y25 x, .v y25 y] (I (cmpL x y)) := by
  refine VF.enter Tryz.func166 rfl (fun _ _ => rfl) rfl ?_; show VC _ _ _ _ _ [(0, .v y25 x), (1, .v y25 y)] [] _; refine VC.seq (VC.text ?_); refine VO.c (.assign rfl) ?_; refine VO.go (VC.seq (VC.seq (VC.text ?_))); refine VO.c (.move rfl) ?_; refine VO.r (.len el25) ?_; refine VO.c (.move rfl) ?_; refine VO.go (VC.block ?_); refine VC.keep [(0, .v y25 x), (1, .v y25 y), (9, .v y25 x), (10, I ((x.length : Nat) : Int)), (11, I ((0 : Nat) : Int))] ⟨rfl, rfl, rfl, rfl, rfl, trivial⟩ ?_; refine VC.loop (I := fun kk ff ss => ∃ (i : Nat), kk = x.length - i ∧ ff = [(0, .v y25 x), (1, .v y25 y), (9, .v y25 x), (10, I ((x.length : Nat) : Int)), (11, I ((i : Nat) : Int))] ∧ ss = [] ∧ (i ≤ x.length) ∧ (cmpL x y = cmpL (x.drop i) (y.drop i)) ∧ (i ≤ y.length)) ?_ _ _ _ ⟨0, rfl, rfl, rfl, Nat.zero_le _, (by rfl), Nat.zero_le _⟩; rintro kk ff ss ⟨i, hk0, rfl, rfl, hi, hw, hyl⟩; refine VC.seq (VC.text ?_); refine VO.c (.lss) ?_; refine VO.go (VC.seq ?_); refine VC.condD rfl (fun c2 => ?_) (fun c2 => ?_)
  · refine VC.skip (VC.seq (VC.block (VC.seq (VC.text ?_)))); refine VO.c (.move rfl) (VO.c (.ix (j := i) rfl rfl el25 (by omega)) ?_); refine VO.r (.ld vt3) ?_; refine VO.c (.assign rfl) (VO.c (.assign rfl) ?_); refine VO.go (VC.seq (VC.seq (VC.text ?_))); refine VO.c (.move rfl) (VO.c (.move rfl) ?_); refine VO.r (.len el25) ?_; refine VO.c (.geq) (VO.go ?_); refine VC.condD rfl (fun c4 => ?_) (fun c4 => ?_)
    · refine VC.seq (VC.text ?_); refine VO.c (.assign rfl) (VO.go ?_); refine VC.ret ?_; exact VEnd.one rfl evT (pvI (by rw [hw, cmpL_r (by omega) (by omega)]))
    refine VC.skip (VC.seq (VC.text ?_)); refine VO.c (.move rfl) (VO.c (.move rfl) (VO.c (.ix (j := i) rfl rfl el25 (by omega)) ?_)); refine VO.r (.ld vt3) ?_; refine VO.c (.assign rfl) ?_; refine VO.go (VC.seq (VC.text ?_)); refine VO.c (.move rfl) (VO.c (.move rfl) ?_); refine VO.call rfl rfl (VF.call (zCmp_ok )) ?_; refine VO.c (.assign rfl) ?_; refine VO.go (VC.seq (VC.text ?_)); refine VO.c (.move rfl) (VO.c (.neq) (VO.go ?_)); refine VC.condD rfl (fun c8 => ?_) (fun c8 => ?_)
    · refine VC.seq (VC.text ?_); refine VO.c (.move rfl) (VO.c (.assign rfl) (VO.go ?_)); refine VC.ret ?_; exact VEnd.one rfl evT (pvI (by rw [hw, cmpL_s (by omega) (by omega), if_pos c8]))
    refine VC.skip (VC.text ?_); refine VO.c (.add rfl rfl (by omega)) (VO.c (.move rfl) ?_); refine VO.nil ?_; refine ⟨_, [(0, .v y25 x), (1, .v y25 y), (9, .v y25 x), (10, I ((x.length : Nat) : Int)), (11, I (((i + 1) : Nat) : Int))], ?_, ⟨rfl, rfl, rfl, rfl, rfl, trivial⟩, (i + 1), rfl, rfl, rfl, (by omega), (by rw [hw, cmpL_s (by omega) (by omega), if_neg c8]), (by omega)⟩; omega
  refine VC.exit (VC.seq (VC.seq (VC.text ?_))); refine VO.c (.move rfl) ?_; refine VO.r (.len el25) ?_; refine VO.c (.move rfl) ?_; refine VO.r (.len el25) ?_; refine VO.c (.lss) (VO.go ?_); refine VC.condD rfl (fun c11 => ?_) (fun c11 => ?_)
  · refine VC.seq (VC.text ?_); refine VO.c (.assign rfl) (VO.go ?_); refine VC.ret ?_; exact VEnd.one rfl evT (pvI (by rw [hw, cmpL_l (by omega), if_pos (by omega)]))
  refine VC.skip (VC.seq (VC.text ?_)); refine VO.c (.assign rfl) (VO.go ?_); refine VC.ret ?_; exact VEnd.one rfl evT (pvI (by rw [hw, cmpL_l (by omega), if_neg (by omega)]))
theorem zClonePa_ok {l : List (Int × Int)} (hl : l.length < 100000) : VFG Tryz.prog OA 185 [.v y59 l] [] (fun r g => ∃ w, r = .raw w ∧ g = [(w, .row 111 y111 l)]) := by
  refine VFG.enter Tryz.func185 rfl (fun _ _ => rfl) rfl ?_; show VC _ _ _ _ _ [(0, .v y59 l)] [] _; refine VC.seq (VC.text ?_); refine VO.c (.assign rfl) ?_; refine VO.go (VC.seq (VC.seq (VC.text ?_))); refine VO.c (.move rfl) ?_; refine VO.isnil (e := 111) rfl rfl (by kernel_rfl) (by kernel_rfl) (fun h1_1 => ?_) ?_
  · refine VO.go ?_; refine VC.condT rfl ?_; refine VC.seq (VC.text ?_); refine VO.c (.assign rfl) (VO.go ?_); refine VC.cell0 111 y111 ?_; refine VC.ret ?_; simp only [thenV]; exact VEndG.row rfl evT ⟨(.slice none 0 0), rfl, (by rw [h1_1])⟩
  refine VO.go ?_; refine VC.condF rfl ?_; refine VC.skip (VC.seq (VC.text ?_)); refine VO.cell (.lit0 el59) ?_; intro ww1; refine VO.c (.move rfl) ?_; refine VO.app rfl rfl el59 el59 (by simp; omega) ?_; intro ww2; refine VO.c (.assign rfl) (VO.go ?_); refine VC.ret ?_; exact VEndG.row rfl evT ⟨ww2, rfl, (by rfl)⟩
theorem cSet1_ok {p : Int × Int} : VF Tryz.prog OA 189 [.v y111 p] (I p.1) := by
  refine VF.enter Tryz.func189 rfl (fun _ _ => rfl) rfl ?_; show VC _ _ _ _ _ [(0, .v y111 p)] [] _; refine VC.seq (VC.text ?_); refine VO.new (.box) ?_; refine VO.c (.assign rfl) ?_; refine VO.go (VC.seq (VC.text ?_)); refine VO.c (.fa (.l .o)) ?_; refine VO.r (.ld vt3) ?_; refine VO.c (.assign rfl) (VO.go ?_); refine VC.ret ?_; exact VEnd.one rfl evT (pvI (by rfl))
theorem cMapPI_ok {F : Int × Int → Int} {l : List (Int × Int)} {f : PV} (hl : l.length < 100000) (hf : ∀ x ∈ l, VCall Tryz.prog OA f [.v y111 x] (I (F x))) : VF Tryz.prog OA 188 [.v y59 l, f] (.v y25 (l.map F)) := by
  refine VF.enter Tryz.func188 rfl (fun _ _ => rfl) rfl ?_; show VC _ _ _ _ _ [(0, .v y59 l), (1, f)] [] _; refine VC.seq (VC.text ?_); refine VO.c (.assign rfl) ?_; refine VO.go (VC.seq (VC.text ?_)); refine VO.c (.assign rfl) ?_; refine VO.go (VC.seq (VC.seq (VC.text ?_))); refine VO.c (.move rfl) ?_; refine VO.r (.len el59) ?_; refine VO.c (.move rfl) ?_; refine VO.go (VC.block ?_); refine VC.cell0 3 (.int .i64) ?_; refine VC.keep [(1, f), (5, .raw (.slice none 0 0)), (8, .v y59 l), (9, I ((l.length : Nat) : Int)), (10, I ((0 : Nat) : Int))] ⟨rfl, rfl, rfl, rfl, rfl, trivial⟩ ?_; refine VC.loop (I := fun kk ff ss => ∃ (j : Nat) (out : Value), kk = l.length - j ∧ ff = [(1, f), (5, .raw out), (8, .v y59 l), (9, I ((l.length : Nat) : Int)), (10, I ((j : Nat) : Int))] ∧ ss = [(out, .row 3 (.int .i64) ((l.take j).map F))] ∧ (j ≤ l.length)) ?_ _ _ _ ⟨0, (.slice none 0 0), rfl, rfl, rfl, Nat.zero_le _⟩; rintro kk ff ss ⟨j, out, hk0, rfl, rfl, hj⟩; refine VC.seq (VC.text ?_); refine VO.c (.lss) ?_; refine VO.go (VC.seq ?_); refine VC.condD rfl (fun c3 => ?_) (fun c3 => ?_)
  · refine VC.skip (VC.seq (VC.block (VC.seq (VC.text ?_)))); refine VO.c (.ix (j := j) rfl rfl el59 (by omega)) ?_; refine VO.r (.ld vt111) ?_; refine VO.cell (.alloc zt111) ?_; intro ww3; refine VO.setV (cs' := [I ((l[j]).1), I ((l[j]).2)]) vt111 .v ?_; refine VO.shut [(7, .p y111 (l[j]))] (.cons rfl (.var m0 .refl) .nil) ?_; refine VO.go (VC.text ?_); refine VO.c (.move rfl) (VO.c (.move rfl) ?_); refine VO.r (.ld vt111) ?_; refine VO.call rfl rfl ((hf _ (List.getElem_mem _)) ) ?_; refine VO.new (.lit [F (l[j])] el25) ?_; refine VO.app rfl rfl el25 el25 (by simp; omega) ?_; intro ww4; refine VO.c (.assign rfl) ?_; refine VO.nil (VC.text ?_); refine VO.c (.add rfl rfl (by omega)) (VO.c (.move rfl) ?_); refine VO.nil ?_; refine ⟨_, [(1, f), (5, .raw ww4), (8, .v y59 l), (9, I ((l.length : Nat) : Int)), (10, I (((j + 1) : Nat) : Int))], ?_, ⟨rfl, rfl, rfl, rfl, rfl, trivial⟩, (j + 1), ww4, rfl, rfl, (by rw [List.take_succ_eq_append_getElem (by omega), List.map_append] <;> rfl), (by omega)⟩; omega
  refine VC.exit (VC.seq (VC.text ?_)); refine VO.c (.move rfl) (VO.c (.assign rfl) (VO.go ?_)); refine VC.ret ?_; exact VEnd.one rfl (evC (.row m0)) (pvE (by rw [List.take_of_length_le (by omega)]))
def choL (F : Int → Bool) (n : Nat) : List Int := ((List.range n).map fun i => ((i : Nat) : Int)).filter F
theorem choL_succ {F : Int → Bool} {n : Nat} : choL F (n + 1) = if F ((n : Nat) : Int) = true then choL F n ++ [((n : Nat) : Int)] else choL F n := by
  unfold choL; rw [List.range_succ, List.map_append, List.filter_append]; by_cases h : F ((n : Nat) : Int) = true
  · rw [if_pos h]; simp [h]
  rw [if_neg h]; simp [h]
theorem choL_len {F : Int → Bool} {n : Nat} : (choL F n).length ≤ n := by
  have := List.length_filter_le F ((List.range n).map fun i => ((i : Nat) : Int)); unfold choL; simpa using this
theorem cChosen_ok {F : Int → Bool} {l : List (ByteArray × Int × Int × Int × Int)} {f : PV} (hl : l.length < 100000) (hf : ∀ i : Nat, i < l.length → VCall Tryz.prog OA f [I ((i : Nat) : Int)] (B (F ((i : Nat) : Int)))) : VF Tryz.prog OA 119 [.v y62 l, f] (.v y25 (choL F l.length)) := by
  refine VF.enter Tryz.func119 rfl (fun _ _ => rfl) rfl ?_; show VC _ _ _ _ _ [(0, .v y62 l), (1, f)] [] _; refine VC.seq (VC.text ?_); refine VO.c (.assign rfl) ?_; refine VO.go (VC.seq (VC.text ?_)); refine VO.c (.assign rfl) ?_; refine VO.go (VC.seq (VC.seq (VC.text ?_))); refine VO.c (.move rfl) ?_; refine VO.r (.len el62) ?_; refine VO.c (.move rfl) ?_; refine VO.go (VC.block ?_); refine VC.cell0 3 (.int .i64) ?_; refine VC.keep [(1, f), (5, .raw (.slice none 0 0)), (8, I ((l.length : Nat) : Int)), (9, I ((0 : Nat) : Int))] ⟨rfl, rfl, rfl, rfl, trivial⟩ ?_; refine VC.loop (I := fun kk ff ss => ∃ (i : Nat) (out : Value), kk = l.length - i ∧ ff = [(1, f), (5, .raw out), (8, I ((l.length : Nat) : Int)), (9, I ((i : Nat) : Int))] ∧ ss = [(out, .row 3 (.int .i64) (choL F i))] ∧ (i ≤ l.length)) ?_ _ _ _ ⟨0, (.slice none 0 0), rfl, rfl, rfl, Nat.zero_le _⟩; rintro kk ff ss ⟨i, out, hk0, rfl, rfl, hi⟩; refine VC.seq (VC.text ?_); refine VO.c (.lss) ?_; refine VO.go (VC.seq ?_); refine VC.condD rfl (fun c3 => ?_) (fun c3 => ?_)
  · have hcl := choL_len (F := F) (n := i); refine VC.skip (VC.seq (VC.block (VC.seq (VC.text ?_)))); refine VO.c (.move rfl) (VO.c (.assign rfl) ?_); refine VO.go (VC.seq (VC.text ?_)); refine VO.c (.move rfl) (VO.c (.move rfl) ?_); refine VO.call rfl rfl ((hf i (by omega)) ) ?_; refine VO.go ?_; refine VC.condB rfl (fun c5 => ?_) (fun c5 => ?_)
    · refine VC.text ?_; refine VO.c (.move rfl) (VO.c (.move rfl) ?_); refine VO.new (.lit [((i : Nat) : Int)] el25) ?_; refine VO.app rfl rfl el25 el25 (by simp; omega) ?_; intro ww5; refine VO.c (.assign rfl) ?_; refine VO.nil (VC.text ?_); refine VO.c (.add rfl rfl (by omega)) (VO.c (.move rfl) ?_); refine VO.nil ?_; refine ⟨_, [(1, f), (5, .raw ww5), (8, I ((l.length : Nat) : Int)), (9, I (((i + 1) : Nat) : Int))], ?_, ⟨rfl, rfl, rfl, rfl, trivial⟩, (i + 1), ww5, rfl, rfl, (by rw [choL_succ]; first | (rw [if_pos c5]; done) | (rw [if_neg (by rw [c5]; decide)]; done)), (by omega)⟩; omega
    refine VC.skip (VC.text ?_); refine VO.c (.add rfl rfl (by omega)) (VO.c (.move rfl) ?_); refine VO.nil ?_; refine ⟨_, [(1, f), (5, .raw out), (8, I ((l.length : Nat) : Int)), (9, I (((i + 1) : Nat) : Int))], ?_, ⟨rfl, rfl, rfl, rfl, trivial⟩, (i + 1), out, rfl, rfl, (by rw [choL_succ]; first | (rw [if_pos c5]; done) | (rw [if_neg (by rw [c5]; decide)]; done)), (by omega)⟩; omega
  refine VC.exit (VC.seq (VC.text ?_)); refine VO.c (.move rfl) (VO.c (.assign rfl) (VO.go ?_)); refine VC.ret ?_; exact VEnd.one rfl (evC (.row m0)) (pvE (by rw [show i = l.length by omega]))
theorem rLateS_ok {l : List (ByteArray × Int × Int × Int × Int)} {clear : Int} (hl : l.length < 100000) (hok : ShpOk l) : VF Tryz.prog OA 49 [.v y57 l, I clear] (.v y25 (choL (fun i => decide (clear < (shA l i.toNat).2.1 + (shA l i.toNat).2.2.1)) l.length)) := by
  refine VF.enter Tryz.func49 rfl (fun _ _ => rfl) rfl ?_; show VC _ _ _ _ _ [(0, .v y57 l), (1, I clear)] [] _; refine VC.seq (VC.text ?_); refine VO.c (.assign rfl) ?_; refine VO.go (VC.seq (VC.text ?_)); refine VO.c (.assign rfl) ?_; refine VO.go (VC.seq (VC.seq (VC.text ?_))); refine VO.c (.assign rfl) ?_; refine VO.go (VC.block ?_); refine VC.cell0 3 (.int .i64) ?_; refine VC.keep [(0, .v y57 l), (1, I clear), (5, .raw (.slice none 0 0)), (6, I ((0 : Nat) : Int))] ⟨rfl, rfl, rfl, rfl, trivial⟩ ?_; refine VC.loop (I := fun kk ff ss => ∃ (i : Nat) (out : Value), kk = l.length - i ∧ ff = [(0, .v y57 l), (1, I clear), (5, .raw out), (6, I ((i : Nat) : Int))] ∧ ss = [(out, .row 3 (.int .i64) (choL (fun i => decide (clear < (shA l i.toNat).2.1 + (shA l i.toNat).2.2.1)) i))] ∧ (i ≤ l.length)) ?_ _ _ _ ⟨0, (.slice none 0 0), rfl, rfl, rfl, Nat.zero_le _⟩; rintro kk ff ss ⟨i, out, hk0, rfl, rfl, hi⟩; refine VC.seq (VC.seq (VC.text ?_)); refine VO.c (.move rfl) (VO.c (.move rfl) ?_); refine VO.r (.len el57) ?_; refine VO.c (.lss) (VO.go ?_); refine VC.condD rfl (fun c3 => ?_) (fun c3 => ?_)
  · have hlt : i < l.length := by omega
    have hcl := choL_len (F := fun i => decide (clear < (shA l i.toNat).2.1 + (shA l i.toNat).2.2.1)) (n := i); have ha := hok.arr i; have hg := hok.lng i; rw [shA_eq hlt] at ha hg; refine VC.skip (VC.seq (VC.block (VC.seq (VC.drawn ?_)))); refine VD.c (.move rfl) (VD.c (.move rfl) (VD.c (.ix (j := i) rfl rfl el57 (by omega)) (VD.c (.fa (.r (.l .o))) ?_))); refine VD.r [] (.ld vt3) (.inl rfl) ?_; refine VD.c (.move rfl) (VD.nw [] (VD.c (.move rfl) (VD.c (.ix (j := i) rfl rfl el57 (by omega)) ?_))); refine VD.c (.fa (.r (.r (.l .o)))) ?_; refine VD.r [] (.ld vt3) (.inl rfl) ?_; refine VD.c (.add rfl rfl (by omega)) (VD.c (.move rfl) (VD.c (.gtr) (VD.go ?_))); refine VC.condD rfl (fun c5 => ?_) (fun c5 => ?_)
    · refine VC.text ?_; refine VO.c (.move rfl) (VO.c (.move rfl) ?_); refine VO.new (.lit [((i : Nat) : Int)] el25) ?_; refine VO.app rfl rfl el25 el25 (by simp; omega) ?_; intro ww6; refine VO.c (.assign rfl) ?_; refine VO.nil (VC.text ?_); refine VO.c (.move rfl) (VO.c (.add rfl rfl (by omega)) (VO.c (.assign rfl) ?_)); refine VO.nil ?_; refine ⟨_, [(0, .v y57 l), (1, I clear), (5, .raw ww6), (6, I (((i + 1) : Nat) : Int))], ?_, ⟨rfl, rfl, rfl, rfl, trivial⟩, (i + 1), ww6, rfl, rfl, (by rw [choL_succ, Int.toNat_natCast, shA_eq hlt]; first | (rw [if_pos (decide_eq_true c5)]; done) | (rw [if_neg (fun h => c5 (of_decide_eq_true h))]; done)), (by omega)⟩; omega
    refine VC.skip (VC.text ?_); refine VO.c (.move rfl) (VO.c (.add rfl rfl (by omega)) (VO.c (.assign rfl) ?_)); refine VO.nil ?_; refine ⟨_, [(0, .v y57 l), (1, I clear), (5, .raw out), (6, I (((i + 1) : Nat) : Int))], ?_, ⟨rfl, rfl, rfl, rfl, trivial⟩, (i + 1), out, rfl, rfl, (by rw [choL_succ, Int.toNat_natCast, shA_eq hlt]; first | (rw [if_pos (decide_eq_true c5)]; done) | (rw [if_neg (fun h => c5 (of_decide_eq_true h))]; done)), (by omega)⟩; omega
  refine VC.exit (VC.seq (VC.text ?_)); refine VO.c (.move rfl) (VO.c (.assign rfl) (VO.go ?_)); refine VC.ret ?_; exact VEnd.one rfl (evC (.row m0)) (pvE (by rw [show i = l.length by omega]))
theorem cLate1_ok {i : Int} {l : List (ByteArray × Int × Int × Int × Int)} {clear : Int} (h0 : 0 ≤ i) (h1 : i < ((l.length : Nat) : Int)) (hok : ShpOk l) : VF Tryz.prog OA 123 [I i, .p y62 l, .p (.int .i64) clear] (B (decide (clear < (shA l i.toNat).2.1 + (shA l i.toNat).2.2.1))) := by
  refine VF.enter Tryz.func123 rfl (fun _ _ => rfl) rfl ?_; show VC _ _ _ _ _ [(0, I i), (1, .p y62 l), (2, .p (.int .i64) clear)] [] _; refine VC.seq (VC.text ?_); refine VO.c (.assign rfl) ?_; refine VO.go (VC.seq (VC.drawn ?_)); have ha := hok.arr i.toNat; have hg := hok.lng i.toNat; have hsa : shA l i.toNat = l[i.toNat]'(by omega) := shA_eq (by omega); rw [hsa] at ha hg; refine VD.r [] (.ld vt62) (.inl rfl) ?_; refine VD.c (.move rfl) (VD.c (.ixZ (k := i) rfl rfl el62 (by omega) (by omega)) (VD.c (.fa (.r (.l .o))) ?_)); refine VD.r [] (.ld vt3) (.inl rfl) ?_; refine VD.r [] (.ld vt62) (.inl rfl) ?_; refine VD.nw [] (VD.c (.move rfl) (VD.c (.ixZ (k := i) rfl rfl el62 (by omega) (by omega)) (VD.c (.fa (.r (.r (.l .o)))) ?_))); refine VD.r [] (.ld vt3) (.inl rfl) ?_; refine VD.c (.add rfl rfl (by omega)) ?_; refine VD.r [] (.ld vt3) (.inl rfl) ?_; refine VD.c (.gtr) (VD.nw [] (VD.c (.assign rfl) (VD.go ?_))); refine VC.ret ?_; exact VEnd.one rfl evT (pvE (by rw [hsa]))
end Go.Proofs
namespace Go.Proofs
open Go.Fs
set_option maxHeartbeats 1000000
abbrev y171 : Ty := (.pair (.sl (.pair (.int .i64) (.int .i64))) (.pair (.int .i64) (.int .i64)))
theorem vt59 : ValT Tryz.prog 59 y59 := valT_of (by kernel_rfl)
theorem vt171 : ValT Tryz.prog 171 y171 := valT_of (by kernel_rfl)
abbrev sortE (l : List (Int × Int)) : List (Int × Int) := Go.Fs.sortG (τ := .pair (.int .i64) (.int .i64)) cmpE l
theorem sortE_sorted (l : List (Int × Int)) : (sortE l).Pairwise fun a b => a.1 ≤ b.1 :=
  (Go.Fs.sortG_sorted (τ := .pair (.int .i64) (.int .i64)) swoE l).imp fun {a b} h => by rw [ltE] at h; simp at h; exact h
theorem sortE_perm (l : List (Int × Int)) : (sortE l).Perm l := Go.Fs.sortG_perm (τ := .pair (.int .i64) (.int .i64)) swoE l
theorem zSortPa_ok {w_l : Value} {l : List (Int × Int)} (hl : l.length ≤ 1000000) : VFG Tryz.prog OA 186 [.raw w_l, .clo 187 [] []] [(w_l, .row 111 (.pair (.int .i64) (.int .i64)) l)] (fun r g => r = .tup [] ∧ g = [(w_l, .row 111 (.pair (.int .i64) (.int .i64)) (sortE l))]) := VFG.sortG (τ := .pair (.int .i64) (.int .i64)) rfl (by decide) swoE hl
def setL (p : List (Int × Int)) : List Int := (sortE p).map (·.1)
theorem bub_perm {o : List Int} {y : Int} : ∀ k, (bubK o y k).Perm (y :: o)
  | 0 => .refl _
  | k + 1 => by
    unfold bubK; split
    · exact bub_perm k
    have h := List.perm_middle (a := y) (l₁ := o.take (k + 1)) (l₂ := o.drop (k + 1))
    rwa [List.take_append_drop] at h
theorem bub_sorted {o : List Int} {y : Int} (hs : o.Pairwise (· ≤ ·)) : ∀ k, k ≤ o.length → (∀ z ∈ o.drop k, y ≤ z) → (bubK o y k).Pairwise (· ≤ ·)
  | 0, _, h2 => List.pairwise_cons.2 ⟨h2, hs⟩
  | k + 1, hk, h2 => by
    have hg : o.getD k 0 = o[k] := getDg (by omega); unfold bubK; split
    · rename_i hy; refine bub_sorted hs k (by omega) fun z hz => ?_; rw [List.drop_eq_getElem_cons (show k < o.length by omega)] at hz; rcases List.mem_cons.1 hz with rfl | hz
      · rw [hg] at hy; omega
      exact h2 z hz
    rename_i hy; rw [hg] at hy; have hs2 := hs; rw [← List.take_append_drop (k + 1) o, List.pairwise_append] at hs2; refine List.pairwise_append.2 ⟨hs2.1, List.pairwise_cons.2 ⟨h2, hs2.2.1⟩, fun a ha b hb => ?_⟩; rcases List.mem_cons.1 hb with rfl | hb
    · obtain ⟨j, hj, rfl⟩ := List.mem_iff_getElem.1 ha; rw [List.length_take] at hj; rw [List.getElem_take]; by_cases e : j = k
      · subst e; omega
      have := List.pairwise_iff_getElem.1 hs j k (by omega) (by omega) (by omega); omega
    exact hs2.2.2 a ha b hb
theorem shpL_sorted {p : List (Int × Int)} : ∀ i, (shpL p i).Pairwise (· ≤ ·)
  | 0 => List.Pairwise.nil
  | i + 1 => bub_sorted (shpL_sorted i) _ (Nat.le_refl _) fun z hz => by rw [List.drop_length] at hz; cases hz
theorem shpL_perm {p : List (Int × Int)} : ∀ i, i ≤ p.length → (shpL p i).Perm ((p.take i).map (·.1))
  | 0, _ => by simp [shpL]
  | i + 1, h => by
    rw [shpL, List.take_succ_eq_append_getElem (by omega), List.map_append, paA_eq (by omega)]; refine (bub_perm _).trans ?_; refine (List.Perm.cons _ (shpL_perm i (by omega))).trans ?_; exact (List.perm_append_comm (l₁ := [p[i].1]))
theorem set_shp {p : List (Int × Int)} : setL p = shpL p p.length := by
  have h1 : (setL p).Pairwise (· ≤ ·) := List.pairwise_map.2 (sortE_sorted p); have h2 := shpL_sorted (p := p) p.length
  have h3 : (setL p).Perm (shpL p p.length) := by
    have := shpL_perm (p := p) p.length (Nat.le_refl _); rw [List.take_length] at this; exact ((sortE_perm p).map _).trans this.symm
  exact h3.eq_of_pairwise (fun a b _ _ h h' => Int.le_antisymm h h') h1 h2
theorem setL_len {p : List (Int × Int)} : (setL p).length = p.length := by rw [set_shp, shpL_len]
theorem cSet_ok {r : (List (Int × Int)) × Int × Int} (hl : r.1.length < 100000) : VF Tryz.prog OA 167 [.v y171 r] (.v y25 (setL r.1)) := by
  refine VF.enter Tryz.func167 rfl (fun _ _ => rfl) rfl ?_; show VC _ _ _ _ _ [(0, .v y171 r)] [] _; refine VC.seq (VC.text ?_); refine VO.new (.box) ?_; refine VO.c (.assign rfl) ?_; refine VO.go (VC.seq (VC.text ?_)); refine VO.c (.fa (.l .o)) ?_; refine VO.r (.ld vt59) ?_; refine VO.callG [] rfl rfl rfl (VFG.call (zClonePa_ok hl)) ?_; rintro _ _ ⟨ww1, rfl, rfl⟩; show VO _ _ _ _ _ _ [(ww1, .row 111 y111 r.1)] _; refine VO.c (.assign rfl) ?_; refine VO.go (VC.seq (VC.text ?_)); refine VO.c (.move rfl) ?_; refine VO.callG [(ww1, .row 111 y111 r.1)] rfl rfl rfl (VFG.call (zSortPa_ok (by omega))) ?_; rintro _ _ ⟨rfl, rfl⟩; show VO _ _ _ _ _ _ [(ww1, .row 111 y111 (sortE r.1))] _; refine VO.go (VC.seq (VC.text ?_)); refine VO.c (.move rfl) ?_; refine VO.shut [(3, .v y59 (sortE r.1)), (6, .v y59 (sortE r.1)), (7, .v y59 (sortE r.1)), (9, .v y59 (sortE r.1))] (.cons rfl (.row m0) (.cons rfl (.row m0) (.cons rfl (.row m0) (.cons rfl (.row m0) .nil)))) ?_; refine VO.call rfl rfl (VF.call (cMapPI_ok (F := fun p => p.1) (by have h := (sortE_perm r.1).length_eq; rw [h]; exact hl) (fun _ _ => VF.call cSet1_ok))) ?_; refine VO.c (.assign rfl) (VO.go ?_); refine VC.ret ?_; exact VEnd.one rfl evT (pvE (by rfl))
def betC (r o : List (Int × Int) × Int × Int) : Bool := decide (firstE [cmpI o.2.1 r.2.1, cmpL (setL r.1) (setL o.1), cmpI r.2.2 o.2.2] < 0)
theorem cBetter_ok {r : (List (Int × Int)) × Int × Int} {o : (List (Int × Int)) × Int × Int} (hr : r.1.length < 100000) (ho : o.1.length < 100000) : VF Tryz.prog OA 152 [.v y171 r, .v y171 o] (B (betC r o)) := by
  refine VF.enter Tryz.func152 rfl (fun _ _ => rfl) rfl ?_; show VC _ _ _ _ _ [(0, .v y171 r), (1, .v y171 o)] [] _; refine VC.seq (VC.text ?_); refine VO.new (.box) ?_; refine VO.new (.box) ?_; refine VO.c (.assign rfl) ?_; refine VO.go (VC.seq (VC.drawn ?_)); refine VD.c (.fa (.r (.l .o))) ?_; refine VD.r [] (.ld vt3) (.inl rfl) ?_; refine VD.c (.fa (.r (.l .o))) ?_; refine VD.r [] (.ld vt3) (.inl rfl) ?_; refine VD.call rfl rfl (VF.call (zCmp_ok )) ?_; refine VD.r [] (.ld vt171) (.inl rfl) ?_; refine VD.nw [] ?_; refine VD.call rfl rfl (VF.call (cSet_ok hr)) ?_; refine VD.r [] (.ld vt171) (.inl rfl) ?_; refine VD.call rfl rfl (VF.call (cSet_ok ho)) ?_; refine VD.callO rfl rfl (VF.call (zCompareI_ok (by rw [setL_len]; omega) (by rw [setL_len]; omega))) ?_; refine VD.c (.fa (.r (.r .o))) ?_; refine VD.r [] (.ld vt3) (.inl rfl) ?_; refine VD.c (.fa (.r (.r .o))) (VD.nw [13, 11] ?_); refine VD.r [] (.ld vt3) (.inl rfl) ?_; refine VD.call rfl rfl (VF.call (zCmp_ok )) ?_; refine VD.new (.lit [cmpI o.2.1 r.2.1, cmpL (setL r.1) (setL o.1), cmpI r.2.2 o.2.2] el25) ?_; refine VD.callO rfl rfl (VF.call (zOr_ok (by simp))) ?_; refine VD.c (.lss) (VD.c (.assign rfl) (VD.go ?_)); refine VC.ret ?_; exact VEnd.one rfl evT (pvE (by rfl))
end Go.Proofs
namespace Go.Fs
variable {P : Program} {fl : VL} {σ : Sto} {x : Operand} {T : TypeId}
end Go.Fs
namespace Go.Proofs
open Go.Fs
set_option maxHeartbeats 1000000
abbrev y213 : Ty := (.sl (.sl (.pair (.int .i64) (.int .i64))))
theorem el213 : ElT Tryz.prog 213 59 y59 := elT_of (by kernel_rfl)
theorem flat_le {α : Type} {l : List (List α)} (j : Nat) : (l.take j).flatten.length ≤ l.flatten.length := by
  have : l.flatten = (l.take j).flatten ++ (l.drop j).flatten := by rw [← List.flatten_append, List.take_append_drop]
  rw [this, List.length_append]; omega
theorem flat_succ {α : Type} {l : List (List α)} {j : Nat} (hj : j < l.length) : (l.take (j + 1)).flatten = (l.take j).flatten ++ l[j] := by
  rw [List.take_succ_eq_append_getElem hj, List.flatten_append]; simp
theorem zGrowPa_ok {n : Nat} (h0 : 0 < n) (h1 : n ≤ 1000000) : VFG Tryz.prog OA 163 [nilV, I ((n : Nat) : Int)] [] (fun r g => ∃ w, r = .raw w ∧ g = [(w, .cap 111 n y111 [])]) := by
  refine VFG.enter Tryz.func163 rfl (fun _ _ => rfl) rfl ?_; show VC _ _ _ _ _ [(0, nilV), (1, I ((n : Nat) : Int))] [] _; refine VC.seq (VC.text ?_); refine VO.c (.assign rfl) ?_; refine VO.go (VC.seq (VC.seq (VC.text ?_))); refine VO.c (.move rfl) (VO.c (.lss) (VO.go ?_)); refine VC.condD rfl (fun c1 => ?_) (fun c1 => ?_)
  · exact absurd c1 (by omega)
  refine VC.skip (VC.seq (VC.seq (VC.text ?_))); refine VO.c (.move rfl) (VO.c (.move rfl) ?_); refine VO.r (.cap0 el59) ?_; refine VO.c (.move rfl) ?_; refine VO.r (.len0 el59) ?_; refine VO.c (.sub rfl rfl (by decide)) (VO.c (.sub rfl rfl (by omega)) (VO.c (.assign rfl) ?_)); refine VO.go (VC.seq (VC.text ?_)); refine VO.c (.move rfl) (VO.c (.gtr) (VO.go ?_)); refine VC.condD rfl (fun c4 => ?_) (fun c4 => ?_)
  · refine VC.text ?_; refine VO.c (.move rfl) (VO.c (.move rfl) ?_); refine VO.r (.cap0 el59) ?_; refine VO.r (.nil0 el59 rfl rfl) ?_; refine VO.c (.move rfl) ?_; refine VO.grow (k := n) rfl (congrArg (fun z : Int => some (PV.v (.int .i64) z)) (show (((n : Nat) : Int) - (((0 : Nat) : Int) - ((0 : Nat) : Int))) = ((n : Nat) : Int) by omega)) el59 (by kernel_rfl) (by omega) (by omega) ?_; intro bb1; refine VO.c (.move rfl) ?_; refine VO.r (.len0 el59) ?_; refine VO.r (.cut0 el59 rfl rfl) ?_; refine VO.c (.assign rfl) ?_; refine VO.go (VC.seq (VC.text ?_)); refine VO.c (.move rfl) (VO.c (.assign rfl) (VO.go ?_)); refine VC.ret ?_; exact VEndG.cap rfl evT m0 ⟨(.slice (some ⟨bb1, 0, none⟩) 0 0), rfl, (by rfl)⟩
  exact absurd (by omega) c4
theorem zConcatPa1_ok {l : List (List (Int × Int))} (hl : l.length < 100000) (h0 : 0 < l.flatten.length) (h1 : l.flatten.length ≤ 1000000) : VFG Tryz.prog OA 151 [.v y213 l] [] (fun r g => ∃ w, r = .raw w ∧ g = [(w, .row 111 y111 l.flatten)]) := by
  refine VFG.enter Tryz.func151 rfl (fun _ _ => rfl) rfl ?_; show VC _ _ _ _ _ [(0, .v y213 l)] [] _; refine VC.seq (VC.text ?_); refine VO.c (.assign rfl) ?_; refine VO.go (VC.seq (VC.text ?_)); refine VO.c (.assign rfl) ?_; refine VO.go (VC.seq (VC.seq (VC.text ?_))); refine VO.c (.move rfl) ?_; refine VO.r (.len el213) ?_; refine VO.c (.move rfl) ?_; refine VO.go (VC.block ?_); refine VC.keep [(0, .v y213 l), (3, I (((l.take 0).flatten.length : Nat) : Int)), (9, .v y213 l), (10, I ((l.length : Nat) : Int)), (11, I ((0 : Nat) : Int))] ⟨rfl, slI rfl (by rfl), rfl, rfl, rfl, trivial⟩ ?_; refine VC.loop (I := fun kk ff ss => ∃ (j : Nat), kk = l.length - j ∧ ff = [(0, .v y213 l), (3, I (((l.take j).flatten.length : Nat) : Int)), (9, .v y213 l), (10, I ((l.length : Nat) : Int)), (11, I ((j : Nat) : Int))] ∧ ss = [] ∧ (j ≤ l.length)) ?_ _ _ _ ⟨0, rfl, rfl, rfl, Nat.zero_le _⟩; rintro kk ff ss ⟨j, hk0, rfl, rfl, hj⟩; refine VC.seq (VC.text ?_); refine VO.c (.lss) ?_; refine VO.go (VC.seq ?_); refine VC.condD rfl (fun c3 => ?_) (fun c3 => ?_)
  · refine VC.skip (VC.seq (VC.block (VC.seq (VC.text ?_)))); refine VO.c (.ix (j := j) rfl rfl el213 (by omega)) ?_; refine VO.r (.ld vt59) ?_; refine VO.c (.assign rfl) ?_; refine VO.go (VC.seq (VC.text ?_)); have hs := flat_le (l := l) (j + 1); rw [flat_succ (by omega), List.length_append] at hs; refine VO.c (.move rfl) (VO.c (.move rfl) ?_); refine VO.r (.len el59) ?_; refine VO.c (.add rfl rfl (by omega)) (VO.c (.assign rfl) ?_); refine VO.go (VC.seq (VC.text ?_)); refine VO.c (.move rfl) (VO.c (.lss) (VO.go ?_)); refine VC.condD rfl (fun c6 => ?_) (fun c6 => ?_)
    · exact absurd c6 (by omega)
    refine VC.skip (VC.text ?_); refine VO.c (.add rfl rfl (by omega)) (VO.c (.move rfl) ?_); refine VO.nil ?_; refine ⟨_, [(0, .v y213 l), (3, I (((l.take (j + 1)).flatten.length : Nat) : Int)), (9, .v y213 l), (10, I ((l.length : Nat) : Int)), (11, I (((j + 1) : Nat) : Int))], ?_, ⟨rfl, slI rfl (by rw [flat_succ (by omega), List.length_append] <;> rfl), rfl, rfl, rfl, trivial⟩, (j + 1), rfl, rfl, rfl, (by omega)⟩; omega
  refine VC.exit (VC.seq (VC.text ?_)); have hjl : l.take j = l := List.take_of_length_le (by omega); refine VO.c (.move rfl) ?_; refine VO.callG [] rfl rfl rfl (VFG.call (zGrowPa_ok (by rw [hjl]; exact h0) (by rw [hjl]; exact h1))) ?_; rintro _ _ ⟨ww2, rfl, rfl⟩; show VO _ _ _ _ _ _ [(ww2, .cap 111 ((l.take j).flatten.length) y111 [])] _; refine VO.c (.assign rfl) ?_; refine VO.go (VC.seq (VC.seq (VC.text ?_))); refine VO.c (.move rfl) ?_; refine VO.r (.len el213) ?_; refine VO.c (.move rfl) ?_; refine VO.go (VC.block ?_); refine VC.keep [(6, .raw ww2), (25, .v y213 l), (26, I ((l.length : Nat) : Int)), (27, I ((0 : Nat) : Int))] ⟨rfl, rfl, rfl, rfl, trivial⟩ ?_; refine VC.loop (I := fun kk ff ss => ∃ (i : Nat) (out : Value), kk = l.length - i ∧ ff = [(6, .raw out), (25, .v y213 l), (26, I ((l.length : Nat) : Int)), (27, I ((i : Nat) : Int))] ∧ ss = [(out, .cap 111 ((l.take j).flatten.length) y111 ((l.take i).flatten))] ∧ (i ≤ l.length)) ?_ _ _ _ ⟨0, ww2, rfl, rfl, rfl, Nat.zero_le _⟩; rintro kk ff ss ⟨i, out, hk2, rfl, rfl, hi⟩; refine VC.seq (VC.text ?_); refine VO.c (.lss) ?_; refine VO.go (VC.seq ?_); refine VC.condD rfl (fun c11 => ?_) (fun c11 => ?_)
  · refine VC.skip (VC.seq (VC.block (VC.seq (VC.text ?_)))); refine VO.c (.ix (j := i) rfl rfl el213 (by omega)) ?_; refine VO.r (.ld vt59) ?_; refine VO.c (.assign rfl) ?_; refine VO.go (VC.text ?_); have hs := flat_le (l := l) (i + 1); rw [flat_succ (by omega), List.length_append] at hs; refine VO.c (.move rfl) (VO.c (.move rfl) ?_); refine VO.appC rfl rfl el59 el59 (by rw [hjl]; exact hs) (by rw [hjl]; exact h1) ?_; intro ww3; refine VO.c (.assign rfl) ?_; refine VO.nil (VC.text ?_); refine VO.c (.add rfl rfl (by omega)) (VO.c (.move rfl) ?_); refine VO.nil ?_; refine ⟨_, [(6, .raw ww3), (25, .v y213 l), (26, I ((l.length : Nat) : Int)), (27, I (((i + 1) : Nat) : Int))], ?_, ⟨rfl, rfl, rfl, rfl, trivial⟩, (i + 1), ww3, rfl, rfl, (by rw [flat_succ (by omega)] <;> rfl), (by omega)⟩; omega
  refine VC.exit (VC.seq ?_); refine VC.capRow (by rw [hjl, List.take_of_length_le (by omega)]) ?_; refine VC.text ?_; refine VO.c (.move rfl) (VO.c (.assign rfl) (VO.go ?_)); refine VC.ret ?_; exact VEndG.row rfl evT ⟨out, rfl, (by rw [List.take_of_length_le (by omega)])⟩
theorem zGrowPa0_ok {n : Nat} (h0 : n = 0) : VF Tryz.prog OA 163 [nilV, I ((n : Nat) : Int)] (nilV) := by
  refine VF.enter Tryz.func163 rfl (fun _ _ => rfl) rfl ?_; show VC _ _ _ _ _ [(0, nilV), (1, I ((n : Nat) : Int))] [] _; refine VC.seq (VC.text ?_); refine VO.c (.assign rfl) ?_; refine VO.go (VC.seq (VC.seq (VC.text ?_))); refine VO.c (.move rfl) (VO.c (.lss) (VO.go ?_)); refine VC.condD rfl (fun c1 => ?_) (fun c1 => ?_)
  · exact absurd c1 (by omega)
  refine VC.skip (VC.seq (VC.seq (VC.text ?_))); refine VO.c (.move rfl) (VO.c (.move rfl) ?_); refine VO.r (.cap0 el59) ?_; refine VO.c (.move rfl) ?_; refine VO.r (.len0 el59) ?_; refine VO.c (.sub rfl rfl (by decide)) (VO.c (.sub rfl rfl (by omega)) (VO.c (.assign rfl) ?_)); refine VO.go (VC.seq (VC.text ?_)); refine VO.c (.move rfl) (VO.c (.gtr) (VO.go ?_)); refine VC.condD rfl (fun c4 => ?_) (fun c4 => ?_)
  · exact absurd c4 (by omega)
  refine VC.skip (VC.seq (VC.text ?_)); refine VO.c (.move rfl) (VO.c (.assign rfl) (VO.go ?_)); refine VC.ret ?_; exact VEnd.one rfl evT rfl
theorem zConcatPa0_ok {l : List (List (Int × Int))} (hl : l.length < 100000) (h0 : l.flatten.length = 0) : VFG Tryz.prog OA 151 [.v y213 l] [] (fun r g => ∃ w, r = .raw w ∧ g = [(w, .row 111 y111 l.flatten)]) := by
  refine VFG.enter Tryz.func151 rfl (fun _ _ => rfl) rfl ?_; show VC _ _ _ _ _ [(0, .v y213 l)] [] _; refine VC.seq (VC.text ?_); refine VO.c (.assign rfl) ?_; refine VO.go (VC.seq (VC.text ?_)); refine VO.c (.assign rfl) ?_; refine VO.go (VC.seq (VC.seq (VC.text ?_))); refine VO.c (.move rfl) ?_; refine VO.r (.len el213) ?_; refine VO.c (.move rfl) ?_; refine VO.go (VC.block ?_); refine VC.keep [(0, .v y213 l), (3, I (((l.take 0).flatten.length : Nat) : Int)), (9, .v y213 l), (10, I ((l.length : Nat) : Int)), (11, I ((0 : Nat) : Int))] ⟨rfl, slI rfl (by rfl), rfl, rfl, rfl, trivial⟩ ?_; refine VC.loop (I := fun kk ff ss => ∃ (j : Nat), kk = l.length - j ∧ ff = [(0, .v y213 l), (3, I (((l.take j).flatten.length : Nat) : Int)), (9, .v y213 l), (10, I ((l.length : Nat) : Int)), (11, I ((j : Nat) : Int))] ∧ ss = [] ∧ (j ≤ l.length)) ?_ _ _ _ ⟨0, rfl, rfl, rfl, Nat.zero_le _⟩; rintro kk ff ss ⟨j, hk0, rfl, rfl, hj⟩; refine VC.seq (VC.text ?_); refine VO.c (.lss) ?_; refine VO.go (VC.seq ?_); refine VC.condD rfl (fun c3 => ?_) (fun c3 => ?_)
  · refine VC.skip (VC.seq (VC.block (VC.seq (VC.text ?_)))); refine VO.c (.ix (j := j) rfl rfl el213 (by omega)) ?_; refine VO.r (.ld vt59) ?_; refine VO.c (.assign rfl) ?_; refine VO.go (VC.seq (VC.text ?_)); have hs := flat_le (l := l) (j + 1); rw [flat_succ (by omega), List.length_append] at hs; refine VO.c (.move rfl) (VO.c (.move rfl) ?_); refine VO.r (.len el59) ?_; refine VO.c (.add rfl rfl (by omega)) (VO.c (.assign rfl) ?_); refine VO.go (VC.seq (VC.text ?_)); refine VO.c (.move rfl) (VO.c (.lss) (VO.go ?_)); refine VC.condD rfl (fun c6 => ?_) (fun c6 => ?_)
    · exact absurd c6 (by omega)
    refine VC.skip (VC.text ?_); refine VO.c (.add rfl rfl (by omega)) (VO.c (.move rfl) ?_); refine VO.nil ?_; refine ⟨_, [(0, .v y213 l), (3, I (((l.take (j + 1)).flatten.length : Nat) : Int)), (9, .v y213 l), (10, I ((l.length : Nat) : Int)), (11, I (((j + 1) : Nat) : Int))], ?_, ⟨rfl, slI rfl (by rw [flat_succ (by omega), List.length_append] <;> rfl), rfl, rfl, rfl, trivial⟩, (j + 1), rfl, rfl, rfl, (by omega)⟩; omega
  refine VC.exit (VC.seq (VC.text ?_)); have hjl : l.take j = l := List.take_of_length_le (by omega); refine VO.c (.move rfl) ?_; refine VO.call rfl rfl (VF.call (zGrowPa0_ok (by rw [hjl]; exact h0))) ?_; refine VO.c (.assign rfl) ?_; refine VO.go (VC.seq (VC.seq (VC.text ?_))); refine VO.c (.move rfl) ?_; refine VO.r (.len el213) ?_; refine VO.c (.move rfl) ?_; refine VO.go (VC.block ?_); refine VC.cell0 111 y111 ?_; refine VC.keep [(6, .raw (.slice none 0 0)), (25, .v y213 l), (26, I ((l.length : Nat) : Int)), (27, I ((0 : Nat) : Int))] ⟨rfl, rfl, rfl, rfl, trivial⟩ ?_; refine VC.loop (I := fun kk ff ss => ∃ (i : Nat) (out : Value), kk = l.length - i ∧ ff = [(6, .raw out), (25, .v y213 l), (26, I ((l.length : Nat) : Int)), (27, I ((i : Nat) : Int))] ∧ ss = [(out, .row 111 y111 ((l.take i).flatten))] ∧ (i ≤ l.length)) ?_ _ _ _ ⟨0, (.slice none 0 0), rfl, rfl, rfl, Nat.zero_le _⟩; rintro kk ff ss ⟨i, out, hk2, rfl, rfl, hi⟩; refine VC.seq (VC.text ?_); refine VO.c (.lss) ?_; refine VO.go (VC.seq ?_); refine VC.condD rfl (fun c11 => ?_) (fun c11 => ?_)
  · refine VC.skip (VC.seq (VC.block (VC.seq (VC.text ?_)))); refine VO.c (.ix (j := i) rfl rfl el213 (by omega)) ?_; refine VO.r (.ld vt59) ?_; refine VO.c (.assign rfl) ?_; refine VO.go (VC.text ?_); have hs := flat_le (l := l) (i + 1); rw [flat_succ (by omega), List.length_append] at hs; refine VO.c (.move rfl) (VO.c (.move rfl) ?_); refine VO.app rfl rfl el59 el59 (by omega) ?_; intro ww4; refine VO.c (.assign rfl) ?_; refine VO.nil (VC.text ?_); refine VO.c (.add rfl rfl (by omega)) (VO.c (.move rfl) ?_); refine VO.nil ?_; refine ⟨_, [(6, .raw ww4), (25, .v y213 l), (26, I ((l.length : Nat) : Int)), (27, I (((i + 1) : Nat) : Int))], ?_, ⟨rfl, rfl, rfl, rfl, trivial⟩, (i + 1), ww4, rfl, rfl, (by rw [flat_succ (by omega)] <;> rfl), (by omega)⟩; omega
  refine VC.exit (VC.seq (VC.text ?_)); refine VO.c (.move rfl) (VO.c (.assign rfl) (VO.go ?_)); refine VC.ret ?_; exact VEndG.row rfl evT ⟨out, rfl, (by rw [List.take_of_length_le (by omega)])⟩
theorem zConcatPa_ok {l : List (List (Int × Int))} (hl : l.length < 100000) (h1 : l.flatten.length ≤ 1000000) : VFG Tryz.prog OA 151 [.v y213 l] [] (fun r g => ∃ w, r = .raw w ∧ g = [(w, .row 111 y111 l.flatten)]) := by
  by_cases h : l.flatten.length = 0
  · exact zConcatPa0_ok hl h
  exact zConcatPa1_ok hl (Nat.pos_of_ne_zero h) h1
def fstB : List Int → List Int → Bool
  | [], [] => false
  | [], _ :: _ => true
  | _ :: _, [] => false
  | a :: x, b :: y => if a ≠ b then decide (a < b) else fstB x y
theorem fstB_cmp : ∀ {x y : List Int}, fstB x y = decide (cmpL x y < 0)
  | [], [] => rfl
  | [], _ :: _ => rfl
  | _ :: _, [] => rfl
  | a :: x, b :: y => by
    unfold fstB cmpL cmpI; by_cases h : a = b
    · subst h; simp only [ne_eq, not_true_eq_false, if_false, Int.lt_irrefl]; exact fstB_cmp
    by_cases h2 : a < b
    · simp [h, h2]
    have h3 : b < a := by omega
    simp [h, h2, h3]
theorem cmpL_zero : ∀ {x y : List Int}, cmpL x y = 0 ↔ x = y
  | [], [] => by simp [cmpL]
  | [], _ :: _ => by simp [cmpL]
  | _ :: _, [] => by simp [cmpL]
  | a :: x, b :: y => by
    unfold cmpL cmpI; by_cases h : a = b
    · subst h; simp only [ne_eq, not_true_eq_false, if_false, Int.lt_irrefl]; rw [cmpL_zero]; simp
    by_cases h2 : a < b
    · simp [h, h2]
    have h3 : b < a := by omega
    simp [h, h2, h3]
theorem fstB_s {x y : List Int} {i : Nat} (hx : i < x.length) (hy : i < y.length) : fstB (x.drop i) (y.drop i) = if x[i] ≠ y[i] then decide (x[i] < y[i]) else fstB (x.drop (i + 1)) (y.drop (i + 1)) := by
  rw [List.drop_eq_getElem_cons hx, List.drop_eq_getElem_cons hy] <;> rfl
theorem fstB_e {x y : List Int} {i : Nat} (h : i = x.length ∨ i = y.length) (hx : i ≤ x.length) (hy : i ≤ y.length) : fstB (x.drop i) (y.drop i) = decide (((x.length : Nat) : Int) < ((y.length : Nat) : Int)) := by
  by_cases h1 : i = x.length
  · rw [List.drop_eq_nil_of_le (by omega)]; by_cases h2 : i < y.length
    · rw [List.drop_eq_getElem_cons h2, decide_eq_true (by omega)] <;> rfl
    rw [List.drop_eq_nil_of_le (by omega), decide_eq_false (by omega)] <;> rfl
  rw [List.drop_eq_getElem_cons (show i < x.length by omega), List.drop_eq_nil_of_le (show y.length ≤ i by omega), decide_eq_false (by omega)] <;> rfl
theorem rFirstL_ok {x : List Int} {y : List Int} (hx : x.length < 100000) (hy : y.length < 100000) : VF Tryz.prog OA 168 [.v y25 x, .v y25 y] (B (fstB x y)) := by
  refine VF.enter Tryz.func168 rfl (fun _ _ => rfl) rfl ?_; show VC _ _ _ _ _ [(0, .v y25 x), (1, .v y25 y)] [] _; refine VC.seq (VC.text ?_); refine VO.c (.assign rfl) ?_; refine VO.go (VC.seq (VC.seq (VC.text ?_))); refine VO.c (.assign rfl) ?_; refine VO.go (VC.block ?_); refine VC.keep [(0, .v y25 x), (1, .v y25 y), (5, I ((0 : Nat) : Int))] ⟨rfl, rfl, rfl, trivial⟩ ?_; refine VC.loop (I := fun kk ff ss => ∃ (i : Nat), kk = x.length - i ∧ ff = [(0, .v y25 x), (1, .v y25 y), (5, I ((i : Nat) : Int))] ∧ ss = [] ∧ (i ≤ x.length) ∧ (i ≤ y.length) ∧ (fstB x y = fstB (x.drop i) (y.drop i))) ?_ _ _ _ ⟨0, rfl, rfl, rfl, Nat.zero_le _, Nat.zero_le _, (by rfl)⟩; rintro kk ff ss ⟨i, hk0, rfl, rfl, hi, hiy, hw⟩; refine VC.seq (VC.seq (VC.text ?_)); refine VO.c (.move rfl) (VO.c (.move rfl) ?_); refine VO.r (.len el25) ?_; refine VO.c (.lss) (VO.c (.move rfl) ?_); refine VO.cg (r := decide (((i : Nat) : Int) < ((x.length : Nat) : Int))) (w := true) [] trivial (fun _ => (.move rfl)) ?_; refine VO.cg (r := decide (((i : Nat) : Int) < ((x.length : Nat) : Int))) (w := true) [] trivial (fun _ => (.move rfl)) ?_; refine VO.rg (r := decide (((i : Nat) : Int) < ((x.length : Nat) : Int))) (w := true) [(12, .v y25 y)] ⟨rfl, trivial⟩ (fun _ => (.len el25)) ?_; refine VO.cg (r := decide (((i : Nat) : Int) < ((x.length : Nat) : Int))) (w := true) [(11, I ((i : Nat) : Int)), (13, I ((y.length : Nat) : Int))] ⟨rfl, rfl, trivial⟩ (fun _ => (.lss)) ?_; refine VO.c (.and) (VO.go ?_); refine VC.condB rfl (fun c2 => ?_) (fun c2 => ?_)
  · try simp only [Bool.and_eq_true, Bool.or_eq_true, Bool.and_eq_false_iff, Bool.or_eq_false_iff, Bool.not_eq_true', Bool.not_eq_false', decide_eq_true_eq, decide_eq_false_iff_not] at c2
    have hix : i < x.length := by omega
    have hiy2 : i < y.length := by omega
    refine VC.skip (VC.seq (VC.block (VC.seq (VC.drawn ?_)))); refine VD.c (.move rfl) (VD.c (.move rfl) (VD.c (.ix (j := i) rfl rfl el25 (by omega)) ?_)); refine VD.r [] (.ld vt3) (.inl rfl) ?_; refine VD.c (.move rfl) (VD.c (.move rfl) (VD.nw [] (VD.c (.ix (j := i) rfl rfl el25 (by omega)) ?_))); refine VD.r [] (.ld vt3) (.inl rfl) ?_; refine VD.c (.neq) (VD.go ?_); refine VC.condD rfl (fun c4 => ?_) (fun c4 => ?_)
    · refine VC.seq (VC.drawn ?_); refine VD.c (.move rfl) (VD.c (.move rfl) (VD.c (.ix (j := i) rfl rfl el25 (by omega)) ?_)); refine VD.r [] (.ld vt3) (.inl rfl) ?_; refine VD.c (.move rfl) (VD.c (.move rfl) (VD.nw [] (VD.c (.ix (j := i) rfl rfl el25 (by omega)) ?_))); refine VD.r [] (.ld vt3) (.inl rfl) ?_; refine VD.c (.lss) (VD.c (.assign rfl) (VD.go ?_)); refine VC.ret ?_; exact VEnd.one rfl evT (pvE (by rw [hw, fstB_s (by omega) (by omega), if_pos c4]))
    refine VC.skip (VC.text ?_); refine VO.c (.move rfl) (VO.c (.add rfl rfl (by omega)) (VO.c (.assign rfl) ?_)); refine VO.nil ?_; refine ⟨_, [(0, .v y25 x), (1, .v y25 y), (5, I (((i + 1) : Nat) : Int))], ?_, ⟨rfl, rfl, rfl, trivial⟩, (i + 1), rfl, rfl, rfl, (by omega), (by omega), (by rw [hw, fstB_s (by omega) (by omega), if_neg c4])⟩; omega
  try simp only [Bool.and_eq_true, Bool.or_eq_true, Bool.and_eq_false_iff, Bool.or_eq_false_iff, Bool.not_eq_true', Bool.not_eq_false', decide_eq_true_eq, decide_eq_false_iff_not] at c2
  refine VC.exit (VC.seq (VC.text ?_)); refine VO.c (.move rfl) ?_; refine VO.r (.len el25) ?_; refine VO.c (.move rfl) ?_; refine VO.r (.len el25) ?_; refine VO.c (.lss) (VO.c (.assign rfl) (VO.go ?_)); refine VC.ret ?_; exact VEnd.one rfl evT (pvE (by rw [hw, fstB_e (by omega) (by omega) (by omega)]))
def endT (l : List Shp) (q : List (Int × Int)) : Int := if q.length = 0 then 0 else (endP q).2 + (shA l (endP q).1.toNat).2.2.1
theorem rLast_ok {l : List (ByteArray × Int × Int × Int × Int)} {q : List (Int × Int)} (hl : l.length < 100000) (hq : q.length < 100000) (hok : ShpOk l) (hr : 0 < q.length → 0 ≤ (endP q).1 ∧ (endP q).1 < ((l.length : Nat) : Int) ∧ 0 ≤ (endP q).2 ∧ (endP q).2 ≤ 100000) : VF Tryz.prog OA 169 [.v y57 l, .v y68 q] (I (endT l q)) := by
  refine VF.enter Tryz.func169 rfl (fun _ _ => rfl) rfl ?_; show VC _ _ _ _ _ [(0, .v y57 l), (1, .v y68 q)] [] _; refine VC.seq (VC.text ?_); refine VO.c (.assign rfl) ?_; refine VO.go (VC.seq (VC.seq (VC.text ?_))); refine VO.c (.move rfl) ?_; refine VO.r (.len el68) ?_; refine VO.c (.eql) (VO.go ?_); refine VC.condD rfl (fun c1 => ?_) (fun c1 => ?_)
  · refine VC.seq (VC.text ?_); refine VO.c (.assign rfl) (VO.go ?_); refine VC.ret ?_; exact VEnd.one rfl evT (pvI (by rw [endT, if_pos (by omega)]))
  have hr := hr (by omega)
  have hqe : endP q = q[q.length - 1]'(by omega) := by
    have := (last_take (p := q) (i := q.length) (Nat.le_refl _)).2 (by rw [List.length_take]; omega); rw [endP, this, List.getElem_take]; congr 1; rw [List.length_take]; omega
  have hqz : q[(((q.length : Nat) : Int) - 1).toNat]'(by omega) = endP q := by rw [hqe]; congr 1; omega
  rw [← hqz] at hr; have hlb : shA l (q[(((q.length : Nat) : Int) - 1).toNat]'(by omega)).1.toNat = l[(q[(((q.length : Nat) : Int) - 1).toNat]'(by omega)).1.toNat]'(by omega) := shA_eq (by omega); have hg := hok.lng (q[(((q.length : Nat) : Int) - 1).toNat]'(by omega)).1.toNat; rw [hlb] at hg; refine VC.skip (VC.seq (VC.text ?_)); refine VO.c (.move rfl) (VO.c (.move rfl) ?_); refine VO.r (.len el68) ?_; refine VO.c (.sub rfl rfl (by omega)) (VO.c (.ixZ (k := (((q.length : Nat) : Int) - (1 : Int))) rfl rfl el68 (by omega) (by omega)) ?_); refine VO.r (.ld vt128) ?_; refine VO.cell (.alloc zt128) ?_; intro ww5; refine VO.setV (cs' := [I ((q[Int.toNat (((q.length : Nat) : Int) - (1 : Int))]).1), I ((q[Int.toNat (((q.length : Nat) : Int) - (1 : Int))]).2)]) vt128 .v ?_; refine VO.shut [(5, .p y128 (q[Int.toNat (((q.length : Nat) : Int) - (1 : Int))]))] (.cons rfl (.var m0 .refl) .nil) ?_; refine VO.go (VC.seq (VC.drawn ?_)); refine VD.c (.fa (.r .o)) ?_; refine VD.r [] (.ld vt3) (.inl rfl) ?_; refine VD.c (.move rfl) (VD.c (.fa (.l .o)) ?_); refine VD.r [] (.ld vt3) (.inl rfl) ?_; refine VD.c (.ixZ (k := (q[Int.toNat (((q.length : Nat) : Int) - (1 : Int))]).1) rfl rfl el57 (by omega) (by omega)) (VD.nw [] (VD.c (.fa (.r (.r (.l .o)))) ?_)); refine VD.r [] (.ld vt3) (.inl rfl) ?_; refine VD.c (.add rfl rfl (by omega)) (VD.c (.assign rfl) (VD.go ?_)); refine VC.ret ?_; exact VEnd.one rfl evT (pvI (by rw [endT, if_neg (by omega), ← hqz, hlb]))
def QOk (l : List Shp) (turn clear : Int) (q : List (Int × Int)) : Prop := ∀ i, i < q.length → pasE l turn clear q i = 0
def betR (l : List Shp) (p q : List (Int × Int)) : Bool := if sumP l p p.length ≠ sumP l q q.length then decide (sumP l q q.length < sumP l p p.length) else if setL p ≠ setL q then fstB (setL p) (setL q) else decide (endT l p < endT l q)
theorem QOk.last {l : List Shp} (hok : ShpOk l) {turn clear : Int} (hc : clear ≤ 100000) {q : List (Int × Int)} (h : QOk l turn clear q) (h0 : 0 < q.length) : 0 ≤ (endP q).1 ∧ (endP q).1 < ((l.length : Nat) : Int) ∧ 0 ≤ (endP q).2 ∧ (endP q).2 ≤ 100000 := by
  obtain ⟨n, hn⟩ : ∃ n, q.length = n + 1 := ⟨q.length - 1, by omega⟩; have h1 := pas_ok hok hc (h n (by omega))
  have e : endP q = paA q n := by rw [endP, hn] <;> rfl
  rw [e]; exact ⟨h1.1.1, h1.1.2, h1.2.2.2.2.1, h1.2.2.2.2.2⟩
theorem rBetter_ok {turn : Int} {clear : Int} {l : List (ByteArray × Int × Int × Int × Int)} {p : List (Int × Int)} {q : List (Int × Int)} (hl : l.length < 100000) (hp : p.length < 1000) (hq : q.length < 1000) (hok : ShpOk l) (hc : clear ≤ 100000) (hpo : QOk l turn clear p) (hqo : QOk l turn clear q) : VF Tryz.prog OA 154 [.v y57 l, .v y68 p, .v y68 q] (B (betR l p q)) := by
  refine VF.enter Tryz.func154 rfl (fun _ _ => rfl) rfl ?_; show VC _ _ _ _ _ [(0, .v y57 l), (1, .v y68 p), (2, .v y68 q)] [] _; refine VC.seq (VC.text ?_); refine VO.c (.assign rfl) ?_; refine VO.go (VC.seq (VC.seq (VC.text ?_))); refine VO.c (.move rfl) (VO.c (.move rfl) ?_); refine VO.call rfl rfl (VF.call (rPrio_ok hp hok (fun i hi => (pas_ok hok hc (hpo i hi)).1))) ?_; refine VO.c (.move rfl) (VO.c (.move rfl) ?_); refine VO.call rfl rfl (VF.call (rPrio_ok hq hok (fun i hi => (pas_ok hok hc (hqo i hi)).1))) ?_; refine VO.c (.assign rfl) (VO.c (.assign rfl) ?_); refine VO.go (VC.seq (VC.text ?_)); refine VO.c (.move rfl) (VO.c (.move rfl) (VO.c (.neq) (VO.go ?_))); refine VC.condD rfl (fun c2 => ?_) (fun c2 => ?_)
  · refine VC.seq (VC.text ?_); refine VO.c (.move rfl) (VO.c (.move rfl) (VO.c (.gtr) (VO.c (.assign rfl) ?_))); refine VO.go ?_; refine VC.ret ?_; exact VEnd.one rfl evT (pvE (by rw [betR, if_pos c2]))
  refine VC.skip (VC.seq (VC.text ?_)); refine VO.c (.move rfl) ?_; refine VO.call rfl rfl (VF.call (rShipsOf_ok (by omega))) ?_; refine VO.c (.move rfl) ?_; refine VO.call rfl rfl (VF.call (rShipsOf_ok (by omega))) ?_; refine VO.c (.assign rfl) (VO.c (.assign rfl) ?_); refine VO.go (VC.seq (VC.seq (VC.text ?_))); refine VO.c (.move rfl) (VO.c (.move rfl) ?_); refine VO.call rfl rfl (VF.call (rSameI_ok (by rw [shpL_len]; omega))) ?_; refine VO.c (.not) (VO.go ?_); refine VC.condB rfl (fun c5 => ?_) (fun c5 => ?_)
  · try simp only [Bool.and_eq_true, Bool.or_eq_true, Bool.and_eq_false_iff, Bool.or_eq_false_iff, Bool.not_eq_true', Bool.not_eq_false', decide_eq_true_eq, decide_eq_false_iff_not] at c5
    refine VC.seq (VC.text ?_); refine VO.c (.move rfl) (VO.c (.move rfl) ?_); refine VO.call rfl rfl (VF.call (rFirstL_ok (by rw [shpL_len]; omega) (by rw [shpL_len]; omega))) ?_; refine VO.c (.assign rfl) (VO.go ?_); refine VC.ret ?_; exact VEnd.one rfl evT (pvE (by rw [betR, if_neg c2, set_shp, set_shp, if_pos c5]))
  try simp only [Bool.and_eq_true, Bool.or_eq_true, Bool.and_eq_false_iff, Bool.or_eq_false_iff, Bool.not_eq_true', Bool.not_eq_false', decide_eq_true_eq, decide_eq_false_iff_not] at c5
  refine VC.skip (VC.seq (VC.text ?_)); refine VO.c (.move rfl) (VO.c (.move rfl) ?_); refine VO.call rfl rfl (VF.call (rLast_ok hl (by omega) hok (hpo.last hok hc))) ?_; refine VO.c (.move rfl) (VO.c (.move rfl) ?_); refine VO.call rfl rfl (VF.call (rLast_ok hl (by omega) hok (hqo.last hok hc))) ?_; refine VO.c (.lss) (VO.c (.assign rfl) (VO.go ?_)); refine VC.ret ?_; exact VEnd.one rfl evT (pvE (by rw [betR, if_neg c2, set_shp, set_shp, if_neg (fun h => h c5)]))
end Go.Proofs
namespace Go.Proofs
open Go.Fs
set_option maxHeartbeats 1000000
def hasQ (q : List (Int × Int)) (i : Nat) : Bool := q.any fun y => decide (y.1 = ((i : Nat) : Int))
def cntQ (n : Nat) (q : List (Int × Int)) : Nat := ((List.range n).filter fun i => !hasQ q i).length
def goQ (l : List Shp) (turn clear : Int) (q : List (Int × Int)) (i : Nat) : Bool := !hasQ q i && decide (freeF l turn (endP q) i + (shA l i).2.2.1 ≤ clear)
def addQ (l : List Shp) (turn : Int) (q : List (Int × Int)) (i : Nat) : List (Int × Int) := q ++ [(((i : Nat) : Int), freeF l turn (endP q) i)]
def bestF (l : List Shp) (turn clear : Int) (R : List (Int × Int) → List (Int × Int)) (q : List (Int × Int)) : Nat → List (Int × Int)
  | 0 => q
  | i + 1 => if goQ l turn clear q i = true then (if betR l (R (addQ l turn q i)) (bestF l turn clear R q i) = true then R (addQ l turn q i) else bestF l turn clear R q i) else bestF l turn clear R q i
def bestG (l : List Shp) (turn clear : Int) : Nat → List (Int × Int) → List (Int × Int)
  | 0, q => q
  | f + 1, q => bestF l turn clear (bestG l turn clear f) q l.length
def bestE (l : List Shp) (turn clear : Int) (q : List (Int × Int)) : List (Int × Int) := bestG l turn clear (cntQ l.length q) q
theorem cnt_one {n i : Nat} {p : Nat → Bool} (hi : i < n) (hp : p i = true) : ((List.range n).filter fun j => p j && !(decide (j = i))).length + 1 = ((List.range n).filter p).length := by
  induction n with
  | zero => omega
  | succ n ih =>
    rw [List.range_succ, List.filter_append, List.filter_append, List.length_append, List.length_append]; by_cases e : i = n
    · subst e
      have h1 : ((List.range i).filter fun j => p j && !(decide (j = i))) = (List.range i).filter p := by
        refine List.filter_congr fun j hj => ?_; have := List.mem_range.1 hj; rw [decide_eq_false (show ¬ j = i by omega)]; simp
      rw [h1]; simp [hp]
    have := ih (by omega)
    have h2 : ([n].filter fun j => p j && !(decide (j = i))) = [n].filter p := by
      simp [List.filter_cons, show ¬ n = i by omega]
    rw [h2]; omega
theorem has_add {l : List Shp} {turn : Int} {q : List (Int × Int)} {i j : Nat} : hasQ (addQ l turn q i) j = (hasQ q j || decide (j = i)) := by
  unfold hasQ addQ; rw [List.any_append]; congr 1; simp only [List.any_cons, List.any_nil, Bool.or_false]; by_cases h : j = i
  · subst h; simp
  rw [decide_eq_false h, decide_eq_false (fun e => h (by omega))]
theorem cnt_add {l : List Shp} {turn : Int} {n : Nat} {q : List (Int × Int)} {i : Nat} (hi : i < n) (h : hasQ q i = false) : cntQ n (addQ l turn q i) + 1 = cntQ n q := by
  unfold cntQ; rw [← cnt_one (p := fun i => !hasQ q i) hi (by rw [h]; rfl)]; congr 2; refine List.filter_congr fun j _ => ?_; rw [has_add, Bool.not_or]
theorem go_has {l : List Shp} {turn clear : Int} {q : List (Int × Int)} {i : Nat} (h : goQ l turn clear q i = true) : hasQ q i = false := by
  unfold goQ at h; have := (band h).1; simpa using this
theorem cnt_pos {n : Nat} {q : List (Int × Int)} {i : Nat} (hi : i < n) (h : hasQ q i = false) : 0 < cntQ n q := by
  have := cnt_add (l := []) (turn := 0) hi h; omega
theorem bestF_cg {l : List Shp} {turn clear : Int} {R R' : List (Int × Int) → List (Int × Int)} {q : List (Int × Int)} : ∀ {n : Nat}, (∀ i, i < n → goQ l turn clear q i = true → R (addQ l turn q i) = R' (addQ l turn q i)) → bestF l turn clear R q n = bestF l turn clear R' q n
  | 0, _ => rfl
  | n + 1, h => by
    have ih := bestF_cg (R := R) (R' := R') (q := q) (n := n) fun i hi => h i (by omega); unfold bestF; rw [ih]; by_cases hg : goQ l turn clear q n = true
    · rw [if_pos hg, if_pos hg, h n (by omega) hg]
    rw [if_neg hg, if_neg hg]
theorem bestF_none {l : List Shp} {turn clear : Int} {R : List (Int × Int) → List (Int × Int)} {q : List (Int × Int)} : ∀ {n : Nat}, (∀ i, i < n → ¬ goQ l turn clear q i = true) → bestF l turn clear R q n = q
  | 0, _ => rfl
  | n + 1, h => by
    unfold bestF; rw [if_neg (h n (by omega))]; exact bestF_none fun i hi => h i (by omega)
theorem bestE_eq {l : List Shp} {turn clear : Int} {q : List (Int × Int)} : bestE l turn clear q = bestF l turn clear (bestE l turn clear) q l.length := by
  unfold bestE
  cases hc : cntQ l.length q with
  | zero =>
    show q = _
    rw [bestF_none fun i hi hg => by have := cnt_pos hi (go_has hg); omega]
  | succ f =>
    show bestF l turn clear (bestG l turn clear f) q l.length = _; refine bestF_cg fun i hi hg => ?_; have := cnt_add (l := l) (turn := turn) hi (go_has hg); rw [show cntQ l.length (addQ l turn q i) = f by omega]
theorem paA_app {q : List (Int × Int)} {y : Int × Int} {j : Nat} (h : j < q.length) : paA (q ++ [y]) j = paA q j := by
  rw [paA_eq (by simp; omega), paA_eq h, List.getElem_append_left h]
theorem paA_end {q : List (Int × Int)} {y : Int × Int} : paA (q ++ [y]) q.length = y := by
  rw [paA_eq (by simp), List.getElem_append_right (Nat.le_refl _)]; simp
theorem lastP_app {q : List (Int × Int)} {y : Int × Int} : ∀ {j : Nat}, j ≤ q.length → lastP (q ++ [y]) j = lastP q j
  | 0, _ => rfl
  | j + 1, h => paA_app (by omega)
theorem endP_app {q : List (Int × Int)} {y : Int × Int} : endP (q ++ [y]) = y := by
  unfold endP; rw [List.length_append, List.length_singleton]; exact paA_end
theorem sumP_app {l : List Shp} {q : List (Int × Int)} {y : Int × Int} : ∀ {j : Nat}, j ≤ q.length → sumP l (q ++ [y]) j = sumP l q j
  | 0, _ => rfl
  | j + 1, h => by rw [sumP, sumP, sumP_app (by omega), paA_app (by omega)]
theorem sumP_add {l : List Shp} {q : List (Int × Int)} {y : Int × Int} : sumP l (q ++ [y]) (q ++ [y]).length = sumP l q q.length + (shA l y.1.toNat).2.2.2.2 := by
  rw [List.length_append, List.length_singleton, sumP, sumP_app (Nat.le_refl _), paA_end]
theorem qok_add {l : List Shp} (hok : ShpOk l) {turn clear : Int} {q : List (Int × Int)} (h : QOk l turn clear q) {i : Nat} (hi : i < l.length) (hg : goQ l turn clear q i = true) : QOk l turn clear (addQ l turn q i) := fun j hj => by
  unfold addQ at hj ⊢; rw [List.length_append, List.length_singleton] at hj; by_cases e : j < q.length
  · have h1 := h j e; unfold pasE at h1 ⊢; rw [paA_app e, lastP_app (by omega)]; unfold twiP at h1 ⊢; rw [List.take_append_of_le_length (by omega)]; exact h1
  obtain rfl : j = q.length := by omega
  have hh := go_has hg; have h2 := of_decide_eq_true (band hg).2; have e1 := paA_end (q := q) (y := (((i : Nat) : Int), freeF l turn (endP q) i)); unfold pasE; rw [e1, if_neg (by show ¬ (((i : Nat) : Int) < 0 ∨ _ ≤ ((i : Nat) : Int)); omega), lastP_app (Nat.le_refl _)]; refine pasX_0 ?_ ?_ ?_
  · unfold twiP; rw [List.take_append_of_le_length (Nat.le_refl _), List.take_length]; exact hh
  · show ¬ freeF l turn (endP q) i < freeF l turn (lastP q q.length) (((i : Nat) : Int)).toNat; rw [Int.toNat_natCast]; exact Int.lt_irrefl _
  show ¬ clear - (shA l (((i : Nat) : Int)).toNat).2.2.1 < freeF l turn (endP q) i; rw [Int.toNat_natCast]; omega
structure QI (l : List Shp) (turn clear : Int) (q : List (Int × Int)) : Prop where
  ok : QOk l turn clear q
  len : q.length + cntQ l.length q ≤ l.length
theorem QI.add {l : List Shp} (hok : ShpOk l) {turn clear : Int} {q : List (Int × Int)} (h : QI l turn clear q) {i : Nat} (hi : i < l.length) (hg : goQ l turn clear q i = true) : QI l turn clear (addQ l turn q i) where
  ok := qok_add hok h.ok hi hg
  len := by
    have := cnt_add (l := l) (turn := turn) hi (go_has hg); have := h.len
    have e : (addQ l turn q i).length = q.length + 1 := by simp [addQ]
    omega
theorem QI.nil {l : List Shp} {turn clear : Int} : QI l turn clear [] where
  ok := fun i hi => by cases hi
  len := by
    have := List.length_filter_le (fun i => !hasQ [] i) (List.range l.length); unfold cntQ; simpa using this
theorem bestF_ok {l : List Shp} {turn clear : Int} {R : List (Int × Int) → List (Int × Int)} {q : List (Int × Int)} (hq : QOk l turn clear q ∧ q.length ≤ l.length) : ∀ {n : Nat}, (∀ i, i < n → goQ l turn clear q i = true → QOk l turn clear (R (addQ l turn q i)) ∧ (R (addQ l turn q i)).length ≤ l.length) → QOk l turn clear (bestF l turn clear R q n) ∧ (bestF l turn clear R q n).length ≤ l.length
  | 0, _ => hq
  | n + 1, h => by
    have ih := bestF_ok (R := R) hq (n := n) fun i hi => h i (by omega); unfold bestF; by_cases hg : goQ l turn clear q n = true
    · rw [if_pos hg]; split
      · exact h n (by omega) hg
      exact ih
    rw [if_neg hg]; exact ih
theorem bestE_ok {l : List Shp} (hok : ShpOk l) {turn clear : Int} : ∀ (f : Nat) {q : List (Int × Int)}, cntQ l.length q ≤ f → QI l turn clear q → QOk l turn clear (bestE l turn clear q) ∧ (bestE l turn clear q).length ≤ l.length
  | 0, q, hf, h => by
    rw [bestE_eq]
    exact bestF_ok ⟨h.ok, by have := h.len; omega⟩ fun i hi hg => by have := cnt_pos hi (go_has hg); omega
  | f + 1, q, hf, h => by
    rw [bestE_eq]; exact bestF_ok ⟨h.ok, by have := h.len; omega⟩ fun i hi hg => bestE_ok hok f (by have := cnt_add (l := l) (turn := turn) hi (go_has hg); omega) (h.add hok hi hg)
def bestP (l : List Shp) (turn clear : Int) (q : List (Int × Int)) (n : Nat) : List (Int × Int) := bestF l turn clear (bestE l turn clear) q n
theorem bestP_ok {l : List Shp} (hok : ShpOk l) {turn clear : Int} {q : List (Int × Int)} (h : QI l turn clear q) {n : Nat} (hn : n ≤ l.length) : QOk l turn clear (bestP l turn clear q n) ∧ (bestP l turn clear q n).length ≤ l.length :=
  bestF_ok ⟨h.ok, by have := h.len; omega⟩ fun i hi hg => bestE_ok hok _ (Nat.le_refl _) (h.add hok (by omega) hg)
theorem bestP_s {l : List Shp} {turn clear : Int} {q : List (Int × Int)} {n : Nat} (hg : goQ l turn clear q n = true) : bestP l turn clear q (n + 1) = if betR l (bestE l turn clear (addQ l turn q n)) (bestP l turn clear q n) = true then bestE l turn clear (addQ l turn q n) else bestP l turn clear q n := by
  unfold bestP
  conv => lhs; unfold bestF
  rw [if_pos hg]
theorem bestP_n {l : List Shp} {turn clear : Int} {q : List (Int × Int)} {n : Nat} (hg : ¬ goQ l turn clear q n = true) : bestP l turn clear q (n + 1) = bestP l turn clear q n := by
  unfold bestP
  conv => lhs; unfold bestF
  rw [if_neg hg]
def rowQ (l : List Shp) (q : List (Int × Int)) : List (Int × Int) × Int × Int := (q, sumP l q q.length, endT l q)
theorem rowQ_add {l : List Shp} {turn : Int} {q : List (Int × Int)} {i : Nat} : rowQ l (addQ l turn q i) = (addQ l turn q i, sumP l q q.length + (shA l i).2.2.2.2, freeF l turn (endP q) i + (shA l i).2.2.1) := by
  unfold rowQ addQ; rw [sumP_add, endT, if_neg (by simp), endP_app]; rfl
theorem cmpI_lt {a b : Int} : cmpI a b < 0 ↔ a < b := by
  unfold cmpI; by_cases h : a < b
  · simp [h]
  rw [if_neg h]; by_cases h2 : b < a <;> simp [h, h2]
theorem cmpI_zero {a b : Int} : cmpI a b = 0 ↔ a = b := by
  unfold cmpI; by_cases h : a < b
  · simp [h]; omega
  rw [if_neg h]; by_cases h2 : b < a
  · simp [h2]; omega
  simp [h2]; omega
theorem betC_R {l : List Shp} {p q : List (Int × Int)} : betC (rowQ l p) (rowQ l q) = betR l p q := by
  unfold betC betR rowQ firstE; simp only; by_cases h : sumP l p p.length = sumP l q q.length
  · rw [if_pos (cmpI_zero.2 h.symm), if_neg (fun hh => hh h)]; unfold firstE; by_cases h2 : setL p = setL q
    · rw [if_pos (cmpL_zero.2 h2), if_neg (fun hh => hh h2)]; unfold firstE; by_cases h3 : endT l p = endT l q
      · rw [if_pos (cmpI_zero.2 h3), h3]; simp [firstE]
      rw [if_neg (fun hh => h3 (cmpI_zero.1 hh))]; exact decide_eq_decide.2 cmpI_lt
    rw [if_neg (fun hh => h2 (cmpL_zero.1 hh)), if_pos h2, fstB_cmp]
  rw [if_neg (fun hh => h (cmpI_zero.1 hh).symm), if_pos h]; exact decide_eq_decide.2 cmpI_lt
end Go.Proofs
namespace Go.Proofs
open Go.Fs
set_option maxHeartbeats 1000000
theorem bt128 : BldT Tryz.prog 128 y128 [(0, 1), (1, 1)] := bldT_of zt128 rfl (by kernel_rfl)
theorem has_twi {q : List (Int × Int)} {i : Nat} : (shpL q q.length).contains ((i : Nat) : Int) = hasQ q i := by
  rw [shpL_has (Nat.le_refl _)]; unfold twiP hasQ; rw [List.take_length]
theorem last_qi {l : List Shp} (hok : ShpOk l) {turn clear : Int} (hc : clear ≤ 100000) {q : List (Int × Int)} (h : QOk l turn clear q) : LastOk l (endP q) := last_ok hok hc (i := q.length) h
theorem goQ_t {l : List Shp} {turn clear : Int} {q : List (Int × Int)} {i : Nat} (h : hasQ q i = false) (h2 : ¬ clear < freeF l turn (endP q) i + (shA l i).2.2.1) : goQ l turn clear q i = true := by
  unfold goQ; rw [h, decide_eq_true (by omega)] <;> rfl
theorem goQ_h {l : List Shp} {turn clear : Int} {q : List (Int × Int)} {i : Nat} (h : hasQ q i = true) : ¬ goQ l turn clear q i = true := by
  unfold goQ; rw [h]; simp
theorem goQ_o {l : List Shp} {turn clear : Int} {q : List (Int × Int)} {i : Nat} (h2 : clear < freeF l turn (endP q) i + (shA l i).2.2.1) : ¬ goQ l turn clear q i = true := by
  unfold goQ; rw [decide_eq_false (by omega)]; simp
theorem free_b {l : List Shp} (hok : ShpOk l) {turn : Int} (ht : 0 ≤ turn ∧ turn ≤ 1000) {last : Int × Int} (hl : LastOk l last) (i : Nat) : 0 ≤ freeF l turn last i ∧ freeF l turn last i ≤ 102000 := by
  have h1 := hok.arr i; unfold freeF; by_cases e : last = (-1, 0)
  · rw [if_pos e]; omega
  rw [if_neg e]; have h2 := hl.resolve_left e; have h3 := hok.lng last.1.toNat; split <;> omega
theorem rPassS_ok {l : List (ByteArray × Int × Int × Int × Int)} {turn : Int} {clear : Int} {q : List (Int × Int)} (hok : ShpOk l) (htu : 0 ≤ turn ∧ turn ≤ 1000) (hcl : 0 ≤ clear ∧ clear ≤ 100000) (hq : QI l turn clear q) (ih : ∀ {q' : List (Int × Int)}, (∃ i, i < l.length ∧ goQ l turn clear q i = true ∧ q' = addQ l turn q i) → VF Tryz.prog OA 124 [.v y57 l, I turn, I clear, .v y68 q'] (.v y68 (bestE l turn clear q'))) : VF Tryz.prog OA 124 [.v y57 l, I turn, I clear, .v y68 q] (.v y68 (bestE l turn clear q)) := by
  refine VF.enter Tryz.func124 rfl (fun _ _ => rfl) rfl ?_; show VC _ _ _ _ _ [(0, .v y57 l), (1, I turn), (2, I clear), (3, .v y68 q)] [] _; refine VC.seq (VC.text ?_); refine VO.c (.assign rfl) ?_; refine VO.go (VC.seq (VC.text ?_)); have hl8 := hok.len; have hql := hq.len; have hlk := last_qi hok hcl.2 hq.ok; refine VO.c (.move rfl) (VO.c (.assign rfl) ?_); refine VO.go (VC.seq (VC.seq (VC.text ?_))); refine VO.c (.assign rfl) ?_; refine VO.go (VC.block ?_); refine VC.keep [(0, .v y57 l), (1, I turn), (2, I clear), (3, .v y68 q), (9, .v y68 (bestP l turn clear q 0)), (10, I ((0 : Nat) : Int))] ⟨rfl, rfl, rfl, rfl, rfl, rfl, trivial⟩ ?_; refine VC.loop (I := fun kk ff ss => ∃ (i : Nat), kk = l.length - i ∧ ff = [(0, .v y57 l), (1, I turn), (2, I clear), (3, .v y68 q), (9, .v y68 (bestP l turn clear q i)), (10, I ((i : Nat) : Int))] ∧ ss = [] ∧ (i ≤ l.length)) ?_ _ _ _ ⟨0, rfl, rfl, rfl, Nat.zero_le _⟩; rintro kk ff ss ⟨i, hk0, rfl, rfl, hi⟩; refine VC.seq (VC.seq (VC.text ?_)); refine VO.c (.move rfl) (VO.c (.move rfl) ?_); refine VO.r (.len el57) ?_; refine VO.c (.lss) (VO.go ?_); refine VC.condD rfl (fun c3 => ?_) (fun c3 => ?_)
  · have hlt : i < l.length := by omega
    have hga := hok.lng i; have hfb : 0 ≤ freeF l turn (endP q) (((i : Nat) : Int)).toNat ∧ freeF l turn (endP q) (((i : Nat) : Int)).toNat ≤ 102000 := free_b hok htu hlk i; have hsa := shA_eq hlt; rw [hsa] at hga; have hbo := bestP_ok hok hq (n := i) (by omega); refine VC.skip (VC.seq (VC.block (VC.seq (VC.seq (VC.text ?_))))); refine VO.c (.move rfl) ?_; refine VO.call rfl rfl (VF.call (rShipsOf_ok (by omega))) ?_; refine VO.c (.move rfl) ?_; refine VO.call rfl rfl (VF.call (rHasInt_ok (by rw [shpL_len]; omega))) ?_; refine VO.go ?_; refine VC.condB rfl (fun c5 => ?_) (fun c5 => ?_)
    · have hgo := goQ_h (l := l) (turn := turn) (clear := clear) (q := q) (i := i) (by rw [← has_twi]; exact c5); refine VC.exit (VC.text ?_); refine VO.c (.move rfl) (VO.c (.add rfl rfl (by omega)) (VO.c (.assign rfl) ?_)); refine VO.nil ?_; refine ⟨_, [(0, .v y57 l), (1, I turn), (2, I clear), (3, .v y68 q), (9, .v y68 (bestP l turn clear q (i + 1))), (10, I (((i + 1) : Nat) : Int))], ?_, ⟨rfl, rfl, rfl, rfl, slE rfl (by first | exact (bestP_n hgo).symm | exact ((bestP_s hgo).trans (if_pos c9)).symm | exact ((bestP_s hgo).trans (if_neg (Bool.eq_false_iff.1 c9))).symm), rfl, trivial⟩, (i + 1), rfl, rfl, rfl, (by omega)⟩; omega
    have hnh : hasQ q i = false := by rw [← has_twi]; exact c5
    refine VC.skip (VC.seq (VC.text ?_)); refine VO.c (.move rfl) (VO.c (.move rfl) (VO.c (.move rfl) (VO.c (.move rfl) ?_))); refine VO.call rfl rfl (VF.call (rFree_ok (by omega) (by omega) ⟨(by omega), (by omega)⟩ hok htu hlk (fun h => by obtain ⟨n, hn⟩ : ∃ n, q.length = n + 1 := ⟨q.length - 1, by omega⟩; rw [endP]; exact last_ne hok hcl.2 hq.ok h))) ?_; refine VO.c (.assign rfl) ?_; refine VO.go (VC.seq (VC.seq (VC.text ?_))); refine VO.c (.move rfl) (VO.c (.move rfl) (VO.c (.move rfl) (VO.c (.ix (j := i) rfl rfl el57 (by omega)) ?_))); refine VO.c (.fa (.r (.r (.l .o)))) ?_; refine VO.r (.ld vt3) ?_; refine VO.c (.add rfl rfl (by omega)) (VO.c (.move rfl) (VO.c (.gtr) (VO.go ?_))); refine VC.condD rfl (fun c7 => ?_) (fun c7 => ?_)
    · have hgo := goQ_o (q := q) (i := i) (l := l) (turn := turn) (clear := clear) (by rw [hsa]; exact c7); refine VC.exit (VC.text ?_); refine VO.c (.move rfl) (VO.c (.add rfl rfl (by omega)) (VO.c (.assign rfl) ?_)); refine VO.nil ?_; refine ⟨_, [(0, .v y57 l), (1, I turn), (2, I clear), (3, .v y68 q), (9, .v y68 (bestP l turn clear q (i + 1))), (10, I (((i + 1) : Nat) : Int))], ?_, ⟨rfl, rfl, rfl, rfl, slE rfl (by first | exact (bestP_n hgo).symm | exact ((bestP_s hgo).trans (if_pos c9)).symm | exact ((bestP_s hgo).trans (if_neg (Bool.eq_false_iff.1 c9))).symm), rfl, trivial⟩, (i + 1), rfl, rfl, rfl, (by omega)⟩; omega
    have hgo := goQ_t (clear := clear) hnh (by rw [hsa]; exact c7); have hbe := bestE_ok hok _ (Nat.le_refl _) (hq.add hok hlt hgo); refine VC.skip (VC.seq (VC.text ?_)); refine VO.c (.move rfl) (VO.c (.move rfl) (VO.c (.move rfl) ?_)); refine VO.cell (.lit0 el68) ?_; intro ww1; refine VO.c (.move rfl) ?_; refine VO.app rfl rfl el68 el68 (by simp; omega) ?_; intro ww2; refine VO.c (.move rfl) (VO.c (.move rfl) (VO.c (.build (((i : Nat) : Int), freeF l turn (endP q) ((i : Nat) : Int).toNat) bt128) ?_)); refine VO.new (.lit [(((i : Nat) : Int), freeF l turn (endP q) ((i : Nat) : Int).toNat)] el68) ?_; refine VO.app rfl rfl el68 el68 (by simp; omega) ?_; intro ww3; refine VO.shut [(48, .v y68 (q ++ [(((i : Nat) : Int), freeF l turn (endP q) ((i : Nat) : Int).toNat)]))] (.cons rfl (.row m0) .nil) ?_; refine VO.call rfl rfl (VF.call (ih ⟨i, hlt, hgo, rfl⟩)) ?_; refine VO.c (.assign rfl) ?_; refine VO.go (VC.seq ?_); refine VC.keep [(0, .v y57 l), (1, I turn), (2, I clear), (3, .v y68 q), (9, .v y68 (bestP l turn clear q i)), (10, I ((i : Nat) : Int)), (12, .v y68 (bestE l turn clear (q ++ [(((i : Nat) : Int), freeF l turn (endP q) ((i : Nat) : Int).toNat)])))] ⟨rfl, rfl, rfl, rfl, rfl, rfl, rfl, trivial⟩ ?_; refine VC.text ?_; refine VO.c (.move rfl) (VO.c (.move rfl) (VO.c (.move rfl) ?_)); refine VO.call rfl rfl (VF.call (rBetter_ok (by omega) (Nat.lt_of_le_of_lt hbe.2 (by omega)) (by omega) hok hcl.2 hbe.1 hbo.1)) ?_; refine VO.go ?_; refine VC.condB rfl (fun c9 => ?_) (fun c9 => ?_)
    · refine VC.text ?_; refine VO.c (.move rfl) (VO.c (.assign rfl) ?_); refine VO.nil (VC.text ?_); refine VO.c (.move rfl) (VO.c (.add rfl rfl (by omega)) (VO.c (.assign rfl) ?_)); refine VO.nil ?_; refine ⟨_, [(0, .v y57 l), (1, I turn), (2, I clear), (3, .v y68 q), (9, .v y68 (bestP l turn clear q (i + 1))), (10, I (((i + 1) : Nat) : Int))], ?_, ⟨rfl, rfl, rfl, rfl, slE rfl (by first | exact (bestP_n hgo).symm | exact ((bestP_s hgo).trans (if_pos c9)).symm | exact ((bestP_s hgo).trans (if_neg (Bool.eq_false_iff.1 c9))).symm), rfl, trivial⟩, (i + 1), rfl, rfl, rfl, (by omega)⟩; omega
    refine VC.skip (VC.text ?_); refine VO.c (.move rfl) (VO.c (.add rfl rfl (by omega)) (VO.c (.assign rfl) ?_)); refine VO.nil ?_; refine ⟨_, [(0, .v y57 l), (1, I turn), (2, I clear), (3, .v y68 q), (9, .v y68 (bestP l turn clear q (i + 1))), (10, I (((i + 1) : Nat) : Int))], ?_, ⟨rfl, rfl, rfl, rfl, slE rfl (by first | exact (bestP_n hgo).symm | exact ((bestP_s hgo).trans (if_pos c9)).symm | exact ((bestP_s hgo).trans (if_neg (Bool.eq_false_iff.1 c9))).symm), rfl, trivial⟩, (i + 1), rfl, rfl, rfl, (by omega)⟩; omega
  refine VC.exit (VC.seq (VC.text ?_)); refine VO.c (.move rfl) (VO.c (.assign rfl) (VO.go ?_)); refine VC.ret ?_; exact VEnd.one rfl evT (pvE (by rw [show i = l.length by omega, bestP, ← bestE_eq]))
end Go.Proofs
namespace Go.Fs
variable {P : Program} {orc : FuncId → List Value → Heap → Option (Value × Heap)} {rnd : Option Nat} {h h' h0 h1 h2 : Heap} {S S' S0 B G : List Nat} {σ σ' : Sto} {t t' : Tr} {ms : List Nat} {fl : VL} {ops : Array Oper} {n i mem : Nat} {l : List Oper} {K : VL → Sto → Prop} {Q : Ex → VL → Sto → Prop}
  {d : Tmp} {ty : TypeId} {pos : String} {after : Array Edge} {op : Op} {v pv : PV} {g : Option (Nat × Bool)} {bs nw : List Nat} {segs : List (Nat × Nat × Nat)} {so : Bool} {mk : Nat} {nw0 : List Nat}
section
variable (P orc)
def VDm (mk : Nat) (ops : Array Oper) (n : Nat) (l : List Oper) (i : Nat) (fl : VL) (nw : List Nat) (σ : Sto) (so : Bool) (bs : List Nat) (mem : Nat) (K : VL → Sto → Prop) : Prop :=
  ∀ (h0 : Heap) (G S0 : List Nat) (t : Tr) (h : Heap) (ms : List Nat) (segs : List (Nat × Nat × Nat)), Iv h0 G S0 h σ t ms fl → Old S0 h σ t fl nw so segs → (∀ s ∈ segs, s.2.1 = s.2.2 ∨ mk.testBit s.1 = true) →
    EvD P orc ops n l i ⟨t, h, bs, segs, mem, false⟩ fun s => ∃ fl' σ', Iv h0 G S0 s.h σ' s.t ms fl' ∧ K fl' σ'
end
theorem VDm.go (hx : VD P orc ops n l i fl nw σ so bs mem false K) : VDm P orc mk ops n l i fl nw σ so bs mem K := fun h0 G S0 t h ms segs I ho _ => hx h0 G S0 t h ms segs I fun _ => ho
theorem VDm.nws (nw1 : List Nat) (hk : VDm P orc mk ops n l i fl nw1 σ so bs mem K) (he : nw0 = nw1 := by rfl) : VDm P orc mk ops n l i fl nw0 σ so bs mem K := he ▸ hk
theorem VC.drawnM {id : Nat} {ops : Array Oper} (hx : VDm P orc 0 ops n ops.toList 0 fl [] σ true [] 0 fun fl' σ' => Q .normal fl' σ') (hl : lateB ops = false := by kernel_rfl) : VC P orc rnd (.region id ops true) n fl σ Q := fun h0 G S0 t h ms I => by
  refine EvC.draw hl ?_; obtain ⟨m, s', h1, fl', σ', h2, h3⟩ := hx h0 G S0 t h ms [] I ⟨h, I.ok, After.refl h, SegsOk.nil, I.lc.slt, fun k pv hk _ => I.slots k pv hk, fun _ => I.cells⟩ (fun s hs => by cases hs); exact ⟨m, s', h1, rfl, fl', σ', h2, h3⟩
theorem bit_or {a b i : Nat} (h : a.testBit i = true) : (a ||| b).testBit i = true := by rw [Nat.testBit_or, h]; rfl
theorem bit_own {a i : Nat} : (a ||| 2 ^ i).testBit i = true := by rw [Nat.testBit_or, Nat.testBit_two_pow_self]; simp
theorem outside_e {lo : Nat} (objs : List (Nat × AObj)) : objs.filter (outside lo lo) = objs := List.filter_eq_self.2 fun p _ => by
  unfold outside; by_cases h : lo ≤ p.1 <;> simp [h] <;> omega
theorem mask_all {b : Nat} : ∀ {segs : List (Nat × Nat × Nat)} {objs : List (Nat × AObj)}, (∀ s ∈ segs, s.2.1 = s.2.2 ∨ b.testBit s.1 = true) → mask b segs objs = objs
  | [], _, _ => rfl
  | (k, lo, hi) :: segs, objs, h => by
    unfold mask; have h1 := h _ List.mem_cons_self
    have e : (if b.testBit k = true then objs else objs.filter (outside lo hi)) = objs := by
      rcases h1 with h1 | h1
      · have h1 : lo = hi := h1; subst h1; rw [outside_e]; split <;> rfl
      have h1 : b.testBit k = true := h1; rw [if_pos h1]
    rw [e]; exact mask_all fun s hs => h s (List.mem_cons_of_mem _ hs)
theorem VDm.c {b : Nat} (hc : CalmV P fl [] op v) (hk : VDm P orc mk ops n l (i + 1) ((d, v) :: fl) (nwSet (oldOp nw op || v.flat0) d nw) σ so (bs ++ [b]) mem K)
    (hb : beforeOf bs ⟨some d, op, ty, pos, after, g⟩ = b := by rfl) (hw : wantV ops fl g = some true := by rfl) (hn : (Nat.blt d n && Nat.ble n 4000) = true := by rfl) :
    VDm P orc mk ops n (⟨some d, op, ty, pos, after, g⟩ :: l) i fl nw σ so bs mem K := fun h0 G S0 t h ms segs I ho hm => by
  obtain ⟨n1, n2⟩ := fits hn; obtain ⟨u, e1, e2⟩ := hc.2 h (own σ ++ S0) t I.slots.sees (fun _ hc => by cases hc); refine EvD.op (s' := ⟨t.set depth d u, h, bs ++ [b], segs, mem, false⟩) ?_ (hk h0 G S0 _ h ms segs (I.set e1 n2) (ho.set n2 fun hold hs a1 a2 a3 a4 a5 => ?_) hm)
  · unfold fsDraw; have hwt : fsWanted ops t ⟨some d, op, ty, pos, after, g⟩ = some true := want_ok I.slots hw; simp only [hwt, hc.1, if_true, e2, Nat.beq_refl, cond_true, put_fits n1, Option.map_some, hb]
  rcases Bool.or_eq_true_iff.1 hold with hold | hold
  · obtain ⟨u', f1, f2⟩ := hc.2 hs (own σ ++ S0) t (old_op a4 hold) (fun _ hc => by cases hc)
    have : u' = u := by
      have g1 := e2 none 0 "" #[] none h; rw [f2 none 0 "" #[] none h] at g1; simpa using g1
    rw [← this]; exact f1
  exact (RepPV.flat0 hold e1).2 _ _
theorem VDm.r {b : Nat} (cs : Sto) (hc : ReadV P fl cs op v) (hcs : cs = [] ∨ (so = true ∧ cs = σ)) (hk : VDm P orc mk ops n l (i + 1) ((d, v) :: fl) (nwSet true d nw) σ so (bs ++ [b]) (mem ||| 2 ^ i) K)
    (hb : beforeOf bs ⟨some d, op, ty, pos, after, g⟩ = b := by rfl) (hold : oldOp nw op = true := by rfl) (hw : wantV ops fl g = some true := by rfl) (hn : (Nat.blt d n && Nat.ble n 4000) = true := by rfl) :
    VDm P orc mk ops n (⟨some d, op, ty, pos, after, g⟩ :: l) i fl nw σ so bs mem K := fun h0 G S0 t h ms segs I ho hm => by
  obtain ⟨n1, n2⟩ := fits hn; obtain ⟨M, m1, m2, m3, m4, m5, m6, m7⟩ := seen_ok (tail := false) (mem := mem) I hb (fun _ => ho); obtain ⟨hs, a1, a2, a3, a4, a5, a6, a7⟩ := m7 rfl
  have hcell : ∀ c ∈ cs, CellR hs (own σ ++ S0) c.1 c.2 := by
    rcases hcs with rfl | ⟨hso, hcs⟩
    · intro c hc; cases hc
    rw [hcs]; exact a7 hso
  obtain ⟨u, e1, e2⟩ := hc.2 hs (own σ ++ S0) t (old_op a6 hold) hcell; have hst := e2 M (fun b o hg => by rw [a3.get b (a1 b o hg)]; exact hg) (some d) ty pos after g; have hrep : RepPV h (own σ ++ S0) v u := e1.nx (a2.nx a1); refine EvD.op (draw_read m1 m3 m4 hb rfl hc.1 (want_ok I.slots hw) rfl hst n1) (hk h0 G S0 _ h ms _ (I.set hrep n2) ?_ fun s hs => ?_)
  · refine Old.seg ?_ (Nat.le_refl _); refine Old.set (old := true) ⟨hs, a1, a2, a4, a5, a6, a7⟩ n2 fun _ hs' b1 b2 b3 b4 b5 => ?_
    have hcell' : ∀ c ∈ cs, CellR hs' (own σ ++ S0) c.1 c.2 := by
      rcases hcs with rfl | ⟨hso, hcs⟩
      · intro c hc; cases hc
      rw [hcs]; exact b5 hso
    obtain ⟨u', f1, f2⟩ := hc.2 hs' (own σ ++ S0) t (old_op b4 hold) hcell'; have g1 := e2 h (fun b o hg => by rw [a2.get b (a1 b o hg)]; exact hg) (some d) ty pos after g; rw [f2 h (fun b o hg => by rw [b2.get b (b1 b o hg)]; exact hg) (some d) ty pos after g] at g1
    have : u' = u := by simpa using g1
    rw [← this]; exact f1
  rcases List.mem_cons.1 hs with rfl | hs
  · exact .inl rfl
  exact hm s hs
theorem VDm.new {b : Nat} (hs : FreshV P fl op v) (hk : VDm P orc (mk ||| 2 ^ i) ops n l (i + 1) ((d, v) :: fl) (nwSet false d nw) σ so (bs ++ [b]) (mem ||| 2 ^ i) K)
    (hb : beforeOf bs ⟨some d, op, ty, pos, after, g⟩ = b := by rfl) (hw : wantV ops fl g = some true := by rfl) (hn : (Nat.blt d n && Nat.ble n 4000) = true := by rfl) :
    VDm P orc mk ops n (⟨some d, op, ty, pos, after, g⟩ :: l) i fl nw σ so bs mem K := fun h0 G S0 t h ms segs I ho hm => by
  obtain ⟨n1, n2⟩ := fits hn; obtain ⟨M, m1, m2, m3, m4, m5, m6, m7⟩ := seen_ok (tail := false) (mem := mem) I hb (fun _ => ho); obtain ⟨mk', o, e1, e2⟩ := hs.2 h _ t I.slots.sees I.ok I.lc.lt; refine EvD.op (draw_fresh m1 m2 m3 m4 hb rfl hs.1 (want_ok I.slots hw) rfl (e2 M _ _ _ _ _) n1) (hk h0 G S0 _ _ ms _ ((I.calm (Aft.push h o [])).set e1 n2) ?_ fun s hs => ?_)
  · exact (ho.set (old := false) n2 fun e => by cases e).next (After.push h o) (Nat.le_refl _)
  rcases List.mem_cons.1 hs with rfl | hs
  · exact .inr bit_own
  exact (hm s hs).imp_right bit_or
theorem seen_all {b : Nat} {o : Oper} (hb : beforeOf bs o = b) (hmk : Nat.beq (mk &&& b) mk = true) (hm : ∀ s ∈ segs, s.2.1 = s.2.2 ∨ mk.testBit s.1 = true) : seenBy o ⟨t, h, bs, segs, mem, false⟩ = entry h := by
  have e : mask b segs h.objs = h.objs := mask_all fun s hs => (hm s hs).imp_right fun h1 => by
    have h2 : (mk &&& b).testBit s.1 = mk.testBit s.1 := by rw [nbeq hmk]
    rw [Nat.testBit_and, h1] at h2; simpa using h2
  unfold seenBy entry; simp only [hb, e]; cases Nat.beq (mem &&& b) mem <;> rfl
theorem VDm.callG {b : Nat} {f : Operand} {args : Array Operand} {ats : Array TypeId} {F : PV} {asl : List PV} {Qr : PV → Sto → Prop} (hf : evV fl f = some F) (ha : evVs fl args.toList = some asl) (hc : VCallG P orc F asl [] Qr) (hk : ∀ r γ', Qr r γ' → VDm P orc (mk ||| 2 ^ i) ops n l (i + 1) ((d, r) :: fl) (nwSet false d nw0) (γ' ++ σ) false (bs ++ [b]) (mem ||| 2 ^ i) K)
    (hb : beforeOf bs ⟨some d, .call { callee := .value f, args := args, argTypes := ats }, ty, pos, after, g⟩ = b := by rfl) (hmk : Nat.beq (mk &&& b) mk = true := by rfl) (hw : wantV ops fl g = some true := by rfl) (hn : (Nat.blt d n && Nat.ble n 4000) = true := by rfl) :
    VDm P orc mk ops n (⟨some d, .call { callee := .value f, args := args, argTypes := ats }, ty, pos, after, g⟩ :: l) i fl nw0 σ so bs mem K := fun h0 G S0 t h ms segs I ho0 hm0 => by
  have ho : false = false → Old S0 h σ t fl nw0 so segs := fun _ => ho0; obtain ⟨n1, n2⟩ := fits hn; obtain ⟨M, m1, m2, m3, m4, m5, m6, m7⟩ := seen_ok (tail := false) (mem := mem) I hb ho; obtain rfl := m1.symm.trans (seen_all hb hmk hm0); have Le := I.lc.objs (h' := entry h) (fun _ => rfl) rfl; obtain ⟨fid, a, c, rfl, hv⟩ := hc; obtain ⟨va, vc, h1, h2, h3⟩ := (evV_ok Le.slots hf : RepPV (entry h) _ (.clo fid a c) (evalO t f)); have hargs := (h2.append (evVs_ok Le.slots ha)).append h3; refine EvD.call (o := ⟨some d, .call { callee := .value f, args := args, argTypes := ats }, ty, pos, after, g⟩) (want_ok I.slots hw) rfl rfl h1 rfl ?_; rw [m1]; refine (hv (entry h) (own σ ++ S0) _ m2 Le.sokA (fun c hc => by cases hc) List.nodup_nil (fun b hb => by cases hb) hargs).mono fun u h' hq => ?_; obtain ⟨r, γ', q1, q2, q3⟩ := hq; have hA : After (entry h) h' := q2.aft.after; have hl : h.next ≤ h'.low := hA.low h.next (Nat.le_refl _) (Nat.le_refl _)
  have hlow : Nat.ble h.next h'.low = true := by rw [Nat.ble_eq]; exact hl
  have hnx : h.next ≤ h'.next := hA.next; refine ⟨blt_of_le hnx, by simp only [hlow, Bool.true_or], _, put_fits n1 t u, ?_⟩
  have hd : drewOn ⟨some d, .call { callee := .value f, args := args, argTypes := ats }, ty, pos, after, g⟩ i ⟨t, h, bs, segs, mem, false⟩ (t.set depth d u) h' =
      ⟨t.set depth d u, { next := h'.next, low := h.low, objs := newer h.next h'.next h'.objs ++ h.objs }, bs ++ [b], (i, h.next, h'.next) :: segs, mem ||| 2 ^ i, false⟩ := by
    unfold drewOn; simp only [hlow, cond_true, hb]
  rw [hd]; obtain ⟨e1, e2⟩ := newer_left (h' := h') I.ok m5 rfl hA m2
  have hm : Made (own σ ++ S0) h { next := h'.next, low := h.low, objs := newer h.next h'.next h'.objs ++ h.objs } [] γ' := {
    aft := ⟨e1.next, fun b hb _ => e1.get b hb, e1.ok, fun e h3 h4 _ => e1.low e h3 h4, fun b hb => .inl (e1.get b hb), Nat.le_refl _⟩
    new := q2.new
    apart := q2.apart
    cells := fun c hc => (q2.cells c hc).keep (fun b hb => by
      obtain ⟨o, hg, _⟩ := (q2.cells c hc).isObj b hb
      exact ((e2 []) b _ hg (by simp)).1.trans hg.symm) (e2 _) fun b hb => List.mem_append_left _ (List.mem_flatMap.2 ⟨c, hc, hb⟩) }
  have hm2 := Made.app (γ := []) I.lc hm
  have q3' : RepPV { next := h'.next, low := h.low, objs := newer h.next h'.next h'.objs ++ h.objs } (own (γ' ++ σ) ++ S0) r u := by
    rw [own_app, List.append_assoc]; exact q3.nx (e2 _)
  refine hk r γ' q1 h0 G S0 _ _ ms _ ((I.made hm2).set q3' n2) ?_ fun s hs => by
    rcases List.mem_cons.1 hs with rfl | hs
    · exact .inr bit_own
    exact (hm0 s hs).imp_right bit_or
  obtain ⟨hs', a1, a2, a3, a4, a5, a6⟩ := ho0.set (v := r) (u := u) (old := false) n2 fun e => by cases e
  refine ⟨hs', a1, a2.trans e1, SegsOk.cons a2.next a3, a4, fun k pv hk hn => (a5 k pv hk hn).nx (h := hs') fun b ob hg hb => ⟨hg, ?_⟩, fun e => by cases e⟩; have h3 := a1 b ob hg; have h4 := a2.next; intro hmm; rcases List.mem_append.1 hmm with hmm | hmm
  · rcases hm2.new b hmm with h5 | h5
    · exact hb (List.mem_append_left _ h5)
    omega
  exact hb (List.mem_append_right _ hmm)
theorem VD.shut {tail : Bool} {c : Value × Cell} (nl : VL) (hs : Shut fl c nl) (hk : VD P orc ops n l i (nl ++ fl) (keysNew nl nw) σ false bs mem tail K) : VD P orc ops n l i fl nw (c :: σ) so bs mem tail K := fun h0 G S0 t h ms segs I ho =>
  hk h0 G S0 t h ms segs (I.shut hs) fun ht => by
    obtain ⟨hs0, a1, a2, a3, a4, a5, a6⟩ := ho ht; refine ⟨hs0, a1, a2, a3, a4, fun k pv hp hn => ?_, fun e => by cases e⟩; obtain ⟨h1, h2⟩ := keysNew_no (fl := fl) hn
    exact (a5 k pv (h1 pv hp) h2).nx (Goes.less fun b hb => by
      have ho : own (c :: σ) = blk c.1 ++ own σ := rfl; rw [ho]; rcases List.mem_append.1 hb with hm | hm
      · exact List.mem_append_left _ (List.mem_append_right _ hm)
      exact List.mem_append_right _ hm)
end Go.Fs
namespace Go.Proofs
open Go.Fs
set_option maxHeartbeats 1000000
theorem zt171 : ZerT Tryz.prog 171 y171 := zerT_of (z := .agg #[.slice none 0 0, .int .i64 0, .int .i64 0]) (by kernel_rfl) rfl rfl
theorem bt111 : BldT Tryz.prog 111 y111 [(0, 1), (1, 1)] := bldT_of zt111 rfl (by kernel_rfl)
theorem bt171 : BldT Tryz.prog 171 y171 [(0, 1), (1, 1), (2, 1)] := bldT_of zt171 rfl (by kernel_rfl)
theorem cBest1_ok {o : Int × Int} {i : Int} : VF Tryz.prog OA 150 [.v y111 o, .p (.int .i64) i] (B (decide (o.1 = i))) := by
  refine VF.enter Tryz.func150 rfl (fun _ _ => rfl) rfl ?_; show VC _ _ _ _ _ [(0, .v y111 o), (1, .p (.int .i64) i)] [] _; refine VC.seq (VC.text ?_); refine VO.new (.box) ?_; refine VO.c (.assign rfl) ?_; refine VO.go (VC.seq (VC.text ?_)); refine VO.c (.fa (.l .o)) ?_; refine VO.r (.ld vt3) ?_; refine VO.r (.ld vt3) ?_; refine VO.c (.eql) (VO.c (.assign rfl) (VO.go ?_)); refine VC.ret ?_; exact VEnd.one rfl evT (pvE (by rfl))
theorem end_nth {q : List (Int × Int)} (h : (((q.length : Nat) : Int) - 1).toNat < q.length) : q[(((q.length : Nat) : Int) - 1).toNat] = endP q := by
  have hp : 0 < q.length := by omega
  have := (last_take (p := q) (i := q.length) (Nat.le_refl _)).2 (by rw [List.length_take]; omega); rw [endP, this, List.getElem_take]; congr 1; rw [List.length_take]; omega
theorem end_nil {q : List (Int × Int)} (h : ¬ (0 : Int) < ((q.length : Nat) : Int)) : endP q = (-1, 0) := by
  have h0 : q.length = 0 := by omega
  rw [endP, h0] <;> rfl
theorem add_row {l : List Shp} {turn : Int} {r : List (Int × Int) × Int × Int} (hr : r = rowQ l r.1) {i : Nat} {x : Shp} (hx : shA l i = x) : ([r.1, [(((i : Nat) : Int), freeF l turn (endP r.1) (((i : Nat) : Int)).toNat)]].flatten, r.2.1 + x.2.2.2.2, freeF l turn (endP r.1) (((i : Nat) : Int)).toNat + x.2.2.1) = rowQ l (addQ l turn r.1 i) := by
  have h2 : r.2.1 = sumP l r.1 r.1.length := congrArg (fun z => z.2.1) hr; rw [rowQ_add, hx, ← h2, Int.toNat_natCast]; simp [addQ]
theorem flat_add {l : List Shp} {turn : Int} {q : List (Int × Int)} {i : Nat} : [q, [(((i : Nat) : Int), freeF l turn ((endP q).1, (endP q).2) (((i : Nat) : Int)).toNat)]].flatten = addQ l turn q i := by simp [addQ]
theorem betC_R' {l : List Shp} {p q : List (Int × Int)} : betC ((rowQ l p).1, (rowQ l p).2.1, (rowQ l p).2.2) ((rowQ l q).1, (rowQ l q).2.1, (rowQ l q).2.2) = betR l p q := betC_R
theorem cBestS_ok {x : (List (ByteArray × Int × Int × Int × Int)) × Int × Int} {r : (List (Int × Int)) × Int × Int} (hok : ShpOk x.1) (htu : 0 ≤ x.2.1 ∧ x.2.1 ≤ 1000) (hcl : 0 ≤ x.2.2 ∧ x.2.2 ≤ 100000) (hq : QI x.1 x.2.1 x.2.2 r.1) (hr : r = rowQ x.1 r.1) (ih : ∀ {r' : List (Int × Int) × Int × Int}, (∃ i, i < x.1.length ∧ goQ x.1 x.2.1 x.2.2 r.1 i = true ∧ r' = rowQ x.1 (addQ x.1 x.2.1 r.1 i)) → VF Tryz.prog OA 118 [.v y168 x, .v y171 r'] (.v y171 (rowQ x.1 (bestE x.1 x.2.1 x.2.2 r'.1)))) : VF Tryz.prog OA 118 [.v y168 x, .v y171 r] (.v y171 (rowQ x.1 (bestE x.1 x.2.1 x.2.2 r.1))) := by
  refine VF.enter Tryz.func118 rfl (fun _ _ => rfl) rfl ?_; show VC _ _ _ _ _ [(0, .v y168 x), (1, .v y171 r)] [] _; refine VC.seq (VC.text ?_); refine VO.new (.box) ?_; refine VO.new (.box) ?_; refine VO.cell (.alloc zt171) ?_; intro ww1; refine VO.go (VC.seq (VC.text ?_)); have hl8 := hok.len; have hql := hq.len; have hlk := last_qi hok hcl.2 hq.ok; refine VO.r (.ld vt171) ?_; refine VO.cell (.alloc zt171) ?_; intro ww2; refine VO.setV (cs' := [.v y59 r.1, I r.2.1, I r.2.2]) vt171 .v ?_; refine VO.go (VC.seq (VC.text ?_)); refine VO.ldG (x := ((-1 : Int), (0 : Int))) (.head _) vt111 ?_; refine VO.cell (.alloc zt111) ?_; intro ww3; refine VO.setV (cs' := [I (-1 : Int), I (0 : Int)]) vt111 .v ?_; refine VO.go (VC.seq (VC.seq (VC.text ?_))); refine VO.c (.fa (.l .o)) ?_; refine VO.r (.ld vt59) ?_; refine VO.r (.len el59) ?_; refine VO.c (.assign rfl) ?_; refine VO.go (VC.seq (VC.text ?_)); refine VO.c (.move rfl) (VO.c (.gtr) (VO.go ?_)); refine VC.join [(2, .p y168 x), (3, .p y171 r), (4, .raw ww1), (5, .raw ww2), (6, .raw ww3)] [(ww3, .var [I ((endP r.1).1), I ((endP r.1).2)]), (ww2, .var [.v y59 r.1, I r.2.1, I r.2.2]), (ww1, .var [.v y59 [], I (0 : Int), I (0 : Int)])] ?_ ?_; refine VC.condD rfl (fun c4 => ?_) (fun c4 => ?_)
  · refine VC.text ?_; refine VO.c (.fa (.l .o)) ?_; refine VO.r (.ld vt59) ?_; refine VO.c (.move rfl) (VO.c (.sub rfl rfl (by omega)) (VO.c (.ixZ (k := (((r.1.length : Nat) : Int) - (1 : Int))) rfl rfl el59 (by omega) (by omega)) ?_)); refine VO.r (.ld vt111) ?_; refine VO.setV (cs' := [I ((r.1[Int.toNat (((r.1.length : Nat) : Int) - (1 : Int))]).1), I ((r.1[Int.toNat (((r.1.length : Nat) : Int) - (1 : Int))]).2)]) vt111 .v ?_; refine VO.nil ?_; exact ⟨⟨rfl, rfl, rfl, rfl, rfl, trivial⟩, (by first | (rw [end_nil c4]; rfl) | (rw [end_nth]; rfl))⟩
  · refine VC.skip ?_; exact ⟨⟨rfl, rfl, rfl, rfl, rfl, trivial⟩, (by first | (rw [end_nil c4]; rfl) | (rw [end_nth]; rfl))⟩
  refine VC.seq (VC.seq (VC.text ?_)); refine VO.c (.fa (.l .o)) ?_; refine VO.r (.ld vt62) ?_; refine VO.r (.len el62) ?_; refine VO.c (.move rfl) ?_; refine VO.go (VC.block ?_); refine VC.keep [(2, .p y168 x), (3, .p y171 r), (4, .raw ww1), (5, .raw ww2), (6, .raw ww3), (27, .v y62 x.1), (28, I ((x.1.length : Nat) : Int)), (29, I ((0 : Nat) : Int))] ⟨rfl, rfl, rfl, rfl, rfl, rfl, rfl, rfl, trivial⟩ ?_; refine VC.loop (I := fun kk ff ss => ∃ (i : Nat), kk = x.1.length - i ∧ ff = [(2, .p y168 x), (3, .p y171 r), (4, .raw ww1), (5, .raw ww2), (6, .raw ww3), (27, .v y62 x.1), (28, I ((x.1.length : Nat) : Int)), (29, I ((i : Nat) : Int))] ∧ ss = [(ww3, .var [I ((endP r.1).1), I ((endP r.1).2)]), (ww2, .var [.v y59 ((rowQ x.1 (bestP x.1 x.2.1 x.2.2 r.1 i)).1), I ((rowQ x.1 (bestP x.1 x.2.1 x.2.2 r.1 i)).2.1), I ((rowQ x.1 (bestP x.1 x.2.1 x.2.2 r.1 i)).2.2)]), (ww1, .var [.v y59 [], I (0 : Int), I (0 : Int)])] ∧ (i ≤ x.1.length)) ?_ _ _ _ ⟨0, rfl, rfl, (by rw [show bestP x.1 x.2.1 x.2.2 r.1 0 = r.1 from rfl, ← hr] <;> rfl), Nat.zero_le _⟩; rintro kk ff ss ⟨i, hk0, rfl, rfl, hi⟩; refine VC.seq (VC.text ?_); refine VO.c (.lss) ?_; refine VO.go (VC.seq ?_); refine VC.condD rfl (fun c7 => ?_) (fun c7 => ?_)
  · have hlt : i < x.1.length := by omega
    have hga := hok.lng i; have hpr := hok.pri i; have hsa := shA_eq hlt; rw [hsa] at hga hpr; have hfb : 0 ≤ freeF x.1 x.2.1 ((endP r.1).1, (endP r.1).2) (((i : Nat) : Int)).toNat ∧ freeF x.1 x.2.1 ((endP r.1).1, (endP r.1).2) (((i : Nat) : Int)).toNat ≤ 102000 := free_b hok htu hlk i; have hr2 : r.2.1 = sumP x.1 r.1 r.1.length := congrArg (fun z => z.2.1) hr; have hsb := sumP_b hok (p := r.1) r.1.length; have hbo := bestP_ok hok hq (n := i) (by omega); refine VC.skip (VC.seq (VC.block (VC.seq (VC.text ?_)))); refine VO.c (.move rfl) (VO.c (.ix (j := i) rfl rfl el62 (by omega)) ?_); refine VO.r (.ld vt173) ?_; refine VO.cell (.alloc zt3) ?_; intro ww4; refine VO.cell (.alloc zt173) ?_; intro ww5; refine VO.perm swap1 ?_; refine VO.setV (cs' := [I ((i : Nat) : Int)]) vt3 .v ?_; refine VO.shut [(8, .p (.int .i64) ((i : Nat) : Int))] (.cons rfl (.var m0 .refl) .nil) ?_; refine VO.setV (cs' := [St ((x.1[i]).1), I ((x.1[i]).2.1), I ((x.1[i]).2.2.1), I ((x.1[i]).2.2.2.1), I ((x.1[i]).2.2.2.2)]) vt173 .v ?_; refine VO.shut [(9, .p y173 (x.1[i]))] (.cons rfl (.var m0 .refl) .nil) ?_; refine VO.go (VC.seq (VC.text ?_)); refine VO.r (.ld vt168) ?_; refine VO.r (.ldA (dx := (((endP r.1).1), ((endP r.1).2))) m0 vt111) ?_; refine VO.r (.ld vt3) ?_; refine VO.call rfl rfl (VF.call (cFree_ok ⟨(by omega), (by omega)⟩ hok htu hlk)) ?_; refine VO.c (.assign rfl) ?_; refine VO.go (VC.seq (VC.text ?_)); refine VO.c (.fa (.l .o)) ?_; refine VO.r (.ld vt59) ?_; refine VO.c (.func) ?_; refine VO.call rfl rfl (VF.call (zContPa_ok (F := fun o => decide (o.1 = ((i : Nat) : Int))) (by omega) (fun o _ => VF.clo cBest1_ok))) ?_; refine VO.c (.assign rfl) ?_; refine VO.go (VC.seq (VC.seq (VC.text ?_))); refine VO.c (.move rfl) (VO.c (.move rfl) ?_); refine VO.cg (r := r.1.any (fun o => decide (o.1 = ((i : Nat) : Int)))) (w := false) [] trivial (fun _ => (.move rfl)) ?_; refine VO.cg (r := r.1.any (fun o => decide (o.1 = ((i : Nat) : Int)))) (w := false) [] trivial (fun _ => (.fa (.r (.r (.l .o))))) ?_; refine VO.rg (r := r.1.any (fun o => decide (o.1 = ((i : Nat) : Int)))) (w := false) [(45, .p (.int .i64) ((x.1[i]).2.2.1))] ⟨rfl, trivial⟩ (fun _ => (.ld vt3)) ?_; refine VO.cg (r := r.1.any (fun o => decide (o.1 = ((i : Nat) : Int)))) (w := false) [(44, I (freeF x.1 x.2.1 (((endP r.1).1), ((endP r.1).2)) ((i : Nat) : Int).toNat)), (46, I ((x.1[i]).2.2.1))] ⟨rfl, rfl, trivial⟩ (fun hgd => have g11_1 : r.1.any (fun o => decide (o.1 = ((i : Nat) : Int))) = false := (by simpa using hgd); (.add rfl rfl (by omega))) ?_; refine VO.cg (r := r.1.any (fun o => decide (o.1 = ((i : Nat) : Int)))) (w := false) [] trivial (fun _ => (.fa (.r (.r (k := 0) .o)))) ?_; refine VO.rg (r := r.1.any (fun o => decide (o.1 = ((i : Nat) : Int)))) (w := false) [(48, .p (.int .i64) x.2.2)] ⟨rfl, trivial⟩ (fun _ => (.ld vt3)) ?_; refine VO.cg (r := r.1.any (fun o => decide (o.1 = ((i : Nat) : Int)))) (w := false) [(47, I (freeF x.1 x.2.1 (((endP r.1).1), ((endP r.1).2)) ((i : Nat) : Int).toNat + (x.1[i]).2.2.1)), (49, I x.2.2)] ⟨rfl, rfl, trivial⟩ (fun _ => (.gtr)) ?_; refine VO.c (.or) (VO.go ?_); refine VC.condB rfl (fun c11 => ?_) (fun c11 => ?_)
    · try simp only [Bool.and_eq_true, Bool.or_eq_true, Bool.and_eq_false_iff, Bool.or_eq_false_iff, Bool.not_eq_true', Bool.not_eq_false', decide_eq_true_eq, decide_eq_false_iff_not] at c11
      have hgo : ¬ goQ x.1 x.2.1 x.2.2 r.1 i = true := by
        intro hg; have h1 := go_has hg; have h2 := of_decide_eq_true (band hg).2; rw [hsa] at h2; rcases c11 with h | h
        · have h : hasQ r.1 i = true := h; rw [h1] at h; cases h
        have h : x.2.2 < freeF x.1 x.2.1 (endP r.1) i + x.1[i].2.2.1 := h; omega
      refine VC.exit (VC.text ?_); refine VO.c (.add rfl rfl (by omega)) (VO.c (.move rfl) ?_); refine VO.nil ?_; refine ⟨_, [(2, .p y168 x), (3, .p y171 r), (4, .raw ww1), (5, .raw ww2), (6, .raw ww3), (27, .v y62 x.1), (28, I ((x.1.length : Nat) : Int)), (29, I (((i + 1) : Nat) : Int))], ?_, ⟨rfl, rfl, rfl, rfl, rfl, rfl, rfl, rfl, trivial⟩, (i + 1), rfl, rfl, (by first | (rw [bestP_n hgo]; done) | (rw [flat_add, bestP_s hgo, if_pos c13]; done) | (rw [bestP_s hgo, if_neg (by rw [c13]; decide)]; done)), (by omega)⟩; omega
    try simp only [Bool.and_eq_true, Bool.or_eq_true, Bool.and_eq_false_iff, Bool.or_eq_false_iff, Bool.not_eq_true', Bool.not_eq_false', decide_eq_true_eq, decide_eq_false_iff_not] at c11
    have hgo : goQ x.1 x.2.1 x.2.2 r.1 i = true := goQ_t c11.1 (by rw [hsa]; exact c11.2); have hbe := bestE_ok hok _ (Nat.le_refl _) (hq.add hok hlt hgo); refine VC.skip (VC.seq ?_); refine VC.drawnM ?_; refine VDm.r [] (.ld vt168) (.inl rfl) ?_; refine VDm.c (.fa (.l .o)) ?_; refine VDm.r [] (.ld vt59) (.inl rfl) ?_; refine VDm.r [] (.ld vt3) (.inl rfl) ?_; refine VDm.c (.move rfl) ?_; refine VDm.c (.build (((i : Nat) : Int), freeF x.1 x.2.1 (((endP r.1).1), ((endP r.1).2)) ((i : Nat) : Int).toNat) bt111) ?_; refine VDm.nws [] ?_; refine VDm.new (.lit [(((i : Nat) : Int), freeF x.1 x.2.1 (((endP r.1).1), ((endP r.1).2)) ((i : Nat) : Int).toNat)] el59) ?_; refine VDm.new (.lit [r.1, [(((i : Nat) : Int), freeF x.1 x.2.1 (((endP r.1).1), ((endP r.1).2)) ((i : Nat) : Int).toNat)]] el213) ?_; refine VDm.callG rfl rfl (VFG.call (zConcatPa_ok (by simp) (by simp; omega))) ?_; rintro _ _ ⟨ww6, rfl, rfl⟩; refine VDm.go ?_; show VD _ _ _ _ _ _ _ _ [(ww6, .row 111 y111 ([r.1, [(((i : Nat) : Int), freeF x.1 x.2.1 (((endP r.1).1), ((endP r.1).2)) ((i : Nat) : Int).toNat)]].flatten)), (ww3, .var [I ((endP r.1).1), I ((endP r.1).2)]), (ww2, .var [.v y59 ((rowQ x.1 (bestP x.1 x.2.1 x.2.2 r.1 i)).1), I ((rowQ x.1 (bestP x.1 x.2.1 x.2.2 r.1 i)).2.1), I ((rowQ x.1 (bestP x.1 x.2.1 x.2.2 r.1 i)).2.2)]), (ww1, .var [.v y59 [], I (0 : Int), I (0 : Int)])] _ _ _ _ _; refine VD.c (.fa (.r (.l .o))) ?_; refine VD.r [] (.ld vt3) (.inl rfl) ?_; refine VD.c (.fa (.r (.r (.r (.r .o))))) ?_; refine VD.r [] (.ld vt3) (.inl rfl) ?_; refine VD.nw [60, 59, 58] (VD.c (.add rfl rfl (by omega)) (VD.c (.move rfl) (VD.c (.fa (.r (.r (.l .o)))) ?_))); refine VD.r [] (.ld vt3) (.inl rfl) ?_; refine VD.c (.add rfl rfl (by omega)) ?_; refine VD.shut [(60, .v y59 ([r.1, [(((i : Nat) : Int), freeF x.1 x.2.1 (((endP r.1).1), ((endP r.1).2)) ((i : Nat) : Int).toNat)]].flatten))] (.cons rfl (.row m0) .nil) ?_; refine VD.c (.build (([r.1, [(((i : Nat) : Int), freeF x.1 x.2.1 (((endP r.1).1), ((endP r.1).2)) ((i : Nat) : Int).toNat)]].flatten), (r.2.1 + (x.1[i]).2.2.2.2), (freeF x.1 x.2.1 (((endP r.1).1), ((endP r.1).2)) ((i : Nat) : Int).toNat + (x.1[i]).2.2.1)) bt171) ?_; refine VD.callO rfl rfl (VF.call (ih ⟨i, hlt, hgo, add_row hr hsa⟩)) ?_; refine VD.nw [71, 70, 60, 60, 59, 58] ?_; refine VD.cell (.alloc zt171) ?_; intro ww7; refine VD.mk0 (MakeV.setF (k := 0) vt171 .v (Nat.le_of_ble_eq_true rfl) (.inr ⟨rfl, rfl⟩) rfl rfl) ?_; rintro _ _ tl8 ⟨rfl, rfl⟩; refine VD.go (VC.seq ?_); refine VC.keep [(2, .p y168 x), (3, .p y171 r), (4, .raw ww1), (5, .raw ww2), (6, .raw ww3), (12, .raw ww7), (27, .v y62 x.1), (28, I ((x.1.length : Nat) : Int)), (29, I ((i : Nat) : Int))] ⟨rfl, rfl, rfl, rfl, rfl, rfl, rfl, rfl, rfl, trivial⟩ ?_; refine VC.text ?_; refine VO.r (.ldA (dx := rowQ x.1 (bestE x.1 x.2.1 x.2.2 ([r.1, [(((i : Nat) : Int), freeF x.1 x.2.1 (((endP r.1).1), ((endP r.1).2)) ((i : Nat) : Int).toNat)]].flatten))) m0 vt171) ?_; refine VO.r (.ldA (dx := (((rowQ x.1 (bestP x.1 x.2.1 x.2.2 r.1 i)).1), ((rowQ x.1 (bestP x.1 x.2.1 x.2.2 r.1 i)).2.1), ((rowQ x.1 (bestP x.1 x.2.1 x.2.2 r.1 i)).2.2))) m2 vt171) ?_; refine VO.call rfl rfl (VF.call (cBetter_ok (Nat.lt_of_le_of_lt hbe.2 (by omega)) (Nat.lt_of_le_of_lt hbo.2 (by omega)))) ?_; refine VO.go ?_; refine VC.condB rfl (fun c13 => ?_) (fun c13 => ?_)
    · rw [flat_add, betC_R'] at c13; refine VC.text ?_; refine VO.r (.ldA (dx := rowQ x.1 (bestE x.1 x.2.1 x.2.2 ([r.1, [(((i : Nat) : Int), freeF x.1 x.2.1 (((endP r.1).1), ((endP r.1).2)) ((i : Nat) : Int).toNat)]].flatten))) m0 vt171) ?_; refine VO.perm swap2 ?_; refine VO.setV (cs' := [.v y59 ((rowQ x.1 (bestE x.1 x.2.1 x.2.2 ([r.1, [(((i : Nat) : Int), freeF x.1 x.2.1 (((endP r.1).1), ((endP r.1).2)) ((i : Nat) : Int).toNat)]].flatten))).1), I ((rowQ x.1 (bestE x.1 x.2.1 x.2.2 ([r.1, [(((i : Nat) : Int), freeF x.1 x.2.1 (((endP r.1).1), ((endP r.1).2)) ((i : Nat) : Int).toNat)]].flatten))).2.1), I ((rowQ x.1 (bestE x.1 x.2.1 x.2.2 ([r.1, [(((i : Nat) : Int), freeF x.1 x.2.1 (((endP r.1).1), ((endP r.1).2)) ((i : Nat) : Int).toNat)]].flatten))).2.2)]) vt171 .v ?_; refine VO.nil (VC.text ?_); refine VO.c (.add rfl rfl (by omega)) (VO.c (.move rfl) ?_); refine VO.perm swap1 ?_; refine VO.forget ?_; refine VO.perm swap2 ?_; refine VO.perm swap1 ?_; refine VO.perm swap2 ?_; refine VO.nil ?_; refine ⟨_, [(2, .p y168 x), (3, .p y171 r), (4, .raw ww1), (5, .raw ww2), (6, .raw ww3), (27, .v y62 x.1), (28, I ((x.1.length : Nat) : Int)), (29, I (((i + 1) : Nat) : Int))], ?_, ⟨rfl, rfl, rfl, rfl, rfl, rfl, rfl, rfl, trivial⟩, (i + 1), rfl, rfl, (by first | (rw [bestP_n hgo]; done) | (rw [flat_add, bestP_s hgo, if_pos c13]; done) | (rw [bestP_s hgo, if_neg (by rw [c13]; decide)]; done)), (by omega)⟩; omega
    rw [flat_add, betC_R'] at c13; refine VC.skip (VC.text ?_); refine VO.c (.add rfl rfl (by omega)) (VO.c (.move rfl) ?_); refine VO.forget ?_; refine VO.nil ?_; refine ⟨_, [(2, .p y168 x), (3, .p y171 r), (4, .raw ww1), (5, .raw ww2), (6, .raw ww3), (27, .v y62 x.1), (28, I ((x.1.length : Nat) : Int)), (29, I (((i + 1) : Nat) : Int))], ?_, ⟨rfl, rfl, rfl, rfl, rfl, rfl, rfl, rfl, trivial⟩, (i + 1), rfl, rfl, (by first | (rw [bestP_n hgo]; done) | (rw [flat_add, bestP_s hgo, if_pos c13]; done) | (rw [bestP_s hgo, if_neg (by rw [c13]; decide)]; done)), (by omega)⟩; omega
  refine VC.exit (VC.seq (VC.text ?_)); refine VO.r (.ldA (dx := (((rowQ x.1 (bestP x.1 x.2.1 x.2.2 r.1 i)).1), ((rowQ x.1 (bestP x.1 x.2.1 x.2.2 r.1 i)).2.1), ((rowQ x.1 (bestP x.1 x.2.1 x.2.2 r.1 i)).2.2))) m1 vt171) ?_; refine VO.perm swap2 ?_; refine VO.setV (cs' := [.v y59 ((rowQ x.1 (bestP x.1 x.2.1 x.2.2 r.1 i)).1), I ((rowQ x.1 (bestP x.1 x.2.1 x.2.2 r.1 i)).2.1), I ((rowQ x.1 (bestP x.1 x.2.1 x.2.2 r.1 i)).2.2)]) vt171 .v ?_; refine VO.go ?_; refine VC.ret ?_; exact VEnd.one rfl (.cell (x := (((rowQ x.1 (bestP x.1 x.2.1 x.2.2 r.1 i)).1), ((rowQ x.1 (bestP x.1 x.2.1 x.2.2 r.1 i)).2.1), ((rowQ x.1 (bestP x.1 x.2.1 x.2.2 r.1 i)).2.2))) rfl m0 vt171 .refl) (pvE (by rw [show i = x.1.length by omega, bestP, ← bestE_eq]))
end Go.Proofs
namespace Go.Proofs
open Go.Fs
set_option maxHeartbeats 1000000
theorem eq128 : EqT Tryz.prog 128 y128 := eqT_of (by kernel_rfl)
theorem rPassN {l : List Shp} {turn clear : Int} (hok : ShpOk l) (htu : 0 ≤ turn ∧ turn ≤ 1000) (hcl : 0 ≤ clear ∧ clear ≤ 100000) : ∀ (n : Nat) {q : List (Int × Int)}, cntQ l.length q ≤ n → QI l turn clear q → VF Tryz.prog OA 124 [.v y57 l, I turn, I clear, .v y68 q] (.v y68 (bestE l turn clear q))
  | 0, q, h, hq => rPassS_ok hok htu hcl hq fun {q'} ⟨i, hi, hg, e⟩ => by have := cnt_pos hi (go_has hg); omega
  | n + 1, q, h, hq => rPassS_ok hok htu hcl hq fun {q'} ⟨i, hi, hg, e⟩ => by
    subst e; exact rPassN hok htu hcl n (by have := cnt_add (l := l) (turn := turn) hi (go_has hg); omega) (hq.add hok hi hg)
theorem rPass_ok {l : List Shp} {turn clear : Int} {q : List (Int × Int)} (hok : ShpOk l) (htu : 0 ≤ turn ∧ turn ≤ 1000) (hcl : 0 ≤ clear ∧ clear ≤ 100000) (hq : QI l turn clear q) : VF Tryz.prog OA 124 [.v y57 l, I turn, I clear, .v y68 q] (.v y68 (bestE l turn clear q)) := rPassN hok htu hcl _ (Nat.le_refl _) hq
theorem rPassNil_ok {l : List Shp} {turn clear : Int} (hok : ShpOk l) (htu : 0 ≤ turn ∧ turn ≤ 1000) (hcl : 0 ≤ clear ∧ clear ≤ 100000) : VF Tryz.prog OA 124 [.v y57 l, I turn, I clear, nilV] (.v y68 (bestE l turn clear [])) := VF.nilA [.v y57 l, I turn, I clear] [] (rPass_ok hok htu hcl QI.nil)
theorem rPassagesB_ok {l : List (ByteArray × Int × Int × Int × Int)} {turn : Int} {clear : Int} (hok : ShpOk l) (htu : 0 ≤ turn ∧ turn ≤ 1000) (hcl : 0 ≤ clear ∧ clear ≤ 100000) : VF Tryz.prog OA 47 [.v y57 l, I turn, I clear] (.v y68 (bestE l turn clear [])) := by
  refine VF.enter Tryz.func47 rfl (fun _ _ => rfl) rfl ?_; show VC _ _ _ _ _ [(0, .v y57 l), (1, I turn), (2, I clear)] [] _; refine VC.seq (VC.text ?_); refine VO.c (.assign rfl) ?_; refine VO.go (VC.seq (VC.text ?_)); refine VO.c (.move rfl) (VO.c (.move rfl) (VO.c (.move rfl) ?_)); refine VO.call rfl rfl (VF.call (rPassNil_ok hok htu hcl)) ?_; refine VO.c (.assign rfl) (VO.go ?_); refine VC.ret ?_; exact VEnd.one rfl evT (pvE (by rfl))
def uncL (l : List Shp) (turn clear : Int) : List Int := choL (fun i => !(hasQ (bestE l turn clear []) i.toNat)) l.length
theorem best0_len {l : List Shp} (hok : ShpOk l) {turn clear : Int} : (bestE l turn clear []).length ≤ l.length := (bestE_ok hok _ (Nat.le_refl _) QI.nil).2
theorem rUnclS_ok {l : List (ByteArray × Int × Int × Int × Int)} {turn : Int} {clear : Int} (hok : ShpOk l) (htu : 0 ≤ turn ∧ turn ≤ 1000) (hcl : 0 ≤ clear ∧ clear ≤ 100000) : VF Tryz.prog OA 48 [.v y57 l, I turn, I clear] (.v y25 (uncL l turn clear)) := by
  refine VF.enter Tryz.func48 rfl (fun _ _ => rfl) rfl ?_; show VC _ _ _ _ _ [(0, .v y57 l), (1, I turn), (2, I clear)] [] _; refine VC.seq (VC.text ?_); refine VO.c (.assign rfl) ?_; refine VO.go (VC.seq (VC.text ?_)); have hl8 := hok.len; have hb0 := best0_len hok (turn := turn) (clear := clear); refine VO.c (.move rfl) (VO.c (.move rfl) (VO.c (.move rfl) ?_)); refine VO.call rfl rfl (VF.call (rPassagesB_ok hok htu hcl)) ?_; refine VO.call rfl rfl (VF.call (rShipsOf_ok (by omega))) ?_; refine VO.c (.assign rfl) ?_; refine VO.go (VC.seq (VC.text ?_)); refine VO.c (.assign rfl) ?_; refine VO.go (VC.seq (VC.seq (VC.text ?_))); refine VO.c (.assign rfl) ?_; refine VO.go (VC.block ?_); refine VC.cell0 3 (.int .i64) ?_; refine VC.keep [(0, .v y57 l), (7, .v y25 (shpL (bestE l turn clear []) (bestE l turn clear []).length)), (8, .raw (.slice none 0 0)), (9, I ((0 : Nat) : Int))] ⟨rfl, rfl, rfl, rfl, trivial⟩ ?_; refine VC.loop (I := fun kk ff ss => ∃ (i : Nat) (out : Value), kk = l.length - i ∧ ff = [(0, .v y57 l), (7, .v y25 (shpL (bestE l turn clear []) (bestE l turn clear []).length)), (8, .raw out), (9, I ((i : Nat) : Int))] ∧ ss = [(out, .row 3 (.int .i64) (choL (fun i => !(hasQ (bestE l turn clear []) i.toNat)) i))] ∧ (i ≤ l.length)) ?_ _ _ _ ⟨0, (.slice none 0 0), rfl, rfl, rfl, Nat.zero_le _⟩; rintro kk ff ss ⟨i, out, hk0, rfl, rfl, hi⟩; refine VC.seq (VC.seq (VC.text ?_)); refine VO.c (.move rfl) (VO.c (.move rfl) ?_); refine VO.r (.len el57) ?_; refine VO.c (.lss) (VO.go ?_); refine VC.condD rfl (fun c4 => ?_) (fun c4 => ?_)
  · have hlt : i < l.length := by omega
    have hcl2 := choL_len (F := fun i => !(hasQ (bestE l turn clear []) i.toNat)) (n := i); refine VC.skip (VC.seq (VC.block (VC.seq (VC.text ?_)))); refine VO.c (.move rfl) (VO.c (.move rfl) ?_); refine VO.call rfl rfl (VF.call (rHasInt_ok (by rw [shpL_len]; omega))) ?_; refine VO.c (.not) (VO.go ?_); refine VC.condB rfl (fun c6 => ?_) (fun c6 => ?_)
    · try simp only [Bool.and_eq_true, Bool.or_eq_true, Bool.and_eq_false_iff, Bool.or_eq_false_iff, Bool.not_eq_true', Bool.not_eq_false', decide_eq_true_eq, decide_eq_false_iff_not] at c6
      rw [has_twi] at c6; refine VC.text ?_; refine VO.c (.move rfl) (VO.c (.move rfl) ?_); refine VO.new (.lit [((i : Nat) : Int)] el25) ?_; refine VO.app rfl rfl el25 el25 (by simp; omega) ?_; intro ww1; refine VO.c (.assign rfl) ?_; refine VO.nil (VC.text ?_); refine VO.c (.move rfl) (VO.c (.add rfl rfl (by omega)) (VO.c (.assign rfl) ?_)); refine VO.nil ?_; refine ⟨_, [(0, .v y57 l), (7, .v y25 (shpL (bestE l turn clear []) (bestE l turn clear []).length)), (8, .raw ww1), (9, I (((i + 1) : Nat) : Int))], ?_, ⟨rfl, rfl, rfl, rfl, trivial⟩, (i + 1), ww1, rfl, rfl, (by rw [choL_succ, Int.toNat_natCast]; first | (rw [if_pos (by rw [c6]; rfl)]; done) | (rw [if_neg (by rw [c6]; decide)]; done)), (by omega)⟩; omega
    try simp only [Bool.and_eq_true, Bool.or_eq_true, Bool.and_eq_false_iff, Bool.or_eq_false_iff, Bool.not_eq_true', Bool.not_eq_false', decide_eq_true_eq, decide_eq_false_iff_not] at c6
    rw [has_twi] at c6; refine VC.skip (VC.text ?_); refine VO.c (.move rfl) (VO.c (.add rfl rfl (by omega)) (VO.c (.assign rfl) ?_)); refine VO.nil ?_; refine ⟨_, [(0, .v y57 l), (7, .v y25 (shpL (bestE l turn clear []) (bestE l turn clear []).length)), (8, .raw out), (9, I (((i + 1) : Nat) : Int))], ?_, ⟨rfl, rfl, rfl, rfl, trivial⟩, (i + 1), out, rfl, rfl, (by rw [choL_succ, Int.toNat_natCast]; first | (rw [if_pos (by rw [c6]; rfl)]; done) | (rw [if_neg (by rw [c6]; decide)]; done)), (by omega)⟩; omega
  refine VC.exit (VC.seq (VC.text ?_)); refine VO.c (.move rfl) (VO.c (.assign rfl) (VO.go ?_)); refine VC.ret ?_; exact VEnd.one rfl (evC (.row m0)) (pvE (by rw [show i = l.length by omega] <;> rfl))
theorem lPassed_ok {l : List (Int × Int)} (hl : l.length < 100000) : VF Tryz.prog OA 52 [.v y59 l] (.v y68 l) := by
  refine VF.enter Tryz.func52 rfl (fun _ _ => rfl) rfl ?_; show VC _ _ _ _ _ [(0, .v y59 l)] [] _; refine VC.seq (VC.text ?_); refine VO.c (.assign rfl) ?_; refine VO.go (VC.seq (VC.text ?_)); refine VO.c (.assign rfl) ?_; refine VO.go (VC.seq (VC.seq (VC.text ?_))); refine VO.c (.move rfl) ?_; refine VO.r (.len el59) ?_; refine VO.c (.move rfl) ?_; refine VO.go (VC.block ?_); refine VC.cell0 128 y128 ?_; refine VC.keep [(3, .raw (.slice none 0 0)), (6, .v y59 l), (7, I ((l.length : Nat) : Int)), (8, I ((0 : Nat) : Int))] ⟨rfl, rfl, rfl, rfl, trivial⟩ ?_; refine VC.loop (I := fun kk ff ss => ∃ (i : Nat) (w : Value), kk = l.length - i ∧ ff = [(3, .raw w), (6, .v y59 l), (7, I ((l.length : Nat) : Int)), (8, I ((i : Nat) : Int))] ∧ ss = [(w, .row 128 y128 (l.take i))] ∧ (i ≤ l.length)) ?_ _ _ _ ⟨0, (.slice none 0 0), rfl, rfl, rfl, Nat.zero_le _⟩; rintro kk ff ss ⟨i, w, hk0, rfl, rfl, hi⟩; refine VC.seq (VC.text ?_); refine VO.c (.lss) ?_; refine VO.go (VC.seq ?_); refine VC.condD rfl (fun c3 => ?_) (fun c3 => ?_)
  · refine VC.skip (VC.seq (VC.block (VC.seq (VC.text ?_)))); refine VO.c (.ix (j := i) rfl rfl el59 (by omega)) ?_; refine VO.r (.ld vt111) ?_; refine VO.cell (.alloc zt111) ?_; intro ww2; refine VO.setV (cs' := [I ((l[i]).1), I ((l[i]).2)]) vt111 .v ?_; refine VO.shut [(5, .p y111 (l[i]))] (.cons rfl (.var m0 .refl) .nil) ?_; refine VO.go (VC.text ?_); refine VO.c (.move rfl) ?_; refine VO.r (.ld vt111) ?_; refine VO.new (.lit [l[i]] el68) ?_; refine VO.app rfl rfl el68 el68 (by simp; omega) ?_; intro ww3; refine VO.c (.assign rfl) ?_; refine VO.nil (VC.text ?_); refine VO.c (.add rfl rfl (by omega)) (VO.c (.move rfl) ?_); refine VO.nil ?_; refine ⟨_, [(3, .raw ww3), (6, .v y59 l), (7, I ((l.length : Nat) : Int)), (8, I (((i + 1) : Nat) : Int))], ?_, ⟨rfl, rfl, rfl, rfl, trivial⟩, (i + 1), ww3, rfl, rfl, (by rw [List.take_succ_eq_append_getElem (by omega)]), (by omega)⟩; omega
  refine VC.exit (VC.seq (VC.text ?_)); refine VO.c (.move rfl) (VO.c (.assign rfl) (VO.go ?_)); refine VC.ret ?_; exact VEnd.one rfl (evC (.row m0)) (pvE (by rw [List.take_of_length_le (by omega)]))
theorem ne_at {a b : List (Int × Int)} {i : Nat} (h1 : i < a.length) (h2 : i < b.length) (h : a[i] ≠ b[i]) : ¬ a = b := fun e => by subst e; exact h rfl
theorem rSamePa_ok {a : List (Int × Int)} {b : List (Int × Int)} (ha : a.length < 1000000) (hb : b.length < 1000000) : VF Tryz.prog OA 51 [.v y68 a, .v y68 b] (B (decide (a = b))) := by
  refine VF.enter Tryz.func51 rfl (fun _ _ => rfl) rfl ?_; show VC _ _ _ _ _ [(0, .v y68 a), (1, .v y68 b)] [] _; refine VC.seq (VC.text ?_); refine VO.c (.assign rfl) ?_; refine VO.go (VC.seq (VC.seq (VC.text ?_))); refine VO.c (.move rfl) ?_; refine VO.r (.len el68) ?_; refine VO.c (.move rfl) ?_; refine VO.r (.len el68) ?_; refine VO.c (.neq) (VO.go ?_); refine VC.condD rfl (fun c1 => ?_) (fun c1 => ?_)
  · refine VC.seq (VC.text ?_); refine VO.c (.assign rfl) (VO.go ?_); refine VC.ret ?_; exact VEnd.one rfl evT (pvE (by exact (decide_eq_false (fun e => by subst e; exact c1 rfl)).symm))
  have hlen : a.length = b.length := by omega
  refine VC.skip (VC.seq (VC.seq (VC.text ?_))); refine VO.c (.assign rfl) ?_; refine VO.go (VC.block ?_); refine VC.keep [(0, .v y68 a), (1, .v y68 b), (5, I ((0 : Nat) : Int))] ⟨rfl, rfl, rfl, trivial⟩ ?_; refine VC.loop (I := fun kk ff ss => ∃ (i : Nat), kk = a.length - i ∧ ff = [(0, .v y68 a), (1, .v y68 b), (5, I ((i : Nat) : Int))] ∧ ss = [] ∧ (i ≤ a.length) ∧ (∀ j (hj : j < a.length), j < i → a[j] = b[j]'(by omega))) ?_ _ _ _ ⟨0, rfl, rfl, rfl, Nat.zero_le _, (by intro j hj h; omega)⟩; rintro kk ff ss ⟨i, hk0, rfl, rfl, hi, hq⟩; refine VC.seq (VC.seq (VC.text ?_)); refine VO.c (.move rfl) (VO.c (.move rfl) ?_); refine VO.r (.len el68) ?_; refine VO.c (.lss) (VO.go ?_); refine VC.condD rfl (fun c4 => ?_) (fun c4 => ?_)
  · refine VC.skip (VC.seq (VC.block (VC.seq (VC.drawn ?_)))); refine VD.c (.move rfl) (VD.c (.move rfl) (VD.c (.ix (j := i) rfl rfl el68 (by omega)) ?_)); refine VD.r [] (.ld vt128) (.inl rfl) ?_; refine VD.c (.move rfl) (VD.c (.move rfl) (VD.nw [] (VD.c (.ix (j := i) rfl rfl el68 (by omega)) ?_))); refine VD.r [] (.ld vt128) (.inl rfl) ?_; refine VD.c (.eneq eq128) (VD.go ?_); refine VC.condD rfl (fun c6 => ?_) (fun c6 => ?_)
    · refine VC.seq (VC.text ?_); refine VO.c (.assign rfl) (VO.go ?_); refine VC.ret ?_; exact VEnd.one rfl evT (pvE (by exact (decide_eq_false (ne_at (by omega) (by omega) c6)).symm))
    refine VC.skip (VC.text ?_); refine VO.c (.move rfl) (VO.c (.add rfl rfl (by omega)) (VO.c (.assign rfl) ?_)); refine VO.nil ?_; refine ⟨_, [(0, .v y68 a), (1, .v y68 b), (5, I (((i + 1) : Nat) : Int))], ?_, ⟨rfl, rfl, rfl, trivial⟩, (i + 1), rfl, rfl, rfl, (by omega), (by intro j hj h; rcases Nat.lt_succ_iff_lt_or_eq.1 h with h | h; exact hq j hj h; subst h; exact Classical.not_not.1 c6)⟩; omega
  refine VC.exit (VC.seq (VC.text ?_)); refine VO.c (.assign rfl) (VO.go ?_); refine VC.ret ?_; exact VEnd.one rfl evT (pvE (by exact (decide_eq_true (List.ext_getElem hlen fun j h1 h2 => hq j h1 (by omega))).symm))
theorem cLate_ok {l : List (ByteArray × Int × Int × Int × Int)} {clear : Int} (hl : l.length < 100000) : VF Tryz.prog OA 44 [.v y62 l, I clear] (.tup [.v y25 (if firstE [shpsE l, rangeE clear 0 100000] = 0 then choL (fun i => decide (clear < (shA l i.toNat).2.1 + (shA l i.toNat).2.2.1)) l.length else []), I (firstE [shpsE l, rangeE clear 0 100000])]) := by
  refine VF.enter Tryz.func44 rfl (fun _ _ => rfl) rfl ?_; show VC _ _ _ _ _ [(0, .v y62 l), (1, I clear)] [] _; refine VC.seq (VC.text ?_); refine VO.new (.box) ?_; refine VO.new (.box) ?_; refine VO.c (.assign rfl) (VO.c (.assign rfl) ?_); refine VO.go (VC.seq (VC.seq (VC.drawn ?_))); refine VD.r [] (.ld vt62) (.inl rfl) ?_; refine VD.call rfl rfl (VF.call (cShips_ok (by first | assumption | omega | simp))) ?_; refine VD.r [] (.ld vt3) (.inl rfl) ?_; refine VD.call rfl rfl (VF.call (cTime_ok )) ?_; refine VD.new (.lit [shpsE l, rangeE clear 0 100000] el154) ?_; refine VD.callO rfl rfl (VF.call (cFirst_ok (by simp))) ?_; refine VD.nw [11] (VD.c (.assign rfl) ?_); refine VD.go (VC.seq (VC.text ?_)); refine VO.c (.move rfl) (VO.c (.neq) (VO.go ?_)); refine VC.condD rfl (fun c2 => ?_) (fun c2 => ?_)
  · refine VC.seq (VC.text ?_); refine VO.c (.move rfl) (VO.c (.assign rfl) (VO.c (.assign rfl) (VO.go ?_))); refine VC.ret ?_; exact VEnd.two rfl (evC .nil) evT (pvE (by rw [if_neg c2])) (pvI (by rfl))
  have hz := firstE_zero.1 (Classical.not_not.1 c2); have hok := ships_ok (hz _ List.mem_cons_self); refine VC.skip (VC.seq (VC.text ?_)); refine VO.r (.ld vt62) ?_; refine VO.c (.func) ?_; refine VO.call rfl rfl (VF.call (cChosen_ok (F := fun i => decide (clear < (shA l i.toNat).2.1 + (shA l i.toNat).2.2.1)) hl (fun i hi => VF.clo (cLate1_ok (by omega) (by omega) hok)))) ?_; refine VO.c (.assign rfl) (VO.c (.assign rfl) (VO.go ?_)); refine VC.ret ?_; exact VEnd.two rfl evT evT (pvE (by rw [if_pos (Classical.not_not.1 c2)])) (pvI (by exact (Classical.not_not.1 c2).symm))
end Go.Proofs
namespace Go.Proofs
open Go.Fs
set_option maxHeartbeats 1000000
theorem zt59 : ZerT Tryz.prog 59 y59 := zerT_of (z := .slice none 0 0) (by kernel_rfl) rfl rfl
theorem cBestN {x : List Shp × Int × Int} (hok : ShpOk x.1) (htu : 0 ≤ x.2.1 ∧ x.2.1 ≤ 1000) (hcl : 0 ≤ x.2.2 ∧ x.2.2 ≤ 100000) : ∀ (n : Nat) {r : List (Int × Int) × Int × Int}, cntQ x.1.length r.1 ≤ n → QI x.1 x.2.1 x.2.2 r.1 → r = rowQ x.1 r.1 → VF Tryz.prog OA 118 [.v y168 x, .v y171 r] (.v y171 (rowQ x.1 (bestE x.1 x.2.1 x.2.2 r.1)))
  | 0, r, h, hq, hr => cBestS_ok hok htu hcl hq hr fun {r'} ⟨i, hi, hg, e⟩ => by have := cnt_pos hi (go_has hg); omega
  | n + 1, r, h, hq, hr => cBestS_ok hok htu hcl hq hr fun {r'} ⟨i, hi, hg, e⟩ => by
    subst e; exact cBestN hok htu hcl n (by show cntQ x.1.length (addQ x.1 x.2.1 r.1 i) ≤ n; have := cnt_add (l := x.1) (turn := x.2.1) hi (go_has hg); omega) (hq.add hok hi hg) rfl
theorem cBest_ok {x : List Shp × Int × Int} {r : List (Int × Int) × Int × Int} (hok : ShpOk x.1) (htu : 0 ≤ x.2.1 ∧ x.2.1 ≤ 1000) (hcl : 0 ≤ x.2.2 ∧ x.2.2 ≤ 100000) (hr : r = ([], 0, 0)) : VF Tryz.prog OA 118 [.v y168 x, .v y171 r] (.v y171 (rowQ x.1 (bestE x.1 x.2.1 x.2.2 []))) := by
  subst hr; exact cBestN hok htu hcl _ (Nat.le_refl _) QI.nil rfl
theorem cPassagesB_ok {l : List (ByteArray × Int × Int × Int × Int)} {turn : Int} {clear : Int} (hl : l.length < 100000) : VF Tryz.prog OA 41 [.v y62 l, I turn, I clear] (.tup [.v y59 (if lockE l turn clear = 0 then bestE l turn clear [] else []), I (lockE l turn clear)]) := by
  refine VF.enter Tryz.func41 rfl (fun _ _ => rfl) rfl ?_; show VC _ _ _ _ _ [(0, .v y62 l), (1, I turn), (2, I clear)] [] _; refine VC.seq (VC.text ?_); refine VO.c (.assign rfl) (VO.c (.assign rfl) ?_); refine VO.go (VC.seq (VC.text ?_)); refine VO.c (.move rfl) (VO.c (.move rfl) (VO.c (.move rfl) (VO.c (.build (l, turn, clear) bt168) ?_))); refine VO.cell (.alloc zt168) ?_; intro ww1; refine VO.setV (cs' := [.v y62 l, I turn, I clear]) vt168 .v ?_; refine VO.shut [(8, .p y168 (l, turn, clear))] (.cons rfl (.var m0 .refl) .nil) ?_; refine VO.go (VC.seq (VC.seq (VC.text ?_))); refine VO.r (.ld vt168) ?_; refine VO.call rfl rfl (VF.call (cLockC_ok hl)) ?_; refine VO.c (.assign rfl) ?_; refine VO.go (VC.seq (VC.text ?_)); refine VO.c (.move rfl) (VO.c (.neq) (VO.go ?_)); refine VC.condD rfl (fun c3 => ?_) (fun c3 => ?_)
  · refine VC.seq (VC.text ?_); refine VO.c (.move rfl) (VO.c (.assign rfl) (VO.c (.assign rfl) (VO.go ?_))); refine VC.ret ?_; exact VEnd.two rfl (evC .nil) evT (pvE (by rw [if_neg c3])) (pvI (by rfl))
  have hL : lockE l turn clear = 0 := Classical.not_not.1 c3; have hO := lock_ok hL; refine VC.skip (VC.seq (VC.text ?_)); refine VO.r (.ld vt168) ?_; refine VO.c (.build ([], 0, 0) bt171) ?_; refine VO.call rfl rfl (VF.call (cBest_ok hO.1 hO.2.1 hO.2.2 rfl)) ?_; refine VO.c (.fld (.l .o)) (VO.c (.assign rfl) (VO.c (.assign rfl) (VO.go ?_))); refine VC.ret ?_; exact VEnd.two rfl evT evT (pvE (by rw [if_pos hL]; rfl)) (pvI (by exact hL.symm))
abbrev best0 (l : List Shp) (turn clear : Int) : List (Int × Int) := bestE l turn clear []
theorem cUnc11_ok {o : Int × Int} {i : Int} : VF Tryz.prog OA 122 [.v y111 o, .p (.int .i64) i] (B (decide (o.1 = i))) := by
  refine VF.enter Tryz.func122 rfl (fun _ _ => rfl) rfl ?_; show VC _ _ _ _ _ [(0, .v y111 o), (1, .p (.int .i64) i)] [] _; refine VC.seq (VC.text ?_); refine VO.new (.box) ?_; refine VO.c (.assign rfl) ?_; refine VO.go (VC.seq (VC.text ?_)); refine VO.c (.fa (.l .o)) ?_; refine VO.r (.ld vt3) ?_; refine VO.r (.ld vt3) ?_; refine VO.c (.eql) (VO.c (.assign rfl) (VO.go ?_)); refine VC.ret ?_; exact VEnd.one rfl evT (pvE (by rfl))
theorem cUnc1_ok {i : Int} {p : List (Int × Int)} (hp : p.length < 100000) (h0 : 0 ≤ i) : VF Tryz.prog OA 120 [I i, .p y59 p] (B (!(hasQ p i.toNat))) := by
  refine VF.enter Tryz.func120 rfl (fun _ _ => rfl) rfl ?_; show VC _ _ _ _ _ [(0, I i), (1, .p y59 p)] [] _; refine VC.seq (VC.text ?_); refine VO.new (.box) ?_; refine VO.c (.assign rfl) ?_; refine VO.go (VC.seq (VC.text ?_)); refine VO.r (.ld vt59) ?_; refine VO.c (.func) ?_; refine VO.call rfl rfl (VF.call (zContPa_ok (F := fun o => decide (o.1 = i)) (by omega) (fun o _ => VF.clo cUnc11_ok))) ?_; refine VO.c (.not) (VO.c (.assign rfl) (VO.go ?_)); refine VC.ret ?_; exact VEnd.one rfl evT (pvE (by rw [hasQ, Int.toNat_of_nonneg h0]))
theorem cUncl_ok {l : List (ByteArray × Int × Int × Int × Int)} {turn : Int} {clear : Int} (hl : l.length < 100000) : VF Tryz.prog OA 43 [.v y62 l, I turn, I clear] (.tup [.v y25 (if lockE l turn clear = 0 then uncL l turn clear else []), I (lockE l turn clear)]) := by
  refine VF.enter Tryz.func43 rfl (fun _ _ => rfl) rfl ?_; show VC _ _ _ _ _ [(0, .v y62 l), (1, I turn), (2, I clear)] [] _; refine VC.seq (VC.text ?_); refine VO.c (.assign rfl) (VO.c (.assign rfl) ?_); refine VO.go (VC.seq (VC.text ?_)); refine VO.c (.move rfl) (VO.c (.move rfl) (VO.c (.move rfl) ?_)); refine VO.call rfl rfl (VF.call (cPassagesB_ok hl)) ?_; refine VO.c (.move rfl) (VO.c (.extract) (VO.c (.extract) ?_)); refine VO.cell (.alloc zt59) ?_; intro ww2; refine VO.setV (cs' := [.v y59 (if lockE l turn clear = 0 then bestE l turn clear [] else [])]) vt59 .v ?_; refine VO.shut [(8, .p y59 (if lockE l turn clear = 0 then bestE l turn clear [] else []))] (.cons rfl (.var m0 .refl) .nil) ?_; refine VO.c (.assign rfl) ?_; refine VO.go (VC.seq (VC.seq (VC.text ?_))); refine VO.c (.move rfl) (VO.c (.neq) (VO.go ?_)); refine VC.condD rfl (fun c2 => ?_) (fun c2 => ?_)
  · refine VC.seq (VC.text ?_); refine VO.c (.move rfl) (VO.c (.assign rfl) (VO.c (.assign rfl) (VO.go ?_))); refine VC.ret ?_; exact VEnd.two rfl (evC .nil) evT (pvE (by rw [if_neg c2])) (pvI (by rfl))
  have hL : lockE l turn clear = 0 := Classical.not_not.1 c2; have hO := lock_ok hL; have hb0 := best0_len hO.1 (turn := turn) (clear := clear); have hl8 := hO.1.len; refine VC.skip (VC.seq (VC.text ?_)); refine VO.c (.move rfl) (VO.c (.func) ?_); refine VO.call rfl rfl (VF.call (cChosen_ok (F := fun i => !(hasQ (best0 l turn clear) i.toNat)) hl (fun i hi => by rw [if_pos hL]; exact VF.clo (cUnc1_ok (by omega) (by omega))))) ?_; refine VO.c (.assign rfl) (VO.c (.assign rfl) (VO.go ?_)); refine VC.ret ?_; exact VEnd.two rfl evT evT (pvE (by rw [if_pos hL]; rfl)) (pvI (by exact hL.symm))
end Go.Proofs
namespace Go.Proofs
open Go.Fs
set_option maxHeartbeats 1000000
theorem shortS_t {l : List Shp} (h : shortS l = true) : l.length ≤ 9 := by have := (of_decide_eq_true h : (∀ x ∈ l, x.1.size ≤ 40) ∧ (l.length ≤ 5 ∨ l.length = 9)).2; omega
theorem nest_first {a b c : Int} : firstE [a, firstE [b, c]] = firstE [a, b, c] := by
  unfold firstE; by_cases h : a = 0
  · rw [if_pos h, if_pos h]; by_cases h2 : b = 0
    · by_cases h3 : c = 0 <;> simp [firstE, h2, h3]
    simp [firstE, h2]
  rw [if_neg h, if_neg h]
end Go.Proofs
namespace Go.Proofs
open Go.Fs
set_option maxHeartbeats 1000000
theorem one_lock {l : List Shp} {turn clear : Int} : firstE [shpsE l, firstE [rangeE turn 0 1000, rangeE clear 0 100000]] = lockE l turn clear := nest_first
theorem lawShips_ok {l : List (ByteArray × Int × Int × Int × Int)} {turn : Int} {clear : Int} (hl : l.length ≤ 9223372036854775807) : VF Tryz.prog OA 6 [.v y57 l, I turn, I clear] (B true) := by
  refine VF.enter Tryz.func6 rfl (fun _ _ => rfl) rfl ?_; show VC _ _ _ _ _ [(0, .v y57 l), (1, I turn), (2, I clear)] [] _; refine VC.seq (VC.text ?_); refine VO.c (.assign rfl) ?_; refine VO.go (VC.seq (VC.seq (VC.text ?_))); refine VO.call rfl rfl (VF.call (awake_ok )) ?_; refine VO.c (.not) (VO.c (.move rfl) (VO.c (.move rfl) ?_)); refine VO.call rfl rfl (VF.call (rShortS_ok hl)) ?_; refine VO.c (.not) (VO.c (.pickF rfl rfl) (VO.go ?_)); refine VC.condB rfl (fun c1 => ?_) (fun c1 => ?_)
  · try simp only [Bool.and_eq_true, Bool.or_eq_true, Bool.and_eq_false_iff, Bool.or_eq_false_iff, Bool.not_eq_true', Bool.not_eq_false', decide_eq_true_eq, decide_eq_false_iff_not] at c1
    refine VC.seq (VC.text ?_); refine VO.call rfl rfl (VF.call (awake_ok )) ?_; refine VO.c (.assign rfl) (VO.go ?_); refine VC.ret ?_; exact VEnd.one rfl evT (pvE (by rfl))
  try simp only [Bool.and_eq_true, Bool.or_eq_true, Bool.and_eq_false_iff, Bool.or_eq_false_iff, Bool.not_eq_true', Bool.not_eq_false', decide_eq_true_eq, decide_eq_false_iff_not] at c1
  have hs := shortS_t (by simpa using c1)
  have hpb : (if lockE l turn clear = 0 then bestE l turn clear [] else []).length ≤ l.length := by
    split
    · rename_i h; exact best0_len (lock_ok h).1
    exact Nat.zero_le _
  have hub : (if lockE l turn clear = 0 then uncL l turn clear else []).length ≤ l.length := by
    split
    · exact choL_len
    exact Nat.zero_le _
  have hxb : (if firstE [shpsE l, rangeE clear 0 100000] = 0 then choL (fun i => decide (clear < (shA l i.toNat).2.1 + (shA l i.toNat).2.2.1)) l.length else []).length ≤ l.length := by
    split
    · exact choL_len
    exact Nat.zero_le _
  have hul : (uncL l turn clear).length ≤ l.length := choL_len; have hlr : (choL (fun i => decide (clear < (shA l i.toNat).2.1 + (shA l i.toNat).2.2.1)) l.length).length ≤ l.length := choL_len; refine VC.skip (VC.seq (VC.text ?_)); refine VO.c (.move rfl) ?_; refine VO.call rfl rfl (VF.call (lShips_ok (by omega))) ?_; refine VO.c (.move rfl) (VO.c (.move rfl) ?_); refine VO.call rfl rfl (VF.call (cPassagesB_ok (by omega))) ?_; refine VO.c (.move rfl) (VO.c (.extract) (VO.c (.extract) (VO.c (.assign rfl) ?_))); refine VO.c (.assign rfl) ?_; refine VO.go (VC.seq (VC.text ?_)); refine VO.c (.move rfl) ?_; refine VO.call rfl rfl (VF.call (lShips_ok (by omega))) ?_; refine VO.c (.move rfl) (VO.c (.move rfl) ?_); refine VO.call rfl rfl (VF.call (cUncl_ok (by omega))) ?_; refine VO.c (.move rfl) (VO.c (.extract) (VO.c (.extract) (VO.c (.assign rfl) ?_))); refine VO.c (.assign rfl) ?_; refine VO.go (VC.seq (VC.text ?_)); refine VO.c (.move rfl) ?_; refine VO.call rfl rfl (VF.call (lShips_ok (by omega))) ?_; refine VO.c (.move rfl) ?_; refine VO.call rfl rfl (VF.call (cLate_ok (by omega))) ?_; refine VO.c (.move rfl) (VO.c (.extract) (VO.c (.extract) (VO.c (.assign rfl) ?_))); refine VO.c (.assign rfl) ?_; refine VO.go (VC.seq ?_); refine VC.keep [(0, .v y57 l), (1, I turn), (2, I clear), (7, .v y59 (if lockE l turn clear = 0 then bestE l turn clear [] else [])), (8, I (lockE l turn clear)), (9, .v y25 (if lockE l turn clear = 0 then uncL l turn clear else [])), (10, I (lockE l turn clear)), (11, .v y25 (if firstE [shpsE l, rangeE clear 0 100000] = 0 then choL (fun i => decide (clear < (shA l i.toNat).2.1 + (shA l i.toNat).2.2.1)) l.length else [])), (12, I (firstE [shpsE l, rangeE clear 0 100000]))] ⟨rfl, rfl, rfl, rfl, rfl, rfl, rfl, rfl, rfl, trivial⟩ ?_; refine VC.text ?_; refine VO.c (.move rfl) ?_; refine VO.call rfl rfl (VF.call (rShips_ok (by omega))) ?_; refine VO.c (.assign rfl) ?_; refine VO.go (VC.seq (VC.text ?_)); refine VO.c (.move rfl) (VO.c (.move rfl) (VO.c (.move rfl) ?_)); refine VO.call rfl rfl (VF.call (rTurn_ok )) ?_; refine VO.new (.lit [shpsE l, firstE [rangeE turn 0 1000, rangeE clear 0 100000]] el25) ?_; refine VO.call rfl rfl (VF.call (lFirst_ok (by simp))) ?_; refine VO.c (.move rfl) (VO.c (.move rfl) ?_); refine VO.call rfl rfl (VF.call (rTime_ok )) ?_; refine VO.new (.lit [shpsE l, rangeE clear 0 100000] el25) ?_; refine VO.call rfl rfl (VF.call (lFirst_ok (by simp))) ?_; refine VO.c (.assign rfl) (VO.c (.assign rfl) ?_); refine VO.go (VC.seq (VC.text ?_)); refine VO.c (.assign rfl) ?_; refine VO.go (VC.seq (VC.text ?_)); refine VO.c (.assign rfl) (VO.c (.assign rfl) ?_); refine VO.go (VC.seq (VC.seq ?_)); refine VC.nilD 16 y128 rfl ?_; refine VC.nilD 17 (.int .i64) rfl ?_; refine VC.nilD 18 (.int .i64) rfl ?_; refine VC.text ?_; refine VO.c (.move rfl) (VO.c (.eql) (VO.go ?_)); refine VC.join [(0, .v y57 l), (2, I clear), (7, .v y59 (if lockE l turn clear = 0 then bestE l turn clear [] else [])), (8, I (lockE l turn clear)), (9, .v y25 (if lockE l turn clear = 0 then uncL l turn clear else [])), (10, I (lockE l turn clear)), (11, .v y25 (if firstE [shpsE l, rangeE clear 0 100000] = 0 then choL (fun i => decide (clear < (shA l i.toNat).2.1 + (shA l i.toNat).2.2.1)) l.length else [])), (12, I (firstE [shpsE l, rangeE clear 0 100000])), (13, I (shpsE l)), (14, I (firstE [shpsE l, firstE [rangeE turn 0 1000, rangeE clear 0 100000]])), (15, I (firstE [shpsE l, rangeE clear 0 100000])), (16, .v y68 (if lockE l turn clear = 0 then bestE l turn clear [] else [])), (17, .v y25 (if lockE l turn clear = 0 then uncL l turn clear else [])), (18, .v y25 [])] [] ?_ ?_; refine VC.condD rfl (fun c10 => ?_) (fun c10 => ?_)
  · have hL : lockE l turn clear = 0 := by rw [← one_lock]; exact c10
    have hO := lock_ok hL; refine VC.text ?_; refine VO.c (.move rfl) (VO.c (.move rfl) (VO.c (.move rfl) ?_)); refine VO.call rfl rfl (VF.call (rPassagesB_ok hO.1 hO.2.1 hO.2.2)) ?_; refine VO.c (.move rfl) (VO.c (.move rfl) (VO.c (.move rfl) ?_)); refine VO.call rfl rfl (VF.call (rUnclS_ok hO.1 hO.2.1 hO.2.2)) ?_; refine VO.c (.assign rfl) (VO.c (.assign rfl) ?_); refine VO.nil ?_; exact ⟨⟨rfl, rfl, rfl, rfl, rfl, rfl, rfl, rfl, rfl, rfl, rfl, slE rfl (by first | (rw [if_pos hL]; done) | (rw [if_neg (by rw [← one_lock]; exact c10)]; done)), slE rfl (by first | (rw [if_pos hL]; done) | (rw [if_neg (by rw [← one_lock]; exact c10)]; done)), rfl, trivial⟩, rfl⟩
  · refine VC.skip ?_; exact ⟨⟨rfl, rfl, rfl, rfl, rfl, rfl, rfl, rfl, rfl, rfl, rfl, slE rfl (by first | (rw [if_pos hL]; done) | (rw [if_neg (by rw [← one_lock]; exact c10)]; done)), slE rfl (by first | (rw [if_pos hL]; done) | (rw [if_neg (by rw [← one_lock]; exact c10)]; done)), rfl, trivial⟩, rfl⟩
  refine VC.seq (VC.seq (VC.text ?_)); refine VO.c (.move rfl) (VO.c (.eql) (VO.go ?_)); refine VC.join [(0, .v y57 l), (7, .v y59 (if lockE l turn clear = 0 then bestE l turn clear [] else [])), (8, I (lockE l turn clear)), (9, .v y25 (if lockE l turn clear = 0 then uncL l turn clear else [])), (10, I (lockE l turn clear)), (11, .v y25 (if firstE [shpsE l, rangeE clear 0 100000] = 0 then choL (fun i => decide (clear < (shA l i.toNat).2.1 + (shA l i.toNat).2.2.1)) l.length else [])), (12, I (firstE [shpsE l, rangeE clear 0 100000])), (13, I (shpsE l)), (14, I (firstE [shpsE l, firstE [rangeE turn 0 1000, rangeE clear 0 100000]])), (15, I (firstE [shpsE l, rangeE clear 0 100000])), (16, .v y68 (if lockE l turn clear = 0 then bestE l turn clear [] else [])), (17, .v y25 (if lockE l turn clear = 0 then uncL l turn clear else [])), (18, .v y25 (if firstE [shpsE l, rangeE clear 0 100000] = 0 then choL (fun i => decide (clear < (shA l i.toNat).2.1 + (shA l i.toNat).2.2.1)) l.length else []))] [] ?_ ?_; refine VC.condD rfl (fun c12 => ?_) (fun c12 => ?_)
  · have hok := ships_ok (firstE_zero.1 c12 _ List.mem_cons_self); refine VC.text ?_; refine VO.c (.move rfl) (VO.c (.move rfl) ?_); refine VO.call rfl rfl (VF.call (rLateS_ok (by omega) hok)) ?_; refine VO.c (.assign rfl) ?_; refine VO.nil ?_; exact ⟨⟨rfl, rfl, rfl, rfl, rfl, rfl, rfl, rfl, rfl, rfl, rfl, rfl, slE rfl (by first | (rw [if_pos c12]; done) | (rw [if_neg c12]; done)), trivial⟩, rfl⟩
  · refine VC.skip ?_; exact ⟨⟨rfl, rfl, rfl, rfl, rfl, rfl, rfl, rfl, rfl, rfl, rfl, rfl, slE rfl (by first | (rw [if_pos c12]; done) | (rw [if_neg c12]; done)), trivial⟩, rfl⟩
  refine VC.seq (VC.text ?_); refine VO.c (.move rfl) ?_; refine VO.call rfl rfl (VF.call (lShips_ok (by first | assumption | omega | simp))) ?_; refine VO.call rfl rfl (VF.call (cShips_ok (by first | assumption | omega | simp))) ?_; refine VO.c (.move rfl) (VO.c (.eql) (VO.c (.move rfl) ?_)); refine VO.splitD (x := 83) rfl (fun g14_5 => ?_) (fun g14_5 => ?_)
  · refine VO.c (.move rfl) ?_; refine VO.call rfl rfl (VF.call (lPassed_ok (by first | assumption | omega | simp))) ?_; refine VO.c (.move rfl) ?_; refine VO.call rfl rfl (VF.call (rSamePa_ok (by first | assumption | omega | simp) (by first | assumption | omega | simp))) ?_; refine VO.c (.pickT rfl rfl) (VO.c (.move rfl) ?_); refine VO.cg (r := decide ((if lockE l turn clear = 0 then bestE l turn clear [] else []) = (if lockE l turn clear = 0 then bestE l turn clear [] else []))) (w := true) [] trivial (fun _ => (.move rfl)) ?_; refine VO.cg (r := decide ((if lockE l turn clear = 0 then bestE l turn clear [] else []) = (if lockE l turn clear = 0 then bestE l turn clear [] else []))) (w := true) [] trivial (fun _ => (.move rfl)) ?_; refine VO.cg (r := decide ((if lockE l turn clear = 0 then bestE l turn clear [] else []) = (if lockE l turn clear = 0 then bestE l turn clear [] else []))) (w := true) [(90, I (lockE l turn clear)), (91, I (firstE [shpsE l, firstE [rangeE turn 0 1000, rangeE clear 0 100000]]))] ⟨rfl, rfl, trivial⟩ (fun _ => (.eql)) ?_; refine VO.c (.and) (VO.c (.move rfl) ?_); refine VO.cg (r := ((decide ((if lockE l turn clear = 0 then bestE l turn clear [] else []) = (if lockE l turn clear = 0 then bestE l turn clear [] else []))) && (decide (lockE l turn clear = firstE [shpsE l, firstE [rangeE turn 0 1000, rangeE clear 0 100000]])))) (w := true) [] trivial (fun _ => (.move rfl)) ?_; refine VO.cg (r := ((decide ((if lockE l turn clear = 0 then bestE l turn clear [] else []) = (if lockE l turn clear = 0 then bestE l turn clear [] else []))) && (decide (lockE l turn clear = firstE [shpsE l, firstE [rangeE turn 0 1000, rangeE clear 0 100000]])))) (w := true) [] trivial (fun _ => (.move rfl)) ?_; refine VO.cg (r := ((decide ((if lockE l turn clear = 0 then bestE l turn clear [] else []) = (if lockE l turn clear = 0 then bestE l turn clear [] else []))) && (decide (lockE l turn clear = firstE [shpsE l, firstE [rangeE turn 0 1000, rangeE clear 0 100000]])))) (w := true) [] trivial (fun _ => (.move rfl)) ?_; refine VO.cg (r := ((decide ((if lockE l turn clear = 0 then bestE l turn clear [] else []) = (if lockE l turn clear = 0 then bestE l turn clear [] else []))) && (decide (lockE l turn clear = firstE [shpsE l, firstE [rangeE turn 0 1000, rangeE clear 0 100000]])))) (w := true) [] trivial (fun _ => (.move rfl)) ?_; refine VO.callg (r0 := ((decide ((if lockE l turn clear = 0 then bestE l turn clear [] else []) = (if lockE l turn clear = 0 then bestE l turn clear [] else []))) && (decide (lockE l turn clear = firstE [shpsE l, firstE [rangeE turn 0 1000, rangeE clear 0 100000]])))) (w := true) [(95, .v y25 (if lockE l turn clear = 0 then uncL l turn clear else [])), (96, I (lockE l turn clear)), (97, I (firstE [shpsE l, firstE [rangeE turn 0 1000, rangeE clear 0 100000]])), (98, .v y25 (if lockE l turn clear = 0 then uncL l turn clear else []))] ⟨rfl, rfl, rfl, rfl, trivial⟩ rfl rfl .same .refl rfl (fun hgd => have g14_16 : ((decide ((if lockE l turn clear = 0 then bestE l turn clear [] else []) = (if lockE l turn clear = 0 then bestE l turn clear [] else []))) && (decide (lockE l turn clear = firstE [shpsE l, firstE [rangeE turn 0 1000, rangeE clear 0 100000]]))) = true := (by simpa using hgd); VF.call (lListed_ok (by first | assumption | omega | simp))) ?_; refine VO.c (.and) (VO.c (.move rfl) ?_); refine VO.cg (r := (((decide ((if lockE l turn clear = 0 then bestE l turn clear [] else []) = (if lockE l turn clear = 0 then bestE l turn clear [] else []))) && (decide (lockE l turn clear = firstE [shpsE l, firstE [rangeE turn 0 1000, rangeE clear 0 100000]]))) && (listB (if lockE l turn clear = 0 then uncL l turn clear else []) (lockE l turn clear) (firstE [shpsE l, firstE [rangeE turn 0 1000, rangeE clear 0 100000]]) (if lockE l turn clear = 0 then uncL l turn clear else [])))) (w := true) [] trivial (fun _ => (.move rfl)) ?_; refine VO.cg (r := (((decide ((if lockE l turn clear = 0 then bestE l turn clear [] else []) = (if lockE l turn clear = 0 then bestE l turn clear [] else []))) && (decide (lockE l turn clear = firstE [shpsE l, firstE [rangeE turn 0 1000, rangeE clear 0 100000]]))) && (listB (if lockE l turn clear = 0 then uncL l turn clear else []) (lockE l turn clear) (firstE [shpsE l, firstE [rangeE turn 0 1000, rangeE clear 0 100000]]) (if lockE l turn clear = 0 then uncL l turn clear else [])))) (w := true) [] trivial (fun _ => (.move rfl)) ?_; refine VO.cg (r := (((decide ((if lockE l turn clear = 0 then bestE l turn clear [] else []) = (if lockE l turn clear = 0 then bestE l turn clear [] else []))) && (decide (lockE l turn clear = firstE [shpsE l, firstE [rangeE turn 0 1000, rangeE clear 0 100000]]))) && (listB (if lockE l turn clear = 0 then uncL l turn clear else []) (lockE l turn clear) (firstE [shpsE l, firstE [rangeE turn 0 1000, rangeE clear 0 100000]]) (if lockE l turn clear = 0 then uncL l turn clear else [])))) (w := true) [] trivial (fun _ => (.move rfl)) ?_; refine VO.cg (r := (((decide ((if lockE l turn clear = 0 then bestE l turn clear [] else []) = (if lockE l turn clear = 0 then bestE l turn clear [] else []))) && (decide (lockE l turn clear = firstE [shpsE l, firstE [rangeE turn 0 1000, rangeE clear 0 100000]]))) && (listB (if lockE l turn clear = 0 then uncL l turn clear else []) (lockE l turn clear) (firstE [shpsE l, firstE [rangeE turn 0 1000, rangeE clear 0 100000]]) (if lockE l turn clear = 0 then uncL l turn clear else [])))) (w := true) [] trivial (fun _ => (.move rfl)) ?_; refine VO.callg (r0 := (((decide ((if lockE l turn clear = 0 then bestE l turn clear [] else []) = (if lockE l turn clear = 0 then bestE l turn clear [] else []))) && (decide (lockE l turn clear = firstE [shpsE l, firstE [rangeE turn 0 1000, rangeE clear 0 100000]]))) && (listB (if lockE l turn clear = 0 then uncL l turn clear else []) (lockE l turn clear) (firstE [shpsE l, firstE [rangeE turn 0 1000, rangeE clear 0 100000]]) (if lockE l turn clear = 0 then uncL l turn clear else [])))) (w := true) [(102, .v y25 (if firstE [shpsE l, rangeE clear 0 100000] = 0 then choL (fun i => decide (clear < (shA l i.toNat).2.1 + (shA l i.toNat).2.2.1)) l.length else [])), (103, I (firstE [shpsE l, rangeE clear 0 100000])), (104, I (firstE [shpsE l, rangeE clear 0 100000])), (105, .v y25 (if firstE [shpsE l, rangeE clear 0 100000] = 0 then choL (fun i => decide (clear < (shA l i.toNat).2.1 + (shA l i.toNat).2.2.1)) l.length else []))] ⟨rfl, rfl, rfl, rfl, trivial⟩ rfl rfl .same .refl rfl (fun hgd => have g14_23 : (((decide ((if lockE l turn clear = 0 then bestE l turn clear [] else []) = (if lockE l turn clear = 0 then bestE l turn clear [] else []))) && (decide (lockE l turn clear = firstE [shpsE l, firstE [rangeE turn 0 1000, rangeE clear 0 100000]]))) && (listB (if lockE l turn clear = 0 then uncL l turn clear else []) (lockE l turn clear) (firstE [shpsE l, firstE [rangeE turn 0 1000, rangeE clear 0 100000]]) (if lockE l turn clear = 0 then uncL l turn clear else []))) = true := (by simpa using hgd); VF.call (lListed_ok (by first | assumption | omega | simp))) ?_; refine VO.c (.and) (VO.c (.assign rfl) (VO.go ?_)); refine VC.ret ?_; exact VEnd.one rfl evT (pvE (by first | (exact absurd rfl g14_5) | (simp [list_self, one_lock]; done) | (simp_all [list_self, one_lock]; done)))
  refine VO.skip (VO.skip (VO.skip (VO.skip ?_))); refine VO.c (.pickF rfl rfl) (VO.c (.move rfl) (VO.skip (VO.skip ?_))); refine VO.skip (VO.c (.pickF rfl rfl) (VO.c (.move rfl) (VO.skip ?_))); refine VO.skip (VO.skip (VO.skip (VO.skip ?_))); refine VO.c (.pickF rfl rfl) (VO.c (.move rfl) (VO.skip (VO.skip ?_))); refine VO.skip (VO.skip (VO.skip (VO.c (.pickF rfl rfl) ?_))); refine VO.c (.assign rfl) (VO.go ?_); refine VC.ret ?_; exact VEnd.one rfl evT (pvE (by first | (exact absurd rfl g14_5) | (simp [list_self, one_lock]; done) | (simp_all [list_self, one_lock]; done)))
end Go.Proofs
namespace Go.Fs
open Go.RowKit (Below)
variable {P : Program}
def orcB (fi fj fc : FuncId) (T : TypeId) : FuncId → List Value → Heap → Option (Value × Heap) := fun f xs h =>
  bif Nat.beq f fc then
    match xs with
    | [.pointer (some ⟨b, 0, none⟩)] =>
      match h.get b with
      | some (.row e [p, v] true false) =>
        bif Nat.beq e T then
          match p with
          | .pointer none => some (.tuple #[], h.set b (.row e [.pointer (some ⟨b, 0, none⟩), v] true false))
          | .pointer (some ⟨b', 0, none⟩) => bif Nat.beq b' b then some (.tuple #[], h) else none
          | _ => none
        else none
      | _ => none
    | _ => none
  else orcS fi fj f xs h
theorem orcB_sound {B : Nat} {w0 : World} {fi fj fc : FuncId} {T : TypeId} (hz : w0.drawn = 0) (hS : CallSound P B w0 (orcS fi fj)) (hc : Enters P fc)
    (hF : ∀ (b : Nat) (w : World), w.cell? ⟨b, 0, none⟩ = some (.pointer none) → w.shape? b = some (T, 2) → w.frozen? ⟨b, 0, none⟩ = false →
      Calls P fc #[.pointer (some ⟨b, 0, none⟩)] w fun e w' => e = .returned (.tuple #[]) ∧ w' = w.setCell ⟨b, 0, none⟩ (.pointer (some ⟨b, 0, none⟩)))
    (hU : ∀ (b : Nat) (w : World), w.cell? ⟨b, 0, none⟩ = some (.pointer (some ⟨b, 0, none⟩)) → Calls P fc #[.pointer (some ⟨b, 0, none⟩)] w fun e w' => e = .returned (.tuple #[]) ∧ w' = w) :
    CallSound P B w0 (orcB fi fj fc T) := by
  intro f xs h v h' hf; unfold orcB at hf
  cases hb : Nat.beq f fc with
  | false =>
    rw [hb] at hf
    exact hS f xs h v h' hf
  | true =>
    have := nbeq hb; subst this; rw [hb] at hf; simp only [cond_true] at hf; split at hf
    · rename_i b; split at hf
      · rename_i e p u hg; obtain ⟨he, hf2⟩ := bif_some hf; obtain rfl := nbeq he; refine ⟨hc, fun ρ S w args' hr ha nn => ?_⟩; obtain ⟨hsb, cur, k1, k2, k3, k4, k5, k6, k7⟩ := hr.objs b _ hg; have hcl : cur.length = 2 := (k6 rfl).symm
        match cur, hcl with
        | [p', u'], _ =>
        have hp : VR ρ S p p' := k7 0 (by simp); have hu : VR ρ S u u' := k7 1 (by simp)
        have hat : (ρ b).at 0 = ⟨(ρ b).block, 0, none⟩ := by unfold Loc.at; rw [k2]
        have harg : args' = [.pointer (some ⟨(ρ b).block, 0, none⟩)] := by
          have h1 := ha.1
          match args', h1 with
          | [a], _ =>
            have h2 : VR ρ S (.pointer (some ⟨b, 0, none⟩)) a := ha.2 0 (by simp); rw [h2.ptr_inv.2, hat]
        subst harg
        have hcell : w.cell? ⟨(ρ b).block, 0, none⟩ = some p' := by simp [World.cell?, k1]
        split at hf2
        · simp only [Option.some.injEq, Prod.mk.injEq] at hf2; obtain ⟨rfl, rfl⟩ := hf2; obtain rfl := hp.eq_of_af0 rfl; have hC : CallsIn Fence.wide nn P f #[.pointer (some ⟨(ρ b).block, 0, none⟩)] w _ := callsIn_wide.2 (hF (ρ b).block w hcell (by simp [World.shape?, k1]) (frozen_soft k1 (by rw [k3]; exact Nat.zero_lt_succ _))); refine hC.mono fun e2 w' hret => ?_; obtain ⟨rfl, rfl⟩ := hret; refine ⟨ρ, Moved.set hr hg rfl rfl rfl rfl rfl (by simp [World.setCell]) (fun k hk => ?_) ?_, VR.tuple' LR.nil⟩
          · simp only [World.setCell, Array.getElem?_modify]; rw [if_neg (fun e0 => hk e0.symm)]
          refine ⟨[.pointer (some ⟨(ρ b).block, 0, none⟩), u'], ?_, k2, k3, k4, Nat.le_refl _, fun _ => rfl, fun i hi => ?_⟩
          · simp only [World.setCell, Array.getElem?_modify, if_pos rfl, k1]; simp
          match i, hi with
          | 0, _ => show VR ρ S (.pointer (some ⟨b, 0, none⟩)) (.pointer (some ⟨(ρ b).block, 0, none⟩)); rw [← hat]; exact .ptr b 0 hsb
          | 1, _ => exact hu
        · rename_i b'; obtain ⟨hbb, hf3⟩ := bif_some hf2; obtain rfl := nbeq hbb; simp only [Option.some.injEq, Prod.mk.injEq] at hf3; obtain ⟨rfl, rfl⟩ := hf3; have hp2 := hp.ptr_inv.2; rw [hat] at hp2; subst hp2; have hC : CallsIn Fence.wide nn P f #[.pointer (some ⟨(ρ b').block, 0, none⟩)] w _ := callsIn_wide.2 (hU (ρ b').block w hcell); refine hC.mono fun e2 w' hret => ?_; obtain ⟨rfl, rfl⟩ := hret; exact ⟨ρ, Moved.same hr, VR.tuple' LR.nil⟩
        cases hf2
      cases hf
    cases hf
end Go.Fs
namespace Go.Fs
open Go.RowKit (Below)
variable {P : Program} {ops : Array Oper} {n : Nat}
def sameV : Value → Value → Bool
  | .int k a, .int k' b => decide (k = k') && decide (a = b)
  | .bool a, .bool b => decide (a = b)
  | _, _ => false
theorem sameV_eq {a b : Value} (h : sameV a b = true) : a = b := by
  unfold sameV at h; split at h
  · obtain ⟨h1, h2⟩ := band h; rw [of_decide_eq_true h1, of_decide_eq_true h2]
  · rw [of_decide_eq_true h]
  cases h
def sameL : List Value → List Value → Bool
  | [], [] => true
  | a :: r, b :: q => sameV a b && sameL r q
  | _, _ => false
theorem sameL_eq : ∀ {a b : List Value}, sameL a b = true → a = b
  | [], [], _ => rfl
  | [], _ :: _, h => by cases h
  | _ :: _, [], h => by cases h
  | a :: r, b :: q, h => by
    obtain ⟨h1, h2⟩ := band (h : (sameV a b && sameL r q) = true); rw [sameV_eq h1, sameL_eq h2]
def sameO : AObj → AObj → Bool
  | .row e cs o m, .row e' cs' o' m' => Nat.beq e e' && sameL cs cs' && decide (o = o') && decide (m = m')
  | _, _ => false
theorem sameO_eq {a b : AObj} (h : sameO a b = true) : a = b := by
  unfold sameO at h; split at h
  · obtain ⟨h, h1⟩ := band h; obtain ⟨h, h2⟩ := band h; obtain ⟨h, h3⟩ := band h; rw [nbeq h, sameL_eq h3, of_decide_eq_true h2, of_decide_eq_true h1]
  cases h
def okRd (rd : List (Nat × AObj)) (h : Heap) : Bool := rd.all fun p => match h.get p.1 with
  | some ob => sameO ob p.2
  | none => false
theorem stLook_mem {b : Nat} {ob : AObj} : ∀ {l : List (Nat × AObj)}, look l b = some ob → (b, ob) ∈ l
  | [], h => by cases h
  | (c, oc) :: r, h => by
    simp only [look] at h
    cases hc : Nat.beq c b with
    | true =>
      rw [hc] at h; simp only [cond_true, Option.some.injEq] at h
      rw [nbeq hc, h]; exact List.mem_cons_self
    | false =>
      rw [hc] at h; simp only [cond_false] at h; exact List.mem_cons_of_mem _ (stLook_mem h)
theorem okRd_get {rd : List (Nat × AObj)} {h : Heap} (hk : okRd rd h = true) {b : Nat} {ob : AObj} (hl : look rd b = some ob) : h.get b = some ob := by
  have := List.all_eq_true.1 hk _ (stLook_mem hl); simp only at this; split at this
  · rename_i o2 hg; rw [hg, sameO_eq this]
  cases this
def stillR (P : Program) (rd : List (Nat × AObj)) (ops : Array Oper) (n : Nat) (o : Oper) (s : DSt) : Option DSt :=
  match fsWanted ops s.t o, o.op with
  | some true, .load T a =>
    match evalO s.t a with
    | .pointer (some p) =>
      match look rd p.block with
      | some ob =>
        match fsLoad P T (evalO s.t a) { next := s.h.next, low := s.h.next, objs := [(p.block, ob)] } with
        | some v => (put n s.t o.dst v).map fun t => { s with t, bs := s.bs ++ [beforeOf s.bs o] }
        | none => none
      | none => none
    | _ => none
  | _, _ => none
def fsDrawnY (P : Program) (rd : List (Nat × AObj)) (step : Oper → (Operand → Value) → Heap → Option (Value × Heap)) (ops : Array Oper) (n : Nat) : List Oper → Nat → DSt → Option DSt
  | [], _, s => bif okRd rd s.h then some s else none
  | o :: r, i, s => bif okRd rd s.h then
      match fsDraw step ops n o i s with
      | some s' => fsDrawnY P rd step ops n r (i + 1) s'
      | none => match stillR P rd ops n o s with
        | some s' => fsDrawnY P rd step ops n r (i + 1) s'
        | none => none
    else none
def fsReads (P : Program) (h0 : Heap) (step : Oper → (Operand → Value) → Heap → Option (Value × Heap)) (ops : Array Oper) (n : Nat) : List Oper → Nat → DSt → List (Nat × AObj) → List (Nat × AObj)
  | [], _, _, l => l
  | o :: r, i, s, l => match fsDraw step ops n o i s with
    | some s' => fsReads P h0 step ops n r (i + 1) s' l
    | none => match stillO P h0 ops n o s with
      | some (s', b) => match h0.get (b - 1) with
        | some ob => fsReads P h0 step ops n r (i + 1) s' ((b - 1, ob) :: l)
        | none => l
      | none => l
def drawnY (P : Program) (h0 : Heap) (step : Oper → (Operand → Value) → Heap → Option (Value × Heap)) (ops : Array Oper) (n : Nat) (s : DSt) (rd : List (Nat × AObj)) : Option DSt :=
  bif rd.all fun p => Nat.blt p.1 h0.next then fsDrawnY P rd step ops n ops.toList 0 s else none
theorem stillR_of {call : FuncId → List Value → Heap → Option (Value × Heap)} {yield : Nat → List Value → Heap → Option (Value × Heap)} {X : Nat → AObj → Prop} {rd : List (Nat × AObj)} {o : Oper} {i : Nat} {s s' : DSt}
    (hf : stillR P rd ops n o s = some s') (hX : ∀ c ob, look rd c = some ob → X c ob) :
    s'.bs = s.bs ++ [beforeOf s.bs o] ∧ Did (fsOp P call yield) ops n X o i s s' := by
  unfold stillR at hf; split at hf
  · rename_i T a hw hop; split at hf
    · rename_i p hev; split at hf
      · rename_i ob hg; split at hf
        · rename_i v hv; obtain ⟨t, h3, h4⟩ := Option.map_eq_some_iff.1 hf; subst h4; refine ⟨rfl, .still hw v [(p.block, ob)] (fun c oc hc => ?_) ?_ h3 rfl rfl rfl rfl⟩
          · simp only [look] at hc
            cases hbc : Nat.beq p.block c with
            | true =>
              rw [hbc] at hc; simp only [cond_true, Option.some.injEq] at hc; obtain rfl := nbeq hbc; subst hc
              exact hX _ _ hg
            | false => rw [hbc] at hc; cases hc
          unfold fsOp; rw [hop]; simp only [hv, Option.map_some]
        cases hf
      cases hf
    cases hf
  cases hf
theorem drawnY_trace {call : FuncId → List Value → Heap → Option (Value × Heap)} {yield : Nat → List Value → Heap → Option (Value × Heap)} {rd : List (Nat × AObj)} : ∀ (l : List Oper) (i : Nat) (s s' : DSt), fsDrawnY P rd (fsOp P call yield) ops n l i s = some s' →
    ∃ st : Nat → DSt, st i = s ∧ st (i + l.length) = s' ∧ (∀ q, i ≤ q → q ≤ i + l.length → okRd rd (st q).h = true) ∧
    ∀ j o, l[j]? = some o → ∀ X : Nat → AObj → Prop, (∀ c ob, look rd c = some ob → X c ob) → (st (i + j + 1)).bs = (st (i + j)).bs ++ [beforeOf (st (i + j)).bs o] ∧ Did (fsOp P call yield) ops n X o (i + j) (st (i + j)) (st (i + j + 1))
  | [], i, s, s', h => by
    simp only [fsDrawnY] at h; obtain ⟨h1, h2⟩ := bif_some h; simp only [Option.some.injEq] at h2; subst h2
    exact ⟨fun _ => s, rfl, rfl, fun _ _ _ => h1, fun j o hj => by simp at hj⟩
  | o :: l, i, s, s', h => by
    simp only [fsDrawnY] at h; obtain ⟨hok, h⟩ := bif_some h
    have key : ∀ s1, fsDrawnY P rd (fsOp P call yield) ops n l (i + 1) s1 = some s' →
        (∀ X : Nat → AObj → Prop, (∀ c ob, look rd c = some ob → X c ob) → s1.bs = s.bs ++ [beforeOf s.bs o] ∧ Did (fsOp P call yield) ops n X o i s s1) →
      ∃ st : Nat → DSt, st i = s ∧ st (i + (o :: l).length) = s' ∧ (∀ q, i ≤ q → q ≤ i + (o :: l).length → okRd rd (st q).h = true) ∧
        ∀ j o', (o :: l)[j]? = some o' → ∀ X : Nat → AObj → Prop, (∀ c ob, look rd c = some ob → X c ob) → (st (i + j + 1)).bs = (st (i + j)).bs ++ [beforeOf (st (i + j)).bs o'] ∧ Did (fsOp P call yield) ops n X o' (i + j) (st (i + j)) (st (i + j + 1)) := fun s1 hr hd => by
      obtain ⟨st, h1, h2, hq, h3⟩ := drawnY_trace l (i + 1) s1 s' hr; refine ⟨fun k => if k = i then s else st k, by simp, ?_, fun q hq1 hq2 => ?_, fun j o' hj X hX => ?_⟩
      · simp only [List.length_cons]; rw [if_neg (by omega), ← h2]; congr 1; omega
      · rw [List.length_cons] at hq2; by_cases e : q = i
        · subst e; simpa using hok
        simp only [if_neg e]; exact hq q (by omega) (by omega)
      cases j with
      | zero =>
        simp at hj; subst hj
        simpa [h1] using hd X hX
      | succ j =>
        simp only [List.getElem?_cons_succ] at hj; have := h3 j o' hj X hX; rw [show i + 1 + j = i + (j + 1) by omega] at this; simp only; rw [if_neg (by omega), if_neg (by omega)]; exact this
    split at h
    · rename_i s1 hs1; exact key s1 h fun X _ => did_of hs1
    split at h
    · rename_i s1 hs1; exact key s1 h fun X hX => stillR_of hs1 hX
    cases h
theorem traceY_of {call : FuncId → List Value → Heap → Option (Value × Heap)} {yield : Nat → List Value → Heap → Option (Value × Heap)} {t0 : Tr} {h0 : Heap} {s : DSt} {rd : List (Nat × AObj)} (h : drawnY P h0 (fsOp P call yield) ops n ⟨t0, h0, [], [], 0, false⟩ rd = some s) : ∃ st, Trace (fsOp P call yield) ops n st t0 h0 ∧ st ops.size = s := by
  unfold drawnY at h; obtain ⟨hb, h⟩ := bif_some h; obtain ⟨st, h1, h2, hq, h3⟩ := drawnY_trace _ _ _ _ h
  have h2' : st ops.size = s := by simpa using h2
  refine ⟨st, ⟨h1, fun i o ho => ?_⟩, h2'⟩; have := h3 i o (by simpa using ho) (fun b ob => h0.get b = some ob ∧ b < h0.next ∧ (b < (st ops.size).h.low ∨ ∀ q, q ≤ ops.size → (st q).h.get b = some ob)) (fun c ob hc => ?_)
  · simpa only [Nat.zero_add] using this
  have hall : ∀ q, q ≤ ops.size → (st q).h.get c = some ob := fun q hq2 => okRd_get (hq q (Nat.zero_le _) (by simpa using hq2)) hc; have h0 := hall 0 (Nat.zero_le _); rw [h1] at h0; exact ⟨h0, nblt (List.all_eq_true.1 hb _ (stLook_mem hc)), .inr hall⟩
variable {B : Nat} {w0 : World} {S : Nat → Prop} {ρ0 : Ren} {call : FuncId → List Value → Heap → Option (Value × Heap)} {yield : Nat → List Value → Heap → Option (Value × Heap)} {t0 : Tr} {h0 : Heap}
theorem drawn_wpY (hcs : CallSnd P B w0 call) (hys : YieldSound P B w0 yield) (hok : regionOk ops = true) {s : DSt} {rd : List (Nat × AObj)} (hf : drawnY P h0 (fsOp P call yield) ops n ⟨t0, h0, [], [], 0, false⟩ rd = some s)
    {w : World} {a : Act} (hr : HR P ρ0 S B w0 h0 w) (ht : TrR ρ0 S t0 n a.tmps) {r : Option Nat} {nn : Nat} {Q : Exit → Act → World → Prop}
    (k : ∀ ρ' w' a', Moved P B w0 ρ0 ρ' S h0 s.h w w' → TrR ρ' (Ext S h0 s.h) s.t n a'.tmps → a'.defers = a.defers → Q .normal a' w') (t : Nat) :
    wpOpsIn (Wide r) nn P ops Q (Region.schedule true ops t) a w := drawn_wpT hcs hys hok (traceY_of hf) hr ht k t
end Go.Fs
namespace Go.Fs
open Go.RowKit (Below)
variable {P : Program} {B : Nat} {w0 : World}
def fsStepX (P : Program) (orc : FuncId → List Value → Heap → Option (Value × Heap)) (rec : Rec) : Rec := fun rnd c fr h =>
  match c with
  | .region _ ops true => match drawnX P { next := h.next, low := h.next, objs := h.objs } (fsOp P (callOf P orc rec) (fsYield rec)) ops fr.n ⟨fr.t, { next := h.next, low := h.next, objs := h.objs }, [], [], 0, false⟩ with
    | some s => some (.normal, { t := s.t, n := fr.n, marks := fr.marks }, { next := s.h.next, low := min h.low s.h.low, objs := s.h.objs })
    | none => match drawnY P { next := h.next, low := h.next, objs := h.objs } (fsOp P (callOf P orc rec) (fsYield rec)) ops fr.n ⟨fr.t, { next := h.next, low := h.next, objs := h.objs }, [], [], 0, false⟩ (fsReads P { next := h.next, low := h.next, objs := h.objs } (fsOp P (callOf P orc rec) (fsYield rec)) ops fr.n ops.toList 0 ⟨fr.t, { next := h.next, low := h.next, objs := h.objs }, [], [], 0, false⟩ []) with
      | some s => some (.normal, { t := s.t, n := fr.n, marks := fr.marks }, { next := s.h.next, low := min h.low s.h.low, objs := s.h.objs })
      | none => fsStep P orc rec rnd c fr h
  | c => fsStep P orc rec rnd c fr h
def fsCodeX (P : Program) (orc : FuncId → List Value → Heap → Option (Value × Heap)) : Nat → Rec
  | 0 => fun _ _ _ _ => none
  | n + 1 => fsStepX P orc (fsCodeX P orc n)
theorem HR.low {ρ : Ren} {S : Nat → Prop} {h : Heap} {w : World} (hr : HR P ρ S B w0 h w) (l : Nat) : HR P ρ S B w0 { next := h.next, low := l, objs := h.objs } w :=
  { objs := hr.objs, inj := hr.inj, base := hr.base, ro := hr.ro, ids := hr.ids, pos := hr.pos, below := hr.below, drawn := hr.drawn, size := hr.size }
theorem Moved.lowered {ρ ρ' : Ren} {S : Nat → Prop} {h h' : Heap} {w w' : World} {l : Nat} (m : Moved P B w0 ρ ρ' S { next := h.next, low := l, objs := h.objs } h' w w') :
    Moved P B w0 ρ ρ' S h { next := h'.next, low := min h.low h'.low, objs := h'.objs } w w' where
  agree := m.agree
  next := m.next
  hr := m.hr.low _
  frame := ⟨m.frame.os, m.frame.tape, m.frame.output, m.frame.size, m.frame.block⟩
  low := Nat.min_le_left _ _
  keep := fun i hi hl => m.keep i hi (Nat.lt_of_lt_of_le hl (Nat.min_le_right _ _))
  old := m.old
  fresh := fun i o ho hi => by
    obtain ⟨h1, h2⟩ := m.fresh i o ho hi; refine ⟨h1, ?_⟩; rcases h2 with h2 | ⟨j, oj, h3, h4, h5, h6, h7⟩
    · exact .inl h2
    exact .inr ⟨j, oj, h3, h4, h5, Nat.le_trans (Nat.min_le_right _ _) h6, h7⟩
theorem stepX_sound (hP : ProgOk P) {orc : FuncId → List Value → Heap → Option (Value × Heap)} (horc : CallSound P B w0 orc) {m : Nat} {rec : Rec} (hrec : SoundR P B w0 m rec) : SoundR P B w0 (m + 1) (fsStepX P orc rec) := by
  have hcs : CallSnd P B w0 (callOf P orc rec) := call_sound hP horc hrec; have hys : YieldSound P B w0 (fsYield rec) := yield_sound hrec; have hold := step_sound hP horc hrec; intro rnd c fr h e fr' h' hok hf
  cases c with
  | region id ops draw =>
    cases draw with
    | false => exact hold rnd _ fr h e fr' h' hok hf
    | true =>
      intro ρ S w a nn Q hr ht hm hs k; simp only [fsStepX] at hf; split at hf
      · rename_i s hrun; simp only [Option.some.injEq, Prod.mk.injEq] at hf; obtain ⟨rfl, rfl, rfl⟩ := hf; refine wpIn_region_draw fun t => ?_; rw [hP.mixed]; exact drawn_wpX (h0 := { next := h.next, low := h.next, objs := h.objs }) (call := callOf P orc rec) (yield := fsYield rec) hcs hys hok hrun ((hr.drew _).low _) ht (fun ρ1 w1 a1 m1 ht1 hd1 => k _ _ _ ⟨(Moved.ofDrew m1).lowered, ht1, by rw [hd1]; exact hm.mono fun b hb => ⟨.inl hb, m1.agree b hb⟩⟩) t
      split at hf
      · rename_i s hrun; simp only [Option.some.injEq, Prod.mk.injEq] at hf; obtain ⟨rfl, rfl, rfl⟩ := hf; refine wpIn_region_draw fun t => ?_; rw [hP.mixed]; exact drawn_wpY (h0 := { next := h.next, low := h.next, objs := h.objs }) (call := callOf P orc rec) (yield := fsYield rec) hcs hys hok hrun ((hr.drew _).low _) ht (fun ρ1 w1 a1 m1 ht1 hd1 => k _ _ _ ⟨(Moved.ofDrew m1).lowered, ht1, by rw [hd1]; exact hm.mono fun b hb => ⟨.inl hb, m1.agree b hb⟩⟩) t
      exact hold rnd _ fr h e fr' h' hok hf ρ S w a nn Q hr ht hm hs k
  | _ => exact hold rnd _ fr h e fr' h' hok hf
theorem codeX_sound (hP : ProgOk P) {orc : FuncId → List Value → Heap → Option (Value × Heap)} (horc : CallSound P B w0 orc) : ∀ m, SoundR P B w0 m (fsCodeX P orc m)
  | 0 => fun rnd c fr h e fr' h' _ hf => by cases hf
  | m + 1 => stepX_sound hP horc (codeX_sound hP horc m)
end Go.Fs
namespace Go.Fs
variable {P : Program} {orc : FuncId → List Value → Heap → Option (Value × Heap)}
def runPre (P : Program) (orc : FuncId → List Value → Heap → Option (Value × Heap)) : Nat → Nat → Code → Fr → Heap → Option (Nat × Code × Fr × Heap)
  | 0, n, c, fr, h => some (n, c, fr, h)
  | k + 1, n, c, fr, h => match n, c with
    | n + 1, .seq a b => match fsCodeX P orc n none a fr h with
      | some (.normal, fr1, h1) => runPre P orc k n b fr1 h1
      | _ => none
    | _, _ => none
def endV (P : Program) (fn : Func) (h : Heap) (x : Ex × Fr × Heap) : Option Value :=
  bif x.1.goes then
    match dropMarks x.2.1.marks x.2.2 with
    | some h2 => (fsResults P x.2.1.t h2 fn.results.toList).map tupled
    | none => none
  else none
theorem enter_map {rec : Rec} {f : FuncId} {args : List Value} {h : Heap} {fn : Func} {c : Code} (hf : P.funcs[f]? = some fn) (hc : fn.body = some c) (hn : (Nat.blt 4000 fn.ntmps || Nat.blt fn.ntmps args.length) = false) :
    (fsEnter P rec f args h).map (·.1) = (rec none c ⟨fillTr .leaf 0 args, fn.ntmps, []⟩ { next := h.next, low := h.next, objs := h.objs }).bind (endV P fn h) := by
  unfold fsEnter fsEnterK endV; simp only [hf, hc, hn, cond_false]
  cases rec none c ⟨fillTr .leaf 0 args, fn.ntmps, []⟩ { next := h.next, low := h.next, objs := h.objs } with
  | none => rfl
  | some x =>
    obtain ⟨e, fr, h1⟩ := x; simp only [Option.bind_some]
    cases e.goes with
    | false => rfl
    | true =>
      simp only [cond_true]
      cases dropMarks fr.marks h1 with
      | none => rfl
      | some h2 =>
        simp only
        cases fsResults P fr.t h2 fn.results.toList with
        | none => rfl
        | some vs =>
          simp only [Option.map_some]; generalize (!false && (af (tupled vs) && Nat.ble h.next h2.low)) = q; cases q <;> rfl
def sufx : Nat → Code → Code
  | 0, c => c
  | k + 1, .seq _ b => sufx k b
  | _ + 1, c => c
end Go.Fs
namespace Go.Fs
open Go.RowKit (Below)
variable {P : Program}
def gv : Value → Bool
  | .func (.func _) ⟨[]⟩ ⟨[]⟩ => true
  | v => af0 v
theorem VR.of_gv {ρ : Ren} {S : Nat → Prop} {v : Value} (h : gv v = true) : VR ρ S v v := by
  unfold gv at h; split at h
  · exact .func _ _ _ _ _ rfl (fun i h => absurd h (by simp)) rfl (fun i h => absurd h (by simp))
  exact .lit h
def gHeap (n : Nat) (L : List (Nat × TypeId × List Value)) : Heap := ⟨n, n, L.map fun x => (x.1 + 1, .row x.2.1 x.2.2 false true)⟩
def globR (P : Program) : Ren := fun b => Loc.clean (b - 1) 0 0 (P.cellsOf (((P.globals[b - 1]?).map (·.type)).getD 0))
structure GlobW (P : Program) (B : Nat) (w : World) (x : Nat × TypeId × List Value) : Prop where
  type : (P.globals[x.1]?).map (·.type) = some x.2.1
  only : ∀ (g : Nat) gl, P.globals[g]? = some gl → gl.type = x.2.1 → g = x.1
  block : x.1 < B
  cells : ∀ i, i < x.2.2.length → w.cell? ⟨x.1, i, none⟩ = some (x.2.2.getD i undef)
  vals : x.2.2.all gv = true
theorem GlobW.below {B : Nat} {w w' : World} {x : Nat × TypeId × List Value} (h : GlobW P B w x) (hb : Below B w w') : GlobW P B w' x :=
  ⟨h.type, h.only, h.block, fun i hi => (World.cell?_of_block (a := ⟨x.1, i, none⟩) (hb.block _ h.block)).trans (h.cells i hi), h.vals⟩
theorem gHeap_get {n : Nat} : ∀ {L : List (Nat × TypeId × List Value)} {i : Nat} {o : AObj}, (gHeap n L).get i = some o → ∃ x ∈ L, i = x.1 + 1 ∧ o = .row x.2.1 x.2.2 false true
  | [], i, o, h => by cases h
  | x :: L, i, o, h => by
    simp only [gHeap, Heap.get, List.map_cons, look] at h
    cases hb : Nat.beq (x.1 + 1) i with
    | true =>
      rw [hb] at h
      exact ⟨x, List.mem_cons_self, (nbeq hb).symm, (Option.some.inj h).symm⟩
    | false =>
      rw [hb] at h; obtain ⟨y, hy, h1, h2⟩ := gHeap_get (n := n) (L := L) (i := i) (o := o) h; exact ⟨y, List.mem_cons_of_mem _ hy, h1, h2⟩
theorem gHeap_hr {w : World} {n : Nat} {L : List (Nat × TypeId × List Value)} (hn : ∀ x ∈ L, x.1 + 1 < n) (hp : 0 < n) (hL : ∀ x ∈ L, GlobW P w.heap.size w x) :
    HR P (globR P) (fun b => ∃ x ∈ L, b = x.1 + 1) w.heap.size (wz w) (gHeap n L) w where
  objs := fun i o hi => by
    obtain ⟨x, hx, rfl, rfl⟩ := gHeap_get hi; have h := hL x hx; refine ⟨⟨x, hx, rfl⟩, ?_, fun j hj => ?_, fun _ g gl h1 h2 => ?_⟩
    · show P.cellsOf (((P.globals[x.1 + 1 - 1]?).map (·.type)).getD 0) = _; rw [Nat.add_sub_cancel, h.type]; rfl
    · refine ⟨x.2.2.getD j undef, ?_, .of_gv (List.all_eq_true.1 h.vals _ (mem_getD hj))⟩; show w.cell? ⟨x.1 + 1 - 1, 0 + j, none⟩ = _; rw [Nat.add_sub_cancel, Nat.zero_add]; exact h.cells j hj
    exact ⟨(h.only g gl h1 h2).symm, rfl⟩
  inj := fun i j oi oj hi _ ho => by
    obtain ⟨x, hx, rfl, rfl⟩ := gHeap_get hi; cases ho
  base := fun i o hi ho => by
    obtain ⟨x, hx, rfl, rfl⟩ := gHeap_get hi; cases ho
  ro := fun i o hi _ => by
    obtain ⟨x, hx, rfl, rfl⟩ := gHeap_get hi; exact (hL x hx).block
  ids := fun b ⟨x, hx, hb⟩ => by
    subst hb; exact ⟨hn x hx, Nat.succ_ne_zero _⟩
  pos := hp
  below := z_below (Below.refl _ _)
  drawn := Nat.zero_le _
  size := Nat.le_refl _
end Go.Fs
