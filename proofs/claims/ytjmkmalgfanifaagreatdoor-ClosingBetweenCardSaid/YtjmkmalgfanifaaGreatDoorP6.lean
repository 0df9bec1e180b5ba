/- Parts of the proof: an evaluator of the model, what it is sound for, and contracts of functions. No condition. -/
import Derived.Test.YtjmkmalgfanifaaGreatDoorP5
import Derived.Test.YtjmkmalgfanifaaGreatDoorP4
set_option linter.all false
namespace Go.Proofs
open Go.Fs
set_option maxHeartbeats 1000000
theorem zt3 : ZerT Tryz.prog 3 (.int .i64) := zerT_of (z := .int .i64 0) (by kernel_rfl) rfl rfl
structure PlanOk (l : List Pha) : Prop where
  len : l.length ≤ 16
  dur : ∀ i, i < l.length → 0 ≤ (phA l i).2.1 ∧ (phA l i).2.1 ≤ (phA l i).2.2.1 ∧ (phA l i).2.2.1 ≤ 1000
  bef : ∀ i, i < l.length → ∀ k, k < (phA l i).2.2.2.length → 0 ≤ (phA l i).2.2.2.getD k 0 ∧ (phA l i).2.2.2.getD k 0 < ((i : Nat) : Int) ∧ ∀ j, j < k → (phA l i).2.2.2.getD j 0 < (phA l i).2.2.2.getD k 0
theorem asc_ge {b : List Int} {n : Nat} (h : ∀ k, k < n → 0 ≤ b.getD k 0 ∧ ∀ j, j < k → b.getD j 0 < b.getD k 0) : ∀ k, k < n → ((k : Nat) : Int) ≤ b.getD k 0
  | 0, hk => (h 0 hk).1
  | k + 1, hk => by
    have h1 := asc_ge h k (by omega); have h2 := (h (k + 1) hk).2 k (by omega); omega
theorem PlanOk.blen {l : List Pha} (hp : PlanOk l) {i : Nat} (hi : i < l.length) : (phA l i).2.2.2.length ≤ i := by
  by_cases h0 : (phA l i).2.2.2.length = 0
  · omega
  have h1 := asc_ge (fun k hk => ⟨(hp.bef i hi k hk).1, (hp.bef i hi k hk).2.2⟩) ((phA l i).2.2.2.length - 1) (by omega); have h2 := (hp.bef i hi ((phA l i).2.2.2.length - 1) (by omega)).2.1; omega
theorem befA_ok {i : Nat} {b : List Int} {k : Nat} (h : befA i b k = 0) : 0 ≤ b.getD k 0 ∧ b.getD k 0 < ((i : Nat) : Int) ∧ lastB b k < b.getD k 0 := by
  have h := firstE_zero.1 h; have h1 := (whenE_zero (by decide)).1 (h _ List.mem_cons_self); have h2 := of_decide_eq_false ((whenE_zero (by decide)).1 (h _ (List.mem_cons_of_mem _ List.mem_cons_self))); obtain ⟨h3, h4⟩ := Bool.or_eq_false_iff.1 h1; have h3 := of_decide_eq_false h3; have h4 := of_decide_eq_false h4; omega
theorem asc_of {b : List Int} {k : Nat} (h : ∀ j, j ≤ k → lastB b j < b.getD j 0) : ∀ j, j < k → b.getD j 0 < b.getD k 0 := by
  induction k with
  | zero => intro j hj; omega
  | succ k ih =>
    intro j hj; have h1 : b.getD k 0 < b.getD (k + 1) 0 := h (k + 1) (Nat.le_refl _); by_cases e : j = k
    · subst e; exact h1
    have := ih (fun q hq => h q (by omega)) j (by omega); omega
theorem plan_ok {l : List Pha} (h : planE l = 0) : PlanOk l := by
  unfold planE at h; by_cases hl : 16 < ((l.length : Nat) : Int)
  · rw [if_pos hl] at h; cases h
  rw [if_neg hl] at h; have h := firstR_zero.1 h
  have hp : ∀ i, i < l.length → firstE (headP l i) = 0 ∧ befE i (phA l i).2.2.2 = 0 := fun i hi => by
    have h1 := h i hi; by_cases h2 : firstE (headP l i) = 0
    · rw [pha_b h2] at h1; exact ⟨h2, h1⟩
    rw [pha_h h2] at h1; exact absurd h1 h2
  refine ⟨by omega, fun i hi => ?_, fun i hi k hk => ?_⟩
  · have h1 := firstE_zero.1 (hp i hi).1; have h2 := rangeE_zero.1 (h1 (rangeE (phA l i).2.1 0 1000) (by simp [headP])); have h3 := rangeE_zero.1 (h1 (rangeE (phA l i).2.2.1 0 1000) (by simp [headP])); have h4 := of_decide_eq_false ((whenE_zero (by decide)).1 (h1 (whenE (decide ((phA l i).2.2.1 < (phA l i).2.1)) 11) (by simp [headP]))); omega
  have h1 := firstR_zero.1 (hp i hi).2; have h2 := befA_ok (h1 k hk); exact ⟨h2.1, h2.2.1, asc_of fun j hj => (befA_ok (h1 j (by omega))).2.2⟩
def begE (es b : List Int) : Nat → Int
  | 0 => 0
  | k + 1 => max (begE es b k) (es.getD (b.getD k 0).toNat 0)
def endL (d : Pha → Int) (l : List Pha) : Nat → List Int
  | 0 => []
  | i + 1 => endL d l i ++ [begE (endL d l i) (phA l i).2.2.2 (phA l i).2.2.2.length + d (phA l i)]
def begF (d : Pha → Int) (l : List Pha) (i : Nat) : Int := begE (endL d l i) (phA l i).2.2.2 (phA l i).2.2.2.length
def endF (d : Pha → Int) (l : List Pha) (i : Nat) : Int := begF d l i + d (phA l i)
def begL (d : Pha → Int) (l : List Pha) (i : Nat) : List Int := (List.range i).map (begF d l)
theorem endL_eq {d : Pha → Int} {l : List Pha} : ∀ i, endL d l i = (List.range i).map (endF d l)
  | 0 => rfl
  | i + 1 => by
    rw [List.range_succ, List.map_append, ← endL_eq i] <;> rfl
theorem endL_len {d : Pha → Int} {l : List Pha} {i : Nat} : (endL d l i).length = i := by rw [endL_eq]; simp
theorem begL_len {d : Pha → Int} {l : List Pha} {i : Nat} : (begL d l i).length = i := by simp [begL]
theorem begL_succ {d : Pha → Int} {l : List Pha} {i : Nat} : begL d l (i + 1) = begL d l i ++ [begF d l i] := by
  unfold begL; rw [List.range_succ, List.map_append] <;> rfl
theorem endL_succ {d : Pha → Int} {l : List Pha} {i : Nat} : endL d l (i + 1) = endL d l i ++ [endF d l i] := rfl
theorem endL_get {d : Pha → Int} {l : List Pha} {i p : Nat} (h : p < i) : (endL d l i).getD p 0 = endF d l p := by
  rw [endL_eq, getDg (by simpa using h)]; simp
theorem begL_get {d : Pha → Int} {l : List Pha} {i p : Nat} (h : p < i) : (begL d l i).getD p 0 = begF d l p := by
  unfold begL; rw [getDg (by simpa using h)]; simp
theorem endL_big {d : Pha → Int} {l : List Pha} {i p : Nat} (h : i ≤ p) : (endL d l i).getD p 0 = 0 := by
  rw [List.getD_eq_getElem?_getD, List.getElem?_eq_none (by rw [endL_len]; exact h)] <;> rfl
theorem begE_congr {es es' b : List Int} : ∀ k, (∀ j, j < k → es.getD (b.getD j 0).toNat 0 = es'.getD (b.getD j 0).toNat 0) → begE es b k = begE es' b k
  | 0, _ => rfl
  | k + 1, h => by
    show max _ _ = max _ _; rw [begE_congr k fun j hj => h j (by omega), h k (by omega)]
theorem begE_b {es b : List Int} {M : Int} (hM : 0 ≤ M) (h : ∀ p, 0 ≤ es.getD p 0 ∧ es.getD p 0 ≤ M) : ∀ k, 0 ≤ begE es b k ∧ begE es b k ≤ M
  | 0 => ⟨Int.le_refl _, hM⟩
  | k + 1 => by
    have h1 := begE_b hM h (b := b) k; have h2 := h (b.getD k 0).toNat; show 0 ≤ max _ _ ∧ max _ _ ≤ M; omega
def DurOk (d : Pha → Int) (l : List Pha) : Prop := ∀ i, i < l.length → 0 ≤ d (phA l i) ∧ d (phA l i) ≤ 1000
theorem end_b {d : Pha → Int} {l : List Pha} (hd : DurOk d l) : ∀ i, i ≤ l.length → ∀ p, 0 ≤ (endL d l i).getD p 0 ∧ (endL d l i).getD p 0 ≤ 1000 * ((i : Nat) : Int)
  | 0, _, p => ⟨by simp [endL], by simp [endL]⟩
  | i + 1, h, p => by
    have ih := end_b hd i (by omega); by_cases hp : p < i
    · have := ih p; rw [endL_get hp] at this; rw [endL_get (by omega)]; omega
    by_cases e : p = i
    · subst e; rw [endL_get (by omega)]; have h1 := begE_b (b := (phA l p).2.2.2) (by omega) ih (phA l p).2.2.2.length; have h2 := hd p (by omega); show 0 ≤ begE _ _ _ + _ ∧ begE _ _ _ + _ ≤ _; omega
    rw [endL_big (by omega)]; omega
theorem beg_b {d : Pha → Int} {l : List Pha} (hd : DurOk d l) {i : Nat} (h : i ≤ l.length) (k : Nat) : 0 ≤ begE (endL d l i) (phA l i).2.2.2 k ∧ begE (endL d l i) (phA l i).2.2.2 k ≤ 1000 * ((i : Nat) : Int) := begE_b (by omega) (end_b hd i h) k
def dE (long : Bool) (x : Pha) : Int := bif long then x.2.2.1 else x.2.1
theorem dur_ok {l : List Pha} (h : PlanOk l) (long : Bool) : DurOk (dE long) l := fun i hi => by
  have := h.dur i hi
  cases long with
  | true => show 0 ≤ (phA l i).2.2.1 ∧ (phA l i).2.2.1 ≤ 1000; omega
  | false => show 0 ≤ (phA l i).2.1 ∧ (phA l i).2.1 ≤ 1000; omega
def fillL (A : List Int) (n : Nat) : List Int := A ++ List.replicate (n - A.length) 0
theorem fill_len {A : List Int} {n : Nat} (h : A.length ≤ n) : (fillL A n).length = n := by simp [fillL]; omega
theorem fill_get {A : List Int} {n p : Nat} (h : p < A.length) : (fillL A n).getD p 0 = A.getD p 0 := by
  unfold fillL; rw [List.getD_eq_getElem?_getD, List.getElem?_append_left h, ← List.getD_eq_getElem?_getD]
theorem fill_big {A : List Int} {n p : Nat} (h : A.length ≤ p) : (fillL A n).getD p 0 = 0 := by
  unfold fillL; rw [List.getD_eq_getElem?_getD, List.getElem?_append_right h, List.getElem?_replicate]; split <;> rfl
theorem fill_set {A : List Int} {n : Nat} (h : A.length < n) (v : Int) : (fillL A n).set A.length v = fillL (A ++ [v]) n := by
  unfold fillL; rw [List.set_append_right _ _ (Nat.le_refl _), Nat.sub_self, show n - A.length = (n - (A ++ [v]).length) + 1 by simp; omega, List.replicate_succ]; simp
theorem fill_full {A : List Int} {n : Nat} (h : A.length = n) : fillL A n = A := by
  unfold fillL; rw [h, Nat.sub_self]; simp
theorem set_get0 {A : List Int} {n i : Nat} (h : A.length = i) (hn : i < n) : (fillL A n).set i 0 = fillL A n := by
  refine List.ext_getElem (by simp) fun j h1 h2 => ?_; rw [List.getElem_set]; split
  · rename_i e; subst e; rw [← getDg (d := 0) h2, fill_big (by omega)]
  rfl
def begW (d : Pha → Int) (l : List Pha) (i k : Nat) : List Int := (fillL (begL d l i) l.length).set i (begE (endL d l i) (phA l i).2.2.2 k)
theorem begW_len {d : Pha → Int} {l : List Pha} {i k : Nat} (h : i ≤ l.length) : (begW d l i k).length = l.length := by
  unfold begW; rw [List.length_set, fill_len (by rw [begL_len]; exact h)]
theorem begW_get {d : Pha → Int} {l : List Pha} {i k : Nat} (h : i < l.length) (h2 : i < (begW d l i k).length) : (begW d l i k)[i] = begE (endL d l i) (phA l i).2.2.2 k := by
  unfold begW at h2 ⊢; rw [List.getElem_set_self]
theorem begW_0 {d : Pha → Int} {l : List Pha} {i : Nat} (h : i < l.length) : begW d l i 0 = fillL (begL d l i) l.length := set_get0 begL_len h
theorem begW_step {d : Pha → Int} {l : List Pha} {i k : Nat} (hp : PlanOk l) (h : i < l.length) (hk : k < l[i].2.2.2.length) {x y : Int} (hx : x = begE (endL d l i) (phA l i).2.2.2 k) (hy : y = (fillL (endL d l i) l.length).getD (l[i].2.2.2[k]).toNat 0) : (begW d l i k).set i (max x y) = begW d l i (k + 1) := by
  unfold begW; rw [List.set_set]; congr 1; show _ = max _ _
  have hb : (phA l i).2.2.2 = l[i].2.2.2 := by rw [phA_eq h]
  have h1 := hp.bef i h k (by rw [hb]; exact hk); rw [hx, hy, hb, getDg hk]; rw [hb, getDg hk] at h1; rw [fill_get (by rw [endL_len]; omega)]
theorem begW_end {d : Pha → Int} {l : List Pha} {i k : Nat} (h : i < l.length) (hk : k = (phA l i).2.2.2.length) : begW d l i k = fillL (begL d l (i + 1)) l.length := by
  unfold begW; have := fill_set (A := begL d l i) (n := l.length) (by rw [begL_len]; exact h) (begE (endL d l i) (phA l i).2.2.2 k); rw [begL_len] at this; rw [this, begL_succ, hk] <;> rfl
theorem endW_set {d : Pha → Int} {l : List Pha} {i : Nat} (h : i < l.length) {v : Int} (hv : v = endF d l i) : (fillL (endL d l i) l.length).set i v = fillL (endL d l (i + 1)) l.length := by
  have := fill_set (A := endL d l i) (n := l.length) (by rw [endL_len]; exact h) v; rw [endL_len] at this; rw [this, hv] <;> rfl
theorem cLeast_ok {x : ByteArray × Int × Int × (List Int)} : VF Tryz.prog OA 82 [.v y84 x] (I x.2.1) := by
  refine VF.enter Tryz.func82 rfl (fun _ _ => rfl) rfl ?_; show VC _ _ _ _ _ [(0, .v y84 x)] [] _; refine VC.seq (VC.text ?_); refine VO.new (.box) ?_; refine VO.c (.assign rfl) ?_; refine VO.go (VC.seq (VC.text ?_)); refine VO.c (.fa (.r (.l .o))) ?_; refine VO.r (.ld vt3) ?_; refine VO.c (.assign rfl) (VO.go ?_); refine VC.ret ?_; exact VEnd.one rfl evT (pvI (by rfl))
theorem cMost_ok {x : ByteArray × Int × Int × (List Int)} : VF Tryz.prog OA 83 [.v y84 x] (I x.2.2.1) := by
  refine VF.enter Tryz.func83 rfl (fun _ _ => rfl) rfl ?_; show VC _ _ _ _ _ [(0, .v y84 x)] [] _; refine VC.seq (VC.text ?_); refine VO.new (.box) ?_; refine VO.c (.assign rfl) ?_; refine VO.go (VC.seq (VC.text ?_)); refine VO.c (.fa (.r (.r (.l .o)))) ?_; refine VO.r (.ld vt3) ?_; refine VO.c (.assign rfl) (VO.go ?_); refine VC.ret ?_; exact VEnd.one rfl evT (pvI (by rfl))
theorem cStarts_ok {F : Pha → Int} {l : List (ByteArray × Int × Int × (List Int))} {f : PV} (hp : PlanOk l) (hd : DurOk F l) (hf : ∀ x ∈ l, VCall Tryz.prog OA f [.v y84 x] (I (F x))) : VF Tryz.prog OA 84 [.v y29 l, f] (.tup [.v y25 (begL F l l.length), .v y25 (endL F l l.length)]) := by
  refine VF.enter Tryz.func84 rfl (fun _ _ => rfl) rfl ?_; show VC _ _ _ _ _ [(0, .v y29 l), (1, f)] [] _; refine VC.seq (VC.text ?_); have hlen := hp.len; refine VO.c (.assign rfl) (VO.c (.assign rfl) ?_); refine VO.go (VC.seq (VC.text ?_)); refine VO.c (.move rfl) ?_; refine VO.r (.len el29) ?_; refine VO.cell (.make (k := l.length) rfl rfl el25 zt3 (by omega)) ?_; intro ww1; refine VO.c (.assign rfl) ?_; refine VO.go (VC.seq (VC.text ?_)); refine VO.c (.move rfl) ?_; refine VO.r (.len el29) ?_; refine VO.cell (.make (k := l.length) rfl rfl el25 zt3 (by omega)) ?_; intro ww2; refine VO.c (.assign rfl) ?_; refine VO.go (VC.seq (VC.seq (VC.text ?_))); refine VO.c (.move rfl) ?_; refine VO.r (.len el29) ?_; refine VO.c (.move rfl) ?_; refine VO.go (VC.block ?_); refine VC.keep [(1, f), (6, .raw ww1), (7, .raw ww2), (18, .v y29 l), (19, I ((l.length : Nat) : Int)), (20, I ((0 : Nat) : Int))] ⟨rfl, rfl, rfl, rfl, rfl, rfl, trivial⟩ ?_; refine VC.loop (I := fun kk ff ss => ∃ (i : Nat), kk = l.length - i ∧ ff = [(1, f), (6, .raw ww1), (7, .raw ww2), (18, .v y29 l), (19, I ((l.length : Nat) : Int)), (20, I ((i : Nat) : Int))] ∧ ss = [(ww2, .row 3 (.int .i64) (fillL (endL F l i) l.length)), (ww1, .row 3 (.int .i64) (fillL (begL F l i) l.length))] ∧ (i ≤ l.length)) ?_ _ _ _ ⟨0, rfl, rfl, (by rfl), Nat.zero_le _⟩; rintro kk ff ss ⟨i, hk0, rfl, rfl, hi⟩; refine VC.seq (VC.text ?_); refine VO.c (.lss) ?_; refine VO.go (VC.seq ?_); refine VC.condD rfl (fun c4 => ?_) (fun c4 => ?_)
  · have hlt : i < l.length := by omega
    have hbl : (phA l i).2.2.2 = l[i].2.2.2 := by rw [phA_eq hlt]
    have hbf := hp.bef i hlt; rw [hbl] at hbf; have hbn := hp.blen hlt; rw [hbl] at hbn; have hd2 := hd i hlt; rw [phA_eq hlt] at hd2; have hel : (fillL (endL F l i) l.length).length = l.length := fill_len (by rw [endL_len]; omega); refine VC.skip (VC.seq (VC.block (VC.seq (VC.text ?_)))); refine VO.c (.move rfl) (VO.c (.ix (j := i) rfl rfl el29 (by omega)) ?_); refine VO.r (.ld vt84) ?_; refine VO.cell (.alloc zt84) ?_; intro ww3; refine VO.c (.assign rfl) ?_; refine VO.setV (cs' := [St ((l[i]).1), I ((l[i]).2.1), I ((l[i]).2.2.1), .v y25 ((l[i]).2.2.2)]) vt84 .v ?_; refine VO.shut [(9, .p y84 (l[i]))] (.cons rfl (.var m0 .refl) .nil) ?_; refine VO.go (VC.seq (VC.seq (VC.text ?_))); refine VO.c (.fa (.r (.r (.r .o)))) ?_; refine VO.r (.ld vt25) ?_; refine VO.r (.len el25) ?_; refine VO.c (.move rfl) ?_; refine VO.go (VC.block ?_); refine VC.keep [(1, f), (6, .raw ww1), (7, .raw ww2), (8, I ((i : Nat) : Int)), (9, .p y84 (l[i])), (18, .v y29 l), (19, I ((l.length : Nat) : Int)), (20, I ((i : Nat) : Int)), (26, .v y25 ((l[i]).2.2.2)), (27, I ((((l[i]).2.2.2).length : Nat) : Int)), (28, I ((0 : Nat) : Int))] ⟨rfl, rfl, rfl, rfl, rfl, rfl, rfl, rfl, rfl, rfl, rfl, trivial⟩ ?_; refine VC.loop (I := fun kk ff ss => ∃ (k : Nat), kk = l[i].2.2.2.length - k ∧ ff = [(1, f), (6, .raw ww1), (7, .raw ww2), (8, I ((i : Nat) : Int)), (9, .p y84 (l[i])), (18, .v y29 l), (19, I ((l.length : Nat) : Int)), (20, I ((i : Nat) : Int)), (26, .v y25 ((l[i]).2.2.2)), (27, I ((((l[i]).2.2.2).length : Nat) : Int)), (28, I ((k : Nat) : Int))] ∧ ss = [(ww2, .row 3 (.int .i64) (fillL (endL F l i) l.length)), (ww1, .row 3 (.int .i64) (begW F l i k))] ∧ (k ≤ l[i].2.2.2.length)) ?_ _ _ _ ⟨0, rfl, rfl, (by rw [begW_0 hlt]), (by omega)⟩; rintro kk ff ss ⟨k, hk2, rfl, rfl, hk⟩; have hwl := begW_len (d := F) (k := k) hi; have hwg := begW_get (d := F) (k := k) hlt (by omega); have hbb := beg_b hd (i := i) (by omega) k; refine VC.seq (VC.text ?_); refine VO.c (.lss) ?_; refine VO.go (VC.seq ?_); refine VC.condD rfl (fun c7 => ?_) (fun c7 => ?_)
    · have hk2 : k < l[i].2.2.2.length := by omega
      have hbk := hbf k hk2; rw [getDg hk2] at hbk; refine VC.skip (VC.seq (VC.block (VC.seq (VC.text ?_)))); refine VO.c (.ix (j := k) rfl rfl el25 (by omega)) ?_; refine VO.r (.ld vt3) ?_; refine VO.c (.assign rfl) ?_; refine VO.go (VC.drawn ?_); refine VD.c (.move rfl) (VD.c (.move rfl) (VD.c (.move rfl) (VD.c (.move rfl) ?_))); refine VD.co (.ixO (j := i) rfl rfl m1 el25 (by omega)) ?_; refine VD.r [(ww2, .row 3 (.int .i64) (fillL (endL F l i) l.length)), (ww1, .row 3 (.int .i64) (begW F l i k))] (.ldO rfl m1 vt3 (by omega)) (.inr ⟨rfl, rfl⟩) ?_; refine VD.nw [] (VD.c (.move rfl) (VD.c (.move rfl) ?_)); refine VD.co (.ixOZ (k := ((l[i]).2.2.2)[k]) rfl rfl m0 el25 (by omega) (by omega)) ?_; refine VD.r [(ww2, .row 3 (.int .i64) (fillL (endL F l i) l.length)), (ww1, .row 3 (.int .i64) (begW F l i k))] (.ldO rfl m0 vt3 (by omega)) (.inr ⟨rfl, rfl⟩) ?_; refine VD.c (.imax) ?_; refine VD.co (.ixO (j := i) rfl rfl m1 el25 (by omega)) ?_; refine VD.perm swap1 ?_; refine VD.mk0 (MakeV.setE (j := i) vt3 (by omega) rfl rfl) ?_; rintro _ _ tl4 ⟨rfl, rfl⟩; refine VD.nil ?_; refine VC.text ?_; refine VO.c (.add rfl rfl (by omega)) (VO.c (.move rfl) ?_); refine VO.perm swap1 ?_; refine VO.nil ?_; refine ⟨_, [(1, f), (6, .raw ww1), (7, .raw ww2), (8, I ((i : Nat) : Int)), (9, .p y84 (l[i])), (18, .v y29 l), (19, I ((l.length : Nat) : Int)), (20, I ((i : Nat) : Int)), (26, .v y25 ((l[i]).2.2.2)), (27, I ((((l[i]).2.2.2).length : Nat) : Int)), (28, I (((k + 1) : Nat) : Int))], ?_, ⟨rfl, rfl, rfl, rfl, rfl, rfl, rfl, rfl, rfl, rfl, rfl, trivial⟩, (k + 1), rfl, rfl, (by rw [begW_step hp hlt hk2 hwg (getDg _).symm]), (by omega)⟩; omega
    refine VC.exit (VC.drawn ?_); refine VD.c (.move rfl) (VD.c (.move rfl) (VD.c (.move rfl) (VD.c (.move rfl) ?_))); refine VD.co (.ixO (j := i) rfl rfl m1 el25 (by omega)) ?_; refine VD.r [(ww2, .row 3 (.int .i64) (fillL (endL F l i) l.length)), (ww1, .row 3 (.int .i64) (begW F l i k))] (.ldO rfl m1 vt3 (by omega)) (.inr ⟨rfl, rfl⟩) ?_; refine VD.nw [] (VD.c (.move rfl) ?_); refine VD.r [] (.ld vt84) (.inl rfl) ?_; refine VD.call rfl rfl ((hf _ (List.getElem_mem _)) ) ?_; refine VD.c (.add rfl rfl (by rw [hwg]; omega)) ?_; refine VD.co (.ixO (j := i) rfl rfl m0 el25 (by omega)) ?_; refine VD.mk0 (MakeV.setE (j := i) vt3 (by omega) rfl rfl) ?_; rintro _ _ tl5 ⟨rfl, rfl⟩; refine VD.nil ?_; refine VC.text ?_; refine VO.c (.add rfl rfl (by omega)) (VO.c (.move rfl) ?_); refine VO.nil ?_; refine ⟨_, [(1, f), (6, .raw ww1), (7, .raw ww2), (18, .v y29 l), (19, I ((l.length : Nat) : Int)), (20, I (((i + 1) : Nat) : Int))], ?_, ⟨rfl, rfl, rfl, rfl, rfl, rfl, trivial⟩, (i + 1), rfl, rfl, (by rw [endW_set hlt (by rw [hwg, endF, begF, phA_eq hlt, show k = l[i].2.2.2.length by omega]), begW_end hlt (by rw [hbl]; omega)]), (by omega)⟩; omega
  refine VC.exit (VC.seq (VC.text ?_)); refine VO.c (.move rfl) (VO.c (.move rfl) (VO.c (.assign rfl) (VO.c (.assign rfl) ?_))); refine VO.go ?_; refine VC.ret ?_; exact VEnd.two rfl (evC (.row m1)) (evC (.row m0)) (pvE (by rw [fill_full (by rw [begL_len]; omega), show i = l.length by omega])) (pvE (by rw [fill_full (by rw [endL_len]; omega), show i = l.length by omega]))
end Go.Proofs
namespace Go.Proofs
open Go.Fs
set_option maxHeartbeats 1000000
abbrev y32 : Ty := (.pair (.int .i64) (.int .i64))
theorem vt32 : ValT Tryz.prog 32 y32 := valT_of (by kernel_rfl)
theorem zt32 : ZerT Tryz.prog 32 y32 := zerT_of (z := .agg #[.int .i64 0, .int .i64 0]) (by kernel_rfl) rfl rfl
theorem bt32 : BldT Tryz.prog 32 y32 [(0, 1), (1, 1)] := bldT_of zt32 rfl (by kernel_rfl)
theorem bt84 : BldT Tryz.prog 84 y84 [(0, 1), (1, 1), (2, 1), (3, 1)] := bldT_of zt84 rfl (by kernel_rfl)
def maxL (l : List Int) : Int := l.foldl max 0
theorem maxL_app {l : List Int} {x : Int} : maxL (l ++ [x]) = max (maxL l) x := by simp [maxL]
theorem maxL_take {l : List Int} {j : Nat} (h : j < l.length) : maxL (l.take (j + 1)) = max (maxL (l.take j)) l[j] := by rw [List.take_succ_eq_append_getElem h, maxL_app]
theorem cGreatest_ok {l : List Int} (hl : l.length < 1000000) : VF Tryz.prog OA 88 [.v y25 l] (I (maxL l)) := by
  refine VF.enter Tryz.func88 rfl (fun _ _ => rfl) rfl ?_; show VC _ _ _ _ _ [(0, .v y25 l)] [] _; refine VC.seq (VC.text ?_); refine VO.c (.assign rfl) ?_; refine VO.go (VC.seq (VC.text ?_)); refine VO.c (.assign rfl) ?_; refine VO.go (VC.seq (VC.seq (VC.text ?_))); refine VO.c (.move rfl) ?_; refine VO.r (.len el25) ?_; refine VO.c (.move rfl) ?_; refine VO.go (VC.block ?_); refine VC.keep [(3, I (maxL (l.take 0))), (6, .v y25 l), (7, I ((l.length : Nat) : Int)), (8, I ((0 : Nat) : Int))] ⟨rfl, rfl, rfl, rfl, trivial⟩ ?_; refine VC.loop (I := fun kk ff ss => ∃ (j : Nat), kk = l.length - j ∧ ff = [(3, I (maxL (l.take j))), (6, .v y25 l), (7, I ((l.length : Nat) : Int)), (8, I ((j : Nat) : Int))] ∧ ss = [] ∧ (j ≤ l.length)) ?_ _ _ _ ⟨0, rfl, rfl, rfl, Nat.zero_le _⟩; rintro kk ff ss ⟨j, hk0, rfl, rfl, hj⟩; refine VC.seq (VC.text ?_); refine VO.c (.lss) ?_; refine VO.go (VC.seq ?_); refine VC.condD rfl (fun c3 => ?_) (fun c3 => ?_)
  · refine VC.skip (VC.seq (VC.block (VC.seq (VC.text ?_)))); refine VO.c (.ix (j := j) rfl rfl el25 (by omega)) ?_; refine VO.r (.ld vt3) ?_; refine VO.c (.assign rfl) ?_; refine VO.go (VC.text ?_); refine VO.c (.move rfl) (VO.c (.move rfl) (VO.c (.imax) (VO.c (.assign rfl) ?_))); refine VO.nil (VC.text ?_); refine VO.c (.add rfl rfl (by omega)) (VO.c (.move rfl) ?_); refine VO.nil ?_; refine ⟨_, [(3, I (maxL (l.take (j + 1)))), (6, .v y25 l), (7, I ((l.length : Nat) : Int)), (8, I (((j + 1) : Nat) : Int))], ?_, ⟨slI rfl (by rw [maxL_take (by omega)]), rfl, rfl, rfl, trivial⟩, (j + 1), rfl, rfl, rfl, (by omega)⟩; omega
  refine VC.exit (VC.seq (VC.text ?_)); refine VO.c (.move rfl) (VO.c (.assign rfl) (VO.go ?_)); refine VC.ret ?_; exact VEnd.one rfl evT (pvI (by rw [List.take_of_length_le (by omega)]))
def durE (l : List Pha) : Int × Int := (maxL (endL (dE false) l l.length), maxL (endL (dE true) l l.length))
theorem cDur_ok {l : List (ByteArray × Int × Int × (List Int))} (hp : PlanOk l) : VF Tryz.prog OA 85 [.v y29 l] (.v y32 (durE l)) := by
  refine VF.enter Tryz.func85 rfl (fun _ _ => rfl) rfl ?_; show VC _ _ _ _ _ [(0, .v y29 l)] [] _; refine VC.seq (VC.text ?_); have hlen := hp.len; refine VO.cell (.alloc zt32) ?_; intro ww1; refine VO.go (VC.seq (VC.text ?_)); refine VO.c (.move rfl) ?_; refine VO.call rfl rfl (VF.call (cStarts_ok (F := dE false) hp (dur_ok hp false) (fun _ _ => VF.call cLeast_ok))) ?_; refine VO.c (.move rfl) (VO.c (.extract) (VO.c (.extract) (VO.c (.assign rfl) ?_))); refine VO.c (.assign rfl) ?_; refine VO.go (VC.seq (VC.text ?_)); refine VO.c (.move rfl) ?_; refine VO.call rfl rfl (VF.call (cStarts_ok (F := dE true) hp (dur_ok hp true) (fun _ _ => VF.call cMost_ok))) ?_; refine VO.c (.move rfl) (VO.c (.extract) (VO.c (.extract) (VO.c (.assign rfl) ?_))); refine VO.c (.assign rfl) ?_; refine VO.go (VC.seq (VC.text ?_)); refine VO.c (.move rfl) ?_; refine VO.call rfl rfl (VF.call (cGreatest_ok (by rw [endL_len]; omega))) ?_; refine VO.c (.move rfl) ?_; refine VO.call rfl rfl (VF.call (cGreatest_ok (by rw [endL_len]; omega))) ?_; refine VO.c (.build (maxL (endL (dE false) l l.length), maxL (endL (dE true) l l.length)) bt32) ?_; refine VO.setV (cs' := [I (maxL (endL (dE false) l l.length)), I (maxL (endL (dE true) l l.length))]) vt32 .v ?_; refine VO.go ?_; refine VC.ret ?_; exact VEnd.one rfl (.cell (x := (maxL (endL (dE false) l l.length), maxL (endL (dE true) l l.length))) rfl m0 vt32 .refl) (pvE (by rfl))
def timR (l : List Pha) (long : Bool) : List Int := if planE l = 0 then begL (dE long) l l.length else []
def durR (l : List Pha) : Int × Int := if planE l = 0 then durE l else (0, 0)
theorem cDuration_ok {l : List (ByteArray × Int × Int × (List Int))} (hl : l.length < 100000) (hb : ∀ x ∈ l, x.2.2.2.length < 100000) : VF Tryz.prog OA 18 [.v y29 l] (.tup [.v y32 (durR l), I (planE l)]) := by
  refine VF.enter Tryz.func18 rfl (fun _ _ => rfl) rfl ?_; show VC _ _ _ _ _ [(0, .v y29 l)] [] _; refine VC.seq (VC.text ?_); refine VO.cell (.alloc zt32) ?_; intro ww2; refine VO.c (.assign rfl) ?_; refine VO.go (VC.seq (VC.seq (VC.text ?_))); refine VO.c (.move rfl) ?_; refine VO.call rfl rfl (VF.call (cPlan_ok (by first | assumption | omega | simp) (by first | assumption | omega | simp))) ?_; refine VO.c (.assign rfl) ?_; refine VO.go (VC.seq (VC.text ?_)); refine VO.c (.move rfl) (VO.c (.neq) (VO.go ?_)); refine VC.condD rfl (fun c2 => ?_) (fun c2 => ?_)
  · refine VC.seq (VC.text ?_); refine VO.c (.build (0, 0) bt32) (VO.c (.move rfl) ?_); refine VO.setV (cs' := [I 0, I 0]) vt32 .v ?_; refine VO.c (.assign rfl) (VO.go ?_); refine VC.ret ?_; exact VEnd.two rfl (.cell (x := (0, 0)) rfl m0 vt32 .refl) evT (pvE (by rw [durR, if_neg c2])) (pvI (by rfl))
  have hz := Classical.not_not.1 c2; refine VC.skip (VC.seq (VC.text ?_)); refine VO.c (.move rfl) ?_; refine VO.call rfl rfl (VF.call (cDur_ok (plan_ok hz))) ?_; refine VO.setV (cs' := [I ((durE l).1), I ((durE l).2)]) vt32 .v ?_; refine VO.c (.assign rfl) (VO.go ?_); refine VC.ret ?_; exact VEnd.two rfl (.cell (x := durE l) rfl m0 vt32 .refl) evT (pvE (by rw [durR, if_pos hz])) (pvI (by exact hz.symm))
theorem cTimes_ok {l : List (ByteArray × Int × Int × (List Int))} {long : Bool} (hl : l.length < 100000) (hb : ∀ x ∈ l, x.2.2.2.length < 100000) : VF Tryz.prog OA 16 [.v y29 l, B long] (.tup [.v y25 (timR l long), I (planE l)]) := by
  refine VF.enter Tryz.func16 rfl (fun _ _ => rfl) rfl ?_; show VC _ _ _ _ _ [(0, .v y29 l), (1, B long)] [] _; refine VC.seq (VC.text ?_); refine VO.c (.assign rfl) (VO.c (.assign rfl) ?_); refine VO.go (VC.seq (VC.seq (VC.text ?_))); refine VO.c (.move rfl) ?_; refine VO.call rfl rfl (VF.call (cPlan_ok (by first | assumption | omega | simp) (by first | assumption | omega | simp))) ?_; refine VO.c (.assign rfl) ?_; refine VO.go (VC.seq (VC.text ?_)); refine VO.c (.move rfl) (VO.c (.neq) (VO.go ?_)); refine VC.condD rfl (fun c2 => ?_) (fun c2 => ?_)
  · refine VC.seq (VC.text ?_); refine VO.c (.move rfl) (VO.c (.assign rfl) (VO.c (.assign rfl) (VO.go ?_))); refine VC.ret ?_; exact VEnd.two rfl (evC .nil) evT (pvE (by rw [timR, if_neg c2])) (pvI (by rfl))
  have hz := Classical.not_not.1 c2; have hp := plan_ok hz; refine VC.skip (VC.seq (VC.text ?_)); refine VO.c (.assign rfl) ?_; refine VO.go (VC.seq (VC.seq (VC.text ?_))); refine VO.c (.move rfl) (VO.go ?_); refine VC.condB rfl (fun c5 => ?_) (fun c5 => ?_)
  · have hfn : ∀ x ∈ l, VCall Tryz.prog OA (.clo 83 [] []) [.v y84 x] (I (dE long x)) := fun x _ => by rw [c5]; exact VF.call cMost_ok
    refine VC.text ?_; refine VO.c (.assign rfl) ?_; refine VO.go (VC.seq (VC.text ?_)); refine VO.c (.move rfl) (VO.c (.move rfl) ?_); refine VO.call rfl rfl (VF.call (cStarts_ok (F := dE long) hp (dur_ok hp _) hfn)) ?_; refine VO.c (.move rfl) (VO.c (.extract) (VO.c (.extract) (VO.c (.assign rfl) ?_))); refine VO.c (.assign rfl) ?_; refine VO.go (VC.seq (VC.text ?_)); refine VO.c (.move rfl) (VO.c (.assign rfl) (VO.c (.assign rfl) (VO.go ?_))); refine VC.ret ?_; exact VEnd.two rfl evT evT (pvE (by rw [timR, if_pos hz])) (pvI (by exact hz.symm))
  have hfn : ∀ x ∈ l, VCall Tryz.prog OA (.clo 82 [] []) [.v y84 x] (I (dE long x)) := fun x _ => by rw [c5]; exact VF.call cLeast_ok
  refine VC.skip (VC.seq (VC.text ?_)); refine VO.c (.move rfl) (VO.c (.move rfl) ?_); refine VO.call rfl rfl (VF.call (cStarts_ok (F := dE long) hp (dur_ok hp _) hfn)) ?_; refine VO.c (.move rfl) (VO.c (.extract) (VO.c (.extract) (VO.c (.assign rfl) ?_))); refine VO.c (.assign rfl) ?_; refine VO.go (VC.seq (VC.text ?_)); refine VO.c (.move rfl) (VO.c (.assign rfl) (VO.c (.assign rfl) (VO.go ?_))); refine VC.ret ?_; exact VEnd.two rfl evT evT (pvE (by rw [timR, if_pos hz])) (pvI (by exact hz.symm))
theorem lPlan_ok {l : List (ByteArray × Int × Int × (List Int))} (hl : l.length < 100000) (hb : ∀ x ∈ l, x.2.2.2.length < 100000) : VF Tryz.prog OA 17 [.v y22 l] (.v y29 l) := by
  refine VF.enter Tryz.func17 rfl (fun _ _ => rfl) rfl ?_; show VC _ _ _ _ _ [(0, .v y22 l)] [] _; refine VC.seq (VC.text ?_); refine VO.c (.assign rfl) ?_; refine VO.go (VC.seq (VC.text ?_)); refine VO.c (.assign rfl) ?_; refine VO.go (VC.seq (VC.seq (VC.text ?_))); refine VO.c (.move rfl) ?_; refine VO.r (.len el22) ?_; refine VO.c (.move rfl) ?_; refine VO.go (VC.block ?_); refine VC.cell0 84 y84 ?_; refine VC.keep [(3, .raw (.slice none 0 0)), (6, .v y22 l), (7, I ((l.length : Nat) : Int)), (8, I ((0 : Nat) : Int))] ⟨rfl, rfl, rfl, rfl, trivial⟩ ?_; refine VC.loop (I := fun kk ff ss => ∃ (j : Nat) (out : Value), kk = l.length - j ∧ ff = [(3, .raw out), (6, .v y22 l), (7, I ((l.length : Nat) : Int)), (8, I ((j : Nat) : Int))] ∧ ss = [(out, .row 84 y84 (l.take j))] ∧ (j ≤ l.length)) ?_ _ _ _ ⟨0, (.slice none 0 0), rfl, rfl, rfl, Nat.zero_le _⟩; rintro kk ff ss ⟨j, out, hk0, rfl, rfl, hj⟩; refine VC.seq (VC.text ?_); refine VO.c (.lss) ?_; refine VO.go (VC.seq ?_); refine VC.condD rfl (fun c3 => ?_) (fun c3 => ?_)
  · have hbx := hb _ (List.getElem_mem (show j < l.length by omega)); refine VC.skip (VC.seq (VC.block (VC.seq (VC.text ?_)))); refine VO.c (.ix (j := j) rfl rfl el22 (by omega)) ?_; refine VO.r (.ld vt80) ?_; refine VO.cell (.alloc zt80) ?_; intro ww5; refine VO.setV (cs' := [St ((l[j]).1), I ((l[j]).2.1), I ((l[j]).2.2.1), .v y25 ((l[j]).2.2.2)]) vt80 .v ?_; refine VO.shut [(5, .p y80 (l[j]))] (.cons rfl (.var m0 .refl) .nil) ?_; refine VO.go (VC.drawn ?_); refine VD.c (.move rfl) (VD.c (.fa (.l .o)) ?_); refine VD.r [] (.ld vt9) (.inl rfl) ?_; refine VD.c (.fa (.r (.l .o))) ?_; refine VD.r [] (.ld vt3) (.inl rfl) ?_; refine VD.c (.fa (.r (.r (.l .o)))) (VD.nw [] ?_); refine VD.r [] (.ld vt3) (.inl rfl) ?_; refine VD.c (.fa (.r (.r (.r .o)))) ?_; refine VD.r [] (.ld vt25) (.inl rfl) ?_; refine VD.call rfl rfl (VF.call (lInts_ok (by omega))) ?_; refine VD.c (.build ((l[j]).1, (l[j]).2.1, (l[j]).2.2.1, ((l[j]).2.2.2)) bt84) ?_; refine VD.new (.lit [((l[j]).1, (l[j]).2.1, (l[j]).2.2.1, ((l[j]).2.2.2))] el29) ?_; refine VD.mk (MakeV.app el29 el29 rfl rfl (by simp; omega)) ?_; rintro _ _ tl6 ⟨ww6, rfl, rfl⟩; refine VD.nw [24, 23, 22, 21] (VD.c (.assign rfl) ?_); refine VD.nil ?_; refine VC.text ?_; refine VO.c (.add rfl rfl (by omega)) (VO.c (.move rfl) ?_); refine VO.nil ?_; refine ⟨_, [(3, .raw ww6), (6, .v y22 l), (7, I ((l.length : Nat) : Int)), (8, I (((j + 1) : Nat) : Int))], ?_, ⟨rfl, rfl, rfl, rfl, trivial⟩, (j + 1), ww6, rfl, rfl, (by rw [List.take_succ_eq_append_getElem (by omega)]), (by omega)⟩; omega
  refine VC.exit (VC.seq (VC.text ?_)); refine VO.c (.move rfl) (VO.c (.assign rfl) (VO.go ?_)); refine VC.ret ?_; exact VEnd.one rfl (evC (.row m0)) (pvE (by rw [List.take_of_length_le (by omega)]))
def shortP (l : List Pha) : Bool := decide ((∀ x ∈ l, x.1.size ≤ 40 ∧ x.2.2.2.length ≤ 8) ∧ (l.length ≤ 7 ∨ l.length = 17))
theorem rShortP_ok {l : List (ByteArray × Int × Int × (List Int))} (hl : l.length ≤ 9223372036854775807) : VF Tryz.prog OA 15 [.v y22 l] (B (shortP l)) := by
  refine VF.enter Tryz.func15 rfl (fun _ _ => rfl) rfl ?_; show VC _ _ _ _ _ [(0, .v y22 l)] [] _; refine VC.seq (VC.text ?_); refine VO.c (.assign rfl) ?_; refine VO.go (VC.seq (VC.seq (VC.text ?_))); refine VO.c (.assign rfl) ?_; refine VO.go (VC.block ?_); refine VC.keep [(0, .v y22 l), (3, I ((0 : Nat) : Int))] ⟨rfl, rfl, trivial⟩ ?_; refine VC.loop (I := fun kk ff ss => ∃ (i : Nat), kk = l.length - i ∧ ff = [(0, .v y22 l), (3, I ((i : Nat) : Int))] ∧ ss = [] ∧ (i ≤ l.length) ∧ (∀ j (hj : j < l.length), j < i → l[j].1.size ≤ 40 ∧ l[j].2.2.2.length ≤ 8)) ?_ _ _ _ ⟨0, rfl, rfl, rfl, Nat.zero_le _, (by intro j hj h; omega)⟩; rintro kk ff ss ⟨i, hk0, rfl, rfl, hi, hn⟩; refine VC.seq (VC.seq (VC.text ?_)); refine VO.c (.move rfl) (VO.c (.move rfl) ?_); refine VO.r (.len el22) ?_; refine VO.c (.lss) (VO.go ?_); refine VC.condD rfl (fun c2 => ?_) (fun c2 => ?_)
  · have hlt : i < l.length := by omega
    refine VC.skip (VC.seq (VC.block (VC.seq (VC.text ?_)))); refine VO.c (.move rfl) (VO.c (.move rfl) (VO.c (.ix (j := i) rfl rfl el22 (by omega)) (VO.c (.fa (.l .o)) ?_))); refine VO.r (.ld vt9) ?_; refine VO.r (.lenS) ?_; refine VO.c (.gtr) (VO.c (.move rfl) ?_); refine VO.cg (r := decide ((40 : Int) < ((((l[i]).1).size : Nat) : Int))) (w := false) [] trivial (fun _ => (.move rfl)) ?_; refine VO.cg (r := decide ((40 : Int) < ((((l[i]).1).size : Nat) : Int))) (w := false) [] trivial (fun _ => (.move rfl)) ?_; refine VO.cg (r := decide ((40 : Int) < ((((l[i]).1).size : Nat) : Int))) (w := false) [(18, .v y22 l), (19, I ((i : Nat) : Int))] ⟨rfl, rfl, trivial⟩ (fun hgd => have g4_7 : ¬ ((40 : Int) < ((((l[i]).1).size : Nat) : Int)) := (by simpa using hgd); (.ixD (j := i) rfl rfl (ByteArray.empty, 0, 0, []) el22 (by omega))) ?_; refine VO.cg (r := decide ((40 : Int) < ((((l[i]).1).size : Nat) : Int))) (w := false) [(20, .p y80 (l.getD i (ByteArray.empty, 0, 0, [])))] ⟨rfl, trivial⟩ (fun _ => (.fa (.r (.r (.r (k := 0) .o))))) ?_; refine VO.rg (r := decide ((40 : Int) < ((((l[i]).1).size : Nat) : Int))) (w := false) [(21, .p y25 ((l.getD i (ByteArray.empty, 0, 0, [])).2.2.2))] ⟨rfl, trivial⟩ (fun _ => (.ld vt25)) ?_; refine VO.rg (r := decide ((40 : Int) < ((((l[i]).1).size : Nat) : Int))) (w := false) [(22, .v y25 ((l.getD i (ByteArray.empty, 0, 0, [])).2.2.2))] ⟨rfl, trivial⟩ (fun _ => (.len el25)) ?_; refine VO.cg (r := decide ((40 : Int) < ((((l[i]).1).size : Nat) : Int))) (w := false) [(23, I ((((l.getD i (ByteArray.empty, 0, 0, [])).2.2.2).length : Nat) : Int))] ⟨rfl, trivial⟩ (fun _ => (.gtr)) ?_; refine VO.c (.or) (VO.go ?_); refine VC.condB rfl (fun c4 => ?_) (fun c4 => ?_)
    · try simp only [Bool.and_eq_true, Bool.or_eq_true, Bool.and_eq_false_iff, Bool.or_eq_false_iff, Bool.not_eq_true', Bool.not_eq_false', decide_eq_true_eq, decide_eq_false_iff_not] at c4
      rw [getDg hlt] at c4; refine VC.seq (VC.text ?_); refine VO.c (.assign rfl) (VO.go ?_); refine VC.ret ?_; exact VEnd.one rfl evT (pvE (by exact (decide_eq_false fun hh => by have := hh.1 _ (List.getElem_mem hlt); omega).symm))
    try simp only [Bool.and_eq_true, Bool.or_eq_true, Bool.and_eq_false_iff, Bool.or_eq_false_iff, Bool.not_eq_true', Bool.not_eq_false', decide_eq_true_eq, decide_eq_false_iff_not] at c4
    rw [getDg hlt] at c4; refine VC.skip (VC.text ?_); refine VO.c (.move rfl) (VO.c (.add rfl rfl (by omega)) (VO.c (.assign rfl) ?_)); refine VO.nil ?_; refine ⟨_, [(0, .v y22 l), (3, I (((i + 1) : Nat) : Int))], ?_, ⟨rfl, rfl, trivial⟩, (i + 1), rfl, rfl, rfl, (by omega), (by intro j hj h; rcases Nat.lt_succ_iff_lt_or_eq.1 h with h | h; exact hn j hj h; subst h; omega)⟩; omega
  refine VC.exit (VC.seq (VC.text ?_)); refine VO.c (.move rfl) ?_; refine VO.r (.len el22) ?_; refine VO.c (.leq) (VO.c (.move rfl) ?_); refine VO.cg (r := decide (((l.length : Nat) : Int) ≤ (7 : Int))) (w := false) [] trivial (fun _ => (.move rfl)) ?_; refine VO.rg (r := decide (((l.length : Nat) : Int) ≤ (7 : Int))) (w := false) [(30, .v y22 l)] ⟨rfl, trivial⟩ (fun _ => (.len el22)) ?_; refine VO.cg (r := decide (((l.length : Nat) : Int) ≤ (7 : Int))) (w := false) [(31, I ((l.length : Nat) : Int))] ⟨rfl, trivial⟩ (fun _ => (.eql)) ?_; refine VO.c (.or) (VO.c (.assign rfl) (VO.go ?_)); refine VC.ret ?_; exact VEnd.one rfl evT (pvE (by rw [shortP, ← Bool.decide_or]; refine decide_eq_decide.2 ⟨fun hh => ⟨fun x hx => ?_, by omega⟩, fun hh => by omega⟩; obtain ⟨j, hj, rfl⟩ := List.getElem_of_mem hx; exact hn j hj (by omega)))
end Go.Proofs
namespace Go.Fs
variable {P : Program} {orc : FuncId → List Value → Heap → Option (Value × Heap)} {rnd : Option Nat} {h h' h0 h1 h2 hs : Heap} {S S' S0 B G : List Nat} {σ σ' : Sto} {t t' : Tr} {ms : List Nat} {fl : VL} {ops : Array Oper} {n i mem : Nat} {l : List Oper} {K : VL → Sto → Prop} {Q : Ex → VL → Sto → Prop}
  {d d1 d2 : Tmp} {ty ty1 ty2 : TypeId} {pos pos1 pos2 : String} {after after1 after2 : Array Edge} {op : Op} {v v1 : PV} {g g1 g2 : Option (Nat × Bool)} {bs nw : List Nat} {segs : List (Nat × Nat × Nat)} {tail so : Bool}
section
variable (P orc)
end
end Go.Fs
namespace Go.Fs
variable {P : Program} {orc : FuncId → List Value → Heap → Option (Value × Heap)} {rnd : Option Nat} {h h' h0 h1 h2 : Heap} {S S' S0 B G : List Nat} {σ σ' : Sto} {t t' : Tr} {ms : List Nat} {fl : VL} {ops : Array Oper} {n i mem : Nat} {l : List Oper} {K : VL → Sto → Prop} {Q : Ex → VL → Sto → Prop}
  {d : Tmp} {ty : TypeId} {pos : String} {after : Array Edge} {op : Op} {v pv : PV} {g : Option (Nat × Bool)} {bs nw : List Nat} {segs : List (Nat × Nat × Nat)} {so : Bool}
end Go.Fs
namespace Go.Fs
variable {P : Program} {orc : FuncId → List Value → Heap → Option (Value × Heap)} {rnd : Option Nat} {h h' h0 h1 h2 : Heap} {S S' S0 B G : List Nat} {σ σ' σr : Sto} {t t' : Tr} {ms : List Nat} {fl : VL} {ops : Array Oper} {n i mem : Nat} {l : List Oper} {K : VL → Sto → Prop} {Q : Ex → VL → Sto → Prop}
  {d : Tmp} {ty : TypeId} {pos : String} {after : Array Edge} {op : Op} {v pv : PV} {g : Option (Nat × Bool)} {x y z : Operand} {T T' e e' : TypeId} {τ τ' : Ty} {w w' : Value} {c c' : Cell}
def matS (e : TypeId) (τ : Ty) (us : List Value) (xss : List (List τ.den)) : Sto := (us.zip xss).map fun p => (p.1, .row e τ p.2)
theorem matS_perm {us : List Value} {xss : List (List τ.den)} {j : Nat} (hj : j < us.length) (hj2 : j < xss.length) : (matS e τ us xss).Perm ((us[j], .row e τ xss[j]) :: matS e τ (us.eraseIdx j) (xss.eraseIdx j)) := by
  induction us generalizing xss j with
  | nil => simp at hj
  | cons u us ih =>
    cases xss with
    | nil => simp at hj2
    | cons xs xss =>
      cases j with
      | zero => exact .refl _
      | succ j =>
        have := ih (xss := xss) (j := j) (by simpa using hj) (by simpa using hj2); exact (List.Perm.cons _ this).trans (.swap _ _ _)
theorem matS_set {us : List Value} {xss : List (List τ.den)} {j : Nat} {u : Value} {xs : List τ.den} (hj : j < us.length) (hj2 : j < xss.length) : ((u, .row e τ xs) :: matS e τ (us.eraseIdx j) (xss.eraseIdx j)).Perm (matS e τ (us.set j u) (xss.set j xs)) := by
  have := matS_perm (e := e) (τ := τ) (us := us.set j u) (xss := xss.set j xs) (j := j) (by simpa using hj) (by simpa using hj2); rw [List.getElem_set_self, List.getElem_set_self, List.eraseIdx_set_eq, List.eraseIdx_set_eq] at this; exact this.symm
theorem Iv.matNil (I : Iv h0 G S0 h σ t ms fl) (e : TypeId) (τ : Ty) : ∀ k : Nat, Iv h0 G S0 h (matS e τ (List.replicate k (.slice none 0 0)) (List.replicate k []) ++ σ) t ms fl
  | 0 => I
  | k + 1 => (I.matNil e τ k).cell0 e τ
theorem VO.matNil (e : TypeId) (τ : Ty) (k : Nat) (hx : VO P orc ops n l fl (matS e τ (List.replicate k (.slice none 0 0)) (List.replicate k []) ++ σ) K) : VO P orc ops n l fl σ K := fun h0 G S0 t h ms I => hx h0 G S0 t h ms (I.matNil e τ k)
theorem repL_nils : ∀ k : Nat, RepL h S (List.replicate k (.raw (.slice none 0 0))) (List.replicate k (.slice none 0 0))
  | 0 => rfl
  | k + 1 => ⟨_, _, rfl, rfl, repL_nils k⟩
theorem FreshO.makeN {k : Nat} (hx : evV fl x = some (.v (.int .i64) ((k : Nat) : Int))) (hy : evV fl y = some (.v (.int .i64) ((k : Nat) : Int))) (hT : ElT P T e (.sl τ)) (hZ : ZerT P e (.sl τ)) (hk : k ≤ 1000000) : FreshO P fl (.makeSlice T x y) (.cel e k (List.replicate k (.raw (.slice none 0 0)))) := by
  obtain ⟨h1, h2⟩ := FreshO.make hx hy hT hZ hk; obtain ⟨z, z1, z2, z3⟩ := hZ.zero; refine ⟨h1, fun h S t hs hok hS => ?_⟩; have u1 := RepV.int (hs x (by simp [Op.operands]) _ hx); have u2 := RepV.int (hs y (by simp [Op.operands]) _ hy); obtain ⟨i, z', hi1, hi2, hi3, hi3', hi4, hi5, hi6⟩ := hT.sl.info
  obtain rfl : z' = z := by
    rw [hi1] at z1; simpa [hi4] using z1
  have hpos := hT.sl.pos; have hz2 : z'.cells.toList = [.slice none 0 0] := z2
  have hzs : zeros z' k = List.replicate k (.slice none 0 0) := by
    have hsz : z'.cells.size = 1 := by simpa using congrArg List.length hz2
    rw [zeros_flat (by omega), hz2]; clear hx hy u1 u2 hk h2
    induction k with
    | zero => rfl
    | succ k ih => simp [List.replicate_succ, ih]
  refine ⟨fun m => .slice (some ⟨m, 0, none⟩) k 0, .row e (zeros z' k) true false, fun _ => rfl, fun S' hN hm => ?_, fun H _ _ _ _ _ => ?_⟩
  · refine .inr ⟨h.next, _, false, rfl, hm, by rw [Heap.get_push, if_pos rfl], ?_, ?_, fun _ => rfl⟩
    · rw [hzs]; exact repL_nils k
    rw [hzs]; exact List.all_eq_true.2 fun x hx => by rw [List.eq_of_mem_replicate hx]; rfl
  show fsMakeSlice P T (evalO t x) (evalO t y) H = _; rw [u1, u2]; unfold fsMakeSlice; simp only [hT.sl.sl, hi1, hi4]
  have hb : i.bytes * k ≤ 1099511627776 := by
    have := Nat.mul_le_mul hi3' hk; omega
  have hc : (decide (0 ≤ ((k : Nat) : Int)) && decide (((k : Nat) : Int) ≤ ((k : Nat) : Int)) && decide (((k : Nat) : Int) ≤ 1099511627776) && Nat.ble (i.bytes * ((k : Nat) : Int).toNat) 1099511627776 && Nat.blt 0 i.size && Nat.beq z'.cells.size i.size && z'.cells.toList.all af0) = true := by
    have e1 : Nat.ble (i.bytes * ((k : Nat) : Int).toNat) 1099511627776 = true := by rw [Nat.ble_eq, Int.toNat_natCast]; exact hb
    have e2 : Nat.blt 0 i.size = true := by show Nat.ble 1 i.size = true; rw [Nat.ble_eq, hi2]; exact hpos
    rw [e1, e2, hi5, hi2, Nat.beq_refl, hi6]; simp; omega
  rw [hc]; rfl
theorem CalmV.ixC {cs : List PV} {m j : Nat} (hx : evV fl x = some (.raw w)) (hy : evV fl y = some (.v (.int .i64) ((j : Nat) : Int))) (hm : (w, Cell.cel e m cs) ∈ σ) (hT : ElT P T e (.sl τ)) (hj : j < m) : CalmV P fl σ (.indexAddr T x y) (.raw (ptrAt w 1 j)) :=
  ⟨rfl, fun h S t hs hc => by
    have h1 : evalO t x = w := hs x (by simp [Op.operands]) _ hx; have h2 := RepV.int (hs y (by simp [Op.operands]) _ hy); refine ⟨_, rfl, fun _ _ _ _ _ H => ?_⟩; show (if af (evalO t y) then (runPure P (Instr.indexAt T (evalO t x) (evalO t y))).map fun v => (v, H) else none) = _; rcases hc _ hm with ⟨_, h3, _⟩ | ⟨b, rs, mm, h3, h4, h5, h6⟩
    · omega
    rw [h1, h2, show w = _ from h3]; obtain ⟨i, z, hinf, hsz, _⟩ := hT.sl.info; have hsz : i.size = 1 := hsz
    have : runPure P (Instr.indexAt T (.slice (some ⟨b, 0, none⟩) m 0) (.int .i64 (j : Nat))) = some (ptrAt (.slice (some ⟨b, 0, none⟩) m 0) 1 j) := by
      unfold Instr.indexAt
      have h7 : (0 : Int) ≤ (j : Int) ∧ (j : Int) < (m : Nat) := by omega
      simp only [runPure_bind, asIntOf, runPure_pure, Option.bind_some, runPure_underlying hT.sl.sl, if_pos h7, runPure_sizeOf hinf, hsz, add_none, Int.toNat_natCast, ptrAt]
    rw [this]; rfl⟩
theorem CalmV.ixCZ {cs : List PV} {m : Nat} {k : Int} (hx : evV fl x = some (.raw w)) (hy : evV fl y = some (.v (.int .i64) k)) (hm : (w, Cell.cel e m cs) ∈ σ) (hT : ElT P T e (.sl τ)) (h0 : 0 ≤ k) (hj : k < ((m : Nat) : Int)) : CalmV P fl σ (.indexAddr T x y) (.raw (ptrAt w 1 k.toNat)) := by
  obtain ⟨j, rfl⟩ := Int.eq_ofNat_of_zero_le h0; exact CalmV.ixC hx hy hm hT (by omega)
theorem ReadV.ldC {cs : List PV} {m j : Nat} (hx : evV fl x = some (.raw (ptrAt w 1 j))) (hm : (w, Cell.cel T m cs) ∈ σ) (hT : ValT P T (.sl τ)) (hj : cs[j]? = some v) (hjm : j < m) : ReadV P fl σ (.load T x) v :=
  ⟨rfl, fun h S t hs hc => by
    have h1 : evalO t x = ptrAt w 1 j := hs x (by simp [Op.operands]) _ hx; rcases hc _ hm with ⟨_, h3, _⟩ | ⟨b, rs, mm, h3, h4, h5, h6, h7⟩
    · omega
    obtain ⟨u, h8, h9⟩ := h6.get hj; obtain ⟨i, hi, hs2⟩ := hT.info; obtain ⟨d, hd, hag⟩ := hT.agg; have hag : isAggD d = false := hag; refine ⟨u, h9, fun H hH _ _ _ _ _ => ?_⟩; show (fsLoad P T (evalO t x) H).map _ = _; have h10 := hH b _ h5; rw [h1, show w = _ from h3]; simp only [fsLoad, ptrAt, h10, hd, hi, hag, Nat.zero_add, Nat.mul_one, h8]
    rfl⟩
theorem RepL.setL {l : List PV} {us : List Value} {p : PV} {u : Value} {j : Nat} (hl : RepL h S l us) (hp : RepPV h S p u) : RepL h S (l.set j p) (us.set j u) := by
  induction l generalizing us j with
  | nil =>
    obtain rfl : us = [] := hl
    exact rfl
  | cons q l ih =>
    obtain ⟨v, r, rfl, h2, h3⟩ := hl
    cases j with
    | zero => exact ⟨u, r, rfl, hp, h3⟩
    | succ j => exact ⟨v, r.set j u, rfl, h2, ih h3⟩
theorem MakeV.setC {cs : List PV} {m j : Nat} {u : Value} (hT : ValT P T (.sl τ)) (hj : j < m) (hjc : j < cs.length) (hx : evV fl x = some (.raw (ptrAt w 1 j))) (hy : evV fl y = some (.raw u)) (ho : oneCell u = true) :
    MakeV P fl ((w, .cel T m cs) :: σ) (.store T x y) fun v σ' => v = .raw undef ∧ σ' = (w, .cel T m (cs.set j (.raw u))) :: σ :=
  ⟨rfl, fun S0 h t L => by
    have h1 : evalO t x = ptrAt w 1 j := evV_ok L.slots hx; have h2 : evalO t y = u := evV_ok L.slots hy; rcases L.cells _ List.mem_cons_self with ⟨_, h3, _⟩ | ⟨b, rs, mm, h3, h4, h5, h6, h7, h8⟩
    · omega
    have hw : w = _ := h3; have hrl := h6.len; obtain ⟨i, hi, hs⟩ := hT.info; have hs : i.size = 1 := hs
    have hag : isAggV u = false := by
      cases u with
      | agg cs => cases ho
      | _ => rfl
    have hul : u.cells.toList = [u] := by rw [cells_one hag]
    have hbk : blk w = [b] := by rw [hw]; rfl
    have hsp : splice rs j [u] = rs.set j u := by
      have hjr : j < rs.length := by omega
      unfold splice; rw [List.set_eq_take_append_cons_drop, if_pos hjr]; simp
    refine ⟨undef, h.set b (.row T (rs.set j u) true mm), .raw undef, _, ⟨rfl, rfl⟩, Made.head L (Aft.set h5 (by rw [hbk]; simp)) (fun b hb => .inl hb) (by rw [hbk]; simp) fun hN => ?_, rfl, fun _ _ _ _ _ => ?_⟩
    · refine .inr ⟨b, _, mm, hw, ?_, by rw [Heap.get_set h5, if_pos rfl], ((h6.setL (p := .raw u) (u := u) rfl).nx hN), ?_, h8⟩
      · rw [own_cons]; exact List.mem_append_left _ (List.mem_append_left _ (by rw [hbk]; simp))
      refine List.all_eq_true.2 fun z hz => ?_; rcases List.mem_or_eq_of_mem_set hz with hz | rfl
      · exact List.all_eq_true.1 h7 z hz
      exact ho
    show (fsStore P T (evalO t x) (evalO t y) h).map _ = _
    have : fsStore P T (evalO t x) (evalO t y) h = some (h.set b (.row T (rs.set j u) true mm)) := by
      rw [h1, h2, hw]; simp only [fsStore, ptrAt, h5, hi, hs, hul, Nat.zero_add, Nat.mul_one, hsp]; rw [if_pos ⟨rfl, by show j + 1 ≤ rs.length; omega, by simp [ho]⟩]
    rw [this]; rfl⟩
theorem VO.setC {cs : List PV} {m : Nat} {u : Value} (j : Nat) (hT : ValT P T (.sl τ)) (hj : j < m) (hjc : j < cs.length) (hx : evV fl x = some (.raw (ptrAt w 1 j))) (hy : evV fl y = some (.raw u)) (ho : oneCell u = true) (hk : VO P orc ops n l fl ((w, .cel T m (cs.set j (.raw u))) :: σ) K) (hw : wantV ops fl g = some true := by rfl) :
    VO P orc ops n (⟨none, .store T x y, ty, pos, after, g⟩ :: l) fl ((w, .cel T m cs) :: σ) K :=
  VO.mk0 (MakeV.setC hT hj hjc hx hy ho) (by rintro _ _ ⟨rfl, rfl⟩; exact hk) hw
theorem coL_mat : ∀ {us : List Value} {xss : List (List τ.den)}, us.length = xss.length → (∀ p ∈ us.zip xss, (p.1, Cell.row e τ p.2) ∈ σ) → CoL σ (us.map .raw) (xss.flatMap (cellsPV (.sl τ)))
  | [], [], _, _ => .nil
  | u :: us, xs :: xss, hl, hm => .cons (.row (hm (u, xs) List.mem_cons_self)) (coL_mat (by simpa using hl) fun p hp => hm p (List.mem_cons_of_mem _ hp))
  | [], _ :: _, hl, _ => by simp at hl
  | _ :: _, [], hl, _ => by simp at hl
theorem matS_mem {us : List Value} {xss : List (List τ.den)} {p : Value × List τ.den} (hp : p ∈ us.zip xss) : (p.1, Cell.row e τ p.2) ∈ matS e τ us xss := List.mem_map_of_mem hp
theorem co_mat {us : List Value} {xss : List (List τ.den)} (hl : us.length = xss.length) {e2 : TypeId} : Co ((w, .cel e2 us.length (us.map .raw)) :: (matS e τ us xss ++ σ)) (.raw w) (.v (.sl (.sl τ)) xss) :=
  .cel List.mem_cons_self hl (coL_mat hl fun p hp => List.mem_cons_of_mem _ (List.mem_append_left _ (matS_mem hp)))
theorem co_mat0 {us : List Value} {xss : List (List τ.den)} {m : Nat} (hl : us.length = xss.length) (hm : m = us.length) {e2 : TypeId} : Co ((w, .cel e2 m (us.map .raw)) :: matS e τ us xss) (.raw w) (.v (.sl (.sl τ)) xss) := by
  subst hm; have := co_mat (w := w) (e := e) (σ := []) hl (e2 := e2)
  rwa [List.append_nil] at this
theorem mat_front {us : List Value} {xss : List (List τ.den)} {j : Nat} (hj : j < us.length) (hj2 : j < xss.length) : ((w, c) :: matS e τ us xss).Perm ((us[j], .row e τ xss[j]) :: (w, c) :: matS e τ (us.eraseIdx j) (xss.eraseIdx j)) := (List.Perm.cons _ (matS_perm hj hj2)).trans (.swap _ _ _)
theorem mat_back {us : List Value} {xss : List (List τ.den)} {j : Nat} {u : Value} {xs : List τ.den} (hj : j < us.length) (hj2 : j < xss.length) : ((w, c) :: (u, .row e τ xs) :: matS e τ (us.eraseIdx j) (xss.eraseIdx j)).Perm ((w, c) :: matS e τ (us.set j u) (xss.set j xs)) := .cons _ (matS_set hj hj2)
end Go.Fs
namespace Go.Proofs
open Go.Fs
set_option maxHeartbeats 1000000
theorem zt25 : ZerT Tryz.prog 25 y25 := zerT_of (z := .slice none 0 0) (by kernel_rfl) rfl rfl
def behF (l : List Pha) (n k : Nat) : List Int := ((List.range n).filter fun q => (phA l q).2.2.2.contains ((k : Nat) : Int)).map fun q => ((q : Nat) : Int)
def behM (l : List Pha) (n : Nat) : List (List Int) := (List.range n).map (behF l n)
def behJ (l : List Pha) (i j k : Nat) : List Int := behF l i k ++ if ((k : Nat) : Int) ∈ (phA l i).2.2.2.take j then [((i : Nat) : Int)] else []
theorem behF_succ {l : List Pha} {i k : Nat} : behF l (i + 1) k = behF l i k ++ if ((k : Nat) : Int) ∈ (phA l i).2.2.2 then [((i : Nat) : Int)] else [] := by
  unfold behF; rw [List.range_succ, List.filter_append, List.map_append]; congr 1; by_cases h : ((k : Nat) : Int) ∈ (phA l i).2.2.2
  · rw [if_pos h]; simp [h]
  rw [if_neg h]; simp [h]
theorem behJ_end {l : List Pha} {i j : Nat} (h : (phA l i).2.2.2.length ≤ j) (k : Nat) : behJ l i j k = behF l (i + 1) k := by
  rw [behJ, behF_succ, List.take_of_length_le h]
theorem behJ_0 {l : List Pha} {i : Nat} (k : Nat) : behJ l i 0 k = behF l i k := by
  rw [behJ, List.take_zero, if_neg (by simp), List.append_nil]
theorem behF_len {l : List Pha} {n k : Nat} : (behF l n k).length ≤ n := by
  unfold behF; rw [List.length_map]; exact Nat.le_trans (List.length_filter_le _ _) (by simp)
theorem behJ_len {l : List Pha} {i j k : Nat} : (behJ l i j k).length ≤ i + 1 := by
  unfold behJ; have := behF_len (l := l) (n := i) (k := k); rw [List.length_append]; split <;> simp <;> omega
theorem behF_mem {l : List Pha} {n k : Nat} {x : Int} : x ∈ behF l n k ↔ ∃ q, q < n ∧ ((k : Nat) : Int) ∈ (phA l q).2.2.2 ∧ x = ((q : Nat) : Int) := by
  unfold behF; simp only [List.mem_map, List.mem_filter, List.mem_range, List.contains_iff_mem]; constructor
  · rintro ⟨q, ⟨h1, h2⟩, rfl⟩; exact ⟨q, h1, h2, rfl⟩
  rintro ⟨q, h1, h2, rfl⟩; exact ⟨q, ⟨h1, h2⟩, rfl⟩
def behW (l : List Pha) (n i j : Nat) : List (List Int) := (List.range n).map (behJ l i j)
theorem behW_len {l : List Pha} {n i j : Nat} : (behW l n i j).length = n := by simp [behW]
theorem behW_at {l : List Pha} {n i j k : Nat} (h : k < (behW l n i j).length) : (behW l n i j)[k] = behJ l i j k := by simp [behW]
theorem behW_0 {l : List Pha} {n i : Nat} : behW l n i 0 = (List.range n).map (behF l i) := by
  unfold behW; congr 1; funext k; exact behJ_0 k
theorem behW_end {l : List Pha} {n i j : Nat} (h : (phA l i).2.2.2.length ≤ j) : behW l n i j = (List.range n).map (behF l (i + 1)) := by
  unfold behW; congr 1; funext k; exact behJ_end h k
theorem behW_zero {l : List Pha} {n : Nat} : (List.range n).map (behF l 0) = List.replicate n [] := by
  refine List.ext_getElem (by simp) fun i h1 h2 => ?_; rw [List.getElem_map, List.getElem_range, List.getElem_replicate] <;> rfl
theorem behW_step {l : List Pha} (hp : PlanOk l) {n i j : Nat} (hi : i < l.length) (hj : j < l[i].2.2.2.length) (h : (l[i].2.2.2[j]).toNat < (behW l n i j).length) : (behW l n i j).set (l[i].2.2.2[j]).toNat ((behW l n i j)[(l[i].2.2.2[j]).toNat] ++ [((i : Nat) : Int)]) = behW l n i (j + 1) := by
  have hb : (phA l i).2.2.2 = l[i].2.2.2 := by rw [phA_eq hi]
  have hbf := hp.bef i hi; rw [hb] at hbf; have hk := hbf j hj; rw [getDg hj] at hk; rw [behW_at h]; refine List.ext_getElem (by rw [List.length_set, behW_len, behW_len]) fun q h1 h2 => ?_; rw [List.getElem_set, behW_at, behW_at]
  have hmem : ∀ q : Nat, ((q : Nat) : Int) ∈ l[i].2.2.2.take (j + 1) ↔ ((q : Nat) : Int) ∈ l[i].2.2.2.take j ∨ q = (l[i].2.2.2[j]).toNat := fun q => by
    rw [List.take_succ_eq_append_getElem hj, List.mem_append, List.mem_singleton]; constructor
    · rintro (h | h)
      · exact .inl h
      exact .inr (by omega)
    rintro (h | h)
    · exact .inl h
    exact .inr (by omega)
  by_cases e : (l[i].2.2.2[j]).toNat = q
  · rw [if_pos e]
    have hno : ¬ ((q : Nat) : Int) ∈ l[i].2.2.2.take j := fun hm => by
      obtain ⟨p, hp1, hp2⟩ := List.mem_iff_getElem.1 hm; rw [List.length_take] at hp1; rw [List.getElem_take] at hp2; have := hk.2.2 p (by omega); rw [getDg (by omega)] at this; omega
    unfold behJ; rw [e, hb, if_neg hno, if_pos ((hmem q).2 (.inr e.symm)), List.append_nil]
  rw [if_neg e]; unfold behJ; rw [hb]; congr 1; by_cases hm : ((q : Nat) : Int) ∈ l[i].2.2.2.take j
  · rw [if_pos hm, if_pos ((hmem q).2 (.inl hm))]
  rw [if_neg hm, if_neg fun h => ((hmem q).1 h).elim hm fun h => e h.symm]
theorem cBehind_ok {l : List Pha} (hp : PlanOk l) : VF Tryz.prog OA 87 [.v y29 l] (.v (.sl (.sl (.int .i64))) (behM l l.length)) := by
  refine VF.enter Tryz.func87 rfl (fun _ _ => rfl) rfl ?_; show VC _ _ _ _ _ [(0, .v y29 l)] [] _; have hlen := hp.len; refine VC.seq (VC.text ?_); refine VO.c (.assign rfl) ?_; refine VO.go (VC.seq (VC.text ?_)); refine VO.c (.move rfl) ?_; refine VO.r (.len el29) ?_; refine VO.cell (.makeN (k := l.length) rfl rfl el86 zt25 (by omega)) ?_; intro ww1; refine VO.matNil 3 (.int .i64) l.length ?_; refine VO.c (.assign rfl) ?_
  refine VO.perm (σ' := (ww1, .cel 25 l.length ((List.replicate l.length (Value.slice none 0 0)).map .raw)) :: matS 3 (.int .i64) (List.replicate l.length (.slice none 0 0)) (List.replicate l.length [])) (by
    rw [List.map_replicate]
    exact List.perm_append_comm) ?_
  refine VO.go (VC.seq (VC.seq (VC.text ?_))); refine VO.c (.move rfl) ?_; refine VO.r (.len el29) ?_; refine VO.c (.move rfl) ?_; refine VO.go (VC.block ?_); refine VC.keep [(3, .raw ww1), (11, .v y29 l), (12, I ((l.length : Nat) : Int)), (13, I ((0 : Nat) : Int))] ⟨rfl, rfl, rfl, rfl, trivial⟩ ?_; refine VC.loop (I := fun kk ff ss => ∃ (i : Nat) (us : List Value), kk = l.length - i ∧ ff = [(3, .raw ww1), (11, .v y29 l), (12, I ((l.length : Nat) : Int)), (13, I ((i : Nat) : Int))] ∧ ss = (ww1, .cel 25 l.length (us.map .raw)) :: matS 3 (.int .i64) us ((List.range l.length).map (behF l i)) ∧ i ≤ l.length ∧ us.length = l.length) ?_ _ _ _ ⟨0, List.replicate l.length (.slice none 0 0), rfl, rfl, (by rw [behW_zero]), Nat.zero_le _, (by simp)⟩; rintro kk ff ss ⟨i, us, hk0, rfl, rfl, hi, hus⟩; refine VC.seq (VC.text ?_); refine VO.c (.lss) ?_; refine VO.go (VC.seq ?_); refine VC.condD rfl (fun c3 => ?_) (fun c3 => ?_)
  · have hlt : i < l.length := by omega
    have hbl : (phA l i).2.2.2 = l[i].2.2.2 := by rw [phA_eq hlt]
    have hbf := hp.bef i hlt; rw [hbl] at hbf; have hbn := hp.blen hlt; rw [hbl] at hbn; refine VC.skip (VC.seq (VC.block (VC.seq (VC.text ?_)))); refine VO.c (.move rfl) (VO.c (.ix (j := i) rfl rfl el29 (by omega)) ?_); refine VO.r (.ld vt84) ?_; refine VO.cell (.alloc zt84) ?_; intro ww3; refine VO.c (.assign rfl) ?_; refine VO.setV (cs' := [St ((l[i]).1), I ((l[i]).2.1), I ((l[i]).2.2.1), .v y25 ((l[i]).2.2.2)]) vt84 .v ?_; refine VO.shut [(5, .p y84 (l[i]))] (.cons rfl (.var m0 .refl) .nil) ?_; refine VO.go (VC.seq (VC.text ?_)); refine VO.c (.fa (.r (.r (.r .o)))) ?_; refine VO.r (.ld vt25) ?_; refine VO.r (.len el25) ?_; refine VO.c (.move rfl) ?_; refine VO.go (VC.block ?_); refine VC.keep [(3, .raw ww1), (4, I ((i : Nat) : Int)), (11, .v y29 l), (12, I ((l.length : Nat) : Int)), (13, I ((i : Nat) : Int)), (19, .v y25 ((l[i]).2.2.2)), (20, I ((((l[i]).2.2.2).length : Nat) : Int)), (21, I ((0 : Nat) : Int))] ⟨rfl, rfl, rfl, rfl, rfl, rfl, rfl, rfl, trivial⟩ ?_; refine VC.loop (I := fun kk ff ss => ∃ (k : Nat) (us : List Value), kk = l[i].2.2.2.length - k ∧ ff = [(3, .raw ww1), (4, I ((i : Nat) : Int)), (11, .v y29 l), (12, I ((l.length : Nat) : Int)), (13, I ((i : Nat) : Int)), (19, .v y25 ((l[i]).2.2.2)), (20, I ((((l[i]).2.2.2).length : Nat) : Int)), (21, I ((k : Nat) : Int))] ∧ ss = (ww1, .cel 25 l.length (us.map .raw)) :: matS 3 (.int .i64) us (behW l l.length i k) ∧ k ≤ l[i].2.2.2.length ∧ us.length = l.length) ?_ _ _ _ ⟨0, us, rfl, rfl, (by rw [behW_0]), (by omega), hus⟩; clear hus; rintro kk ff ss ⟨k, us, hk2, rfl, rfl, hk, hus⟩; refine VC.seq (VC.text ?_); refine VO.c (.lss) ?_; refine VO.go (VC.seq ?_); refine VC.condD rfl (fun c6 => ?_) (fun c6 => ?_)
    · have hk2 : k < l[i].2.2.2.length := by omega
      have hbk := hbf k hk2; rw [getDg hk2] at hbk; have hwl : (behW l l.length i k).length = l.length := behW_len; have hst := behW_step hp (n := l.length) hlt hk2 (by omega); have hwa := behW_at (l := l) (n := l.length) (i := i) (j := k) (k := (l[i].2.2.2[k]).toNat) (by omega); have hjl := behJ_len (l := l) (i := i) (j := k) (k := (l[i].2.2.2[k]).toNat); refine VC.skip (VC.seq (VC.block (VC.seq (VC.text ?_)))); refine VO.c (.ix (j := k) rfl rfl el25 (by omega)) ?_; refine VO.r (.ld vt3) ?_; refine VO.c (.assign rfl) ?_; refine VO.go (VC.text ?_); refine VO.c (.move rfl) (VO.c (.move rfl) (VO.c (.move rfl) (VO.c (.move rfl) ?_))); refine VO.c (.ixCZ (k := ((l[i]).2.2.2)[k]) rfl rfl m0 el86 (by omega) (by omega)) ?_; refine VO.r (.ldC (j := (((l[i]).2.2.2)[k]).toNat) (v := .raw (us[(((l[i]).2.2.2)[k]).toNat]'(by omega))) rfl m0 vt25 (by rw [List.getElem?_map, List.getElem?_eq_getElem (by omega)]; rfl) (by omega)) ?_; refine VO.c (.move rfl) ?_; refine VO.new (.lit [((i : Nat) : Int)] el25) ?_; refine VO.perm (mat_front (j := (((l[i]).2.2.2)[k]).toNat) (by omega) (by omega)) ?_; refine VO.app rfl rfl el25 el25 (by rw [hwa]; simp; omega) ?_; intro ww4; refine VO.one m0 fun ho1 => ?_; refine VO.c (.ixCZ (k := ((l[i]).2.2.2)[k]) rfl rfl m1 el86 (by omega) (by omega)) ?_; refine VO.perm swap1 ?_; refine VO.setC (((l[i]).2.2.2)[k]).toNat vt25 (by omega) (by rw [List.length_map]; omega) rfl rfl ho1 ?_; refine VO.perm (mat_back (by omega) (by omega)) ?_; refine VO.nil (VC.text ?_); refine VO.c (.add rfl rfl (by omega)) (VO.c (.move rfl) ?_); refine VO.nil ?_; refine ⟨_, [(3, .raw ww1), (4, I ((i : Nat) : Int)), (11, .v y29 l), (12, I ((l.length : Nat) : Int)), (13, I ((i : Nat) : Int)), (19, .v y25 ((l[i]).2.2.2)), (20, I ((((l[i]).2.2.2).length : Nat) : Int)), (21, I (((k + 1) : Nat) : Int))], ?_, ⟨rfl, rfl, rfl, rfl, rfl, rfl, rfl, rfl, trivial⟩, k + 1, us.set (((l[i]).2.2.2)[k]).toNat ww4, rfl, rfl, (by rw [← hst, List.map_set]), (by omega), (by rw [List.length_set]; exact hus)⟩; omega
    refine VC.exit (VC.text ?_); refine VO.c (.add rfl rfl (by omega)) (VO.c (.move rfl) ?_); refine VO.nil ?_; refine ⟨_, [(3, .raw ww1), (11, .v y29 l), (12, I ((l.length : Nat) : Int)), (13, I (((i + 1) : Nat) : Int))], ?_, ⟨rfl, rfl, rfl, rfl, trivial⟩, i + 1, us, rfl, rfl, (by rw [behW_end (by rw [hbl]; omega)]), (by omega), hus⟩; omega
  refine VC.exit (VC.seq (VC.text ?_)); refine VO.c (.move rfl) (VO.c (.assign rfl) (VO.go ?_)); refine VC.ret ?_; exact VEnd.one rfl (evC (co_mat0 (by rw [hus]; simp) hus.symm)) (pvE (by rw [show i = l.length by omega]; rfl))
end Go.Proofs
namespace Go.Proofs
open Go.Fs
set_option maxHeartbeats 1000000
def aftG (d : Pha → Int) (l : List Pha) : Nat → Nat → Int
  | 0, _ => 0
  | f + 1, p => maxL ((behF l l.length p).map fun x => d (phA l x.toNat) + aftG d l f x.toNat)
theorem beh_lt {l : List Pha} (hp : PlanOk l) {p : Nat} {x : Int} (h : x ∈ behF l l.length p) : ((p : Nat) : Int) < x ∧ x < ((l.length : Nat) : Int) := by
  obtain ⟨q, h1, h2, rfl⟩ := behF_mem.1 h; obtain ⟨k, hk, he⟩ := List.mem_iff_getElem.1 h2; have := (hp.bef q h1 k hk).2.1; rw [getDg hk, he] at this; omega
theorem aftG_stable {d : Pha → Int} {l : List Pha} (hp : PlanOk l) : ∀ (f g p : Nat), l.length - p ≤ f → l.length - p ≤ g → aftG d l f p = aftG d l g p
  | 0, 0, p, _, _ => rfl
  | 0, g + 1, p, h1, _ => by
    have : behF l l.length p = [] := List.eq_nil_iff_forall_not_mem.2 fun x hx => by have := beh_lt hp hx; omega
    show 0 = maxL _
    rw [this] <;> rfl
  | f + 1, 0, p, _, h2 => by
    have : behF l l.length p = [] := List.eq_nil_iff_forall_not_mem.2 fun x hx => by have := beh_lt hp hx; omega
    show maxL _ = 0
    rw [this] <;> rfl
  | f + 1, g + 1, p, h1, h2 => by
    show maxL _ = maxL _; congr 1; refine List.map_congr_left fun x hx => ?_; have := beh_lt hp hx; rw [aftG_stable hp f g x.toNat (by omega) (by omega)]
def aftF (d : Pha → Int) (l : List Pha) (p : Nat) : Int := aftG d l (l.length - p) p
def chnF (d : Pha → Int) (l : List Pha) (p : Nat) : Int := d (phA l p) + aftF d l p
theorem aftF_eq {d : Pha → Int} {l : List Pha} (hp : PlanOk l) (p : Nat) : aftF d l p = maxL ((behF l l.length p).map fun x => chnF d l x.toNat) := by
  unfold aftF; rw [aftG_stable hp (l.length - p) (l.length - p + 1) p (Nat.le_refl _) (by omega)]; show maxL _ = maxL _; congr 1; refine List.map_congr_left fun x hx => ?_; have := beh_lt hp hx; unfold chnF aftF; rw [aftG_stable hp (l.length - p) (l.length - x.toNat) x.toNat (by omega) (Nat.le_refl _)]
def chnL (d : Pha → Int) (l : List Pha) : List Int := (List.range l.length).map (chnF d l)
theorem maxL_nn : ∀ {l : List Int}, 0 ≤ maxL l := by
  intro l
  have : ∀ (l : List Int) (m : Int), 0 ≤ m → 0 ≤ l.foldl max m := fun l => by
    induction l with
    | nil => intro m h; exact h
    | cons x r ih => intro m h; exact ih _ (by omega)
  exact this l 0 (Int.le_refl _)
theorem maxL_fold : ∀ {l : List Int} {m M : Int}, l.foldl max m ≤ M ↔ m ≤ M ∧ ∀ x ∈ l, x ≤ M
  | [], m, M => by simp
  | x :: r, m, M => by
    rw [List.foldl_cons, maxL_fold (l := r)]; simp only [List.mem_cons, forall_eq_or_imp]; exact ⟨fun ⟨h1, h2⟩ => ⟨by omega, by omega, h2⟩, fun ⟨h1, h2, h3⟩ => ⟨by omega, h3⟩⟩
theorem maxL_le {l : List Int} {M : Int} : maxL l ≤ M ↔ 0 ≤ M ∧ ∀ x ∈ l, x ≤ M := maxL_fold
theorem maxL_ge {l : List Int} {x : Int} (h : x ∈ l) : x ≤ maxL l := (maxL_le.1 (Int.le_refl (maxL l))).2 x h
theorem maxL_mem : ∀ {l : List Int}, maxL l = 0 ∨ maxL l ∈ l := by
  intro l
  have : ∀ (l : List Int) (m : Int), l.foldl max m = m ∨ l.foldl max m ∈ l := fun l => by
    induction l with
    | nil => intro m; exact .inl rfl
    | cons x r ih =>
      intro m; rw [List.foldl_cons]; rcases ih (max m x) with h | h
      · by_cases hx : x ≤ m
        · exact .inl (by rw [h]; omega)
        exact .inr (by rw [h, show max m x = x by omega]; exact List.mem_cons_self)
      exact .inr (List.mem_cons_of_mem _ h)
  exact this l 0
theorem chn_b {d : Pha → Int} {l : List Pha} (hp : PlanOk l) (hd : DurOk d l) : ∀ (f p : Nat), l.length - p ≤ f → p < l.length → 0 ≤ aftF d l p ∧ 0 ≤ chnF d l p ∧ chnF d l p ≤ 1000 * (((l.length - p : Nat)) : Int)
  | 0, p, h, hl => by omega
  | f + 1, p, h, hl => by
    have h1 := hd p hl
    have h2 : aftF d l p ≤ 1000 * (((l.length - (p + 1) : Nat)) : Int) := by
      rw [aftF_eq hp]; refine maxL_le.2 ⟨by omega, fun y hy => ?_⟩; obtain ⟨x, hx, rfl⟩ := List.mem_map.1 hy; have h3 := beh_lt hp hx; have := chn_b hp hd f x.toNat (by omega) (by omega); omega
    have h3 : 0 ≤ aftF d l p := by rw [aftF_eq hp]; exact maxL_nn
    unfold chnF; omega
theorem chn_bd {d : Pha → Int} {l : List Pha} (hp : PlanOk l) (hd : DurOk d l) {p : Nat} (h : p < l.length) : 0 ≤ aftF d l p ∧ 0 ≤ chnF d l p ∧ chnF d l p ≤ 16000 := by
  have := chn_b hp hd _ p (Nat.le_refl _) h; have := hp.len; omega
def rowC (d : Pha → Int) (l : List Pha) (m : Nat) : List Int := (List.range l.length).map fun p => if m ≤ p then chnF d l p else 0
def rowI (d : Pha → Int) (l : List Pha) (i k : Nat) : List Int := (rowC d l (i + 1)).set i (d (phA l i) + maxL (((behF l l.length i).take k).map fun x => chnF d l x.toNat))
theorem rowC_len {d : Pha → Int} {l : List Pha} {m : Nat} : (rowC d l m).length = l.length := by simp [rowC]
theorem rowI_len {d : Pha → Int} {l : List Pha} {i k : Nat} : (rowI d l i k).length = l.length := by simp [rowI, rowC]
theorem rowC_at {d : Pha → Int} {l : List Pha} {m p : Nat} (h : p < (rowC d l m).length) : (rowC d l m)[p] = if m ≤ p then chnF d l p else 0 := by simp [rowC]
theorem rowC_end {d : Pha → Int} {l : List Pha} : rowC d l 0 = chnL d l := by simp [rowC, chnL]
theorem rowC_0 {d : Pha → Int} {l : List Pha} : List.replicate l.length 0 = rowC d l l.length := by
  refine List.ext_getElem (by simp [rowC]) fun i h1 h2 => ?_; rw [rowC_at, List.getElem_replicate, if_neg (by simp at h1; omega)]
theorem rowI_at {d : Pha → Int} {l : List Pha} {i k : Nat} (h : i < (rowI d l i k).length) : (rowI d l i k)[i] = d (phA l i) + maxL (((behF l l.length i).take k).map fun x => chnF d l x.toNat) := by
  unfold rowI at h ⊢; rw [List.getElem_set_self]
theorem rowI_gt {d : Pha → Int} {l : List Pha} {i k p : Nat} (hp : i < p) (h : p < (rowI d l i k).length) : (rowI d l i k)[p] = chnF d l p := by
  unfold rowI at h ⊢; rw [List.getElem_set, if_neg (by omega), rowC_at, if_pos (by omega)]
theorem rowI_0 {d : Pha → Int} {l : List Pha} {m i : Nat} (hm : m = i + 1) {v : Int} (hv : v = d (phA l i)) : (rowC d l m).set i v = rowI d l i 0 := by
  subst hm; unfold rowI; rw [hv, List.take_zero, List.map_nil, show maxL [] = 0 from rfl, Int.add_zero]
theorem rowI_step {d : Pha → Int} {l : List Pha} {i k : Nat} {a b c : Int} (hk : k < (behF l l.length i).length) (ha : a = d (phA l i) + maxL (((behF l l.length i).take k).map fun x => chnF d l x.toNat)) (hb : b = d (phA l i)) (hc : c = chnF d l ((behF l l.length i)[k]).toNat) : (rowI d l i k).set i (max a (b + c)) = rowI d l i (k + 1) := by
  unfold rowI; rw [List.set_set]; congr 1; rw [List.take_succ_eq_append_getElem hk, List.map_append, List.map_singleton, maxL_app, ha, hb, hc]; omega
theorem rowI_end {d : Pha → Int} {l : List Pha} (hp : PlanOk l) {i k : Nat} (hk : (behF l l.length i).length ≤ k) : rowI d l i k = rowC d l i := by
  refine List.ext_getElem (by rw [rowI_len, rowC_len]) fun p h1 h2 => ?_; by_cases e : p = i
  · subst e; rw [rowI_at, rowC_at, if_pos (Nat.le_refl _), List.take_of_length_le hk, ← aftF_eq hp] <;> rfl
  unfold rowI at h1 ⊢; rw [List.getElem_set, if_neg (fun h => e h.symm), rowC_at, rowC_at]; by_cases h3 : i ≤ p
  · rw [if_pos (by omega), if_pos h3]
  rw [if_neg (by omega), if_neg h3]
theorem behM_at {l : List Pha} {n k : Nat} (h : k < (behM l n).length) : (behM l n)[k] = behF l n k := by simp [behM]
theorem behM_len {l : List Pha} {n : Nat} : (behM l n).length = n := by simp [behM]
theorem cChains_ok {F : Pha → Int} {l : List (ByteArray × Int × Int × (List Int))} {f : PV} (hp : PlanOk l) (hd : DurOk F l) (hf : ∀ x ∈ l, VCall Tryz.prog OA f [.v y84 x] (I (F x))) : VF Tryz.prog OA 86 [.v y29 l, f] (.v y25 (chnL F l)) := by
  refine VF.enter Tryz.func86 rfl (fun _ _ => rfl) rfl ?_; show VC _ _ _ _ _ [(0, .v y29 l), (1, f)] [] _; refine VC.seq (VC.text ?_); have hlen := hp.len; have hbml : (behM l l.length).length = l.length := behM_len; refine VO.c (.assign rfl) ?_; refine VO.go (VC.seq (VC.text ?_)); refine VO.c (.move rfl) ?_; refine VO.call rfl rfl (VF.call (cBehind_ok hp)) ?_; refine VO.c (.assign rfl) ?_; refine VO.go (VC.seq (VC.text ?_)); refine VO.c (.move rfl) ?_; refine VO.r (.len el29) ?_; refine VO.cell (.make (k := l.length) rfl rfl el25 zt3 (by omega)) ?_; intro ww1; refine VO.c (.assign rfl) ?_; refine VO.go (VC.seq (VC.seq (VC.text ?_))); refine VO.c (.move rfl) ?_; refine VO.r (.len el29) ?_; refine VO.c (.sub rfl rfl (by omega)) (VO.c (.assign rfl) ?_); refine VO.go (VC.block ?_); refine VC.keep [(0, .v y29 l), (1, f), (5, .v y86 (behM l l.length)), (6, .raw ww1), (7, I (((l.length : Nat) : Int) - 1))] ⟨rfl, rfl, rfl, rfl, rfl, trivial⟩ ?_; refine VC.loop (I := fun kk ff ss => ∃ (m : Nat), kk = m ∧ ff = [(0, .v y29 l), (1, f), (5, .v y86 (behM l l.length)), (6, .raw ww1), (7, I (((m : Nat) : Int) - 1))] ∧ ss = [(ww1, .row 3 (.int .i64) (rowC F l m))] ∧ (m ≤ l.length)) ?_ _ _ _ ⟨l.length, rfl, rfl, (by show [(_, Cell.row _ (.int .i64) (List.replicate l.length (0 : Int)))] = _; rw [rowC_0]), (by omega)⟩; rintro kk ff ss ⟨m, hk0, rfl, rfl, hm⟩; refine VC.seq (VC.seq (VC.text ?_)); refine VO.c (.move rfl) (VO.c (.geq) (VO.go ?_)); refine VC.condD rfl (fun c4 => ?_) (fun c4 => ?_)
  · have hi : (((m : Nat) : Int) - 1).toNat = m - 1 := by omega
    have hil : m - 1 < l.length := by omega
    have hrl : (rowC F l m).length = l.length := rowC_len; have hd2 := hd (m - 1) hil
    have hbm : (behM l l.length)[(((m : Nat) : Int) - 1).toNat]'(by omega) = behF l l.length (m - 1) := by simp only [hi]; exact behM_at _
    have hle : l[(((m : Nat) : Int) - 1).toNat]'(by omega) = phA l (m - 1) := by simp only [hi]; rw [phA_eq hil]
    have hl2 : l[m - 1]'(by omega) = phA l (m - 1) := (phA_eq hil).symm; have hbfl := behF_len (l := l) (n := l.length) (k := m - 1); refine VC.skip (VC.seq (VC.block (VC.seq (VC.text ?_)))); refine VO.c (.move rfl) (VO.c (.move rfl) (VO.c (.move rfl) (VO.c (.move rfl) ?_))); refine VO.c (.move rfl) (VO.c (.ixZ (k := (((m : Nat) : Int) - 1)) rfl rfl el29 (by omega) (by omega)) ?_); refine VO.r (.ld vt84) ?_; refine VO.call rfl rfl ((hf _ (List.getElem_mem _)) ) ?_; refine VO.c (.ixOZ (k := (((m : Nat) : Int) - 1)) rfl rfl m0 el25 (by omega) (by omega)) ?_; refine VO.setE (Int.toNat (((m : Nat) : Int) - 1)) rfl rfl vt3 (by omega) ?_; refine VO.go (VC.seq (VC.text ?_)); refine VO.c (.move rfl) (VO.c (.move rfl) (VO.c (.ixZ (k := (((m : Nat) : Int) - 1)) rfl rfl el86 (by omega) (by omega)) ?_)); refine VO.r (.ld vt25) ?_; rw [hbm]; refine VO.r (.len el25) ?_; refine VO.c (.move rfl) ?_; refine VO.go (VC.block ?_); refine VC.keep [(0, .v y29 l), (1, f), (5, .v y86 (behM l l.length)), (6, .raw ww1), (7, I (((m : Nat) : Int) - 1)), (34, .v y25 (behF l l.length (m - 1))), (35, I (((behF l l.length (m - 1)).length : Nat) : Int)), (36, I ((0 : Nat) : Int))] ⟨rfl, rfl, rfl, rfl, rfl, rfl, rfl, rfl, trivial⟩ ?_; refine VC.loop (I := fun kk ff ss => ∃ (k : Nat), kk = (behF l l.length (m - 1)).length - k ∧ ff = [(0, .v y29 l), (1, f), (5, .v y86 (behM l l.length)), (6, .raw ww1), (7, I (((m : Nat) : Int) - 1)), (34, .v y25 (behF l l.length (m - 1))), (35, I (((behF l l.length (m - 1)).length : Nat) : Int)), (36, I ((k : Nat) : Int))] ∧ ss = [(ww1, .row 3 (.int .i64) (rowI F l (m - 1) k))] ∧ (k ≤ (behF l l.length (m - 1)).length)) ?_ _ _ _ ⟨0, rfl, rfl, (by simp only [hi, hl2]; rw [rowI_0 (by omega) rfl]), (by omega)⟩; rintro kk ff ss ⟨k, hk2, rfl, rfl, hk⟩; have hrl2 : (rowI F l (m - 1) k).length = l.length := rowI_len; refine VC.seq (VC.text ?_); refine VO.c (.lss) ?_; refine VO.go (VC.seq ?_); refine VC.condD rfl (fun c8 => ?_) (fun c8 => ?_)
    · have hk2 : k < (behF l l.length (m - 1)).length := by omega
      have hb1 := beh_lt hp (List.getElem_mem hk2); have hc := chn_bd hp hd (p := ((behF l l.length (m - 1))[k]).toNat) (by omega); have hri : (rowI F l (m - 1) k)[((behF l l.length (m - 1))[k]).toNat]'(by omega) = chnF F l ((behF l l.length (m - 1))[k]).toNat := rowI_gt (by omega) _
      have hr0 : (rowI F l (m - 1) k)[(((m : Nat) : Int) - 1).toNat]'(by omega) = F (phA l (m - 1)) + maxL (((behF l l.length (m - 1)).take k).map fun x => chnF F l x.toNat) := by simp only [hi]; exact rowI_at _
      refine VC.skip (VC.seq (VC.block (VC.seq (VC.text ?_)))); refine VO.c (.ix (j := k) rfl rfl el25 (by omega)) ?_; refine VO.r (.ld vt3) ?_; refine VO.c (.assign rfl) ?_; refine VO.go (VC.drawn ?_); refine VD.c (.move rfl) (VD.c (.move rfl) (VD.c (.move rfl) (VD.c (.move rfl) ?_))); refine VD.co (.ixOZ (k := (((m : Nat) : Int) - 1)) rfl rfl m0 el25 (by omega) (by omega)) ?_; refine VD.r [(ww1, .row 3 (.int .i64) (rowI F l (m - 1) k))] (.ldO rfl m0 vt3 (by omega)) (.inr ⟨rfl, rfl⟩) ?_; refine VD.nw [] (VD.c (.move rfl) (VD.c (.move rfl) (VD.c (.move rfl) ?_))); refine VD.c (.ixZ (k := (((m : Nat) : Int) - 1)) rfl rfl el29 (by omega) (by omega)) ?_; refine VD.r [] (.ld vt84) (.inl rfl) ?_; refine VD.call rfl rfl ((hf _ (List.getElem_mem _)) ) ?_; refine VD.c (.move rfl) (VD.nw [] (VD.c (.move rfl) ?_)); refine VD.co (.ixOZ (k := (behF l l.length (m - 1))[k]) rfl rfl m0 el25 (by omega) (by omega)) ?_; refine VD.r [(ww1, .row 3 (.int .i64) (rowI F l (m - 1) k))] (.ldO rfl m0 vt3 (by omega)) (.inr ⟨rfl, rfl⟩) ?_; refine VD.c (.add rfl rfl (by rw [hri, hle]; omega)) (VD.c (.imax) ?_); refine VD.co (.ixOZ (k := (((m : Nat) : Int) - 1)) rfl rfl m0 el25 (by omega) (by omega)) ?_; refine VD.mk0 (MakeV.setE (j := (Int.toNat (((m : Nat) : Int) - 1))) vt3 (by omega) rfl rfl) ?_; rintro _ _ tl2 ⟨rfl, rfl⟩; refine VD.nil ?_; refine VC.text ?_; refine VO.c (.add rfl rfl (by omega)) (VO.c (.move rfl) ?_); refine VO.nil ?_; refine ⟨_, [(0, .v y29 l), (1, f), (5, .v y86 (behM l l.length)), (6, .raw ww1), (7, I (((m : Nat) : Int) - 1)), (34, .v y25 (behF l l.length (m - 1))), (35, I (((behF l l.length (m - 1)).length : Nat) : Int)), (36, I (((k + 1) : Nat) : Int))], ?_, ⟨rfl, rfl, rfl, rfl, rfl, rfl, rfl, rfl, trivial⟩, (k + 1), rfl, rfl, (by simp only [hi, hl2, hri]; rw [rowI_step hk2 (rowI_at _) rfl rfl]), (by omega)⟩; omega
    refine VC.exit (VC.text ?_); refine VO.c (.move rfl) (VO.c (.sub rfl rfl (by omega)) (VO.c (.assign rfl) ?_)); refine VO.nil ?_; refine ⟨_, [(0, .v y29 l), (1, f), (5, .v y86 (behM l l.length)), (6, .raw ww1), (7, I ((((m - 1) : Nat) : Int) - 1))], ?_, ⟨rfl, rfl, rfl, rfl, slI rfl (by omega), trivial⟩, (m - 1), rfl, rfl, (by rw [rowI_end hp (by omega)]), (by omega)⟩; omega
  refine VC.exit (VC.seq (VC.text ?_)); refine VO.c (.move rfl) (VO.c (.assign rfl) (VO.go ?_)); refine VC.ret ?_; exact VEnd.one rfl (evC (.row m0)) (pvE (by rw [show m = 0 by omega, rowC_end]))
end Go.Proofs
namespace Go.Proofs
open Go.Fs
set_option maxHeartbeats 1000000
def idxG {α : Type} (F : α → Bool) : List α → Int → Int
  | [], _ => -1
  | x :: l, k => if F x = true then k else idxG F l (k + 1)
theorem idxG_drop {α : Type} {F : α → Bool} {l : List α} {j : Nat} (hj : j < l.length) : idxG F (l.drop j) (j : Nat) = if F l[j] = true then ((j : Nat) : Int) else idxG F (l.drop (j + 1)) ((j + 1 : Nat) : Int) := by
  rw [List.drop_eq_getElem_cons hj] <;> rfl
theorem idxG_end {α : Type} {F : α → Bool} {l : List α} {j : Nat} {k : Int} (hj : l.length ≤ j) : idxG F (l.drop j) k = -1 := by rw [List.drop_eq_nil_of_le hj] <;> rfl
def critK (d : Pha → Int) (l : List Pha) (fr : List Int) (left : Int) : Int := idxG (fun x => decide ((chnL d l).getD x.toNat 0 = left)) fr 0
def critG (d : Pha → Int) (l : List Pha) : Nat → List Int → Int → List Int
  | 0, _, _ => []
  | f + 1, fr, left => if 0 < left then fr.getD (critK d l fr left).toNat 0 :: critG d l f (behF l l.length (fr.getD (critK d l fr left).toNat 0).toNat) (left - d (phA l (fr.getD (critK d l fr left).toNat 0).toNat)) else []
def allI (n : Nat) : List Int := (List.range n).map fun q => ((q : Nat) : Int)
def critE (l : List Pha) : List Int := critG (dE true) l l.length (allI l.length) (maxL (chnL (dE true) l))
theorem chnL_get {d : Pha → Int} {l : List Pha} {p : Nat} (h : p < l.length) : (chnL d l).getD p 0 = chnF d l p := by
  unfold chnL; rw [getDg (by simpa using h)]; simp
theorem chnL_len {d : Pha → Int} {l : List Pha} : (chnL d l).length = l.length := by simp [chnL]
structure CritI (d : Pha → Int) (l : List Pha) (f : Nat) (fr : List Int) (left : Int) : Prop where
  mx : left = maxL (fr.map fun x => chnF d l x.toNat)
  rng : ∀ x ∈ fr, 0 ≤ x ∧ x < ((l.length : Nat) : Int) ∧ ((l.length : Nat) : Int) - x ≤ ((f : Nat) : Int)
  len : fr.length ≤ l.length
def criR (l : List Pha) : List Int := if planE l = 0 then critE l else []
end Go.Proofs
namespace Go.Proofs
open Go.Fs
set_option maxHeartbeats 1000000
end Go.Proofs
namespace Go.Fs
variable {P : Program} {orc : FuncId → List Value → Heap → Option (Value × Heap)} {τ : Ty}
end Go.Fs
namespace Go.Proofs
open Go.Fs
set_option maxHeartbeats 1000000
theorem chn_end {d : Pha → Int} {l : List Pha} (hp : PlanOk l) (hd : DurOk d l) : ∀ (f i : Nat), l.length - i ≤ f → i < l.length → begF d l i + chnF d l i ≤ maxL (endL d l l.length)
  | 0, i, h, hi => by omega
  | f + 1, i, h, hi => by
    have h1 : endF d l i ≤ maxL (endL d l l.length) := by
      rw [endL_eq]; exact maxL_ge (List.mem_map.2 ⟨i, List.mem_range.2 hi, rfl⟩)
    have h2 : aftF d l i + endF d l i ≤ maxL (endL d l l.length) := by
      rcases maxL_mem (l := (behF l l.length i).map fun x => chnF d l x.toNat) with h3 | h3
      · rw [← aftF_eq hp] at h3; omega
      rw [← aftF_eq hp] at h3; obtain ⟨x, hx, he⟩ := List.mem_map.1 h3; have h4 := beh_lt hp hx; have h5 := chn_end hp hd f x.toNat (by omega) (by omega); obtain ⟨q, hq, hm, rfl⟩ := behF_mem.1 hx; obtain ⟨k, hk, hke⟩ := List.mem_iff_getElem.1 hm
      have h6 : endF d l i ≤ begF d l q := by
        unfold begF
        have : ∀ n, k < n → n ≤ (phA l q).2.2.2.length → endF d l i ≤ begE (endL d l q) (phA l q).2.2.2 n := fun n => by
          induction n with
          | zero => intro h7 _; omega
          | succ n ihn =>
            intro h7 h8; show _ ≤ max _ _; by_cases e : k = n
            · subst e; rw [getDg hk, hke, Int.toNat_natCast, endL_get (by omega)]; omega
            have := ihn (by omega) (by omega); omega
        exact this _ hk (Nat.le_refl _)
      rw [Int.toNat_natCast] at h5 he; omega
    unfold chnF; unfold endF at h2; omega
end Go.Proofs
namespace Go.Proofs
open Go.Fs
set_option maxHeartbeats 1000000
theorem shortP_t {l : List Pha} (h : shortP l = true) : (∀ x ∈ l, x.1.size ≤ 40 ∧ x.2.2.2.length ≤ 8) ∧ (l.length ≤ 7 ∨ l.length = 17) := of_decide_eq_true h
end Go.Proofs
namespace Go.Fs
variable {P : Program} {fl : VL} {σ γ : Sto} {Q : PV → Sto → Prop} {fn : Func} {τ : Ty}
theorem rep_two {h : Heap} {S : List Nat} {w u : Value} {k : IntKind} {x : Int} (hu : RepPV h S (.tup [.raw w, .v (.int k) x]) u) : u = .tuple #[w, .int k x] := by
  obtain ⟨vs, rfl, hv⟩ := hu; obtain ⟨a, r, rfl, ha, hr⟩ := hv; obtain ⟨b, r2, rfl, hb, hr2⟩ := hr; rw [show a = w from ha, RepV.int hb, show r2 = [] from hr2]
theorem VEndG.rowT {r r' : ResultVar} {w : Value} {e : TypeId} {xs : List τ.den} {k : IntKind} {x : Int} (hr : fn.results = #[r, r']) (h1 : EndV P fl [] r (.raw w)) (h2 : EndV P fl [] r' (.v (.int k) x)) (hQ : Q (.tup [.raw w, .v (.int k) x]) [(w, Cell.row e τ xs)]) : VEndG P fn [] Q .ret fl [(w, Cell.row e τ xs)] :=
  ⟨rfl, [.raw w, .v (.int k) x], by rw [hr]; exact .cons h1 (.cons h2 .nil), hQ, .inr (.inr (.inr ⟨rfl, fun h S u hu hc ha => by
    have hu := rep_two hu; subst hu; have hcw := hc _ List.mem_cons_self; rcases hcw with ⟨hw, hx⟩ | ⟨b, rs, m, hw, _⟩
    · have hw : w = .slice Option.none 0 0 := hw; subst hw; exact ⟨rfl, fun h' S' c hc => by obtain rfl := List.mem_singleton.1 hc; exact .inl ⟨rfl, hx⟩⟩
    have hw : w = .slice (some ⟨b, 0, Option.none⟩) xs.length 0 := hw; subst hw; have ha : (af1 (.slice (some ⟨b, 0, Option.none⟩) xs.length 0) && (af1 (.int k x) && true)) = true := ha
    exact absurd (band ha).1 (by simp [af1, af0])⟩))⟩
theorem rowT_end {w : Value} {e : TypeId} {k : IntKind} {xs ys : List τ.den} {x y : Int} (h1 : xs = ys) (h2 : x = y) : PV.tup [.raw w, .v (.int k) x] = PV.tup [.raw w, .v (.int k) y] ∧ [(w, Cell.row e τ xs)] = [(w, Cell.row e τ ys)] := by
  subst h1 h2; exact ⟨rfl, rfl⟩
end Go.Fs
namespace Go.Proofs
open Go.Fs
set_option maxHeartbeats 1000000
theorem cTime_ok {n : Int} : VF Tryz.prog OA 104 [I n] (I (rangeE n 0 100000)) := by
  refine VF.enter Tryz.func104 rfl (fun _ _ => rfl) rfl ?_; show VC _ _ _ _ _ [(0, I n)] [] _; refine VC.seq (VC.text ?_); refine VO.c (.assign rfl) ?_; refine VO.go (VC.seq (VC.text ?_)); refine VO.c (.move rfl) ?_; refine VO.call rfl rfl (VF.call (cWithin_ok )) ?_; refine VO.c (.assign rfl) (VO.go ?_); refine VC.ret ?_; exact VEnd.one rfl evT (pvI (by rfl))
theorem cMapII_ok {F : Int → Int} {l : List Int} {f : PV} (hl : l.length < 100000) (hf : ∀ x ∈ l, VCall Tryz.prog OA f [I x] (I (F x))) : VF Tryz.prog OA 107 [.v y25 l, f] (.v y25 (l.map F)) := by
  refine VF.enter Tryz.func107 rfl (fun _ _ => rfl) rfl ?_; show VC _ _ _ _ _ [(0, .v y25 l), (1, f)] [] _; refine VC.seq (VC.text ?_); refine VO.c (.assign rfl) ?_; refine VO.go (VC.seq (VC.text ?_)); refine VO.c (.assign rfl) ?_; refine VO.go (VC.seq (VC.seq (VC.text ?_))); refine VO.c (.move rfl) ?_; refine VO.r (.len el25) ?_; refine VO.c (.move rfl) ?_; refine VO.go (VC.block ?_); refine VC.cell0 3 (.int .i64) ?_; refine VC.keep [(1, f), (5, .raw (.slice none 0 0)), (8, .v y25 l), (9, I ((l.length : Nat) : Int)), (10, I ((0 : Nat) : Int))] ⟨rfl, rfl, rfl, rfl, rfl, trivial⟩ ?_; refine VC.loop (I := fun kk ff ss => ∃ (j : Nat) (out : Value), kk = l.length - j ∧ ff = [(1, f), (5, .raw out), (8, .v y25 l), (9, I ((l.length : Nat) : Int)), (10, I ((j : Nat) : Int))] ∧ ss = [(out, .row 3 (.int .i64) ((l.take j).map F))] ∧ (j ≤ l.length)) ?_ _ _ _ ⟨0, (.slice none 0 0), rfl, rfl, rfl, Nat.zero_le _⟩; rintro kk ff ss ⟨j, out, hk0, rfl, rfl, hj⟩; refine VC.seq (VC.text ?_); refine VO.c (.lss) ?_; refine VO.go (VC.seq ?_); refine VC.condD rfl (fun c3 => ?_) (fun c3 => ?_)
  · refine VC.skip (VC.seq (VC.block (VC.seq (VC.text ?_)))); refine VO.c (.ix (j := j) rfl rfl el25 (by omega)) ?_; refine VO.r (.ld vt3) ?_; refine VO.c (.assign rfl) ?_; refine VO.go (VC.text ?_); refine VO.c (.move rfl) (VO.c (.move rfl) (VO.c (.move rfl) ?_)); refine VO.call rfl rfl ((hf _ (List.getElem_mem _)) ) ?_; refine VO.new (.lit [F (l[j])] el25) ?_; refine VO.app rfl rfl el25 el25 (by simp; omega) ?_; intro ww1; refine VO.c (.assign rfl) ?_; refine VO.nil (VC.text ?_); refine VO.c (.add rfl rfl (by omega)) (VO.c (.move rfl) ?_); refine VO.nil ?_; refine ⟨_, [(1, f), (5, .raw ww1), (8, .v y25 l), (9, I ((l.length : Nat) : Int)), (10, I (((j + 1) : Nat) : Int))], ?_, ⟨rfl, rfl, rfl, rfl, rfl, trivial⟩, (j + 1), ww1, rfl, rfl, (by rw [List.take_succ_eq_append_getElem (by omega), List.map_append] <;> rfl), (by omega)⟩; omega
  refine VC.exit (VC.seq (VC.text ?_)); refine VO.c (.move rfl) (VO.c (.assign rfl) (VO.go ?_)); refine VC.ret ?_; exact VEnd.one rfl (evC (.row m0)) (pvE (by rw [List.take_of_length_le (by omega)]))
theorem cMapIIo_ok {F : Int → Int} {l : List Int} {f : PV} (hl : l.length < 100000) (hf : ∀ x ∈ l, VCall Tryz.prog OA f [I x] (I (F x))) : VFG Tryz.prog OA 107 [.v y25 l, f] [] (fun r g => ∃ w, r = .raw w ∧ g = [(w, .row 3 (.int .i64) (l.map F))]) := by
  refine VFG.enter Tryz.func107 rfl (fun _ _ => rfl) rfl ?_; show VC _ _ _ _ _ [(0, .v y25 l), (1, f)] [] _; refine VC.seq (VC.text ?_); refine VO.c (.assign rfl) ?_; refine VO.go (VC.seq (VC.text ?_)); refine VO.c (.assign rfl) ?_; refine VO.go (VC.seq (VC.seq (VC.text ?_))); refine VO.c (.move rfl) ?_; refine VO.r (.len el25) ?_; refine VO.c (.move rfl) ?_; refine VO.go (VC.block ?_); refine VC.cell0 3 (.int .i64) ?_; refine VC.keep [(1, f), (5, .raw (.slice none 0 0)), (8, .v y25 l), (9, I ((l.length : Nat) : Int)), (10, I ((0 : Nat) : Int))] ⟨rfl, rfl, rfl, rfl, rfl, trivial⟩ ?_; refine VC.loop (I := fun kk ff ss => ∃ (j : Nat) (out : Value), kk = l.length - j ∧ ff = [(1, f), (5, .raw out), (8, .v y25 l), (9, I ((l.length : Nat) : Int)), (10, I ((j : Nat) : Int))] ∧ ss = [(out, .row 3 (.int .i64) ((l.take j).map F))] ∧ (j ≤ l.length)) ?_ _ _ _ ⟨0, (.slice none 0 0), rfl, rfl, rfl, Nat.zero_le _⟩; rintro kk ff ss ⟨j, out, hk0, rfl, rfl, hj⟩; refine VC.seq (VC.text ?_); refine VO.c (.lss) ?_; refine VO.go (VC.seq ?_); refine VC.condD rfl (fun c3 => ?_) (fun c3 => ?_)
  · refine VC.skip (VC.seq (VC.block (VC.seq (VC.text ?_)))); refine VO.c (.ix (j := j) rfl rfl el25 (by omega)) ?_; refine VO.r (.ld vt3) ?_; refine VO.c (.assign rfl) ?_; refine VO.go (VC.text ?_); refine VO.c (.move rfl) (VO.c (.move rfl) (VO.c (.move rfl) ?_)); refine VO.call rfl rfl ((hf _ (List.getElem_mem _)) ) ?_; refine VO.new (.lit [F (l[j])] el25) ?_; refine VO.app rfl rfl el25 el25 (by simp; omega) ?_; intro ww2; refine VO.c (.assign rfl) ?_; refine VO.nil (VC.text ?_); refine VO.c (.add rfl rfl (by omega)) (VO.c (.move rfl) ?_); refine VO.nil ?_; refine ⟨_, [(1, f), (5, .raw ww2), (8, .v y25 l), (9, I ((l.length : Nat) : Int)), (10, I (((j + 1) : Nat) : Int))], ?_, ⟨rfl, rfl, rfl, rfl, rfl, trivial⟩, (j + 1), ww2, rfl, rfl, (by rw [List.take_succ_eq_append_getElem (by omega), List.map_append] <;> rfl), (by omega)⟩; omega
  refine VC.exit (VC.seq (VC.text ?_)); refine VO.c (.move rfl) (VO.c (.assign rfl) (VO.go ?_)); refine VC.ret ?_; exact VEndG.row rfl evT ⟨out, rfl, (by rw [List.take_of_length_le (by omega)])⟩
theorem cMapLI_ok {F : List Int → Int} {l : List (List Int)} {f : PV} (hl : l.length < 100000) (hf : ∀ x ∈ l, VCall Tryz.prog OA f [.v y25 x] (I (F x))) : VF Tryz.prog OA 105 [.v y86 l, f] (.v y25 (l.map F)) := by
  refine VF.enter Tryz.func105 rfl (fun _ _ => rfl) rfl ?_; show VC _ _ _ _ _ [(0, .v y86 l), (1, f)] [] _; refine VC.seq (VC.text ?_); refine VO.c (.assign rfl) ?_; refine VO.go (VC.seq (VC.text ?_)); refine VO.c (.assign rfl) ?_; refine VO.go (VC.seq (VC.seq (VC.text ?_))); refine VO.c (.move rfl) ?_; refine VO.r (.len el86) ?_; refine VO.c (.move rfl) ?_; refine VO.go (VC.block ?_); refine VC.cell0 3 (.int .i64) ?_; refine VC.keep [(1, f), (5, .raw (.slice none 0 0)), (8, .v y86 l), (9, I ((l.length : Nat) : Int)), (10, I ((0 : Nat) : Int))] ⟨rfl, rfl, rfl, rfl, rfl, trivial⟩ ?_; refine VC.loop (I := fun kk ff ss => ∃ (j : Nat) (out : Value), kk = l.length - j ∧ ff = [(1, f), (5, .raw out), (8, .v y86 l), (9, I ((l.length : Nat) : Int)), (10, I ((j : Nat) : Int))] ∧ ss = [(out, .row 3 (.int .i64) ((l.take j).map F))] ∧ (j ≤ l.length)) ?_ _ _ _ ⟨0, (.slice none 0 0), rfl, rfl, rfl, Nat.zero_le _⟩; rintro kk ff ss ⟨j, out, hk0, rfl, rfl, hj⟩; refine VC.seq (VC.text ?_); refine VO.c (.lss) ?_; refine VO.go (VC.seq ?_); refine VC.condD rfl (fun c3 => ?_) (fun c3 => ?_)
  · refine VC.skip (VC.seq (VC.block (VC.seq (VC.text ?_)))); refine VO.c (.ix (j := j) rfl rfl el86 (by omega)) ?_; refine VO.r (.ld vt25) ?_; refine VO.c (.assign rfl) ?_; refine VO.go (VC.text ?_); refine VO.c (.move rfl) (VO.c (.move rfl) (VO.c (.move rfl) ?_)); refine VO.call rfl rfl ((hf _ (List.getElem_mem _)) ) ?_; refine VO.new (.lit [F (l[j])] el25) ?_; refine VO.app rfl rfl el25 el25 (by simp; omega) ?_; intro ww3; refine VO.c (.assign rfl) ?_; refine VO.nil (VC.text ?_); refine VO.c (.add rfl rfl (by omega)) (VO.c (.move rfl) ?_); refine VO.nil ?_; refine ⟨_, [(1, f), (5, .raw ww3), (8, .v y86 l), (9, I ((l.length : Nat) : Int)), (10, I (((j + 1) : Nat) : Int))], ?_, ⟨rfl, rfl, rfl, rfl, rfl, trivial⟩, (j + 1), ww3, rfl, rfl, (by rw [List.take_succ_eq_append_getElem (by omega), List.map_append] <;> rfl), (by omega)⟩; omega
  refine VC.exit (VC.seq (VC.text ?_)); refine VO.c (.move rfl) (VO.c (.assign rfl) (VO.go ?_)); refine VC.ret ?_; exact VEnd.one rfl (evC (.row m0)) (pvE (by rw [List.take_of_length_le (by omega)]))
theorem cLat1_ok {n : Int} {dl : Int} (h0 : 0 ≤ n ∧ n ≤ 100000) (h1 : 0 ≤ dl ∧ dl ≤ 100000) : VF Tryz.prog OA 148 [I n, .p (.int .i64) dl] (I (dl - n)) := by
  refine VF.enter Tryz.func148 rfl (fun _ _ => rfl) rfl ?_; show VC _ _ _ _ _ [(0, I n), (1, .p (.int .i64) dl)] [] _; refine VC.seq (VC.text ?_); refine VO.c (.assign rfl) ?_; refine VO.go (VC.seq (VC.text ?_)); refine VO.r (.ld vt3) ?_; refine VO.c (.move rfl) (VO.c (.sub rfl rfl (by omega)) (VO.c (.assign rfl) (VO.go ?_))); refine VC.ret ?_; exact VEnd.one rfl evT (pvI (by rfl))
def badE (l : List Pha) (dl : Int) : Int := firstE [planE l, rangeE dl 0 100000]
def latE (l : List Pha) (dl : Int) : Int := if badE l dl = 0 then whenE (decide (dl < (durE l).2)) 24 else badE l dl
def fatE (l : List Pha) (dl : Int) : Int := if badE l dl = 0 then whenE (decide (dl < (durE l).1)) 24 else badE l dl
def latL (l : List Pha) (dl : Int) : List Int := (chnL (dE true) l).map fun n => dl - n
def latR (l : List Pha) (dl : Int) : List Int := if latE l dl = 0 then latL l dl else []
theorem bad_0 {l : List Pha} {dl : Int} (h : badE l dl = 0) : planE l = 0 ∧ 0 ≤ dl ∧ dl ≤ 100000 := by
  have h := firstE_zero.1 h; have h2 := rangeE_zero.1 (h (rangeE dl 0 100000) (by simp)); exact ⟨h _ List.mem_cons_self, h2⟩
theorem lat_b {l : List Pha} {dl : Int} (h : badE l dl ≠ 0) : latE l dl = badE l dl := if_neg h
theorem lat_t {l : List Pha} {dl : Int} (h : badE l dl = 0) (h2 : dl < (durE l).2) : latE l dl = 24 := by
  rw [latE, if_pos h, decide_eq_true h2] <;> rfl
theorem lat_f {l : List Pha} {dl : Int} (h : badE l dl = 0) (h2 : ¬ dl < (durE l).2) : latE l dl = 0 := by
  rw [latE, if_pos h, decide_eq_false h2] <;> rfl
theorem fat_b {l : List Pha} {dl : Int} (h : badE l dl ≠ 0) : fatE l dl = badE l dl := if_neg h
theorem fat_t {l : List Pha} {dl : Int} (h : badE l dl = 0) (h2 : dl < (durE l).1) : fatE l dl = 24 := by
  rw [fatE, if_pos h, decide_eq_true h2] <;> rfl
theorem fat_f {l : List Pha} {dl : Int} (h : badE l dl = 0) (h2 : ¬ dl < (durE l).1) : fatE l dl = 0 := by
  rw [fatE, if_pos h, decide_eq_false h2] <;> rfl
theorem chnL_b {d : Pha → Int} {l : List Pha} (hp : PlanOk l) (hd : DurOk d l) {x : Int} (h : x ∈ chnL d l) : 0 ≤ x ∧ x ≤ 16000 := by
  obtain ⟨i, hi, rfl⟩ := List.mem_map.1 h; have := chn_bd hp hd (List.mem_range.1 hi); omega
theorem cLatest_ok {l : List (ByteArray × Int × Int × (List Int))} {dl : Int} (hl : l.length < 100000) (hb : ∀ x ∈ l, x.2.2.2.length < 100000) : VFG Tryz.prog OA 103 [.v y29 l, I dl] [] (fun r g => ∃ w, r = .tup [.raw w, I (latE l dl)] ∧ g = [(w, .row 3 (.int .i64) (latR l dl))]) := by
  refine VFG.enter Tryz.func103 rfl (fun _ _ => rfl) rfl ?_; show VC _ _ _ _ _ [(0, .v y29 l), (1, I dl)] [] _; refine VC.seq (VC.text ?_); refine VO.new (.box) ?_; refine VO.c (.assign rfl) (VO.c (.assign rfl) ?_); refine VO.go (VC.seq (VC.seq (VC.drawn ?_))); refine VD.c (.move rfl) ?_; refine VD.call rfl rfl (VF.call (cPlan_ok (by first | assumption | omega | simp) (by first | assumption | omega | simp))) ?_; refine VD.r [] (.ld vt3) (.inl rfl) ?_; refine VD.call rfl rfl (VF.call (cTime_ok )) ?_; refine VD.new (.lit [planE l, rangeE dl 0 100000] el154) ?_; refine VD.callO rfl rfl (VF.call (cFirst_ok (by simp))) ?_; refine VD.nw [11] (VD.c (.assign rfl) ?_); refine VD.go (VC.seq (VC.text ?_)); refine VO.c (.move rfl) (VO.c (.neq) (VO.go ?_)); refine VC.condD rfl (fun c2 => ?_) (fun c2 => ?_)
  · have c2 : badE l dl ≠ 0 := c2; refine VC.seq (VC.text ?_); refine VO.c (.move rfl) (VO.c (.assign rfl) (VO.c (.assign rfl) (VO.go ?_))); refine VC.cell0 3 (.int .i64) ?_; refine VC.ret ?_; simp only [thenV]; exact VEndG.rowT rfl evT evT ⟨(.slice none 0 0), rowT_end (by rw [latR, if_neg (by rw [lat_b c2]; exact c2)]) (by exact (lat_b c2).symm)⟩
  have hz : badE l dl = 0 := Classical.not_not.1 c2; have h0 := bad_0 hz; have hp := plan_ok h0.1; have hd := dur_ok hp true; refine VC.skip (VC.seq (VC.seq (VC.drawn ?_))); refine VD.c (.move rfl) ?_; refine VD.call rfl rfl (VF.call (cDur_ok hp)) ?_; refine VD.c (.fld (.r .o)) ?_; refine VD.r [] (.ld vt3) (.inl rfl) ?_; refine VD.c (.gtr) (VD.go ?_); refine VC.condD rfl (fun c4 => ?_) (fun c4 => ?_)
  · refine VC.seq (VC.text ?_); refine VO.c (.assign rfl) (VO.c (.assign rfl) (VO.go ?_)); refine VC.cell0 3 (.int .i64) ?_; refine VC.ret ?_; simp only [thenV]; exact VEndG.rowT rfl evT evT ⟨(.slice none 0 0), rowT_end (by rw [latR, if_neg (by rw [lat_t hz c4]; decide)]) (by exact (lat_t hz c4).symm)⟩
  refine VC.skip (VC.seq (VC.text ?_)); refine VO.c (.move rfl) ?_; refine VO.call rfl rfl (VF.call (cChains_ok (F := dE true) hp hd (fun _ _ => VF.call cMost_ok))) ?_; refine VO.c (.func) ?_; refine VO.callG [] rfl rfl rfl (VFG.call (cMapIIo_ok (F := fun n => dl - n) (by rw [chnL_len]; have := hp.len; omega) (fun x hx => VF.clo (cLat1_ok (by have := chnL_b hp hd hx; omega) h0.2)))) ?_; rintro _ _ ⟨ww4, rfl, rfl⟩; show VO _ _ _ _ _ _ [(ww4, .row 3 (.int .i64) ((chnL (dE true) l).map (fun n => dl - n)))] _; refine VO.c (.assign rfl) (VO.c (.assign rfl) (VO.go ?_)); refine VC.ret ?_; exact VEndG.rowT rfl evT evT ⟨ww4, rowT_end (by rw [latR, if_pos (lat_f hz c4)]; rfl) (by exact (lat_f hz c4).symm)⟩
theorem cLatestV_ok {l : List (ByteArray × Int × Int × (List Int))} {dl : Int} (hl : l.length < 100000) (hb : ∀ x ∈ l, x.2.2.2.length < 100000) : VF Tryz.prog OA 26 [.v y29 l, I dl] (.tup [.v y25 (latR l dl), I (latE l dl)]) := by
  refine VF.enter Tryz.func26 rfl (fun _ _ => rfl) rfl ?_; show VC _ _ _ _ _ [(0, .v y29 l), (1, I dl)] [] _; refine VC.seq (VC.text ?_); refine VO.c (.assign rfl) (VO.c (.assign rfl) ?_); refine VO.go (VC.seq (VC.text ?_)); refine VO.c (.move rfl) (VO.c (.move rfl) ?_); refine VO.callG [] rfl rfl rfl (VFG.call (cLatest_ok (by first | assumption | omega | simp) (by first | assumption | omega | simp))) ?_; rintro _ _ ⟨ww5, rfl, rfl⟩; show VO _ _ _ _ _ _ [(ww5, .row 3 (.int .i64) (latR l dl))] _; refine VO.c (.extract) (VO.c (.extract) (VO.c (.assign rfl) (VO.c (.assign rfl) ?_))); refine VO.go ?_; refine VC.ret ?_; exact VEnd.two rfl (evC (.row m0)) evT (pvE (by rfl)) (pvI (by first | rfl | simp))
def slaF (l : List Pha) (dl : Int) (i : Nat) : Int := dl - chnF (dE true) l i - begF (dE true) l i
def slaL (l : List Pha) (dl : Int) : List Int := (List.range l.length).map (slaF l dl)
def slaR (l : List Pha) (dl : Int) : List Int := if latE l dl = 0 then slaL l dl else []
theorem latR_0 {l : List Pha} {dl : Int} (h : latE l dl = 0) : latR l dl = latL l dl := if_pos h
theorem cFat11_ok {k : Int} {sums : List Int} (h0 : 0 ≤ k) (h1 : k < ((sums.length : Nat) : Int)) : VF Tryz.prog OA 108 [I k, .p y25 sums] (I (sums.getD k.toNat 0)) := by
  refine VF.enter Tryz.func108 rfl (fun _ _ => rfl) rfl ?_; show VC _ _ _ _ _ [(0, I k), (1, .p y25 sums)] [] _; refine VC.seq (VC.text ?_); refine VO.c (.assign rfl) ?_; refine VO.go (VC.seq (VC.text ?_)); refine VO.r (.ld vt25) ?_; refine VO.c (.move rfl) (VO.c (.ixZ (k := k) rfl rfl el25 (by omega) (by omega)) ?_); refine VO.r (.ld vt3) ?_; refine VO.c (.assign rfl) (VO.go ?_); refine VC.ret ?_; exact VEnd.one rfl evT (pvI (by rw [getDg (by omega)]))
theorem cFat1_ok {next : List Int} {dl : Int} {sums : List Int} (hl : next.length < 100000) (h0 : ∀ k ∈ next, 0 ≤ k ∧ k < ((sums.length : Nat) : Int)) (h1 : 0 ≤ dl ∧ dl ≤ 100000) (h2 : maxL (next.map fun k => sums.getD k.toNat 0) ≤ 100000) : VF Tryz.prog OA 106 [.v y25 next, .p (.int .i64) dl, .p y25 sums] (I (dl - maxL (next.map fun k => sums.getD k.toNat 0))) := by
  refine VF.enter Tryz.func106 rfl (fun _ _ => rfl) rfl ?_; show VC _ _ _ _ _ [(0, .v y25 next), (1, .p (.int .i64) dl), (2, .p y25 sums)] [] _; refine VC.seq (VC.text ?_); refine VO.c (.assign rfl) ?_; refine VO.go (VC.seq ?_); refine VC.late [] ⟨[], rfl⟩ ?_; have hnn := maxL_nn (l := next.map fun k => sums.getD k.toNat 0); refine VLt.q rfl (.ld vt3) ?_; refine VLt.c (.move rfl) ?_; refine VLt.c (.func) ?_; refine VLt.callO rfl rfl (VF.call (cMapII_ok (F := fun k => sums.getD k.toNat 0) hl (fun k hk => VF.clo (cFat11_ok (h0 k hk).1 (h0 k hk).2)))) ?_; refine VLt.callO rfl rfl (VF.call (cGreatest_ok (by simp; omega))) ?_; refine VLt.c (.sub rfl rfl (by omega)) ?_; refine VLt.nws [8] ?_; refine VLt.c (.assign rfl) ?_; refine VLt.go ?_; refine VC.ret ?_; exact VEnd.one rfl evT (pvI (by rfl))
def fatL (l : List Pha) (dl : Int) : List Int := (List.range l.length).map fun i => dl - aftF (dE false) l i
def fatR (l : List Pha) (dl : Int) : List Int := if fatE l dl = 0 then fatL l dl else []
theorem fat_map {l : List Pha} (hp : PlanOk l) {dl : Int} : ((behM l l.length).map fun next => dl - maxL (next.map fun k => (chnL (dE false) l).getD k.toNat 0)) = fatL l dl := by
  unfold behM fatL; rw [List.map_map]; refine List.map_congr_left fun i _ => ?_; show dl - maxL _ = _; rw [aftF_eq hp]; congr 2; refine List.map_congr_left fun x hx => ?_; have := beh_lt hp hx; exact chnL_get (by omega)
theorem fat_m {l : List Pha} (hp : PlanOk l) {x : List Int} (h : x ∈ behM l l.length) : x.length < 100000 ∧ (∀ k ∈ x, 0 ≤ k ∧ k < (((chnL (dE false) l).length : Nat) : Int)) ∧ maxL (x.map fun k => (chnL (dE false) l).getD k.toNat 0) ≤ 100000 := by
  obtain ⟨i, hi, rfl⟩ := List.mem_map.1 h; have h1 := behF_len (l := l) (n := l.length) (k := i); have h2 := hp.len; refine ⟨by omega, fun k hk => ?_, maxL_le.2 ⟨by omega, fun y hy => ?_⟩⟩
  · have := beh_lt hp hk; rw [chnL_len]; omega
  obtain ⟨k, hk, rfl⟩ := List.mem_map.1 hy; have h3 := beh_lt hp hk; rw [chnL_get (by omega)]; have := chn_bd hp (dur_ok hp false) (p := k.toNat) (by omega); omega
theorem cFatal_ok {l : List (ByteArray × Int × Int × (List Int))} {dl : Int} (hl : l.length < 100000) (hb : ∀ x ∈ l, x.2.2.2.length < 100000) : VF Tryz.prog OA 28 [.v y29 l, I dl] (.tup [.v y25 (fatR l dl), I (fatE l dl)]) := by
  refine VF.enter Tryz.func28 rfl (fun _ _ => rfl) rfl ?_; show VC _ _ _ _ _ [(0, .v y29 l), (1, I dl)] [] _; refine VC.seq (VC.text ?_); refine VO.new (.box) ?_; refine VO.c (.assign rfl) (VO.c (.assign rfl) ?_); refine VO.go (VC.seq (VC.seq (VC.drawn ?_))); refine VD.c (.move rfl) ?_; refine VD.call rfl rfl (VF.call (cPlan_ok (by first | assumption | omega | simp) (by first | assumption | omega | simp))) ?_; refine VD.r [] (.ld vt3) (.inl rfl) ?_; refine VD.call rfl rfl (VF.call (cTime_ok )) ?_; refine VD.new (.lit [planE l, rangeE dl 0 100000] el154) ?_; refine VD.callO rfl rfl (VF.call (cFirst_ok (by simp))) ?_; refine VD.nw [12] (VD.c (.assign rfl) ?_); refine VD.go (VC.seq (VC.text ?_)); refine VO.c (.move rfl) (VO.c (.neq) (VO.go ?_)); refine VC.condD rfl (fun c2 => ?_) (fun c2 => ?_)
  · have c2 : badE l dl ≠ 0 := c2; refine VC.seq (VC.text ?_); refine VO.c (.move rfl) (VO.c (.assign rfl) (VO.c (.assign rfl) (VO.go ?_))); refine VC.ret ?_; exact VEnd.two rfl (evC .nil) evT (pvE (by rw [fatR, if_neg (by rw [fat_b c2]; exact c2)])) (pvI (by exact (fat_b c2).symm))
  have hz : badE l dl = 0 := Classical.not_not.1 c2; have h0 := bad_0 hz; have hp := plan_ok h0.1; have hd := dur_ok hp false; have hlen := hp.len; refine VC.skip (VC.seq (VC.seq (VC.drawn ?_))); refine VD.c (.move rfl) ?_; refine VD.call rfl rfl (VF.call (cDur_ok hp)) ?_; refine VD.c (.fld (.l .o)) ?_; refine VD.r [] (.ld vt3) (.inl rfl) ?_; refine VD.c (.gtr) (VD.go ?_); refine VC.condD rfl (fun c4 => ?_) (fun c4 => ?_)
  · refine VC.seq (VC.text ?_); refine VO.c (.assign rfl) (VO.c (.assign rfl) (VO.go ?_)); refine VC.ret ?_; exact VEnd.two rfl (evC .nil) evT (pvE (by rw [fatR, if_neg (by rw [fat_t hz c4]; decide)])) (pvI (by exact (fat_t hz c4).symm))
  refine VC.skip (VC.seq (VC.text ?_)); refine VO.c (.move rfl) ?_; refine VO.call rfl rfl (VF.call (cChains_ok (F := dE false) hp hd (fun _ _ => VF.call cLeast_ok))) ?_; refine VO.cell (.alloc zt25) ?_; intro ww7; refine VO.setV (cs' := [.v y25 (chnL (dE false) l)]) vt25 .v ?_; refine VO.shut [(7, .p y25 (chnL (dE false) l))] (.cons rfl (.var m0 .refl) .nil) ?_; refine VO.go (VC.seq (VC.text ?_)); refine VO.c (.move rfl) ?_; refine VO.call rfl rfl (VF.call (cBehind_ok hp)) ?_; refine VO.c (.func) ?_; refine VO.call rfl rfl (VF.call (cMapLI_ok (F := fun next => dl - maxL (next.map fun k => (chnL (dE false) l).getD k.toNat 0)) (by rw [behM_len]; omega) (fun x hx => VF.clo (cFat1_ok (fat_m hp hx).1 (fat_m hp hx).2.1 h0.2 (fat_m hp hx).2.2)))) ?_; refine VO.c (.assign rfl) (VO.c (.assign rfl) (VO.go ?_)); refine VC.ret ?_; exact VEnd.two rfl evT evT (pvE (by rw [fatR, if_pos (fat_f hz c4), fat_map hp])) (pvI (by exact (fat_f hz c4).symm))
end Go.Proofs
namespace Go.Proofs
open Go.Fs
set_option maxHeartbeats 1000000
end Go.Proofs
namespace Go.Proofs
open Go.Fs
set_option maxHeartbeats 1000000
end Go.Proofs
namespace Go.Fs
variable {P : Program} {orc : FuncId → List Value → Heap → Option (Value × Heap)} {rnd : Option Nat} {h h' h0 h1 h2 : Heap} {S S' S0 B G : List Nat} {σ σ' σr : Sto} {t t' : Tr} {ms : List Nat} {fl : VL} {ops : Array Oper} {n i mem : Nat} {l : List Oper} {K : VL → Sto → Prop} {Q : Ex → VL → Sto → Prop}
  {d : Tmp} {ty : TypeId} {pos : String} {after : Array Edge} {op : Op} {v pv : PV} {g : Option (Nat × Bool)} {x y z : Operand} {T T' e : TypeId} {τ τ' : Ty} {bs nw : List Nat} {segs : List (Nat × Nat × Nat)} {tail so : Bool} {w w' : Value} {c c' : Cell}
end Go.Fs
namespace Go.Fs
variable {P : Program} {fl : VL} {σ : Sto} {T : TypeId} {τ : Ty} {h : Heap} {S : List Nat}
inductive PartP : PV → List PV → Prop where
  | v {τ : Ty} {x : τ.den} : PartP (.v τ x) (cellsPV τ x)
  | w {w : Value} (ho : oneCell w = true) : PartP (.raw w) [.raw w]
inductive BldR (pl : List (Nat × Nat)) : List PV → List Nat → List PV → List PV → Prop where
  | nil {L L' : List PV} (h : L = L') : BldR pl L [] [] L'
  | cons {L L' : List PV} {i o : Nat} {is : List Nat} {p : PV} {ps qs : List PV} (hp : PartP p qs) (hpl : pl[i]? = some (o, qs.length)) (ho : Nat.ble (o + qs.length) L.length = true) (r : BldR pl (spl L o qs) is ps L') : BldR pl L (i :: is) (p :: ps) L'
end Go.Fs
namespace Go.Fs
variable {P : Program} {fl : VL} {σ : Sto} {T T' : TypeId} {x y : Operand} {p q : Int}
end Go.Fs
namespace Go.Fs
variable {P : Program} {orc : FuncId → List Value → Heap → Option (Value × Heap)} {h : Heap} {σ ρ : Sto} {fl : VL} {ops : Array Oper} {n i mem : Nat} {l : List Oper} {K : VL → Sto → Prop} {nw bs : List Nat} {tl : Bool} {hr : Heap} {S0 A : List Nat} {t : Tr} {rd chg : List Nat}
end Go.Fs
namespace Go.Fs
variable {P : Program} {orc : FuncId → List Value → Heap → Option (Value × Heap)} {rnd : Option Nat} {h h' h0 h1 h2 hr : Heap} {S S' S0 B G A : List Nat} {σ σ' σr ρ : Sto} {t t' : Tr} {ms : List Nat} {fl : VL} {ops : Array Oper} {n i mem : Nat} {l : List Oper} {K : VL → Sto → Prop}
  {d : Tmp} {ty : TypeId} {pos : String} {after : Array Edge} {op : Op} {v pv : PV} {g : Option (Nat × Bool)} {x y z : Operand} {T T' e : TypeId} {τ τ' : Ty} {bs nw rd chg : List Nat} {segs : List (Nat × Nat × Nat)} {tail tl : Bool} {w w' : Value}
theorem TurnV.storeE {xs : List τ.den} {q : Value} {s j : Nat} (hx : evV fl x = some (.raw q)) (hq : q = ptrAt w s j ∨ ∃ k, q = padd (ptrAt w s j) k) (hj : j < xs.length) : TurnV P fl (.store T x y) w (.row e τ xs) := ⟨rfl, fun h h' S t u d ty pos after g hs hc _ => by
  have hxq : evalO t x = q := (hs x (by simp [Op.operands]) _ hx : RepPV _ _ (.raw q) _); rcases hc with ⟨_, rfl⟩ | ⟨b0, rs, m, h1, h2, h3, h4⟩
  · simp at hj
  obtain ⟨o0, hqb⟩ : ∃ o0, q = .pointer (some ⟨b0, o0, none⟩) := by
    rcases hq with hq | ⟨k, hq⟩
    · exact ⟨0 + j * s, by rw [hq, h1]; rfl⟩
    exact ⟨0 + j * s + k, by rw [hq, h1]; rfl⟩
  have ht : turned (.store T x y) (evalO t) = some b0 := by simp only [turned, hxq, hqb]
  refine ⟨fun k hk => ?_, .inr ⟨b0, ht⟩⟩; rw [ht] at hk; obtain rfl := Option.some.inj hk
  rw [h1]; exact List.mem_cons_self⟩
theorem VLt.cR {b : Nat} {q : Value} (hc : CalmV P fl σ op (.raw q)) (hk : VLt P orc ops n l (i + 1) ((d, .raw q) :: fl) (nwSet true d nw) σ ρ (bs ++ [b]) mem tl K)
    (hb : beforeOf bs ⟨some d, op, ty, pos, after, g⟩ = b := by rfl) (hw : wantV ops fl g = some true := by rfl) (hn : (Nat.blt d n && Nat.ble n 4000) = true := by rfl) :
    VLt P orc ops n (⟨some d, op, ty, pos, after, g⟩ :: l) i fl nw σ ρ bs mem tl K := fun hr h0 G S0 A t h ms rd chg segs tail ht I L => by
  obtain ⟨n1, n2⟩ := fits hn; obtain ⟨u, e1, e2⟩ := hc.2 h (own σ ++ S0) t I.slots.sees I.cells; refine EvL.opr (x' := (⟨t.set depth d u, h, bs ++ [b], segs, mem, tail⟩, rd, chg)) ?_ (hk hr h0 G S0 A _ h ms rd chg segs tail ht (I.set e1 n2) (L.set n2 fun _ => (e1 : u = q))); unfold lateDraw; have hwt : fsWanted ops t ⟨some d, op, ty, pos, after, g⟩ = some true := want_ok I.slots hw; simp only [hwt, hc.1, if_true, e2, Nat.beq_refl, cond_true, put_fits n1, Option.map_some, hb]
end Go.Fs
namespace Go.Proofs
open Go.Fs
set_option maxHeartbeats 4000000
theorem begE_mono {es es' b : List Int} (h : ∀ p, es.getD p 0 ≤ es'.getD p 0) : ∀ k, begE es b k ≤ begE es' b k
  | 0 => Int.le_refl _
  | k + 1 => by
    have h1 := begE_mono h (b := b) k; have h2 := h (b.getD k 0).toNat; show max _ _ ≤ max _ _; omega
theorem wf8u {n : Int} (h : (Lit.int .u8 n).wf = true) : 0 ≤ n ∧ n < 256 := by
  have h1 : (decide (IntKind.u8.min ≤ n) && decide (n ≤ IntKind.u8.max)) = true := h; obtain ⟨h2, h3⟩ := band h1; have h4 : (0 : Int) ≤ n := of_decide_eq_true h2; have h5 : n ≤ (255 : Int) := of_decide_eq_true h3; exact ⟨h4, by omega⟩
structure ChnH (l : List Pha) (more dl : Int) : Prop where
  hz : planE l = 0
  h7 : l.length ≤ 7
  hdl : dl = (durR l).2 + more
  mo : 0 ≤ more ∧ more < 256
  hi : 0 ≤ (durR l).2 ∧ (durR l).2 ≤ 16000
  lat0 : latE l dl = 0
  latn : (latR l dl).length = l.length
  slan : (slaR l dl).length = l.length
  crin : (criR l).length ≤ l.length
end Go.Proofs
namespace Go.Proofs
open Go.Fs
set_option maxHeartbeats 1000000
def rdyE (dn b : List Int) : Nat → Bool
  | 0 => true
  | k + 1 => rdyE dn b k && decide (0 ≤ dn.getD (b.getD k 0).toNat 0)
theorem rdyE_iff {dn b : List Int} : ∀ {k : Nat}, rdyE dn b k = true ↔ ∀ j, j < k → 0 ≤ dn.getD (b.getD j 0).toNat 0
  | 0 => ⟨fun _ j hj => by omega, fun _ => rfl⟩
  | k + 1 => by
    have ih := rdyE_iff (dn := dn) (b := b) (k := k); show (rdyE dn b k && decide _) = true ↔ _; rw [Bool.and_eq_true, ih, decide_eq_true_eq]; constructor
    · rintro ⟨h1, h2⟩ j hj; by_cases e : j = k
      · subst e; exact h2
      exact h1 j (by omega)
    exact fun h => ⟨fun j hj => h j (by omega), h k (by omega)⟩
def finF (d : Pha → Int) (l : List Pha) (dn : List Int) (now : Int) (E : List Int) (i : Nat) : Int := if 0 ≤ dn.getD i 0 then dn.getD i 0 else max (begE E (phA l i).2.2.2 (phA l i).2.2.2.length + d (phA l i)) now
def finL (d : Pha → Int) (l : List Pha) (dn : List Int) (now : Int) : Nat → List Int
  | 0 => []
  | i + 1 => finL d l dn now i ++ [finF d l dn now (finL d l dn now i) i]
theorem finL_len {d : Pha → Int} {l : List Pha} {dn : List Int} {now : Int} : ∀ {i : Nat}, (finL d l dn now i).length = i
  | 0 => rfl
  | i + 1 => by show (finL d l dn now i ++ [_]).length = _; rw [List.length_append, finL_len] <;> rfl
theorem finL_get {d : Pha → Int} {l : List Pha} {dn : List Int} {now : Int} {p : Nat} : ∀ {i : Nat}, p < i → (finL d l dn now i).getD p 0 = finF d l dn now (finL d l dn now p) p
  | 0, h => by omega
  | i + 1, h => by
    show (finL d l dn now i ++ [_]).getD p 0 = _; by_cases e : p = i
    · subst e; rw [List.getD_eq_getElem?_getD, List.getElem?_append_right (by rw [finL_len]; exact Nat.le_refl _), finL_len, Nat.sub_self] <;> rfl
    rw [List.getD_eq_getElem?_getD, List.getElem?_append_left (by rw [finL_len]; omega), ← List.getD_eq_getElem?_getD, finL_get (by omega)]
theorem finL_big {d : Pha → Int} {l : List Pha} {dn : List Int} {now : Int} {i p : Nat} (h : i ≤ p) : (finL d l dn now i).getD p 0 = 0 := by
  rw [List.getD_eq_getElem?_getD, List.getElem?_eq_none (by rw [finL_len]; exact h)] <;> rfl
theorem finL_done {d : Pha → Int} {l : List Pha} {dn : List Int} {now : Int} {i p : Nat} (h : p < i) (hd : 0 ≤ dn.getD p 0) : (finL d l dn now i).getD p 0 = dn.getD p 0 := by
  rw [finL_get h, finF, if_pos hd]
theorem finL_now {d : Pha → Int} {l : List Pha} {dn : List Int} {now : Int} {i p : Nat} (h : p < i) (hd : ¬ 0 ≤ dn.getD p 0) : now ≤ (finL d l dn now i).getD p 0 := by
  rw [finL_get h, finF, if_neg hd]; exact Int.le_max_right _ _
structure DoneOk (l : List Pha) (dn : List Int) (now : Int) : Prop where
  len : dn.length = l.length
  bnd : ∀ i, i < dn.length → -1 ≤ dn.getD i 0 ∧ dn.getD i 0 ≤ 100000
  now : 0 ≤ now ∧ now ≤ 100000
theorem fin_b {d : Pha → Int} {l : List Pha} {dn : List Int} {now : Int} (hd : DurOk d l) (h : DoneOk l dn now) : ∀ i, i ≤ l.length → ∀ p, 0 ≤ (finL d l dn now i).getD p 0 ∧ (finL d l dn now i).getD p 0 ≤ 100000 + 1000 * ((i : Nat) : Int)
  | 0, _, p => ⟨by simp [finL], by simp [finL]⟩
  | i + 1, hi, p => by
    have ih := fin_b hd h i (by omega); by_cases hp : p < i
    · have := ih p; rw [finL_get hp] at this; rw [finL_get (by omega)]; omega
    by_cases e : p = i
    · subst e; rw [finL_get (by omega)]; have h1 := begE_b (b := (phA l p).2.2.2) (by omega) ih (phA l p).2.2.2.length; have h2 := hd p (by omega); have h3 := h.bnd p (by rw [h.len]; omega); have h4 := h.now; unfold finF; split <;> omega
    rw [finL_big (by omega)]; omega
theorem finB_b {d : Pha → Int} {l : List Pha} {dn : List Int} {now : Int} (hd : DurOk d l) (h : DoneOk l dn now) {i : Nat} (hi : i ≤ l.length) (k : Nat) : 0 ≤ begE (finL d l dn now i) (phA l i).2.2.2 k ∧ begE (finL d l dn now i) (phA l i).2.2.2 k ≤ 100000 + 1000 * ((i : Nat) : Int) := begE_b (by omega) (fin_b hd h i hi) k
def cflE (l : List Pha) (dn : List Int) (now : Int) (i : Nat) : Bool :=
  let low := begE (finL (dE false) l dn now i) (phA l i).2.2.2 (phA l i).2.2.2.length
  let r := rdyE dn (phA l i).2.2.2 (phA l i).2.2.2.length
  if 0 ≤ dn.getD i 0 then !r || decide (now < dn.getD i 0) || decide (dn.getD i 0 - low < (phA l i).2.1) || decide ((phA l i).2.2.1 < dn.getD i 0 - low) else r && decide (low + (phA l i).2.2.1 < now)
def posE (l : List Pha) (dn : List Int) (now : Int) : Bool := decide (∀ i, i < l.length → cflE l dn now i = false)
theorem posE_f {l : List Pha} {dn : List Int} {now : Int} {i : Nat} (hi : i < l.length) (h : cflE l dn now i = true) : posE l dn now = false := decide_eq_false fun hh => by rw [hh i hi] at h; cases h
theorem posE_t {l : List Pha} {dn : List Int} {now : Int} (h : ∀ i, i < l.length → cflE l dn now i = false) : posE l dn now = true := decide_eq_true h
theorem rdy_beg {d : Pha → Int} {l : List Pha} {dn : List Int} {now : Int} (hp : PlanOk l) {i : Nat} (hi : i < l.length) : ∀ {k : Nat}, k ≤ (phA l i).2.2.2.length → rdyE dn (phA l i).2.2.2 k = true → begE (finL d l dn now i) (phA l i).2.2.2 k = begE dn (phA l i).2.2.2 k := fun {k} hk h => by
  have h := rdyE_iff.1 h; refine begE_congr k fun j hj => ?_; have hb := hp.bef i hi j (by omega); exact finL_done (by omega) (h j hj)
theorem begE_ge {es b : List Int} : ∀ {k j : Nat}, j < k → es.getD (b.getD j 0).toNat 0 ≤ begE es b k
  | 0, j, h => by omega
  | k + 1, j, h => by
    show _ ≤ max _ _; by_cases e : j = k
    · subst e; exact Int.le_max_right _ _
    exact Int.le_trans (begE_ge (by omega)) (Int.le_max_left _ _)
theorem rdy_no {dn b : List Int} : ∀ {k : Nat}, rdyE dn b k = false → ∃ j, j < k ∧ ¬ 0 ≤ dn.getD (b.getD j 0).toNat 0
  | 0, h => by cases h
  | k + 1, h => by
    by_cases h1 : rdyE dn b k = true
    · refine ⟨k, Nat.lt_succ_self _, fun h2 => ?_⟩; have : (rdyE dn b k && decide (0 ≤ dn.getD (b.getD k 0).toNat 0)) = false := h; rw [h1, decide_eq_true h2] at this; cases this
    obtain ⟨j, hj, h2⟩ := rdy_no (k := k) (by simpa using h1); exact ⟨j, by omega, h2⟩
theorem long_now {l : List Pha} {dn : List Int} {now : Int} (hp : PlanOk l) {i : Nat} (hi : i < l.length) (hn : ¬ 0 ≤ dn.getD i 0) (h : cflE l dn now i = false) : now ≤ begE (finL (dE true) l dn now i) (phA l i).2.2.2 (phA l i).2.2.2.length + (phA l i).2.2.1 := by
  cases hr : rdyE dn (phA l i).2.2.2 (phA l i).2.2.2.length with
  | true =>
    unfold cflE at h; simp only [if_neg hn, hr, Bool.true_and] at h; have h := of_decide_eq_false h; rw [rdy_beg hp hi (Nat.le_refl _) hr] at h ⊢
    omega
  | false =>
    obtain ⟨j, hj, h2⟩ := rdy_no hr; have hb := hp.bef i hi j hj; have h3 := finL_now (d := dE true) (l := l) (now := now) (i := i) (show ((phA l i).2.2.2.getD j 0).toNat < i by omega) h2; have h4 := begE_ge (es := finL (dE true) l dn now i) (b := (phA l i).2.2.2) hj; have h5 := hp.dur i hi; omega
def finW (d : Pha → Int) (l : List Pha) (dn : List Int) (now : Int) (i : Nat) : List Int := finL d l dn now i ++ dn.drop i
theorem finW_len {d : Pha → Int} {l : List Pha} {dn : List Int} {now : Int} {i : Nat} (h : i ≤ dn.length) : (finW d l dn now i).length = dn.length := by
  unfold finW; rw [List.length_append, finL_len, List.length_drop]; omega
theorem finW_low {d : Pha → Int} {l : List Pha} {dn : List Int} {now : Int} {i p : Nat} (h : p < i) : (finW d l dn now i).getD p 0 = (finL d l dn now i).getD p 0 := by
  unfold finW; rw [List.getD_eq_getElem?_getD, List.getElem?_append_left (by rw [finL_len]; exact h), ← List.getD_eq_getElem?_getD]
theorem finW_at {d : Pha → Int} {l : List Pha} {dn : List Int} {now : Int} {i : Nat} : (finW d l dn now i).getD i 0 = dn.getD i 0 := by
  unfold finW; rw [List.getD_eq_getElem?_getD, List.getElem?_append_right (by rw [finL_len]; exact Nat.le_refl _), finL_len, Nat.sub_self, List.getElem?_drop, Nat.add_zero, ← List.getD_eq_getElem?_getD]
theorem finW_set {d : Pha → Int} {l : List Pha} {dn : List Int} {now : Int} {i : Nat} (hi : i < dn.length) {v : Int} (hv : v = finF d l dn now (finL d l dn now i) i) : (finW d l dn now i).set i v = finW d l dn now (i + 1) := by
  unfold finW; rw [List.set_append_right _ _ (by rw [finL_len]; exact Nat.le_refl _), finL_len, Nat.sub_self, List.drop_eq_getElem_cons hi, List.set_cons_zero, hv]; show _ = (finL d l dn now i ++ [_]) ++ _; rw [List.append_assoc] <;> rfl
theorem finW_done {d : Pha → Int} {l : List Pha} {dn : List Int} {now : Int} {i : Nat} (hi : i < dn.length) (hd : 0 ≤ dn.getD i 0) : finW d l dn now i = finW d l dn now (i + 1) := by
  rw [← finW_set hi rfl, finF, if_pos hd]
  have h1 : i < (finW d l dn now i).length := by rw [finW_len (by omega)]; exact hi
  have h2 := finW_at (d := d) (l := l) (dn := dn) (now := now) (i := i); rw [getDg h1] at h2; rw [← h2, List.set_getElem_self]
theorem finW_end {d : Pha → Int} {l : List Pha} {dn : List Int} {now : Int} {i : Nat} (h : dn.length ≤ i) : finW d l dn now i = finL d l dn now i := by
  unfold finW; rw [List.drop_eq_nil_of_le h, List.append_nil]
def endE (l : List Pha) (dn : List Int) (now : Int) (long : Bool) : Int := maxL (finL (dE long) l dn now l.length)
def prgE (l : List Pha) (dn : List Int) (now : Int) : Int := if posE l dn now = true then 0 else 30
def prgR (l : List Pha) (dn : List Int) (now : Int) : Int × Int := if posE l dn now = true then (endE l dn now false, endE l dn now true) else (0, 0)
end Go.Proofs
namespace Go.Proofs
open Go.Fs
set_option maxHeartbeats 4000000
theorem shortP_l {l : List Pha} (h : shortP l = true) : l.length < 100000 := by have := (shortP_t h).2; omega
theorem shortP_b {l : List Pha} (h : shortP l = true) : ∀ x ∈ l, x.2.2.2.length < 100000 := fun x hx => by have := ((shortP_t h).1 x hx).2; omega
variable {d : Pha → Int} {l : List Pha} {i k j : Nat} {s : Int}
end Go.Proofs
namespace Go.Fs
variable {P : Program} {orc : FuncId → List Value → Heap → Option (Value × Heap)} {rnd : Option Nat} {h h' h0 h1 h2 : Heap} {S S' S0 B G : List Nat} {σ σ' : Sto} {t t' : Tr} {ms : List Nat} {fl : VL} {ops : Array Oper} {n : Nat} {l : List Oper} {K : VL → Sto → Prop} {Q : Ex → VL → Sto → Prop}
  {d : Tmp} {ty : TypeId} {pos : String} {after : Array Edge} {op : Op} {v : PV} {g : Option (Nat × Bool)}
theorem GT.ptr (hG : GT h S) {v : GVar} (hv : v ∈ gTab) (ht : (P.globals[v.n]?).map (·.type) = some v.e) : gptr P h v.n = .pointer (some ⟨v.n + 1, 0, none⟩) ∧ RepP h S v.τ (.pointer (some ⟨v.n + 1, 0, none⟩)) v.x := by
  obtain ⟨vs, h1, h2, h3, h4⟩ := hG v hv; obtain ⟨gl, h5, h6⟩ := Option.map_eq_some_iff.1 ht; refine ⟨?_, v.n + 1, 0, v.e, vs, false, true, rfl, h2, h1, by omega, ?_⟩
  · unfold gptr; rw [h1, h5]; simp only [h6, Nat.beq_refl, cond_true]
  rw [List.drop_zero, ← h3, List.take_length]; exact h4 h S
end Go.Fs
namespace Go.Proofs
open Go.Fs
set_option maxHeartbeats 1000000
abbrev Shp := ByteArray × Int × Int × Int × Int
def shA (l : List Shp) (i : Nat) : Shp := l.getD i (ByteArray.empty, 0, 0, 0, 0)
end Go.Proofs
namespace Go.Proofs
open Go.Fs
set_option maxHeartbeats 1000000
structure ShpOk (l : List Shp) : Prop where
  len : l.length ≤ 8
  arr : ∀ i, 0 ≤ (shA l i).2.1 ∧ (shA l i).2.1 ≤ 100000
  lng : ∀ i, 0 ≤ (shA l i).2.2.1 ∧ (shA l i).2.2.1 ≤ 1000
  pri : ∀ i, 0 ≤ (shA l i).2.2.2.2 ∧ (shA l i).2.2.2.2 ≤ 1000
end Go.Proofs
namespace Go.Proofs
open Go.Fs
set_option maxHeartbeats 1000000
end Go.Proofs
namespace Go.Proofs
open Go.Fs
set_option maxHeartbeats 1000000
end Go.Proofs
namespace Go.Proofs
open Go.Fs
set_option maxHeartbeats 1000000
end Go.Proofs
namespace Go.Fs
variable {P : Program} {σ : Sto} {fl : VL} {x y : Operand} {T : TypeId} {τ : Ty}
def arrNB (P : Program) (T e : TypeId) (m k : Nat) : Bool := match P.underlying T with
  | some (.array n e') => Nat.beq n m && Nat.beq e' e && (match P.info? e with | some i => Nat.beq i.size k | none => false)
  | _ => false
theorem ReadV.arr3 {a b c : τ.den} (e : TypeId) (hb : arrNB P T e 3 τ.size = true := by kernel_rfl) (hx : evV fl x = some (.p (.pair τ (.pair τ τ)) (a, b, c)) := by rfl) : ReadV P fl σ (.slice T x none none none) (.v (.sl τ) [a, b, c]) :=
  ⟨rfl, fun h S t hs _ => by
    have hp : RepP h S (.pair τ (.pair τ τ)) (evalO t x) (a, b, c) := hs x (by simp [Op.operands]) _ hx; obtain ⟨bb, o, e', rs, own, more, h1, h2, h3, h4, h5⟩ := hp; have h4 : o + (τ.size + (τ.size + τ.size)) ≤ rs.length := h4; have h5 : RepC h S τ (((rs.drop o).take (τ.size + (τ.size + τ.size))).take τ.size) a ∧ RepC h S τ ((((rs.drop o).take (τ.size + (τ.size + τ.size))).drop τ.size).take τ.size) b ∧ RepC h S τ ((((rs.drop o).take (τ.size + (τ.size + τ.size))).drop τ.size).drop τ.size) c := h5; refine ⟨.slice (some ⟨bb, o, none⟩) 3 1, SlV.rep (.inr ⟨bb, o, 1, rfl, .inr ⟨h2, e', rs, own, more, h3, by show o + 3 * τ.size ≤ _; omega, fun i hi => ?_⟩⟩), fun H _ _ _ _ _ _ => ?_⟩
    · have hi : i < 3 := hi; rcases i with _ | _ | _ | i
      · have := h5.1; rw [List.take_take, Nat.min_eq_left (by omega)] at this; rw [Nat.zero_mul, Nat.add_zero]; exact this
      · have := h5.2.1; rw [List.drop_take, List.drop_drop, List.take_take, Nat.min_eq_left (by omega)] at this; rw [show o + (0 + 1) * τ.size = o + τ.size by omega]; exact this
      · have := h5.2.2; rw [List.drop_take, List.drop_drop, List.drop_take, List.drop_drop] at this; rw [show o + (0 + 1 + 1) * τ.size = o + τ.size + τ.size by omega]; rw [show τ.size + (τ.size + τ.size) - τ.size - τ.size = τ.size by omega] at this; exact this
      omega
    show (fsSlice P T (evalO t x) none none none H).map _ = _; rw [h1]; unfold arrNB at hb; split at hb
    · rename_i n e2 hu; obtain ⟨b1, b2⟩ := band hb; obtain ⟨b3, b4⟩ := band b1; obtain rfl := nbeq b3; obtain rfl := nbeq b4; split at b2
      · rename_i i hi; unfold fsSlice; simp only [hu, hi, boundOf, Nat.zero_mul, Nat.add_zero]; rfl
      cases b2
    cases hb⟩
def arr3 {α : Type} (a b c : α) : Nat → α
  | 0 => a
  | 1 => b
  | _ => c
theorem CalmV.ixP3 {a b c : τ.den} (j : Nat) (hj : j < 3) (h0 : aofB P T 0 0 τ = true := by kernel_rfl) (h1 : aofB P T 1 τ.size τ = true := by kernel_rfl) (h2 : aofB P T 2 (τ.size + τ.size) τ = true := by kernel_rfl) (hx : evV fl x = some (.p (.pair τ (.pair τ τ)) (a, b, c)) := by rfl) (hy : evV fl y = some (.v (.int .i64) ((j : Nat) : Int)) := by rfl) : CalmV P fl σ (.indexAddr T x y) (.p τ (arr3 a b c j)) := by
  rcases j with _ | _ | _ | j
  · exact CalmV.ixP (k := 0) 0 (.l .o) h0 hx hy
  · exact CalmV.ixP (k := τ.size) 1 (.r (k := 0) (.l .o)) h1 hx hy
  · exact CalmV.ixP (k := τ.size + τ.size) 2 (.r (k := τ.size) (.r (k := 0) .o)) h2 hx hy
  omega
end Go.Fs
namespace Go.Fs
variable {P : Program} {orc : FuncId → List Value → Heap → Option (Value × Heap)} {rnd : Option Nat} {h h' h0 h1 h2 : Heap} {S S' S0 B G : List Nat} {σ σ' : Sto} {t t' : Tr} {ms : List Nat} {fl : VL} {ops : Array Oper} {n : Nat} {l : List Oper} {K : VL → Sto → Prop} {Q : Ex → VL → Sto → Prop}
  {d : Tmp} {ty : TypeId} {pos : String} {after : Array Edge} {op : Op} {v : PV} {g : Option (Nat × Bool)}
theorem step_slG {m : Nat} {T e : TypeId} {k z q : Nat} {u : Value} (hb : arrNB P T e z q = true) (hl : fsSlice P T (gptr P h k) none none none h = some u) (o : Oper) (ho : o.op = .slice T (.global k) none none none) : stepM P orc m o (evalO t) h = some (u, h) := by
  obtain ⟨dst, op, ty, pos, after, gd⟩ := o; subst ho
  have h0 : fsSlice P T junk none none none h = none := by
    unfold arrNB at hb; split at hb
    · rename_i n e2 hu; unfold fsSlice; simp only [hu]; rfl
    cases hb
  unfold stepM fsOpM
  have h1 : fsOp P (callOf P orc (fsCode P orc m)) (fsYield (fsCode P orc m)) ⟨dst, .slice T (.global k) none none none, ty, pos, after, gd⟩ (evalO t) h = none := by
    show (fsSlice P T junk none none none h).map _ = none; rw [h0]; rfl
  rw [h1]; show (bif true then (fsSlice P T (gptr P h k) none none none h).map (fun v => (v, h)) else none) = _; rw [hl]; rfl
theorem step_ixG {m : Nat} {T : TypeId} {k j q : Nat} {τ' : Ty} {u : Value} {y : Operand} (hb : aofB P T j q τ' = true) (hi : evalO t y = .int .i64 ((j : Nat) : Int)) (hy : ∀ z, y ≠ .global z) (hl : runPure P (Instr.indexAt T (gptr P h k) (.int .i64 ((j : Nat) : Int))) = some u) (o : Oper) (ho : o.op = .indexAddr T (.global k) y) : stepM P orc m o (evalO t) h = some (u, h) := by
  obtain ⟨dst, op, ty, pos, after, gd⟩ := o; subst ho
  have h0 : runPure P (Instr.indexAt T junk (.int .i64 ((j : Nat) : Int))) = none := by
    obtain ⟨m, e, i, u1, u2, u3, u4, u5⟩ := aofB_inv hb
    have h6 : (0 : Int) ≤ ((j : Nat) : Int) ∧ ((j : Nat) : Int) < (m : Nat) := by omega
    unfold Instr.indexAt; simp only [runPure_bind, asIntOf, runPure_pure, Option.bind_some, runPure_underlying u1]; rfl
  unfold stepM fsOpM
  have h1 : fsOp P (callOf P orc (fsCode P orc m)) (fsYield (fsCode P orc m)) ⟨dst, .indexAddr T (.global k) y, ty, pos, after, gd⟩ (evalO t) h = none := by
    show (if af (evalO t y) then (runPure P (Instr.indexAt T junk (evalO t y))).map _ else none) = none; rw [hi, h0]; split <;> rfl
  rw [h1]
  have hy2 : evG P h (evalO t) y = .int .i64 ((j : Nat) : Int) := by
    rw [← hi]
    cases y with
    | global z => exact absurd rfl (hy z)
    | _ => rfl
  show (bif true then (if af (evG P h (evalO t) y) then (runPure P (Instr.indexAt T (gptr P h k) (evG P h (evalO t) y))).map (fun v => (v, h)) else none) else none) = _; rw [hy2, hl]; rfl
theorem VO.slG {T : TypeId} {k : Nat} {e0 : TypeId} {τ : Ty} {a b c : τ.den} (hv : (⟨k, e0, .pair τ (.pair τ τ), (a, b, c)⟩ : GVar) ∈ gTab) (e : TypeId) (hk : VO P orc ops n l ((d, .v (.sl τ) [a, b, c]) :: fl) σ K) (hb : arrNB P T e 3 τ.size = true := by kernel_rfl) (ht : (P.globals[k]?).map (·.type) = some e0 := by kernel_rfl) (hw : wantV ops fl g = some true := by rfl) (hn : (Nat.blt d n && Nat.ble n 4000) = true := by rfl) :
    VO P orc ops n (⟨some d, .slice T (.global k) none none none, ty, pos, after, g⟩ :: l) fl σ K := fun h0 G S0 t h ms I => by
  obtain ⟨n1, n2⟩ := fits hn; obtain ⟨e1, e2⟩ := I.slots.1.ptr (P := P) hv ht
  have hR := (ReadV.arr3 (P := P) (σ := []) (fl := [(0, .p (.pair τ (.pair τ τ)) (a, b, c))]) (x := .tmp 0) (T := T) e hb rfl).2 h (Go.Fs.own σ ++ S0) (Tr.leaf.set depth 0 (.pointer (some ⟨k + 1, 0, none⟩)))
    (by
      intro x hx v hxv
      have hx : x = .tmp 0 := by simpa [Op.operands] using hx
      subst hx; obtain rfl := Option.some.inj hxv
      exact e2) (fun c hc => by cases hc)
  obtain ⟨u, hu, hs⟩ := hR; have hs := hs h (fun b o hb => hb) none ty pos after none; have hs : (fsSlice P T (.pointer (some ⟨k + 1, 0, none⟩)) none none none h).map (fun v => (v, h)) = some (u, h) := hs; obtain ⟨u', hu', he⟩ := Option.map_eq_some_iff.1 hs; obtain rfl : u' = u := congrArg Prod.fst he; obtain ⟨m, t2, h2, hr, hq⟩ := hk h0 G S0 _ h ms (I.set (hu : RepPV h _ (.v (.sl τ) [a, b, c]) _) n2); refine ⟨m, t2, h2, ?_, hq⟩; simp only [fsOps, want_ok (o := ⟨some d, .slice T (.global k) none none none, ty, pos, after, g⟩) I.slots hw, step_slG (orc := orc) (m := m) (t := t) hb (by rw [e1]; exact hu') ⟨some d, .slice T (.global k) none none none, ty, pos, after, g⟩ rfl, put_fits n1 t]; exact hr
theorem VO.ixG {T : TypeId} {k : Nat} {e0 : TypeId} {τ : Ty} {a b c : τ.den} {y : Operand} (hv : (⟨k, e0, .pair τ (.pair τ τ), (a, b, c)⟩ : GVar) ∈ gTab) (j : Nat) (hj : j < 3) (hk : VO P orc ops n l ((d, .p τ (arr3 a b c j)) :: fl) σ K) (c0 : aofB P T 0 0 τ = true := by kernel_rfl) (c1 : aofB P T 1 τ.size τ = true := by kernel_rfl) (c2 : aofB P T 2 (τ.size + τ.size) τ = true := by kernel_rfl) (ht : (P.globals[k]?).map (·.type) = some e0 := by kernel_rfl) (hy : evV fl y = some (.v (.int .i64) ((j : Nat) : Int)) := by rfl) (hw : wantV ops fl g = some true := by rfl) (hn : (Nat.blt d n && Nat.ble n 4000) = true := by rfl) :
    VO P orc ops n (⟨some d, .indexAddr T (.global k) y, ty, pos, after, g⟩ :: l) fl σ K := fun h0 G S0 t h ms I => by
  obtain ⟨n1, n2⟩ := fits hn; obtain ⟨e1, e2⟩ := I.slots.1.ptr (P := P) hv ht; have hi : evalO t y = .int .i64 ((j : Nat) : Int) := RepV.int (evV_ok I.slots hy : RepV h _ (.int .i64) _ ((j : Nat) : Int))
  have hR := (CalmV.ixP3 (P := P) (σ := []) (fl := [(0, .p (.pair τ (.pair τ τ)) (a, b, c)), (1, .v (.int .i64) ((j : Nat) : Int))]) (x := .tmp 0) (y := .tmp 1) (T := T) j hj c0 c1 c2 rfl rfl).2 h (Go.Fs.own σ ++ S0) ((Tr.leaf.set depth 0 (.pointer (some ⟨k + 1, 0, none⟩))).set depth 1 (.int .i64 ((j : Nat) : Int)))
    (by
      intro x hx v hxv
      have hx : x = .tmp 0 ∨ x = .tmp 1 := by simpa [Op.operands] using hx
      rcases hx with rfl | rfl
      · obtain rfl := Option.some.inj hxv; exact e2
      obtain rfl := Option.some.inj hxv
      exact RepV.ofInt _ _) (fun c hc => by cases hc)
  obtain ⟨u, hu, hs⟩ := hR; have hs := hs none ty pos after none h; have hs : (if af (.int .i64 ((j : Nat) : Int)) then (runPure P (Instr.indexAt T (.pointer (some ⟨k + 1, 0, none⟩)) (.int .i64 ((j : Nat) : Int)))).map (fun v => (v, h)) else none) = some (u, h) := hs; rw [if_pos (show af (Value.int .i64 ((j : Nat) : Int)) = true from rfl)] at hs; obtain ⟨u', hu', he⟩ := Option.map_eq_some_iff.1 hs; obtain rfl : u' = u := congrArg Prod.fst he
  have hyg : ∀ z, y ≠ .global z := fun z e => by subst e; cases hy
  have hcj : ∃ q, aofB P T j q τ = true := by
    rcases j with _ | _ | _ | j
    · exact ⟨_, c0⟩
    · exact ⟨_, c1⟩
    · exact ⟨_, c2⟩
    omega
  obtain ⟨q, hcj⟩ := hcj; obtain ⟨m, t2, h2, hr, hq⟩ := hk h0 G S0 _ h ms (I.set (hu : RepPV h _ (.p τ (arr3 a b c j)) _) n2); refine ⟨m, t2, h2, ?_, hq⟩; simp only [fsOps, want_ok (o := ⟨some d, .indexAddr T (.global k) y, ty, pos, after, g⟩) I.slots hw, step_ixG (orc := orc) (m := m) (t := t) hcj hi hyg (by rw [e1]; exact hu') ⟨some d, .indexAddr T (.global k) y, ty, pos, after, g⟩ rfl, put_fits n1 t]; exact hr
end Go.Fs
namespace Go.Proofs
open Go.Fs
set_option maxHeartbeats 1000000
theorem zCloneI_ok {l : List Int} (hl : l.length < 100000) : VFG Tryz.prog OA 149 [.v y25 l] [] (fun r g => ∃ w, r = .raw w ∧ g = [(w, .row 3 (.int .i64) l)]) := by
  refine VFG.enter Tryz.func149 rfl (fun _ _ => rfl) rfl ?_; show VC _ _ _ _ _ [(0, .v y25 l)] [] _; refine VC.seq (VC.text ?_); refine VO.c (.assign rfl) ?_; refine VO.go (VC.seq (VC.seq (VC.text ?_))); refine VO.c (.move rfl) ?_; refine VO.isnil (e := 3) rfl rfl (by kernel_rfl) (by kernel_rfl) (fun h1_1 => ?_) ?_
  · refine VO.go ?_; refine VC.condT rfl ?_; refine VC.seq (VC.text ?_); refine VO.c (.assign rfl) (VO.go ?_); refine VC.cell0 3 (.int .i64) ?_; refine VC.ret ?_; simp only [thenV]; exact VEndG.row rfl evT ⟨(.slice none 0 0), rfl, (by rw [h1_1])⟩
  refine VO.go ?_; refine VC.condF rfl ?_; refine VC.skip (VC.seq (VC.text ?_)); refine VO.cell (.lit0 el25) ?_; intro ww1; refine VO.c (.move rfl) ?_; refine VO.app rfl rfl el25 el25 (by simp; omega) ?_; intro ww2; refine VO.c (.assign rfl) (VO.go ?_); refine VC.ret ?_; exact VEndG.row rfl evT ⟨ww2, rfl, (by rfl)⟩
theorem cfl_t1 {l : List Pha} {dn : List Int} {now : Int} {i : Nat} (h0 : 0 ≤ dn.getD i 0) : cflE l dn now i = (!rdyE dn (phA l i).2.2.2 (phA l i).2.2.2.length || decide (now < dn.getD i 0) || decide (dn.getD i 0 - begE (finL (dE false) l dn now i) (phA l i).2.2.2 (phA l i).2.2.2.length < (phA l i).2.1) || decide ((phA l i).2.2.1 < dn.getD i 0 - begE (finL (dE false) l dn now i) (phA l i).2.2.2 (phA l i).2.2.2.length)) := if_pos h0
theorem cfl_t2 {l : List Pha} {dn : List Int} {now : Int} {i : Nat} (h0 : ¬ 0 ≤ dn.getD i 0) : cflE l dn now i = (rdyE dn (phA l i).2.2.2 (phA l i).2.2.2.length && decide (begE (finL (dE false) l dn now i) (phA l i).2.2.2 (phA l i).2.2.2.length + (phA l i).2.2.1 < now)) := if_neg h0
theorem cProg_ok {l : List (ByteArray × Int × Int × (List Int))} {dn : List Int} {now : Int} (hp : PlanOk l) (hdn : DoneOk l dn now) : VF Tryz.prog OA 112 [.v y29 l, .v y25 dn, I now] (.tup [.v y32 (prgR l dn now), I (prgE l dn now)]) := by
  refine VF.enter Tryz.func112 rfl (fun _ _ => rfl) rfl ?_; show VC _ _ _ _ _ [(0, .v y29 l), (1, .v y25 dn), (2, I now)] [] _; refine VC.seq (VC.text ?_); have hlen := hp.len; have hdl := hdn.len; have hnow := hdn.now; have hd0 := dur_ok hp false; have hd1 := dur_ok hp true; refine VO.cell (.alloc zt32) ?_; intro ww3; refine VO.c (.assign rfl) ?_; refine VO.go (VC.seq (VC.text ?_)); refine VO.c (.move rfl) ?_; refine VO.r (.len el29) ?_; refine VO.cell (.make (k := l.length) rfl rfl el25 zt3 (by omega)) ?_; intro ww4; refine VO.c (.assign rfl) ?_; refine VO.go (VC.seq (VC.text ?_)); refine VO.c (.move rfl) (VO.c (.move rfl) ?_); refine VO.copy rfl rfl el25 (by simp; omega) ?_; refine VO.go (VC.seq (VC.text ?_)); refine VO.c (.move rfl) ?_; refine VO.callG [] rfl rfl rfl (VFG.call (zCloneI_ok (by first | assumption | omega | simp))) ?_; rintro _ _ ⟨ww5, rfl, rfl⟩; show VO _ _ _ _ _ _ [(ww5, .row 3 (.int .i64) dn), (ww4, .row 3 (.int .i64) dn), (ww3, .var [I (0 : Int), I (0 : Int)])] _; refine VO.c (.assign rfl) ?_; refine VO.go (VC.seq (VC.seq (VC.text ?_))); refine VO.c (.move rfl) ?_; refine VO.r (.len el29) ?_; refine VO.c (.move rfl) ?_; refine VO.go (VC.block ?_); refine VC.keep [(1, .v y25 dn), (2, I now), (6, .raw ww3), (8, .raw ww4), (9, .raw ww5), (25, .v y29 l), (26, I ((l.length : Nat) : Int)), (27, I ((0 : Nat) : Int))] ⟨rfl, rfl, rfl, rfl, rfl, rfl, rfl, rfl, trivial⟩ ?_; refine VC.loop (I := fun kk ff ss => ∃ (i : Nat), kk = l.length - i ∧ ff = [(1, .v y25 dn), (2, I now), (6, .raw ww3), (8, .raw ww4), (9, .raw ww5), (25, .v y29 l), (26, I ((l.length : Nat) : Int)), (27, I ((i : Nat) : Int))] ∧ ss = [(ww5, .row 3 (.int .i64) (finW (dE true) l dn now i)), (ww4, .row 3 (.int .i64) (finW (dE false) l dn now i)), (ww3, .var [I (0 : Int), I (0 : Int)])] ∧ (i ≤ l.length) ∧ (∀ j, j < i → cflE l dn now j = false)) ?_ _ _ _ ⟨0, rfl, rfl, rfl, Nat.zero_le _, (by intro j hj; omega)⟩; rintro kk ff ss ⟨i, hk0, rfl, rfl, hi, hq⟩; refine VC.seq (VC.text ?_); refine VO.c (.lss) ?_; refine VO.go (VC.seq ?_); refine VC.condD rfl (fun c5 => ?_) (fun c5 => ?_)
  · have hlt : i < l.length := by omega
    have hbl : (phA l i).2.2.2 = l[i].2.2.2 := by rw [phA_eq hlt]
    have hbf := hp.bef i hlt; rw [hbl] at hbf; have hbn := hp.blen hlt; rw [hbl] at hbn; have hdi := hp.dur i hlt; rw [phA_eq hlt] at hdi; have hfl0 : (finW (dE false) l dn now i).length = dn.length := finW_len (by omega); have hfl1 : (finW (dE true) l dn now i).length = dn.length := finW_len (by omega); have hdb := hdn.bnd i (by omega); rw [getDg (by omega)] at hdb; refine VC.skip (VC.seq (VC.block (VC.seq (VC.text ?_)))); refine VO.c (.move rfl) (VO.c (.ix (j := i) rfl rfl el29 (by omega)) ?_); refine VO.r (.ld vt84) ?_; refine VO.cell (.alloc zt84) ?_; intro ww6; refine VO.c (.assign rfl) ?_; refine VO.setV (cs' := [St ((l[i]).1), I ((l[i]).2.1), I ((l[i]).2.2.1), .v y25 ((l[i]).2.2.2)]) vt84 .v ?_; refine VO.shut [(11, .p y84 (l[i]))] (.cons rfl (.var m0 .refl) .nil) ?_; refine VO.go (VC.seq (VC.text ?_)); refine VO.c (.assign rfl) (VO.c (.assign rfl) (VO.c (.assign rfl) ?_)); refine VO.go (VC.seq (VC.seq (VC.text ?_))); refine VO.c (.fa (.r (.r (.r .o)))) ?_; refine VO.r (.ld vt25) ?_; refine VO.r (.len el25) ?_; refine VO.c (.move rfl) ?_; refine VO.go (VC.block ?_); refine VC.keep [(1, .v y25 dn), (2, I now), (6, .raw ww3), (8, .raw ww4), (9, .raw ww5), (10, I ((i : Nat) : Int)), (11, .p y84 (l[i])), (12, B (rdyE dn l[i].2.2.2 0)), (13, I (begE (finL (dE false) l dn now i) l[i].2.2.2 0)), (14, I (begE (finL (dE true) l dn now i) l[i].2.2.2 0)), (25, .v y29 l), (26, I ((l.length : Nat) : Int)), (27, I ((i : Nat) : Int)), (33, .v y25 ((l[i]).2.2.2)), (34, I ((((l[i]).2.2.2).length : Nat) : Int)), (35, I ((0 : Nat) : Int))] ⟨rfl, rfl, rfl, rfl, rfl, rfl, rfl, rfl, rfl, rfl, rfl, rfl, rfl, rfl, rfl, rfl, trivial⟩ ?_; refine VC.loop (I := fun kk ff ss => ∃ (k : Nat), kk = l[i].2.2.2.length - k ∧ ff = [(1, .v y25 dn), (2, I now), (6, .raw ww3), (8, .raw ww4), (9, .raw ww5), (10, I ((i : Nat) : Int)), (11, .p y84 (l[i])), (12, B (rdyE dn l[i].2.2.2 k)), (13, I (begE (finL (dE false) l dn now i) l[i].2.2.2 k)), (14, I (begE (finL (dE true) l dn now i) l[i].2.2.2 k)), (25, .v y29 l), (26, I ((l.length : Nat) : Int)), (27, I ((i : Nat) : Int)), (33, .v y25 ((l[i]).2.2.2)), (34, I ((((l[i]).2.2.2).length : Nat) : Int)), (35, I ((k : Nat) : Int))] ∧ ss = [(ww5, .row 3 (.int .i64) (finW (dE true) l dn now i)), (ww4, .row 3 (.int .i64) (finW (dE false) l dn now i)), (ww3, .var [I (0 : Int), I (0 : Int)])] ∧ (k ≤ l[i].2.2.2.length)) ?_ _ _ _ ⟨0, rfl, rfl, rfl, (by omega)⟩; rintro kk ff ss ⟨k, hk2, rfl, rfl, hk⟩; have hB0 := finB_b hd0 hdn (i := i) (by omega) k; have hB1 := finB_b hd1 hdn (i := i) (by omega) k; rw [hbl] at hB0 hB1; refine VC.seq (VC.text ?_); refine VO.c (.lss) ?_; refine VO.go (VC.seq ?_); refine VC.condD rfl (fun c9 => ?_) (fun c9 => ?_)
    · have hk2 : k < l[i].2.2.2.length := by omega
      have hbk := hbf k hk2; rw [getDg hk2] at hbk
      have hx0 : (finW (dE false) l dn now i)[(l[i].2.2.2[k]).toNat]'(by omega) = (finL (dE false) l dn now i).getD (l[i].2.2.2[k]).toNat 0 := by rw [← getDg (d := 0) (by omega), finW_low (by omega)]
      have hx1 : (finW (dE true) l dn now i)[(l[i].2.2.2[k]).toNat]'(by omega) = (finL (dE true) l dn now i).getD (l[i].2.2.2[k]).toNat 0 := by rw [← getDg (d := 0) (by omega), finW_low (by omega)]
      refine VC.skip (VC.seq (VC.block (VC.seq (VC.text ?_)))); refine VO.c (.ix (j := k) rfl rfl el25 (by omega)) ?_; refine VO.r (.ld vt3) ?_; refine VO.c (.assign rfl) ?_; refine VO.go (VC.seq (VC.text ?_)); refine VO.c (.move rfl) (VO.c (.move rfl) ?_); refine VO.cg (r := (rdyE dn l[i].2.2.2 k)) (w := true) [] trivial (fun _ => (.move rfl)) ?_; refine VO.cg (r := (rdyE dn l[i].2.2.2 k)) (w := true) [] trivial (fun _ => (.move rfl)) ?_; refine VO.cg (r := (rdyE dn l[i].2.2.2 k)) (w := true) [(41, .v y25 dn), (42, I (((l[i]).2.2.2)[k]))] ⟨rfl, rfl, trivial⟩ (fun hgd => have g11_1 : (rdyE dn l[i].2.2.2 k) = true := (by simpa using hgd); (.ixZD rfl rfl 0 el25 (by omega) (by omega))) ?_; refine VO.rg (r := (rdyE dn l[i].2.2.2 k)) (w := true) [(43, .p (.int .i64) (dn.getD (((l[i]).2.2.2)[k]).toNat 0))] ⟨rfl, trivial⟩ (fun _ => (.ld vt3)) ?_; refine VO.cg (r := (rdyE dn l[i].2.2.2 k)) (w := true) [(44, I (dn.getD (((l[i]).2.2.2)[k]).toNat 0))] ⟨rfl, trivial⟩ (fun _ => (.geq)) ?_; refine VO.c (.and) (VO.c (.assign rfl) ?_); refine VO.go (VC.drawn ?_); refine VD.c (.move rfl) (VD.c (.move rfl) (VD.c (.move rfl) ?_)); refine VD.co (.ixOZ (k := ((l[i]).2.2.2)[k]) rfl rfl m1 el25 (by omega) (by omega)) ?_; refine VD.r [(ww5, .row 3 (.int .i64) (finW (dE true) l dn now i)), (ww4, .row 3 (.int .i64) (finW (dE false) l dn now i)), (ww3, .var [I (0 : Int), I (0 : Int)])] (.ldO rfl m1 vt3 (by omega)) (.inr ⟨rfl, rfl⟩) ?_; refine VD.c (.imax) (VD.nw [] (VD.c (.move rfl) (VD.c (.move rfl) ?_))); refine VD.c (.move rfl) ?_; refine VD.co (.ixOZ (k := ((l[i]).2.2.2)[k]) rfl rfl m0 el25 (by omega) (by omega)) ?_; refine VD.r [(ww5, .row 3 (.int .i64) (finW (dE true) l dn now i)), (ww4, .row 3 (.int .i64) (finW (dE false) l dn now i)), (ww3, .var [I (0 : Int), I (0 : Int)])] (.ldO rfl m0 vt3 (by omega)) (.inr ⟨rfl, rfl⟩) ?_; refine VD.c (.imax) (VD.c (.assign rfl) (VD.nw [] (VD.c (.assign rfl) ?_))); refine VD.nil ?_; refine VC.text ?_; refine VO.c (.add rfl rfl (by omega)) (VO.c (.move rfl) ?_); refine VO.nil ?_; refine ⟨_, [(1, .v y25 dn), (2, I now), (6, .raw ww3), (8, .raw ww4), (9, .raw ww5), (10, I ((i : Nat) : Int)), (11, .p y84 (l[i])), (12, B (rdyE dn l[i].2.2.2 (k + 1))), (13, I (begE (finL (dE false) l dn now i) l[i].2.2.2 (k + 1))), (14, I (begE (finL (dE true) l dn now i) l[i].2.2.2 (k + 1))), (25, .v y29 l), (26, I ((l.length : Nat) : Int)), (27, I ((i : Nat) : Int)), (33, .v y25 ((l[i]).2.2.2)), (34, I ((((l[i]).2.2.2).length : Nat) : Int)), (35, I (((k + 1) : Nat) : Int))], ?_, ⟨rfl, rfl, rfl, rfl, rfl, rfl, rfl, slE rfl (by show _ = (rdyE dn _ k && decide _); rw [getDg hk2]), slI rfl (by rw [hx0]; show _ = max _ _; rw [getDg hk2]), slI rfl (by rw [hx1]; show _ = max _ _; rw [getDg hk2]), rfl, rfl, rfl, rfl, rfl, rfl, trivial⟩, (k + 1), rfl, rfl, rfl, (by omega)⟩; omega
    have hkl : l[i].2.2.2.length = k := by omega
    refine VC.exit (VC.seq (VC.seq (VC.text ?_))); refine VO.c (.move rfl) (VO.c (.move rfl) (VO.c (.ix (j := i) rfl rfl el25 (by omega)) ?_)); refine VO.r (.ld vt3) ?_; refine VO.c (.geq) (VO.go ?_); refine VC.condD rfl (fun c14 => ?_) (fun c14 => ?_)
    · have h0 : 0 ≤ dn.getD i 0 := by rw [getDg (by omega)]; exact c14
      have hcf1 := cfl_t1 (l := l) (now := now) h0; rw [hbl, hkl, phA_eq hlt, getDg (by omega)] at hcf1; refine VC.seq (VC.seq (VC.drawn ?_)); refine VD.c (.move rfl) (VD.c (.not) (VD.c (.move rfl) ?_)); refine VD.splitB (x := 67) rfl (fun g15_2 => ?_) (fun g15_2 => ?_)
      · try simp only [Bool.and_eq_true, Bool.or_eq_true, Bool.and_eq_false_iff, Bool.or_eq_false_iff, Bool.not_eq_true', Bool.not_eq_false', decide_eq_true_eq, decide_eq_false_iff_not] at g15_2
        have hcx : cflE l dn now i = true := by rw [hcf1, g15_2] <;> rfl
        refine VD.skip (VD.skip (VD.nw [] (VD.skip ?_))); refine VD.skip (VD.skip (VD.skip (VD.c (.pickT rfl rfl) ?_))); refine VD.c (.move rfl) (VD.skip (VD.nw [] (VD.skip ?_))); refine VD.skip (VD.skip (VD.skip (VD.skip ?_))); refine VD.skip (VD.skip (VD.nw [] (VD.skip ?_))); refine VD.c (.pickT rfl rfl) (VD.c (.move rfl) (VD.skip (VD.skip ?_))); refine VD.skip (VD.skip (VD.nw [] (VD.skip ?_))); refine VD.skip (VD.skip (VD.skip (VD.skip ?_))); refine VD.c (.pickT rfl rfl) (VD.go ?_); refine VC.condT rfl ?_; refine VC.seq ?_; refine VC.keep [(1, .v y25 dn), (2, I now), (6, .raw ww3), (8, .raw ww4), (9, .raw ww5), (10, I ((i : Nat) : Int)), (11, .p y84 (l[i])), (12, B (rdyE dn l[i].2.2.2 k)), (13, I (begE (finL (dE false) l dn now i) l[i].2.2.2 k)), (14, I (begE (finL (dE true) l dn now i) l[i].2.2.2 k)), (25, .v y29 l), (26, I ((l.length : Nat) : Int)), (27, I ((i : Nat) : Int))] ⟨rfl, rfl, rfl, rfl, rfl, rfl, rfl, rfl, rfl, rfl, rfl, rfl, rfl, trivial⟩ ?_; refine VC.text ?_; refine VO.c (.build (0, 0) bt32) ?_; refine VO.perm swap2 ?_; refine VO.setV (cs' := [I 0, I 0]) vt32 .v ?_; refine VO.c (.assign rfl) (VO.go ?_); refine VC.ret ?_; exact VEnd.two rfl (.cell (x := (0, 0)) rfl m0 vt32 .refl) evT (pvE (by rw [prgR, if_neg (by rw [posE_f hlt hcx]; decide)])) (pvI (by rw [prgE, if_neg (by rw [posE_f hlt hcx]; decide)]))
      try simp only [Bool.and_eq_true, Bool.or_eq_true, Bool.and_eq_false_iff, Bool.or_eq_false_iff, Bool.not_eq_true', Bool.not_eq_false', decide_eq_true_eq, decide_eq_false_iff_not] at g15_2
      refine VD.c (.move rfl) (VD.c (.move rfl) (VD.nw [] (VD.c (.ix (j := i) rfl rfl el25 (by omega)) ?_))); refine VD.r [] (.ld vt3) (.inl rfl) ?_; refine VD.c (.move rfl) (VD.c (.gtr) (VD.c (.pickF rfl rfl) (VD.c (.move rfl) ?_))); refine VD.splitD (x := 75) rfl (fun g15_10 => ?_) (fun g15_10 => ?_)
      · have hcx : cflE l dn now i = true := by rw [hcf1, decide_eq_true g15_10]; simp
        refine VD.nw [] (VD.skip (VD.skip (VD.skip ?_))); refine VD.skip (VD.skip (VD.skip (VD.skip ?_))); refine VD.nw [] (VD.skip (VD.skip (VD.c (.pickT rfl rfl) ?_))); refine VD.c (.move rfl) (VD.skip (VD.skip (VD.skip ?_))); refine VD.nw [] (VD.skip (VD.skip (VD.skip ?_))); refine VD.skip (VD.skip (VD.skip (VD.c (.pickT rfl rfl) ?_))); refine VD.go ?_; refine VC.condT rfl ?_; refine VC.seq ?_; refine VC.keep [(1, .v y25 dn), (2, I now), (6, .raw ww3), (8, .raw ww4), (9, .raw ww5), (10, I ((i : Nat) : Int)), (11, .p y84 (l[i])), (12, B (rdyE dn l[i].2.2.2 k)), (13, I (begE (finL (dE false) l dn now i) l[i].2.2.2 k)), (14, I (begE (finL (dE true) l dn now i) l[i].2.2.2 k)), (25, .v y29 l), (26, I ((l.length : Nat) : Int)), (27, I ((i : Nat) : Int))] ⟨rfl, rfl, rfl, rfl, rfl, rfl, rfl, rfl, rfl, rfl, rfl, rfl, rfl, trivial⟩ ?_; refine VC.text ?_; refine VO.c (.build (0, 0) bt32) ?_; refine VO.perm swap2 ?_; refine VO.setV (cs' := [I 0, I 0]) vt32 .v ?_; refine VO.c (.assign rfl) (VO.go ?_); refine VC.ret ?_; exact VEnd.two rfl (.cell (x := (0, 0)) rfl m0 vt32 .refl) evT (pvE (by rw [prgR, if_neg (by rw [posE_f hlt hcx]; decide)])) (pvI (by rw [prgE, if_neg (by rw [posE_f hlt hcx]; decide)]))
      refine VD.nw [] (VD.c (.move rfl) (VD.c (.move rfl) (VD.c (.ix (j := i) rfl rfl el25 (by omega)) ?_))); refine VD.r [] (.ld vt3) (.inl rfl) ?_; refine VD.c (.move rfl) (VD.c (.sub rfl rfl (by omega)) (VD.c (.fa (.r (.l .o))) (VD.nw [] ?_))); refine VD.r [] (.ld vt3) (.inl rfl) ?_; refine VD.c (.lss) (VD.c (.pickF rfl rfl) (VD.c (.move rfl) ?_)); refine VD.splitD (x := 86) rfl (fun g15_21 => ?_) (fun g15_21 => ?_)
      · have hcx : cflE l dn now i = true := by rw [hcf1, decide_eq_true g15_21]; simp
        refine VD.skip (VD.skip (VD.nw [] (VD.skip ?_))); refine VD.skip (VD.skip (VD.skip (VD.skip ?_))); refine VD.skip (VD.skip (VD.nw [] (VD.c (.pickT rfl rfl) ?_))); refine VD.go ?_; refine VC.condT rfl ?_; refine VC.seq ?_; refine VC.keep [(1, .v y25 dn), (2, I now), (6, .raw ww3), (8, .raw ww4), (9, .raw ww5), (10, I ((i : Nat) : Int)), (11, .p y84 (l[i])), (12, B (rdyE dn l[i].2.2.2 k)), (13, I (begE (finL (dE false) l dn now i) l[i].2.2.2 k)), (14, I (begE (finL (dE true) l dn now i) l[i].2.2.2 k)), (25, .v y29 l), (26, I ((l.length : Nat) : Int)), (27, I ((i : Nat) : Int))] ⟨rfl, rfl, rfl, rfl, rfl, rfl, rfl, rfl, rfl, rfl, rfl, rfl, rfl, trivial⟩ ?_; refine VC.text ?_; refine VO.c (.build (0, 0) bt32) ?_; refine VO.perm swap2 ?_; refine VO.setV (cs' := [I 0, I 0]) vt32 .v ?_; refine VO.c (.assign rfl) (VO.go ?_); refine VC.ret ?_; exact VEnd.two rfl (.cell (x := (0, 0)) rfl m0 vt32 .refl) evT (pvE (by rw [prgR, if_neg (by rw [posE_f hlt hcx]; decide)])) (pvI (by rw [prgE, if_neg (by rw [posE_f hlt hcx]; decide)]))
      refine VD.c (.move rfl) (VD.c (.move rfl) (VD.nw [] (VD.c (.ix (j := i) rfl rfl el25 (by omega)) ?_))); refine VD.r [] (.ld vt3) (.inl rfl) ?_; refine VD.c (.move rfl) (VD.c (.sub rfl rfl (by omega)) (VD.c (.fa (.r (.r (.l .o)))) ?_)); refine VD.r [] (.ld vt3) (.inl rfl) ?_; refine VD.c (.gtr) (VD.nw [] (VD.c (.pickF rfl rfl) (VD.go ?_))); refine VC.condD rfl (fun c15 => ?_) (fun c15 => ?_)
      · have hcx : cflE l dn now i = true := by rw [hcf1, decide_eq_true c15]; simp
        refine VC.seq ?_; refine VC.keep [(1, .v y25 dn), (2, I now), (6, .raw ww3), (8, .raw ww4), (9, .raw ww5), (10, I ((i : Nat) : Int)), (11, .p y84 (l[i])), (12, B (rdyE dn l[i].2.2.2 k)), (13, I (begE (finL (dE false) l dn now i) l[i].2.2.2 k)), (14, I (begE (finL (dE true) l dn now i) l[i].2.2.2 k)), (25, .v y29 l), (26, I ((l.length : Nat) : Int)), (27, I ((i : Nat) : Int))] ⟨rfl, rfl, rfl, rfl, rfl, rfl, rfl, rfl, rfl, rfl, rfl, rfl, rfl, trivial⟩ ?_; refine VC.text ?_; refine VO.c (.build (0, 0) bt32) ?_; refine VO.perm swap2 ?_; refine VO.setV (cs' := [I 0, I 0]) vt32 .v ?_; refine VO.c (.assign rfl) (VO.go ?_); refine VC.ret ?_; exact VEnd.two rfl (.cell (x := (0, 0)) rfl m0 vt32 .refl) evT (pvE (by rw [prgR, if_neg (by rw [posE_f hlt hcx]; decide)])) (pvI (by rw [prgE, if_neg (by rw [posE_f hlt hcx]; decide)]))
      have hcf : cflE l dn now i = false := by rw [hcf1, decide_eq_false c15, decide_eq_false g15_21, decide_eq_false g15_10, g15_2] <;> rfl
      have hs0 : finW (dE false) l dn now i = finW (dE false) l dn now (i + 1) := finW_done (by omega) h0; have hs1 : finW (dE true) l dn now i = finW (dE true) l dn now (i + 1) := finW_done (by omega) h0; refine VC.skip (VC.exit ?_); refine VC.keep [(1, .v y25 dn), (2, I now), (6, .raw ww3), (8, .raw ww4), (9, .raw ww5), (25, .v y29 l), (26, I ((l.length : Nat) : Int)), (27, I ((i : Nat) : Int))] ⟨rfl, rfl, rfl, rfl, rfl, rfl, rfl, rfl, trivial⟩ ?_; refine VC.text ?_; refine VO.c (.add rfl rfl (by omega)) (VO.c (.move rfl) ?_); refine VO.nil ?_; refine ⟨_, [(1, .v y25 dn), (2, I now), (6, .raw ww3), (8, .raw ww4), (9, .raw ww5), (25, .v y29 l), (26, I ((l.length : Nat) : Int)), (27, I (((i + 1) : Nat) : Int))], ?_, ⟨rfl, rfl, rfl, rfl, rfl, rfl, rfl, rfl, trivial⟩, (i + 1), rfl, rfl, (by rw [hs0, hs1]), (by omega), (by intro j hj; rcases Nat.lt_succ_iff_lt_or_eq.1 hj with h | h; exact hq j h; subst h; exact hcf)⟩; omega
    have h0 : ¬ 0 ≤ dn.getD i 0 := by rw [getDg (by omega)]; exact c14
    have hcf2 := cfl_t2 (l := l) (now := now) h0; rw [hbl, hkl, phA_eq hlt] at hcf2; refine VC.skip (VC.seq (VC.seq (VC.text ?_))); refine VO.c (.move rfl) (VO.c (.move rfl) ?_); refine VO.cg (r := (rdyE dn l[i].2.2.2 k)) (w := true) [] trivial (fun _ => (.move rfl)) ?_; refine VO.cg (r := (rdyE dn l[i].2.2.2 k)) (w := true) [] trivial (fun _ => (.fa (.r (.r (.l .o))))) ?_; refine VO.rg (r := (rdyE dn l[i].2.2.2 k)) (w := true) [(101, .p (.int .i64) ((l[i]).2.2.1))] ⟨rfl, trivial⟩ (fun _ => (.ld vt3)) ?_; refine VO.cg (r := (rdyE dn l[i].2.2.2 k)) (w := true) [(100, I (begE (finL (dE false) l dn now i) l[i].2.2.2 k)), (102, I ((l[i]).2.2.1))] ⟨rfl, rfl, trivial⟩ (fun hgd => have g17_1 : (rdyE dn l[i].2.2.2 k) = true := (by simpa using hgd); (.add rfl rfl (by omega))) ?_; refine VO.cg (r := (rdyE dn l[i].2.2.2 k)) (w := true) [] trivial (fun _ => (.move rfl)) ?_; refine VO.cg (r := (rdyE dn l[i].2.2.2 k)) (w := true) [(103, I ((begE (finL (dE false) l dn now i) l[i].2.2.2 k) + (l[i]).2.2.1)), (104, I now)] ⟨rfl, rfl, trivial⟩ (fun _ => (.lss)) ?_; refine VO.c (.and) (VO.go ?_); refine VC.condB rfl (fun c17 => ?_) (fun c17 => ?_)
    · try simp only [Bool.and_eq_true, Bool.or_eq_true, Bool.and_eq_false_iff, Bool.or_eq_false_iff, Bool.not_eq_true', Bool.not_eq_false', decide_eq_true_eq, decide_eq_false_iff_not] at c17
      have hcx : cflE l dn now i = true := by rw [hcf2, c17.1, decide_eq_true c17.2] <;> rfl
      refine VC.seq (VC.text ?_); refine VO.c (.build (0, 0) bt32) ?_; refine VO.perm swap2 ?_; refine VO.setV (cs' := [I 0, I 0]) vt32 .v ?_; refine VO.c (.assign rfl) (VO.go ?_); refine VC.ret ?_; exact VEnd.two rfl (.cell (x := (0, 0)) rfl m0 vt32 .refl) evT (pvE (by rw [prgR, if_neg (by rw [posE_f hlt hcx]; decide)])) (pvI (by rw [prgE, if_neg (by rw [posE_f hlt hcx]; decide)]))
    try simp only [Bool.and_eq_true, Bool.or_eq_true, Bool.and_eq_false_iff, Bool.or_eq_false_iff, Bool.not_eq_true', Bool.not_eq_false', decide_eq_true_eq, decide_eq_false_iff_not] at c17
    have hcf : cflE l dn now i = false := by rw [hcf2]; rcases c17 with h | h; rw [h]; rfl; rw [decide_eq_false h, Bool.and_false]
    have hln := long_now hp hlt h0 hcf; rw [hbl, hkl, phA_eq hlt] at hln; have hs0 : (finW (dE false) l dn now i).set i (max (begE (finL (dE false) l dn now i) l[i].2.2.2 k + l[i].2.1) now) = finW (dE false) l dn now (i + 1) := finW_set (by omega) (by rw [finF, if_neg h0, hbl, hkl, phA_eq hlt]; rfl); have hs1 : (finW (dE true) l dn now i).set i (begE (finL (dE true) l dn now i) l[i].2.2.2 k + l[i].2.2.1) = finW (dE true) l dn now (i + 1) := finW_set (by omega) (by rw [finF, if_neg h0, hbl, hkl, phA_eq hlt]; show _ = max (_ + l[i].2.2.1) _; omega); refine VC.skip ?_; refine VC.perm swap1 ?_; refine VC.late [(ww3, .var [I (0 : Int), I (0 : Int)])] ⟨[(ww4, .row 3 (.int .i64) (finW (dE false) l dn now i)), (ww5, .row 3 (.int .i64) (finW (dE true) l dn now i))], rfl⟩ ?_; refine VLt.cR (.move rfl) ?_; refine VLt.c (.move rfl) ?_; refine VLt.cR (.move rfl) ?_; refine VLt.c (.move rfl) ?_; refine VLt.c (.move rfl) ?_; refine VLt.c (.fa (.r (.l .o))) ?_; refine VLt.nws [] ?_; refine VLt.q rfl (.ld vt3) ?_; refine VLt.c (.add rfl rfl (by omega)) ?_; refine VLt.c (.move rfl) ?_; refine VLt.c (.imax) ?_; refine VLt.c (.move rfl) ?_; refine VLt.c (.fa (.r (.r (.l .o)))) ?_; refine VLt.q rfl (.ld vt3) ?_; refine VLt.nws [] ?_; refine VLt.c (.add rfl rfl (by omega)) ?_; refine VLt.cR (.ixO (j := i) rfl rfl m0 el25 (by omega)) ?_; refine VLt.mk0 (MakeV.setE (j := i) vt3 (by omega) rfl rfl) (TurnV.storeE rfl (.inl rfl) (by omega)) ⟨[(ww5, .row 3 (.int .i64) (finW (dE true) l dn now i))], rfl⟩ ?_; rintro _ _ ⟨rfl, rfl⟩; refine ⟨⟨[(ww4, .row 3 (.int .i64) ((finW (dE false) l dn now i).set i (max ((begE (finL (dE false) l dn now i) l[i].2.2.2 k) + (l[i]).2.1) now))), (ww5, .row 3 (.int .i64) (finW (dE true) l dn now i))], rfl⟩, ?_⟩; refine VLt.cR (.ixO (j := i) rfl rfl m1 el25 (by omega)) ?_; refine VLt.perm swap1 ⟨[(ww5, .row 3 (.int .i64) (finW (dE true) l dn now i)), (ww4, .row 3 (.int .i64) ((finW (dE false) l dn now i).set i (max ((begE (finL (dE false) l dn now i) l[i].2.2.2 k) + (l[i]).2.1) now)))], rfl⟩ ?_; refine VLt.mk0 (MakeV.setE (j := i) vt3 (by omega) rfl rfl) (TurnV.storeE rfl (.inl rfl) (by omega)) ⟨[(ww4, .row 3 (.int .i64) ((finW (dE false) l dn now i).set i (max ((begE (finL (dE false) l dn now i) l[i].2.2.2 k) + (l[i]).2.1) now)))], rfl⟩ ?_; rintro _ _ ⟨rfl, rfl⟩; refine ⟨⟨[(ww5, .row 3 (.int .i64) ((finW (dE true) l dn now i).set i ((begE (finL (dE true) l dn now i) l[i].2.2.2 k) + (l[i]).2.2.1))), (ww4, .row 3 (.int .i64) ((finW (dE false) l dn now i).set i (max ((begE (finL (dE false) l dn now i) l[i].2.2.2 k) + (l[i]).2.1) now)))], rfl⟩, ?_⟩; refine VLt.nil ?_; refine VC.text ?_; refine VO.c (.add rfl rfl (by omega)) (VO.c (.move rfl) ?_); refine VO.nil ?_; refine ⟨_, [(1, .v y25 dn), (2, I now), (6, .raw ww3), (8, .raw ww4), (9, .raw ww5), (25, .v y29 l), (26, I ((l.length : Nat) : Int)), (27, I (((i + 1) : Nat) : Int))], ?_, ⟨rfl, rfl, rfl, rfl, rfl, rfl, rfl, rfl, trivial⟩, (i + 1), rfl, rfl, (by rw [hs0, hs1]), (by omega), (by intro j hj; rcases Nat.lt_succ_iff_lt_or_eq.1 hj with h | h; exact hq j h; subst h; exact hcf)⟩; omega
  have hfl0 : (finW (dE false) l dn now i).length = dn.length := finW_len (by omega); have hfl1 : (finW (dE true) l dn now i).length = dn.length := finW_len (by omega); have hpos : posE l dn now = true := posE_t fun j hj => hq j (by omega)
  have hf0 : finW (dE false) l dn now i = finL (dE false) l dn now l.length := by rw [finW_end (by omega), show i = l.length by omega]
  have hf1 : finW (dE true) l dn now i = finL (dE true) l dn now l.length := by rw [finW_end (by omega), show i = l.length by omega]
  refine VC.exit (VC.seq (VC.text ?_)); refine VO.c (.move rfl) ?_; refine VO.callC rfl rfl .same (.cons (.row m1) .nil) rfl (VF.call (cGreatest_ok (by first | assumption | omega | simp))) ?_; refine VO.c (.move rfl) ?_; refine VO.callC rfl rfl .same (.cons (.row m0) .nil) rfl (VF.call (cGreatest_ok (by first | assumption | omega | simp))) ?_; refine VO.c (.build (maxL (finW (dE false) l dn now i), maxL (finW (dE true) l dn now i)) bt32) ?_; refine VO.perm swap2 ?_; refine VO.setV (cs' := [I (maxL (finW (dE false) l dn now i)), I (maxL (finW (dE true) l dn now i))]) vt32 .v ?_; refine VO.c (.assign rfl) (VO.go ?_); refine VC.ret ?_; exact VEnd.two rfl (.cell (x := (maxL (finW (dE false) l dn now i), maxL (finW (dE true) l dn now i))) rfl m0 vt32 .refl) evT (pvE (by rw [prgR, if_pos hpos, hf0, hf1]; rfl)) (pvI (by rw [prgE, if_pos hpos]))
end Go.Proofs
namespace Go.Proofs
open Go.Fs
set_option maxHeartbeats 1000000
def verW (l : List Pha) (dl : Int) (dn : List Int) (now : Int) : ByteArray := if endE l dn now true ≤ dl then vr0.1 else if dl < endE l dn now false then vr1.1 else vr2.1
end Go.Proofs
namespace Go.Proofs
open Go.Fs
set_option maxHeartbeats 1000000
abbrev y158 : Ty := (.sl (.pair .str .fn))
abbrev y161 : Ty := (.pair .str .fn)
theorem vt159 : ValT Tryz.prog 159 .fn := valT_of (by kernel_rfl)
theorem vt161 : ValT Tryz.prog 161 y161 := valT_of (by kernel_rfl)
theorem el158 : ElT Tryz.prog 158 161 y161 := elT_of (by kernel_rfl)
theorem cVA_ok {x : Int × Int} {dl : Int} : VF Tryz.prog OA 237 [.v y32 x, I dl] (B (decide (x.2 ≤ dl))) := by
  refine VF.enter Tryz.func237 rfl (fun _ _ => rfl) rfl ?_; show VC _ _ _ _ _ [(0, .v y32 x), (1, I dl)] [] _; refine VC.seq (VC.text ?_); refine VO.new (.box) ?_; refine VO.c (.assign rfl) ?_; refine VO.go (VC.seq (VC.text ?_)); refine VO.c (.fa (.r .o)) ?_; refine VO.r (.ld vt3) ?_; refine VO.c (.move rfl) (VO.c (.leq) (VO.c (.assign rfl) (VO.go ?_))); refine VC.ret ?_; exact VEnd.one rfl evT (pvE (by rfl))
theorem cVB_ok {x : Int × Int} {dl : Int} : VF Tryz.prog OA 238 [.v y32 x, I dl] (B (decide (dl < x.1))) := by
  refine VF.enter Tryz.func238 rfl (fun _ _ => rfl) rfl ?_; show VC _ _ _ _ _ [(0, .v y32 x), (1, I dl)] [] _; refine VC.seq (VC.text ?_); refine VO.new (.box) ?_; refine VO.c (.assign rfl) ?_; refine VO.go (VC.seq (VC.text ?_)); refine VO.c (.fa (.l .o)) ?_; refine VO.r (.ld vt3) ?_; refine VO.c (.move rfl) (VO.c (.gtr) (VO.c (.assign rfl) (VO.go ?_))); refine VC.ret ?_; exact VEnd.one rfl evT (pvE (by rfl))
theorem cVC_ok {x : Int × Int} {dl : Int} : VF Tryz.prog OA 239 [.v y32 x, I dl] (B true) := by
  refine VF.enter Tryz.func239 rfl (fun _ _ => rfl) rfl ?_; show VC _ _ _ _ _ [(0, .v y32 x), (1, I dl)] [] _; refine VC.seq (VC.text ?_); refine VO.new (.box) ?_; refine VO.c (.assign rfl) ?_; refine VO.go (VC.seq (VC.text ?_)); refine VO.c (.assign rfl) (VO.go ?_); refine VC.ret ?_; exact VEnd.one rfl evT (pvE (by rfl))
theorem cVer1_ok {n : Int} : VF Tryz.prog OA 111 [I n] (I (rangeE n (-1) 100000)) := by
  refine VF.enter Tryz.func111 rfl (fun _ _ => rfl) rfl ?_; show VC _ _ _ _ _ [(0, I n)] [] _; refine VC.seq (VC.text ?_); refine VO.c (.assign rfl) ?_; refine VO.go (VC.seq (VC.text ?_)); refine VO.c (.move rfl) ?_; refine VO.call rfl rfl (VF.call (cWithin_ok )) ?_; refine VO.c (.assign rfl) (VO.go ?_); refine VC.ret ?_; exact VEnd.one rfl evT (pvI (by rfl))
theorem cVer2_ok {f : Nat} {G : Bool} {v : ByteArray × (Option Nat)} {x : Int × Int} {dl : Int} (hd : v.2 = some f) (hc : VCall Tryz.prog OA (.clo f [] []) [.v y32 x, I dl] (B G)) : VF Tryz.prog OA 114 [.v y161 v, .p y32 x, .p (.int .i64) dl] (B G) := by
  refine VF.enter Tryz.func114 rfl (fun _ _ => rfl) rfl ?_; show VC _ _ _ _ _ [(0, .v y161 v), (1, .p y32 x), (2, .p (.int .i64) dl)] [] _; refine VC.seq (VC.text ?_); refine VO.new (.box) ?_; refine VO.c (.assign rfl) ?_; refine VO.go (VC.seq (VC.text ?_)); refine VO.c (.fa (.r .o)) ?_; refine VO.r (.ld vt159) ?_; refine VO.r (.ld vt32) ?_; refine VO.r (.ld vt3) ?_; refine VO.callF rfl (hd) rfl (hc) ?_; refine VO.c (.assign rfl) (VO.go ?_); refine VC.ret ?_; exact VEnd.one rfl evT (pvE (by rfl))
theorem zIndexV_ok {F : ByteArray × Option Nat → Bool} {l : List (ByteArray × (Option Nat))} {f : PV} (hl : l.length < 1000000) (hf : ∀ x ∈ l, VCall Tryz.prog OA f [.v y161 x] (B (F x))) : VF Tryz.prog OA 113 [.v y158 l, f] (I (idxG F l 0)) := by
  refine VF.enter Tryz.func113 rfl (fun _ _ => rfl) rfl ?_; show VC _ _ _ _ _ [(0, .v y158 l), (1, f)] [] _; refine VC.seq (VC.text ?_); refine VO.c (.assign rfl) ?_; refine VO.go (VC.seq (VC.seq (VC.text ?_))); refine VO.c (.move rfl) ?_; refine VO.r (.len el158) ?_; refine VO.c (.move rfl) ?_; refine VO.go (VC.block ?_); refine VC.keep [(0, .v y158 l), (1, f), (7, I ((l.length : Nat) : Int)), (8, I ((0 : Nat) : Int))] ⟨rfl, rfl, rfl, rfl, trivial⟩ ?_; refine VC.loop (I := fun kk ff ss => ∃ (j : Nat), kk = l.length - j ∧ ff = [(0, .v y158 l), (1, f), (7, I ((l.length : Nat) : Int)), (8, I ((j : Nat) : Int))] ∧ ss = [] ∧ (j ≤ l.length) ∧ (idxG F l 0 = idxG F (l.drop j) (j : Nat))) ?_ _ _ _ ⟨0, rfl, rfl, rfl, Nat.zero_le _, (by rfl)⟩; rintro kk ff ss ⟨j, hk0, rfl, rfl, hj, hi⟩; refine VC.seq (VC.text ?_); refine VO.c (.lss) ?_; refine VO.go (VC.seq ?_); refine VC.condD rfl (fun c2 => ?_) (fun c2 => ?_)
  · refine VC.skip (VC.seq (VC.block (VC.seq (VC.text ?_)))); refine VO.c (.move rfl) (VO.c (.assign rfl) ?_); refine VO.go (VC.seq (VC.text ?_)); refine VO.c (.move rfl) (VO.c (.move rfl) (VO.c (.move rfl) (VO.c (.ix (j := j) rfl rfl el158 (by omega)) ?_))); refine VO.r (.ld vt161) ?_; refine VO.call rfl rfl ((hf _ (List.getElem_mem _)) ) ?_; refine VO.go ?_; refine VC.condB rfl (fun c4 => ?_) (fun c4 => ?_)
    · refine VC.seq (VC.text ?_); refine VO.c (.move rfl) (VO.c (.assign rfl) (VO.go ?_)); refine VC.ret ?_; exact VEnd.one rfl evT (pvI (by rw [hi, idxG_drop (by omega), if_pos c4]))
    refine VC.skip (VC.text ?_); refine VO.c (.add rfl rfl (by omega)) (VO.c (.move rfl) ?_); refine VO.nil ?_; refine ⟨_, [(0, .v y158 l), (1, f), (7, I ((l.length : Nat) : Int)), (8, I (((j + 1) : Nat) : Int))], ?_, ⟨rfl, rfl, rfl, rfl, trivial⟩, (j + 1), rfl, rfl, rfl, (by omega), (by rw [hi, idxG_drop (by omega), if_neg (by rw [c4]; decide)])⟩; omega
  refine VC.exit (VC.seq (VC.text ?_)); refine VO.c (.assign rfl) (VO.go ?_); refine VC.ret ?_; exact VEnd.one rfl evT (pvI (by rw [hi, idxG_end (by omega)]))
def vFn (x : Int × Int) (dl : Int) (v : ByteArray × Option Nat) : Bool := if v.2 = some 237 then decide (x.2 ≤ dl) else if v.2 = some 238 then decide (dl < x.1) else true
def vIx (x : Int × Int) (dl : Int) : Nat := if x.2 ≤ dl then 0 else if dl < x.1 then 1 else 2
theorem vFn_0 {x : Int × Int} {dl : Int} : vFn x dl vr0 = decide (x.2 ≤ dl) := if_pos rfl
theorem vFn_1 {x : Int × Int} {dl : Int} : vFn x dl vr1 = decide (dl < x.1) := (if_neg (by decide)).trans (if_pos rfl)
theorem vFn_2 {x : Int × Int} {dl : Int} : vFn x dl vr2 = true := (if_neg (by decide)).trans (if_neg (by decide))
theorem vIx_eq {x : Int × Int} {dl : Int} : idxG (vFn x dl) [vr0, vr1, vr2] 0 = ((vIx x dl : Nat) : Int) := by
  show (if vFn x dl vr0 = true then (0 : Int) else if vFn x dl vr1 = true then (0 + 1 : Int) else if vFn x dl vr2 = true then (0 + 1 + 1 : Int) else _) = _; rw [vFn_0, vFn_1, vFn_2]; unfold vIx; by_cases h1 : x.2 ≤ dl
  · rw [if_pos (decide_eq_true h1), if_pos h1] <;> rfl
  rw [if_neg (by simpa using h1), if_neg h1]; by_cases h2 : dl < x.1
  · rw [if_pos (decide_eq_true h2), if_pos h2] <;> rfl
  rw [if_neg (by simpa using h2), if_neg h2, if_pos rfl] <;> rfl
theorem vIx_3 {x : Int × Int} {dl : Int} : vIx x dl < 3 := by
  unfold vIx; split
  · omega
  split <;> omega
theorem vFn_ok {x : Int × Int} {dl : Int} : ∀ v ∈ [vr0, vr1, vr2], VCall Tryz.prog OA (.clo 114 [] [.p y32 x, .p (.int .i64) dl]) [.v y161 v] (B (vFn x dl v)) := fun v hv => by
  rcases List.mem_cons.1 hv with rfl | hv
  · rw [vFn_0]; exact VF.clo (cVer2_ok (f := 237) rfl (VF.call cVA_ok))
  rcases List.mem_cons.1 hv with rfl | hv
  · rw [vFn_1]; exact VF.clo (cVer2_ok (f := 238) rfl (VF.call cVB_ok))
  obtain rfl := List.mem_singleton.1 hv; rw [vFn_2]; exact VF.clo (cVer2_ok (f := 239) rfl (VF.call cVC_ok))
def verB (l : List Pha) (dl : Int) (dn : List Int) (now : Int) : Int := firstE [planE l, rangeE dl 0 100000, whenE (decide (((dn.length : Nat) : Int) ≠ ((l.length : Nat) : Int))) 2, firstE (dn.map fun n => rangeE n (-1) 100000), rangeE now 0 100000]
def verE (l : List Pha) (dl : Int) (dn : List Int) (now : Int) : Int := if verB l dl dn now = 0 then prgE l dn now else verB l dl dn now
def verR (l : List Pha) (dl : Int) (dn : List Int) (now : Int) : ByteArray := if verE l dl dn now = 0 then verW l dl dn now else ByteArray.empty
structure VerOk (l : List Pha) (dl : Int) (dn : List Int) (now : Int) : Prop where
  plan : PlanOk l
  done : DoneOk l dn now
  dl : 0 ≤ dl ∧ dl ≤ 100000
theorem ver_ok {l : List Pha} {dl : Int} {dn : List Int} {now : Int} (h : verB l dl dn now = 0) : VerOk l dl dn now := by
  have h := firstE_zero.1 h; have h1 := h _ List.mem_cons_self; have h2 := rangeE_zero.1 (h (rangeE dl 0 100000) (by simp)); have h3 := of_decide_eq_false ((whenE_zero (by decide)).1 (h (whenE (decide (((dn.length : Nat) : Int) ≠ ((l.length : Nat) : Int))) 2) (by simp))); have h4 := firstE_zero.1 (h (firstE (dn.map fun n => rangeE n (-1) 100000)) (by simp)); have h5 := rangeE_zero.1 (h (rangeE now 0 100000) (by simp)); refine ⟨plan_ok h1, ⟨by omega, fun i hi => ?_, h5⟩, h2⟩; have := rangeE_zero.1 (h4 _ (List.mem_map_of_mem (f := fun n => rangeE n (-1) 100000) (List.getElem_mem hi))); rw [getDg hi]; exact this
theorem ver_t {l : List Pha} {dl : Int} {dn : List Int} {now : Int} (h : verB l dl dn now = 0) : verE l dl dn now = prgE l dn now := if_pos h
theorem ver_f {l : List Pha} {dl : Int} {dn : List Int} {now : Int} (h : ¬ verB l dl dn now = 0) : verE l dl dn now = verB l dl dn now := if_neg h
theorem ver_w {l : List Pha} {dn : List Int} {now dl : Int} : (arr3 vr0 vr1 vr2 (vIx (endE l dn now false, endE l dn now true) dl)).1 = verW l dl dn now := by
  unfold vIx verW; by_cases h1 : endE l dn now true ≤ dl
  · rw [if_pos h1, if_pos h1] <;> rfl
  rw [if_neg h1, if_neg h1]; by_cases h2 : dl < endE l dn now false
  · rw [if_pos h2, if_pos h2] <;> rfl
  rw [if_neg h2, if_neg h2] <;> rfl
theorem cVerdict_ok {l : List (ByteArray × Int × Int × (List Int))} {dl : Int} {dn : List Int} {now : Int} (hl : l.length < 100000) (hb : ∀ x ∈ l, x.2.2.2.length < 100000) (hd : dn.length < 100000) : VF Tryz.prog OA 35 [.v y29 l, I dl, .v y25 dn, I now] (.tup [St (verR l dl dn now), I (verE l dl dn now)]) := by
  refine VF.enter Tryz.func35 rfl (fun _ _ => rfl) rfl ?_; show VC _ _ _ _ _ [(0, .v y29 l), (1, I dl), (2, .v y25 dn), (3, I now)] [] _; refine VC.seq (VC.text ?_); refine VO.new (.box) ?_; refine VO.c (.assign rfl) (VO.c (.assign rfl) ?_); refine VO.go (VC.seq (VC.text ?_)); refine VO.c (.move rfl) ?_; refine VO.call rfl rfl (VF.call (cMapIE_ok (F := fun n => rangeE n (-1) 100000) (by omega) (fun n _ => VF.call cVer1_ok))) ?_; refine VO.c (.assign rfl) ?_; refine VO.go (VC.seq (VC.seq (VC.drawn ?_))); refine VD.c (.move rfl) ?_; refine VD.call rfl rfl (VF.call (cPlan_ok hl hb)) ?_; refine VD.r [] (.ld vt3) (.inl rfl) ?_; refine VD.call rfl rfl (VF.call (cTime_ok )) ?_; refine VD.c (.move rfl) ?_; refine VD.r [] (.len el25) (.inl rfl) ?_; refine VD.nw [] (VD.c (.move rfl) ?_); refine VD.r [] (.len el29) (.inl rfl) ?_; refine VD.c (.neq) ?_; refine VD.call rfl rfl (VF.call (cWhen_ok )) ?_; refine VD.c (.move rfl) ?_; refine VD.call rfl rfl (VF.call (cFirst_ok (by simp; omega))) ?_; refine VD.c (.move rfl) (VD.nw [] ?_); refine VD.call rfl rfl (VF.call (cTime_ok )) ?_; refine VD.new (.lit [planE l, rangeE dl 0 100000, whenE (decide (((dn.length : Nat) : Int) ≠ ((l.length : Nat) : Int))) (2 : Int), firstE (dn.map (fun n => rangeE n (-1) 100000)), rangeE now 0 100000] el154) ?_; refine VD.callO rfl rfl (VF.call (cFirst_ok (by simp))) ?_; refine VD.c (.assign rfl) ?_; refine VD.go (VC.seq (VC.text ?_)); refine VO.c (.move rfl) (VO.c (.neq) (VO.go ?_)); refine VC.condD rfl (fun c3 => ?_) (fun c3 => ?_)
  · have c3 : ¬ verB l dl dn now = 0 := c3; refine VC.seq (VC.text ?_); refine VO.c (.move rfl) (VO.c (.assign rfl) (VO.c (.assign rfl) (VO.go ?_))); refine VC.ret ?_; exact VEnd.two rfl evT evT (pvE (by rw [verR, if_neg (by rw [ver_f c3]; exact c3)]; rfl)) (pvI (by exact (ver_f c3).symm))
  have c3 : verB l dl dn now = 0 := Classical.not_not.1 c3; have hv := ver_ok c3; have hve := ver_t c3; refine VC.skip (VC.seq (VC.text ?_)); refine VO.c (.move rfl) (VO.c (.move rfl) (VO.c (.move rfl) ?_)); refine VO.call rfl rfl (VF.call (cProg_ok hv.plan hv.done)) ?_; refine VO.c (.move rfl) (VO.c (.extract) (VO.c (.extract) ?_)); refine VO.cell (.alloc zt32) ?_; intro ww1; refine VO.setV (cs' := [I ((prgR l dn now).1), I ((prgR l dn now).2)]) vt32 .v ?_; refine VO.shut [(12, .p y32 (prgR l dn now))] (.cons rfl (.var m0 .refl) .nil) ?_; refine VO.c (.assign rfl) ?_; refine VO.go (VC.seq (VC.seq ?_)); refine VC.keep [(5, .p (.int .i64) dl), (12, .p y32 (prgR l dn now)), (13, I (prgE l dn now))] ⟨rfl, rfl, rfl, trivial⟩ ?_; refine VC.text ?_; refine VO.c (.move rfl) (VO.c (.neq) (VO.go ?_)); refine VC.condD rfl (fun c6 => ?_) (fun c6 => ?_)
  · refine VC.seq (VC.text ?_); refine VO.c (.move rfl) (VO.c (.assign rfl) (VO.c (.assign rfl) (VO.go ?_))); refine VC.ret ?_; exact VEnd.two rfl evT evT (pvE (by rw [verR, if_neg (by rw [hve]; exact c6)]; rfl)) (pvI (by exact hve.symm))
  have c6 : prgE l dn now = 0 := Classical.not_not.1 c6
  have hpo : posE l dn now = true := by
    unfold prgE at c6; by_cases h : posE l dn now = true
    · exact h
    rw [if_neg h] at c6; cases c6
  have hpr : prgR l dn now = (endE l dn now false, endE l dn now true) := if_pos hpo; refine VC.skip (VC.seq (VC.text ?_)); refine VO.slG (τ := y161) (a := vr0) (b := vr1) (c := vr2) (.tail _ (.head _)) 161 ?_; refine VO.c (.func) ?_; refine VO.call rfl rfl (VF.call (zIndexV_ok (F := vFn (prgR l dn now) dl) (by simp) (fun v hv => vFn_ok v hv))) ?_; refine VO.c (.assign rfl) ?_; rw [vIx_eq]; refine VO.go (VC.seq (VC.text ?_)); refine VO.c (.move rfl) ?_; refine VO.ixG (τ := y161) (a := vr0) (b := vr1) (c := vr2) (.tail _ (.head _)) (vIx (prgR l dn now) dl) (by exact vIx_3) ?_; refine VO.c (.fa (.l .o)) ?_; refine VO.r (.ld vt9) ?_; refine VO.c (.assign rfl) (VO.c (.assign rfl) (VO.go ?_)); refine VC.ret ?_; exact VEnd.two rfl evT evT (pvE (by rw [verR, if_pos (hve.trans c6), hpr, ver_w])) (pvI (by exact (hve.trans c6).symm))
end Go.Proofs
namespace Go.Proofs
open Go.Fs
set_option maxHeartbeats 1000000
def actD (x : Pha) (n : Int) : Int := x.2.1 + n.tmod (x.2.2.1 - x.2.1 + 1)
def actP (l : List Pha) (ds : List Int) : List Pha := (List.range l.length).map fun i => ((phA l i).1, actD (phA l i) (ds.getD i 0), actD (phA l i) (ds.getD i 0), (phA l i).2.2.2)
theorem act_len {l : List Pha} {ds : List Int} : (actP l ds).length = l.length := by simp [actP]
theorem act_at {l : List Pha} {ds : List Int} {i : Nat} (h : i < l.length) : phA (actP l ds) i = ((phA l i).1, actD (phA l i) (ds.getD i 0), actD (phA l i) (ds.getD i 0), (phA l i).2.2.2) := by
  rw [phA_eq (by rw [act_len]; exact h)]; simp [actP]
theorem act_b {x : Pha} {n : Int} (h : x.2.1 ≤ x.2.2.1) (hn : 0 ≤ n) : x.2.1 ≤ actD x n ∧ actD x n ≤ x.2.2.1 := by
  unfold actD; have h1 := Int.tmod_nonneg (x.2.2.1 - x.2.1 + 1) hn; have h2 := Int.tmod_lt_of_pos n (show 0 < x.2.2.1 - x.2.1 + 1 by omega); omega
structure DsOk (l : List Pha) (ds : List Int) : Prop where
  len : l.length ≤ ds.length
  nn : ∀ i, 0 ≤ ds.getD i 0
theorem act_ok {l : List Pha} {ds : List Int} (hp : PlanOk l) (hs : DsOk l ds) : PlanOk (actP l ds) := by
  refine ⟨by rw [act_len]; exact hp.len, fun i hi => ?_, fun i hi => ?_⟩
  · rw [act_len] at hi; rw [act_at hi]; have h1 := hp.dur i hi; have h2 := act_b h1.2.1 (hs.nn i); show 0 ≤ actD _ _ ∧ actD _ _ ≤ actD _ _ ∧ actD _ _ ≤ 1000; omega
  rw [act_len] at hi; rw [act_at hi]; exact hp.bef i hi
structure LeP (d d' : Pha → Int) (l l' : List Pha) : Prop where
  len : l'.length = l.length
  bef : ∀ i, i < l.length → (phA l' i).2.2.2 = (phA l i).2.2.2
  dur : ∀ i, i < l.length → d (phA l i) ≤ d' (phA l' i)
theorem act_lo {l : List Pha} {ds : List Int} (hp : PlanOk l) (hs : DsOk l ds) : LeP (dE false) (dE true) l (actP l ds) := ⟨act_len, fun i hi => by rw [act_at hi], fun i hi => by
  rw [act_at hi]; exact (act_b (hp.dur i hi).2.1 (hs.nn i)).1⟩
theorem act_hi {l : List Pha} {ds : List Int} (hp : PlanOk l) (hs : DsOk l ds) : LeP (dE true) (dE true) (actP l ds) l := ⟨act_len.symm, fun i hi => by rw [act_len] at hi; rw [act_at hi], fun i hi => by
  rw [act_len] at hi
  rw [act_at hi]; exact (act_b (hp.dur i hi).2.1 (hs.nn i)).2⟩
theorem end_mono {d d' : Pha → Int} {l l' : List Pha} (h : LeP d d' l l') : ∀ i, i ≤ l.length → ∀ p, (endL d l i).getD p 0 ≤ (endL d' l' i).getD p 0
  | 0, _, p => by simp [endL]
  | i + 1, hi, p => by
    have ih := end_mono h i (by omega); by_cases hp : p < i
    · have := ih p; rw [endL_get hp, endL_get hp] at this; rw [endL_get (by omega), endL_get (by omega)]; exact this
    by_cases e : p = i
    · subst e; rw [endL_get (by omega), endL_get (by omega)]; unfold endF begF; rw [h.bef p (by omega)]; have h1 := begE_mono (b := (phA l p).2.2.2) ih (phA l p).2.2.2.length; have h2 := h.dur p (by omega); omega
    rw [endL_big (by omega), endL_big (by omega)]; omega
theorem beg_mono {d d' : Pha → Int} {l l' : List Pha} (h : LeP d d' l l') {i : Nat} (hi : i < l.length) : begF d l i ≤ begF d' l' i := by
  unfold begF; rw [h.bef i hi]; exact begE_mono (end_mono h i (by omega)) _
theorem maxL_mono {a b : List Int} (hl : a.length = b.length) (h : ∀ p, p < a.length → a.getD p 0 ≤ b.getD p 0) : maxL a ≤ maxL b := by
  refine maxL_le.2 ⟨maxL_nn, fun x hx => ?_⟩; obtain ⟨p, hp, rfl⟩ := List.mem_iff_getElem.1 hx; have h1 := h p hp; rw [getDg hp, getDg (by omega)] at h1; exact Int.le_trans h1 (maxL_ge (List.getElem_mem (by omega)))
theorem tot_mono {d d' : Pha → Int} {l l' : List Pha} (h : LeP d d' l l') : maxL (endL d l l.length) ≤ maxL (endL d' l' l.length) :=
  maxL_mono (by rw [endL_len, endL_len]) fun p _ => end_mono h _ (Nat.le_refl _) p
theorem beh_same {d d' : Pha → Int} {l l' : List Pha} (h : LeP d d' l l') {p : Nat} : behF l' l'.length p = behF l l.length p := by
  unfold behF; rw [h.len]; congr 1
  exact List.filter_congr fun q hq => by rw [h.bef q (List.mem_range.1 hq)]
theorem aft_mono {d d' : Pha → Int} {l l' : List Pha} (hp : PlanOk l) (hp' : PlanOk l') (h : LeP d d' l l') : ∀ (f p : Nat), l.length - p ≤ f → p < l.length → aftF d l p ≤ aftF d' l' p
  | 0, p, h1, h2 => by omega
  | f + 1, p, h1, h2 => by
    rw [aftF_eq hp, aftF_eq hp', beh_same h]; refine maxL_le.2 ⟨maxL_nn, fun y hy => ?_⟩; obtain ⟨x, hx, rfl⟩ := List.mem_map.1 hy; have hlt := beh_lt hp hx; have ih := aft_mono hp hp' h f x.toNat (by omega) (by omega); have h3 := h.dur x.toNat (by omega); refine Int.le_trans ?_ (maxL_ge (List.mem_map_of_mem (f := fun x => chnF d' l' x.toNat) hx)); show chnF d l x.toNat ≤ chnF d' l' x.toNat; unfold chnF; omega
def dnE (es : List Int) (now : Int) : List Int := es.map fun e => if now < e then -1 else e
theorem dn_len {es : List Int} {now : Int} : (dnE es now).length = es.length := by simp [dnE]
theorem dn_at {es : List Int} {now : Int} {i : Nat} (h : i < es.length) : (dnE es now).getD i 0 = if now < es.getD i 0 then -1 else es.getD i 0 := by
  rw [getDg (by rw [dn_len]; exact h), getDg h]; simp [dnE]
structure Run (l : List Pha) (ds : List Int) (now : Int) : Prop where
  hp : PlanOk l
  hs : DsOk l ds
  now0 : 0 ≤ now ∧ now ≤ 100000
abbrev actE (l : List Pha) (ds : List Int) : List Int := endL (dE true) (actP l ds) l.length
def actT (l : List Pha) (ds : List Int) : Int := maxL (actE l ds)
variable {l : List Pha} {ds : List Int} {now : Int}
theorem Run.end_b (r : Run l ds now) (p : Nat) : 0 ≤ (actE l ds).getD p 0 ∧ (actE l ds).getD p 0 ≤ 16000 := by
  have h1 := Go.Proofs.end_b (dur_ok (act_ok r.hp r.hs) true) l.length (by rw [act_len]; exact Nat.le_refl _) p; have := r.hp.len; exact ⟨h1.1, Int.le_trans h1.2 (by omega)⟩
theorem Run.at_ (r : Run l ds now) {i : Nat} (hi : i < l.length) : (actE l ds).getD i 0 = begE (actE l ds) (phA l i).2.2.2 (phA l i).2.2.2.length + actD (phA l i) (ds.getD i 0) := by
  rw [endL_get hi]; unfold endF begF; rw [act_at hi]; show begE _ _ _ + actD _ _ = _; congr 1; refine begE_congr _ fun j hj => ?_; have hj : j < (phA l i).2.2.2.length := hj; have := r.hp.bef i hi j hj; show (endL _ _ i).getD ((phA l i).2.2.2.getD j 0).toNat 0 = (endL _ _ l.length).getD ((phA l i).2.2.2.getD j 0).toNat 0; rw [endL_get (by omega), endL_get (by omega)]
theorem Run.done (r : Run l ds now) : DoneOk l (dnE (actE l ds) now) now := by
  refine ⟨by rw [dn_len, endL_len], fun i hi => ?_, r.now0⟩; rw [dn_len] at hi; rw [dn_at hi]; have := r.end_b i; split <;> omega
theorem Run.bef (r : Run l ds now) {i j : Nat} (hi : i < l.length) (hj : j < (phA l i).2.2.2.length) : ((phA l i).2.2.2.getD j 0).toNat < l.length ∧ (actE l ds).getD ((phA l i).2.2.2.getD j 0).toNat 0 ≤ begE (actE l ds) (phA l i).2.2.2 (phA l i).2.2.2.length := by
  have := r.hp.bef i hi j hj; exact ⟨by omega, begE_ge hj⟩
theorem Run.fin_lo (r : Run l ds now) : ∀ i, i ≤ l.length → ∀ p, p < i → (finL (dE false) l (dnE (actE l ds) now) now i).getD p 0 ≤ (actE l ds).getD p 0 ∧ (actE l ds).getD p 0 ≤ (finL (dE true) l (dnE (actE l ds) now) now i).getD p 0
  | 0, _, p, h => by omega
  | i + 1, hi, p, h => by
    have ih := Run.fin_lo r i (by omega); by_cases hp : p < i
    · have := ih p hp; rw [finL_get hp, finL_get hp] at this; rw [finL_get (by omega), finL_get (by omega)]; exact this
    obtain rfl : p = i := by omega
    rw [finL_get (by omega), finL_get (by omega)]; have h0 := r.end_b p; unfold finF; rw [dn_at (by rw [endL_len]; omega)]; by_cases hn : now < (actE l ds).getD p 0
    · rw [if_pos hn, if_neg (by decide), if_neg (by decide)]; have h1 := r.at_ (show p < l.length by omega); have h2 := act_b (r.hp.dur p (by omega)).2.1 (r.hs.nn p)
      have h3 : begE (finL (dE false) l (dnE (actE l ds) now) now p) (phA l p).2.2.2 (phA l p).2.2.2.length ≤ begE (actE l ds) (phA l p).2.2.2 (phA l p).2.2.2.length ∧ begE (actE l ds) (phA l p).2.2.2 (phA l p).2.2.2.length ≤ begE (finL (dE true) l (dnE (actE l ds) now) now p) (phA l p).2.2.2 (phA l p).2.2.2.length := by
        have key : ∀ k, k ≤ (phA l p).2.2.2.length → begE (finL (dE false) l (dnE (actE l ds) now) now p) (phA l p).2.2.2 k ≤ begE (actE l ds) (phA l p).2.2.2 k ∧ begE (actE l ds) (phA l p).2.2.2 k ≤ begE (finL (dE true) l (dnE (actE l ds) now) now p) (phA l p).2.2.2 k := by
          intro k
          induction k with
          | zero => intro _; exact ⟨Int.le_refl _, Int.le_refl _⟩
          | succ k ih2 =>
            intro hk; have h4 := ih2 (by omega); have h5 := r.hp.bef p (by omega) k (by omega); have h6 := ih ((phA l p).2.2.2.getD k 0).toNat (by omega); show max _ _ ≤ max _ _ ∧ max _ _ ≤ max _ _; omega
        exact key _ (Nat.le_refl _)
      show max (_ + (phA l p).2.1) now ≤ _ ∧ _ ≤ max (_ + (phA l p).2.2.1) now; omega
    rw [if_neg hn, if_pos h0.1, if_pos h0.1]; exact ⟨Int.le_refl _, Int.le_refl _⟩
theorem Run.total (r : Run l ds now) : endE l (dnE (actE l ds) now) now false ≤ actT l ds ∧ actT l ds ≤ endE l (dnE (actE l ds) now) now true := by
  unfold endE actT; refine ⟨maxL_mono (by rw [finL_len, endL_len]) fun p hp => ?_, maxL_mono (by rw [finL_len, endL_len]) fun p hp => ?_⟩
  · rw [finL_len] at hp; exact (r.fin_lo l.length (Nat.le_refl _) p hp).1
  rw [endL_len] at hp; exact (r.fin_lo l.length (Nat.le_refl _) p hp).2
theorem Run.rdy (r : Run l ds now) {i : Nat} (hi : i < l.length) (hb : begE (actE l ds) (phA l i).2.2.2 (phA l i).2.2.2.length ≤ now) : rdyE (dnE (actE l ds) now) (phA l i).2.2.2 (phA l i).2.2.2.length = true := rdyE_iff.2 fun j hj => by
  have h1 := r.bef hi hj; have h2 := r.end_b ((phA l i).2.2.2.getD j 0).toNat; rw [dn_at (by rw [endL_len]; exact h1.1), if_neg (by omega)]; exact h2.1
theorem Run.low (r : Run l ds now) {i : Nat} (hi : i < l.length) (hr : rdyE (dnE (actE l ds) now) (phA l i).2.2.2 (phA l i).2.2.2.length = true) : begE (finL (dE false) l (dnE (actE l ds) now) now i) (phA l i).2.2.2 (phA l i).2.2.2.length = begE (actE l ds) (phA l i).2.2.2 (phA l i).2.2.2.length := by
  rw [rdy_beg r.hp hi (Nat.le_refl _) hr]; refine begE_congr _ fun j hj => ?_; have h1 := r.bef hi hj; have h2 := rdyE_iff.1 hr j hj; rw [dn_at (by rw [endL_len]; exact h1.1)] at h2 ⊢; by_cases h3 : now < (actE l ds).getD ((phA l i).2.2.2.getD j 0).toNat 0
  · rw [if_pos h3] at h2; omega
  rw [if_neg h3]
theorem Run.pos (r : Run l ds now) : posE l (dnE (actE l ds) now) now = true := posE_t fun i hi => by
  have h0 := r.end_b i; have h1 := r.at_ hi; have h2 := act_b (r.hp.dur i hi).2.1 (r.hs.nn i); have hd := dn_at (es := actE l ds) (now := now) (show i < (actE l ds).length by rw [endL_len]; exact hi); have h3 := r.hp.dur i hi; by_cases hn : now < (actE l ds).getD i 0
  · rw [if_pos hn] at hd; rw [cfl_t2 (by rw [hd]; decide)]; by_cases hr : rdyE (dnE (actE l ds) now) (phA l i).2.2.2 (phA l i).2.2.2.length = true
    · rw [hr, r.low hi hr, decide_eq_false (by omega)] <;> rfl
    rw [Bool.eq_false_iff.2 hr] <;> rfl
  rw [if_neg hn] at hd; rw [cfl_t1 (by rw [hd]; exact h0.1)]; have hr := r.rdy hi (by omega); rw [hr, r.low hi hr, hd, decide_eq_false (by omega), decide_eq_false (by omega), decide_eq_false (by omega)] <;> rfl
theorem Run.fin (r : Run l ds now) (h : now = actT l ds) : endE l (dnE (actE l ds) now) now false = actT l ds ∧ endE l (dnE (actE l ds) now) now true = actT l ds := by
  have key : ∀ d, finL d l (dnE (actE l ds) now) now l.length = actE l ds := fun d => by
    refine List.ext_getElem (by rw [finL_len, endL_len]) fun p h1 h2 => ?_; rw [← getDg (d := 0) h1, ← getDg (d := 0) h2]; rw [finL_len] at h1
    have h3 : (actE l ds).getD p 0 ≤ actT l ds := by rw [getDg h2]; exact maxL_ge (List.getElem_mem h2)
    have h4 := dn_at (now := now) h2; rw [if_neg (by omega)] at h4; rw [finL_done h1 (by rw [h4]; exact (r.end_b p).1), h4]
  unfold endE actT; rw [key, key]; exact ⟨rfl, rfl⟩
end Go.Proofs
