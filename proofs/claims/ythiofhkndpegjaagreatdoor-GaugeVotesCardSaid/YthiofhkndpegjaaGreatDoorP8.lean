/- Parts of the proof: an evaluator of the model, what it is sound for, and contracts of functions. No condition. -/
import Derived.Test.YthiofhkndpegjaaGreatDoorP7
import Derived.Test.YthiofhkndpegjaaGreatDoorP6
import Derived.Test.YthiofhkndpegjaaGreatDoorP3
import Derived.Test.YthiofhkndpegjaaGreatDoorP2
set_option linter.all false
namespace Go.Proofs
open Go.Fs Ieee
set_option linter.unusedVariables false
set_option maxHeartbeats 400000
abbrev y88 : Ty := (.pair (.pair .str (.pair (.int .i64) (.pair (.sl (.flt .f32)) (.sl (.pair (.int .i64) (.int .i64)))))) (.pair (.pair .str (.pair (.int .i64) (.pair (.sl (.flt .f32)) (.sl (.pair (.int .i64) (.int .i64)))))) (.pair .str (.pair (.int .i64) (.pair (.sl (.flt .f32)) (.sl (.pair (.int .i64) (.int .i64))))))))
abbrev y167 : Ty := (.pair (.sl .bool) (.pair (.sl .bool) (.sl .bool)))
theorem vt88 : ValT Tryz.prog 88 y88 := valT_of (by kernel_rfl)
theorem vt167 : ValT Tryz.prog 167 y167 := valT_of (by kernel_rfl)
theorem zt167 : ZerT Tryz.prog 167 y167 := zerT_of (z := .agg #[.slice none 0 0, .slice none 0 0, .slice none 0 0]) (by kernel_rfl) rfl rfl
theorem bt85 : BldT Tryz.prog 85 y85 [(0, 1), (1, 1), (2, 1)] := bldT_of zt85 rfl (by kernel_rfl)
theorem bt167 : BldT Tryz.prog 167 y167 [(0, 1), (1, 1), (2, 1)] := bldT_of zt167 rfl (by kernel_rfl)
theorem mem3 {Q : Rec1 → Prop} {l : Rec3} (h : ∀ k, k < 3 → Q (rk l k)) {x : Rec1} (hx : x ∈ [l.1, l.2.1, l.2.2]) : Q x := by
  simp only [List.mem_cons, List.not_mem_nil, or_false] at hx
  rcases hx with rfl | rfl | rfl
  · exact h 0 (by decide)
  · exact h 1 (by decide)
  exact h 2 (by decide)
theorem all3 {Q : Rec1 → Prop} {l : Rec3} (h0 : Q l.1) (h1 : Q l.2.1) (h2 : Q l.2.2) : ∀ k, k < 3 → Q (rk l k)
  | 0, _ => h0
  | 1, _ => h1
  | 2, _ => h2
  | k + 3, h => absurd h (by omega)
def votC1 (l : Rec3) (tol : Int) : Int := firstE [firstE ([l.1, l.2.1, l.2.2].map recE), rangeE tol 0 2048]
theorem votC1_ok {l : Rec3} {tol : Int} (h : votC1 l tol = 0) : (∀ k, k < 3 → recE (rk l k) = 0) ∧ 0 ≤ tol ∧ tol ≤ 2048 := by
  have h1 := firstE_zero.1 h
  have h2 := firstE_zero.1 (h1 _ (by simp : firstE ([l.1, l.2.1, l.2.2].map recE) ∈ _))
  have h3 := h1 (rangeE tol 0 2048) (by simp)
  refine ⟨all3 (Q := fun r => recE r = 0) (h2 _ (by simp)) (h2 _ (by simp)) (h2 _ (by simp)), ?_⟩
  unfold rangeE at h3
  split at h3
  · cases h3
  omega
def sameSh (l : Rec3) : Prop := (l.2.1.2.1 = l.1.2.1 ∧ l.2.2.2.1 = l.1.2.1) ∧ l.2.1.2.2.1.length = l.1.2.2.1.length ∧ l.2.2.2.2.1.length = l.1.2.2.1.length
instance : DecidablePred sameSh := fun l => inferInstanceAs (Decidable ((l.2.1.2.1 = l.1.2.1 ∧ l.2.2.2.1 = l.1.2.1) ∧ l.2.1.2.2.1.length = l.1.2.2.1.length ∧ l.2.2.2.2.1.length = l.1.2.2.1.length))
def voteC (l : Rec3) (tol : Int) : Int := if votC1 l tol ≠ 0 then votC1 l tol else if sameSh l then 0 else 2
def voteR (l : Rec3) (tol : Int) : Rec1 := if voteC l tol ≠ 0 then zRec else (l.1.1, l.1.2.1, keptL (lvR l tol) (isV l tol l.1.2.2.1.length) plusZ (isV l tol l.1.2.2.1.length).length, gapsE (isV l tol l.1.2.2.1.length) (isV l tol l.1.2.2.1.length).length)
def voteO (l : Rec3) (tol : Int) : Int × Int × Int := if voteC l tol ≠ 0 then (0, 0, 0) else (dvE l tol 0 l.1.2.2.1.length, dvE l tol 1 l.1.2.2.1.length, dvE l tol 2 l.1.2.2.1.length)
theorem voteC_1 {l : Rec3} {tol : Int} (h : votC1 l tol ≠ 0) : voteC l tol = votC1 l tol := if_pos h
theorem voteC_2 {l : Rec3} {tol : Int} (h : ¬ votC1 l tol ≠ 0) (h2 : ¬ sameSh l) : voteC l tol = 2 := by rw [voteC, if_neg h, if_neg h2]
theorem voteC_0 {l : Rec3} {tol : Int} (h : ¬ votC1 l tol ≠ 0) (h2 : sameSh l) : voteC l tol = 0 := by rw [voteC, if_neg h, if_pos h2]
theorem vote_vot {l : Rec3} {tol : Int} (h : ¬ votC1 l tol ≠ 0) (h2 : sameSh l) (hg : ∀ k, k < 3 → (rk l k).2.2.2.length < 1000000) : Vot l tol := by
  obtain ⟨h3, h4⟩ := votC1_ok (Classical.not_not.1 h)
  refine ⟨fun k hk => (rec_ok (h3 k hk)).2.2.2.1, all3 (Q := fun r => r.2.2.1.length = l.1.2.2.1.length) rfl h2.2.1 h2.2.2, (rec_ok (h3 0 (by decide))).2.1, hg, h4⟩
def lvA (l : Rec3) (tol : Int) (n : Nat) : List Nat := (List.range n).map fun j => q16 (vE l tol j).1
def isA (l : Rec3) (tol : Int) (n : Nat) : List Bool := (List.range n).map fun j => (vE l tol j).2
theorem lvA_len {l : Rec3} {tol : Int} {n : Nat} : (lvA l tol n).length = n := by simp [lvA]
theorem isA_len {l : Rec3} {tol : Int} {n : Nat} : (isA l tol n).length = n := by simp [isA]
theorem lvA_at {l : Rec3} {tol : Int} {n i : Nat} (h : i < n) : (lvA l tol n)[i]'(by rw [lvA_len]; exact h) = q16 (vE l tol i).1 := by
  unfold lvA
  rw [List.getElem_map, List.getElem_range]
theorem isA_at {l : Rec3} {tol : Int} {n i : Nat} (h : i < n) : (isA l tol n)[i]'(by rw [isA_len]; exact h) = (vE l tol i).2 := by
  unfold isA
  rw [List.getElem_map, List.getElem_range]
theorem lvA_s {l : Rec3} {tol : Int} {n : Nat} : lvA l tol (n + 1) = lvA l tol n ++ [q16 (vE l tol n).1] := by
  unfold lvA; rw [List.range_succ, List.map_append] <;> rfl
theorem isA_s {l : Rec3} {tol : Int} {n : Nat} : isA l tol (n + 1) = isA l tol n ++ [(vE l tol n).2] := by
  unfold isA; rw [List.range_succ, List.map_append] <;> rfl
theorem vE_0 {l : Rec3} {tol : Int} {i : Nat} (h : (vE l tol i).2 = false) : (vE l tol i).1 = 0 := by
  unfold vE votedE at h ⊢
  split
  · rename_i h3
    rw [if_pos h3] at h; cases h
  rename_i h3
  rw [if_neg h3] at h
  split
  · rename_i h2
    rw [if_pos h2] at h; cases h
  rfl
theorem lvA_V {l : Rec3} {tol : Int} : lvA l tol l.1.2.2.1.length = lvV l tol l.1.2.2.1.length := by
  refine List.ext_getElem (by rw [lvA_len, lvV_len]) fun i h1 h2 => ?_
  rw [lvA_len] at h1
  rw [lvV_at h1, lvA_at h1]
  cases hv : (vE l tol i).2 with
  | true => rw [if_pos ⟨h1, rfl⟩]
  | false => rw [if_neg (fun hh => Bool.false_ne_true hh.2), vE_0 hv, q16_z]
theorem isA_V {l : Rec3} {tol : Int} : isA l tol l.1.2.2.1.length = isV l tol l.1.2.2.1.length := by
  refine List.ext_getElem (by rw [isA_len, isV_len]) fun i h1 h2 => ?_
  rw [isA_len] at h1
  rw [isV_at h1, decide_eq_true h1, isA_at h1] <;> rfl
theorem arr3_map {α β : Type} (f : α → β) (a b c : α) : ∀ k, arr3 (f a) (f b) (f c) k = f (arr3 a b c k)
  | 0 => rfl
  | 1 => rfl
  | _ + 2 => rfl
theorem thereV_len {r : Rec1} : (thereE r).length = r.2.2.1.length := offB_len
theorem thereV_at {r : Rec1} {i : Nat} (h : i < r.2.2.1.length) (h2 : i < (thereE r).length) : (thereE r)[i] = recB r i := by
  have h3 := offB_at (p := Sp.inL r.2.2.2) h
  exact h3.trans (recB_in h).symm
theorem there3 {l : Rec3} {k i : Nat} (h : i < (rk l k).2.2.1.length) (h2 : i < (arr3 (thereE l.1) (thereE l.2.1) (thereE l.2.2) k).length) : (arr3 (thereE l.1) (thereE l.2.1) (thereE l.2.2) k)[i] = recB (rk l k) i := by
  have e := arr3_map thereE l.1 l.2.1 l.2.2 k
  rw [← thereV_at h (by rw [← e]; exact h2)]
  simp only [e]
theorem sort_len {l : List Int} : (sortN l).length = l.length := (sortN_perm l).length_eq
theorem vote_3 {l : List Int} {tol : Int} (h : l.length = 3) : (votedE l tol).2 = true := by rw [votedE_3 h]
theorem vote_2 {l : List Int} {tol : Int} (h : l.length = 2) : (votedE l tol).2 = decide ((sortN l)[1]'(by rw [sort_len]; omega) - (sortN l)[0]'(by rw [sort_len]; omega) ≤ tol) := by
  rw [vote_eq (by omega)]
  show voteP l tol = _
  rw [voteP, decide_eq_false (by omega), decide_eq_true h, Bool.false_or, Bool.true_and, getDat (show 0 < (sortN l).length by rw [sort_len]; omega), show l.length - 1 = 1 by omega, getDat (show 1 < (sortN l).length by rw [sort_len]; omega)]
theorem vote_n {l : List Int} {tol : Int} (h3 : ¬ l.length = 3) (h2 : ¬ l.length = 2) : (votedE l tol).2 = false := by rw [votedE_n h3 h2]
theorem vote_ge {l : List Int} {tol : Int} (h : (votedE l tol).2 = true) : 2 ≤ l.length := by
  by_cases h3 : l.length = 3
  · omega
  by_cases h2 : l.length = 2
  · omega
  rw [vote_n h3 h2] at h; cases h
theorem vote_1 {l : List Int} {tol : Int} (hl : l.length ≤ 3) (h : (votedE l tol).2 = true) (h1 : 1 < (sortN l).length) : (votedE l tol).1 = (sortN l)[1] := by
  have e := vote_eq (tol := tol) hl
  have e2 : voteP l tol = true := by
    have := congrArg Prod.snd e
    rw [h] at this; exact this.symm
  rw [e, e2, if_pos rfl, getDat h1]
theorem dv_there {l : Rec3} {tol : Int} {k i : Nat} (h : i < (rk l k).2.2.1.length) : dvB l tol k i = ((vE l tol i).2 && (thereE (rk l k)).getD i false && decide (tol < max (sxE ((rk l k).2.2.1[i]) - (vE l tol i).1) (-(sxE ((rk l k).2.2.1[i]) - (vE l tol i).1)))) := by
  unfold dvB
  rw [getDat (d := 0) h, getDat (d := false) (show i < (thereE (rk l k)).length by rw [thereV_len]; exact h), thereV_at h, show (0 : Int) - (sxE ((rk l k).2.2.1[i]) - (vE l tol i).1) = -(sxE ((rk l k).2.2.1[i]) - (vE l tol i).1) by omega]
theorem and3_t {a b : Bool} {p : Prop} [Decidable p] (h : (a = true ∧ b = true) ∧ p) : (a && b && decide p) = true := by simp [h.1.1, h.1.2, h.2]
theorem and3_f {a b : Bool} {p : Prop} [Decidable p] (h : (a = false ∨ b = false) ∨ ¬ p) : (a && b && decide p) = false := by
  rcases h with (h | h) | h
  · simp [h]
  · simp [h]
  simp [h]
theorem at_last {l : List Int} (h : l.length = 2) (h1 : (max (0 : Int) (((l.length : Nat) : Int) - 1)).toNat < l.length) : l[(max (0 : Int) (((l.length : Nat) : Int) - 1)).toNat] = l[1]'(by omega) := by
  have e : (max (0 : Int) (((l.length : Nat) : Int) - 1)).toNat = 1 := by omega
  simp only [e]
theorem gVote_ok {l : (ByteArray × Int × (List Nat) × (List (Int × Int))) × (ByteArray × Int × (List Nat) × (List (Int × Int))) × (ByteArray × Int × (List Nat) × (List (Int × Int)))} {tol : Int} (hl0 : ∀ k, k < 3 → (rk l k).2.2.1.length < 100000) (hg0 : ∀ k, k < 3 → (rk l k).2.2.2.length < 1000000) : VF Tryz.prog OA 56 [.v y88 l, I tol] (.tup [.v y65 (voteR l tol), .v y85 (voteO l tol), I (voteC l tol)]) := by
  refine VF.enter Tryz.func56 rfl (fun _ _ => rfl) rfl ?_
  show VC _ _ _ _ _ [(0, .v y88 l), (1, I tol)] [] _
  refine VC.seq (VC.text ?_); refine VO.new (.box) ?_; refine VO.cell (.alloc zt65) ?_; intro ww1; refine VO.cell (.alloc zt85) ?_; intro ww2; refine VO.c (.assign rfl) ?_; refine VO.go (VC.seq (VC.seq (VC.text ?_))); refine VO.r (.arr3 (a := l.1) (b := l.2.1) (c := l.2.2) 65) ?_; refine VO.call rfl rfl (VF.call (gMapRec_ok (F := recE) (by simp) (fun x hx => VF.call (gRec_ok (Nat.lt_trans (mem3 (Q := fun r => r.2.2.1.length < 100000) hl0 hx) (by decide)) (mem3 (Q := fun r => r.2.2.2.length < 1000000) hg0 hx))))) ?_; refine VO.call rfl rfl (VF.call (gFirst_ok (by simp))) ?_; refine VO.c (.move rfl) ?_; refine VO.call rfl rfl (VF.call (gWithin_ok )) ?_; refine VO.new (.lit [firstE ([l.1, l.2.1, l.2.2].map recE), rangeE tol (0 : Int) (2048 : Int)] el164) ?_; refine VO.call rfl rfl (VF.call (gFirst_ok (by first | assumption | omega | simp))) ?_; refine VO.c (.assign rfl) ?_; refine VO.go (VC.seq (VC.text ?_)); refine VO.c (.move rfl) ?_; refine VO.c (.neq) ?_; refine VO.go ?_; refine VC.condD rfl (fun c2 => ?_) (fun c2 => ?_)
  · refine VC.seq (VC.text ?_); refine VO.c (.build (ByteArray.empty, 0, [], []) bt65) ?_; refine VO.c (.build (0, 0, 0) bt85) ?_; refine VO.c (.move rfl) ?_; refine VO.perm swap1 ?_; refine VO.setV (cs' := [St ByteArray.empty, I 0, .v y53 [], .v y22 []]) vt65 .v ?_; refine VO.perm swap1 ?_; refine VO.setV (cs' := [I 0, I 0, I 0]) vt85 .v ?_; refine VO.c (.assign rfl) ?_; refine VO.go ?_; refine VC.ret ?_; exact VEnd.three rfl (.cell (x := (ByteArray.empty, 0, [], [])) rfl m1 vt65 .refl) (.cell (x := (0, 0, 0)) rfl m0 vt85 .refl) evT (pvE (by rw [voteR, if_pos (by rw [voteC_1 c2]; exact c2)]; rfl)) (pvE (by rw [voteO, if_pos (by rw [voteC_1 c2]; exact c2)])) (pvI (by exact (voteC_1 c2).symm))
  obtain ⟨hz, ht⟩ := votC1_ok (Classical.not_not.1 c2)
  have hr0 : (0 ≤ l.1.2.1 ∧ l.1.2.1 ≤ 100000) ∧ l.1.2.2.1.length ≤ 4096 := ⟨(rec_ok (hz 0 (by decide))).1, (rec_ok (hz 0 (by decide))).2.1⟩
  have hr1 : (0 ≤ l.2.1.2.1 ∧ l.2.1.2.1 ≤ 100000) ∧ l.2.1.2.2.1.length ≤ 4096 := ⟨(rec_ok (hz 1 (by decide))).1, (rec_ok (hz 1 (by decide))).2.1⟩
  have hr2 : (0 ≤ l.2.2.2.1 ∧ l.2.2.2.1 ≤ 100000) ∧ l.2.2.2.2.1.length ≤ 4096 := ⟨(rec_ok (hz 2 (by decide))).1, (rec_ok (hz 2 (by decide))).2.1⟩
  refine VC.skip (VC.seq (VC.text ?_)); refine VO.cell (.alloc zt85) ?_; intro ww3; refine VO.cell (.alloc zt85) ?_; intro ww4; refine VO.go (VC.seq (VC.seq (VC.text ?_))); refine VO.r (.ld vt88) ?_; refine VO.c (.move rfl) ?_; refine VO.go (VC.block ?_); refine VC.unroll ?_; refine VC.seq (VC.text ?_); refine VO.c (.lss) ?_; refine VO.go (VC.seq ?_); refine VC.condT rfl ?_; refine VC.skip (VC.seq (VC.block (VC.seq (VC.text ?_)))); refine VO.c (.move rfl) ?_; refine VO.c (.ixA 0 (.l .o)) ?_; refine VO.cell (.alloc zt65) ?_; intro ww5; refine VO.c (.assign rfl) ?_; refine VO.setV (cs' := [St l.1.1, I l.1.2.1, .v y53 l.1.2.2.1, .v y22 l.1.2.2.2]) vt65 .v ?_; refine VO.shut [(11, .p y65 l.1)] (.cons rfl (.var m0 .refl) .nil) ?_; refine VO.go ?_; refine VC.perm swap1 ?_; refine VC.late [(ww2, .var [I (0 : Int), I (0 : Int), I (0 : Int)]), (ww1, .var [St ByteArray.empty, I (0 : Int), .v y53 [], .v y22 []])] ⟨[(ww3, .var [I (0 : Int), I (0 : Int), I (0 : Int)]), (ww4, .var [I (0 : Int), I (0 : Int), I (0 : Int)])], rfl⟩ ?_; refine VLt.c (.move rfl) ?_; refine VLt.c (.move rfl) ?_; refine VLt.c (.fa (.r (.l .o))) ?_; refine VLt.q rfl (.ld vt3) ?_; refine VLt.c (.ixP 0 (.l .o)) ?_; refine VLt.c (.fa (.r (.l .o))) ?_; refine VLt.nws [] ?_; refine VLt.q rfl (.ld vt3) ?_; refine VLt.c (.sub rfl rfl (by omega)) ?_; refine VLt.c (.fa (.r (.r (.l .o)))) ?_; refine VLt.q rfl (.ld vt53) ?_; refine VLt.lenS el53 ?_; refine VLt.c (.ixP 0 (.l .o)) ?_; refine VLt.c (.fa (.r (.r (.l .o)))) ?_; refine VLt.nws [] ?_; refine VLt.q rfl (.ld vt53) ?_; refine VLt.lenS el53 ?_; refine VLt.c (.sub rfl rfl (by omega)) ?_; refine VLt.cR (.ixV 0 (k := 0) (τ' := (.int .i64)) m0) ?_; refine VLt.mk0 (MakeV.setF (k := 0) vt3 .v (Nat.le_of_ble_eq_true rfl) (.inl rfl) rfl rfl) (TurnV.store rfl (.inr ⟨_, rfl⟩)) ⟨[(ww4, .var [I (0 : Int), I (0 : Int), I (0 : Int)])], rfl⟩ ?_; rintro _ _ ⟨rfl, rfl⟩; refine ⟨⟨[(ww3, .var [I (l.1.2.1 - l.1.2.1), I (0 : Int), I (0 : Int)]), (ww4, .var [I (0 : Int), I (0 : Int), I (0 : Int)])], rfl⟩, ?_⟩; refine VLt.cR (.ixV 0 (k := 0) (τ' := (.int .i64)) m1) ?_; refine VLt.perm swap1 ⟨[(ww4, .var [I (0 : Int), I (0 : Int), I (0 : Int)]), (ww3, .var [I (l.1.2.1 - l.1.2.1), I (0 : Int), I (0 : Int)])], rfl⟩ ?_; refine VLt.mk0 (MakeV.setF (k := 0) vt3 .v (Nat.le_of_ble_eq_true rfl) (.inl rfl) rfl rfl) (TurnV.store rfl (.inr ⟨_, rfl⟩)) ⟨[(ww3, .var [I (l.1.2.1 - l.1.2.1), I (0 : Int), I (0 : Int)])], rfl⟩ ?_; rintro _ _ ⟨rfl, rfl⟩; refine ⟨⟨[(ww4, .var [I (((l.1.2.2.1.length : Nat) : Int) - ((l.1.2.2.1.length : Nat) : Int)), I (0 : Int), I (0 : Int)]), (ww3, .var [I (l.1.2.1 - l.1.2.1), I (0 : Int), I (0 : Int)])], rfl⟩, ?_⟩; refine VLt.nil ?_; refine VC.keep [(1, I tol), (2, .p y88 l), (4, .raw ww1), (5, .raw ww2), (8, .raw ww3), (9, .raw ww4), (37, .v y88 l), (38, I (0 : Int))] ⟨rfl, rfl, rfl, rfl, rfl, rfl, rfl, rfl, trivial⟩ ?_; refine VC.text ?_; refine VO.c (.add rfl rfl (by decide)) ?_; refine VO.c (.move rfl) ?_; refine VO.nil ?_; refine VC.unroll ?_; refine VC.seq (VC.text ?_); refine VO.c (.lss) ?_; refine VO.go (VC.seq ?_); refine VC.condT rfl ?_; refine VC.skip (VC.seq (VC.block (VC.seq (VC.text ?_)))); refine VO.c (.move rfl) ?_; refine VO.c (.ixA 1 (.r (.l .o))) ?_; refine VO.cell (.alloc zt65) ?_; intro ww6; refine VO.c (.assign rfl) ?_; refine VO.setV (cs' := [St l.2.1.1, I l.2.1.2.1, .v y53 l.2.1.2.2.1, .v y22 l.2.1.2.2.2]) vt65 .v ?_; refine VO.shut [(11, .p y65 l.2.1)] (.cons rfl (.var m0 .refl) .nil) ?_; refine VO.go ?_; refine VC.perm swap1 ?_; refine VC.late [(ww2, .var [I (0 : Int), I (0 : Int), I (0 : Int)]), (ww1, .var [St ByteArray.empty, I (0 : Int), .v y53 [], .v y22 []])] ⟨[(ww3, .var [I (l.1.2.1 - l.1.2.1), I (0 : Int), I (0 : Int)]), (ww4, .var [I (((l.1.2.2.1.length : Nat) : Int) - ((l.1.2.2.1.length : Nat) : Int)), I (0 : Int), I (0 : Int)])], rfl⟩ ?_; refine VLt.c (.move rfl) ?_; refine VLt.c (.move rfl) ?_; refine VLt.c (.fa (.r (.l .o))) ?_; refine VLt.q rfl (.ld vt3) ?_; refine VLt.c (.ixP 0 (.l .o)) ?_; refine VLt.c (.fa (.r (.l .o))) ?_; refine VLt.nws [] ?_; refine VLt.q rfl (.ld vt3) ?_; refine VLt.c (.sub rfl rfl (by omega)) ?_; refine VLt.c (.fa (.r (.r (.l .o)))) ?_; refine VLt.q rfl (.ld vt53) ?_; refine VLt.lenS el53 ?_; refine VLt.c (.ixP 0 (.l .o)) ?_; refine VLt.c (.fa (.r (.r (.l .o)))) ?_; refine VLt.nws [] ?_; refine VLt.q rfl (.ld vt53) ?_; refine VLt.lenS el53 ?_; refine VLt.c (.sub rfl rfl (by omega)) ?_; refine VLt.cR (.ixV 1 (k := 1) (τ' := (.int .i64)) m0) ?_; refine VLt.mk0 (MakeV.setF (k := 1) vt3 .v (Nat.le_of_ble_eq_true rfl) (.inl rfl) rfl rfl) (TurnV.store rfl (.inr ⟨_, rfl⟩)) ⟨[(ww4, .var [I (((l.1.2.2.1.length : Nat) : Int) - ((l.1.2.2.1.length : Nat) : Int)), I (0 : Int), I (0 : Int)])], rfl⟩ ?_; rintro _ _ ⟨rfl, rfl⟩; refine ⟨⟨[(ww3, .var [I (l.1.2.1 - l.1.2.1), I (l.2.1.2.1 - l.1.2.1), I (0 : Int)]), (ww4, .var [I (((l.1.2.2.1.length : Nat) : Int) - ((l.1.2.2.1.length : Nat) : Int)), I (0 : Int), I (0 : Int)])], rfl⟩, ?_⟩; refine VLt.cR (.ixV 1 (k := 1) (τ' := (.int .i64)) m1) ?_; refine VLt.perm swap1 ⟨[(ww4, .var [I (((l.1.2.2.1.length : Nat) : Int) - ((l.1.2.2.1.length : Nat) : Int)), I (0 : Int), I (0 : Int)]), (ww3, .var [I (l.1.2.1 - l.1.2.1), I (l.2.1.2.1 - l.1.2.1), I (0 : Int)])], rfl⟩ ?_; refine VLt.mk0 (MakeV.setF (k := 1) vt3 .v (Nat.le_of_ble_eq_true rfl) (.inl rfl) rfl rfl) (TurnV.store rfl (.inr ⟨_, rfl⟩)) ⟨[(ww3, .var [I (l.1.2.1 - l.1.2.1), I (l.2.1.2.1 - l.1.2.1), I (0 : Int)])], rfl⟩ ?_; rintro _ _ ⟨rfl, rfl⟩; refine ⟨⟨[(ww4, .var [I (((l.1.2.2.1.length : Nat) : Int) - ((l.1.2.2.1.length : Nat) : Int)), I (((l.2.1.2.2.1.length : Nat) : Int) - ((l.1.2.2.1.length : Nat) : Int)), I (0 : Int)]), (ww3, .var [I (l.1.2.1 - l.1.2.1), I (l.2.1.2.1 - l.1.2.1), I (0 : Int)])], rfl⟩, ?_⟩; refine VLt.nil ?_; refine VC.text ?_; refine VO.c (.add rfl rfl (by decide)) ?_; refine VO.c (.move rfl) ?_; refine VO.nil ?_; refine VC.unroll ?_; refine VC.seq (VC.text ?_); refine VO.c (.lss) ?_; refine VO.go (VC.seq ?_); refine VC.condT rfl ?_; refine VC.skip (VC.seq (VC.block (VC.seq (VC.text ?_)))); refine VO.c (.move rfl) ?_; refine VO.c (.ixA 2 (.r (.r .o))) ?_; refine VO.cell (.alloc zt65) ?_; intro ww7; refine VO.c (.assign rfl) ?_; refine VO.setV (cs' := [St l.2.2.1, I l.2.2.2.1, .v y53 l.2.2.2.2.1, .v y22 l.2.2.2.2.2]) vt65 .v ?_; refine VO.shut [(11, .p y65 l.2.2)] (.cons rfl (.var m0 .refl) .nil) ?_; refine VO.go ?_; refine VC.keep [(1, I tol), (2, .p y88 l), (4, .raw ww1), (5, .raw ww2), (8, .raw ww3), (9, .raw ww4), (10, I (2 : Int)), (11, .p y65 l.2.2), (37, .v y88 l), (38, I (2 : Int))] ⟨rfl, rfl, rfl, rfl, rfl, rfl, rfl, rfl, rfl, rfl, trivial⟩ ?_; refine VC.perm swap1 ?_; refine VC.late [(ww2, .var [I (0 : Int), I (0 : Int), I (0 : Int)]), (ww1, .var [St ByteArray.empty, I (0 : Int), .v y53 [], .v y22 []])] ⟨[(ww3, .var [I (l.1.2.1 - l.1.2.1), I (l.2.1.2.1 - l.1.2.1), I (0 : Int)]), (ww4, .var [I (((l.1.2.2.1.length : Nat) : Int) - ((l.1.2.2.1.length : Nat) : Int)), I (((l.2.1.2.2.1.length : Nat) : Int) - ((l.1.2.2.1.length : Nat) : Int)), I (0 : Int)])], rfl⟩ ?_; refine VLt.c (.move rfl) ?_; refine VLt.c (.move rfl) ?_; refine VLt.c (.fa (.r (.l .o))) ?_; refine VLt.q rfl (.ld vt3) ?_; refine VLt.c (.ixP 0 (.l .o)) ?_; refine VLt.c (.fa (.r (.l .o))) ?_; refine VLt.nws [] ?_; refine VLt.q rfl (.ld vt3) ?_; refine VLt.c (.sub rfl rfl (by omega)) ?_; refine VLt.c (.fa (.r (.r (.l .o)))) ?_; refine VLt.q rfl (.ld vt53) ?_; refine VLt.lenS el53 ?_; refine VLt.c (.ixP 0 (.l .o)) ?_; refine VLt.c (.fa (.r (.r (.l .o)))) ?_; refine VLt.nws [] ?_; refine VLt.q rfl (.ld vt53) ?_; refine VLt.lenS el53 ?_; refine VLt.c (.sub rfl rfl (by omega)) ?_; refine VLt.cR (.ixV 2 (k := 2) (τ' := (.int .i64)) m0) ?_; refine VLt.mk0 (MakeV.setF (k := 2) vt3 .v (Nat.le_of_ble_eq_true rfl) (.inl rfl) rfl rfl) (TurnV.store rfl (.inr ⟨_, rfl⟩)) ⟨[(ww4, .var [I (((l.1.2.2.1.length : Nat) : Int) - ((l.1.2.2.1.length : Nat) : Int)), I (((l.2.1.2.2.1.length : Nat) : Int) - ((l.1.2.2.1.length : Nat) : Int)), I (0 : Int)])], rfl⟩ ?_; rintro _ _ ⟨rfl, rfl⟩; refine ⟨⟨[(ww3, .var [I (l.1.2.1 - l.1.2.1), I (l.2.1.2.1 - l.1.2.1), I (l.2.2.2.1 - l.1.2.1)]), (ww4, .var [I (((l.1.2.2.1.length : Nat) : Int) - ((l.1.2.2.1.length : Nat) : Int)), I (((l.2.1.2.2.1.length : Nat) : Int) - ((l.1.2.2.1.length : Nat) : Int)), I (0 : Int)])], rfl⟩, ?_⟩; refine VLt.cR (.ixV 2 (k := 2) (τ' := (.int .i64)) m1) ?_; refine VLt.perm swap1 ⟨[(ww4, .var [I (((l.1.2.2.1.length : Nat) : Int) - ((l.1.2.2.1.length : Nat) : Int)), I (((l.2.1.2.2.1.length : Nat) : Int) - ((l.1.2.2.1.length : Nat) : Int)), I (0 : Int)]), (ww3, .var [I (l.1.2.1 - l.1.2.1), I (l.2.1.2.1 - l.1.2.1), I (l.2.2.2.1 - l.1.2.1)])], rfl⟩ ?_; refine VLt.mk0 (MakeV.setF (k := 2) vt3 .v (Nat.le_of_ble_eq_true rfl) (.inl rfl) rfl rfl) (TurnV.store rfl (.inr ⟨_, rfl⟩)) ⟨[(ww3, .var [I (l.1.2.1 - l.1.2.1), I (l.2.1.2.1 - l.1.2.1), I (l.2.2.2.1 - l.1.2.1)])], rfl⟩ ?_; rintro _ _ ⟨rfl, rfl⟩; refine ⟨⟨[(ww4, .var [I (((l.1.2.2.1.length : Nat) : Int) - ((l.1.2.2.1.length : Nat) : Int)), I (((l.2.1.2.2.1.length : Nat) : Int) - ((l.1.2.2.1.length : Nat) : Int)), I (((l.2.2.2.2.1.length : Nat) : Int) - ((l.1.2.2.1.length : Nat) : Int))]), (ww3, .var [I (l.1.2.1 - l.1.2.1), I (l.2.1.2.1 - l.1.2.1), I (l.2.2.2.1 - l.1.2.1)])], rfl⟩, ?_⟩; refine VLt.nil ?_; refine VC.text ?_; refine VO.c (.add rfl rfl (by decide)) ?_; refine VO.c (.move rfl) ?_; refine VO.nil ?_; refine VC.unroll ?_; refine VC.seq (VC.text ?_); refine VO.c (.lss) ?_; refine VO.go (VC.seq ?_); refine VC.condF rfl ?_; refine VC.exit (VC.seq (VC.seq (VC.text ?_))); refine VO.r (.ldA (dx := ((l.1.2.1 - l.1.2.1), (l.2.1.2.1 - l.1.2.1), (l.2.2.2.1 - l.1.2.1))) m1 vt85) ?_; refine VO.c (.build (0, 0, 0) bt85) ?_; refine VO.c (.arrCmp (xs := [(l.1.2.1 - l.1.2.1), (l.2.1.2.1 - l.1.2.1), (l.2.2.2.1 - l.1.2.1)]) (ys := [0, 0, 0]) (.inr ⟨rfl, rfl⟩) rfl rfl rfl rfl (by kernel_rfl) rfl) ?_; refine VO.c (.move rfl) ?_; refine VO.rg (r := (!decide ([(l.1.2.1 - l.1.2.1), (l.2.1.2.1 - l.1.2.1), (l.2.2.2.1 - l.1.2.1)] = [0, 0, 0]))) (w := false) [] trivial (fun _ => (.ldA (dx := ((((l.1.2.2.1.length : Nat) : Int) - ((l.1.2.2.1.length : Nat) : Int)), (((l.2.1.2.2.1.length : Nat) : Int) - ((l.1.2.2.1.length : Nat) : Int)), (((l.2.2.2.2.1.length : Nat) : Int) - ((l.1.2.2.1.length : Nat) : Int)))) m0 vt85)) ?_; refine VO.cg (v := .v y85 (0, 0, 0)) (r := (!decide ([(l.1.2.1 - l.1.2.1), (l.2.1.2.1 - l.1.2.1), (l.2.2.2.1 - l.1.2.1)] = [0, 0, 0]))) (w := false) [] trivial (fun _ => (.buildV bt85)) ?_; refine VO.cg (r := (!decide ([(l.1.2.1 - l.1.2.1), (l.2.1.2.1 - l.1.2.1), (l.2.2.2.1 - l.1.2.1)] = [0, 0, 0]))) (w := false) [(65, .v y85 ((((l.1.2.2.1.length : Nat) : Int) - ((l.1.2.2.1.length : Nat) : Int)), (((l.2.1.2.2.1.length : Nat) : Int) - ((l.1.2.2.1.length : Nat) : Int)), (((l.2.2.2.2.1.length : Nat) : Int) - ((l.1.2.2.1.length : Nat) : Int)))), (66, .v y85 (0, 0, 0))] ⟨rfl, rfl, trivial⟩ (fun hgd => have g10_3 : (!decide ([(l.1.2.1 - l.1.2.1), (l.2.1.2.1 - l.1.2.1), (l.2.2.2.1 - l.1.2.1)] = [0, 0, 0])) = false := (by simpa using hgd); (.arrCmp (xs := [(((l.1.2.2.1.length : Nat) : Int) - ((l.1.2.2.1.length : Nat) : Int)), (((l.2.1.2.2.1.length : Nat) : Int) - ((l.1.2.2.1.length : Nat) : Int)), (((l.2.2.2.2.1.length : Nat) : Int) - ((l.1.2.2.1.length : Nat) : Int))]) (ys := [0, 0, 0]) (.inr ⟨rfl, rfl⟩) rfl rfl rfl rfl (by kernel_rfl) rfl)) ?_; refine VO.c (.or) ?_; refine VO.go ?_; refine VC.condB rfl (fun c10 => ?_) (fun c10 => ?_)
  · try simp only [Bool.and_eq_true, Bool.or_eq_true, Bool.and_eq_false_iff, Bool.or_eq_false_iff, Bool.not_eq_true', Bool.not_eq_false', decide_eq_true_eq, decide_eq_false_iff_not] at c10
    have hns : ¬ sameSh l := fun hh => by
      obtain ⟨⟨s1, s2⟩, s3, s4⟩ := hh
      rw [s1, s2, s3, s4] at c10
      simp at c10
    have hvc := voteC_2 c2 hns
    refine VC.seq (VC.text ?_); refine VO.c (.build (ByteArray.empty, 0, [], []) bt65) ?_; refine VO.c (.build (0, 0, 0) bt85) ?_; refine VO.perm swap3 ?_; refine VO.setV (cs' := [St ByteArray.empty, I 0, .v y53 [], .v y22 []]) vt65 .v ?_; refine VO.perm swap3 ?_; refine VO.setV (cs' := [I 0, I 0, I 0]) vt85 .v ?_; refine VO.c (.assign rfl) ?_; refine VO.go ?_; refine VC.ret ?_; exact VEnd.three rfl (.cell (x := (ByteArray.empty, 0, [], [])) rfl m1 vt65 .refl) (.cell (x := (0, 0, 0)) rfl m0 vt85 .refl) evT (pvE (by rw [voteR, if_pos (by rw [hvc]; decide)]; rfl)) (pvE (by rw [voteO, if_pos (by rw [hvc]; decide)])) (pvI (by exact hvc.symm))
  try simp only [Bool.and_eq_true, Bool.or_eq_true, Bool.and_eq_false_iff, Bool.or_eq_false_iff, Bool.not_eq_true', Bool.not_eq_false', decide_eq_true_eq, decide_eq_false_iff_not] at c10
  have hsh : sameSh l := by
    simp at c10
    obtain ⟨⟨s1, s2⟩, s3, s4⟩ := c10
    exact ⟨⟨by omega, by omega⟩, by omega, by omega⟩
  have hvc := voteC_0 c2 hsh
  have hV := vote_vot c2 hsh hg0
  have hn := hV.n
  have hl1 : l.2.1.2.2.1.length = l.1.2.2.1.length := hV.len 1 (by decide)
  have hl2 : l.2.2.2.2.1.length = l.1.2.2.1.length := hV.len 2 (by decide)
  have hto0 := thereV_len (r := l.1)
  have hto1 := thereV_len (r := l.2.1)
  have hto2 := thereV_len (r := l.2.2)
  refine VC.skip (VC.seq ?_); refine VC.perm swap1 ?_; refine VC.shutL [(ww3, .var [I (l.1.2.1 - l.1.2.1), I (l.2.1.2.1 - l.1.2.1), I (l.2.2.2.1 - l.1.2.1)])] [(8, .p y85 ((l.1.2.1 - l.1.2.1), (l.2.1.2.1 - l.1.2.1), (l.2.2.2.1 - l.1.2.1)))] rfl (.cons rfl (.var m0 .refl) .nil) ?_; refine VC.shutL [(ww4, .var [I (((l.1.2.2.1.length : Nat) : Int) - ((l.1.2.2.1.length : Nat) : Int)), I (((l.2.1.2.2.1.length : Nat) : Int) - ((l.1.2.2.1.length : Nat) : Int)), I (((l.2.2.2.2.1.length : Nat) : Int) - ((l.1.2.2.1.length : Nat) : Int))])] [(9, .p y85 ((((l.1.2.2.1.length : Nat) : Int) - ((l.1.2.2.1.length : Nat) : Int)), (((l.2.1.2.2.1.length : Nat) : Int) - ((l.1.2.2.1.length : Nat) : Int)), (((l.2.2.2.2.1.length : Nat) : Int) - ((l.1.2.2.1.length : Nat) : Int))))] rfl (.cons rfl (.var m0 .refl) .nil) ?_; refine VC.drawn ?_; refine VD.c (.ixP 0 (.l .o)) ?_; refine VD.r [] (.ld vt65) (.inl rfl) ?_; refine VD.call rfl rfl (VF.call (gThere_ok hr0.2 (hg0 0 (by decide)) (rec_ok (hz 0 (by decide))).2.2.2.2)) ?_; refine VD.c (.ixP 1 (.r (.l .o))) ?_; refine VD.r [] (.ld vt65) (.inl rfl) ?_; refine VD.call rfl rfl (VF.call (gThere_ok hr1.2 (hg0 1 (by decide)) (rec_ok (hz 1 (by decide))).2.2.2.2)) ?_; refine VD.nw [76, 73] ?_; refine VD.c (.ixP 2 (.r (.r .o))) ?_; refine VD.r [] (.ld vt65) (.inl rfl) ?_; refine VD.call rfl rfl (VF.call (gThere_ok hr2.2 (hg0 2 (by decide)) (rec_ok (hz 2 (by decide))).2.2.2.2)) ?_; refine VD.c (.build (thereE l.1, thereE l.2.1, thereE l.2.2) bt167) ?_; refine VD.cell (.alloc zt167) ?_; intro ww8; refine VD.mk0 (MakeV.setF (k := 0) vt167 .v (Nat.le_of_ble_eq_true rfl) (.inr ⟨rfl, rfl⟩) rfl rfl) ?_; rintro _ _ tl9 ⟨rfl, rfl⟩; refine VD.go (VC.seq ?_); refine VC.shutL [(ww8, .var [.v (.sl .bool) (thereE l.1), .v (.sl .bool) (thereE l.2.1), .v (.sl .bool) (thereE l.2.2)])] [(12, .p y167 (thereE l.1, thereE l.2.1, thereE l.2.2))] rfl (.cons rfl (.var m0 .refl) .nil) ?_; refine VC.keep [(1, I tol), (2, .p y88 l), (4, .raw ww1), (5, .raw ww2), (12, .p y167 (thereE l.1, thereE l.2.1, thereE l.2.2))] ⟨rfl, rfl, rfl, rfl, rfl, trivial⟩ ?_; refine VC.text ?_; refine VO.c (.ixP 0 (.l .o)) ?_; refine VO.c (.fa (.l .o)) ?_; refine VO.r (.ld vt9) ?_; refine VO.c (.ixP 0 (.l .o)) ?_; refine VO.c (.fa (.r (.l .o))) ?_; refine VO.r (.ld vt3) ?_; refine VO.c (.buildA (cs := [St l.1.1, I l.1.2.1, nilV, nilV]) bt65 rfl) ?_; refine VO.cell (.alloc zt65) ?_; intro ww10; refine VO.setV (cs' := [St l.1.1, I l.1.2.1, nilV, nilV]) vt65 (.aggs rfl rfl) ?_; refine VO.go (VC.seq (VC.text ?_)); refine VO.c (.assign rfl) ?_; refine VO.go (VC.seq (VC.text ?_)); refine VO.cell (.alloc zt85) ?_; intro ww11; refine VO.go (VC.seq (VC.seq (VC.text ?_))); refine VO.c (.ixP 0 (.l .o)) ?_; refine VO.c (.fa (.r (.r (.l .o)))) ?_; refine VO.r (.ld vt53) ?_; refine VO.r (.len el53) ?_; refine VO.c (.move rfl) ?_; refine VO.go (VC.block ?_); refine VC.cell0 59 (.flt .f32) ?_; refine VC.cell0 4 .bool ?_; refine VC.keep [(1, I tol), (2, .p y88 l), (4, .raw ww1), (5, .raw ww2), (12, .p y167 (thereE l.1, thereE l.2.1, thereE l.2.2)), (13, .raw ww10), (14, .raw (.slice none 0 0)), (15, .raw ww11), (91, I ((l.1.2.2.1.length : Nat) : Int)), (92, I ((0 : Nat) : Int))] ⟨rfl, rfl, rfl, rfl, rfl, rfl, rfl, rfl, rfl, rfl, trivial⟩ ?_; refine VC.loop (I := fun kk ff ss => ∃ (i : Nat) (wis : Value) (wlv : Value), kk = l.1.2.2.1.length - i ∧ ff = [(1, I tol), (2, .p y88 l), (4, .raw ww1), (5, .raw ww2), (12, .p y167 (thereE l.1, thereE l.2.1, thereE l.2.2)), (13, .raw ww10), (14, .raw wis), (15, .raw ww11), (91, I ((l.1.2.2.1.length : Nat) : Int)), (92, I ((i : Nat) : Int))] ∧ ss = [(wis, .row 4 .bool (isA l tol i)), (wlv, .row 59 (.flt .f32) (lvA l tol i)), (ww11, .var [I (dvE l tol 0 i), I (dvE l tol 1 i), I (dvE l tol 2 i)]), (ww10, .var [St l.1.1, I l.1.2.1, .raw wlv, nilV]), (ww2, .var [I (0 : Int), I (0 : Int), I (0 : Int)]), (ww1, .var [St ByteArray.empty, I (0 : Int), .v y53 [], .v y22 []])] ∧ (i ≤ l.1.2.2.1.length) ∧ ((isA l tol i).length = i) ∧ ((lvA l tol i).length = i)) ?_ _ _ _ ⟨0, (.slice none 0 0), (.slice none 0 0), rfl, rfl, rfl, Nat.zero_le _, (by exact isA_len), (by exact lvA_len)⟩; rintro kk ff ss ⟨i, wis, wlv, hk2, rfl, rfl, hi, hil, hll⟩; refine VC.seq (VC.text ?_); refine VO.c (.lss) ?_; refine VO.go (VC.seq ?_); refine VC.condD rfl (fun c17 => ?_) (fun c17 => ?_)
  · have hib : i < l.1.2.2.1.length := by omega
    have hvb := vE_bnd (tol := tol) (i := i) hV.lv
    have hd0 := dvE_bnd (l := l) (tol := tol) (k := 0) i
    have hd1 := dvE_bnd (l := l) (tol := tol) (k := 1) i
    have hd2 := dvE_bnd (l := l) (tol := tol) (k := 2) i
    have hk10 : dvK l tol i 1 0 = dvE l tol 1 i := rfl
    have hk21 : dvK l tol i 2 1 = dvE l tol 2 i := rfl
    have hq := q16_ok hvb
    have hvb2 : -1024 ≤ (votedE (toldL l i 3) tol).1 ∧ (votedE (toldL l i 3) tol).1 ≤ 1024 := hvb
    have hv0 := dv_there (l := l) (tol := tol) (k := 0) (i := i) hib
    have hv1 := dv_there (l := l) (tol := tol) (k := 1) (i := i) (by show i < l.2.1.2.2.1.length; omega)
    have hv2 := dv_there (l := l) (tol := tol) (k := 2) (i := i) (by show i < l.2.2.2.2.1.length; omega)
    have hs0 := (lvl_ok (hV.lv 0 (by decide) (l.1.2.2.1[i]) (List.getElem_mem _))).2
    have hs1 := (lvl_ok (hV.lv 1 (by decide) (l.2.1.2.2.1[i]'(by omega)) (List.getElem_mem _))).2
    have hs2 := (lvl_ok (hV.lv 2 (by decide) (l.2.2.2.2.1[i]'(by omega)) (List.getElem_mem _))).2
    have hgt : (votedE (toldL l i 3) tol).1 = (vE l tol i).1 ∧ (votedE (toldL l i 3) tol).2 = (vE l tol i).2 := ⟨rfl, rfl⟩
    have hsl := sort_len (l := toldL l i 3)
    have htl3 := toldL_len (l := l) (i := i) 3
    have hsb : ∀ x ∈ sortN (toldL l i 3), -1024 ≤ x ∧ x ≤ 1024 := fun x hx => toldL_bnd hV.lv 3 (by omega) x ((sortN_perm _).mem_iff.1 hx)
    refine VC.skip (VC.seq (VC.block (VC.seq (VC.text ?_)))); refine VO.c (.move rfl) ?_; refine VO.c (.assign rfl) ?_; refine VO.go (VC.seq (VC.text ?_)); refine VO.c (.assign rfl) ?_; refine VO.go (VC.seq (VC.seq (VC.text ?_))); refine VO.r (.ld vt88) ?_; refine VO.c (.move rfl) ?_; refine VO.go (VC.block ?_); refine VC.cell0 3 (.int .i64) ?_; refine VC.keep [(1, I tol), (2, .p y88 l), (4, .raw ww1), (5, .raw ww2), (12, .p y167 (thereE l.1, thereE l.2.1, thereE l.2.2)), (13, .raw ww10), (14, .raw wis), (15, .raw ww11), (16, I ((i : Nat) : Int)), (17, .raw (.slice none 0 0)), (91, I ((l.1.2.2.1.length : Nat) : Int)), (92, I ((i : Nat) : Int)), (95, .v y88 l), (96, I ((0 : Nat) : Int))] ⟨rfl, rfl, rfl, rfl, rfl, rfl, rfl, rfl, rfl, rfl, rfl, rfl, rfl, rfl, trivial⟩ ?_; refine VC.loop (I := fun kk ff ss => ∃ (k : Nat) (out : Value), kk = 3 - k ∧ ff = [(1, I tol), (2, .p y88 l), (4, .raw ww1), (5, .raw ww2), (12, .p y167 (thereE l.1, thereE l.2.1, thereE l.2.2)), (13, .raw ww10), (14, .raw wis), (15, .raw ww11), (16, I ((i : Nat) : Int)), (17, .raw out), (91, I ((l.1.2.2.1.length : Nat) : Int)), (92, I ((i : Nat) : Int)), (95, .v y88 l), (96, I ((k : Nat) : Int))] ∧ ss = [(out, .row 3 (.int .i64) (toldL l i k)), (wis, .row 4 .bool (isA l tol i)), (wlv, .row 59 (.flt .f32) (lvA l tol i)), (ww11, .var [I (dvE l tol 0 i), I (dvE l tol 1 i), I (dvE l tol 2 i)]), (ww10, .var [St l.1.1, I l.1.2.1, .raw wlv, nilV]), (ww2, .var [I (0 : Int), I (0 : Int), I (0 : Int)]), (ww1, .var [St ByteArray.empty, I (0 : Int), .v y53 [], .v y22 []])] ∧ (k ≤ 3) ∧ ((toldL l i k).length ≤ k)) ?_ _ _ _ ⟨0, (.slice none 0 0), rfl, rfl, rfl, Nat.zero_le _, (by exact Nat.le_refl _)⟩; rintro kk ff ss ⟨k, out, hk4, rfl, rfl, hk, htl⟩; refine VC.seq (VC.text ?_); refine VO.c (.lss) ?_; refine VO.go (VC.seq ?_); refine VC.condD rfl (fun c21 => ?_) (fun c21 => ?_)
    · have hk3 : k < 3 := by omega
      have hkl := hV.len k hk3
      have hka : (arr3 l.1 l.2.1 l.2.2 k).2.2.1.length = l.1.2.2.1.length := hkl
      have hkv := hV.lv k hk3
      refine VC.skip (VC.seq (VC.block (VC.seq (VC.text ?_)))); refine VO.c (.move rfl) ?_; refine VO.c (.ixA3 (a := l.1) (b := l.2.1) (c := l.2.2) k (by omega)) ?_; refine VO.cell (.alloc zt65) ?_; intro ww12; refine VO.c (.assign rfl) ?_; refine VO.setV (cs' := [St ((arr3 l.1 l.2.1 l.2.2 k).1), I ((arr3 l.1 l.2.1 l.2.2 k).2.1), .v y53 ((arr3 l.1 l.2.1 l.2.2 k).2.2.1), .v y22 ((arr3 l.1 l.2.1 l.2.2 k).2.2.2)]) vt65 .v ?_; refine VO.shut [(19, .p y65 (arr3 l.1 l.2.1 l.2.2 k))] (.cons rfl (.var m0 .refl) .nil) ?_; refine VO.go (VC.seq (VC.text ?_)); refine VO.c (.move rfl) ?_; refine VO.c (.ixP3 (a := thereE l.1) (b := thereE l.2.1) (c := thereE l.2.2) k (by omega)) ?_; refine VO.r (.ld vt156) ?_; refine VO.c (.move rfl) ?_; refine VO.c (.ix (j := i) rfl rfl el156 (by rw [arr3_map thereE, thereV_len]; omega)) ?_; refine VO.r (.ld vt4) ?_; refine VO.go ?_; refine VC.condB rfl (fun c23 => ?_) (fun c23 => ?_)
      · have hc : recB (rk l k) i = true := by rw [← there3 (l := l) (k := k) (by omega) (by rw [arr3_map thereE, thereV_len]; omega)]; exact c23
        have e1 := toldL_t hc
        have hat : (rk l k).2.2.1.getD i 0 = (rk l k).2.2.1[i]'(by omega) := getDat (by omega)
        rw [hat] at e1
        refine VC.text ?_; refine VO.c (.move rfl) ?_; refine VO.c (.fa (.r (.r (.l .o)))) ?_; refine VO.r (.ld vt53) ?_; refine VO.c (.move rfl) ?_; refine VO.c (.ix (j := i) rfl rfl el53 (by omega)) ?_; refine VO.r (.ld vt59) ?_; refine VO.call rfl rfl (VF.call (gSixL_ok (hkv _ (List.getElem_mem _)))) ?_; refine VO.new (.lit [sxE (((arr3 l.1 l.2.1 l.2.2 k).2.2.1)[i])] el37) ?_; refine VO.app rfl rfl el37 el37 (by simp; omega) ?_; intro ww13; refine VO.c (.assign rfl) ?_; refine VO.nil (VC.text ?_); refine VO.c (.add rfl rfl (by omega)) ?_; refine VO.c (.move rfl) ?_; refine VO.nil ?_; refine ⟨_, [(1, I tol), (2, .p y88 l), (4, .raw ww1), (5, .raw ww2), (12, .p y167 (thereE l.1, thereE l.2.1, thereE l.2.2)), (13, .raw ww10), (14, .raw wis), (15, .raw ww11), (16, I ((i : Nat) : Int)), (17, .raw ww13), (91, I ((l.1.2.2.1.length : Nat) : Int)), (92, I ((i : Nat) : Int)), (95, .v y88 l), (96, I (((k + 1) : Nat) : Int))], ?_, ⟨rfl, rfl, rfl, rfl, rfl, rfl, rfl, rfl, rfl, rfl, rfl, rfl, rfl, rfl, trivial⟩, (k + 1), ww13, rfl, rfl, (by first | (rw [e1]; done) | (rw [e1]; rfl)), (by omega), (by exact toldL_len _)⟩
        omega
      have hc : recB (rk l k) i = false := by rw [← there3 (l := l) (k := k) (by omega) (by rw [arr3_map thereE, thereV_len]; omega)]; exact c23
      have e1 := toldL_f hc
      refine VC.skip (VC.text ?_); refine VO.c (.add rfl rfl (by omega)) ?_; refine VO.c (.move rfl) ?_; refine VO.nil ?_; refine ⟨_, [(1, I tol), (2, .p y88 l), (4, .raw ww1), (5, .raw ww2), (12, .p y167 (thereE l.1, thereE l.2.1, thereE l.2.2)), (13, .raw ww10), (14, .raw wis), (15, .raw ww11), (16, I ((i : Nat) : Int)), (17, .raw out), (91, I ((l.1.2.2.1.length : Nat) : Int)), (92, I ((i : Nat) : Int)), (95, .v y88 l), (96, I (((k + 1) : Nat) : Int))], ?_, ⟨rfl, rfl, rfl, rfl, rfl, rfl, rfl, rfl, rfl, rfl, rfl, rfl, rfl, rfl, trivial⟩, (k + 1), out, rfl, rfl, (by first | (rw [e1]; done) | (rw [e1]; rfl)), (by omega), (by exact toldL_len _)⟩
      omega
    refine VC.exit (VC.seq (VC.text ?_))
    obtain rfl : k = 3 := by omega
    refine VO.c (.move rfl) ?_; refine VO.callG [(out, .row 3 (.int .i64) (toldL l i 3))] rfl rfl rfl (VFG.call (zSort_ok (by omega))) ?_; rintro _ _ ⟨rfl, rfl⟩
    show VO _ _ _ _ _ _ [(out, .row 3 (.int .i64) (sortN (toldL l i 3))), (wis, .row 4 .bool (isA l tol i)), (wlv, .row 59 (.flt .f32) (lvA l tol i)), (ww11, .var [I (dvE l tol 0 i), I (dvE l tol 1 i), I (dvE l tol 2 i)]), (ww10, .var [St l.1.1, I l.1.2.1, .raw wlv, nilV]), (ww2, .var [I (0 : Int), I (0 : Int), I (0 : Int)]), (ww1, .var [St ByteArray.empty, I (0 : Int), .v y53 [], .v y22 []])] _
    refine VO.go (VC.seq ?_); refine VC.join [(1, I tol), (2, .p y88 l), (4, .raw ww1), (5, .raw ww2), (12, .p y167 (thereE l.1, thereE l.2.1, thereE l.2.2)), (13, .raw ww10), (14, .raw wis), (15, .raw ww11), (16, I ((i : Nat) : Int)), (17, .raw out), (20, B ((vE l tol i).2)), (91, I ((l.1.2.2.1.length : Nat) : Int)), (92, I ((i : Nat) : Int))] [(out, .row 3 (.int .i64) (sortN (toldL l i 3))), (wis, .row 4 .bool (isA l tol i)), (wlv, .row 59 (.flt .f32) (lvA l tol i)), (ww11, .var [I (dvE l tol 0 i), I (dvE l tol 1 i), I (dvE l tol 2 i)]), (ww10, .var [St l.1.1, I l.1.2.1, .raw wlv, nilV]), (ww2, .var [I (0 : Int), I (0 : Int), I (0 : Int)]), (ww1, .var [St ByteArray.empty, I (0 : Int), .v y53 [], .v y22 []])] ?_ ?_
    · skip
      refine VC.drawn ?_; refine VD.c (.move rfl) ?_; refine VD.r [(out, .row 3 (.int .i64) (sortN (toldL l i 3))), (wis, .row 4 .bool (isA l tol i)), (wlv, .row 59 (.flt .f32) (lvA l tol i)), (ww11, .var [I (dvE l tol 0 i), I (dvE l tol 1 i), I (dvE l tol 2 i)]), (ww10, .var [St l.1.1, I l.1.2.1, .raw wlv, nilV]), (ww2, .var [I (0 : Int), I (0 : Int), I (0 : Int)]), (ww1, .var [St ByteArray.empty, I (0 : Int), .v y53 [], .v y22 []])] (.lenO m0 el37) (.inr ⟨rfl, rfl⟩) ?_; refine VD.c (.eql) ?_; refine VD.c (.move rfl) ?_; refine VD.splitD (x := 121) rfl (fun g27_3 => ?_) (fun g27_3 => ?_)
      · refine VD.skip ?_; refine VD.nw [] ?_; refine VD.skip ?_; refine VD.skip ?_; refine VD.skip ?_; refine VD.skip ?_; refine VD.skip ?_; refine VD.skip ?_; refine VD.skip ?_; refine VD.nw [] ?_; refine VD.skip ?_; refine VD.skip ?_; refine VD.skip ?_; refine VD.skip ?_; refine VD.skip ?_; refine VD.skip ?_; refine VD.skip ?_; refine VD.nw [] ?_; refine VD.skip ?_; refine VD.skip ?_; refine VD.skip ?_; refine VD.c (.pickT rfl rfl) ?_; refine VD.c (.assign rfl) ?_; refine VD.nil ?_; exact ⟨⟨rfl, rfl, rfl, rfl, rfl, rfl, rfl, rfl, rfl, rfl, slE rfl (by first | exact (vote_3 (by omega)).symm | (rw [hla, ← hgt.2, vote_2 (by omega)]) | exact (vote_n (by omega) (by omega)).symm), rfl, rfl, trivial⟩, rfl⟩
      refine VD.c (.move rfl) ?_; refine VD.nw [] ?_; refine VD.r [(out, .row 3 (.int .i64) (sortN (toldL l i 3))), (wis, .row 4 .bool (isA l tol i)), (wlv, .row 59 (.flt .f32) (lvA l tol i)), (ww11, .var [I (dvE l tol 0 i), I (dvE l tol 1 i), I (dvE l tol 2 i)]), (ww10, .var [St l.1.1, I l.1.2.1, .raw wlv, nilV]), (ww2, .var [I (0 : Int), I (0 : Int), I (0 : Int)]), (ww1, .var [St ByteArray.empty, I (0 : Int), .v y53 [], .v y22 []])] (.lenO m0 el37) (.inr ⟨rfl, rfl⟩) ?_; refine VD.c (.eql) ?_; refine VD.c (.move rfl) ?_; refine VD.splitD (x := 125) rfl (fun g27_7 => ?_) (fun g27_7 => ?_)
      · have hla := at_last (l := sortN (toldL l i 3)) (by omega) (by omega)
        have hb0 := hsb _ (List.getElem_mem (show 0 < (sortN (toldL l i 3)).length by omega))
        have hb1 := hsb _ (List.getElem_mem (show 1 < (sortN (toldL l i 3)).length by omega))
        refine VD.c (.move rfl) ?_; refine VD.c (.move rfl) ?_; refine VD.r [(out, .row 3 (.int .i64) (sortN (toldL l i 3))), (wis, .row 4 .bool (isA l tol i)), (wlv, .row 59 (.flt .f32) (lvA l tol i)), (ww11, .var [I (dvE l tol 0 i), I (dvE l tol 1 i), I (dvE l tol 2 i)]), (ww10, .var [St l.1.1, I l.1.2.1, .raw wlv, nilV]), (ww2, .var [I (0 : Int), I (0 : Int), I (0 : Int)]), (ww1, .var [St ByteArray.empty, I (0 : Int), .v y53 [], .v y22 []])] (.lenO m0 el37) (.inr ⟨rfl, rfl⟩) ?_; refine VD.nw [] ?_; refine VD.c (.sub rfl rfl (by omega)) ?_; refine VD.r [] (.max) (.inl rfl) ?_; refine VD.co (.ixOZ (k := (max (0 : Int) ((((sortN (toldL l i 3)).length : Nat) : Int) - (1 : Int)))) rfl rfl m0 el37 (by omega) (by omega)) ?_; refine VD.r [(out, .row 3 (.int .i64) (sortN (toldL l i 3))), (wis, .row 4 .bool (isA l tol i)), (wlv, .row 59 (.flt .f32) (lvA l tol i)), (ww11, .var [I (dvE l tol 0 i), I (dvE l tol 1 i), I (dvE l tol 2 i)]), (ww10, .var [St l.1.1, I l.1.2.1, .raw wlv, nilV]), (ww2, .var [I (0 : Int), I (0 : Int), I (0 : Int)]), (ww1, .var [St ByteArray.empty, I (0 : Int), .v y53 [], .v y22 []])] (.ldO rfl m0 vt3 (by omega)) (.inr ⟨rfl, rfl⟩) ?_; refine VD.c (.move rfl) ?_; refine VD.co (.ixO (j := 0) rfl rfl m0 el37 (by omega)) ?_; refine VD.r [(out, .row 3 (.int .i64) (sortN (toldL l i 3))), (wis, .row 4 .bool (isA l tol i)), (wlv, .row 59 (.flt .f32) (lvA l tol i)), (ww11, .var [I (dvE l tol 0 i), I (dvE l tol 1 i), I (dvE l tol 2 i)]), (ww10, .var [St l.1.1, I l.1.2.1, .raw wlv, nilV]), (ww2, .var [I (0 : Int), I (0 : Int), I (0 : Int)]), (ww1, .var [St ByteArray.empty, I (0 : Int), .v y53 [], .v y22 []])] (.ldO rfl m0 vt3 (by omega)) (.inr ⟨rfl, rfl⟩) ?_; refine VD.nw [] ?_; refine VD.c (.sub rfl rfl (by rw [hla]; omega)) ?_; refine VD.c (.move rfl) ?_; refine VD.c (.leq) ?_; refine VD.c (.pickT rfl rfl) ?_; refine VD.c (.pickF rfl rfl) ?_; refine VD.c (.assign rfl) ?_; refine VD.nil ?_; exact ⟨⟨rfl, rfl, rfl, rfl, rfl, rfl, rfl, rfl, rfl, rfl, slE rfl (by first | exact (vote_3 (by omega)).symm | (rw [hla, ← hgt.2, vote_2 (by omega)]) | exact (vote_n (by omega) (by omega)).symm), rfl, rfl, trivial⟩, rfl⟩
      refine VD.skip ?_; refine VD.skip ?_; refine VD.skip ?_; refine VD.nw [] ?_; refine VD.skip ?_; refine VD.skip ?_; refine VD.skip ?_; refine VD.skip ?_; refine VD.skip ?_; refine VD.skip ?_; refine VD.skip ?_; refine VD.nw [] ?_; refine VD.skip ?_; refine VD.skip ?_; refine VD.skip ?_; refine VD.c (.pickF rfl rfl) ?_; refine VD.c (.pickF rfl rfl) ?_; refine VD.c (.assign rfl) ?_; refine VD.nil ?_; exact ⟨⟨rfl, rfl, rfl, rfl, rfl, rfl, rfl, rfl, rfl, rfl, slE rfl (by first | exact (vote_3 (by omega)).symm | (rw [hla, ← hgt.2, vote_2 (by omega)]) | exact (vote_n (by omega) (by omega)).symm), rfl, rfl, trivial⟩, rfl⟩
    refine VC.seq (VC.text ?_); refine VO.c (.assign rfl) ?_; refine VO.go (VC.seq (VC.seq ?_)); refine VC.shutL [(out, .row 3 (.int .i64) (sortN (toldL l i 3)))] [(17, .v y37 (sortN (toldL l i 3)))] rfl (.cons rfl (.row m0) .nil) ?_; refine VC.text ?_; refine VO.c (.move rfl) ?_; refine VO.go ?_; refine VC.join [(1, I tol), (2, .p y88 l), (4, .raw ww1), (5, .raw ww2), (12, .p y167 (thereE l.1, thereE l.2.1, thereE l.2.2)), (13, .raw ww10), (14, .raw wis), (15, .raw ww11), (16, I ((i : Nat) : Int)), (20, B ((vE l tol i).2)), (21, I ((vE l tol i).1)), (91, I ((l.1.2.2.1.length : Nat) : Int)), (92, I ((i : Nat) : Int))] [(wis, .row 4 .bool (isA l tol i)), (wlv, .row 59 (.flt .f32) (lvA l tol i)), (ww11, .var [I (dvE l tol 0 i), I (dvE l tol 1 i), I (dvE l tol 2 i)]), (ww10, .var [St l.1.1, I l.1.2.1, .raw wlv, nilV]), (ww2, .var [I (0 : Int), I (0 : Int), I (0 : Int)]), (ww1, .var [St ByteArray.empty, I (0 : Int), .v y53 [], .v y22 []])] ?_ ?_; refine VC.condB rfl (fun c29 => ?_) (fun c29 => ?_)
    · have hge := vote_ge (l := toldL l i 3) c29
      refine VC.text ?_; refine VO.c (.move rfl) ?_; refine VO.c (.ix (j := 1) rfl rfl el37 (by omega)) ?_; refine VO.r (.ld vt3) ?_; refine VO.c (.assign rfl) ?_; refine VO.nil ?_; exact ⟨⟨rfl, rfl, rfl, rfl, rfl, rfl, rfl, rfl, rfl, rfl, slI rfl (by first | exact (vote_1 (toldL_len 3) c29 (by omega)).symm | exact (vE_0 c29).symm), rfl, rfl, trivial⟩, rfl⟩
    · refine VC.skip ?_; exact ⟨⟨rfl, rfl, rfl, rfl, rfl, rfl, rfl, rfl, rfl, rfl, slI rfl (by first | exact (vote_1 (toldL_len 3) c29 (by omega)).symm | exact (vE_0 c29).symm), rfl, rfl, trivial⟩, rfl⟩
    refine VC.seq (VC.text ?_); refine VO.c (.faO (k := 2) m3) ?_; refine VO.r (.ldF (k := 2) m3 vt53) ?_; refine VO.c (.move rfl) ?_; refine VO.c (.cvIF .f32) ?_; refine VO.c (.fop (div32E hq.2.2)) ?_; refine VO.new (.lit [q16 (vE l tol i).1] el53) ?_; refine VO.perm swap1 ?_; refine VO.app rfl rfl el53 el53 (by simp; omega) ?_; intro ww15; refine VO.c (.faO (k := 2) m3) ?_; refine VO.perm swap3 ?_
    refine VO.one m1 fun ho16 => ?_
    refine VO.setF (cs' := [St l.1.1, I l.1.2.1, .raw ww15, nilV]) 2 vt53 (.raw rfl (agg_one ho16) ho16) ?_; refine VO.go (VC.seq (VC.text ?_)); refine VO.c (.move rfl) ?_; refine VO.c (.move rfl) ?_; refine VO.new (.lit [(vE l tol i).2] el156) ?_; refine VO.perm swap2 ?_; refine VO.app rfl rfl el156 el156 (by simp; omega) ?_; intro ww17; refine VO.c (.assign rfl) ?_; refine VO.go (VC.seq (VC.text ?_)); refine VO.r (.ld vt88) ?_; refine VO.c (.move rfl) ?_; refine VO.go (VC.block ?_); refine VC.unroll ?_; refine VC.seq (VC.text ?_); refine VO.c (.lss) ?_; refine VO.go (VC.seq ?_); refine VC.condT rfl ?_; refine VC.skip (VC.seq (VC.block (VC.seq (VC.text ?_)))); refine VO.c (.move rfl) ?_; refine VO.c (.ixA 0 (.l .o)) ?_; refine VO.cell (.alloc zt65) ?_; intro ww18; refine VO.c (.assign rfl) ?_; refine VO.setV (cs' := [St l.1.1, I l.1.2.1, .v y53 l.1.2.2.1, .v y22 l.1.2.2.2]) vt65 .v ?_; refine VO.shut [(23, .p y65 l.1)] (.cons rfl (.var m0 .refl) .nil) ?_; refine VO.go (VC.seq (VC.text ?_)); refine VO.c (.fa (.r (.r (.l .o)))) ?_; refine VO.r (.ld vt53) ?_; refine VO.c (.move rfl) ?_; refine VO.c (.ix (j := i) rfl rfl el53 (by omega)) ?_; refine VO.r (.ld vt59) ?_; refine VO.call rfl rfl (VF.call (gSixL_ok (by first | exact hV.lv 0 (by decide) _ (List.getElem_mem _) | exact hV.lv 1 (by decide) _ (List.getElem_mem _) | exact hV.lv 2 (by decide) _ (List.getElem_mem _)))) ?_; refine VO.c (.move rfl) ?_; refine VO.c (.sub rfl rfl (by omega)) ?_; refine VO.c (.assign rfl) ?_; refine VO.go (VC.seq ?_); refine VC.keep [(1, I tol), (2, .p y88 l), (4, .raw ww1), (5, .raw ww2), (12, .p y167 (thereE l.1, thereE l.2.1, thereE l.2.2)), (13, .raw ww10), (14, .raw ww17), (15, .raw ww11), (16, I ((i : Nat) : Int)), (20, B ((vE l tol i).2)), (21, I ((vE l tol i).1)), (22, I (0 : Int)), (24, I (sxE (l.1.2.2.1[i]) - (vE l tol i).1)), (91, I ((l.1.2.2.1.length : Nat) : Int)), (92, I ((i : Nat) : Int)), (157, .v y88 l), (158, I (0 : Int))] ⟨rfl, rfl, rfl, rfl, rfl, rfl, rfl, rfl, rfl, rfl, rfl, rfl, rfl, rfl, rfl, rfl, rfl, trivial⟩ ?_; refine VC.text ?_; refine VO.c (.move rfl) ?_; refine VO.c (.move rfl) ?_; refine VO.cg (r := (vE l tol i).2) (w := true) [] trivial (fun _ => (.move rfl)) ?_; refine VO.cg (r := (vE l tol i).2) (w := true) [(172, I (0 : Int))] ⟨rfl, trivial⟩ (fun _ => (.ixP 0 (τ' := (.sl .bool)) (dy := thereE l.1) (.l .o))) ?_; refine VO.rg (r := (vE l tol i).2) (w := true) [(173, .p (.sl .bool) (thereE l.1))] ⟨rfl, trivial⟩ (fun _ => (.ld vt156)) ?_; refine VO.cg (r := (vE l tol i).2) (w := true) [] trivial (fun _ => (.move rfl)) ?_; refine VO.cg (r := (vE l tol i).2) (w := true) [(174, .v (.sl .bool) (thereE l.1)), (175, I ((i : Nat) : Int))] ⟨rfl, rfl, trivial⟩ (fun hgd => have g37_1 : (vE l tol i).2 = true := (by simpa using hgd); (.ixD (j := i) rfl rfl false el156 (by omega))) ?_; refine VO.rg (r := (vE l tol i).2) (w := true) [(176, .p .bool ((thereE l.1).getD i false))] ⟨rfl, trivial⟩ (fun _ => (.ld vt4)) ?_; refine VO.c (.and) ?_; refine VO.c (.move rfl) ?_; refine VO.cg (r := (((vE l tol i).2) && ((thereE l.1).getD i false))) (w := true) [] trivial (fun _ => (.move rfl)) ?_; refine VO.cg (r := (((vE l tol i).2) && ((thereE l.1).getD i false))) (w := true) [] trivial (fun _ => (.move rfl)) ?_; refine VO.cg (r := (((vE l tol i).2) && ((thereE l.1).getD i false))) (w := true) [(181, I (sxE (l.1.2.2.1[i]) - (vE l tol i).1))] ⟨rfl, trivial⟩ (fun hgd => have g37_9 : (((vE l tol i).2) && ((thereE l.1).getD i false)) = true := (by simpa using hgd); (.neg rfl (by omega))) ?_; refine VO.rg (r := (((vE l tol i).2) && ((thereE l.1).getD i false))) (w := true) [(180, I (sxE (l.1.2.2.1[i]) - (vE l tol i).1)), (182, I (-(sxE (l.1.2.2.1[i]) - (vE l tol i).1)))] ⟨rfl, rfl, trivial⟩ (fun _ => (.max)) ?_; refine VO.cg (r := (((vE l tol i).2) && ((thereE l.1).getD i false))) (w := true) [] trivial (fun _ => (.move rfl)) ?_; refine VO.cg (r := (((vE l tol i).2) && ((thereE l.1).getD i false))) (w := true) [(183, I (max (sxE (l.1.2.2.1[i]) - (vE l tol i).1) (-(sxE (l.1.2.2.1[i]) - (vE l tol i).1)))), (184, I tol)] ⟨rfl, rfl, trivial⟩ (fun _ => (.gtr)) ?_; refine VO.c (.and) ?_; refine VO.go ?_; refine VC.join [(1, I tol), (2, .p y88 l), (4, .raw ww1), (5, .raw ww2), (12, .p y167 (thereE l.1, thereE l.2.1, thereE l.2.2)), (13, .raw ww10), (14, .raw ww17), (15, .raw ww11), (16, I ((i : Nat) : Int)), (20, B ((vE l tol i).2)), (21, I ((vE l tol i).1)), (91, I ((l.1.2.2.1.length : Nat) : Int)), (92, I ((i : Nat) : Int)), (157, .v y88 l), (158, I (0 : Int))] [(ww17, .row 4 .bool ((isA l tol i) ++ [(vE l tol i).2])), (ww10, .var [St l.1.1, I l.1.2.1, .raw ww15, nilV]), (ww15, .row 59 (.flt .f32) ((lvA l tol i) ++ [q16 (vE l tol i).1])), (ww11, .var [I (dvK l tol i 0 0), I (dvK l tol i 1 0), I (dvK l tol i 2 0)]), (ww2, .var [I (0 : Int), I (0 : Int), I (0 : Int)]), (ww1, .var [St ByteArray.empty, I (0 : Int), .v y53 [], .v y22 []])] ?_ ?_; refine VC.condB rfl (fun c37 => ?_) (fun c37 => ?_)
    · try simp only [Bool.and_eq_true, Bool.or_eq_true, Bool.and_eq_false_iff, Bool.or_eq_false_iff, Bool.not_eq_true', Bool.not_eq_false', decide_eq_true_eq, decide_eq_false_iff_not] at c37
      refine VC.text ?_; refine VO.c (.move rfl) ?_; refine VO.c (.ixV 0 (k := 0) (τ' := (.int .i64)) m3) ?_; refine VO.r (.ldF (k := 0) m3 vt3) ?_; refine VO.c (.add rfl rfl (by omega)) ?_; refine VO.c (.ixV 0 (k := 0) (τ' := (.int .i64)) m3) ?_; refine VO.perm swap3 ?_; refine VO.setF (cs' := [I ((dvE l tol 0 i) + (1 : Int)), I (dvE l tol 1 i), I (dvE l tol 2 i)]) 0 vt3 .v ?_; refine VO.perm swap5 ?_; refine VO.perm swap5 ?_; refine VO.perm swap2 ?_; refine VO.perm swap5 ?_; refine VO.perm swap5 ?_; refine VO.perm swap5 ?_; refine VO.nil ?_; exact ⟨⟨rfl, rfl, rfl, rfl, rfl, rfl, rfl, rfl, rfl, rfl, rfl, rfl, rfl, rfl, rfl, trivial⟩, (by first | (rw [show dvK l tol i 0 0 = dvE l tol 0 i + 1 from dvE_t (hv0.trans (and3_t c37))]; rfl) | (rw [show dvK l tol i 0 0 = dvE l tol 0 i from dvE_f (hv0.trans (and3_f c37))]; rfl) | (rw [show dvK l tol i 1 1 = dvE l tol 1 i + 1 from dvE_t (hv1.trans (and3_t c37))]; rfl) | (rw [show dvK l tol i 1 1 = dvE l tol 1 i from dvE_f (hv1.trans (and3_f c37))]; rfl) | (rw [show dvK l tol i 2 2 = dvE l tol 2 i + 1 from dvE_t (hv2.trans (and3_t c37))]; rfl) | (rw [show dvK l tol i 2 2 = dvE l tol 2 i from dvE_f (hv2.trans (and3_f c37))]; rfl))⟩
    · try simp only [Bool.and_eq_true, Bool.or_eq_true, Bool.and_eq_false_iff, Bool.or_eq_false_iff, Bool.not_eq_true', Bool.not_eq_false', decide_eq_true_eq, decide_eq_false_iff_not] at c37
      refine VC.skip ?_; exact ⟨⟨rfl, rfl, rfl, rfl, rfl, rfl, rfl, rfl, rfl, rfl, rfl, rfl, rfl, rfl, rfl, trivial⟩, (by first | (rw [show dvK l tol i 0 0 = dvE l tol 0 i + 1 from dvE_t (hv0.trans (and3_t c37))]; rfl) | (rw [show dvK l tol i 0 0 = dvE l tol 0 i from dvE_f (hv0.trans (and3_f c37))]; rfl) | (rw [show dvK l tol i 1 1 = dvE l tol 1 i + 1 from dvE_t (hv1.trans (and3_t c37))]; rfl) | (rw [show dvK l tol i 1 1 = dvE l tol 1 i from dvE_f (hv1.trans (and3_f c37))]; rfl) | (rw [show dvK l tol i 2 2 = dvE l tol 2 i + 1 from dvE_t (hv2.trans (and3_t c37))]; rfl) | (rw [show dvK l tol i 2 2 = dvE l tol 2 i from dvE_f (hv2.trans (and3_f c37))]; rfl))⟩
    refine VC.text ?_; refine VO.c (.add rfl rfl (by decide)) ?_; refine VO.c (.move rfl) ?_; refine VO.nil ?_; refine VC.unroll ?_; refine VC.seq (VC.text ?_); refine VO.c (.lss) ?_; refine VO.go (VC.seq ?_); refine VC.condT rfl ?_; refine VC.skip (VC.seq (VC.block (VC.seq (VC.text ?_)))); refine VO.c (.move rfl) ?_; refine VO.c (.ixA 1 (.r (.l .o))) ?_; refine VO.cell (.alloc zt65) ?_; intro ww19; refine VO.c (.assign rfl) ?_; refine VO.setV (cs' := [St l.2.1.1, I l.2.1.2.1, .v y53 l.2.1.2.2.1, .v y22 l.2.1.2.2.2]) vt65 .v ?_; refine VO.shut [(23, .p y65 l.2.1)] (.cons rfl (.var m0 .refl) .nil) ?_; refine VO.go (VC.seq (VC.text ?_)); refine VO.c (.fa (.r (.r (.l .o)))) ?_; refine VO.r (.ld vt53) ?_; refine VO.c (.move rfl) ?_; refine VO.c (.ix (j := i) rfl rfl el53 (by omega)) ?_; refine VO.r (.ld vt59) ?_; refine VO.call rfl rfl (VF.call (gSixL_ok (by first | exact hV.lv 0 (by decide) _ (List.getElem_mem _) | exact hV.lv 1 (by decide) _ (List.getElem_mem _) | exact hV.lv 2 (by decide) _ (List.getElem_mem _)))) ?_; refine VO.c (.move rfl) ?_; refine VO.c (.sub rfl rfl (by omega)) ?_; refine VO.c (.assign rfl) ?_; refine VO.go (VC.seq (VC.text ?_)); refine VO.c (.move rfl) ?_; refine VO.c (.move rfl) ?_; refine VO.cg (r := (vE l tol i).2) (w := true) [] trivial (fun _ => (.move rfl)) ?_; refine VO.cg (r := (vE l tol i).2) (w := true) [(172, I (1 : Int))] ⟨rfl, trivial⟩ (fun _ => (.ixP 1 (τ' := (.sl .bool)) (dy := thereE l.2.1) (.r (.l .o)))) ?_; refine VO.rg (r := (vE l tol i).2) (w := true) [(173, .p (.sl .bool) (thereE l.2.1))] ⟨rfl, trivial⟩ (fun _ => (.ld vt156)) ?_; refine VO.cg (r := (vE l tol i).2) (w := true) [] trivial (fun _ => (.move rfl)) ?_; refine VO.cg (r := (vE l tol i).2) (w := true) [(174, .v (.sl .bool) (thereE l.2.1)), (175, I ((i : Nat) : Int))] ⟨rfl, rfl, trivial⟩ (fun hgd => have g37_1 : (vE l tol i).2 = true := (by simpa using hgd); (.ixD (j := i) rfl rfl false el156 (by omega))) ?_; refine VO.rg (r := (vE l tol i).2) (w := true) [(176, .p .bool ((thereE l.2.1).getD i false))] ⟨rfl, trivial⟩ (fun _ => (.ld vt4)) ?_; refine VO.c (.and) ?_; refine VO.c (.move rfl) ?_; refine VO.cg (r := (((vE l tol i).2) && ((thereE l.2.1).getD i false))) (w := true) [] trivial (fun _ => (.move rfl)) ?_; refine VO.cg (r := (((vE l tol i).2) && ((thereE l.2.1).getD i false))) (w := true) [] trivial (fun _ => (.move rfl)) ?_; refine VO.cg (r := (((vE l tol i).2) && ((thereE l.2.1).getD i false))) (w := true) [(181, I (sxE (l.2.1.2.2.1[i]) - (vE l tol i).1))] ⟨rfl, trivial⟩ (fun hgd => have g37_9 : (((vE l tol i).2) && ((thereE l.2.1).getD i false)) = true := (by simpa using hgd); (.neg rfl (by omega))) ?_; refine VO.rg (r := (((vE l tol i).2) && ((thereE l.2.1).getD i false))) (w := true) [(180, I (sxE (l.2.1.2.2.1[i]) - (vE l tol i).1)), (182, I (-(sxE (l.2.1.2.2.1[i]) - (vE l tol i).1)))] ⟨rfl, rfl, trivial⟩ (fun _ => (.max)) ?_; refine VO.cg (r := (((vE l tol i).2) && ((thereE l.2.1).getD i false))) (w := true) [] trivial (fun _ => (.move rfl)) ?_; refine VO.cg (r := (((vE l tol i).2) && ((thereE l.2.1).getD i false))) (w := true) [(183, I (max (sxE (l.2.1.2.2.1[i]) - (vE l tol i).1) (-(sxE (l.2.1.2.2.1[i]) - (vE l tol i).1)))), (184, I tol)] ⟨rfl, rfl, trivial⟩ (fun _ => (.gtr)) ?_; refine VO.c (.and) ?_; refine VO.go ?_; refine VC.join [(1, I tol), (2, .p y88 l), (4, .raw ww1), (5, .raw ww2), (12, .p y167 (thereE l.1, thereE l.2.1, thereE l.2.2)), (13, .raw ww10), (14, .raw ww17), (15, .raw ww11), (16, I ((i : Nat) : Int)), (20, B ((vE l tol i).2)), (21, I ((vE l tol i).1)), (91, I ((l.1.2.2.1.length : Nat) : Int)), (92, I ((i : Nat) : Int)), (157, .v y88 l), (158, I (1 : Int))] [(ww17, .row 4 .bool ((isA l tol i) ++ [(vE l tol i).2])), (ww10, .var [St l.1.1, I l.1.2.1, .raw ww15, nilV]), (ww15, .row 59 (.flt .f32) ((lvA l tol i) ++ [q16 (vE l tol i).1])), (ww11, .var [I (dvK l tol i 0 1), I (dvK l tol i 1 1), I (dvK l tol i 2 1)]), (ww2, .var [I (0 : Int), I (0 : Int), I (0 : Int)]), (ww1, .var [St ByteArray.empty, I (0 : Int), .v y53 [], .v y22 []])] ?_ ?_; refine VC.condB rfl (fun c37 => ?_) (fun c37 => ?_)
    · try simp only [Bool.and_eq_true, Bool.or_eq_true, Bool.and_eq_false_iff, Bool.or_eq_false_iff, Bool.not_eq_true', Bool.not_eq_false', decide_eq_true_eq, decide_eq_false_iff_not] at c37
      refine VC.text ?_; refine VO.c (.move rfl) ?_; refine VO.c (.ixV 1 (k := 1) (τ' := (.int .i64)) m3) ?_; refine VO.r (.ldF (k := 1) m3 vt3) ?_; refine VO.c (.add rfl rfl (by omega)) ?_; refine VO.c (.ixV 1 (k := 1) (τ' := (.int .i64)) m3) ?_; refine VO.perm swap3 ?_; refine VO.setF (cs' := [I (dvK l tol i 0 0), I ((dvK l tol i 1 0) + (1 : Int)), I (dvK l tol i 2 0)]) 1 vt3 .v ?_; refine VO.perm swap5 ?_; refine VO.perm swap5 ?_; refine VO.perm swap2 ?_; refine VO.perm swap5 ?_; refine VO.perm swap5 ?_; refine VO.perm swap5 ?_; refine VO.nil ?_; exact ⟨⟨rfl, rfl, rfl, rfl, rfl, rfl, rfl, rfl, rfl, rfl, rfl, rfl, rfl, rfl, rfl, trivial⟩, (by first | (rw [show dvK l tol i 0 0 = dvE l tol 0 i + 1 from dvE_t (hv0.trans (and3_t c37))]; rfl) | (rw [show dvK l tol i 0 0 = dvE l tol 0 i from dvE_f (hv0.trans (and3_f c37))]; rfl) | (rw [show dvK l tol i 1 1 = dvE l tol 1 i + 1 from dvE_t (hv1.trans (and3_t c37))]; rfl) | (rw [show dvK l tol i 1 1 = dvE l tol 1 i from dvE_f (hv1.trans (and3_f c37))]; rfl) | (rw [show dvK l tol i 2 2 = dvE l tol 2 i + 1 from dvE_t (hv2.trans (and3_t c37))]; rfl) | (rw [show dvK l tol i 2 2 = dvE l tol 2 i from dvE_f (hv2.trans (and3_f c37))]; rfl))⟩
    · try simp only [Bool.and_eq_true, Bool.or_eq_true, Bool.and_eq_false_iff, Bool.or_eq_false_iff, Bool.not_eq_true', Bool.not_eq_false', decide_eq_true_eq, decide_eq_false_iff_not] at c37
      refine VC.skip ?_; exact ⟨⟨rfl, rfl, rfl, rfl, rfl, rfl, rfl, rfl, rfl, rfl, rfl, rfl, rfl, rfl, rfl, trivial⟩, (by first | (rw [show dvK l tol i 0 0 = dvE l tol 0 i + 1 from dvE_t (hv0.trans (and3_t c37))]; rfl) | (rw [show dvK l tol i 0 0 = dvE l tol 0 i from dvE_f (hv0.trans (and3_f c37))]; rfl) | (rw [show dvK l tol i 1 1 = dvE l tol 1 i + 1 from dvE_t (hv1.trans (and3_t c37))]; rfl) | (rw [show dvK l tol i 1 1 = dvE l tol 1 i from dvE_f (hv1.trans (and3_f c37))]; rfl) | (rw [show dvK l tol i 2 2 = dvE l tol 2 i + 1 from dvE_t (hv2.trans (and3_t c37))]; rfl) | (rw [show dvK l tol i 2 2 = dvE l tol 2 i from dvE_f (hv2.trans (and3_f c37))]; rfl))⟩
    refine VC.text ?_; refine VO.c (.add rfl rfl (by decide)) ?_; refine VO.c (.move rfl) ?_; refine VO.nil ?_; refine VC.unroll ?_; refine VC.seq (VC.text ?_); refine VO.c (.lss) ?_; refine VO.go (VC.seq ?_); refine VC.condT rfl ?_; refine VC.skip (VC.seq (VC.block (VC.seq (VC.text ?_)))); refine VO.c (.move rfl) ?_; refine VO.c (.ixA 2 (.r (.r .o))) ?_; refine VO.cell (.alloc zt65) ?_; intro ww20; refine VO.c (.assign rfl) ?_; refine VO.setV (cs' := [St l.2.2.1, I l.2.2.2.1, .v y53 l.2.2.2.2.1, .v y22 l.2.2.2.2.2]) vt65 .v ?_; refine VO.shut [(23, .p y65 l.2.2)] (.cons rfl (.var m0 .refl) .nil) ?_; refine VO.go (VC.seq ?_); refine VC.keep [(1, I tol), (2, .p y88 l), (4, .raw ww1), (5, .raw ww2), (12, .p y167 (thereE l.1, thereE l.2.1, thereE l.2.2)), (13, .raw ww10), (14, .raw ww17), (15, .raw ww11), (16, I ((i : Nat) : Int)), (20, B ((vE l tol i).2)), (21, I ((vE l tol i).1)), (22, I (2 : Int)), (23, .p y65 l.2.2), (91, I ((l.1.2.2.1.length : Nat) : Int)), (92, I ((i : Nat) : Int)), (157, .v y88 l), (158, I (2 : Int))] ⟨rfl, rfl, rfl, rfl, rfl, rfl, rfl, rfl, rfl, rfl, rfl, rfl, rfl, rfl, rfl, rfl, rfl, trivial⟩ ?_; refine VC.text ?_; refine VO.c (.fa (.r (.r (.l .o)))) ?_; refine VO.r (.ld vt53) ?_; refine VO.c (.move rfl) ?_; refine VO.c (.ix (j := i) rfl rfl el53 (by omega)) ?_; refine VO.r (.ld vt59) ?_; refine VO.call rfl rfl (VF.call (gSixL_ok (by first | exact hV.lv 0 (by decide) _ (List.getElem_mem _) | exact hV.lv 1 (by decide) _ (List.getElem_mem _) | exact hV.lv 2 (by decide) _ (List.getElem_mem _)))) ?_; refine VO.c (.move rfl) ?_; refine VO.c (.sub rfl rfl (by omega)) ?_; refine VO.c (.assign rfl) ?_; refine VO.go (VC.seq (VC.text ?_)); refine VO.c (.move rfl) ?_; refine VO.c (.move rfl) ?_; refine VO.cg (r := (vE l tol i).2) (w := true) [] trivial (fun _ => (.move rfl)) ?_; refine VO.cg (r := (vE l tol i).2) (w := true) [(172, I (2 : Int))] ⟨rfl, trivial⟩ (fun _ => (.ixP 2 (τ' := (.sl .bool)) (dy := thereE l.2.2) (.r (.r (k := 0) .o)))) ?_; refine VO.rg (r := (vE l tol i).2) (w := true) [(173, .p (.sl .bool) (thereE l.2.2))] ⟨rfl, trivial⟩ (fun _ => (.ld vt156)) ?_; refine VO.cg (r := (vE l tol i).2) (w := true) [] trivial (fun _ => (.move rfl)) ?_; refine VO.cg (r := (vE l tol i).2) (w := true) [(174, .v (.sl .bool) (thereE l.2.2)), (175, I ((i : Nat) : Int))] ⟨rfl, rfl, trivial⟩ (fun hgd => have g37_1 : (vE l tol i).2 = true := (by simpa using hgd); (.ixD (j := i) rfl rfl false el156 (by omega))) ?_; refine VO.rg (r := (vE l tol i).2) (w := true) [(176, .p .bool ((thereE l.2.2).getD i false))] ⟨rfl, trivial⟩ (fun _ => (.ld vt4)) ?_; refine VO.c (.and) ?_; refine VO.c (.move rfl) ?_; refine VO.cg (r := (((vE l tol i).2) && ((thereE l.2.2).getD i false))) (w := true) [] trivial (fun _ => (.move rfl)) ?_; refine VO.cg (r := (((vE l tol i).2) && ((thereE l.2.2).getD i false))) (w := true) [] trivial (fun _ => (.move rfl)) ?_; refine VO.cg (r := (((vE l tol i).2) && ((thereE l.2.2).getD i false))) (w := true) [(181, I (sxE (l.2.2.2.2.1[i]) - (vE l tol i).1))] ⟨rfl, trivial⟩ (fun hgd => have g37_9 : (((vE l tol i).2) && ((thereE l.2.2).getD i false)) = true := (by simpa using hgd); (.neg rfl (by omega))) ?_; refine VO.rg (r := (((vE l tol i).2) && ((thereE l.2.2).getD i false))) (w := true) [(180, I (sxE (l.2.2.2.2.1[i]) - (vE l tol i).1)), (182, I (-(sxE (l.2.2.2.2.1[i]) - (vE l tol i).1)))] ⟨rfl, rfl, trivial⟩ (fun _ => (.max)) ?_; refine VO.cg (r := (((vE l tol i).2) && ((thereE l.2.2).getD i false))) (w := true) [] trivial (fun _ => (.move rfl)) ?_; refine VO.cg (r := (((vE l tol i).2) && ((thereE l.2.2).getD i false))) (w := true) [(183, I (max (sxE (l.2.2.2.2.1[i]) - (vE l tol i).1) (-(sxE (l.2.2.2.2.1[i]) - (vE l tol i).1)))), (184, I tol)] ⟨rfl, rfl, trivial⟩ (fun _ => (.gtr)) ?_; refine VO.c (.and) ?_; refine VO.go ?_; refine VC.join [(1, I tol), (2, .p y88 l), (4, .raw ww1), (5, .raw ww2), (12, .p y167 (thereE l.1, thereE l.2.1, thereE l.2.2)), (13, .raw ww10), (14, .raw ww17), (15, .raw ww11), (16, I ((i : Nat) : Int)), (20, B ((vE l tol i).2)), (21, I ((vE l tol i).1)), (91, I ((l.1.2.2.1.length : Nat) : Int)), (92, I ((i : Nat) : Int)), (157, .v y88 l), (158, I (2 : Int))] [(ww17, .row 4 .bool ((isA l tol i) ++ [(vE l tol i).2])), (ww10, .var [St l.1.1, I l.1.2.1, .raw ww15, nilV]), (ww15, .row 59 (.flt .f32) ((lvA l tol i) ++ [q16 (vE l tol i).1])), (ww11, .var [I (dvK l tol i 0 2), I (dvK l tol i 1 2), I (dvK l tol i 2 2)]), (ww2, .var [I (0 : Int), I (0 : Int), I (0 : Int)]), (ww1, .var [St ByteArray.empty, I (0 : Int), .v y53 [], .v y22 []])] ?_ ?_; refine VC.condB rfl (fun c37 => ?_) (fun c37 => ?_)
    · try simp only [Bool.and_eq_true, Bool.or_eq_true, Bool.and_eq_false_iff, Bool.or_eq_false_iff, Bool.not_eq_true', Bool.not_eq_false', decide_eq_true_eq, decide_eq_false_iff_not] at c37
      refine VC.text ?_; refine VO.c (.move rfl) ?_; refine VO.c (.ixV 2 (k := 2) (τ' := (.int .i64)) m3) ?_; refine VO.r (.ldF (k := 2) m3 vt3) ?_; refine VO.c (.add rfl rfl (by omega)) ?_; refine VO.c (.ixV 2 (k := 2) (τ' := (.int .i64)) m3) ?_; refine VO.perm swap3 ?_; refine VO.setF (cs' := [I (dvK l tol i 0 1), I (dvK l tol i 1 1), I ((dvK l tol i 2 1) + (1 : Int))]) 2 vt3 .v ?_; refine VO.perm swap5 ?_; refine VO.perm swap5 ?_; refine VO.perm swap2 ?_; refine VO.perm swap5 ?_; refine VO.perm swap5 ?_; refine VO.perm swap5 ?_; refine VO.nil ?_; exact ⟨⟨rfl, rfl, rfl, rfl, rfl, rfl, rfl, rfl, rfl, rfl, rfl, rfl, rfl, rfl, rfl, trivial⟩, (by first | (rw [show dvK l tol i 0 0 = dvE l tol 0 i + 1 from dvE_t (hv0.trans (and3_t c37))]; rfl) | (rw [show dvK l tol i 0 0 = dvE l tol 0 i from dvE_f (hv0.trans (and3_f c37))]; rfl) | (rw [show dvK l tol i 1 1 = dvE l tol 1 i + 1 from dvE_t (hv1.trans (and3_t c37))]; rfl) | (rw [show dvK l tol i 1 1 = dvE l tol 1 i from dvE_f (hv1.trans (and3_f c37))]; rfl) | (rw [show dvK l tol i 2 2 = dvE l tol 2 i + 1 from dvE_t (hv2.trans (and3_t c37))]; rfl) | (rw [show dvK l tol i 2 2 = dvE l tol 2 i from dvE_f (hv2.trans (and3_f c37))]; rfl))⟩
    · try simp only [Bool.and_eq_true, Bool.or_eq_true, Bool.and_eq_false_iff, Bool.or_eq_false_iff, Bool.not_eq_true', Bool.not_eq_false', decide_eq_true_eq, decide_eq_false_iff_not] at c37
      refine VC.skip ?_; exact ⟨⟨rfl, rfl, rfl, rfl, rfl, rfl, rfl, rfl, rfl, rfl, rfl, rfl, rfl, rfl, rfl, trivial⟩, (by first | (rw [show dvK l tol i 0 0 = dvE l tol 0 i + 1 from dvE_t (hv0.trans (and3_t c37))]; rfl) | (rw [show dvK l tol i 0 0 = dvE l tol 0 i from dvE_f (hv0.trans (and3_f c37))]; rfl) | (rw [show dvK l tol i 1 1 = dvE l tol 1 i + 1 from dvE_t (hv1.trans (and3_t c37))]; rfl) | (rw [show dvK l tol i 1 1 = dvE l tol 1 i from dvE_f (hv1.trans (and3_f c37))]; rfl) | (rw [show dvK l tol i 2 2 = dvE l tol 2 i + 1 from dvE_t (hv2.trans (and3_t c37))]; rfl) | (rw [show dvK l tol i 2 2 = dvE l tol 2 i from dvE_f (hv2.trans (and3_f c37))]; rfl))⟩
    refine VC.text ?_; refine VO.c (.add rfl rfl (by decide)) ?_; refine VO.c (.move rfl) ?_; refine VO.nil ?_; refine VC.unroll ?_; refine VC.seq (VC.text ?_); refine VO.c (.lss) ?_; refine VO.go (VC.seq ?_); refine VC.condF rfl ?_; refine VC.exit (VC.text ?_); refine VO.c (.add rfl rfl (by omega)) ?_; refine VO.c (.move rfl) ?_; refine VO.perm swap5 ?_; refine VO.perm swap5 ?_; refine VO.perm swap3 ?_; refine VO.perm swap5 ?_; refine VO.perm swap5 ?_; refine VO.perm swap5 ?_; refine VO.nil ?_; refine ⟨_, [(1, I tol), (2, .p y88 l), (4, .raw ww1), (5, .raw ww2), (12, .p y167 (thereE l.1, thereE l.2.1, thereE l.2.2)), (13, .raw ww10), (14, .raw ww17), (15, .raw ww11), (91, I ((l.1.2.2.1.length : Nat) : Int)), (92, I (((i + 1) : Nat) : Int))], ?_, ⟨rfl, rfl, rfl, rfl, rfl, rfl, rfl, rfl, rfl, rfl, trivial⟩, (i + 1), ww17, ww15, rfl, rfl, (by rw [lvA_s, isA_s] <;> rfl), (by omega), (by exact isA_len), (by exact lvA_len)⟩
    omega
  refine VC.exit (VC.seq ?_); refine VC.perm swap3 ?_; refine VC.perm swap2 ?_; refine VC.shutL [(wlv, .row 59 (.flt .f32) (lvA l tol i)), (ww10, .var [St l.1.1, I l.1.2.1, .raw wlv, nilV])] [(13, .p y65 (l.1.1, l.1.2.1, (lvA l tol i), []))] rfl (.cons rfl (.var m1 (.cons .same (.cons .same (.cons (.row m0) (.cons .nil .nil))))) .nil) ?_; refine VC.shutL [(wis, .row 4 .bool (isA l tol i))] [(14, .v (.sl .bool) (isA l tol i))] rfl (.cons rfl (.row m0) .nil) ?_; refine VC.perm swap1 ?_; refine VC.perm swap2 ?_; refine VC.late [(ww11, .var [I (dvE l tol 0 i), I (dvE l tol 1 i), I (dvE l tol 2 i)])] ⟨[(ww1, .var [St ByteArray.empty, I (0 : Int), .v y53 [], .v y22 []]), (ww2, .var [I (0 : Int), I (0 : Int), I (0 : Int)])], rfl⟩ ?_
  have hie : i = l.1.2.2.1.length := by omega
  have hlv : ∀ x ∈ lvA l tol i, lvlE x = 0 := fun x hx => by
    obtain ⟨j, _, rfl⟩ := List.mem_map.1 hx
    exact (q16_ok (vE_bnd hV.lv)).1
  refine VLt.q rfl (.ld vt65) ?_; refine VLt.c (.move rfl) ?_; refine VLt.callO rfl rfl (VF.call (gKeeping_ok (by show (lvA l tol i).length < _; omega) (by show (isA l tol i).length = (lvA l tol i).length; omega) hlv)) ?_; refine VLt.qo rfl m0 (.inl rfl) (.ldA (dx := ((dvE l tol 0 i), (dvE l tol 1 i), (dvE l tol 2 i))) m0 vt85) ?_; refine VLt.mk0 (MakeV.setF (k := 0) vt65 .v (Nat.le_of_ble_eq_true rfl) (.inr ⟨rfl, rfl⟩) rfl rfl) (TurnV.store rfl (.inl rfl)) ⟨[(ww2, .var [I (0 : Int), I (0 : Int), I (0 : Int)])], rfl⟩ ?_; rintro _ _ ⟨rfl, rfl⟩; refine ⟨⟨[(ww1, .var [St l.1.1, I l.1.2.1, .v y53 (keptL (l.1.1, l.1.2.1, (lvA l tol i), []) (isA l tol i) plusZ (isA l tol i).length), .v y22 (gapsE (isA l tol i) (isA l tol i).length)]), (ww2, .var [I (0 : Int), I (0 : Int), I (0 : Int)])], rfl⟩, ?_⟩; refine VLt.perm swap1 ⟨[(ww2, .var [I (0 : Int), I (0 : Int), I (0 : Int)]), (ww1, .var [St l.1.1, I l.1.2.1, .v y53 (keptL (l.1.1, l.1.2.1, (lvA l tol i), []) (isA l tol i) plusZ (isA l tol i).length), .v y22 (gapsE (isA l tol i) (isA l tol i).length)])], rfl⟩ ?_; refine VLt.mk0 (MakeV.setF (k := 0) vt85 .v (Nat.le_of_ble_eq_true rfl) (.inr ⟨rfl, rfl⟩) rfl rfl) (TurnV.store rfl (.inl rfl)) ⟨[(ww1, .var [St l.1.1, I l.1.2.1, .v y53 (keptL (l.1.1, l.1.2.1, (lvA l tol i), []) (isA l tol i) plusZ (isA l tol i).length), .v y22 (gapsE (isA l tol i) (isA l tol i).length)])], rfl⟩ ?_; rintro _ _ ⟨rfl, rfl⟩; refine ⟨⟨[(ww2, .var [I (dvE l tol 0 i), I (dvE l tol 1 i), I (dvE l tol 2 i)]), (ww1, .var [St l.1.1, I l.1.2.1, .v y53 (keptL (l.1.1, l.1.2.1, (lvA l tol i), []) (isA l tol i) plusZ (isA l tol i).length), .v y22 (gapsE (isA l tol i) (isA l tol i).length)])], rfl⟩, ?_⟩; refine VLt.nws [196] ?_; refine VLt.c (.assign rfl) ?_; refine VLt.go ?_; refine VC.ret ?_; exact VEnd.three rfl (.cell (x := (l.1.1, l.1.2.1, keptL (l.1.1, l.1.2.1, (lvA l tol i), []) (isA l tol i) plusZ (isA l tol i).length, gapsE (isA l tol i) (isA l tol i).length)) rfl m1 vt65 .refl) (.cell (x := ((dvE l tol 0 i), (dvE l tol 1 i), (dvE l tol 2 i))) rfl m0 vt85 .refl) evT (pvE (by rw [hie, lvA_V, isA_V, voteR, if_neg (by rw [hvc]; decide)]; rfl)) (pvE (by rw [hie, voteO, if_neg (by rw [hvc]; decide)])) (pvI (by exact hvc.symm))
end Go.Proofs
namespace Go.Proofs
open Go.Fs Ieee
set_option linter.unusedVariables false
set_option maxHeartbeats 400000
theorem vt84 : ValT Tryz.prog 84 y84 := valT_of (by kernel_rfl)
theorem zt88 : ZerT Tryz.prog 88 y88 := zerT_of (z := .agg #[.string ByteArray.empty, .int .i64 0, .slice none 0 0, .slice none 0 0, .string ByteArray.empty, .int .i64 0, .slice none 0 0, .slice none 0 0, .string ByteArray.empty, .int .i64 0, .slice none 0 0, .slice none 0 0]) (by kernel_rfl) rfl rfl
theorem bt88 : BldT Tryz.prog 88 y88 [(0, 4), (4, 4), (8, 4)] := bldT_of zt88 rfl (by kernel_rfl)
def badV (l : Rec3) (tol : Int) : Int := if firstE [recE l.1, recE l.2.1, recE l.2.2, rangeE tol 0 2048] ≠ 0 then firstE [recE l.1, recE l.2.1, recE l.2.2, rangeE tol 0 2048] else if sameSh l then 0 else 2
theorem firstE_c (x : Int) (l : List Int) : firstE (x :: l) = if x = 0 then firstE l else x := rfl
theorem firstE_4 {a b c d : Int} : firstE [firstE [a, b, c], d] = firstE [a, b, c, d] := by
  simp only [firstE_c, show firstE [] = 0 from rfl]
  by_cases ha : a = 0
  · by_cases hb : b = 0
    · by_cases hc : c = 0
      · simp [ha, hb, hc]
      simp [ha, hb, hc]
    simp [ha, hb]
  simp [ha]
theorem badV_C {l : Rec3} {tol : Int} : badV l tol = voteC l tol := by
  unfold badV voteC votC1
  rw [show [l.1, l.2.1, l.2.2].map recE = [recE l.1, recE l.2.1, recE l.2.2] from rfl, firstE_4]
theorem toldV_bad {l : Rec3} {tol : Int} {w : Rec1} (h : badV l tol ≠ 0) : toldE (voteR l tol) (voteC l tol) (badV l tol) w = true ∧ voteO l tol = (0, 0, 0) := by
  have h2 : voteC l tol ≠ 0 := by rw [← badV_C]; exact h
  have hz : sameRec zRec zRec = true := by decide +kernel
  refine ⟨?_, by rw [voteO, if_pos h2]⟩
  rw [toldE, if_pos h, voteR, if_pos h2, hz, badV_C, decide_eq_true rfl] <;> rfl
theorem same_kept2 {r : Rec1} {l : List Bool} {n : Nat} (hv : ∀ x ∈ r.2.2.1, lvlE x = 0) : sameLv (keptL r l plusZ n) (keptL r l id n) = true := by
  have neq_z : fcmpE .neq .f32 0 0 = false := by decide +kernel
  refine decide_eq_true ⟨by rw [keptL_len, keptL_len], fun i hi => ?_⟩
  rw [keptL_len] at hi
  rw [getDat (by rw [keptL_len]; exact hi), getDat (by rw [keptL_len]; exact hi), keptL_at hi, keptL_at hi]
  by_cases hc : i < n ∧ l.getD i false = true
  · rw [if_pos hc, if_pos hc, getDat hi]
    have h1 := hv _ (List.getElem_mem hi)
    have h2 := lvl_ok h1
    have h3 := plusZ_ok h1
    show fcmpE .neq .f32 (plusZ r.2.2.1[i]) r.2.2.1[i] = false
    rw [(fcmp32 (h3.2.2.trans h2.1) h2.1).2.1]
    exact decide_eq_false (by simp)
  rw [if_neg hc, if_neg hc]; exact neq_z
theorem lvV_lvl {l : Rec3} {tol : Int} {n : Nat} (hV : ∀ k, k < 3 → ∀ x ∈ (rk l k).2.2.1, lvlE x = 0) : ∀ x ∈ lvV l tol n, lvlE x = 0 := fun x hx => by
  obtain ⟨j, _, rfl⟩ := List.mem_map.1 hx
  split
  · exact (q16_ok (vE_bnd hV)).1
  decide +kernel
theorem toldV_good {l : Rec3} {tol : Int} (hV : Vot l tol) (h : badV l tol = 0) : toldE (voteR l tol) (voteC l tol) (badV l tol) (keptE (lvR l tol) (isV l tol l.1.2.2.1.length)) = true ∧ voteO l tol = (dvE l tol 0 l.1.2.2.1.length, dvE l tol 1 l.1.2.2.1.length, dvE l tol 2 l.1.2.2.1.length) := by
  have h2 : voteC l tol = 0 := by rw [← badV_C]; exact h
  have hs : sameLv (keptL (lvR l tol) (isV l tol l.1.2.2.1.length) plusZ (isV l tol l.1.2.2.1.length).length) (keptL (lvR l tol) (isV l tol l.1.2.2.1.length) id (isV l tol l.1.2.2.1.length).length) = true := same_kept2 (lvV_lvl hV.lv)
  refine ⟨?_, by rw [voteO, if_neg (fun hh => hh h2)]⟩
  rw [toldE, if_neg (fun hh => hh h), voteR, if_neg (fun hh => hh h2), decide_eq_true h2, Bool.true_and]
  unfold sameRec keptE
  show (decide (l.1.1 = l.1.1) && decide (l.1.2.1 = l.1.2.1) && sameLv _ _ && decide (_ = _)) = true
  rw [hs, decide_eq_true rfl, decide_eq_true rfl, decide_eq_true rfl] <;> rfl
theorem badV_vot {l : Rec3} {tol : Int} (h : badV l tol = 0) (hg : ∀ k, k < 3 → (rk l k).2.2.2.length < 1000000) : Vot l tol := by
  have h2 : voteC l tol = 0 := by rw [← badV_C]; exact h
  unfold voteC at h2
  split at h2
  · rename_i h3; exact absurd h2 h3
  rename_i h3
  split at h2
  · rename_i h4; exact vote_vot h3 h4 hg
  cases h2
def okS (l : Rec3) (k : Nat) : Bool := decide ((rk l k).2.1 = l.1.2.1) && decide ((rk l k).2.2.1.length = l.1.2.2.1.length)
theorem okS_or {l : Rec3} {k : Nat} : (!okS l k) = (decide ((rk l k).2.1 ≠ l.1.2.1) || decide ((((rk l k).2.2.1.length : Nat) : Int) ≠ ((l.1.2.2.1.length : Nat) : Int))) := by
  unfold okS
  rw [Bool.not_and, ← decide_not, ← decide_not]
  exact congrArg (decide ((rk l k).2.1 ≠ l.1.2.1) || ·) (decide_eq_decide.2 ⟨fun h hh => h (by omega), fun h hh => h (by rw [hh])⟩)
def badK (l : Rec3) (tol : Int) : Nat → Int
  | 0 => firstE [recE l.1, recE l.2.1, recE l.2.2, rangeE tol 0 2048]
  | k + 1 => if badK l tol k = 0 ∧ okS l k = false then 2 else badK l tol k
theorem badK_t {l : Rec3} {tol : Int} {k : Nat} (h : badK l tol k = 0 ∧ okS l k = false) : badK l tol (k + 1) = 2 := if_pos h
theorem badK_f {l : Rec3} {tol : Int} {k : Nat} (h : ¬ badK l tol k = 0 ∨ okS l k = true) : badK l tol (k + 1) = badK l tol k := if_neg fun hh => by
  rcases h with h | h
  · exact h hh.1
  rw [h] at hh; exact absurd hh.2 (by decide)
theorem okS_0 {l : Rec3} : okS l 0 = true := by
  show (decide (l.1.2.1 = l.1.2.1) && decide (l.1.2.2.1.length = l.1.2.2.1.length)) = true
  rw [decide_eq_true rfl, decide_eq_true rfl] <;> rfl
theorem bad3 {l : Rec3} {tol : Int} : badK l tol (2 + 1) = badV l tol := by
  have h1 : badK l tol 1 = badK l tol 0 := badK_f (k := 0) (.inr okS_0)
  have h0 : badK l tol 0 = firstE [recE l.1, recE l.2.1, recE l.2.2, rangeE tol 0 2048] := rfl
  unfold badV
  by_cases hz : badK l tol 0 = 0
  · rw [← h0, if_neg (fun h => h hz)]
    by_cases ho1 : okS l 1 = true
    · have h2 : badK l tol 2 = badK l tol 1 := badK_f (k := 1) (.inr ho1)
      by_cases ho2 : okS l 2 = true
      · have h3 : badK l tol 3 = badK l tol 2 := badK_f (k := 2) (.inr ho2)
        have a1 : l.2.1.2.1 = l.1.2.1 ∧ l.2.1.2.2.1.length = l.1.2.2.1.length := by simpa [okS, arr3] using ho1
        have a2 : l.2.2.2.1 = l.1.2.1 ∧ l.2.2.2.2.1.length = l.1.2.2.1.length := by simpa [okS, arr3] using ho2
        rw [if_pos (show sameSh l from ⟨⟨a1.1, a2.1⟩, a1.2, a2.2⟩)]
        show badK l tol 3 = 0
        rw [h3, h2, h1, hz]
      have h3 : badK l tol 3 = 2 := badK_t (k := 2) ⟨by rw [h2, h1, hz], by simpa using ho2⟩
      have hn : ¬ sameSh l := fun hs => ho2 (by
        show (decide (l.2.2.2.1 = l.1.2.1) && decide (l.2.2.2.2.1.length = l.1.2.2.1.length)) = true
        rw [decide_eq_true hs.1.2, decide_eq_true hs.2.2]; rfl)
      rw [if_neg hn]; exact h3
    have h2 : badK l tol 2 = 2 := badK_t (k := 1) ⟨by rw [h1, hz], by simpa using ho1⟩
    have h3 : badK l tol 3 = badK l tol 2 := badK_f (k := 2) (.inl (by rw [h2]; decide))
    have hn : ¬ sameSh l := fun hs => ho1 (by
      show (decide (l.2.1.2.1 = l.1.2.1) && decide (l.2.1.2.2.1.length = l.1.2.2.1.length)) = true
      rw [decide_eq_true hs.1.1, decide_eq_true hs.2.1]; rfl)
    rw [if_neg hn]; exact h3.trans h2
  rw [← h0, if_pos hz]
  have h2 : badK l tol 2 = badK l tol 1 := badK_f (k := 1) (.inl (by rw [h1]; exact hz))
  have h3 : badK l tol 3 = badK l tol 2 := badK_f (k := 2) (.inl (by rw [h2, h1]; exact hz))
  exact h3.trans (h2.trans h1)
theorem fin_bad {l : Rec3} {tol : Int} {w : Rec1} (h : ¬ badK l tol (2 + 1) = 0) : (toldE (voteR l tol) (voteC l tol) (badK l tol (2 + 1)) w && decide ([(voteO l tol).1, (voteO l tol).2.1, (voteO l tol).2.2] = [(0 : Int), (0 : Int), (0 : Int)])) = true := by
  rw [bad3] at h ⊢
  obtain ⟨h1, h2⟩ := toldV_bad (w := w) h
  rw [h1, h2, decide_eq_true rfl] <;> rfl
theorem fin_good {l : Rec3} {tol : Int} (hV : Vot l tol) (h : badK l tol (2 + 1) = 0) : (toldE (voteR l tol) (voteC l tol) (badK l tol (2 + 1)) (keptE (lvR l tol) (isV l tol l.1.2.2.1.length)) && decide ([(voteO l tol).1, (voteO l tol).2.1, (voteO l tol).2.2] = [dvE l tol 0 l.1.2.2.1.length, dvE l tol 1 l.1.2.2.1.length, dvE l tol 2 l.1.2.2.1.length])) = true := by
  rw [bad3] at h ⊢
  obtain ⟨h1, h2⟩ := toldV_good hV h
  rw [h1, h2, decide_eq_true rfl] <;> rfl
theorem voteR_len {l : Rec3} {tol : Int} : (voteR l tol).2.2.1.length ≤ l.1.2.2.1.length ∧ (voteR l tol).2.2.2.length ≤ l.1.2.2.1.length := by
  unfold voteR
  split
  · exact ⟨Nat.zero_le _, Nat.zero_le _⟩
  refine ⟨?_, ?_⟩
  · show (keptL _ _ _ _).length ≤ _
    rw [keptL_len]
    show (lvV _ _ _).length ≤ _
    rw [lvV_len]; exact Nat.le_refl _
  have := gapsE_len (isV l tol l.1.2.2.1.length) (isV l tol l.1.2.2.1.length).length
  rw [isV_len] at this
  exact (by rw [isV_len]; exact this : (gapsE (isV l tol l.1.2.2.1.length) (isV l tol l.1.2.2.1.length).length).length ≤ _)
theorem lawV_ok {l : (ByteArray × Int × (List Nat) × (List (Int × Int))) × (ByteArray × Int × (List Nat) × (List (Int × Int))) × (ByteArray × Int × (List Nat) × (List (Int × Int)))} {tol : Int} : VF Tryz.prog OA 8 [.v y84 l, I tol] (B true) := by
  refine VF.enter Tryz.func8 rfl (fun _ _ => rfl) rfl ?_
  show VC _ _ _ _ _ [(0, .v y84 l), (1, I tol)] [] _
  refine VC.seq (VC.text ?_); refine VO.new (.box) ?_; refine VO.c (.assign rfl) ?_; refine VO.go (VC.seq (VC.seq (VC.text ?_))); refine VO.call rfl rfl (VF.call (awake_ok )) ?_; refine VO.c (.not) ?_; refine VO.c (.move rfl) ?_; refine VO.c (.ixP 0 (.l .o)) ?_; refine VO.r (.ld vt55) ?_; refine VO.call rfl rfl (VF.call (rShort_ok )) ?_; refine VO.c (.not) ?_; refine VO.c (.pickF rfl rfl) ?_; refine VO.c (.move rfl) ?_; refine VO.cg (r := (!(shortE l.1))) (w := false) [] trivial (fun _ => (.ixP 1 (.r (.l .o)))) ?_; refine VO.rg (r := (!(shortE l.1))) (w := false) [(22, .p y55 l.2.1)] ⟨rfl, trivial⟩ (fun _ => (.ld vt55)) ?_; refine VO.callg (r0 := (!(shortE l.1))) (w := false) [(23, .v y55 l.2.1)] ⟨rfl, trivial⟩ rfl rfl .same .refl rfl (fun _ => VF.call (rShort_ok )) ?_; refine VO.cg (r := (!(shortE l.1))) (w := false) [(24, B (shortE l.2.1))] ⟨rfl, trivial⟩ (fun _ => (.not)) ?_; refine VO.c (.or) ?_; refine VO.c (.move rfl) ?_; refine VO.cg (r := ((!(shortE l.1)) || (!(shortE l.2.1)))) (w := false) [] trivial (fun _ => (.ixP 2 (.r (.r (k := 0) .o)))) ?_; refine VO.rg (r := ((!(shortE l.1)) || (!(shortE l.2.1)))) (w := false) [(28, .p y55 l.2.2)] ⟨rfl, trivial⟩ (fun _ => (.ld vt55)) ?_; refine VO.callg (r0 := ((!(shortE l.1)) || (!(shortE l.2.1)))) (w := false) [(29, .v y55 l.2.2)] ⟨rfl, trivial⟩ rfl rfl .same .refl rfl (fun _ => VF.call (rShort_ok )) ?_; refine VO.cg (r := ((!(shortE l.1)) || (!(shortE l.2.1)))) (w := false) [(30, B (shortE l.2.2))] ⟨rfl, trivial⟩ (fun _ => (.not)) ?_; refine VO.c (.or) ?_; refine VO.go ?_; refine VC.condB rfl (fun c1 => ?_) (fun c1 => ?_)
  · try simp only [Bool.and_eq_true, Bool.or_eq_true, Bool.and_eq_false_iff, Bool.or_eq_false_iff, Bool.not_eq_true', Bool.not_eq_false', decide_eq_true_eq, decide_eq_false_iff_not] at c1
    refine VC.seq (VC.text ?_); refine VO.call rfl rfl (VF.call (awake_ok )) ?_; refine VO.c (.assign rfl) ?_; refine VO.go ?_; refine VC.ret ?_; exact VEnd.one rfl evT (pvE (by rfl))
  try simp only [Bool.and_eq_true, Bool.or_eq_true, Bool.and_eq_false_iff, Bool.or_eq_false_iff, Bool.not_eq_true', Bool.not_eq_false', decide_eq_true_eq, decide_eq_false_iff_not] at c1
  have hs0 := shortE_t c1.1.1
  have hs1 := shortE_t c1.1.2
  have hs2 := shortE_t c1.2
  have hl0 : ∀ k, k < 3 → (rk l k).2.2.1.length < 100000 := all3 (Q := fun r => r.2.2.1.length < 100000) (by omega) (by omega) (by omega)
  have hg0 : ∀ k, k < 3 → (rk l k).2.2.2.length < 1000000 := all3 (Q := fun r => r.2.2.2.length < 1000000) (by omega) (by omega) (by omega)
  have hvl := voteR_len (l := l) (tol := tol)
  have hgz := gapsE_len (isV l tol l.1.2.2.1.length) (isV l tol l.1.2.2.1.length).length
  have hil := isV_len (l := l) (tol := tol) (n := l.1.2.2.1.length)
  refine VC.skip (VC.seq (VC.drawn ?_)); refine VD.c (.ixP 0 (.l .o)) ?_; refine VD.r [] (.ld vt55) (.inl rfl) ?_; refine VD.call rfl rfl (VF.call (lRecord_ok (by first | assumption | omega | simp) (by first | assumption | omega | simp))) ?_; refine VD.c (.ixP 1 (.r (.l .o))) ?_; refine VD.r [] (.ld vt55) (.inl rfl) ?_; refine VD.call rfl rfl (VF.call (lRecord_ok (by first | assumption | omega | simp) (by first | assumption | omega | simp))) ?_; refine VD.nw [40, 37] ?_; refine VD.c (.ixP 2 (.r (.r .o))) ?_; refine VD.r [] (.ld vt55) (.inl rfl) ?_; refine VD.call rfl rfl (VF.call (lRecord_ok (by first | assumption | omega | simp) (by first | assumption | omega | simp))) ?_; refine VD.c (.build (l.1, l.2.1, l.2.2) bt88) ?_; refine VD.c (.move rfl) ?_; refine VD.callO rfl rfl (VF.call (gVote_ok hl0 hg0)) ?_; refine VD.c (.move rfl) ?_; refine VD.nw [34, 46, 44, 43, 40, 37] ?_; refine VD.c (.extract) ?_; refine VD.c (.extract) ?_; refine VD.c (.extract) ?_; refine VD.cell (.alloc zt65) ?_; intro ww1; refine VD.cell (.alloc zt85) ?_; intro ww2; refine VD.perm swap1 ?_; refine VD.mk0 (MakeV.setF (k := 0) vt65 .v (Nat.le_of_ble_eq_true rfl) (.inr ⟨rfl, rfl⟩) rfl rfl) ?_; rintro _ _ tl3 ⟨rfl, rfl⟩; refine VD.perm swap1 ?_; refine VD.mk0 (MakeV.setF (k := 0) vt85 .v (Nat.le_of_ble_eq_true rfl) (.inr ⟨rfl, rfl⟩) rfl rfl) ?_; rintro _ _ tl4 ⟨rfl, rfl⟩; refine VD.nw [6, 5, 47, 34, 46, 44, 43, 40, 37] ?_; refine VD.c (.assign rfl) ?_; refine VD.go (VC.seq ?_); refine VC.keep [(1, I tol), (2, .p y84 l), (5, .raw ww1), (6, .raw ww2), (7, I (voteC (l.1, l.2.1, l.2.2) tol))] ⟨rfl, rfl, rfl, rfl, rfl, trivial⟩ ?_; refine VC.drawn ?_; refine VD.c (.ixP 0 (.l .o)) ?_; refine VD.r [] (.ld vt55) (.inl rfl) ?_; refine VD.call rfl rfl (VF.call (rRec_ok (by first | assumption | omega | simp) (by first | assumption | omega | simp))) ?_; refine VD.c (.ixP 1 (.r (.l .o))) ?_; refine VD.r [] (.ld vt55) (.inl rfl) ?_; refine VD.call rfl rfl (VF.call (rRec_ok (by first | assumption | omega | simp) (by first | assumption | omega | simp))) ?_; refine VD.nw [] ?_; refine VD.c (.ixP 2 (.r (.r .o))) ?_; refine VD.r [] (.ld vt55) (.inl rfl) ?_; refine VD.call rfl rfl (VF.call (rRec_ok (by first | assumption | omega | simp) (by first | assumption | omega | simp))) ?_; refine VD.c (.move rfl) ?_; refine VD.call rfl rfl (VF.call (rCheckRange_ok )) ?_; refine VD.new (.lit [recE l.1, recE l.2.1, recE l.2.2, rangeE tol (0 : Int) (2048 : Int)] el37) ?_; refine VD.callO rfl rfl (VF.call (lFirst_ok (by first | assumption | omega | simp))) ?_; refine VD.nw [61] ?_; refine VD.c (.assign rfl) ?_; refine VD.go (VC.seq (VC.seq (VC.text ?_))); refine VO.r (.ld vt84) ?_; refine VO.c (.move rfl) ?_; refine VO.go (VC.block ?_); refine VC.unroll ?_; refine VC.seq (VC.text ?_); refine VO.c (.lss) ?_; refine VO.go (VC.seq ?_); refine VC.condT rfl ?_; refine VC.skip (VC.seq (VC.block (VC.seq (VC.text ?_)))); refine VO.c (.ixA 0 (.l .o)) ?_; refine VO.cell (.alloc zt55) ?_; intro ww5; refine VO.setV (cs' := [St l.1.1, I l.1.2.1, .v y53 l.1.2.2.1, .v y22 l.1.2.2.2]) vt55 .v ?_; refine VO.shut [(10, .p y55 l.1)] (.cons rfl (.var m0 .refl) .nil) ?_; refine VO.go (VC.seq ?_); refine VC.join [(1, I tol), (2, .p y84 l), (5, .raw ww1), (6, .raw ww2), (7, I (voteC (l.1, l.2.1, l.2.2) tol)), (8, I (badK l tol 0)), (63, .v y84 l), (64, I (0 : Int)), (86, B (decide (badK l tol 0 = 0) && !okS l 0))] [(ww2, .var [I ((voteO (l.1, l.2.1, l.2.2) tol).1), I ((voteO (l.1, l.2.1, l.2.2) tol).2.1), I ((voteO (l.1, l.2.1, l.2.2) tol).2.2)]), (ww1, .var [St ((voteR (l.1, l.2.1, l.2.2) tol).1), I ((voteR (l.1, l.2.1, l.2.2) tol).2.1), .v y53 ((voteR (l.1, l.2.1, l.2.2) tol).2.2.1), .v y22 ((voteR (l.1, l.2.1, l.2.2) tol).2.2.2)])] ?_ ?_
  · skip
    refine VC.text ?_; refine VO.c (.move rfl) ?_; refine VO.c (.eql) ?_; refine VO.c (.move rfl) ?_; refine VO.splitD (x := 69) rfl (fun g8_2 => ?_) (fun g8_2 => ?_)
    · refine VO.c (.fa (.r (.l .o))) ?_; refine VO.r (.ld vt3) ?_; refine VO.c (.ixP 0 (.l .o)) ?_; refine VO.c (.fa (.r (.l .o))) ?_; refine VO.r (.ld vt3) ?_; refine VO.c (.neq) ?_; refine VO.c (.move rfl) ?_; refine VO.cg (r := decide (l.1.2.1 ≠ l.1.2.1)) (w := false) [] trivial (fun _ => (.fa (.r (.r (.l .o))))) ?_; refine VO.rg (r := decide (l.1.2.1 ≠ l.1.2.1)) (w := false) [(77, .p y53 l.1.2.2.1)] ⟨rfl, trivial⟩ (fun _ => (.ld vt53)) ?_; refine VO.rg (r := decide (l.1.2.1 ≠ l.1.2.1)) (w := false) [(78, .v y53 l.1.2.2.1)] ⟨rfl, trivial⟩ (fun _ => (.len el53)) ?_; refine VO.cg (r := decide (l.1.2.1 ≠ l.1.2.1)) (w := false) [] trivial (fun _ => (.ixP 0 (.l .o))) ?_; refine VO.cg (r := decide (l.1.2.1 ≠ l.1.2.1)) (w := false) [(80, .p y55 l.1)] ⟨rfl, trivial⟩ (fun _ => (.fa (.r (.r (.l .o))))) ?_; refine VO.rg (r := decide (l.1.2.1 ≠ l.1.2.1)) (w := false) [(81, .p y53 l.1.2.2.1)] ⟨rfl, trivial⟩ (fun _ => (.ld vt53)) ?_; refine VO.rg (r := decide (l.1.2.1 ≠ l.1.2.1)) (w := false) [(82, .v y53 l.1.2.2.1)] ⟨rfl, trivial⟩ (fun _ => (.len el53)) ?_; refine VO.cg (r := decide (l.1.2.1 ≠ l.1.2.1)) (w := false) [(79, I ((l.1.2.2.1.length : Nat) : Int)), (83, I ((l.1.2.2.1.length : Nat) : Int))] ⟨rfl, rfl, trivial⟩ (fun _ => (.neq)) ?_; refine VO.c (.or) ?_; refine VO.c (.pickT rfl rfl) ?_; refine VO.nil ?_; exact ⟨⟨rfl, rfl, rfl, rfl, rfl, rfl, rfl, rfl, slE rfl (by first | (rw [decide_eq_true (show badK l tol 0 = 0 from g8_2), Bool.true_and, okS_or (k := 0)]; rfl) | (rw [decide_eq_false (show ¬ badK l tol 0 = 0 from g8_2)]; rfl) | (rw [decide_eq_true (show badK l tol 1 = 0 from g8_2), Bool.true_and, okS_or (k := 1)]; rfl) | (rw [decide_eq_false (show ¬ badK l tol 1 = 0 from g8_2)]; rfl) | (rw [decide_eq_true (show badK l tol 2 = 0 from g8_2), Bool.true_and, okS_or (k := 2)]; rfl) | (rw [decide_eq_false (show ¬ badK l tol 2 = 0 from g8_2)]; rfl)), trivial⟩, rfl⟩
    refine VO.skip ?_; refine VO.skip ?_; refine VO.skip ?_; refine VO.skip ?_; refine VO.skip ?_; refine VO.skip ?_; refine VO.skip ?_; refine VO.skip ?_; refine VO.skip ?_; refine VO.skip ?_; refine VO.skip ?_; refine VO.skip ?_; refine VO.skip ?_; refine VO.skip ?_; refine VO.skip ?_; refine VO.skip ?_; refine VO.c (.pickF rfl rfl) ?_; refine VO.nil ?_; exact ⟨⟨rfl, rfl, rfl, rfl, rfl, rfl, rfl, rfl, slE rfl (by first | (rw [decide_eq_true (show badK l tol 0 = 0 from g8_2), Bool.true_and, okS_or (k := 0)]; rfl) | (rw [decide_eq_false (show ¬ badK l tol 0 = 0 from g8_2)]; rfl) | (rw [decide_eq_true (show badK l tol 1 = 0 from g8_2), Bool.true_and, okS_or (k := 1)]; rfl) | (rw [decide_eq_false (show ¬ badK l tol 1 = 0 from g8_2)]; rfl) | (rw [decide_eq_true (show badK l tol 2 = 0 from g8_2), Bool.true_and, okS_or (k := 2)]; rfl) | (rw [decide_eq_false (show ¬ badK l tol 2 = 0 from g8_2)]; rfl)), trivial⟩, rfl⟩
  refine VC.join [(1, I tol), (2, .p y84 l), (5, .raw ww1), (6, .raw ww2), (7, I (voteC (l.1, l.2.1, l.2.2) tol)), (8, I (badK l tol (0 + 1))), (63, .v y84 l), (64, I (0 : Int))] [(ww2, .var [I ((voteO (l.1, l.2.1, l.2.2) tol).1), I ((voteO (l.1, l.2.1, l.2.2) tol).2.1), I ((voteO (l.1, l.2.1, l.2.2) tol).2.2)]), (ww1, .var [St ((voteR (l.1, l.2.1, l.2.2) tol).1), I ((voteR (l.1, l.2.1, l.2.2) tol).2.1), .v y53 ((voteR (l.1, l.2.1, l.2.2) tol).2.2.1), .v y22 ((voteR (l.1, l.2.1, l.2.2) tol).2.2.2)])] ?_ ?_; refine VC.condB rfl (fun c8 => ?_) (fun c8 => ?_)
  · try simp only [Bool.and_eq_true, Bool.or_eq_true, Bool.and_eq_false_iff, Bool.or_eq_false_iff, Bool.not_eq_true', Bool.not_eq_false', decide_eq_true_eq, decide_eq_false_iff_not] at c8
    refine VC.text ?_; refine VO.c (.assign rfl) ?_; refine VO.nil ?_; exact ⟨⟨rfl, rfl, rfl, rfl, rfl, slI rfl (by first | exact (badK_t (k := 0) c8).symm | exact (badK_f (k := 0) c8).symm | exact (badK_t (k := 1) c8).symm | exact (badK_f (k := 1) c8).symm | exact (badK_t (k := 2) c8).symm | exact (badK_f (k := 2) c8).symm), rfl, rfl, trivial⟩, rfl⟩
  · try simp only [Bool.and_eq_true, Bool.or_eq_true, Bool.and_eq_false_iff, Bool.or_eq_false_iff, Bool.not_eq_true', Bool.not_eq_false', decide_eq_true_eq, decide_eq_false_iff_not] at c8
    refine VC.skip ?_; exact ⟨⟨rfl, rfl, rfl, rfl, rfl, slI rfl (by first | exact (badK_t (k := 0) c8).symm | exact (badK_f (k := 0) c8).symm | exact (badK_t (k := 1) c8).symm | exact (badK_f (k := 1) c8).symm | exact (badK_t (k := 2) c8).symm | exact (badK_f (k := 2) c8).symm), rfl, rfl, trivial⟩, rfl⟩
  refine VC.text ?_; refine VO.c (.add rfl rfl (by decide)) ?_; refine VO.c (.move rfl) ?_; refine VO.nil ?_; refine VC.unroll ?_; refine VC.seq (VC.text ?_); refine VO.c (.lss) ?_; refine VO.go (VC.seq ?_); refine VC.condT rfl ?_; refine VC.skip (VC.seq (VC.block (VC.seq (VC.text ?_)))); refine VO.c (.ixA 1 (.r (.l .o))) ?_; refine VO.cell (.alloc zt55) ?_; intro ww6; refine VO.setV (cs' := [St l.2.1.1, I l.2.1.2.1, .v y53 l.2.1.2.2.1, .v y22 l.2.1.2.2.2]) vt55 .v ?_; refine VO.shut [(10, .p y55 l.2.1)] (.cons rfl (.var m0 .refl) .nil) ?_; refine VO.go (VC.seq ?_); refine VC.join [(1, I tol), (2, .p y84 l), (5, .raw ww1), (6, .raw ww2), (7, I (voteC (l.1, l.2.1, l.2.2) tol)), (8, I (badK l tol (0 + 1))), (63, .v y84 l), (64, I (1 : Int)), (86, B (decide (badK l tol 1 = 0) && !okS l 1))] [(ww2, .var [I ((voteO (l.1, l.2.1, l.2.2) tol).1), I ((voteO (l.1, l.2.1, l.2.2) tol).2.1), I ((voteO (l.1, l.2.1, l.2.2) tol).2.2)]), (ww1, .var [St ((voteR (l.1, l.2.1, l.2.2) tol).1), I ((voteR (l.1, l.2.1, l.2.2) tol).2.1), .v y53 ((voteR (l.1, l.2.1, l.2.2) tol).2.2.1), .v y22 ((voteR (l.1, l.2.1, l.2.2) tol).2.2.2)])] ?_ ?_
  · skip
    refine VC.text ?_; refine VO.c (.move rfl) ?_; refine VO.c (.eql) ?_; refine VO.c (.move rfl) ?_; refine VO.splitD (x := 69) rfl (fun g8_2 => ?_) (fun g8_2 => ?_)
    · refine VO.c (.fa (.r (.l .o))) ?_; refine VO.r (.ld vt3) ?_; refine VO.c (.ixP 0 (.l .o)) ?_; refine VO.c (.fa (.r (.l .o))) ?_; refine VO.r (.ld vt3) ?_; refine VO.c (.neq) ?_; refine VO.c (.move rfl) ?_; refine VO.cg (r := decide (l.2.1.2.1 ≠ l.1.2.1)) (w := false) [] trivial (fun _ => (.fa (.r (.r (.l .o))))) ?_; refine VO.rg (r := decide (l.2.1.2.1 ≠ l.1.2.1)) (w := false) [(77, .p y53 l.2.1.2.2.1)] ⟨rfl, trivial⟩ (fun _ => (.ld vt53)) ?_; refine VO.rg (r := decide (l.2.1.2.1 ≠ l.1.2.1)) (w := false) [(78, .v y53 l.2.1.2.2.1)] ⟨rfl, trivial⟩ (fun _ => (.len el53)) ?_; refine VO.cg (r := decide (l.2.1.2.1 ≠ l.1.2.1)) (w := false) [] trivial (fun _ => (.ixP 0 (.l .o))) ?_; refine VO.cg (r := decide (l.2.1.2.1 ≠ l.1.2.1)) (w := false) [(80, .p y55 l.1)] ⟨rfl, trivial⟩ (fun _ => (.fa (.r (.r (.l .o))))) ?_; refine VO.rg (r := decide (l.2.1.2.1 ≠ l.1.2.1)) (w := false) [(81, .p y53 l.1.2.2.1)] ⟨rfl, trivial⟩ (fun _ => (.ld vt53)) ?_; refine VO.rg (r := decide (l.2.1.2.1 ≠ l.1.2.1)) (w := false) [(82, .v y53 l.1.2.2.1)] ⟨rfl, trivial⟩ (fun _ => (.len el53)) ?_; refine VO.cg (r := decide (l.2.1.2.1 ≠ l.1.2.1)) (w := false) [(79, I ((l.2.1.2.2.1.length : Nat) : Int)), (83, I ((l.1.2.2.1.length : Nat) : Int))] ⟨rfl, rfl, trivial⟩ (fun _ => (.neq)) ?_; refine VO.c (.or) ?_; refine VO.c (.pickT rfl rfl) ?_; refine VO.nil ?_; exact ⟨⟨rfl, rfl, rfl, rfl, rfl, rfl, rfl, rfl, slE rfl (by first | (rw [decide_eq_true (show badK l tol 0 = 0 from g8_2), Bool.true_and, okS_or (k := 0)]; rfl) | (rw [decide_eq_false (show ¬ badK l tol 0 = 0 from g8_2)]; rfl) | (rw [decide_eq_true (show badK l tol 1 = 0 from g8_2), Bool.true_and, okS_or (k := 1)]; rfl) | (rw [decide_eq_false (show ¬ badK l tol 1 = 0 from g8_2)]; rfl) | (rw [decide_eq_true (show badK l tol 2 = 0 from g8_2), Bool.true_and, okS_or (k := 2)]; rfl) | (rw [decide_eq_false (show ¬ badK l tol 2 = 0 from g8_2)]; rfl)), trivial⟩, rfl⟩
    refine VO.skip ?_; refine VO.skip ?_; refine VO.skip ?_; refine VO.skip ?_; refine VO.skip ?_; refine VO.skip ?_; refine VO.skip ?_; refine VO.skip ?_; refine VO.skip ?_; refine VO.skip ?_; refine VO.skip ?_; refine VO.skip ?_; refine VO.skip ?_; refine VO.skip ?_; refine VO.skip ?_; refine VO.skip ?_; refine VO.c (.pickF rfl rfl) ?_; refine VO.nil ?_; exact ⟨⟨rfl, rfl, rfl, rfl, rfl, rfl, rfl, rfl, slE rfl (by first | (rw [decide_eq_true (show badK l tol 0 = 0 from g8_2), Bool.true_and, okS_or (k := 0)]; rfl) | (rw [decide_eq_false (show ¬ badK l tol 0 = 0 from g8_2)]; rfl) | (rw [decide_eq_true (show badK l tol 1 = 0 from g8_2), Bool.true_and, okS_or (k := 1)]; rfl) | (rw [decide_eq_false (show ¬ badK l tol 1 = 0 from g8_2)]; rfl) | (rw [decide_eq_true (show badK l tol 2 = 0 from g8_2), Bool.true_and, okS_or (k := 2)]; rfl) | (rw [decide_eq_false (show ¬ badK l tol 2 = 0 from g8_2)]; rfl)), trivial⟩, rfl⟩
  refine VC.join [(1, I tol), (2, .p y84 l), (5, .raw ww1), (6, .raw ww2), (7, I (voteC (l.1, l.2.1, l.2.2) tol)), (8, I (badK l tol (1 + 1))), (63, .v y84 l), (64, I (1 : Int))] [(ww2, .var [I ((voteO (l.1, l.2.1, l.2.2) tol).1), I ((voteO (l.1, l.2.1, l.2.2) tol).2.1), I ((voteO (l.1, l.2.1, l.2.2) tol).2.2)]), (ww1, .var [St ((voteR (l.1, l.2.1, l.2.2) tol).1), I ((voteR (l.1, l.2.1, l.2.2) tol).2.1), .v y53 ((voteR (l.1, l.2.1, l.2.2) tol).2.2.1), .v y22 ((voteR (l.1, l.2.1, l.2.2) tol).2.2.2)])] ?_ ?_; refine VC.condB rfl (fun c8 => ?_) (fun c8 => ?_)
  · try simp only [Bool.and_eq_true, Bool.or_eq_true, Bool.and_eq_false_iff, Bool.or_eq_false_iff, Bool.not_eq_true', Bool.not_eq_false', decide_eq_true_eq, decide_eq_false_iff_not] at c8
    refine VC.text ?_; refine VO.c (.assign rfl) ?_; refine VO.nil ?_; exact ⟨⟨rfl, rfl, rfl, rfl, rfl, slI rfl (by first | exact (badK_t (k := 0) c8).symm | exact (badK_f (k := 0) c8).symm | exact (badK_t (k := 1) c8).symm | exact (badK_f (k := 1) c8).symm | exact (badK_t (k := 2) c8).symm | exact (badK_f (k := 2) c8).symm), rfl, rfl, trivial⟩, rfl⟩
  · try simp only [Bool.and_eq_true, Bool.or_eq_true, Bool.and_eq_false_iff, Bool.or_eq_false_iff, Bool.not_eq_true', Bool.not_eq_false', decide_eq_true_eq, decide_eq_false_iff_not] at c8
    refine VC.skip ?_; exact ⟨⟨rfl, rfl, rfl, rfl, rfl, slI rfl (by first | exact (badK_t (k := 0) c8).symm | exact (badK_f (k := 0) c8).symm | exact (badK_t (k := 1) c8).symm | exact (badK_f (k := 1) c8).symm | exact (badK_t (k := 2) c8).symm | exact (badK_f (k := 2) c8).symm), rfl, rfl, trivial⟩, rfl⟩
  refine VC.text ?_; refine VO.c (.add rfl rfl (by decide)) ?_; refine VO.c (.move rfl) ?_; refine VO.nil ?_; refine VC.unroll ?_; refine VC.seq (VC.text ?_); refine VO.c (.lss) ?_; refine VO.go (VC.seq ?_); refine VC.condT rfl ?_; refine VC.skip (VC.seq (VC.block (VC.seq (VC.text ?_)))); refine VO.c (.ixA 2 (.r (.r .o))) ?_; refine VO.cell (.alloc zt55) ?_; intro ww7; refine VO.setV (cs' := [St l.2.2.1, I l.2.2.2.1, .v y53 l.2.2.2.2.1, .v y22 l.2.2.2.2.2]) vt55 .v ?_; refine VO.shut [(10, .p y55 l.2.2)] (.cons rfl (.var m0 .refl) .nil) ?_; refine VO.go (VC.seq ?_); refine VC.join [(1, I tol), (2, .p y84 l), (5, .raw ww1), (6, .raw ww2), (7, I (voteC (l.1, l.2.1, l.2.2) tol)), (8, I (badK l tol (1 + 1))), (63, .v y84 l), (64, I (2 : Int)), (86, B (decide (badK l tol 2 = 0) && !okS l 2))] [(ww2, .var [I ((voteO (l.1, l.2.1, l.2.2) tol).1), I ((voteO (l.1, l.2.1, l.2.2) tol).2.1), I ((voteO (l.1, l.2.1, l.2.2) tol).2.2)]), (ww1, .var [St ((voteR (l.1, l.2.1, l.2.2) tol).1), I ((voteR (l.1, l.2.1, l.2.2) tol).2.1), .v y53 ((voteR (l.1, l.2.1, l.2.2) tol).2.2.1), .v y22 ((voteR (l.1, l.2.1, l.2.2) tol).2.2.2)])] ?_ ?_
  · skip
    refine VC.text ?_; refine VO.c (.move rfl) ?_; refine VO.c (.eql) ?_; refine VO.c (.move rfl) ?_; refine VO.splitD (x := 69) rfl (fun g8_2 => ?_) (fun g8_2 => ?_)
    · refine VO.c (.fa (.r (.l .o))) ?_; refine VO.r (.ld vt3) ?_; refine VO.c (.ixP 0 (.l .o)) ?_; refine VO.c (.fa (.r (.l .o))) ?_; refine VO.r (.ld vt3) ?_; refine VO.c (.neq) ?_; refine VO.c (.move rfl) ?_; refine VO.cg (r := decide (l.2.2.2.1 ≠ l.1.2.1)) (w := false) [] trivial (fun _ => (.fa (.r (.r (.l .o))))) ?_; refine VO.rg (r := decide (l.2.2.2.1 ≠ l.1.2.1)) (w := false) [(77, .p y53 l.2.2.2.2.1)] ⟨rfl, trivial⟩ (fun _ => (.ld vt53)) ?_; refine VO.rg (r := decide (l.2.2.2.1 ≠ l.1.2.1)) (w := false) [(78, .v y53 l.2.2.2.2.1)] ⟨rfl, trivial⟩ (fun _ => (.len el53)) ?_; refine VO.cg (r := decide (l.2.2.2.1 ≠ l.1.2.1)) (w := false) [] trivial (fun _ => (.ixP 0 (.l .o))) ?_; refine VO.cg (r := decide (l.2.2.2.1 ≠ l.1.2.1)) (w := false) [(80, .p y55 l.1)] ⟨rfl, trivial⟩ (fun _ => (.fa (.r (.r (.l .o))))) ?_; refine VO.rg (r := decide (l.2.2.2.1 ≠ l.1.2.1)) (w := false) [(81, .p y53 l.1.2.2.1)] ⟨rfl, trivial⟩ (fun _ => (.ld vt53)) ?_; refine VO.rg (r := decide (l.2.2.2.1 ≠ l.1.2.1)) (w := false) [(82, .v y53 l.1.2.2.1)] ⟨rfl, trivial⟩ (fun _ => (.len el53)) ?_; refine VO.cg (r := decide (l.2.2.2.1 ≠ l.1.2.1)) (w := false) [(79, I ((l.2.2.2.2.1.length : Nat) : Int)), (83, I ((l.1.2.2.1.length : Nat) : Int))] ⟨rfl, rfl, trivial⟩ (fun _ => (.neq)) ?_; refine VO.c (.or) ?_; refine VO.c (.pickT rfl rfl) ?_; refine VO.nil ?_; exact ⟨⟨rfl, rfl, rfl, rfl, rfl, rfl, rfl, rfl, slE rfl (by first | (rw [decide_eq_true (show badK l tol 0 = 0 from g8_2), Bool.true_and, okS_or (k := 0)]; rfl) | (rw [decide_eq_false (show ¬ badK l tol 0 = 0 from g8_2)]; rfl) | (rw [decide_eq_true (show badK l tol 1 = 0 from g8_2), Bool.true_and, okS_or (k := 1)]; rfl) | (rw [decide_eq_false (show ¬ badK l tol 1 = 0 from g8_2)]; rfl) | (rw [decide_eq_true (show badK l tol 2 = 0 from g8_2), Bool.true_and, okS_or (k := 2)]; rfl) | (rw [decide_eq_false (show ¬ badK l tol 2 = 0 from g8_2)]; rfl)), trivial⟩, rfl⟩
    refine VO.skip ?_; refine VO.skip ?_; refine VO.skip ?_; refine VO.skip ?_; refine VO.skip ?_; refine VO.skip ?_; refine VO.skip ?_; refine VO.skip ?_; refine VO.skip ?_; refine VO.skip ?_; refine VO.skip ?_; refine VO.skip ?_; refine VO.skip ?_; refine VO.skip ?_; refine VO.skip ?_; refine VO.skip ?_; refine VO.c (.pickF rfl rfl) ?_; refine VO.nil ?_; exact ⟨⟨rfl, rfl, rfl, rfl, rfl, rfl, rfl, rfl, slE rfl (by first | (rw [decide_eq_true (show badK l tol 0 = 0 from g8_2), Bool.true_and, okS_or (k := 0)]; rfl) | (rw [decide_eq_false (show ¬ badK l tol 0 = 0 from g8_2)]; rfl) | (rw [decide_eq_true (show badK l tol 1 = 0 from g8_2), Bool.true_and, okS_or (k := 1)]; rfl) | (rw [decide_eq_false (show ¬ badK l tol 1 = 0 from g8_2)]; rfl) | (rw [decide_eq_true (show badK l tol 2 = 0 from g8_2), Bool.true_and, okS_or (k := 2)]; rfl) | (rw [decide_eq_false (show ¬ badK l tol 2 = 0 from g8_2)]; rfl)), trivial⟩, rfl⟩
  refine VC.join [(1, I tol), (2, .p y84 l), (5, .raw ww1), (6, .raw ww2), (7, I (voteC (l.1, l.2.1, l.2.2) tol)), (8, I (badK l tol (2 + 1))), (63, .v y84 l), (64, I (2 : Int))] [(ww2, .var [I ((voteO (l.1, l.2.1, l.2.2) tol).1), I ((voteO (l.1, l.2.1, l.2.2) tol).2.1), I ((voteO (l.1, l.2.1, l.2.2) tol).2.2)]), (ww1, .var [St ((voteR (l.1, l.2.1, l.2.2) tol).1), I ((voteR (l.1, l.2.1, l.2.2) tol).2.1), .v y53 ((voteR (l.1, l.2.1, l.2.2) tol).2.2.1), .v y22 ((voteR (l.1, l.2.1, l.2.2) tol).2.2.2)])] ?_ ?_; refine VC.condB rfl (fun c8 => ?_) (fun c8 => ?_)
  · try simp only [Bool.and_eq_true, Bool.or_eq_true, Bool.and_eq_false_iff, Bool.or_eq_false_iff, Bool.not_eq_true', Bool.not_eq_false', decide_eq_true_eq, decide_eq_false_iff_not] at c8
    refine VC.text ?_; refine VO.c (.assign rfl) ?_; refine VO.nil ?_; exact ⟨⟨rfl, rfl, rfl, rfl, rfl, slI rfl (by first | exact (badK_t (k := 0) c8).symm | exact (badK_f (k := 0) c8).symm | exact (badK_t (k := 1) c8).symm | exact (badK_f (k := 1) c8).symm | exact (badK_t (k := 2) c8).symm | exact (badK_f (k := 2) c8).symm), rfl, rfl, trivial⟩, rfl⟩
  · try simp only [Bool.and_eq_true, Bool.or_eq_true, Bool.and_eq_false_iff, Bool.or_eq_false_iff, Bool.not_eq_true', Bool.not_eq_false', decide_eq_true_eq, decide_eq_false_iff_not] at c8
    refine VC.skip ?_; exact ⟨⟨rfl, rfl, rfl, rfl, rfl, slI rfl (by first | exact (badK_t (k := 0) c8).symm | exact (badK_f (k := 0) c8).symm | exact (badK_t (k := 1) c8).symm | exact (badK_f (k := 1) c8).symm | exact (badK_t (k := 2) c8).symm | exact (badK_f (k := 2) c8).symm), rfl, rfl, trivial⟩, rfl⟩
  refine VC.text ?_; refine VO.c (.add rfl rfl (by decide)) ?_; refine VO.c (.move rfl) ?_; refine VO.nil ?_; refine VC.unroll ?_; refine VC.seq ?_; refine VC.keep [(1, I tol), (2, .p y84 l), (5, .raw ww1), (6, .raw ww2), (7, I (voteC (l.1, l.2.1, l.2.2) tol)), (8, I (badK l tol (2 + 1))), (63, .v y84 l), (64, I (3 : Int))] ⟨rfl, rfl, rfl, rfl, rfl, rfl, rfl, rfl, trivial⟩ ?_; refine VC.text ?_; refine VO.c (.lss) ?_; refine VO.go (VC.seq ?_); refine VC.condF rfl ?_; refine VC.exit (VC.seq (VC.text ?_)); refine VO.cell (.alloc zt55) ?_; intro ww8; refine VO.go (VC.seq (VC.text ?_)); refine VO.cell (.alloc zt85) ?_; intro ww9; refine VO.go (VC.seq (VC.seq (VC.text ?_))); refine VO.c (.move rfl) ?_; refine VO.c (.eql) ?_; refine VO.go ?_; refine VC.condD rfl (fun c13 => ?_) (fun c13 => ?_)
  · have hV := badV_vot (by rw [← bad3]; exact c13) hg0
    refine VC.text ?_; refine VO.r (.ld vt84) ?_; refine VO.c (.move rfl) ?_; refine VO.call rfl rfl (VF.call (rVote_ok hV)) ?_; refine VO.c (.move rfl) ?_; refine VO.c (.extract) ?_; refine VO.c (.extract) ?_; refine VO.perm swap1 ?_; refine VO.setV (cs' := [St ((keptE (lvR l tol) (isV l tol l.1.2.2.1.length)).1), I ((keptE (lvR l tol) (isV l tol l.1.2.2.1.length)).2.1), .v y53 ((keptE (lvR l tol) (isV l tol l.1.2.2.1.length)).2.2.1), .v y22 ((keptE (lvR l tol) (isV l tol l.1.2.2.1.length)).2.2.2)]) vt55 .v ?_; refine VO.shut [(11, .p y55 (keptE (lvR l tol) (isV l tol l.1.2.2.1.length)))] (.cons rfl (.var m0 .refl) .nil) ?_; refine VO.setV (cs' := [I (dvE l tol 0 l.1.2.2.1.length), I (dvE l tol 1 l.1.2.2.1.length), I (dvE l tol 2 l.1.2.2.1.length)]) vt85 .v ?_; refine VO.shut [(12, .p y85 (dvE l tol 0 l.1.2.2.1.length, dvE l tol 1 l.1.2.2.1.length, dvE l tol 2 l.1.2.2.1.length))] (.cons rfl (.var m0 .refl) .nil) ?_; refine VO.go (VC.seq (VC.text ?_)); refine VO.r (.ldA (dx := voteR (l.1, l.2.1, l.2.2) tol) m1 vt65) ?_; refine VO.c (.move rfl) ?_; refine VO.c (.move rfl) ?_; refine VO.r (.ld vt55) ?_; refine VO.call rfl rfl (VF.call (lTold_ok (Nat.lt_of_le_of_lt hvl.1 (by omega)) (Nat.lt_of_le_of_lt hvl.2 (by omega)) (by first | decide | (show (gapsE _ _).length < _; omega)))) ?_; refine VO.c (.move rfl) ?_; refine VO.rg (r := toldE (voteR (l.1, l.2.1, l.2.2) tol) (voteC (l.1, l.2.1, l.2.2) tol) (badK l tol (2 + 1)) (keptE (lvR l tol) (isV l tol l.1.2.2.1.length))) (w := true) [] trivial (fun _ => (.ldA (dx := voteO (l.1, l.2.1, l.2.2) tol) m0 vt85)) ?_; refine VO.rg (r := toldE (voteR (l.1, l.2.1, l.2.2) tol) (voteC (l.1, l.2.1, l.2.2) tol) (badK l tol (2 + 1)) (keptE (lvR l tol) (isV l tol l.1.2.2.1.length))) (w := true) [] trivial (fun _ => (.ld vt85)) ?_; refine VO.cg (r := toldE (voteR (l.1, l.2.1, l.2.2) tol) (voteC (l.1, l.2.1, l.2.2) tol) (badK l tol (2 + 1)) (keptE (lvR l tol) (isV l tol l.1.2.2.1.length))) (w := true) [(102, .v y85 (voteO (l.1, l.2.1, l.2.2) tol)), (103, .v y85 (dvE l tol 0 l.1.2.2.1.length, dvE l tol 1 l.1.2.2.1.length, dvE l tol 2 l.1.2.2.1.length))] ⟨rfl, rfl, trivial⟩ (fun hgd => have g15_5 : toldE (voteR (l.1, l.2.1, l.2.2) tol) (voteC (l.1, l.2.1, l.2.2) tol) (badK l tol (2 + 1)) (keptE (lvR l tol) (isV l tol l.1.2.2.1.length)) = true := (by simpa using hgd); (.arrCmp (xs := [(voteO (l.1, l.2.1, l.2.2) tol).1, (voteO (l.1, l.2.1, l.2.2) tol).2.1, (voteO (l.1, l.2.1, l.2.2) tol).2.2]) (ys := [dvE l tol 0 l.1.2.2.1.length, dvE l tol 1 l.1.2.2.1.length, dvE l tol 2 l.1.2.2.1.length]) (.inl ⟨rfl, rfl⟩) rfl rfl rfl rfl (by kernel_rfl) rfl)) ?_; refine VO.c (.and) ?_; refine VO.c (.assign rfl) ?_; refine VO.go ?_; refine VC.ret ?_; exact VEnd.one rfl evT (pvE (by first | exact fin_bad c13 | exact fin_good hV c13))
  refine VC.skip (VC.seq (VC.text ?_)); refine VO.r (.ldA (dx := voteR (l.1, l.2.1, l.2.2) tol) m3 vt65) ?_; refine VO.c (.move rfl) ?_; refine VO.c (.move rfl) ?_; refine VO.r (.ldA (dx := (ByteArray.empty, (0 : Int), [], [])) m1 vt55) ?_; refine VO.call rfl rfl (VF.call (lTold_ok (Nat.lt_of_le_of_lt hvl.1 (by omega)) (Nat.lt_of_le_of_lt hvl.2 (by omega)) (by first | decide | (show (gapsE _ _).length < _; omega)))) ?_; refine VO.c (.move rfl) ?_; refine VO.rg (r := toldE (voteR (l.1, l.2.1, l.2.2) tol) (voteC (l.1, l.2.1, l.2.2) tol) (badK l tol (2 + 1)) (ByteArray.empty, (0 : Int), [], [])) (w := true) [] trivial (fun _ => (.ldA (dx := voteO (l.1, l.2.1, l.2.2) tol) m2 vt85)) ?_; refine VO.rg (r := toldE (voteR (l.1, l.2.1, l.2.2) tol) (voteC (l.1, l.2.1, l.2.2) tol) (badK l tol (2 + 1)) (ByteArray.empty, (0 : Int), [], [])) (w := true) [] trivial (fun _ => (.ldA (dx := ((0 : Int), (0 : Int), (0 : Int))) m0 vt85)) ?_; refine VO.cg (r := toldE (voteR (l.1, l.2.1, l.2.2) tol) (voteC (l.1, l.2.1, l.2.2) tol) (badK l tol (2 + 1)) (ByteArray.empty, (0 : Int), [], [])) (w := true) [(102, .v y85 (voteO (l.1, l.2.1, l.2.2) tol)), (103, .v y85 ((0 : Int), (0 : Int), (0 : Int)))] ⟨rfl, rfl, trivial⟩ (fun hgd => have g15_5 : toldE (voteR (l.1, l.2.1, l.2.2) tol) (voteC (l.1, l.2.1, l.2.2) tol) (badK l tol (2 + 1)) (ByteArray.empty, (0 : Int), [], []) = true := (by simpa using hgd); (.arrCmp (xs := [(voteO (l.1, l.2.1, l.2.2) tol).1, (voteO (l.1, l.2.1, l.2.2) tol).2.1, (voteO (l.1, l.2.1, l.2.2) tol).2.2]) (ys := [(0 : Int), (0 : Int), (0 : Int)]) (.inl ⟨rfl, rfl⟩) rfl rfl rfl rfl (by kernel_rfl) rfl)) ?_; refine VO.c (.and) ?_; refine VO.c (.assign rfl) ?_; refine VO.go ?_; refine VC.ret ?_; exact VEnd.one rfl evT (pvE (by first | exact fin_bad c13 | exact fin_good hV c13))
end Go.Proofs
namespace Go.Fs
open Go.RowKit (Below)
variable {P : Program}
def orcB (fi fj fc : FuncId) (T : TypeId) : FuncId → List Value → Heap → Option (Value × Heap) := fun f xs h =>
  bif Nat.beq f fc then
    match xs with
    | [.pointer (some ⟨b, 0, none⟩)] =>
      match h.get b with
      | some (.row e [p, v] true false) =>
        bif Nat.beq e T then
          match p with
          | .pointer none => some (.tuple #[], h.set b (.row e [.pointer (some ⟨b, 0, none⟩), v] true false))
          | .pointer (some ⟨b', 0, none⟩) => bif Nat.beq b' b then some (.tuple #[], h) else none
          | _ => none
        else none
      | _ => none
    | _ => none
  else orcS fi fj f xs h
theorem orcB_sound {B : Nat} {w0 : World} {fi fj fc : FuncId} {T : TypeId} (hz : w0.drawn = 0) (hS : CallSound P B w0 (orcS fi fj)) (hc : Enters P fc)
    (hF : ∀ (b : Nat) (w : World), w.cell? ⟨b, 0, none⟩ = some (.pointer none) → w.shape? b = some (T, 2) → w.frozen? ⟨b, 0, none⟩ = false →
      Calls P fc #[.pointer (some ⟨b, 0, none⟩)] w fun e w' => e = .returned (.tuple #[]) ∧ w' = w.setCell ⟨b, 0, none⟩ (.pointer (some ⟨b, 0, none⟩)))
    (hU : ∀ (b : Nat) (w : World), w.cell? ⟨b, 0, none⟩ = some (.pointer (some ⟨b, 0, none⟩)) → Calls P fc #[.pointer (some ⟨b, 0, none⟩)] w fun e w' => e = .returned (.tuple #[]) ∧ w' = w) :
    CallSound P B w0 (orcB fi fj fc T) := by
  intro f xs h v h' hf
  unfold orcB at hf
  cases hb : Nat.beq f fc with
  | false =>
    rw [hb] at hf
    exact hS f xs h v h' hf
  | true =>
    have := nbeq hb
    subst this
    rw [hb] at hf
    simp only [cond_true] at hf
    split at hf
    · rename_i b
      split at hf
      · rename_i e p u hg
        obtain ⟨he, hf2⟩ := bif_some hf
        obtain rfl := nbeq he; refine ⟨hc, fun ρ S w args' hr ha nn => ?_⟩
        obtain ⟨hsb, cur, k1, k2, k3, k4, k5, k6, k7⟩ := hr.objs b _ hg
        have hcl : cur.length = 2 := (k6 rfl).symm
        match cur, hcl with
        | [p', u'], _ =>
        have hp : VR ρ S p p' := k7 0 (by simp)
        have hu : VR ρ S u u' := k7 1 (by simp)
        have hat : (ρ b).at 0 = ⟨(ρ b).block, 0, none⟩ := by unfold Loc.at; rw [k2]
        have harg : args' = [.pointer (some ⟨(ρ b).block, 0, none⟩)] := by
          have h1 := ha.1
          match args', h1 with
          | [a], _ =>
            have h2 : VR ρ S (.pointer (some ⟨b, 0, none⟩)) a := ha.2 0 (by simp)
            rw [h2.ptr_inv.2, hat]
        subst harg
        have hcell : w.cell? ⟨(ρ b).block, 0, none⟩ = some p' := by simp [World.cell?, k1]
        split at hf2
        · simp only [Option.some.injEq, Prod.mk.injEq] at hf2
          obtain ⟨rfl, rfl⟩ := hf2
          obtain rfl := hp.eq_of_af0 rfl
          have hC : CallsIn Fence.wide nn P f #[.pointer (some ⟨(ρ b).block, 0, none⟩)] w _ := callsIn_wide.2 (hF (ρ b).block w hcell (by simp [World.shape?, k1]) (frozen_soft k1 (by rw [k3]; exact Nat.zero_lt_succ _)))
          refine hC.mono fun e2 w' hret => ?_
          obtain ⟨rfl, rfl⟩ := hret
          refine ⟨ρ, Moved.set hr hg rfl rfl rfl rfl rfl (by simp [World.setCell]) (fun k hk => ?_) ?_, VR.tuple' LR.nil⟩
          · simp only [World.setCell, Array.getElem?_modify]
            rw [if_neg (fun e0 => hk e0.symm)]
          refine ⟨[.pointer (some ⟨(ρ b).block, 0, none⟩), u'], ?_, k2, k3, k4, Nat.le_refl _, fun _ => rfl, fun i hi => ?_⟩
          · simp only [World.setCell, Array.getElem?_modify, if_pos rfl, k1]
            simp
          match i, hi with
          | 0, _ => show VR ρ S (.pointer (some ⟨b, 0, none⟩)) (.pointer (some ⟨(ρ b).block, 0, none⟩)); rw [← hat]; exact .ptr b 0 hsb
          | 1, _ => exact hu
        · rename_i b'
          obtain ⟨hbb, hf3⟩ := bif_some hf2
          obtain rfl := nbeq hbb
          simp only [Option.some.injEq, Prod.mk.injEq] at hf3
          obtain ⟨rfl, rfl⟩ := hf3
          have hp2 := hp.ptr_inv.2
          rw [hat] at hp2
          subst hp2
          have hC : CallsIn Fence.wide nn P f #[.pointer (some ⟨(ρ b').block, 0, none⟩)] w _ := callsIn_wide.2 (hU (ρ b').block w hcell)
          refine hC.mono fun e2 w' hret => ?_
          obtain ⟨rfl, rfl⟩ := hret
          exact ⟨ρ, Moved.same hr, VR.tuple' LR.nil⟩
        cases hf2
      cases hf
    cases hf
end Go.Fs
namespace Go.Fs
open Go.RowKit (Below)
variable {P : Program} {ops : Array Oper} {n : Nat}
def sameV : Value → Value → Bool
  | .int k a, .int k' b => decide (k = k') && decide (a = b)
  | .bool a, .bool b => decide (a = b)
  | _, _ => false
theorem sameV_eq {a b : Value} (h : sameV a b = true) : a = b := by
  unfold sameV at h
  split at h
  · obtain ⟨h1, h2⟩ := band h
    rw [of_decide_eq_true h1, of_decide_eq_true h2]
  · rw [of_decide_eq_true h]
  cases h
def sameL : List Value → List Value → Bool
  | [], [] => true
  | a :: r, b :: q => sameV a b && sameL r q
  | _, _ => false
theorem sameL_eq : ∀ {a b : List Value}, sameL a b = true → a = b
  | [], [], _ => rfl
  | [], _ :: _, h => by cases h
  | _ :: _, [], h => by cases h
  | a :: r, b :: q, h => by
    obtain ⟨h1, h2⟩ := band (h : (sameV a b && sameL r q) = true)
    rw [sameV_eq h1, sameL_eq h2]
def sameO : AObj → AObj → Bool
  | .row e cs o m, .row e' cs' o' m' => Nat.beq e e' && sameL cs cs' && decide (o = o') && decide (m = m')
  | _, _ => false
theorem sameO_eq {a b : AObj} (h : sameO a b = true) : a = b := by
  unfold sameO at h
  split at h
  · obtain ⟨h, h1⟩ := band h
    obtain ⟨h, h2⟩ := band h
    obtain ⟨h, h3⟩ := band h
    rw [nbeq h, sameL_eq h3, of_decide_eq_true h2, of_decide_eq_true h1]
  cases h
def okRd (rd : List (Nat × AObj)) (h : Heap) : Bool := rd.all fun p => match h.get p.1 with
  | some ob => sameO ob p.2
  | none => false
theorem stLook_mem {b : Nat} {ob : AObj} : ∀ {l : List (Nat × AObj)}, look l b = some ob → (b, ob) ∈ l
  | [], h => by cases h
  | (c, oc) :: r, h => by
    simp only [look] at h
    cases hc : Nat.beq c b with
    | true =>
      rw [hc] at h
      simp only [cond_true, Option.some.injEq] at h
      rw [nbeq hc, h]; exact List.mem_cons_self
    | false =>
      rw [hc] at h
      simp only [cond_false] at h
      exact List.mem_cons_of_mem _ (stLook_mem h)
theorem okRd_get {rd : List (Nat × AObj)} {h : Heap} (hk : okRd rd h = true) {b : Nat} {ob : AObj} (hl : look rd b = some ob) : h.get b = some ob := by
  have := List.all_eq_true.1 hk _ (stLook_mem hl)
  simp only at this
  split at this
  · rename_i o2 hg
    rw [hg, sameO_eq this]
  cases this
def stillR (P : Program) (rd : List (Nat × AObj)) (ops : Array Oper) (n : Nat) (o : Oper) (s : DSt) : Option DSt :=
  match fsWanted ops s.t o, o.op with
  | some true, .load T a =>
    match evalO s.t a with
    | .pointer (some p) =>
      match look rd p.block with
      | some ob =>
        match fsLoad P T (evalO s.t a) { next := s.h.next, low := s.h.next, objs := [(p.block, ob)] } with
        | some v => (put n s.t o.dst v).map fun t => { s with t, bs := s.bs ++ [beforeOf s.bs o] }
        | none => none
      | none => none
    | _ => none
  | _, _ => none
def fsDrawnY (P : Program) (rd : List (Nat × AObj)) (step : Oper → (Operand → Value) → Heap → Option (Value × Heap)) (ops : Array Oper) (n : Nat) : List Oper → Nat → DSt → Option DSt
  | [], _, s => bif okRd rd s.h then some s else none
  | o :: r, i, s => bif okRd rd s.h then
      match fsDraw step ops n o i s with
      | some s' => fsDrawnY P rd step ops n r (i + 1) s'
      | none => match stillR P rd ops n o s with
        | some s' => fsDrawnY P rd step ops n r (i + 1) s'
        | none => none
    else none
def fsReads (P : Program) (h0 : Heap) (step : Oper → (Operand → Value) → Heap → Option (Value × Heap)) (ops : Array Oper) (n : Nat) : List Oper → Nat → DSt → List (Nat × AObj) → List (Nat × AObj)
  | [], _, _, l => l
  | o :: r, i, s, l => match fsDraw step ops n o i s with
    | some s' => fsReads P h0 step ops n r (i + 1) s' l
    | none => match stillO P h0 ops n o s with
      | some (s', b) => match h0.get (b - 1) with
        | some ob => fsReads P h0 step ops n r (i + 1) s' ((b - 1, ob) :: l)
        | none => l
      | none => l
def drawnY (P : Program) (h0 : Heap) (step : Oper → (Operand → Value) → Heap → Option (Value × Heap)) (ops : Array Oper) (n : Nat) (s : DSt) (rd : List (Nat × AObj)) : Option DSt :=
  bif rd.all fun p => Nat.blt p.1 h0.next then fsDrawnY P rd step ops n ops.toList 0 s else none

theorem stillR_of {call : FuncId → List Value → Heap → Option (Value × Heap)} {yield : Nat → List Value → Heap → Option (Value × Heap)} {X : Nat → AObj → Prop} {rd : List (Nat × AObj)} {o : Oper} {i : Nat} {s s' : DSt}
    (hf : stillR P rd ops n o s = some s') (hX : ∀ c ob, look rd c = some ob → X c ob) :
    s'.bs = s.bs ++ [beforeOf s.bs o] ∧ Did (fsOp P call yield) ops n X o i s s' := by
  unfold stillR at hf
  split at hf
  · rename_i T a hw hop
    split at hf
    · rename_i p hev
      split at hf
      · rename_i ob hg
        split at hf
        · rename_i v hv
          obtain ⟨t, h3, h4⟩ := Option.map_eq_some_iff.1 hf
          subst h4
          refine ⟨rfl, .still hw v [(p.block, ob)] (fun c oc hc => ?_) ?_ h3 rfl rfl rfl rfl⟩
          · simp only [look] at hc
            cases hbc : Nat.beq p.block c with
            | true =>
              rw [hbc] at hc
              simp only [cond_true, Option.some.injEq] at hc
              obtain rfl := nbeq hbc
              subst hc
              exact hX _ _ hg
            | false => rw [hbc] at hc; cases hc
          unfold fsOp
          rw [hop]
          simp only [hv, Option.map_some]
        cases hf
      cases hf
    cases hf
  cases hf
theorem drawnY_trace {call : FuncId → List Value → Heap → Option (Value × Heap)} {yield : Nat → List Value → Heap → Option (Value × Heap)} {rd : List (Nat × AObj)} : ∀ (l : List Oper) (i : Nat) (s s' : DSt), fsDrawnY P rd (fsOp P call yield) ops n l i s = some s' →
    ∃ st : Nat → DSt, st i = s ∧ st (i + l.length) = s' ∧ (∀ q, i ≤ q → q ≤ i + l.length → okRd rd (st q).h = true) ∧
    ∀ j o, l[j]? = some o → ∀ X : Nat → AObj → Prop, (∀ c ob, look rd c = some ob → X c ob) → (st (i + j + 1)).bs = (st (i + j)).bs ++ [beforeOf (st (i + j)).bs o] ∧ Did (fsOp P call yield) ops n X o (i + j) (st (i + j)) (st (i + j + 1))
  | [], i, s, s', h => by
    simp only [fsDrawnY] at h
    obtain ⟨h1, h2⟩ := bif_some h
    simp only [Option.some.injEq] at h2
    subst h2
    exact ⟨fun _ => s, rfl, rfl, fun _ _ _ => h1, fun j o hj => by simp at hj⟩
  | o :: l, i, s, s', h => by
    simp only [fsDrawnY] at h
    obtain ⟨hok, h⟩ := bif_some h
    have key : ∀ s1, fsDrawnY P rd (fsOp P call yield) ops n l (i + 1) s1 = some s' →
        (∀ X : Nat → AObj → Prop, (∀ c ob, look rd c = some ob → X c ob) → s1.bs = s.bs ++ [beforeOf s.bs o] ∧ Did (fsOp P call yield) ops n X o i s s1) →
      ∃ st : Nat → DSt, st i = s ∧ st (i + (o :: l).length) = s' ∧ (∀ q, i ≤ q → q ≤ i + (o :: l).length → okRd rd (st q).h = true) ∧
        ∀ j o', (o :: l)[j]? = some o' → ∀ X : Nat → AObj → Prop, (∀ c ob, look rd c = some ob → X c ob) → (st (i + j + 1)).bs = (st (i + j)).bs ++ [beforeOf (st (i + j)).bs o'] ∧ Did (fsOp P call yield) ops n X o' (i + j) (st (i + j)) (st (i + j + 1)) := fun s1 hr hd => by
      obtain ⟨st, h1, h2, hq, h3⟩ := drawnY_trace l (i + 1) s1 s' hr
      refine ⟨fun k => if k = i then s else st k, by simp, ?_, fun q hq1 hq2 => ?_, fun j o' hj X hX => ?_⟩
      · simp only [List.length_cons]
        rw [if_neg (by omega), ← h2]
        congr 1; omega
      · rw [List.length_cons] at hq2
        by_cases e : q = i
        · subst e; simpa using hok
        simp only [if_neg e]; exact hq q (by omega) (by omega)
      cases j with
      | zero =>
        simp at hj
        subst hj
        simpa [h1] using hd X hX
      | succ j =>
        simp only [List.getElem?_cons_succ] at hj
        have := h3 j o' hj X hX
        rw [show i + 1 + j = i + (j + 1) by omega] at this
        simp only
        rw [if_neg (by omega), if_neg (by omega)]
        exact this
    split at h
    · rename_i s1 hs1
      exact key s1 h fun X _ => did_of hs1
    split at h
    · rename_i s1 hs1
      exact key s1 h fun X hX => stillR_of hs1 hX
    cases h
theorem traceY_of {call : FuncId → List Value → Heap → Option (Value × Heap)} {yield : Nat → List Value → Heap → Option (Value × Heap)} {t0 : Tr} {h0 : Heap} {s : DSt} {rd : List (Nat × AObj)} (h : drawnY P h0 (fsOp P call yield) ops n ⟨t0, h0, [], [], 0, false⟩ rd = some s) : ∃ st, Trace (fsOp P call yield) ops n st t0 h0 ∧ st ops.size = s := by
  unfold drawnY at h
  obtain ⟨hb, h⟩ := bif_some h
  obtain ⟨st, h1, h2, hq, h3⟩ := drawnY_trace _ _ _ _ h
  have h2' : st ops.size = s := by simpa using h2
  refine ⟨st, ⟨h1, fun i o ho => ?_⟩, h2'⟩
  have := h3 i o (by simpa using ho) (fun b ob => h0.get b = some ob ∧ b < h0.next ∧ (b < (st ops.size).h.low ∨ ∀ q, q ≤ ops.size → (st q).h.get b = some ob)) (fun c ob hc => ?_)
  · simpa only [Nat.zero_add] using this
  have hall : ∀ q, q ≤ ops.size → (st q).h.get c = some ob := fun q hq2 => okRd_get (hq q (Nat.zero_le _) (by simpa using hq2)) hc
  have h0 := hall 0 (Nat.zero_le _)
  rw [h1] at h0
  exact ⟨h0, nblt (List.all_eq_true.1 hb _ (stLook_mem hc)), .inr hall⟩
variable {B : Nat} {w0 : World} {S : Nat → Prop} {ρ0 : Ren} {call : FuncId → List Value → Heap → Option (Value × Heap)} {yield : Nat → List Value → Heap → Option (Value × Heap)} {t0 : Tr} {h0 : Heap}
theorem drawn_wpY (hcs : CallSnd P B w0 call) (hys : YieldSound P B w0 yield) (hok : regionOk ops = true) {s : DSt} {rd : List (Nat × AObj)} (hf : drawnY P h0 (fsOp P call yield) ops n ⟨t0, h0, [], [], 0, false⟩ rd = some s)
    {w : World} {a : Act} (hr : HR P ρ0 S B w0 h0 w) (ht : TrR ρ0 S t0 n a.tmps) {r : Option Nat} {nn : Nat} {Q : Exit → Act → World → Prop}
    (k : ∀ ρ' w' a', Moved P B w0 ρ0 ρ' S h0 s.h w w' → TrR ρ' (Ext S h0 s.h) s.t n a'.tmps → a'.defers = a.defers → Q .normal a' w') (t : Nat) :
    wpOpsIn (Wide r) nn P ops Q (Region.schedule true ops t) a w := drawn_wpT hcs hys hok (traceY_of hf) hr ht k t
end Go.Fs
namespace Go.Fs
open Go.RowKit (Below)
variable {P : Program} {B : Nat} {w0 : World}

def fsStepX (P : Program) (orc : FuncId → List Value → Heap → Option (Value × Heap)) (rec : Rec) : Rec := fun rnd c fr h =>
  match c with
  | .region _ ops true => match drawnX P { next := h.next, low := h.next, objs := h.objs } (fsOp P (callOf P orc rec) (fsYield rec)) ops fr.n ⟨fr.t, { next := h.next, low := h.next, objs := h.objs }, [], [], 0, false⟩ with
    | some s => some (.normal, { t := s.t, n := fr.n, marks := fr.marks }, { next := s.h.next, low := min h.low s.h.low, objs := s.h.objs })
    | none => match drawnY P { next := h.next, low := h.next, objs := h.objs } (fsOp P (callOf P orc rec) (fsYield rec)) ops fr.n ⟨fr.t, { next := h.next, low := h.next, objs := h.objs }, [], [], 0, false⟩ (fsReads P { next := h.next, low := h.next, objs := h.objs } (fsOp P (callOf P orc rec) (fsYield rec)) ops fr.n ops.toList 0 ⟨fr.t, { next := h.next, low := h.next, objs := h.objs }, [], [], 0, false⟩ []) with
      | some s => some (.normal, { t := s.t, n := fr.n, marks := fr.marks }, { next := s.h.next, low := min h.low s.h.low, objs := s.h.objs })
      | none => fsStep P orc rec rnd c fr h
  | c => fsStep P orc rec rnd c fr h
def fsCodeX (P : Program) (orc : FuncId → List Value → Heap → Option (Value × Heap)) : Nat → Rec
  | 0 => fun _ _ _ _ => none
  | n + 1 => fsStepX P orc (fsCodeX P orc n)

theorem HR.low {ρ : Ren} {S : Nat → Prop} {h : Heap} {w : World} (hr : HR P ρ S B w0 h w) (l : Nat) : HR P ρ S B w0 { next := h.next, low := l, objs := h.objs } w :=
  { objs := hr.objs, inj := hr.inj, base := hr.base, ro := hr.ro, ids := hr.ids, pos := hr.pos, below := hr.below, drawn := hr.drawn, size := hr.size }
theorem Moved.lowered {ρ ρ' : Ren} {S : Nat → Prop} {h h' : Heap} {w w' : World} {l : Nat} (m : Moved P B w0 ρ ρ' S { next := h.next, low := l, objs := h.objs } h' w w') :
    Moved P B w0 ρ ρ' S h { next := h'.next, low := min h.low h'.low, objs := h'.objs } w w' where
  agree := m.agree
  next := m.next
  hr := m.hr.low _
  frame := ⟨m.frame.os, m.frame.tape, m.frame.output, m.frame.size, m.frame.block⟩
  low := Nat.min_le_left _ _
  keep := fun i hi hl => m.keep i hi (Nat.lt_of_lt_of_le hl (Nat.min_le_right _ _))
  old := m.old
  fresh := fun i o ho hi => by
    obtain ⟨h1, h2⟩ := m.fresh i o ho hi
    refine ⟨h1, ?_⟩
    rcases h2 with h2 | ⟨j, oj, h3, h4, h5, h6, h7⟩
    · exact .inl h2
    exact .inr ⟨j, oj, h3, h4, h5, Nat.le_trans (Nat.min_le_right _ _) h6, h7⟩
theorem stepX_sound (hP : ProgOk P) {orc : FuncId → List Value → Heap → Option (Value × Heap)} (horc : CallSound P B w0 orc) {m : Nat} {rec : Rec} (hrec : SoundR P B w0 m rec) : SoundR P B w0 (m + 1) (fsStepX P orc rec) := by
  have hcs : CallSnd P B w0 (callOf P orc rec) := call_sound hP horc hrec
  have hys : YieldSound P B w0 (fsYield rec) := yield_sound hrec
  have hold := step_sound hP horc hrec
  intro rnd c fr h e fr' h' hok hf
  cases c with
  | region id ops draw =>
    cases draw with
    | false => exact hold rnd _ fr h e fr' h' hok hf
    | true =>
      intro ρ S w a nn Q hr ht hm hs k
      simp only [fsStepX] at hf
      split at hf
      · rename_i s hrun
        simp only [Option.some.injEq, Prod.mk.injEq] at hf
        obtain ⟨rfl, rfl, rfl⟩ := hf
        refine wpIn_region_draw fun t => ?_
        rw [hP.mixed]
        exact drawn_wpX (h0 := { next := h.next, low := h.next, objs := h.objs }) (call := callOf P orc rec) (yield := fsYield rec) hcs hys hok hrun ((hr.drew _).low _) ht (fun ρ1 w1 a1 m1 ht1 hd1 => k _ _ _ ⟨(Moved.ofDrew m1).lowered, ht1, by rw [hd1]; exact hm.mono fun b hb => ⟨.inl hb, m1.agree b hb⟩⟩) t
      split at hf
      · rename_i s hrun
        simp only [Option.some.injEq, Prod.mk.injEq] at hf
        obtain ⟨rfl, rfl, rfl⟩ := hf
        refine wpIn_region_draw fun t => ?_
        rw [hP.mixed]
        exact drawn_wpY (h0 := { next := h.next, low := h.next, objs := h.objs }) (call := callOf P orc rec) (yield := fsYield rec) hcs hys hok hrun ((hr.drew _).low _) ht (fun ρ1 w1 a1 m1 ht1 hd1 => k _ _ _ ⟨(Moved.ofDrew m1).lowered, ht1, by rw [hd1]; exact hm.mono fun b hb => ⟨.inl hb, m1.agree b hb⟩⟩) t
      exact hold rnd _ fr h e fr' h' hok hf ρ S w a nn Q hr ht hm hs k
  | _ => exact hold rnd _ fr h e fr' h' hok hf

theorem codeX_sound (hP : ProgOk P) {orc : FuncId → List Value → Heap → Option (Value × Heap)} (horc : CallSound P B w0 orc) : ∀ m, SoundR P B w0 m (fsCodeX P orc m)
  | 0 => fun rnd c fr h e fr' h' _ hf => by cases hf
  | m + 1 => stepX_sound hP horc (codeX_sound hP horc m)
theorem fsX_calls (hP : ProgOk P) {orc : FuncId → List Value → Heap → Option (Value × Heap)} (horc : CallSound P B w0 orc) (m : Nat) : CallSound P B w0 (fsEnter P (fsCodeX P orc m)) := enter_sound hP (codeX_sound hP horc m)
theorem fsX_closed (hP : ProgOk P) {w : World} {orc : FuncId → List Value → Heap → Option (Value × Heap)} (horc : CallSound P w.heap.size (wz w) orc) {m : Nat} {f : FuncId} {args : List Value} {v : Value} (ha : args.all af = true)
    (hf : (fsEnter P (fsCodeX P orc m) f args ⟨1, 1, []⟩).map (·.1) = some v) (hv : af v = true) :
    Calls P f args.toArray w fun | .returned v', w' => v' = v ∧ Below w.heap.size w w' | _, _ => False := by
  obtain ⟨⟨v0, h0⟩, h1, h2⟩ := Option.map_eq_some_iff.1 hf
  simp only at h2
  subst h2
  have hr : HR P (fun _ => Loc.clean 0 0 0 0) (fun _ => False) w.heap.size (wz w) ⟨1, 1, []⟩ w :=
    { objs := fun i o hi => (by cases hi), inj := fun i j oi oj hi => (by cases hi), base := fun i o hi => (by cases hi), ro := fun i o hi => (by cases hi), ids := fun b hb => hb.elim, pos := by decide,
      below := z_below (Below.refl _ _), drawn := Nat.zero_le _, size := Nat.le_refl _ }
  have hc := ((fsX_calls hP horc m) f args _ _ _ h1).2 _ _ w args hr ⟨rfl, fun i hi => .of_af (List.all_eq_true.1 ha _ (mem_getD hi))⟩ 0
  refine Calls.mono (callsIn_wide.1 hc) fun e w' he => ?_
  cases e with
  | returned v' =>
    obtain ⟨ρ', m1, hv1⟩ := he
    exact ⟨hv1.eq_of_af hv, below_z m1.hr.below⟩
  | panicked c => exact he.elim
  | outgrown => exact he.elim
theorem awakeX_calls (hP : ProgOk P) {B : Nat} {w0 : World} {O : FuncId → List Value → Heap → Option (Value × Heap)} {fa : FuncId} (hS : ∀ w, Below B w0 w → CallSound P w.heap.size (wz w) O) {m : Nat}
    (hrun : (fsEnter P (fsCodeX P O m) fa [] ⟨1, 1, []⟩).map (·.1) = some (.bool true)) (w : World) (hw : Below B w0 w) :
    Calls P fa #[] w fun | .returned v', w' => v' = .bool true ∧ Below w.heap.size w w' | _, _ => False :=
  fsX_closed hP (hS w hw) (args := []) rfl hrun rfl
end Go.Fs
namespace Go.Fs
variable {P : Program} {orc : FuncId → List Value → Heap → Option (Value × Heap)}
def runPre (P : Program) (orc : FuncId → List Value → Heap → Option (Value × Heap)) : Nat → Nat → Code → Fr → Heap → Option (Nat × Code × Fr × Heap)
  | 0, n, c, fr, h => some (n, c, fr, h)
  | k + 1, n, c, fr, h => match n, c with
    | n + 1, .seq a b => match fsCodeX P orc n none a fr h with
      | some (.normal, fr1, h1) => runPre P orc k n b fr1 h1
      | _ => none
    | _, _ => none
theorem run_via : ∀ {k n : Nat} {c : Code} {fr : Fr} {h : Heap} {n' : Nat} {c' : Code} {fr' : Fr} {h' : Heap}, runPre P orc k n c fr h = some (n', c', fr', h') → fsCodeX P orc n none c fr h = fsCodeX P orc n' none c' fr' h'
  | 0, n, c, fr, h, n', c', fr', h', hr => by
    simp only [runPre, Option.some.injEq, Prod.mk.injEq] at hr
    obtain ⟨rfl, rfl, rfl, rfl⟩ := hr
    rfl
  | k + 1, n, c, fr, h, n', c', fr', h', hr => by
    simp only [runPre] at hr
    split at hr
    · rename_i n a b
      split at hr
      · rename_i fr1 h1 ha
        rw [← run_via hr]
        show fsStep P orc (fsCodeX P orc n) none (.seq a b) fr h = _
        simp only [fsStep, ha]
      cases hr
    cases hr
def endV (P : Program) (fn : Func) (h : Heap) (x : Ex × Fr × Heap) : Option Value :=
  bif x.1.goes then
    match dropMarks x.2.1.marks x.2.2 with
    | some h2 => (fsResults P x.2.1.t h2 fn.results.toList).map tupled
    | none => none
  else none
theorem enter_map {rec : Rec} {f : FuncId} {args : List Value} {h : Heap} {fn : Func} {c : Code} (hf : P.funcs[f]? = some fn) (hc : fn.body = some c) (hn : (Nat.blt 4000 fn.ntmps || Nat.blt fn.ntmps args.length) = false) :
    (fsEnter P rec f args h).map (·.1) = (rec none c ⟨fillTr .leaf 0 args, fn.ntmps, []⟩ { next := h.next, low := h.next, objs := h.objs }).bind (endV P fn h) := by
  unfold fsEnter fsEnterK endV
  simp only [hf, hc, hn, cond_false]
  cases rec none c ⟨fillTr .leaf 0 args, fn.ntmps, []⟩ { next := h.next, low := h.next, objs := h.objs } with
  | none => rfl
  | some x =>
    obtain ⟨e, fr, h1⟩ := x
    simp only [Option.bind_some]
    cases e.goes with
    | false => rfl
    | true =>
      simp only [cond_true]
      cases dropMarks fr.marks h1 with
      | none => rfl
      | some h2 =>
        simp only
        cases fsResults P fr.t h2 fn.results.toList with
        | none => rfl
        | some vs =>
          simp only [Option.map_some]
          generalize (!false && (af (tupled vs) && Nat.ble h.next h2.low)) = q
          cases q <;> rfl
def sufx : Nat → Code → Code
  | 0, c => c
  | k + 1, .seq _ b => sufx k b
  | _ + 1, c => c
def rfOf : Code → Option (Array Tmp × Code × Code)
  | .rangeFunc _ ps a b => some (ps, a, b)
  | .seq a b => (rfOf a).or (rfOf b)
  | .cond _ a b => (rfOf a).or (rfOf b)
  | .block _ b => rfOf b
  | .loop b => rfOf b
  | .scope b => rfOf b
  | _ => none
def rfIn (fn : Func) : Array Tmp × Code × Code := (fn.body.bind rfOf).getD (#[], .skip, .skip)
end Go.Fs
namespace Go.Fs
open Go.RowKit (Below)

variable {P : Program} {B : Nat} {w0 : World}
theorem orcI_sound {fi : FuncId} (hz : w0.drawn = 0) (hi : Enters P fi)
    (hI : ∀ (n : Int) (w : World), Below B w0 w → -9223372036854775808 ≤ n → n ≤ 9223372036854775807 → Calls P fi #[.int .i64 n] w fun e w' => e = .returned (.string ⟨(Lib.itoa n).toArray⟩) ∧ Below w.heap.size w w') : CallSound P B w0 (orcS fi fi) := by
  intro f xs h v h' hf
  unfold orcS at hf
  cases hfi : Nat.beq f fi with
  | true =>
    have := nbeq hfi
    subst this
    rw [hfi] at hf
    simp only [cond_true] at hf
    split at hf
    · rename_i n
      obtain ⟨hc, hf2⟩ := bif_some hf
      obtain ⟨h0, h1⟩ := band hc
      have h0 := of_decide_eq_true h0
      have h1 := of_decide_eq_true h1
      simp only [Option.some.injEq, Prod.mk.injEq] at hf2
      obtain ⟨rfl, rfl⟩ := hf2
      refine ⟨hi, fun ρ S w args' hr ha nn => ?_⟩
      have he : args' = [.int .i64 n] := ha.eq_of_af (by rfl)
      subst he
      have hC : CallsIn Fence.wide nn P f #[.int .i64 n] w _ := callsIn_wide.2 (hI n w hr.below (by omega) (by omega))
      refine hC.mono fun e w' hret => ?_
      obtain ⟨rfl, hb⟩ := hret
      exact ⟨ρ, Moved.grewWorld hr hb (by rw [hz]; exact Nat.zero_le _), by rw [itoaF_eq h0 h1]; exact .lit rfl⟩
    cases hf
  | false =>
    rw [hfi] at hf
    simp only [cond_false] at hf
    cases hf
end Go.Fs
