/- Parts of the proof: an evaluator of the model, what it is sound for, and contracts of functions. No condition. -/
import Derived.Test.YtligdjefbiebjaaGreatDoorP5
set_option linter.all false
namespace Go.Proofs
open Go.Fs
set_option linter.unusedVariables false
set_option maxHeartbeats 1000000
theorem vt4 : ValT Tryz.prog 4 .bool := valT_of (by kernel_rfl)
theorem vt158 : ValT Tryz.prog 158 y158 := valT_of (by kernel_rfl)
theorem zt158 : ZerT Tryz.prog 158 y158 := zerT_of (z := .map none) (by kernel_rfl) rfl rfl
abbrev BMap := List (ByteArray × Bool)
def inM (m : BMap) (s : ByteArray) : Bool := (mget m s).getD false
def evM (l : List ByteArray) (i : Nat) : BMap := (l.take i).foldl (fun m s => mset m s true) []
def usedN (m : BMap) (x : Clm) : Nat := (x.2.2.filter (inM m)).length
def holdsX (m : BMap) (x : Clm) : Bool := decide (((usedN m x : Nat) : Int) = (x.2.2.length : Nat)) || (x.2.1 && decide (0 < ((usedN m x : Nat) : Int)))
def clM (c : Cse) (l : List ByteArray) (i : Nat) : BMap := (c.2.2.take i).foldl (fun m x => mset m x.1 (holdsX m x)) (evM l l.length)
def byM (c : Cse) (l : List ByteArray) : BMap := clM c l c.2.2.length
theorem evM_succ {l : List ByteArray} {i : Nat} (h : i < l.length) : evM l (i + 1) = mset (evM l i) l[i] true := by
  unfold evM
  rw [List.take_succ_eq_append_getElem h, List.foldl_append] <;> rfl
theorem clM_succ {c : Cse} {l : List ByteArray} {i : Nat} (h : i < c.2.2.length) : clM c l (i + 1) = mset (clM c l i) c.2.2[i].1 (holdsX (clM c l i) c.2.2[i]) := by
  unfold clM
  rw [List.take_succ_eq_append_getElem h, List.foldl_append] <;> rfl
theorem holdsX_t {m : BMap} {x : Clm} (h : ((usedN m x : Nat) : Int) = (x.2.2.length : Nat)) : holdsX m x = true := by
  unfold holdsX
  rw [decide_eq_true h, Bool.true_or]
theorem holdsX_f {m : BMap} {x : Clm} (h : ¬ ((usedN m x : Nat) : Int) = (x.2.2.length : Nat)) : holdsX m x = (x.2.1 && decide (0 < ((usedN m x : Nat) : Int))) := by
  unfold holdsX
  rw [decide_eq_false h, Bool.false_or]
theorem sBy1_ok {s : ByteArray} {m : List (ByteArray × Bool)} : VF Tryz.prog OA 158 [St s, .p y158 m] (B (inM m s)) := by
  refine VF.enter Tryz.func158 rfl (fun _ _ => rfl) rfl ?_
  show VC _ _ _ _ _ [(0, St s), (1, .p y158 m)] [] _
  refine VC.seq (VC.text ?_)
  refine VO.c (.assign rfl) ?_
  refine VO.go (VC.seq (VC.text ?_))
  refine VO.r (.ld vt158) ?_
  refine VO.c (.move rfl) ?_
  refine VO.r (.look mt158) ?_
  refine VO.c (.assign rfl) ?_
  refine VO.go ?_
  refine VC.ret ?_
  exact VEnd.one rfl evT (pvE (by rfl))
theorem sBy_ok {c : (List (ByteArray × Int)) × (List (ByteArray × (List (ByteArray × Int)))) × (List (ByteArray × Bool × (List ByteArray)))} {l : List ByteArray} (hl : l.length < 100000) (hc : CseOk c) : VF Tryz.prog OA 106 [.v y72 c, .v (.sl .str) l] (.v y158 (byM c l)) := by
  refine VF.enter Tryz.func106 rfl (fun _ _ => rfl) rfl ?_
  show VC _ _ _ _ _ [(0, .v y72 c), (1, .v (.sl .str) l)] [] _
  refine VC.seq (VC.text ?_)
  have hcl := hc.l
  refine VO.new (.box) ?_
  refine VO.c (.assign rfl) ?_
  refine VO.go (VC.seq (VC.text ?_))
  refine VO.cell (.mkMap .str .bool) ?_
  intro ww1
  refine VO.cell (.alloc zt158) ?_
  intro ww2
  refine VO.oneM m1 fun ho3 => ?_
  refine VO.setV (cs' := [.raw ww1]) vt158 (.raw rfl (agg_one ho3) ho3) ?_
  refine VO.go (VC.seq (VC.seq (VC.text ?_)))
  refine VO.c (.move rfl) ?_
  refine VO.r (.len el27) ?_
  refine VO.c (.move rfl) ?_
  refine VO.go (VC.block ?_)
  refine VC.keep [(2, .p y72 c), (5, .raw ww2), (12, .v (.sl .str) l), (13, I ((l.length : Nat) : Int)), (14, I ((0 : Nat) : Int))] ⟨rfl, rfl, rfl, rfl, rfl, trivial⟩ ?_
  refine VC.loop (I := fun kk ff ss => ∃ (i : Nat), kk = l.length - i ∧ ff = [(2, .p y72 c), (5, .raw ww2), (12, .v (.sl .str) l), (13, I ((l.length : Nat) : Int)), (14, I ((i : Nat) : Int))] ∧ ss = [(ww2, .var [.raw ww1]), (ww1, .mp .str .bool (evM l i))] ∧ (i ≤ l.length)) ?_ _ _ _ ⟨0, rfl, rfl, rfl, Nat.zero_le _⟩
  rintro kk ff ss ⟨i, hk0, rfl, rfl, hi⟩
  refine VC.seq (VC.text ?_)
  refine VO.c (.lss) ?_
  refine VO.go (VC.seq ?_)
  refine VC.condD rfl (fun c3 => ?_) (fun c3 => ?_)
  · refine VC.skip (VC.seq (VC.block (VC.seq (VC.text ?_))))
    refine VO.c (.ix (j := i) rfl rfl el27 (by omega)) ?_
    refine VO.r (.ld vt9) ?_
    refine VO.c (.assign rfl) ?_
    refine VO.go (VC.text ?_)
    refine VO.r (.ldV m0 vt158) ?_
    refine VO.c (.move rfl) ?_
    refine VO.perm swap1 ?_
    refine VO.mput mt158 ?_
    refine VO.nil (VC.text ?_)
    refine VO.c (.add rfl rfl (by omega)) ?_
    refine VO.c (.move rfl) ?_
    refine VO.perm swap1 ?_
    refine VO.nil ?_
    refine ⟨_, [(2, .p y72 c), (5, .raw ww2), (12, .v (.sl .str) l), (13, I ((l.length : Nat) : Int)), (14, I (((i + 1) : Nat) : Int))], ?_, ⟨rfl, rfl, rfl, rfl, rfl, trivial⟩, (i + 1), rfl, rfl, (by rw [evM_succ (by omega)]), (by omega)⟩
    omega
  refine VC.exit (VC.seq (VC.seq (VC.text ?_)))
  refine VO.c (.fa (.r (.r .o))) ?_
  refine VO.r (.ld vt70) ?_
  refine VO.r (.len el70) ?_
  refine VO.c (.move rfl) ?_
  refine VO.go (VC.block ?_)
  refine VC.keep [(5, .raw ww2), (22, .v y70 c.2.2), (23, I ((c.2.2.length : Nat) : Int)), (24, I ((0 : Nat) : Int))] ⟨rfl, rfl, rfl, rfl, trivial⟩ ?_
  refine VC.loop (I := fun kk ff ss => ∃ (j : Nat), kk = c.2.2.length - j ∧ ff = [(5, .raw ww2), (22, .v y70 c.2.2), (23, I ((c.2.2.length : Nat) : Int)), (24, I ((j : Nat) : Int))] ∧ ss = [(ww2, .var [.raw ww1]), (ww1, .mp .str .bool (clM c l j))] ∧ (j ≤ c.2.2.length)) ?_ _ _ _ ⟨0, rfl, rfl, (by rw [show i = l.length by omega] <;> rfl), Nat.zero_le _⟩
  rintro kk ff ss ⟨j, hk2, rfl, rfl, hj⟩
  refine VC.seq (VC.text ?_)
  refine VO.c (.lss) ?_
  refine VO.go (VC.seq ?_)
  refine VC.condD rfl (fun c8 => ?_) (fun c8 => ?_)
  · refine VC.skip (VC.seq (VC.block (VC.seq (VC.text ?_))))
    refine VO.c (.ix (j := j) rfl rfl el70 (by omega)) ?_
    refine VO.r (.ld vt156) ?_
    refine VO.cell (.alloc zt156) ?_
    intro ww4
    refine VO.setV (cs' := [St ((c.2.2[j]).1), B ((c.2.2[j]).2.1), .v (.sl .str) ((c.2.2[j]).2.2)]) vt156 .v ?_
    refine VO.shut [(9, .p y156 (c.2.2[j]))] (.cons rfl (.var m0 .refl) .nil) ?_
    refine VO.go (VC.seq (VC.text ?_))
    refine VO.c (.fa (.r (.r .o))) ?_
    refine VO.r (.ld vt27) ?_
    refine VO.c (.func) ?_
    refine VO.callW el27 rfl rfl .same (.cons .same (.cons (.clo .refl (.cons (.var m0 (.cons (.mp m1) .nil)) .nil)) .nil)) (VF.call (sKeptS_ok (F := inM (clM c l j)) (by have := hc.u _ (List.getElem_mem (show j < c.2.2.length by omega)); omega) (fun _ _ => VF.clo sBy1_ok))) ?_
    intro uu5 hu5
    refine VO.r (.lenW hu5) ?_
    refine VO.c (.assign rfl) ?_
    refine VO.go (VC.text ?_)
    refine VO.r (.ldV m0 vt158) ?_
    refine VO.c (.fa (.l .o)) ?_
    refine VO.r (.ld vt9) ?_
    refine VO.c (.move rfl) ?_
    refine VO.c (.fa (.r (.r .o))) ?_
    refine VO.r (.ld vt27) ?_
    refine VO.r (.len el27) ?_
    refine VO.c (.eql) ?_
    refine VO.c (.move rfl) ?_
    refine VO.splitD (x := 41) rfl (fun g11_8 => ?_) (fun g11_8 => ?_)
    · refine VO.skip ?_
      refine VO.skip ?_
      refine VO.skip ?_
      refine VO.skip ?_
      refine VO.skip ?_
      refine VO.skip ?_
      refine VO.c (.pickT rfl rfl) ?_
      refine VO.perm swap1 ?_
      refine VO.mput mt158 ?_
      refine VO.nil (VC.text ?_)
      refine VO.c (.add rfl rfl (by omega)) ?_
      refine VO.c (.move rfl) ?_
      refine VO.perm swap1 ?_
      refine VO.nil ?_
      refine ⟨_, [(5, .raw ww2), (22, .v y70 c.2.2), (23, I ((c.2.2.length : Nat) : Int)), (24, I (((j + 1) : Nat) : Int))], ?_, ⟨rfl, rfl, rfl, rfl, trivial⟩, (j + 1), rfl, rfl, (by rw [clM_succ (by omega)]; first | rw [holdsX_t g11_8] | (rw [holdsX_f g11_8]; first | rfl | (rw [g11_11]; rfl))), (by omega)⟩
      omega
    refine VO.c (.fa (.r (.l .o))) ?_
    refine VO.r (.ld vt4) ?_
    refine VO.c (.move rfl) ?_
    refine VO.cg (r := (c.2.2[j]).2.1) (w := true) [] trivial (fun hgd => have g11_11 : (c.2.2[j]).2.1 = true := (by simpa using hgd); (.move rfl)) ?_
    refine VO.cg (r := (c.2.2[j]).2.1) (w := true) [(45, I (((((c.2.2[j]).2.2).filter (inM (clM c l j))).length : Nat) : Int))] ⟨rfl, trivial⟩ (fun hgd => have g11_11 : (c.2.2[j]).2.1 = true := (by simpa using hgd); (.gtr)) ?_
    refine VO.c (.and) ?_
    refine VO.c (.pickF rfl rfl) ?_
    refine VO.perm swap1 ?_
    refine VO.mput mt158 ?_
    refine VO.nil (VC.text ?_)
    refine VO.c (.add rfl rfl (by omega)) ?_
    refine VO.c (.move rfl) ?_
    refine VO.perm swap1 ?_
    refine VO.nil ?_
    refine ⟨_, [(5, .raw ww2), (22, .v y70 c.2.2), (23, I ((c.2.2.length : Nat) : Int)), (24, I (((j + 1) : Nat) : Int))], ?_, ⟨rfl, rfl, rfl, rfl, trivial⟩, (j + 1), rfl, rfl, (by rw [clM_succ (by omega)]; first | rw [holdsX_t g11_8] | (rw [holdsX_f g11_8]; first | rfl | (rw [g11_11]; rfl))), (by omega)⟩
    omega
  refine VC.exit (VC.seq (VC.text ?_))
  refine VO.r (.ldV m0 vt158) ?_
  refine VO.c (.assign rfl) ?_
  refine VO.go ?_
  refine VC.ret ?_
  exact VEnd.one rfl (evC (.mp m1)) (pvE (by rw [byM, show j = c.2.2.length by omega]))
end Go.Proofs
namespace Go.Proofs
open Go.Fs
set_option linter.unusedVariables false
set_option maxHeartbeats 1000000

def hasC (c : Cse) (s : ByteArray) : Bool := c.2.2.any fun x => decide (x.1 = s)
def holdsE (c : Cse) (s : ByteArray) : Bool := inM (byM c (validE c)) s
def twoE (c : Cse) (s : ByteArray) : Int := firstE [caseE c, whenE (!hasC c s) 10]
theorem validE_len {c : Cse} : (validE c).length ≤ c.2.1.length := by
  unfold validE
  rw [List.length_map]
  exact List.length_filter_le _ _
theorem sCheckClaim_ok {c : (List (ByteArray × Int)) × (List (ByteArray × (List (ByteArray × Int)))) × (List (ByteArray × Bool × (List ByteArray)))} {s : ByteArray} (hc : CseOk c) : VF Tryz.prog OA 105 [.v y72 c, St s] (I (twoE c s)) := by
  refine VF.enter Tryz.func105 rfl (fun _ _ => rfl) rfl ?_
  show VC _ _ _ _ _ [(0, .v y72 c), (1, St s)] [] _
  refine VC.seq (VC.text ?_)
  have hcl := hc.l
  refine VO.new (.box) ?_
  refine VO.c (.assign rfl) ?_
  refine VO.go (VC.seq (VC.drawn ?_))
  refine VD.r [] (.ld vt72) (.inl rfl) ?_
  refine VD.call rfl rfl (VF.call (sCase_ok (by first | assumption | omega | simp))) ?_
  refine VD.r [] (.ld vt72) (.inl rfl) ?_
  refine VD.c (.move rfl) ?_
  refine VD.call rfl rfl (VF.call (sKnows_ok (by first | assumption | omega | simp))) ?_
  refine VD.c (.not) ?_
  refine VD.nw [] ?_
  refine VD.call rfl rfl (VF.call (sWhen_ok )) ?_
  refine VD.new (.lit [caseE c, whenE (!(c.2.2.any fun x => decide (x.1 = s))) (10 : Int)] el204) ?_
  refine VD.callO rfl rfl (VF.call (sFirst_ok (by first | assumption | omega | simp))) ?_
  refine VD.c (.assign rfl) ?_
  refine VD.go ?_
  refine VC.ret ?_
  exact VEnd.one rfl evT (pvI (by rfl))
theorem sHolds_ok {c : (List (ByteArray × Int)) × (List (ByteArray × (List (ByteArray × Int)))) × (List (ByteArray × Bool × (List ByteArray)))} {s : ByteArray} (hc : CseOk c) : VF Tryz.prog OA 39 [.v y72 c, St s] (.tup [B (if twoE c s = 0 then holdsE c s else false), I (twoE c s)]) := by
  refine VF.enter Tryz.func39 rfl (fun _ _ => rfl) rfl ?_
  show VC _ _ _ _ _ [(0, .v y72 c), (1, St s)] [] _
  refine VC.seq (VC.text ?_)
  have hcl := hc.l
  have hce := hc.e
  have hvl := validE_len (c := c)
  refine VO.new (.box) ?_
  refine VO.c (.assign rfl) ?_
  refine VO.c (.assign rfl) ?_
  refine VO.go (VC.seq (VC.seq (VC.text ?_)))
  refine VO.r (.ld vt72) ?_
  refine VO.c (.move rfl) ?_
  refine VO.call rfl rfl (VF.call (sCheckClaim_ok (by first | assumption | omega | simp))) ?_
  refine VO.c (.assign rfl) ?_
  refine VO.go (VC.seq (VC.text ?_))
  refine VO.c (.move rfl) ?_
  refine VO.c (.neq) ?_
  refine VO.go ?_
  refine VC.condD rfl (fun c2 => ?_) (fun c2 => ?_)
  · refine VC.seq (VC.text ?_)
    refine VO.c (.move rfl) ?_
    refine VO.c (.assign rfl) ?_
    refine VO.c (.assign rfl) ?_
    refine VO.go ?_
    refine VC.ret ?_
    exact VEnd.two rfl evT evT (pvE (by exact (if_neg c2).symm)) (pvI (by rfl))
  refine VC.skip (VC.seq (VC.drawn ?_))
  refine VD.r [] (.ld vt72) (.inl rfl) ?_
  refine VD.r [] (.ld vt72) (.inl rfl) ?_
  refine VD.call rfl rfl (VF.call (sValid0_ok (by first | assumption | omega | simp))) ?_
  refine VD.callO rfl rfl (VF.call (sBy_ok (by first | assumption | omega | simp) (by first | assumption | omega | simp))) ?_
  refine VD.c (.move rfl) ?_
  refine VD.ro (.look mt158) ?_
  refine VD.nw [16, 15] ?_
  refine VD.c (.assign rfl) ?_
  refine VD.c (.assign rfl) ?_
  refine VD.go ?_
  refine VC.ret ?_
  exact VEnd.two rfl evT evT (pvE (by exact (if_pos (show twoE c s = 0 by simpa using c2)).symm)) (pvI (by exact (Decidable.not_not.1 c2).symm))
def opnE (c : Cse) (i : Nat) : List ByteArray := ((c.2.2.take i).filter fun x => !holdsE c x.1).map (·.1)
def openE (c : Cse) : List ByteArray := opnE c c.2.2.length
theorem opnE_len {c : Cse} {i : Nat} : (opnE c i).length ≤ i := by
  unfold opnE
  rw [List.length_map]
  have h := List.length_filter_le (fun x : Clm => !holdsE c x.1) (c.2.2.take i)
  rw [List.length_take] at h
  omega
theorem opnE_f {c : Cse} {i : Nat} (h : i < c.2.2.length) (hh : holdsE c c.2.2[i].1 = false) : opnE c (i + 1) = opnE c i ++ [c.2.2[i].1] := by
  unfold opnE
  rw [List.take_succ_eq_append_getElem h, List.filter_append, List.map_append]
  simp [hh]
theorem opnE_t {c : Cse} {i : Nat} (h : i < c.2.2.length) (hh : holdsE c c.2.2[i].1 = true) : opnE c (i + 1) = opnE c i := by
  unfold opnE
  rw [List.take_succ_eq_append_getElem h, List.filter_append, List.map_append]
  simp [hh]
theorem sOpenM_ok {c : (List (ByteArray × Int)) × (List (ByteArray × (List (ByteArray × Int)))) × (List (ByteArray × Bool × (List ByteArray)))} (hc : CseOk c) : VF Tryz.prog OA 107 [.v y72 c] (.v (.sl .str) (openE c)) := by
  refine VF.enter Tryz.func107 rfl (fun _ _ => rfl) rfl ?_
  show VC _ _ _ _ _ [(0, .v y72 c)] [] _
  refine VC.seq (VC.text ?_)
  have hcl := hc.l
  have hce := hc.e
  have hvl := validE_len (c := c)
  refine VO.new (.box) ?_
  refine VO.c (.assign rfl) ?_
  refine VO.go (VC.seq (VC.drawn ?_))
  refine VD.r [] (.ld vt72) (.inl rfl) ?_
  refine VD.r [] (.ld vt72) (.inl rfl) ?_
  refine VD.call rfl rfl (VF.call (sValid0_ok (by first | assumption | omega | simp))) ?_
  refine VD.callO rfl rfl (VF.call (sBy_ok (by omega) hc)) ?_
  refine VD.c (.assign rfl) ?_
  refine VD.go (VC.seq (VC.text ?_))
  refine VO.c (.assign rfl) ?_
  refine VO.go (VC.seq (VC.seq (VC.text ?_)))
  refine VO.c (.fa (.r (.r .o))) ?_
  refine VO.r (.ld vt70) ?_
  refine VO.r (.len el70) ?_
  refine VO.c (.move rfl) ?_
  refine VO.go (VC.block ?_)
  refine VC.cell0 9 .str ?_
  refine VC.keep [(3, .v y158 (byM c (validE c))), (4, .raw (.slice none 0 0)), (12, .v y70 c.2.2), (13, I ((c.2.2.length : Nat) : Int)), (14, I ((0 : Nat) : Int))] ⟨rfl, rfl, rfl, rfl, rfl, trivial⟩ ?_
  refine VC.loop (I := fun kk ff ss => ∃ (i : Nat) (out : Value), kk = c.2.2.length - i ∧ ff = [(3, .v y158 (byM c (validE c))), (4, .raw out), (12, .v y70 c.2.2), (13, I ((c.2.2.length : Nat) : Int)), (14, I ((i : Nat) : Int))] ∧ ss = [(out, .row 9 .str (opnE c i))] ∧ (i ≤ c.2.2.length)) ?_ _ _ _ ⟨0, (.slice none 0 0), rfl, rfl, rfl, Nat.zero_le _⟩
  rintro kk ff ss ⟨i, out, hk0, rfl, rfl, hi⟩
  have hol := opnE_len (c := c) (i := i)
  refine VC.seq (VC.text ?_)
  refine VO.c (.lss) ?_
  refine VO.go (VC.seq ?_)
  refine VC.condD rfl (fun c4 => ?_) (fun c4 => ?_)
  · refine VC.skip (VC.seq (VC.block (VC.seq (VC.text ?_))))
    refine VO.c (.ix (j := i) rfl rfl el70 (by omega)) ?_
    refine VO.r (.ld vt156) ?_
    refine VO.cell (.alloc zt156) ?_
    intro ww1
    refine VO.setV (cs' := [St ((c.2.2[i]).1), B ((c.2.2[i]).2.1), .v (.sl .str) ((c.2.2[i]).2.2)]) vt156 .v ?_
    refine VO.shut [(6, .p y156 (c.2.2[i]))] (.cons rfl (.var m0 .refl) .nil) ?_
    refine VO.go (VC.seq (VC.text ?_))
    refine VO.c (.move rfl) ?_
    refine VO.c (.fa (.l .o)) ?_
    refine VO.r (.ld vt9) ?_
    refine VO.r (.look mt158) ?_
    refine VO.c (.not) ?_
    refine VO.go ?_
    refine VC.condB rfl (fun c6 => ?_) (fun c6 => ?_)
    · try simp only [Bool.and_eq_true, Bool.or_eq_true, Bool.and_eq_false_iff, Bool.or_eq_false_iff, Bool.not_eq_true', Bool.not_eq_false', decide_eq_true_eq, decide_eq_false_iff_not] at c6
      refine VC.text ?_
      refine VO.c (.move rfl) ?_
      refine VO.c (.fa (.l .o)) ?_
      refine VO.r (.ld vt9) ?_
      refine VO.new (.lit [(c.2.2[i]).1] el27) ?_
      refine VO.app rfl rfl el27 el27 (by simp; omega) ?_
      intro ww2
      refine VO.c (.assign rfl) ?_
      refine VO.nil (VC.text ?_)
      refine VO.c (.add rfl rfl (by omega)) ?_
      refine VO.c (.move rfl) ?_
      refine VO.nil ?_
      refine ⟨_, [(3, .v y158 (byM c (validE c))), (4, .raw ww2), (12, .v y70 c.2.2), (13, I ((c.2.2.length : Nat) : Int)), (14, I (((i + 1) : Nat) : Int))], ?_, ⟨rfl, rfl, rfl, rfl, rfl, trivial⟩, (i + 1), ww2, rfl, rfl, (by first | rw [opnE_f (by omega) c6] | rw [opnE_t (by omega) c6]), (by omega)⟩
      omega
    try simp only [Bool.and_eq_true, Bool.or_eq_true, Bool.and_eq_false_iff, Bool.or_eq_false_iff, Bool.not_eq_true', Bool.not_eq_false', decide_eq_true_eq, decide_eq_false_iff_not] at c6
    refine VC.skip (VC.text ?_)
    refine VO.c (.add rfl rfl (by omega)) ?_
    refine VO.c (.move rfl) ?_
    refine VO.nil ?_
    refine ⟨_, [(3, .v y158 (byM c (validE c))), (4, .raw out), (12, .v y70 c.2.2), (13, I ((c.2.2.length : Nat) : Int)), (14, I (((i + 1) : Nat) : Int))], ?_, ⟨rfl, rfl, rfl, rfl, rfl, trivial⟩, (i + 1), out, rfl, rfl, (by first | rw [opnE_f (by omega) c6] | rw [opnE_t (by omega) c6]), (by omega)⟩
    omega
  refine VC.exit (VC.seq (VC.text ?_))
  refine VO.c (.move rfl) ?_
  refine VO.c (.assign rfl) ?_
  refine VO.go ?_
  refine VC.ret ?_
  exact VEnd.one rfl (evC (.row m0)) (pvE (by rw [openE, show i = c.2.2.length by omega]))
theorem sOpenT_ok {c : (List (ByteArray × Int)) × (List (ByteArray × (List (ByteArray × Int)))) × (List (ByteArray × Bool × (List ByteArray)))} (hc : CseOk c) : VF Tryz.prog OA 40 [.v y72 c] (.tup [.v (.sl .str) (if caseE c = 0 then openE c else []), I (caseE c)]) := by
  refine VF.enter Tryz.func40 rfl (fun _ _ => rfl) rfl ?_
  show VC _ _ _ _ _ [(0, .v y72 c)] [] _
  refine VC.seq (VC.text ?_)
  refine VO.new (.box) ?_
  refine VO.c (.assign rfl) ?_
  refine VO.c (.assign rfl) ?_
  refine VO.go (VC.seq (VC.seq (VC.text ?_)))
  refine VO.r (.ld vt72) ?_
  refine VO.call rfl rfl (VF.call (sCase_ok (by first | assumption | omega | simp))) ?_
  refine VO.c (.assign rfl) ?_
  refine VO.go (VC.seq (VC.text ?_))
  refine VO.c (.move rfl) ?_
  refine VO.c (.neq) ?_
  refine VO.go ?_
  refine VC.condD rfl (fun c2 => ?_) (fun c2 => ?_)
  · refine VC.seq (VC.text ?_)
    refine VO.c (.move rfl) ?_
    refine VO.c (.assign rfl) ?_
    refine VO.c (.assign rfl) ?_
    refine VO.go ?_
    refine VC.ret ?_
    exact VEnd.two rfl (evC .nil) evT (pvE (by exact (if_neg c2).symm)) (pvI (by rfl))
  refine VC.skip (VC.seq (VC.text ?_))
  refine VO.r (.ld vt72) ?_
  refine VO.call rfl rfl (VF.call (sOpenM_ok (by first | assumption | omega | simp))) ?_
  refine VO.c (.assign rfl) ?_
  refine VO.c (.assign rfl) ?_
  refine VO.go ?_
  refine VC.ret ?_
  exact VEnd.two rfl evT evT (pvE (by exact (if_pos (show caseE c = 0 by simpa using c2)).symm)) (pvI (by exact (Decidable.not_not.1 c2).symm))
end Go.Proofs
namespace Go.Proofs
open Go.Fs
theorem firstR_zero {f : Nat → Int} {n : Nat} : ∀ (d i : Nat), n - i = d → firstR f i n = 0 → ∀ k, i ≤ k → k < n → f k = 0
  | 0, i, hd, _, k, h1, h2 => by omega
  | d + 1, i, hd, h, k, h1, h2 => by
    have hi : i < n := by omega
    rw [firstR_step hi] at h
    by_cases hf : f i = 0
    · rw [if_pos hf] at h
      by_cases he : k = i
      · subst he; exact hf
      exact firstR_zero d (i + 1) (by omega) h k (by omega) h2
    rw [if_neg hf] at h
    exact absurd h hf
theorem firstE_mem0 : ∀ {l : List Int}, firstE l = 0 → ∀ x ∈ l, x = 0
  | [], _, x, hx => by cases hx
  | y :: l, h, x, hx => by
    have e : firstE (y :: l) = if y = 0 then firstE l else y := rfl
    rw [e] at h
    by_cases hy : y = 0
    · rw [if_pos hy] at h
      rcases List.mem_cons.1 hx with e | hx
      · rw [e]; exact hy
      exact firstE_mem0 h x hx
    rw [if_neg hy] at h
    exact absurd h hy
theorem idxG_le {α : Type} {F : α → Bool} {l : List α} {i : Nat} (h : i < l.length) (hF : F l[i] = true) : idxG F l 0 ≤ (i : Int) ∧ 0 ≤ idxG F l 0 := by
  have ha : (l.take (i + 1)).any F = true := by
    rw [List.take_succ_eq_append_getElem h, List.any_append]
    simp [hF]
  have e : idxG F l 0 = idxG F (l.take (i + 1) ++ l.drop (i + 1)) 0 := by rw [List.take_append_drop]
  rw [e, idxG_app, if_pos ha]
  have h1 := idxG_bound (k := 0) ha
  rw [List.length_take] at h1
  have h2 := (idxG_any (F := F) (l := l.take (i + 1)) (k := 0) (by omega)).2 ha
  omega
theorem vers_first {l : List Vers} (h : versE l = 0) {i : Nat} (hi : i < l.length) : thingE l l[i].1 = (i : Int) := by
  have hf : firstR (verAt l) 0 l.length = 0 := by
    unfold versE at h
    by_cases hl : 64 < (l.length : Int)
    · rw [if_pos hl] at h; cases h
    rw [if_neg hl] at h; exact h
  have hv := firstR_zero _ 0 rfl hf i (Nat.zero_le _) hi
  unfold verAt at hv
  rw [vAt_eq hi] at hv
  have h3 := firstE_mem0 hv (whenE (decide (0 ≤ thingE (l.take i) l[i].1)) 9) (by simp)
  have h4 : ¬ 0 ≤ thingE (l.take i) l[i].1 := fun h5 => by rw [decide_eq_true h5] at h3; cases h3
  have h5 : ¬ thingE l l[i].1 < (i : Int) := fun h6 => h4 ((idxG_lt hi (decide_eq_true rfl)).1 h6)
  have h6 := (idxG_le (F := fun v => decide (v.1 = l[i].1)) hi (decide_eq_true rfl)).1
  unfold thingE at h5 ⊢
  omega
theorem hasV_now {l : List Vers} (h : versE l = 0) {v : Vers} (hk : 0 ≤ thingE l v.1) : hasV l v = decide (nowE l v.1 = v.2) := by
  obtain ⟨h1, h2⟩ := thing_get hk
  have hn : nowE l v.1 = l[(thingE l v.1).toNat].2 := by unfold nowE; rw [vAt_eq h1]
  have key : hasV l v = true ↔ nowE l v.1 = v.2 := by
    unfold hasV
    rw [List.any_eq_true]
    constructor
    · rintro ⟨x, hx, he⟩
      have he := of_decide_eq_true he
      subst he
      obtain ⟨i, hi, rfl⟩ := List.getElem_of_mem hx
      have := vers_first h hi
      rw [hn]
      simp only [this, Int.toNat_natCast]
    intro he
    refine ⟨l[(thingE l v.1).toNat], List.getElem_mem h1, decide_eq_true ?_⟩
    rw [hn] at he
    exact Prod.ext h2.symm he.symm
  cases hb : hasV l v with
  | true => exact (decide_eq_true (key.1 hb)).symm
  | false => exact (decide_eq_false fun h3 => by rw [key.2 h3] at hb; cases hb).symm
theorem fresh_valid {c : Cse} (h : versE c.1 = 0) {x : Evid} (hk : KnownW c x) : freshB c x = validB c x := by
  unfold freshB validB
  rw [List.not_any_eq_all_not]
  rw [Bool.eq_iff_iff, List.all_eq_true, List.all_eq_true]
  constructor
  · intro h1 v hv
    have := h1 v hv
    rw [Bool.not_not, hasV_now h (hk v hv)] at this
    exact this
  intro h1 v hv
  rw [Bool.not_not, hasV_now h (hk v hv)]
  exact h1 v hv
theorem whenE_known {K : Bool} (h : whenE (!K) 10 = 0) : K = true := by
  cases K with
  | true => rfl
  | false => cases h
theorem case_known {c : Cse} (h : caseE c = 0) : versE c.1 = 0 ∧ CaseK c := by
  have hv : versE c.1 = 0 := by
    unfold caseE at h
    by_cases hv : versE c.1 = 0
    · exact hv
    rw [if_pos hv] at h; exact h
  refine ⟨hv, fun x hx v hvm => ?_⟩
  have he : firstR (evAt c) 0 c.2.1.length = 0 := by
    unfold caseE at h
    rw [if_neg (fun h2 : versE c.1 ≠ 0 => h2 hv)] at h
    by_cases h4 : 64 < (c.2.1.length : Int)
    · rw [if_pos h4] at h; cases h
    rw [if_neg h4] at h
    by_cases h5 : firstR (evAt c) 0 c.2.1.length = 0
    · exact h5
    rw [if_pos h5] at h; exact h
  obtain ⟨i, hi, rfl⟩ := List.getElem_of_mem hx
  have h1 := firstR_zero _ 0 rfl he i (Nat.zero_le _) hi
  unfold evAt at h1
  rw [eAt_eq hi] at h1
  have h2 := firstE_mem0 h1 (withE (knowsV c) c.2.1[i].2) (by simp)
  have h3 : firstR (withAt (knowsV c) c.2.1[i].2) 0 c.2.1[i].2.length = 0 := by
    unfold withE at h2
    by_cases hl : 16 < (c.2.1[i].2.length : Int)
    · rw [if_pos hl] at h2; cases h2
    rw [if_neg hl] at h2; exact h2
  obtain ⟨k, hk, rfl⟩ := List.getElem_of_mem hvm
  have h4 := firstR_zero _ 0 rfl h3 k (Nat.zero_le _) hk
  unfold withAt at h4
  rw [vAt_eq hk] at h4
  have h5 := whenE_known (firstE_mem0 h4 (whenE (!knowsV c c.2.1[i].2[k].1) 10) (by simp))
  exact of_decide_eq_true h5
theorem validE_R {c : Cse} (h : caseE c = 0) : validE c = validR c := by
  obtain ⟨hv, hk⟩ := case_known h
  unfold validE validR
  congr 1
  exact List.filter_congr fun x hx => fresh_valid hv (hk x hx)
end Go.Proofs
namespace Go.Proofs
open Go.Fs
/-- What a valid case says of its claims. -/
structure ClOk (c : Cse) : Prop where
  new : ∀ i (hi : i < c.2.2.length), knownC c i c.2.2[i].1 = false
  use : ∀ i (hi : i < c.2.2.length), ∀ u ∈ c.2.2[i].2.2, knownC c i u = true
theorem case_claims {c : Cse} (h : caseE c = 0) : ClOk c := by
  have hv : versE c.1 = 0 := (case_known h).1
  have hc : firstR (clAt c) 0 c.2.2.length = 0 := by
    unfold caseE at h
    rw [if_neg (fun h2 : versE c.1 ≠ 0 => h2 hv)] at h
    by_cases h4 : 64 < (c.2.1.length : Int)
    · rw [if_pos h4] at h; cases h
    · rw [if_neg h4] at h
      by_cases h5 : firstR (evAt c) 0 c.2.1.length ≠ 0
      · rw [if_pos h5] at h; exact absurd h h5
      · rw [if_neg h5] at h
        by_cases h6 : 64 < (c.2.2.length : Int)
        · rw [if_pos h6] at h; cases h
        · rw [if_neg h6] at h; exact h
  have key : ∀ i (hi : i < c.2.2.length), whenE (knownC c i c.2.2[i].1) 9 = 0 ∧ usesE (knownC c i) c.2.2[i].2.2 = 0 := fun i hi => by
    have h1 := firstR_zero _ 0 rfl hc i (Nat.zero_le _) hi
    unfold clAt at h1
    rw [cAt_eq hi] at h1
    exact ⟨firstE_mem0 h1 _ (by simp), firstE_mem0 h1 _ (by simp)⟩
  refine ⟨fun i hi => ?_, fun i hi u hu => ?_⟩
  · have := (key i hi).1
    cases hk : knownC c i c.2.2[i].1 with
    | false => rfl
    | true => rw [hk] at this; cases this
  · have h2 := (key i hi).2
    unfold usesE at h2
    by_cases h3 : firstE [whenE (decide (((c.2.2[i].2.2).length : Int) = 0)) 12, whenE (decide (16 < ((c.2.2[i].2.2).length : Int))) 5] = 0
    · rw [if_pos h3] at h2
      obtain ⟨k, hk, rfl⟩ := List.getElem_of_mem hu
      have h4 := firstR_zero _ 0 rfl h2 k (Nat.zero_le _) hk
      unfold usesAt at h4
      have h5 := firstE_mem0 h4 _ List.mem_cons_self
      have h6 := whenE_known h5
      rwa [show (c.2.2[i].2.2).getD k ByteArray.empty = (c.2.2[i].2.2)[k] by simp [hk]] at h6
    · rw [if_neg h3] at h2; exact absurd h2 h3
theorem known_no {c : Cse} {i : Nat} {s : ByteArray} (h : knownC c i s = false) : ¬ 0 ≤ evidE c.2.1 s ∧ ¬ 0 ≤ claimE (c.2.2.take i) s := by
  unfold knownC at h
  rw [Bool.or_eq_false_iff] at h
  exact ⟨of_decide_eq_false h.1, of_decide_eq_false h.2⟩
theorem known_or {c : Cse} {i : Nat} {s : ByteArray} (h : knownC c i s = true) : 0 ≤ evidE c.2.1 s ∨ 0 ≤ claimE (c.2.2.take i) s := by
  unfold knownC at h
  rw [Bool.or_eq_true] at h
  rcases h with h | h
  · exact .inl (of_decide_eq_true h)
  · exact .inr (of_decide_eq_true h)
theorem claim_in {l : List Clm} {s : ByteArray} : 0 ≤ claimE l s ↔ ∃ x ∈ l, x.1 = s := by
  unfold claimE
  rw [idxG_none]
  constructor
  · rintro ⟨x, hx, he⟩; exact ⟨x, hx, of_decide_eq_true he⟩
  · rintro ⟨x, hx, he⟩; exact ⟨x, hx, decide_eq_true he⟩
theorem inM_set {m : BMap} {k s : ByteArray} {b : Bool} : inM (mset m k b) s = if s = k then b else inM m s := by
  unfold inM
  rw [mget_mset]
  by_cases h : s = k
  · rw [if_pos h, if_pos h]; rfl
  · rw [if_neg h, if_neg h]
theorem inM_ev {l : List ByteArray} {s : ByteArray} : ∀ i, i ≤ l.length → inM (evM l i) s = hasB (l.take i) s
  | 0, _ => by simp [evM, inM, mget, hasB]
  | i + 1, h => by
    rw [evM_succ (by omega), inM_set, inM_ev i (by omega), List.take_succ_eq_append_getElem (by omega)]
    unfold hasB
    rw [List.any_append]
    by_cases he : s = l[i]
    · rw [if_pos he]
      simp [he]
    · rw [if_neg he]
      have he2 : ¬ l[i] = s := fun e => he e.symm
      simp [he, he2]
section
variable {c : Cse} {l : List ByteArray}
theorem clM_ev (hc : ClOk c) {s : ByteArray} (hs : 0 ≤ evidE c.2.1 s) : ∀ i, i ≤ c.2.2.length → inM (clM c l i) s = hasB l s
  | 0, _ => by
    show inM (evM l l.length) s = _
    rw [inM_ev _ (Nat.le_refl _), List.take_length]
  | i + 1, h => by
    rw [clM_succ (by omega), inM_set, if_neg, clM_ev hc hs i (by omega)]
    intro e
    rw [e] at hs
    exact (known_no (hc.new i (by omega))).1 hs
theorem names_apart (hc : ClOk c) {i j : Nat} (hj : j < i) (hi : i < c.2.2.length) : ¬ c.2.2[j].1 = c.2.2[i].1 := fun e => by
  have := (known_no (hc.new i hi)).2
  rw [claim_in] at this
  exact this ⟨c.2.2[j], List.mem_take_iff_getElem.2 ⟨j, by omega, rfl⟩, e⟩
theorem clM_at (hc : ClOk c) {j : Nat} (hj : j < c.2.2.length) : ∀ i, j < i → i ≤ c.2.2.length → inM (clM c l i) c.2.2[j].1 = holdsX (clM c l j) c.2.2[j]
  | 0, h, _ => by omega
  | i + 1, h, hi => by
    rw [clM_succ (by omega), inM_set]
    by_cases he : i = j
    · subst he
      rw [if_pos rfl]
    · rw [if_neg (names_apart hc (show j < i by omega) (by omega)), clM_at hc hj i (by omega) (by omega)]
/-- What holds by some evidence. -/
def byR (c : Cse) (l : List ByteArray) (s : ByteArray) : Bool := inM (byM c l) s
theorem byR_at (hc : ClOk c) {j : Nat} (hj : j < c.2.2.length) : byR c l c.2.2[j].1 = holdsX (clM c l j) c.2.2[j] := clM_at hc hj _ hj (Nat.le_refl _)
theorem use_eq (hc : ClOk c) {j : Nat} (hj : j < c.2.2.length) {u : ByteArray} (hu : u ∈ c.2.2[j].2.2) : inM (clM c l j) u = ((decide (0 ≤ evidE c.2.1 u) && hasB l u) || (decide (evidE c.2.1 u < 0) && byR c l u)) := by
  by_cases he : 0 ≤ evidE c.2.1 u
  · rw [clM_ev hc he j (by omega), decide_eq_true he, decide_eq_false (by omega)]
    simp
  · rw [decide_eq_false he, decide_eq_true (by omega)]
    simp only [Bool.false_and, Bool.false_or, Bool.true_and]
    rcases known_or (hc.use j hj u hu) with h1 | h1
    · exact absurd h1 he
    · obtain ⟨x, hx, hxu⟩ := claim_in.1 h1
      obtain ⟨k, hk, rfl⟩ := List.mem_take_iff_getElem.1 hx
      have hk1 : k < j := by omega
      rw [← hxu, clM_at hc (show k < c.2.2.length by omega) j hk1 (by omega), byR_at hc (by omega)]
/-- A use that is no evidence is a claim that stands before. -/
theorem use_before (hc : ClOk c) {j : Nat} (hj : j < c.2.2.length) {u : ByteArray} (hu : u ∈ c.2.2[j].2.2) (he : evidE c.2.1 u < 0) : 0 ≤ claimE c.2.2 u ∧ claimE c.2.2 u < (j : Int) := by
  rcases known_or (hc.use j hj u hu) with h1 | h1
  · omega
  · obtain ⟨x, hx, hxu⟩ := claim_in.1 h1
    obtain ⟨k, hk, rfl⟩ := List.mem_take_iff_getElem.1 hx
    have h2 := idxG_le (F := fun v : Clm => decide (v.1 = u)) (show k < c.2.2.length by omega) (decide_eq_true hxu)
    refine ⟨h2.2, ?_⟩
    have := h2.1
    unfold claimE
    omega
end
end Go.Proofs
namespace Go.Proofs
open Go.Fs
set_option linter.unusedVariables false
set_option maxHeartbeats 1000000

theorem claim_ix {c : Cse} {s : ByteArray} (h : 0 ≤ claimE c.2.2 s) : ∃ (hlt : (claimE c.2.2 s).toNat < c.2.2.length), c.2.2[(claimE c.2.2 s).toNat].1 = s := by
  obtain ⟨h1, h2⟩ := idxG_get h
  exact ⟨h1, of_decide_eq_true h2⟩
def cntU (m : BMap) (x : Clm) (i : Nat) : Nat := ((x.2.2.take i).filter (inM m)).length
theorem cntU_le {m : BMap} {x : Clm} {i : Nat} : cntU m x i ≤ i := by
  unfold cntU
  have h := List.length_filter_le (inM m) (x.2.2.take i)
  rw [List.length_take] at h
  omega
theorem cntU_succ {m : BMap} {x : Clm} {i : Nat} (h : i < x.2.2.length) : cntU m x (i + 1) = cntU m x i + (if inM m x.2.2[i] = true then 1 else 0) := by
  unfold cntU
  rw [List.take_succ_eq_append_getElem h, List.filter_append, List.length_append]
  by_cases hh : inM m x.2.2[i] = true
  · rw [if_pos hh]; simp [hh]
  rw [if_neg hh]; simp [hh]
theorem cntU_t {m : BMap} {x : Clm} {i : Nat} (h : i < x.2.2.length) (hh : inM m x.2.2[i] = true) : ((cntU m x i : Nat) : Int) + 1 = ((cntU m x (i + 1) : Nat) : Int) := by rw [cntU_succ h, if_pos hh]; omega
theorem cntU_f {m : BMap} {x : Clm} {i : Nat} (h : i < x.2.2.length) (hh : inM m x.2.2[i] = false) : ((cntU m x i : Nat) : Int) = ((cntU m x (i + 1) : Nat) : Int) := by rw [cntU_succ h, if_neg (by rw [hh]; decide)] <;> rfl
theorem cntU_end {m : BMap} {x : Clm} {i : Nat} (h : x.2.2.length ≤ i) : cntU m x i = usedN m x := by
  unfold cntU usedN
  rw [List.take_of_length_le h]
theorem byR_end {c : Cse} {l : List ByteArray} {s : ByteArray} (hc : ClOk c) {j i : Nat} (hj : j < c.2.2.length) (hn : c.2.2[j].1 = s) (hi : (c.2.2[j]).2.2.length ≤ i) :
    byR c l s = (decide (((cntU (clM c l j) c.2.2[j] i : Nat) : Int) = ((c.2.2[j]).2.2.length : Nat)) || ((c.2.2[j]).2.1 && decide (0 < ((cntU (clM c l j) c.2.2[j] i : Nat) : Int)))) := by
  rw [← hn, byR_at hc hj, cntU_end hi] <;> rfl
theorem validR_len {c : Cse} : (validR c).length ≤ c.2.1.length := by
  unfold validR
  rw [List.length_map]
  exact List.length_filter_le _ _
def opnR (c : Cse) (i : Nat) : List ByteArray := ((c.2.2.take i).filter fun x => !byR c (validR c) x.1).map (·.1)
theorem opnR_len {c : Cse} {i : Nat} : (opnR c i).length ≤ i := by
  unfold opnR
  rw [List.length_map]
  have h := List.length_filter_le (fun x : Clm => !byR c (validR c) x.1) (c.2.2.take i)
  rw [List.length_take] at h
  omega
theorem claim_has {c : Cse} {i : Nat} (h : i < c.2.2.length) : 0 ≤ claimE c.2.2 c.2.2[i].1 := claim_in.2 ⟨_, List.getElem_mem h, rfl⟩
def rTwo (c : Cse) (s : ByteArray) : Int := if caseE c ≠ 0 then caseE c else if claimE c.2.2 s < 0 then 10 else 0
end Go.Proofs
namespace Go.Fs
variable {P : Program} {fl : VL} {e : TypeId} {τ : Ty}
theorem rep_raws {h : Heap} {S : List Nat} : ∀ vs : List Value, RepL h S (vs.map PV.raw) vs
  | [] => rfl
  | v :: vs => ⟨v, vs, rfl, rfl, rep_raws vs⟩
theorem FreshO.allocR {zs : List PV} (hZ : ZerT P e τ) (hz : (zeroC τ).map PV.raw = zs := by rfl) : FreshO P fl (.alloc e) (.var zs) :=
  ⟨rfl, fun h S t hs hok hS => by
    obtain ⟨z, h1, h2, h3⟩ := hZ.zero
    obtain ⟨z1, z2⟩ := zero_rep h S τ
    obtain ⟨a1, a2⟩ := af_cells (u := z) (by rw [h2]; exact z2)
    subst hz
    refine ⟨fun k => .pointer (some ⟨k, 0, none⟩), .row e z.cells.toList true false, fun _ => rfl, fun S' hN hm => ?_, fun H _ _ _ _ _ => ?_⟩
    · exact ⟨h.next, e, _, rfl, hm, by rw [Heap.get_push, if_pos rfl], by rw [h2]; exact rep_raws _, a2⟩
    show (match (P.info? e).bind (·.zero) with | some z => if af z then fsBox e z H else none | none => none) = _
    rw [h1]
    simp only [a1, if_true]
    unfold fsBox
    rw [if_pos a2]⟩
theorem swap4 {a b c d e : Value × Cell} {r : Sto} : (a :: b :: c :: d :: e :: r).Perm (e :: a :: b :: c :: d :: r) := (swap3.cons a).trans (List.Perm.swap e a (b :: c :: d :: r))
theorem swap5 {a b c d e f : Value × Cell} {r : Sto} : (a :: b :: c :: d :: e :: f :: r).Perm (f :: a :: b :: c :: d :: e :: r) := (swap4.cons a).trans (List.Perm.swap f a (b :: c :: d :: e :: r))
end Go.Fs
namespace Go.Proofs
open Go.Fs
set_option linter.unusedVariables false
set_option maxHeartbeats 2000000
abbrev y61 : Ty := (.sl (.pair .str (.sl (.pair .str (.int .i64)))))
abbrev y99 : Ty := (.pair .str (.int .i64))
theorem vt99 : ValT Tryz.prog 99 y99 := valT_of (by kernel_rfl)
theorem zt72 : ZerT Tryz.prog 72 y72 := zerT_of (z := .agg #[.slice none 0 0, .slice none 0 0, .slice none 0 0]) (by kernel_rfl) rfl rfl
theorem zt99 : ZerT Tryz.prog 99 y99 := zerT_of (z := .agg #[.string ByteArray.empty, .int .i64 0]) (by kernel_rfl) rfl rfl
theorem bt155 : BldT Tryz.prog 155 y155 [(0, 1), (1, 1)] := bldT_of zt155 rfl (by kernel_rfl)
theorem bt156 : BldT Tryz.prog 156 y156 [(0, 1), (1, 1), (2, 1)] := bldT_of zt156 rfl (by kernel_rfl)
theorem lGiven_ok {c : (List (ByteArray × Int)) × (List (ByteArray × (List (ByteArray × Int)))) × (List (ByteArray × Bool × (List ByteArray)))} (hc : CseOk c) : VF Tryz.prog OA 38 [.v y64 c] (.v y72 c) := by
  refine VF.enter Tryz.func38 rfl (fun _ _ => rfl) rfl ?_
  show VC _ _ _ _ _ [(0, .v y64 c)] [] _
  refine VC.seq (VC.text ?_)
  have hcv := hc.v
  have hce := hc.e
  have hcl := hc.l
  refine VO.new (.box) ?_
  refine VO.cell (.allocR (zs := [nilV, nilV, nilV]) zt72) ?_
  intro ww1
  refine VO.go (VC.seq (VC.text ?_))
  refine VO.cell (.allocR (zs := [nilV, nilV, nilV]) zt72) ?_
  intro ww2
  refine VO.go (VC.seq (VC.seq (VC.text ?_)))
  refine VO.c (.fa (.l .o)) ?_
  refine VO.r (.ld vt60) ?_
  refine VO.r (.len el60) ?_
  refine VO.c (.move rfl) ?_
  refine VO.go (VC.block ?_)
  refine VC.cell0 153 y153 ?_
  refine VC.keep [(1, .p y64 c), (2, .raw ww1), (3, .raw ww2), (14, .v y60 c.1), (15, I ((c.1.length : Nat) : Int)), (16, I ((0 : Nat) : Int))] ⟨rfl, rfl, rfl, rfl, rfl, rfl, trivial⟩ ?_
  refine VC.loop (I := fun kk ff ss => ∃ (i : Nat) (w0 : Value), kk = c.1.length - i ∧ ff = [(1, .p y64 c), (2, .raw ww1), (3, .raw ww2), (14, .v y60 c.1), (15, I ((c.1.length : Nat) : Int)), (16, I ((i : Nat) : Int))] ∧ ss = [(w0, .row 153 y153 (c.1.take i)), (ww2, .var [.raw w0, nilV, nilV]), (ww1, .var [nilV, nilV, nilV])] ∧ (i ≤ c.1.length)) ?_ _ _ _ ⟨0, (.slice none 0 0), rfl, rfl, rfl, Nat.zero_le _⟩
  rintro kk ff ss ⟨i, w0, hk0, rfl, rfl, hi⟩
  refine VC.seq (VC.text ?_)
  refine VO.c (.lss) ?_
  refine VO.go (VC.seq ?_)
  refine VC.condD rfl (fun c3 => ?_) (fun c3 => ?_)
  · refine VC.skip (VC.seq (VC.block (VC.seq (VC.text ?_))))
    refine VO.c (.ix (j := i) rfl rfl el60 (by omega)) ?_
    refine VO.r (.ld vt99) ?_
    refine VO.cell (.alloc zt99) ?_
    intro ww3
    refine VO.setV (cs' := [St ((c.1[i]).1), I ((c.1[i]).2)]) vt99 .v ?_
    refine VO.shut [(5, .p y99 (c.1[i]))] (.cons rfl (.var m0 .refl) .nil) ?_
    refine VO.go (VC.text ?_)
    refine VO.c (.faO (k := 0) m1) ?_
    refine VO.r (.ldF (k := 0) m1 vt68) ?_
    refine VO.r (.ld vt99) ?_
    refine VO.new (.lit [c.1[i]] el68) ?_
    refine VO.app rfl rfl el68 el68 (by simp; omega) ?_
    intro ww4
    refine VO.c (.faO (k := 0) m1) ?_
    refine VO.perm swap1 ?_
    refine VO.one m1 fun ho5 => ?_
    refine VO.setF (cs' := [.raw ww4, nilV, nilV]) 0 vt68 (.raw rfl (agg_one ho5) ho5) ?_
    refine VO.nil (VC.text ?_)
    refine VO.c (.add rfl rfl (by omega)) ?_
    refine VO.c (.move rfl) ?_
    refine VO.perm swap2 ?_
    refine VO.perm swap1 ?_
    refine VO.perm swap2 ?_
    refine VO.nil ?_
    refine ⟨_, [(1, .p y64 c), (2, .raw ww1), (3, .raw ww2), (14, .v y60 c.1), (15, I ((c.1.length : Nat) : Int)), (16, I (((i + 1) : Nat) : Int))], ?_, ⟨rfl, rfl, rfl, rfl, rfl, rfl, trivial⟩, (i + 1), ww4, rfl, rfl, (by rw [List.take_succ_eq_append_getElem (by omega)] <;> rfl), (by omega)⟩
    omega
  refine VC.exit (VC.seq (VC.seq (VC.text ?_)))
  refine VO.c (.fa (.r (.l .o))) ?_
  refine VO.r (.ld vt61) ?_
  refine VO.r (.len el61) ?_
  refine VO.c (.move rfl) ?_
  refine VO.go (VC.block ?_)
  refine VC.cell0 155 y155 ?_
  refine VC.keep [(1, .p y64 c), (2, .raw ww1), (3, .raw ww2), (28, .v y61 c.2.1), (29, I ((c.2.1.length : Nat) : Int)), (30, I ((0 : Nat) : Int))] ⟨rfl, rfl, rfl, rfl, rfl, rfl, trivial⟩ ?_
  refine VC.loop (I := fun kk ff ss => ∃ (j : Nat) (w1 : Value), kk = c.2.1.length - j ∧ ff = [(1, .p y64 c), (2, .raw ww1), (3, .raw ww2), (28, .v y61 c.2.1), (29, I ((c.2.1.length : Nat) : Int)), (30, I ((j : Nat) : Int))] ∧ ss = [(w1, .row 155 y155 (c.2.1.take j)), (w0, .row 153 y153 (c.1.take i)), (ww2, .var [.raw w0, .raw w1, nilV]), (ww1, .var [nilV, nilV, nilV])] ∧ (j ≤ c.2.1.length)) ?_ _ _ _ ⟨0, (.slice none 0 0), rfl, rfl, rfl, Nat.zero_le _⟩
  rintro kk ff ss ⟨j, w1, hk2, rfl, rfl, hj⟩
  refine VC.seq (VC.text ?_)
  refine VO.c (.lss) ?_
  refine VO.go (VC.seq ?_)
  refine VC.condD rfl (fun c8 => ?_) (fun c8 => ?_)
  · have hwl := hc.w _ (List.getElem_mem (show j < c.2.1.length by omega))
    refine VC.skip (VC.seq (VC.block (VC.seq (VC.text ?_))))
    refine VO.c (.ix (j := j) rfl rfl el61 (by omega)) ?_
    refine VO.r (.ld vt96) ?_
    refine VO.cell (.alloc zt96) ?_
    intro ww6
    refine VO.setV (cs' := [St ((c.2.1[j]).1), .v y60 ((c.2.1[j]).2)]) vt96 .v ?_
    refine VO.shut [(7, .p y96 (c.2.1[j]))] (.cons rfl (.var m0 .refl) .nil) ?_
    refine VO.go (VC.seq (VC.text ?_))
    refine VO.c (.fa (.l .o)) ?_
    refine VO.r (.ld vt9) ?_
    refine VO.c (.buildA (cs := [St ((c.2.1[j]).1), nilV]) bt155 rfl) ?_
    refine VO.cell (.alloc zt155) ?_
    intro ww7
    refine VO.setV (cs' := [St ((c.2.1[j]).1), nilV]) vt155 (.aggs rfl rfl) ?_
    refine VO.go (VC.seq (VC.seq (VC.text ?_)))
    refine VO.c (.fa (.r .o)) ?_
    refine VO.r (.ld vt60) ?_
    refine VO.r (.len el60) ?_
    refine VO.c (.move rfl) ?_
    refine VO.go (VC.block ?_)
    refine VC.cell0 153 y153 ?_
    refine VC.keep [(1, .p y64 c), (2, .raw ww1), (3, .raw ww2), (8, .raw ww7), (28, .v y61 c.2.1), (29, I ((c.2.1.length : Nat) : Int)), (30, I ((j : Nat) : Int)), (38, .v y60 ((c.2.1[j]).2)), (39, I ((((c.2.1[j]).2).length : Nat) : Int)), (40, I ((0 : Nat) : Int))] ⟨rfl, rfl, rfl, rfl, rfl, rfl, rfl, rfl, rfl, rfl, trivial⟩ ?_
    refine VC.loop (I := fun kk ff ss => ∃ (k : Nat) (w2 : Value), kk = (c.2.1[j]).2.length - k ∧ ff = [(1, .p y64 c), (2, .raw ww1), (3, .raw ww2), (8, .raw ww7), (28, .v y61 c.2.1), (29, I ((c.2.1.length : Nat) : Int)), (30, I ((j : Nat) : Int)), (38, .v y60 ((c.2.1[j]).2)), (39, I ((((c.2.1[j]).2).length : Nat) : Int)), (40, I ((k : Nat) : Int))] ∧ ss = [(w2, .row 153 y153 ((c.2.1[j]).2.take k)), (ww7, .var [St ((c.2.1[j]).1), .raw w2]), (w1, .row 155 y155 (c.2.1.take j)), (w0, .row 153 y153 (c.1.take i)), (ww2, .var [.raw w0, .raw w1, nilV]), (ww1, .var [nilV, nilV, nilV])] ∧ (k ≤ (c.2.1[j]).2.length)) ?_ _ _ _ ⟨0, (.slice none 0 0), rfl, rfl, rfl, (by omega)⟩
    rintro kk ff ss ⟨k, w2, hk4, rfl, rfl, hk⟩
    refine VC.seq (VC.text ?_)
    refine VO.c (.lss) ?_
    refine VO.go (VC.seq ?_)
    refine VC.condD rfl (fun c12 => ?_) (fun c12 => ?_)
    · refine VC.skip (VC.seq (VC.block (VC.seq (VC.text ?_))))
      refine VO.c (.ix (j := k) rfl rfl el60 (by omega)) ?_
      refine VO.r (.ld vt99) ?_
      refine VO.cell (.alloc zt99) ?_
      intro ww8
      refine VO.setV (cs' := [St ((((c.2.1[j]).2)[k]).1), I ((((c.2.1[j]).2)[k]).2)]) vt99 .v ?_
      refine VO.shut [(10, .p y99 (((c.2.1[j]).2)[k]))] (.cons rfl (.var m0 .refl) .nil) ?_
      refine VO.go (VC.text ?_)
      refine VO.c (.faO (k := 1) m1) ?_
      refine VO.r (.ldF (k := 1) m1 vt68) ?_
      refine VO.r (.ld vt99) ?_
      refine VO.new (.lit [((c.2.1[j]).2)[k]] el68) ?_
      refine VO.app rfl rfl el68 el68 (by simp; omega) ?_
      intro ww9
      refine VO.c (.faO (k := 1) m1) ?_
      refine VO.perm swap1 ?_
      refine VO.one m1 fun ho10 => ?_
      refine VO.setF (cs' := [St ((c.2.1[j]).1), .raw ww9]) 1 vt68 (.raw rfl (agg_one ho10) ho10) ?_
      refine VO.nil (VC.text ?_)
      refine VO.c (.add rfl rfl (by omega)) ?_
      refine VO.c (.move rfl) ?_
      refine VO.perm swap5 ?_
      refine VO.perm swap5 ?_
      refine VO.perm swap5 ?_
      refine VO.perm swap5 ?_
      refine VO.perm swap4 ?_
      refine VO.perm swap5 ?_
      refine VO.nil ?_
      refine ⟨_, [(1, .p y64 c), (2, .raw ww1), (3, .raw ww2), (8, .raw ww7), (28, .v y61 c.2.1), (29, I ((c.2.1.length : Nat) : Int)), (30, I ((j : Nat) : Int)), (38, .v y60 ((c.2.1[j]).2)), (39, I ((((c.2.1[j]).2).length : Nat) : Int)), (40, I (((k + 1) : Nat) : Int))], ?_, ⟨rfl, rfl, rfl, rfl, rfl, rfl, rfl, rfl, rfl, rfl, trivial⟩, (k + 1), ww9, rfl, rfl, (by rw [List.take_succ_eq_append_getElem (by omega)] <;> rfl), (by omega)⟩
      omega
    refine VC.exit ?_
    refine VC.perm swap1 ?_
    refine VC.perm swap1 ?_
    refine VC.shutL [(w2, .row 153 y153 ((c.2.1[j]).2.take k)), (ww7, .var [St ((c.2.1[j]).1), .raw w2])] [(8, .p y155 ((c.2.1[j]).1, ((c.2.1[j]).2.take k)))] rfl (.cons rfl (.var m1 (.cons .same (.cons (.row m0) .nil))) .nil) ?_
    refine VC.text ?_
    refine VO.c (.faO (k := 1) m2) ?_
    refine VO.r (.ldF (k := 1) m2 vt69) ?_
    refine VO.r (.ld vt155) ?_
    refine VO.new (.lit [((c.2.1[j]).1, ((c.2.1[j]).2.take k))] el69) ?_
    refine VO.app rfl rfl el69 el69 (by simp; omega) ?_
    intro ww11
    refine VO.c (.faO (k := 1) m2) ?_
    refine VO.perm swap2 ?_
    refine VO.one m1 fun ho12 => ?_
    refine VO.setF (cs' := [.raw w0, .raw ww11, nilV]) 1 vt69 (.raw rfl (agg_one ho12) ho12) ?_
    refine VO.nil (VC.text ?_)
    refine VO.c (.add rfl rfl (by omega)) ?_
    refine VO.c (.move rfl) ?_
    refine VO.perm swap3 ?_
    refine VO.perm swap1 ?_
    refine VO.perm swap3 ?_
    refine VO.perm swap3 ?_
    refine VO.nil ?_
    refine ⟨_, [(1, .p y64 c), (2, .raw ww1), (3, .raw ww2), (28, .v y61 c.2.1), (29, I ((c.2.1.length : Nat) : Int)), (30, I (((j + 1) : Nat) : Int))], ?_, ⟨rfl, rfl, rfl, rfl, rfl, rfl, trivial⟩, (j + 1), ww11, rfl, rfl, (by rw [List.take_succ_eq_append_getElem (by omega), List.take_of_length_le (i := k) (by omega)] <;> rfl), (by omega)⟩
    omega
  refine VC.exit (VC.seq (VC.seq (VC.text ?_)))
  refine VO.c (.fa (.r (.r .o))) ?_
  refine VO.r (.ld vt62) ?_
  refine VO.r (.len el62) ?_
  refine VO.c (.move rfl) ?_
  refine VO.go (VC.block ?_)
  refine VC.cell0 156 y156 ?_
  refine VC.keep [(2, .raw ww1), (3, .raw ww2), (59, .v y62 c.2.2), (60, I ((c.2.2.length : Nat) : Int)), (61, I ((0 : Nat) : Int))] ⟨rfl, rfl, rfl, rfl, rfl, trivial⟩ ?_
  refine VC.loop (I := fun kk ff ss => ∃ (m : Nat) (w3 : Value), kk = c.2.2.length - m ∧ ff = [(2, .raw ww1), (3, .raw ww2), (59, .v y62 c.2.2), (60, I ((c.2.2.length : Nat) : Int)), (61, I ((m : Nat) : Int))] ∧ ss = [(w3, .row 156 y156 (c.2.2.take m)), (w1, .row 155 y155 (c.2.1.take j)), (w0, .row 153 y153 (c.1.take i)), (ww2, .var [.raw w0, .raw w1, .raw w3]), (ww1, .var [nilV, nilV, nilV])] ∧ (m ≤ c.2.2.length)) ?_ _ _ _ ⟨0, (.slice none 0 0), rfl, rfl, rfl, Nat.zero_le _⟩
  rintro kk ff ss ⟨m, w3, hk6, rfl, rfl, hm⟩
  refine VC.seq (VC.text ?_)
  refine VO.c (.lss) ?_
  refine VO.go (VC.seq ?_)
  refine VC.condD rfl (fun c19 => ?_) (fun c19 => ?_)
  · refine VC.skip (VC.seq (VC.block (VC.seq (VC.text ?_))))
    refine VO.c (.ix (j := m) rfl rfl el62 (by omega)) ?_
    refine VO.r (.ld vt109) ?_
    refine VO.cell (.alloc zt109) ?_
    intro ww13
    refine VO.setV (cs' := [St ((c.2.2[m]).1), B ((c.2.2[m]).2.1), .v (.sl .str) ((c.2.2[m]).2.2)]) vt109 .v ?_
    refine VO.shut [(12, .p y109 (c.2.2[m]))] (.cons rfl (.var m0 .refl) .nil) ?_
    refine VO.go (VC.drawn ?_)
    refine VD.co (.faO (k := 2) m3) ?_
    refine VD.r [(w3, .row 156 y156 (c.2.2.take m)), (w1, .row 155 y155 (c.2.1.take j)), (w0, .row 153 y153 (c.1.take i)), (ww2, .var [.raw w0, .raw w1, .raw w3]), (ww1, .var [nilV, nilV, nilV])] (.ldF (k := 2) m3 vt70) (.inr ⟨rfl, rfl⟩) ?_
    refine VD.c (.fa (.l .o)) ?_
    refine VD.r [] (.ld vt9) (.inl rfl) ?_
    refine VD.c (.fa (.r (.l .o))) ?_
    refine VD.r [] (.ld vt4) (.inl rfl) ?_
    refine VD.nw [] ?_
    refine VD.c (.fa (.r (.r .o))) ?_
    refine VD.r [] (.ld vt27) (.inl rfl) ?_
    refine VD.call rfl rfl (VF.call (lWords_ok (by have := hc.u _ (List.getElem_mem (show m < c.2.2.length by omega)); omega))) ?_
    refine VD.c (.build ((c.2.2[m]).1, (c.2.2[m]).2.1, ((c.2.2[m]).2.2)) bt156) ?_
    refine VD.new (.lit [((c.2.2[m]).1, (c.2.2[m]).2.1, ((c.2.2[m]).2.2))] el70) ?_
    refine VD.mk (MakeV.app el70 el70 rfl rfl (by simp; omega)) ?_
    rintro _ _ tl14 ⟨ww14, rfl, rfl⟩
    refine VD.co (.faO (k := 2) m3) ?_
    refine VD.perm swap3 ?_
    refine VD.one m1 fun ho15 => ?_
    refine VD.mk0 (MakeV.setF (k := 2) vt70 (.raw rfl (agg_one ho15) ho15) (Nat.le_of_ble_eq_true rfl) (.inl rfl) rfl rfl) ?_
    rintro _ _ tl16 ⟨rfl, rfl⟩
    refine VD.nil ?_
    refine VC.text ?_
    refine VO.c (.add rfl rfl (by omega)) ?_
    refine VO.c (.move rfl) ?_
    refine VO.perm swap4 ?_
    refine VO.perm swap1 ?_
    refine VO.perm swap4 ?_
    refine VO.perm swap4 ?_
    refine VO.perm swap4 ?_
    refine VO.nil ?_
    refine ⟨_, [(2, .raw ww1), (3, .raw ww2), (59, .v y62 c.2.2), (60, I ((c.2.2.length : Nat) : Int)), (61, I (((m + 1) : Nat) : Int))], ?_, ⟨rfl, rfl, rfl, rfl, rfl, trivial⟩, (m + 1), ww14, rfl, rfl, (by rw [List.take_succ_eq_append_getElem (by omega)] <;> rfl), (by omega)⟩
    omega
  refine VC.exit (VC.seq ?_)
  refine VC.perm swap3 ?_
  refine VC.perm swap1 ?_
  refine VC.perm swap2 ?_
  refine VC.perm swap3 ?_
  refine VC.shutL [(w0, .row 153 y153 (c.1.take i)), (w1, .row 155 y155 (c.2.1.take j)), (w3, .row 156 y156 (c.2.2.take m)), (ww2, .var [.raw w0, .raw w1, .raw w3])] [(3, .p y72 ((c.1.take i), (c.2.1.take j), (c.2.2.take m)))] rfl (.cons rfl (.var m3 (.cons (.row m0) (.cons (.row m1) (.cons (.row m2) .nil)))) .nil) ?_
  refine VC.text ?_
  refine VO.r (.ld vt72) ?_
  refine VO.setV (cs' := [.v y68 (c.1.take i), .v y69 (c.2.1.take j), .v y70 (c.2.2.take m)]) vt72 .v ?_
  refine VO.go ?_
  refine VC.ret ?_
  exact VEnd.one rfl (.cell (x := ((c.1.take i), (c.2.1.take j), (c.2.2.take m))) rfl m0 vt72 .refl) (pvE (by rw [List.take_of_length_le (by omega), List.take_of_length_le (by omega), List.take_of_length_le (by omega)]))
end Go.Proofs
namespace Go.Proofs
open Go.Fs
set_option linter.unusedVariables false
set_option maxHeartbeats 2000000

theorem awakeC_ok : VF Tryz.prog OA 16 [] (B true) := VF.oracle (fun _ => rfl) fun _ _ => ⟨rfl, rfl⟩
def vS (v : Vers) : Bool := decide (v.1.size ≤ 60)
def eS (x : Evid) : Bool := (decide (x.1.size ≤ 60) && (decide (x.2.length ≤ 8) || decide (x.2.length = 17))) && x.2.all vS
def cS (x : Clm) : Bool := (decide (x.1.size ≤ 60) && (decide (x.2.2.length ≤ 8) || decide (x.2.2.length = 17))) && shortW x.2.2
def fewB (n : Nat) : Bool := decide (n ≤ 8 ∨ n = 65)
def shortC (c : Cse) : Bool := (fewB c.1.length && (fewB c.2.1.length && fewB c.2.2.length)) && (c.1.all vS && (c.2.1.all eS && c.2.2.all cS))
theorem getD_at {α : Type} {l : List α} {i : Nat} {d : α} (h : i < l.length) : l.getD i d = l[i] := by rw [List.getD_eq_getElem?_getD, List.getElem?_eq_getElem h] <;> rfl
theorem few3 {a b c : Nat} (ha : a ≤ 8 ∨ a = 65) (hb : b ≤ 8 ∨ b = 65) (hc : c ≤ 8 ∨ c = 65) : (fewB a && (fewB b && fewB c)) = true := by
  unfold fewB
  rw [decide_eq_true ha, decide_eq_true hb, decide_eq_true hc]
  rfl
theorem shortC_few {c : Cse} (h : ¬((c.1.length ≤ 8 ∨ c.1.length = 65) ∧ (c.2.1.length ≤ 8 ∨ c.2.1.length = 65) ∧ (c.2.2.length ≤ 8 ∨ c.2.2.length = 65))) : false = shortC c := by
  symm
  unfold shortC
  rw [Bool.and_eq_false_iff]
  left
  refine Bool.eq_false_iff.2 fun hh => h ?_
  rw [Bool.and_eq_true, Bool.and_eq_true] at hh
  exact ⟨of_decide_eq_true hh.1, of_decide_eq_true hh.2.1, of_decide_eq_true hh.2.2⟩
theorem eS_yes {x : Evid} (h : x.1.size ≤ 60) (h2 : x.2.length ≤ 8 ∨ x.2.length = 17) : eS x = x.2.all vS := by
  unfold eS
  rw [decide_eq_true h]
  rcases h2 with h2 | h2
  · rw [decide_eq_true h2] <;> rfl
  rw [decide_eq_true h2, Bool.or_true] <;> rfl
theorem eS_no {x : Evid} (h : ¬(x.1.size ≤ 60 ∧ (x.2.length ≤ 8 ∨ x.2.length = 17))) : eS x = false := by
  refine Bool.eq_false_iff.2 fun hh => h ?_
  unfold eS at hh
  rw [Bool.and_eq_true, Bool.and_eq_true, Bool.or_eq_true] at hh
  exact ⟨of_decide_eq_true hh.1.1, hh.1.2.imp of_decide_eq_true of_decide_eq_true⟩
theorem cS_yes {x : Clm} (h : x.1.size ≤ 60) (h2 : x.2.2.length ≤ 8 ∨ x.2.2.length = 17) (h3 : shortW x.2.2 = true) : cS x = true := by
  unfold cS
  rw [decide_eq_true h, h3]
  rcases h2 with h2 | h2
  · rw [decide_eq_true h2] <;> rfl
  rw [decide_eq_true h2, Bool.or_true] <;> rfl
theorem cS_no {x : Clm} (h : (x.1.size ≤ 60 ∧ (x.2.2.length ≤ 8 ∨ x.2.2.length = 17)) → shortW x.2.2 = false) : cS x = false := by
  refine Bool.eq_false_iff.2 fun hh => ?_
  unfold cS at hh
  rw [Bool.and_eq_true, Bool.and_eq_true, Bool.or_eq_true] at hh
  have := h ⟨of_decide_eq_true hh.1.1, hh.1.2.imp of_decide_eq_true of_decide_eq_true⟩
  rw [this] at hh
  exact absurd hh.2 (by decide)
theorem cS_len {a b : Nat} (e : b = a) (h : (decide (8 < (a : Int)) && decide ((b : Int) ≠ 17)) = false) : b < 1000000 := by
  simp only [Bool.and_eq_false_iff, decide_eq_false_iff_not] at h
  omega
theorem cS_c {x : Clm} (h : (8 < (x.2.2.length : Int) ∧ (x.2.2.length : Int) ≠ 17) ∨ shortW x.2.2 = false) : (x.1.size ≤ 60 ∧ (x.2.2.length ≤ 8 ∨ x.2.2.length = 17)) → shortW x.2.2 = false := fun hq => by
  rcases h with h | h
  · omega
  exact h
theorem cS_g {x : Clm} (h : 60 < (x.1.size : Int)) : (x.1.size ≤ 60 ∧ (x.2.2.length ≤ 8 ∨ x.2.2.length = 17)) → shortW x.2.2 = false := fun hq => by omega
theorem rFewP_ok {n : Int} : VF Tryz.prog OA 103 [I n] (B (decide (n ≤ 8 ∨ n = 65))) := by
  have h := rFew_ok (n := n)
  rwa [← Bool.decide_or] at h
theorem rShortC_ok {c : (List (ByteArray × Int)) × (List (ByteArray × (List (ByteArray × Int)))) × (List (ByteArray × Bool × (List ByteArray)))} : VF Tryz.prog OA 36 [.v y64 c] (B (shortC c)) := by
  refine VF.enter Tryz.func36 rfl (fun _ _ => rfl) rfl ?_
  show VC _ _ _ _ _ [(0, .v y64 c)] [] _
  refine VC.seq (VC.text ?_)
  refine VO.new (.box) ?_
  refine VO.c (.assign rfl) ?_
  refine VO.go (VC.seq (VC.seq (VC.text ?_)))
  refine VO.c (.fa (.l .o)) ?_
  refine VO.r (.ld vt60) ?_
  refine VO.r (.len el60) ?_
  refine VO.call rfl rfl (VF.call (rFewP_ok )) ?_
  refine VO.c (.not) ?_
  refine VO.c (.move rfl) ?_
  refine VO.cg (r := (!(decide (((c.1.length : Nat) : Int) ≤ 8 ∨ ((c.1.length : Nat) : Int) = 65)))) (w := false) [] trivial (fun hgd => have g1_5 : (!(decide (((c.1.length : Nat) : Int) ≤ 8 ∨ ((c.1.length : Nat) : Int) = 65))) = false := (by first | exact eq_of_beq hgd | simpa using hgd); (.fa (.r (.l .o)))) ?_
  refine VO.rg (r := (!(decide (((c.1.length : Nat) : Int) ≤ 8 ∨ ((c.1.length : Nat) : Int) = 65)))) (w := false) [(13, .p y61 c.2.1)] ⟨rfl, trivial⟩ (fun hgd => have g1_5 : (!(decide (((c.1.length : Nat) : Int) ≤ 8 ∨ ((c.1.length : Nat) : Int) = 65))) = false := (by first | exact eq_of_beq hgd | simpa using hgd); (.ld vt61)) ?_
  refine VO.rg (r := (!(decide (((c.1.length : Nat) : Int) ≤ 8 ∨ ((c.1.length : Nat) : Int) = 65)))) (w := false) [(14, .v y61 c.2.1)] ⟨rfl, trivial⟩ (fun hgd => have g1_5 : (!(decide (((c.1.length : Nat) : Int) ≤ 8 ∨ ((c.1.length : Nat) : Int) = 65))) = false := (by first | exact eq_of_beq hgd | simpa using hgd); (.len el61)) ?_
  refine VO.callg (r0 := (!(decide (((c.1.length : Nat) : Int) ≤ 8 ∨ ((c.1.length : Nat) : Int) = 65)))) (w := false) [(15, I ((c.2.1.length : Nat) : Int))] ⟨rfl, trivial⟩ rfl rfl .same .refl rfl (fun hgd => have g1_5 : (!(decide (((c.1.length : Nat) : Int) ≤ 8 ∨ ((c.1.length : Nat) : Int) = 65))) = false := (by first | exact eq_of_beq hgd | simpa using hgd); VF.call (rFewP_ok )) ?_
  refine VO.cg (r := (!(decide (((c.1.length : Nat) : Int) ≤ 8 ∨ ((c.1.length : Nat) : Int) = 65)))) (w := false) [(16, B (decide (((c.2.1.length : Nat) : Int) ≤ 8 ∨ ((c.2.1.length : Nat) : Int) = 65)))] ⟨rfl, trivial⟩ (fun hgd => have g1_5 : (!(decide (((c.1.length : Nat) : Int) ≤ 8 ∨ ((c.1.length : Nat) : Int) = 65))) = false := (by first | exact eq_of_beq hgd | simpa using hgd); (.not)) ?_
  refine VO.c (.or) ?_
  refine VO.c (.move rfl) ?_
  refine VO.cg (r := ((!(decide (((c.1.length : Nat) : Int) ≤ 8 ∨ ((c.1.length : Nat) : Int) = 65))) || (!(decide (((c.2.1.length : Nat) : Int) ≤ 8 ∨ ((c.2.1.length : Nat) : Int) = 65))))) (w := false) [] trivial (fun hgd => have g1_12 : ((!(decide (((c.1.length : Nat) : Int) ≤ 8 ∨ ((c.1.length : Nat) : Int) = 65))) || (!(decide (((c.2.1.length : Nat) : Int) ≤ 8 ∨ ((c.2.1.length : Nat) : Int) = 65)))) = false := (by first | exact eq_of_beq hgd | simpa using hgd); (.fa (.r (.r .o)))) ?_
  refine VO.rg (r := ((!(decide (((c.1.length : Nat) : Int) ≤ 8 ∨ ((c.1.length : Nat) : Int) = 65))) || (!(decide (((c.2.1.length : Nat) : Int) ≤ 8 ∨ ((c.2.1.length : Nat) : Int) = 65))))) (w := false) [(20, .p y62 c.2.2)] ⟨rfl, trivial⟩ (fun hgd => have g1_12 : ((!(decide (((c.1.length : Nat) : Int) ≤ 8 ∨ ((c.1.length : Nat) : Int) = 65))) || (!(decide (((c.2.1.length : Nat) : Int) ≤ 8 ∨ ((c.2.1.length : Nat) : Int) = 65)))) = false := (by first | exact eq_of_beq hgd | simpa using hgd); (.ld vt62)) ?_
  refine VO.rg (r := ((!(decide (((c.1.length : Nat) : Int) ≤ 8 ∨ ((c.1.length : Nat) : Int) = 65))) || (!(decide (((c.2.1.length : Nat) : Int) ≤ 8 ∨ ((c.2.1.length : Nat) : Int) = 65))))) (w := false) [(21, .v y62 c.2.2)] ⟨rfl, trivial⟩ (fun hgd => have g1_12 : ((!(decide (((c.1.length : Nat) : Int) ≤ 8 ∨ ((c.1.length : Nat) : Int) = 65))) || (!(decide (((c.2.1.length : Nat) : Int) ≤ 8 ∨ ((c.2.1.length : Nat) : Int) = 65)))) = false := (by first | exact eq_of_beq hgd | simpa using hgd); (.len el62)) ?_
  refine VO.callg (r0 := ((!(decide (((c.1.length : Nat) : Int) ≤ 8 ∨ ((c.1.length : Nat) : Int) = 65))) || (!(decide (((c.2.1.length : Nat) : Int) ≤ 8 ∨ ((c.2.1.length : Nat) : Int) = 65))))) (w := false) [(22, I ((c.2.2.length : Nat) : Int))] ⟨rfl, trivial⟩ rfl rfl .same .refl rfl (fun hgd => have g1_12 : ((!(decide (((c.1.length : Nat) : Int) ≤ 8 ∨ ((c.1.length : Nat) : Int) = 65))) || (!(decide (((c.2.1.length : Nat) : Int) ≤ 8 ∨ ((c.2.1.length : Nat) : Int) = 65)))) = false := (by first | exact eq_of_beq hgd | simpa using hgd); VF.call (rFewP_ok )) ?_
  refine VO.cg (r := ((!(decide (((c.1.length : Nat) : Int) ≤ 8 ∨ ((c.1.length : Nat) : Int) = 65))) || (!(decide (((c.2.1.length : Nat) : Int) ≤ 8 ∨ ((c.2.1.length : Nat) : Int) = 65))))) (w := false) [(23, B (decide (((c.2.2.length : Nat) : Int) ≤ 8 ∨ ((c.2.2.length : Nat) : Int) = 65)))] ⟨rfl, trivial⟩ (fun hgd => have g1_12 : ((!(decide (((c.1.length : Nat) : Int) ≤ 8 ∨ ((c.1.length : Nat) : Int) = 65))) || (!(decide (((c.2.1.length : Nat) : Int) ≤ 8 ∨ ((c.2.1.length : Nat) : Int) = 65)))) = false := (by first | exact eq_of_beq hgd | simpa using hgd); (.not)) ?_
  refine VO.c (.or) ?_
  refine VO.go ?_
  refine VC.condB rfl (fun c1 => ?_) (fun c1 => ?_)
  · try simp only [Bool.and_eq_true, Bool.or_eq_true, Bool.and_eq_false_iff, Bool.or_eq_false_iff, Bool.not_eq_true', Bool.not_eq_false', decide_eq_true_eq, decide_eq_false_iff_not] at c1
    refine VC.seq (VC.text ?_)
    refine VO.c (.assign rfl) ?_
    refine VO.go ?_
    refine VC.ret ?_
    exact VEnd.one rfl evT (pvE (by exact shortC_few (by omega)))
  try simp only [Bool.and_eq_true, Bool.or_eq_true, Bool.and_eq_false_iff, Bool.or_eq_false_iff, Bool.not_eq_true', Bool.not_eq_false', decide_eq_true_eq, decide_eq_false_iff_not] at c1
  refine VC.skip (VC.seq (VC.seq (VC.text ?_)))
  have h3 := few3 (a := c.1.length) (b := c.2.1.length) (c := c.2.2.length) (by omega) (by omega) (by omega)
  refine VO.c (.assign rfl) ?_
  refine VO.go (VC.block ?_)
  refine VC.keep [(1, .p y64 c), (3, I ((0 : Nat) : Int))] ⟨rfl, rfl, trivial⟩ ?_
  refine VC.loop (I := fun kk ff ss => ∃ (i : Nat), kk = c.1.length - i ∧ ff = [(1, .p y64 c), (3, I ((i : Nat) : Int))] ∧ ss = [] ∧ (i ≤ c.1.length) ∧ (shortC c = ((c.1.drop i).all vS && (c.2.1.all eS && c.2.2.all cS)))) ?_ _ _ _ ⟨0, rfl, rfl, rfl, Nat.zero_le _, (by rw [shortC, h3]; rfl)⟩
  rintro kk ff ss ⟨i, hk0, rfl, rfl, hi, hf⟩
  refine VC.seq (VC.seq (VC.text ?_))
  refine VO.c (.move rfl) ?_
  refine VO.c (.fa (.l .o)) ?_
  refine VO.r (.ld vt60) ?_
  refine VO.r (.len el60) ?_
  refine VO.c (.lss) ?_
  refine VO.go ?_
  refine VC.condD rfl (fun c4 => ?_) (fun c4 => ?_)
  · refine VC.skip (VC.seq (VC.block (VC.seq (VC.text ?_))))
    refine VO.c (.fa (.l .o)) ?_
    refine VO.r (.ld vt60) ?_
    refine VO.c (.move rfl) ?_
    refine VO.c (.ix (j := i) rfl rfl el60 (by omega)) ?_
    refine VO.c (.fa (.l .o)) ?_
    refine VO.r (.ld vt9) ?_
    refine VO.r (.lenS) ?_
    refine VO.c (.gtr) ?_
    refine VO.go ?_
    refine VC.condD rfl (fun c6 => ?_) (fun c6 => ?_)
    · refine VC.seq (VC.text ?_)
      refine VO.c (.assign rfl) ?_
      refine VO.go ?_
      refine VC.ret ?_
      exact VEnd.one rfl evT (pvE (by rw [hf, any_all (by omega), vS, decide_eq_false (by omega)] <;> rfl))
    refine VC.skip (VC.text ?_)
    refine VO.c (.move rfl) ?_
    refine VO.c (.add rfl rfl (by omega)) ?_
    refine VO.c (.assign rfl) ?_
    refine VO.nil ?_
    refine ⟨_, [(1, .p y64 c), (3, I (((i + 1) : Nat) : Int))], ?_, ⟨rfl, rfl, trivial⟩, (i + 1), rfl, rfl, rfl, (by omega), (by rw [hf, any_all (by omega), vS, decide_eq_true (by omega), Bool.true_and])⟩
    omega
  refine VC.exit (VC.seq (VC.seq (VC.text ?_)))
  refine VO.c (.assign rfl) ?_
  refine VO.go (VC.block ?_)
  refine VC.keep [(1, .p y64 c), (4, I ((0 : Nat) : Int))] ⟨rfl, rfl, trivial⟩ ?_
  refine VC.loop (I := fun kk ff ss => ∃ (j : Nat), kk = c.2.1.length - j ∧ ff = [(1, .p y64 c), (4, I ((j : Nat) : Int))] ∧ ss = [] ∧ (j ≤ c.2.1.length) ∧ (shortC c = ((c.2.1.drop j).all eS && c.2.2.all cS))) ?_ _ _ _ ⟨0, rfl, rfl, rfl, Nat.zero_le _, (by rw [hf, List.drop_eq_nil_of_le (by omega)]; rfl)⟩
  rintro kk ff ss ⟨j, hk2, rfl, rfl, hj, hg⟩
  refine VC.seq (VC.seq (VC.text ?_))
  refine VO.c (.move rfl) ?_
  refine VO.c (.fa (.r (.l .o))) ?_
  refine VO.r (.ld vt61) ?_
  refine VO.r (.len el61) ?_
  refine VO.c (.lss) ?_
  refine VO.go ?_
  refine VC.condD rfl (fun c9 => ?_) (fun c9 => ?_)
  · refine VC.skip (VC.seq (VC.block (VC.seq (VC.seq (VC.text ?_)))))
    refine VO.c (.fa (.r (.l .o))) ?_
    refine VO.r (.ld vt61) ?_
    refine VO.c (.move rfl) ?_
    refine VO.c (.ix (j := j) rfl rfl el61 (by omega)) ?_
    refine VO.c (.fa (.l .o)) ?_
    refine VO.r (.ld vt9) ?_
    refine VO.r (.lenS) ?_
    refine VO.c (.gtr) ?_
    refine VO.c (.move rfl) ?_
    refine VO.splitD (x := 56) rfl (fun g11_8 => ?_) (fun g11_8 => ?_)
    · refine VO.skip ?_
      refine VO.skip ?_
      refine VO.skip ?_
      refine VO.skip ?_
      refine VO.skip ?_
      refine VO.skip ?_
      refine VO.skip ?_
      refine VO.skip ?_
      refine VO.skip ?_
      refine VO.skip ?_
      refine VO.skip ?_
      refine VO.skip ?_
      refine VO.skip ?_
      refine VO.skip ?_
      refine VO.skip ?_
      refine VO.skip ?_
      refine VO.skip ?_
      refine VO.skip ?_
      refine VO.c (.pickT rfl rfl) ?_
      refine VO.go ?_
      refine VC.condT rfl ?_
      refine VC.seq ?_
      refine VC.keep [(1, .p y64 c), (4, I ((j : Nat) : Int))] ⟨rfl, rfl, trivial⟩ ?_
      refine VC.text ?_
      refine VO.c (.assign rfl) ?_
      refine VO.go ?_
      refine VC.ret ?_
      exact VEnd.one rfl evT (pvE (by rw [hg, any_all (by omega), eS_no (by omega)] <;> rfl))
    refine VO.c (.fa (.r (.l .o))) ?_
    refine VO.r (.ld vt61) ?_
    refine VO.c (.move rfl) ?_
    refine VO.c (.ix (j := j) rfl rfl el61 (by omega)) ?_
    refine VO.c (.fa (.r .o)) ?_
    refine VO.r (.ld vt60) ?_
    refine VO.r (.len el60) ?_
    refine VO.c (.gtr) ?_
    refine VO.c (.move rfl) ?_
    refine VO.cg (r := decide ((8 : Int) < ((((c.2.1[j]).2).length : Nat) : Int))) (w := true) [] trivial (fun hgd => have g11_17 : (8 : Int) < ((((c.2.1[j]).2).length : Nat) : Int) := (by simpa using hgd); (.fa (.r (.l .o)))) ?_
    refine VO.rg (r := decide ((8 : Int) < ((((c.2.1[j]).2).length : Nat) : Int))) (w := true) [(66, .p y61 c.2.1)] ⟨rfl, trivial⟩ (fun hgd => have g11_17 : (8 : Int) < ((((c.2.1[j]).2).length : Nat) : Int) := (by simpa using hgd); (.ld vt61)) ?_
    refine VO.cg (r := decide ((8 : Int) < ((((c.2.1[j]).2).length : Nat) : Int))) (w := true) [] trivial (fun hgd => have g11_17 : (8 : Int) < ((((c.2.1[j]).2).length : Nat) : Int) := (by simpa using hgd); (.move rfl)) ?_
    refine VO.cg (r := decide ((8 : Int) < ((((c.2.1[j]).2).length : Nat) : Int))) (w := true) [(67, .v y61 c.2.1), (68, I ((j : Nat) : Int))] ⟨rfl, rfl, trivial⟩ (fun hgd => have g11_17 : (8 : Int) < ((((c.2.1[j]).2).length : Nat) : Int) := (by simpa using hgd); (.ixD rfl rfl (ByteArray.empty, []) el61 (by omega))) ?_
    refine VO.cg (r := decide ((8 : Int) < ((((c.2.1[j]).2).length : Nat) : Int))) (w := true) [(69, .p y96 (c.2.1.getD j (ByteArray.empty, [])))] ⟨rfl, trivial⟩ (fun hgd => have g11_17 : (8 : Int) < ((((c.2.1[j]).2).length : Nat) : Int) := (by simpa using hgd); (.fa (.r .o))) ?_
    refine VO.rg (r := decide ((8 : Int) < ((((c.2.1[j]).2).length : Nat) : Int))) (w := true) [(70, .p y60 ((c.2.1.getD j (ByteArray.empty, [])).2))] ⟨rfl, trivial⟩ (fun hgd => have g11_17 : (8 : Int) < ((((c.2.1[j]).2).length : Nat) : Int) := (by simpa using hgd); (.ld vt60)) ?_
    refine VO.rg (r := decide ((8 : Int) < ((((c.2.1[j]).2).length : Nat) : Int))) (w := true) [(71, .v y60 ((c.2.1.getD j (ByteArray.empty, [])).2))] ⟨rfl, trivial⟩ (fun hgd => have g11_17 : (8 : Int) < ((((c.2.1[j]).2).length : Nat) : Int) := (by simpa using hgd); (.len el60)) ?_
    refine VO.cg (r := decide ((8 : Int) < ((((c.2.1[j]).2).length : Nat) : Int))) (w := true) [(72, I ((((c.2.1.getD j (ByteArray.empty, [])).2).length : Nat) : Int))] ⟨rfl, trivial⟩ (fun hgd => have g11_17 : (8 : Int) < ((((c.2.1[j]).2).length : Nat) : Int) := (by simpa using hgd); (.neq)) ?_
    refine VO.c (.and) ?_
    refine VO.c (.pickF rfl rfl) ?_
    refine VO.go ?_
    refine VC.condB rfl (fun c11 => ?_) (fun c11 => ?_)
    · try simp only [Bool.and_eq_true, Bool.or_eq_true, Bool.and_eq_false_iff, Bool.or_eq_false_iff, Bool.not_eq_true', Bool.not_eq_false', decide_eq_true_eq, decide_eq_false_iff_not] at c11
      try rw [getD_at (by omega)] at c11
      refine VC.seq (VC.text ?_)
      refine VO.c (.assign rfl) ?_
      refine VO.go ?_
      refine VC.ret ?_
      exact VEnd.one rfl evT (pvE (by rw [hg, any_all (by omega), eS_no (by omega)] <;> rfl))
    try simp only [Bool.and_eq_true, Bool.or_eq_true, Bool.and_eq_false_iff, Bool.or_eq_false_iff, Bool.not_eq_true', Bool.not_eq_false', decide_eq_true_eq, decide_eq_false_iff_not] at c11
    try rw [getD_at (by omega)] at c11
    refine VC.skip (VC.seq (VC.text ?_))
    refine VO.c (.assign rfl) ?_
    refine VO.go (VC.block ?_)
    refine VC.keep [(1, .p y64 c), (4, I ((j : Nat) : Int)), (5, I ((0 : Nat) : Int))] ⟨rfl, rfl, rfl, trivial⟩ ?_
    refine VC.loop (I := fun kk ff ss => ∃ (k : Nat), kk = (c.2.1[j]).2.length - k ∧ ff = [(1, .p y64 c), (4, I ((j : Nat) : Int)), (5, I ((k : Nat) : Int))] ∧ ss = [] ∧ (k ≤ (c.2.1[j]).2.length) ∧ (shortC c = (((c.2.1[j]).2.drop k).all vS && ((c.2.1.drop (j + 1)).all eS && c.2.2.all cS)))) ?_ _ _ _ ⟨0, rfl, rfl, rfl, (by omega), (by rw [hg, any_all (by omega), eS_yes (by omega) (by omega)]; exact Bool.and_assoc _ _ _)⟩
    rintro kk ff ss ⟨k, hk4, rfl, rfl, hk, hh⟩
    refine VC.seq (VC.seq (VC.text ?_))
    refine VO.c (.move rfl) ?_
    refine VO.c (.fa (.r (.l .o))) ?_
    refine VO.r (.ld vt61) ?_
    refine VO.c (.move rfl) ?_
    refine VO.c (.ix (j := j) rfl rfl el61 (by omega)) ?_
    refine VO.c (.fa (.r .o)) ?_
    refine VO.r (.ld vt60) ?_
    refine VO.r (.len el60) ?_
    refine VO.c (.lss) ?_
    refine VO.go ?_
    refine VC.condD rfl (fun c14 => ?_) (fun c14 => ?_)
    · refine VC.skip (VC.seq (VC.block (VC.seq (VC.text ?_))))
      refine VO.c (.fa (.r (.l .o))) ?_
      refine VO.r (.ld vt61) ?_
      refine VO.c (.move rfl) ?_
      refine VO.c (.ix (j := j) rfl rfl el61 (by omega)) ?_
      refine VO.c (.fa (.r .o)) ?_
      refine VO.r (.ld vt60) ?_
      refine VO.c (.move rfl) ?_
      refine VO.c (.ix (j := k) rfl rfl el60 (by omega)) ?_
      refine VO.c (.fa (.l .o)) ?_
      refine VO.r (.ld vt9) ?_
      refine VO.r (.lenS) ?_
      refine VO.c (.gtr) ?_
      refine VO.go ?_
      refine VC.condD rfl (fun c16 => ?_) (fun c16 => ?_)
      · refine VC.seq (VC.text ?_)
        refine VO.c (.assign rfl) ?_
        refine VO.go ?_
        refine VC.ret ?_
        exact VEnd.one rfl evT (pvE (by rw [hh, any_all (by omega), vS, decide_eq_false (by omega)] <;> rfl))
      refine VC.skip (VC.text ?_)
      refine VO.c (.move rfl) ?_
      refine VO.c (.add rfl rfl (by omega)) ?_
      refine VO.c (.assign rfl) ?_
      refine VO.nil ?_
      refine ⟨_, [(1, .p y64 c), (4, I ((j : Nat) : Int)), (5, I (((k + 1) : Nat) : Int))], ?_, ⟨rfl, rfl, rfl, trivial⟩, (k + 1), rfl, rfl, rfl, (by omega), (by rw [hh, any_all (by omega), vS, decide_eq_true (by omega), Bool.true_and])⟩
      omega
    refine VC.exit (VC.text ?_)
    refine VO.c (.move rfl) ?_
    refine VO.c (.add rfl rfl (by omega)) ?_
    refine VO.c (.assign rfl) ?_
    refine VO.nil ?_
    refine ⟨_, [(1, .p y64 c), (4, I (((j + 1) : Nat) : Int))], ?_, ⟨rfl, rfl, trivial⟩, (j + 1), rfl, rfl, rfl, (by omega), (by rw [hh, List.drop_eq_nil_of_le (by omega)] <;> rfl)⟩
    omega
  refine VC.exit (VC.seq (VC.seq (VC.text ?_)))
  refine VO.c (.assign rfl) ?_
  refine VO.go (VC.block ?_)
  refine VC.keep [(1, .p y64 c), (6, I ((0 : Nat) : Int))] ⟨rfl, rfl, trivial⟩ ?_
  refine VC.loop (I := fun kk ff ss => ∃ (m : Nat), kk = c.2.2.length - m ∧ ff = [(1, .p y64 c), (6, I ((m : Nat) : Int))] ∧ ss = [] ∧ (m ≤ c.2.2.length) ∧ (shortC c = (c.2.2.drop m).all cS)) ?_ _ _ _ ⟨0, rfl, rfl, rfl, Nat.zero_le _, (by rw [hg, List.drop_eq_nil_of_le (by omega)]; rfl)⟩
  rintro kk ff ss ⟨m, hk6, rfl, rfl, hm, hz⟩
  refine VC.seq (VC.seq (VC.text ?_))
  refine VO.c (.move rfl) ?_
  refine VO.c (.fa (.r (.r .o))) ?_
  refine VO.r (.ld vt62) ?_
  refine VO.r (.len el62) ?_
  refine VO.c (.lss) ?_
  refine VO.go ?_
  refine VC.condD rfl (fun c19 => ?_) (fun c19 => ?_)
  · refine VC.skip (VC.seq (VC.block (VC.seq (VC.text ?_))))
    refine VO.c (.fa (.r (.r .o))) ?_
    refine VO.r (.ld vt62) ?_
    refine VO.c (.move rfl) ?_
    refine VO.c (.ix (j := m) rfl rfl el62 (by omega)) ?_
    refine VO.c (.fa (.l .o)) ?_
    refine VO.r (.ld vt9) ?_
    refine VO.r (.lenS) ?_
    refine VO.c (.gtr) ?_
    refine VO.c (.move rfl) ?_
    refine VO.splitD (x := 114) rfl (fun g21_8 => ?_) (fun g21_8 => ?_)
    · refine VO.skip ?_
      refine VO.skip ?_
      refine VO.skip ?_
      refine VO.skip ?_
      refine VO.skip ?_
      refine VO.skip ?_
      refine VO.skip ?_
      refine VO.skip ?_
      refine VO.skip ?_
      refine VO.skip ?_
      refine VO.skip ?_
      refine VO.skip ?_
      refine VO.skip ?_
      refine VO.skip ?_
      refine VO.skip ?_
      refine VO.skip ?_
      refine VO.skip ?_
      refine VO.skip ?_
      refine VO.c (.pickT rfl rfl) ?_
      refine VO.c (.move rfl) ?_
      refine VO.skip ?_
      refine VO.skip ?_
      refine VO.skip ?_
      refine VO.skip ?_
      refine VO.skip ?_
      refine VO.skip ?_
      refine VO.skip ?_
      refine VO.skip ?_
      refine VO.c (.pickT rfl rfl) ?_
      refine VO.go ?_
      refine VC.condT rfl ?_
      refine VC.seq ?_
      refine VC.keep [(1, .p y64 c), (6, I ((m : Nat) : Int))] ⟨rfl, rfl, trivial⟩ ?_
      refine VC.text ?_
      refine VO.c (.assign rfl) ?_
      refine VO.go ?_
      refine VC.ret ?_
      exact VEnd.one rfl evT (pvE (by first | (rw [hz, any_all (by omega), cS_no (cS_c c21)]; rfl) | (rw [hz, any_all (by omega), cS_no (cS_g g21_8)]; rfl)))
    refine VO.c (.fa (.r (.r .o))) ?_
    refine VO.r (.ld vt62) ?_
    refine VO.c (.move rfl) ?_
    refine VO.c (.ix (j := m) rfl rfl el62 (by omega)) ?_
    refine VO.c (.fa (.r (.r .o))) ?_
    refine VO.r (.ld vt27) ?_
    refine VO.r (.len el27) ?_
    refine VO.c (.gtr) ?_
    refine VO.c (.move rfl) ?_
    refine VO.cg (r := decide ((8 : Int) < ((((c.2.2[m]).2.2).length : Nat) : Int))) (w := true) [] trivial (fun hgd => have g21_17 : (8 : Int) < ((((c.2.2[m]).2.2).length : Nat) : Int) := (by first | exact eq_of_beq hgd | simpa using hgd); (.fa (.r (.r .o)))) ?_
    refine VO.rg (r := decide ((8 : Int) < ((((c.2.2[m]).2.2).length : Nat) : Int))) (w := true) [(124, .p y62 c.2.2)] ⟨rfl, trivial⟩ (fun hgd => have g21_17 : (8 : Int) < ((((c.2.2[m]).2.2).length : Nat) : Int) := (by first | exact eq_of_beq hgd | simpa using hgd); (.ld vt62)) ?_
    refine VO.cg (r := decide ((8 : Int) < ((((c.2.2[m]).2.2).length : Nat) : Int))) (w := true) [] trivial (fun hgd => have g21_17 : (8 : Int) < ((((c.2.2[m]).2.2).length : Nat) : Int) := (by first | exact eq_of_beq hgd | simpa using hgd); (.move rfl)) ?_
    refine VO.cg (r := decide ((8 : Int) < ((((c.2.2[m]).2.2).length : Nat) : Int))) (w := true) [(125, .v y62 c.2.2), (126, I ((m : Nat) : Int))] ⟨rfl, rfl, trivial⟩ (fun hgd => have g21_17 : (8 : Int) < ((((c.2.2[m]).2.2).length : Nat) : Int) := (by first | exact eq_of_beq hgd | simpa using hgd); (.ixD rfl rfl (ByteArray.empty, false, []) el62 (by omega))) ?_
    refine VO.cg (r := decide ((8 : Int) < ((((c.2.2[m]).2.2).length : Nat) : Int))) (w := true) [(127, .p y109 (c.2.2.getD m (ByteArray.empty, false, [])))] ⟨rfl, trivial⟩ (fun hgd => have g21_17 : (8 : Int) < ((((c.2.2[m]).2.2).length : Nat) : Int) := (by first | exact eq_of_beq hgd | simpa using hgd); (.fa (.r (.r .o)))) ?_
    refine VO.rg (r := decide ((8 : Int) < ((((c.2.2[m]).2.2).length : Nat) : Int))) (w := true) [(128, .p (.sl .str) ((c.2.2.getD m (ByteArray.empty, false, [])).2.2))] ⟨rfl, trivial⟩ (fun hgd => have g21_17 : (8 : Int) < ((((c.2.2[m]).2.2).length : Nat) : Int) := (by first | exact eq_of_beq hgd | simpa using hgd); (.ld vt27)) ?_
    refine VO.rg (r := decide ((8 : Int) < ((((c.2.2[m]).2.2).length : Nat) : Int))) (w := true) [(129, .v (.sl .str) ((c.2.2.getD m (ByteArray.empty, false, [])).2.2))] ⟨rfl, trivial⟩ (fun hgd => have g21_17 : (8 : Int) < ((((c.2.2[m]).2.2).length : Nat) : Int) := (by first | exact eq_of_beq hgd | simpa using hgd); (.len el27)) ?_
    refine VO.cg (r := decide ((8 : Int) < ((((c.2.2[m]).2.2).length : Nat) : Int))) (w := true) [(130, I ((((c.2.2.getD m (ByteArray.empty, false, [])).2.2).length : Nat) : Int))] ⟨rfl, trivial⟩ (fun hgd => have g21_17 : (8 : Int) < ((((c.2.2[m]).2.2).length : Nat) : Int) := (by first | exact eq_of_beq hgd | simpa using hgd); (.neq)) ?_
    refine VO.c (.and) ?_
    refine VO.c (.pickF rfl rfl) ?_
    refine VO.c (.move rfl) ?_
    refine VO.cg (r := ((decide ((8 : Int) < ((((c.2.2[m]).2.2).length : Nat) : Int))) && (decide (((((c.2.2.getD m (ByteArray.empty, false, [])).2.2).length : Nat) : Int) ≠ (17 : Int))))) (w := false) [] trivial (fun hgd => have g21_28 : ((decide ((8 : Int) < ((((c.2.2[m]).2.2).length : Nat) : Int))) && (decide (((((c.2.2.getD m (ByteArray.empty, false, [])).2.2).length : Nat) : Int) ≠ (17 : Int)))) = false := (by first | exact eq_of_beq hgd | simpa using hgd); (.fa (.r (.r .o)))) ?_
    refine VO.rg (r := ((decide ((8 : Int) < ((((c.2.2[m]).2.2).length : Nat) : Int))) && (decide (((((c.2.2.getD m (ByteArray.empty, false, [])).2.2).length : Nat) : Int) ≠ (17 : Int))))) (w := false) [(135, .p y62 c.2.2)] ⟨rfl, trivial⟩ (fun hgd => have g21_28 : ((decide ((8 : Int) < ((((c.2.2[m]).2.2).length : Nat) : Int))) && (decide (((((c.2.2.getD m (ByteArray.empty, false, [])).2.2).length : Nat) : Int) ≠ (17 : Int)))) = false := (by first | exact eq_of_beq hgd | simpa using hgd); (.ld vt62)) ?_
    refine VO.cg (r := ((decide ((8 : Int) < ((((c.2.2[m]).2.2).length : Nat) : Int))) && (decide (((((c.2.2.getD m (ByteArray.empty, false, [])).2.2).length : Nat) : Int) ≠ (17 : Int))))) (w := false) [] trivial (fun hgd => have g21_28 : ((decide ((8 : Int) < ((((c.2.2[m]).2.2).length : Nat) : Int))) && (decide (((((c.2.2.getD m (ByteArray.empty, false, [])).2.2).length : Nat) : Int) ≠ (17 : Int)))) = false := (by first | exact eq_of_beq hgd | simpa using hgd); (.move rfl)) ?_
    refine VO.cg (r := ((decide ((8 : Int) < ((((c.2.2[m]).2.2).length : Nat) : Int))) && (decide (((((c.2.2.getD m (ByteArray.empty, false, [])).2.2).length : Nat) : Int) ≠ (17 : Int))))) (w := false) [(136, .v y62 c.2.2), (137, I ((m : Nat) : Int))] ⟨rfl, rfl, trivial⟩ (fun hgd => have g21_28 : ((decide ((8 : Int) < ((((c.2.2[m]).2.2).length : Nat) : Int))) && (decide (((((c.2.2.getD m (ByteArray.empty, false, [])).2.2).length : Nat) : Int) ≠ (17 : Int)))) = false := (by first | exact eq_of_beq hgd | simpa using hgd); (.ixD rfl rfl (ByteArray.empty, false, []) el62 (by omega))) ?_
    refine VO.cg (r := ((decide ((8 : Int) < ((((c.2.2[m]).2.2).length : Nat) : Int))) && (decide (((((c.2.2.getD m (ByteArray.empty, false, [])).2.2).length : Nat) : Int) ≠ (17 : Int))))) (w := false) [(138, .p y109 (c.2.2.getD m (ByteArray.empty, false, [])))] ⟨rfl, trivial⟩ (fun hgd => have g21_28 : ((decide ((8 : Int) < ((((c.2.2[m]).2.2).length : Nat) : Int))) && (decide (((((c.2.2.getD m (ByteArray.empty, false, [])).2.2).length : Nat) : Int) ≠ (17 : Int)))) = false := (by first | exact eq_of_beq hgd | simpa using hgd); (.fa (.r (.r .o)))) ?_
    refine VO.rg (r := ((decide ((8 : Int) < ((((c.2.2[m]).2.2).length : Nat) : Int))) && (decide (((((c.2.2.getD m (ByteArray.empty, false, [])).2.2).length : Nat) : Int) ≠ (17 : Int))))) (w := false) [(139, .p (.sl .str) ((c.2.2.getD m (ByteArray.empty, false, [])).2.2))] ⟨rfl, trivial⟩ (fun hgd => have g21_28 : ((decide ((8 : Int) < ((((c.2.2[m]).2.2).length : Nat) : Int))) && (decide (((((c.2.2.getD m (ByteArray.empty, false, [])).2.2).length : Nat) : Int) ≠ (17 : Int)))) = false := (by first | exact eq_of_beq hgd | simpa using hgd); (.ld vt27)) ?_
    refine VO.callg (r0 := ((decide ((8 : Int) < ((((c.2.2[m]).2.2).length : Nat) : Int))) && (decide (((((c.2.2.getD m (ByteArray.empty, false, [])).2.2).length : Nat) : Int) ≠ (17 : Int))))) (w := false) [(140, .v (.sl .str) ((c.2.2.getD m (ByteArray.empty, false, [])).2.2))] ⟨rfl, trivial⟩ rfl rfl .same .refl rfl (fun hgd => have g21_28 : ((decide ((8 : Int) < ((((c.2.2[m]).2.2).length : Nat) : Int))) && (decide (((((c.2.2.getD m (ByteArray.empty, false, [])).2.2).length : Nat) : Int) ≠ (17 : Int)))) = false := (by first | exact eq_of_beq hgd | simpa using hgd); VF.call (rShort_ok (cS_len (by rw [getD_at (by omega)]) g21_28))) ?_
    refine VO.cg (r := ((decide ((8 : Int) < ((((c.2.2[m]).2.2).length : Nat) : Int))) && (decide (((((c.2.2.getD m (ByteArray.empty, false, [])).2.2).length : Nat) : Int) ≠ (17 : Int))))) (w := false) [(141, B (shortW ((c.2.2.getD m (ByteArray.empty, false, [])).2.2)))] ⟨rfl, trivial⟩ (fun hgd => have g21_28 : ((decide ((8 : Int) < ((((c.2.2[m]).2.2).length : Nat) : Int))) && (decide (((((c.2.2.getD m (ByteArray.empty, false, [])).2.2).length : Nat) : Int) ≠ (17 : Int)))) = false := (by first | exact eq_of_beq hgd | simpa using hgd); (.not)) ?_
    refine VO.c (.or) ?_
    refine VO.go ?_
    refine VC.condB rfl (fun c21 => ?_) (fun c21 => ?_)
    · try simp only [Bool.and_eq_true, Bool.or_eq_true, Bool.and_eq_false_iff, Bool.or_eq_false_iff, Bool.not_eq_true', Bool.not_eq_false', decide_eq_true_eq, decide_eq_false_iff_not] at c21
      try simp only [getD_at (show m < c.2.2.length by omega)] at c21
      refine VC.seq (VC.text ?_)
      refine VO.c (.assign rfl) ?_
      refine VO.go ?_
      refine VC.ret ?_
      exact VEnd.one rfl evT (pvE (by first | (rw [hz, any_all (by omega), cS_no (cS_c c21)]; rfl) | (rw [hz, any_all (by omega), cS_no (cS_g g21_8)]; rfl)))
    try simp only [Bool.and_eq_true, Bool.or_eq_true, Bool.and_eq_false_iff, Bool.or_eq_false_iff, Bool.not_eq_true', Bool.not_eq_false', decide_eq_true_eq, decide_eq_false_iff_not] at c21
    try simp only [getD_at (show m < c.2.2.length by omega)] at c21
    refine VC.skip (VC.text ?_)
    refine VO.c (.move rfl) ?_
    refine VO.c (.add rfl rfl (by omega)) ?_
    refine VO.c (.assign rfl) ?_
    refine VO.nil ?_
    refine ⟨_, [(1, .p y64 c), (6, I (((m + 1) : Nat) : Int))], ?_, ⟨rfl, rfl, trivial⟩, (m + 1), rfl, rfl, rfl, (by omega), (by rw [hz, any_all (by omega), cS_yes (by omega) (by omega) c21.2, Bool.true_and])⟩
    omega
  refine VC.exit (VC.seq (VC.text ?_))
  refine VO.c (.assign rfl) ?_
  refine VO.go ?_
  refine VC.ret ?_
  exact VEnd.one rfl evT (pvE (by rw [hz, List.drop_eq_nil_of_le (by omega)] <;> rfl))
end Go.Proofs
namespace Go.Fs
variable {P : Program} {orc : FuncId → List Value → Heap → Option (Value × Heap)} {rnd : Option Nat} {h h' h0 h1 h2 hs : Heap} {S S' S0 B G : List Nat} {σ σ' : Sto} {t t' : Tr} {ms : List Nat} {fl : VL} {ops : Array Oper} {n i mem : Nat} {l : List Oper} {K : VL → Sto → Prop} {Q : Ex → VL → Sto → Prop}
  {d d1 d2 : Tmp} {ty ty1 ty2 : TypeId} {pos pos1 pos2 : String} {after after1 after2 : Array Edge} {op : Op} {v v1 : PV} {g g1 g2 : Option (Nat × Bool)} {bs nw : List Nat} {segs : List (Nat × Nat × Nat)} {tail so : Bool}

section
variable (P orc)
def VDu (ops : Array Oper) (n : Nat) (l : List Oper) (i : Nat) (fl : VL) (nw : List Nat) (σ : Sto) (so : Bool) (bs : List Nat) (mem : Nat) (K : VL → Sto → Prop) : Prop :=
  ∀ (h0 : Heap) (G S0 : List Nat) (t : Tr) (h : Heap) (ms : List Nat) (segs : List (Nat × Nat × Nat)), Iv h0 G S0 h σ t ms fl → Old S0 h σ t fl nw so segs → (∀ s ∈ segs, s.2.2 ≤ h.next) →
    EvD P orc ops n l i ⟨t, h, bs, segs, mem, false⟩ fun s => ∃ fl' σ', Iv h0 G S0 s.h σ' s.t ms fl' ∧ K fl' σ'
end
theorem VC.drawnU {id : Nat} {ops : Array Oper} (hx : VDu P orc ops n ops.toList 0 fl [] σ true [] 0 fun fl' σ' => Q .normal fl' σ') (hl : lateB ops = false := by kernel_rfl) : VC P orc rnd (.region id ops true) n fl σ Q := fun h0 G S0 t h ms I => by
  refine EvC.draw hl ?_
  obtain ⟨m, s', h1, fl', σ', h2, h3⟩ := hx h0 G S0 t h ms [] I ⟨h, I.ok, After.refl h, SegsOk.nil, I.lc.s0, fun k pv hk _ => I.slots k pv hk, fun _ => I.cells⟩ (fun _ hs => by cases hs)
  exact ⟨m, s', h1, rfl, fl', σ', h2, h3⟩
theorem VDu.c {b : Nat} (hc : CalmV P fl [] op v) (hk : VDu P orc ops n l (i + 1) ((d, v) :: fl) (nwSet (oldOp nw op || v.flat0) d nw) σ so (bs ++ [b]) mem K)
    (hb : beforeOf bs ⟨some d, op, ty, pos, after, g⟩ = b := by rfl) (hw : wantV ops fl g = some true := by rfl) (hn : (Nat.blt d n && Nat.ble n 4000) = true := by rfl) :
    VDu P orc ops n (⟨some d, op, ty, pos, after, g⟩ :: l) i fl nw σ so bs mem K := fun h0 G S0 t h ms segs I ho hup => by
  obtain ⟨n1, n2⟩ := fits hn
  obtain ⟨u, e1, e2⟩ := hc.2 h (own σ ++ S0) t I.slots.sees (fun _ hc => by cases hc)
  refine EvD.op (s' := ⟨t.set depth d u, h, bs ++ [b], segs, mem, false⟩) ?_ (hk h0 G S0 _ h ms segs (I.set e1 n2) (ho.set n2 fun hold hs a1 a2 a3 a4 a5 => ?_) hup)
  · unfold fsDraw
    have hwt : fsWanted ops t ⟨some d, op, ty, pos, after, g⟩ = some true := want_ok I.slots hw
    simp only [hwt, hc.1, if_true, e2, Nat.beq_refl, cond_true, put_fits n1, Option.map_some, hb]
  rcases Bool.or_eq_true_iff.1 hold with hold | hold
  · obtain ⟨u', f1, f2⟩ := hc.2 hs (own σ ++ S0) t (old_op a4 hold) (fun _ hc => by cases hc)
    have : u' = u := by
      have g1 := e2 none 0 "" #[] none h
      rw [f2 none 0 "" #[] none h] at g1
      simpa using g1
    rw [← this]; exact f1
  exact (RepPV.flat0 hold e1).2 _ _
theorem VDu.r {b : Nat} (cs : Sto) (hc : ReadV P fl cs op v) (hcs : cs = [] ∨ (so = true ∧ cs = σ)) (hk : VDu P orc ops n l (i + 1) ((d, v) :: fl) (nwSet true d nw) σ so (bs ++ [b]) (mem ||| 2 ^ i) K)
    (hb : beforeOf bs ⟨some d, op, ty, pos, after, g⟩ = b := by rfl) (hold : oldOp nw op = true := by rfl) (hw : wantV ops fl g = some true := by rfl) (hn : (Nat.blt d n && Nat.ble n 4000) = true := by rfl) :
    VDu P orc ops n (⟨some d, op, ty, pos, after, g⟩ :: l) i fl nw σ so bs mem K := fun h0 G S0 t h ms segs I ho hup => by
  obtain ⟨n1, n2⟩ := fits hn
  obtain ⟨M, m1, m2, m3, m4, m5, m6, m7⟩ := seen_ok (tail := false) (mem := mem) I hb (fun _ => ho)
  obtain ⟨hs, a1, a2, a3, a4, a5, a6, a7⟩ := m7 rfl
  have hcell : ∀ c ∈ cs, CellR hs (own σ ++ S0) c.1 c.2 := by
    rcases hcs with rfl | ⟨hso, hcs⟩
    · intro c hc; cases hc
    rw [hcs]; exact a7 hso
  obtain ⟨u, e1, e2⟩ := hc.2 hs (own σ ++ S0) t (old_op a6 hold) hcell
  have hst := e2 M (fun b o hg => by rw [a3.get b (a1 b o hg)]; exact hg) (some d) ty pos after g
  have hrep : RepPV h (own σ ++ S0) v u := e1.nx (a2.nx a1)
  refine EvD.op (draw_read m1 m3 m4 hb rfl hc.1 (want_ok I.slots hw) rfl hst n1) (hk h0 G S0 _ h ms _ (I.set hrep n2) ?_ fun s hs => ?_)
  · refine Old.seg ?_ (Nat.le_refl _)
    refine Old.set (old := true) ⟨hs, a1, a2, a4, a5, a6, a7⟩ n2 fun _ hs' b1 b2 b3 b4 b5 => ?_
    have hcell' : ∀ c ∈ cs, CellR hs' (own σ ++ S0) c.1 c.2 := by
      rcases hcs with rfl | ⟨hso, hcs⟩
      · intro c hc; cases hc
      rw [hcs]; exact b5 hso
    obtain ⟨u', f1, f2⟩ := hc.2 hs' (own σ ++ S0) t (old_op b4 hold) hcell'
    have g1 := e2 h (fun b o hg => by rw [a2.get b (a1 b o hg)]; exact hg) (some d) ty pos after g
    rw [f2 h (fun b o hg => by rw [b2.get b (b1 b o hg)]; exact hg) (some d) ty pos after g] at g1
    have : u' = u := by simpa using g1
    rw [← this]; exact f1
  rcases List.mem_cons.1 hs with rfl | hs
  · exact Nat.le_refl _
  exact hup s hs
theorem mask_keep {m b : Nat} : ∀ (segs : List (Nat × Nat × Nat)) (objs : List (Nat × AObj)), (∀ s ∈ segs, m.testBit s.1 = false → ¬(s.2.1 ≤ b ∧ b < s.2.2)) → look (mask m segs objs) b = look objs b
  | [], _, _ => rfl
  | (k, lo, hi) :: segs, objs, h => by
    simp only [mask]
    rw [mask_keep segs _ fun s hs => h s (List.mem_cons_of_mem _ hs)]
    cases hk : m.testBit k with
    | true => rfl
    | false =>
      have := h (k, lo, hi) List.mem_cons_self hk
      simp only [Bool.false_eq_true, if_false]
      refine look_filter_all (fun o => ?_) objs
      unfold outside
      simp only [Bool.not_eq_true', Bool.and_eq_false_iff, decide_eq_false_iff_not]
      exact Decidable.not_and_iff_not_or_not.1 this
def oldOr (nw : List Nat) (k : Nat) : Operand → Bool
  | .tmp i => Nat.beq k i || !nwHas nw i
  | _ => true
theorem VDu.newcall {b1 b2 : Nat} {f : Operand} {args : Array Operand} {ats : Array TypeId} {F r : PV} {asl : List PV} (hs : FreshV P fl op v1) (hf : evV ((d1, v1) :: fl) f = some F) (ha : evVs ((d1, v1) :: fl) args.toList = some asl) (hc : VCall P orc F asl r)
    (hk : VD P orc ops n l (i + 1 + 1) ((d2, r) :: (d1, v1) :: fl) (nwSet r.flat d2 (nwSet false d1 nw)) σ so (bs ++ [b1] ++ [b2]) ((mem ||| 2 ^ i) ||| 2 ^ (i + 1)) false K)
    (hb1 : beforeOf bs ⟨some d1, op, ty1, pos1, after1, g1⟩ = b1 := by rfl) (hb2 : beforeOf (bs ++ [b1]) ⟨some d2, .call { callee := .value f, args := args, argTypes := ats }, ty2, pos2, after2, g2⟩ = b2 := by rfl) (hbit : b2.testBit i = true := by rfl)
    (hold : oldOp nw op = true := by rfl) (hcall : (oldOr nw d1 f && args.toList.all (oldOr nw d1)) = true := by rfl) (hw1 : wantV ops fl g1 = some true := by rfl) (hw2 : wantV ops ((d1, v1) :: fl) g2 = some true := by rfl) (hn1 : (Nat.blt d1 n && Nat.ble n 4000) = true := by rfl) (hn2 : (Nat.blt d2 n && Nat.ble n 4000) = true := by rfl) :
    VDu P orc ops n (⟨some d1, op, ty1, pos1, after1, g1⟩ :: ⟨some d2, .call { callee := .value f, args := args, argTypes := ats }, ty2, pos2, after2, g2⟩ :: l) i fl nw σ so bs mem K := fun h0 G S0 t h ms segs I ho hup => by
  obtain ⟨n1, n2⟩ := fits hn1
  obtain ⟨n3, n4⟩ := fits hn2
  obtain ⟨M, m1, m2, m3, m4, m5, m6, m7⟩ := seen_ok (tail := false) (mem := mem) I hb1 (fun _ => ho)
  obtain ⟨mk, o, e1, e2⟩ := hs.2 h _ t I.slots.sees I.ok I.lc.lt
  have I1 : Iv h0 G S0 (h.push o) σ (t.set depth d1 (mk h.next)) ms ((d1, v1) :: fl) := (I.calm (Aft.push h o [])).set e1 n2
  have O1 : Old S0 (h.push o) σ (t.set depth d1 (mk h.next)) ((d1, v1) :: fl) (nwSet false d1 nw) so ((i, h.next, h.next + 1) :: segs) := (ho.set (old := false) n2 fun e => by cases e).next (After.push h o) (Nat.le_refl _)
  refine EvD.op (draw_fresh m1 m2 m3 m4 hb1 rfl hs.1 (want_ok I.slots hw1) rfl (e2 M _ _ _ _ _) n1) ?_
  obtain ⟨M', p1, p2, p3, p4, p5, p6, p7⟩ := seen_ok (tail := false) (mem := mem ||| 2 ^ i) I1 hb2 (fun _ => O1)
  obtain ⟨hs0, c1, c2, c3, c4, c5, c6⟩ := ho
  have hM : ∀ b, (b < hs0.next ∨ b = h.next) → M'.get b = (h.push o).get b := fun b hb => by
    rw [← p1]
    unfold seenBy
    simp only [hb2]
    show look _ _ = _
    cases hq : Nat.beq ((mem ||| 2 ^ i) &&& b2) (mem ||| 2 ^ i) with
    | true => rfl
    | false =>
      simp only [cond_false]
      rw [mask_keep]
      · rfl
      intro s hs hbt hin
      rcases List.mem_cons.1 hs with rfl | hs
      · rw [hbit] at hbt; cases hbt
      have q1 := hup s hs
      have q2 := c3 s hs
      omega
  have hnx0 := c2.next
  obtain ⟨mk', o', f1, f2⟩ := hs.2 { next := h.next, low := h.next, objs := hs0.objs } (own σ ++ S0) t (fun x hx pv hp => (old_op c5 hold x hx pv hp).nx (h := hs0) (h' := { next := h.next, low := h.next, objs := hs0.objs }) fun b ob hg hb => ⟨hg, hb⟩) (fun b ob hg => by have := c1 b ob hg; show b < h.next; omega) I.lc.lt
  have hee : some (mk h.next, h.push o) = some (mk' h.next, h.push o') := (e2 h none 0 "" #[] none).symm.trans (f2 h none 0 "" #[] none)
  simp only [Option.some.injEq, Prod.mk.injEq, Heap.push, Heap.mk.injEq, List.cons.injEq, true_and, and_true] at hee
  obtain ⟨g1', g2'⟩ := hee
  subst g2'
  have hv1 : RepPV M' (own σ ++ S0) v1 (mk h.next) := by
    rw [g1']
    refine RepPV.nx (h := ({ next := h.next, low := h.next, objs := hs0.objs } : Heap).push o) (fun b ob hg hb => ⟨?_, hb⟩) f1
    rw [Heap.get_push] at hg
    split at hg
    · rename_i e
      rw [hM b (.inr e), Heap.get_push, if_pos e]; exact hg
    rename_i e
    have hb2 := c1 b ob hg
    rw [hM b (.inl hb2), Heap.get_push, if_neg e, c2.get b hb2]; exact hg
  have hold1 : ∀ {pv : PV} {u : Value}, RepPV hs0 (own σ ++ S0) pv u → RepPV M' (own σ ++ S0) pv u := fun hp => hp.nx fun b ob hg hb => ⟨by
    have hb2 := c1 b ob hg
    rw [hM b (.inl hb2), Heap.get_push, if_neg (by omega), c2.get b hb2]; exact hg, hb⟩
  have hsl : ∀ {x : Operand} {pv : PV}, evV ((d1, v1) :: fl) x = some pv → oldOr nw d1 x = true → RepPV M' (own σ ++ S0) pv (evalO (t.set depth d1 (mk h.next)) x) := fun {x pv} hx ho => by
    cases x with
    | tmp k =>
      show RepPV _ _ _ ((t.set depth d1 (mk h.next)).get k)
      rw [get_setD t d1 (mk h.next) k n2]
      simp only [evV, lkV] at hx
      cases hb : Nat.beq d1 k with
      | true =>
        rw [hb] at hx
        simp only [cond_true, Option.some.injEq] at hx
        subst hx
        rw [if_pos (nbeq hb).symm]; exact hv1
      | false =>
        rw [hb] at hx
        simp only [cond_false] at hx
        rw [if_neg (Ne.symm (ne_of_no hb))]
        simp only [oldOr, hb, Bool.false_or, Bool.not_eq_true'] at ho
        exact hold1 (c5 k pv hx ho)
    | const c =>
      obtain ⟨h1, h2⟩ := constV_ok hx
      show RepPV _ _ pv (if af c then c else junk)
      rw [if_pos h1]; exact h2 _ _
    | global g => cases hx
    | func f => obtain rfl := Option.some.inj hx; exact ⟨[], [], rfl, rfl, rfl⟩
  have hargs : ∀ (l : List Operand) (asl : List PV), evVs ((d1, v1) :: fl) l = some asl → l.all (oldOr nw d1) = true → RepL M' (own σ ++ S0) asl (l.map (evalO (t.set depth d1 (mk h.next)))) := by
    intro l
    induction l with
    | nil => intro asl hx _; obtain rfl := Option.some.inj hx; rfl
    | cons x r ih =>
      intro asl hx hl
      rw [List.all_cons] at hl
      obtain ⟨l1, l2⟩ := band hl
      simp only [evVs] at hx
      split at hx
      · rename_i v vs0 hv hvs
        obtain rfl := Option.some.inj hx
        exact ⟨_, _, rfl, hsl hv l1, ih vs0 hvs l2⟩
      cases hx
  obtain ⟨o1, o2⟩ := band hcall
  obtain ⟨fid, ca, cc, k1, k2⟩ := hc.ev p2 (fun b hb => by rw [p3]; exact Lc.lt I1.lc b hb) (hsl hf o1) (hargs _ _ ha o2)
  refine EvD.call (o := ⟨some d2, .call { callee := .value f, args := args, argTypes := ats }, ty2, pos2, after2, g2⟩) (want_ok I1.slots hw2) rfl rfl k1 rfl ?_
  rw [p1]
  refine k2.mono fun u h' hq => ?_
  obtain ⟨q1, q2, q3⟩ := hq
  have hA := q1.after
  have hl : (h.push o).next ≤ h'.low := hA.low (h.push o).next (by omega) (by omega)
  have hlow : Nat.ble (h.push o).next h'.low = true := by rw [Nat.ble_eq]; exact hl
  have hnx : (h.push o).next ≤ h'.next := by have := hA.next; omega
  refine ⟨blt_of_le hnx, by simp only [hlow, Bool.true_or], _, put_fits n3 _ u, ?_⟩
  have hd : drewOn ⟨some d2, .call { callee := .value f, args := args, argTypes := ats }, ty2, pos2, after2, g2⟩ (i + 1) ⟨t.set depth d1 (mk h.next), h.push o, bs ++ [b1], (i, h.next, h.next + 1) :: segs, mem ||| 2 ^ i, false⟩ ((t.set depth d1 (mk h.next)).set depth d2 u) h' =
      ⟨(t.set depth d1 (mk h.next)).set depth d2 u, { next := h'.next, low := (h.push o).low, objs := newer (h.push o).next h'.next h'.objs ++ (h.push o).objs }, bs ++ [b1] ++ [b2], (i + 1, (h.push o).next, h'.next) :: (i, h.next, h.next + 1) :: segs, (mem ||| 2 ^ i) ||| 2 ^ (i + 1), false⟩ := by
    unfold drewOn
    simp only [hlow, cond_true, hb2]
  rw [hd]
  obtain ⟨z1, z2⟩ := newer_left (h' := h') I1.ok p5 p3 hA p2
  have eA : Aft (h.push o) { next := h'.next, low := (h.push o).low, objs := newer (h.push o).next h'.next h'.objs ++ (h.push o).objs } [] := ⟨z1.next, fun b hb _ => z1.get b hb, z1.ok, fun e h3 h4 _ => z1.low e h3 h4, fun b hb => .inl (z1.get b hb), Nat.le_refl _⟩
  refine hk h0 G S0 _ _ ms _ ((I1.calm eA).set (q2.nx (z2 _)) n4) fun _ => ?_
  exact (O1.set (old := r.flat) n4 fun hfl _ _ _ _ _ _ => (q2.flat hfl).2 _ _).next z1 (Nat.le_refl _)
end Go.Fs
namespace Go.Proofs
open Go.Fs
set_option linter.unusedVariables false
set_option maxHeartbeats 1000000
abbrev y235 : Ty := (.sl (.sl .str))
theorem el235 : ElT Tryz.prog 235 27 (.sl .str) := elT_of (by kernel_rfl)
theorem zCloneS_ok {l : List ByteArray} (hl : l.length < 100000) : VF Tryz.prog OA 162 [.v (.sl .str) l] (.v (.sl .str) l) := by
  refine VF.enter Tryz.func162 rfl (fun _ _ => rfl) rfl ?_
  show VC _ _ _ _ _ [(0, .v (.sl .str) l)] [] _
  refine VC.seq (VC.text ?_)
  refine VO.c (.assign rfl) ?_
  refine VO.go (VC.seq (VC.seq (VC.text ?_)))
  refine VO.c (.move rfl) ?_
  refine VO.isnil (e := 9) rfl rfl (by kernel_rfl) (by kernel_rfl) (fun h1_1 => ?_) ?_
  · refine VO.go ?_
    refine VC.condT rfl ?_
    refine VC.seq (VC.text ?_)
    refine VO.c (.assign rfl) ?_
    refine VO.go ?_
    refine VC.ret ?_
    exact VEnd.one rfl (evC .nil) (pvE (by rw [h1_1]))
  refine VO.go ?_
  refine VC.condF rfl ?_
  refine VC.skip (VC.seq (VC.text ?_))
  refine VO.cell (.lit0 el27) ?_
  intro ww1
  refine VO.c (.move rfl) ?_
  refine VO.app rfl rfl el27 el27 (by simp; omega) ?_
  intro ww2
  refine VO.c (.assign rfl) ?_
  refine VO.go ?_
  refine VC.ret ?_
  exact VEnd.one rfl (evC (.row m0)) (pvE (by first | rfl | simp))
theorem flat_le {α : Type} {l : List (List α)} (j : Nat) : (l.take j).flatten.length ≤ l.flatten.length := by
  have : l.flatten = (l.take j).flatten ++ (l.drop j).flatten := by rw [← List.flatten_append, List.take_append_drop]
  rw [this, List.length_append]; omega
theorem flat_succ {α : Type} {l : List (List α)} {j : Nat} (hj : j < l.length) : (l.take (j + 1)).flatten = (l.take j).flatten ++ l[j] := by
  rw [List.take_succ_eq_append_getElem hj, List.flatten_append]; simp
theorem zGrowS_ok {n : Nat} (h0 : 0 < n) (h1 : n ≤ 1000000) : VFG Tryz.prog OA 197 [nilV, I ((n : Nat) : Int)] [] (fun r g => ∃ w, r = .raw w ∧ g = [(w, .cap 9 n .str [])]) := by
  refine VFG.enter Tryz.func197 rfl (fun _ _ => rfl) rfl ?_
  show VC _ _ _ _ _ [(0, nilV), (1, I ((n : Nat) : Int))] [] _
  refine VC.seq (VC.text ?_)
  refine VO.c (.assign rfl) ?_
  refine VO.go (VC.seq (VC.seq (VC.text ?_)))
  refine VO.c (.move rfl) ?_
  refine VO.c (.lss) ?_
  refine VO.go ?_
  refine VC.condD rfl (fun c1 => ?_) (fun c1 => ?_)
  · exact absurd c1 (by omega)
  refine VC.skip (VC.seq (VC.seq (VC.text ?_)))
  refine VO.c (.move rfl) ?_
  refine VO.c (.move rfl) ?_
  refine VO.r (.cap0 el27) ?_
  refine VO.c (.move rfl) ?_
  refine VO.r (.len0 el27) ?_
  refine VO.c (.sub rfl rfl (by decide)) ?_
  refine VO.c (.sub rfl rfl (by omega)) ?_
  refine VO.c (.assign rfl) ?_
  refine VO.go (VC.seq (VC.text ?_))
  refine VO.c (.move rfl) ?_
  refine VO.c (.gtr) ?_
  refine VO.go ?_
  refine VC.condD rfl (fun c4 => ?_) (fun c4 => ?_)
  · refine VC.text ?_
    refine VO.c (.move rfl) ?_
    refine VO.c (.move rfl) ?_
    refine VO.r (.cap0 el27) ?_
    refine VO.r (.nil0 el27 rfl rfl) ?_
    refine VO.c (.move rfl) ?_
    refine VO.grow (k := n) rfl (congrArg (fun z : Int => some (PV.v (.int .i64) z)) (show (((n : Nat) : Int) - (((0 : Nat) : Int) - ((0 : Nat) : Int))) = ((n : Nat) : Int) by omega)) el27 (by kernel_rfl) (by omega) (by omega) ?_
    intro bb3
    refine VO.c (.move rfl) ?_
    refine VO.r (.len0 el27) ?_
    refine VO.r (.cut0 el27 rfl rfl) ?_
    refine VO.c (.assign rfl) ?_
    refine VO.go (VC.seq (VC.text ?_))
    refine VO.c (.move rfl) ?_
    refine VO.c (.assign rfl) ?_
    refine VO.go ?_
    refine VC.ret ?_
    exact VEndG.cap rfl evT m0 ⟨(.slice (some ⟨bb3, 0, none⟩) 0 0), rfl, (by rfl)⟩
  exact absurd (by omega) c4
theorem zConcatS1_ok {l : List (List ByteArray)} (hl : l.length < 100000) (h0 : 0 < l.flatten.length) (h1 : l.flatten.length ≤ 1000000) : VF Tryz.prog OA 168 [.v y235 l] (.v (.sl .str) l.flatten) := by
  refine VF.enter Tryz.func168 rfl (fun _ _ => rfl) rfl ?_
  show VC _ _ _ _ _ [(0, .v y235 l)] [] _
  refine VC.seq (VC.text ?_)
  refine VO.c (.assign rfl) ?_
  refine VO.go (VC.seq (VC.text ?_))
  refine VO.c (.assign rfl) ?_
  refine VO.go (VC.seq (VC.seq (VC.text ?_)))
  refine VO.c (.move rfl) ?_
  refine VO.r (.len el235) ?_
  refine VO.c (.move rfl) ?_
  refine VO.go (VC.block ?_)
  refine VC.keep [(0, .v y235 l), (3, I (((l.take 0).flatten.length : Nat) : Int)), (9, .v y235 l), (10, I ((l.length : Nat) : Int)), (11, I ((0 : Nat) : Int))] ⟨rfl, slI rfl (by rfl), rfl, rfl, rfl, trivial⟩ ?_
  refine VC.loop (I := fun kk ff ss => ∃ (j : Nat), kk = l.length - j ∧ ff = [(0, .v y235 l), (3, I (((l.take j).flatten.length : Nat) : Int)), (9, .v y235 l), (10, I ((l.length : Nat) : Int)), (11, I ((j : Nat) : Int))] ∧ ss = [] ∧ (j ≤ l.length)) ?_ _ _ _ ⟨0, rfl, rfl, rfl, Nat.zero_le _⟩
  rintro kk ff ss ⟨j, hk0, rfl, rfl, hj⟩
  refine VC.seq (VC.text ?_)
  refine VO.c (.lss) ?_
  refine VO.go (VC.seq ?_)
  refine VC.condD rfl (fun c3 => ?_) (fun c3 => ?_)
  · refine VC.skip (VC.seq (VC.block (VC.seq (VC.text ?_))))
    refine VO.c (.ix (j := j) rfl rfl el235 (by omega)) ?_
    refine VO.r (.ld vt27) ?_
    refine VO.c (.assign rfl) ?_
    refine VO.go (VC.seq (VC.text ?_))
    have hs := flat_le (l := l) (j + 1)
    rw [flat_succ (by omega), List.length_append] at hs
    refine VO.c (.move rfl) ?_
    refine VO.c (.move rfl) ?_
    refine VO.r (.len el27) ?_
    refine VO.c (.add rfl rfl (by omega)) ?_
    refine VO.c (.assign rfl) ?_
    refine VO.go (VC.seq (VC.text ?_))
    refine VO.c (.move rfl) ?_
    refine VO.c (.lss) ?_
    refine VO.go ?_
    refine VC.condD rfl (fun c6 => ?_) (fun c6 => ?_)
    · exact absurd c6 (by omega)
    refine VC.skip (VC.text ?_)
    refine VO.c (.add rfl rfl (by omega)) ?_
    refine VO.c (.move rfl) ?_
    refine VO.nil ?_
    refine ⟨_, [(0, .v y235 l), (3, I (((l.take (j + 1)).flatten.length : Nat) : Int)), (9, .v y235 l), (10, I ((l.length : Nat) : Int)), (11, I (((j + 1) : Nat) : Int))], ?_, ⟨rfl, slI rfl (by rw [flat_succ (by omega), List.length_append] <;> rfl), rfl, rfl, rfl, trivial⟩, (j + 1), rfl, rfl, rfl, (by omega)⟩
    omega
  refine VC.exit (VC.seq (VC.text ?_))
  have hjl : l.take j = l := List.take_of_length_le (by omega)
  refine VO.c (.move rfl) ?_
  refine VO.callG [] rfl rfl rfl (VFG.call (zGrowS_ok (by rw [hjl]; exact h0) (by rw [hjl]; exact h1))) ?_
  rintro _ _ ⟨ww4, rfl, rfl⟩
  show VO _ _ _ _ _ _ [(ww4, .cap 9 ((l.take j).flatten.length) .str [])] _
  refine VO.c (.assign rfl) ?_
  refine VO.go (VC.seq (VC.seq (VC.text ?_)))
  refine VO.c (.move rfl) ?_
  refine VO.r (.len el235) ?_
  refine VO.c (.move rfl) ?_
  refine VO.go (VC.block ?_)
  refine VC.keep [(6, .raw ww4), (25, .v y235 l), (26, I ((l.length : Nat) : Int)), (27, I ((0 : Nat) : Int))] ⟨rfl, rfl, rfl, rfl, trivial⟩ ?_
  refine VC.loop (I := fun kk ff ss => ∃ (i : Nat) (out : Value), kk = l.length - i ∧ ff = [(6, .raw out), (25, .v y235 l), (26, I ((l.length : Nat) : Int)), (27, I ((i : Nat) : Int))] ∧ ss = [(out, .cap 9 ((l.take j).flatten.length) .str ((l.take i).flatten))] ∧ (i ≤ l.length)) ?_ _ _ _ ⟨0, ww4, rfl, rfl, rfl, Nat.zero_le _⟩
  rintro kk ff ss ⟨i, out, hk2, rfl, rfl, hi⟩
  refine VC.seq (VC.text ?_)
  refine VO.c (.lss) ?_
  refine VO.go (VC.seq ?_)
  refine VC.condD rfl (fun c11 => ?_) (fun c11 => ?_)
  · refine VC.skip (VC.seq (VC.block (VC.seq (VC.text ?_))))
    refine VO.c (.ix (j := i) rfl rfl el235 (by omega)) ?_
    refine VO.r (.ld vt27) ?_
    refine VO.c (.assign rfl) ?_
    refine VO.go (VC.text ?_)
    have hs := flat_le (l := l) (i + 1)
    rw [flat_succ (by omega), List.length_append] at hs
    refine VO.c (.move rfl) ?_
    refine VO.c (.move rfl) ?_
    refine VO.appC rfl rfl el27 el27 (by rw [hjl]; exact hs) (by rw [hjl]; exact h1) ?_
    intro ww5
    refine VO.c (.assign rfl) ?_
    refine VO.nil (VC.text ?_)
    refine VO.c (.add rfl rfl (by omega)) ?_
    refine VO.c (.move rfl) ?_
    refine VO.nil ?_
    refine ⟨_, [(6, .raw ww5), (25, .v y235 l), (26, I ((l.length : Nat) : Int)), (27, I (((i + 1) : Nat) : Int))], ?_, ⟨rfl, rfl, rfl, rfl, trivial⟩, (i + 1), ww5, rfl, rfl, (by rw [flat_succ (by omega)] <;> rfl), (by omega)⟩
    omega
  refine VC.exit (VC.seq ?_)
  refine VC.capRow (by rw [hjl, List.take_of_length_le (by omega)]) ?_
  refine VC.text ?_
  refine VO.c (.move rfl) ?_
  refine VO.c (.assign rfl) ?_
  refine VO.go ?_
  refine VC.ret ?_
  exact VEnd.one rfl (evC (.row m0)) (pvE (by rw [List.take_of_length_le (by omega)]))
theorem zGrowS0_ok {n : Nat} (h0 : n = 0) : VF Tryz.prog OA 197 [nilV, I ((n : Nat) : Int)] (nilV) := by
  refine VF.enter Tryz.func197 rfl (fun _ _ => rfl) rfl ?_
  show VC _ _ _ _ _ [(0, nilV), (1, I ((n : Nat) : Int))] [] _
  refine VC.seq (VC.text ?_)
  refine VO.c (.assign rfl) ?_
  refine VO.go (VC.seq (VC.seq (VC.text ?_)))
  refine VO.c (.move rfl) ?_
  refine VO.c (.lss) ?_
  refine VO.go ?_
  refine VC.condD rfl (fun c1 => ?_) (fun c1 => ?_)
  · exact absurd c1 (by omega)
  refine VC.skip (VC.seq (VC.seq (VC.text ?_)))
  refine VO.c (.move rfl) ?_
  refine VO.c (.move rfl) ?_
  refine VO.r (.cap0 el27) ?_
  refine VO.c (.move rfl) ?_
  refine VO.r (.len0 el27) ?_
  refine VO.c (.sub rfl rfl (by decide)) ?_
  refine VO.c (.sub rfl rfl (by omega)) ?_
  refine VO.c (.assign rfl) ?_
  refine VO.go (VC.seq (VC.text ?_))
  refine VO.c (.move rfl) ?_
  refine VO.c (.gtr) ?_
  refine VO.go ?_
  refine VC.condD rfl (fun c4 => ?_) (fun c4 => ?_)
  · exact absurd c4 (by omega)
  refine VC.skip (VC.seq (VC.text ?_))
  refine VO.c (.move rfl) ?_
  refine VO.c (.assign rfl) ?_
  refine VO.go ?_
  refine VC.ret ?_
  exact VEnd.one rfl evT rfl
theorem zConcatS0_ok {l : List (List ByteArray)} (hl : l.length < 100000) (h0 : l.flatten.length = 0) : VF Tryz.prog OA 168 [.v y235 l] (.v (.sl .str) l.flatten) := by
  refine VF.enter Tryz.func168 rfl (fun _ _ => rfl) rfl ?_
  show VC _ _ _ _ _ [(0, .v y235 l)] [] _
  refine VC.seq (VC.text ?_)
  refine VO.c (.assign rfl) ?_
  refine VO.go (VC.seq (VC.text ?_))
  refine VO.c (.assign rfl) ?_
  refine VO.go (VC.seq (VC.seq (VC.text ?_)))
  refine VO.c (.move rfl) ?_
  refine VO.r (.len el235) ?_
  refine VO.c (.move rfl) ?_
  refine VO.go (VC.block ?_)
  refine VC.keep [(0, .v y235 l), (3, I (((l.take 0).flatten.length : Nat) : Int)), (9, .v y235 l), (10, I ((l.length : Nat) : Int)), (11, I ((0 : Nat) : Int))] ⟨rfl, slI rfl (by rfl), rfl, rfl, rfl, trivial⟩ ?_
  refine VC.loop (I := fun kk ff ss => ∃ (j : Nat), kk = l.length - j ∧ ff = [(0, .v y235 l), (3, I (((l.take j).flatten.length : Nat) : Int)), (9, .v y235 l), (10, I ((l.length : Nat) : Int)), (11, I ((j : Nat) : Int))] ∧ ss = [] ∧ (j ≤ l.length)) ?_ _ _ _ ⟨0, rfl, rfl, rfl, Nat.zero_le _⟩
  rintro kk ff ss ⟨j, hk0, rfl, rfl, hj⟩
  refine VC.seq (VC.text ?_)
  refine VO.c (.lss) ?_
  refine VO.go (VC.seq ?_)
  refine VC.condD rfl (fun c3 => ?_) (fun c3 => ?_)
  · refine VC.skip (VC.seq (VC.block (VC.seq (VC.text ?_))))
    refine VO.c (.ix (j := j) rfl rfl el235 (by omega)) ?_
    refine VO.r (.ld vt27) ?_
    refine VO.c (.assign rfl) ?_
    refine VO.go (VC.seq (VC.text ?_))
    have hs := flat_le (l := l) (j + 1)
    rw [flat_succ (by omega), List.length_append] at hs
    refine VO.c (.move rfl) ?_
    refine VO.c (.move rfl) ?_
    refine VO.r (.len el27) ?_
    refine VO.c (.add rfl rfl (by omega)) ?_
    refine VO.c (.assign rfl) ?_
    refine VO.go (VC.seq (VC.text ?_))
    refine VO.c (.move rfl) ?_
    refine VO.c (.lss) ?_
    refine VO.go ?_
    refine VC.condD rfl (fun c6 => ?_) (fun c6 => ?_)
    · exact absurd c6 (by omega)
    refine VC.skip (VC.text ?_)
    refine VO.c (.add rfl rfl (by omega)) ?_
    refine VO.c (.move rfl) ?_
    refine VO.nil ?_
    refine ⟨_, [(0, .v y235 l), (3, I (((l.take (j + 1)).flatten.length : Nat) : Int)), (9, .v y235 l), (10, I ((l.length : Nat) : Int)), (11, I (((j + 1) : Nat) : Int))], ?_, ⟨rfl, slI rfl (by rw [flat_succ (by omega), List.length_append] <;> rfl), rfl, rfl, rfl, trivial⟩, (j + 1), rfl, rfl, rfl, (by omega)⟩
    omega
  refine VC.exit (VC.seq (VC.text ?_))
  have hjl : l.take j = l := List.take_of_length_le (by omega)
  refine VO.c (.move rfl) ?_
  refine VO.call rfl rfl (VF.call (zGrowS0_ok (by rw [hjl]; exact h0))) ?_
  refine VO.c (.assign rfl) ?_
  refine VO.go (VC.seq (VC.seq (VC.text ?_)))
  refine VO.c (.move rfl) ?_
  refine VO.r (.len el235) ?_
  refine VO.c (.move rfl) ?_
  refine VO.go (VC.block ?_)
  refine VC.cell0 9 .str ?_
  refine VC.keep [(6, .raw (.slice none 0 0)), (25, .v y235 l), (26, I ((l.length : Nat) : Int)), (27, I ((0 : Nat) : Int))] ⟨rfl, rfl, rfl, rfl, trivial⟩ ?_
  refine VC.loop (I := fun kk ff ss => ∃ (i : Nat) (out : Value), kk = l.length - i ∧ ff = [(6, .raw out), (25, .v y235 l), (26, I ((l.length : Nat) : Int)), (27, I ((i : Nat) : Int))] ∧ ss = [(out, .row 9 .str ((l.take i).flatten))] ∧ (i ≤ l.length)) ?_ _ _ _ ⟨0, (.slice none 0 0), rfl, rfl, rfl, Nat.zero_le _⟩
  rintro kk ff ss ⟨i, out, hk2, rfl, rfl, hi⟩
  refine VC.seq (VC.text ?_)
  refine VO.c (.lss) ?_
  refine VO.go (VC.seq ?_)
  refine VC.condD rfl (fun c11 => ?_) (fun c11 => ?_)
  · refine VC.skip (VC.seq (VC.block (VC.seq (VC.text ?_))))
    refine VO.c (.ix (j := i) rfl rfl el235 (by omega)) ?_
    refine VO.r (.ld vt27) ?_
    refine VO.c (.assign rfl) ?_
    refine VO.go (VC.text ?_)
    have hs := flat_le (l := l) (i + 1)
    rw [flat_succ (by omega), List.length_append] at hs
    refine VO.c (.move rfl) ?_
    refine VO.c (.move rfl) ?_
    refine VO.app rfl rfl el27 el27 (by omega) ?_
    intro ww6
    refine VO.c (.assign rfl) ?_
    refine VO.nil (VC.text ?_)
    refine VO.c (.add rfl rfl (by omega)) ?_
    refine VO.c (.move rfl) ?_
    refine VO.nil ?_
    refine ⟨_, [(6, .raw ww6), (25, .v y235 l), (26, I ((l.length : Nat) : Int)), (27, I (((i + 1) : Nat) : Int))], ?_, ⟨rfl, rfl, rfl, rfl, trivial⟩, (i + 1), ww6, rfl, rfl, (by rw [flat_succ (by omega)] <;> rfl), (by omega)⟩
    omega
  refine VC.exit (VC.seq (VC.text ?_))
  refine VO.c (.move rfl) ?_
  refine VO.c (.assign rfl) ?_
  refine VO.go ?_
  refine VC.ret ?_
  exact VEnd.one rfl (evC (.row m0)) (pvE (by rw [List.take_of_length_le (by omega)]))
theorem zConcatS_ok {l : List (List ByteArray)} (hl : l.length < 100000) (h1 : l.flatten.length ≤ 1000000) : VF Tryz.prog OA 168 [.v y235 l] (.v (.sl .str) l.flatten) := by
  by_cases h : l.flatten.length = 0
  · exact zConcatS0_ok hl h
  exact zConcatS1_ok hl (Nat.pos_of_ne_zero h) h1
theorem zIndexFE_ok {F : Evid → Bool} {l : List (ByteArray × (List (ByteArray × Int)))} {f : PV} (hl : l.length < 1000000) (hf : ∀ x ∈ l, VCall Tryz.prog OA f [.v y155 x] (B (F x))) : VF Tryz.prog OA 133 [.v y69 l, f] (I (idxG F l 0)) := by
  refine VF.enter Tryz.func133 rfl (fun _ _ => rfl) rfl ?_
  show VC _ _ _ _ _ [(0, .v y69 l), (1, f)] [] _
  refine VC.seq (VC.text ?_)
  refine VO.c (.assign rfl) ?_
  refine VO.go (VC.seq (VC.seq (VC.text ?_)))
  refine VO.c (.move rfl) ?_
  refine VO.r (.len el69) ?_
  refine VO.c (.move rfl) ?_
  refine VO.go (VC.block ?_)
  refine VC.keep [(0, .v y69 l), (1, f), (7, I ((l.length : Nat) : Int)), (8, I ((0 : Nat) : Int))] ⟨rfl, rfl, rfl, rfl, trivial⟩ ?_
  refine VC.loop (I := fun kk ff ss => ∃ (j : Nat), kk = l.length - j ∧ ff = [(0, .v y69 l), (1, f), (7, I ((l.length : Nat) : Int)), (8, I ((j : Nat) : Int))] ∧ ss = [] ∧ (j ≤ l.length) ∧ (idxG F l 0 = idxG F (l.drop j) (j : Nat))) ?_ _ _ _ ⟨0, rfl, rfl, rfl, Nat.zero_le _, (by rfl)⟩
  rintro kk ff ss ⟨j, hk0, rfl, rfl, hj, hi⟩
  refine VC.seq (VC.text ?_)
  refine VO.c (.lss) ?_
  refine VO.go (VC.seq ?_)
  refine VC.condD rfl (fun c2 => ?_) (fun c2 => ?_)
  · refine VC.skip (VC.seq (VC.block (VC.seq (VC.text ?_))))
    refine VO.c (.move rfl) ?_
    refine VO.c (.assign rfl) ?_
    refine VO.go (VC.seq (VC.text ?_))
    refine VO.c (.move rfl) ?_
    refine VO.c (.move rfl) ?_
    refine VO.c (.move rfl) ?_
    refine VO.c (.ix (j := j) rfl rfl el69 (by omega)) ?_
    refine VO.r (.ld vt155) ?_
    refine VO.call rfl rfl ((hf _ (List.getElem_mem _)) ) ?_
    refine VO.go ?_
    refine VC.condB rfl (fun c4 => ?_) (fun c4 => ?_)
    · refine VC.seq (VC.text ?_)
      refine VO.c (.move rfl) ?_
      refine VO.c (.assign rfl) ?_
      refine VO.go ?_
      refine VC.ret ?_
      exact VEnd.one rfl evT (pvI (by rw [hi, idxG_drop (by omega), if_pos c4]))
    refine VC.skip (VC.text ?_)
    refine VO.c (.add rfl rfl (by omega)) ?_
    refine VO.c (.move rfl) ?_
    refine VO.nil ?_
    refine ⟨_, [(0, .v y69 l), (1, f), (7, I ((l.length : Nat) : Int)), (8, I (((j + 1) : Nat) : Int))], ?_, ⟨rfl, rfl, rfl, rfl, trivial⟩, (j + 1), rfl, rfl, rfl, (by omega), (by rw [hi, idxG_drop (by omega), if_neg (by rw [c4]; decide)])⟩
    omega
  refine VC.exit (VC.seq (VC.text ?_))
  refine VO.c (.assign rfl) ?_
  refine VO.go ?_
  refine VC.ret ?_
  exact VEnd.one rfl evT (pvI (by rw [hi, idxG_end (by omega)]))
theorem sWithout1_ok {o : ByteArray} {s : ByteArray} : VF Tryz.prog OA 198 [St o, .p .str s] (B (!decide (o = s))) := by
  refine VF.enter Tryz.func198 rfl (fun _ _ => rfl) rfl ?_
  show VC _ _ _ _ _ [(0, St o), (1, .p .str s)] [] _
  refine VC.seq (VC.text ?_)
  refine VO.c (.assign rfl) ?_
  refine VO.go (VC.seq (VC.text ?_))
  refine VO.c (.move rfl) ?_
  refine VO.r (.ld vt9) ?_
  refine VO.c (.sneq) ?_
  refine VO.c (.assign rfl) ?_
  refine VO.go ?_
  refine VC.ret ?_
  exact VEnd.one rfl evT (pvE (by first | rfl | simp))
def lackW (l : List ByteArray) (s : ByteArray) : List ByteArray := l.filter fun o => !decide (o = s)
theorem sWithout_ok {l : List ByteArray} {s : ByteArray} (hl : l.length < 100000) : VF Tryz.prog OA 170 [.v (.sl .str) l, St s] (.v (.sl .str) (lackW l s)) := by
  refine VF.enter Tryz.func170 rfl (fun _ _ => rfl) rfl ?_
  show VC _ _ _ _ _ [(0, .v (.sl .str) l), (1, St s)] [] _
  refine VC.seq (VC.text ?_)
  refine VO.new (.box) ?_
  refine VO.c (.assign rfl) ?_
  refine VO.go (VC.seq (VC.text ?_))
  refine VO.c (.move rfl) ?_
  refine VO.c (.func) ?_
  refine VO.call rfl rfl (VF.call (sKeptS_ok (F := fun o => !decide (o = s)) hl (fun _ _ => VF.clo sWithout1_ok))) ?_
  refine VO.c (.assign rfl) ?_
  refine VO.go ?_
  refine VC.ret ?_
  exact VEnd.one rfl evT (pvE (by rfl))
theorem lackW_len {l : List ByteArray} {s : ByteArray} : (lackW l s).length ≤ l.length := List.length_filter_le _ _
def needB (c : Cse) (s : ByteArray) (l : List ByteArray) (w : ByteArray) : Bool := !inM (byM c (lackW l w)) s
theorem sNeeds1_ok {w : ByteArray} {c : (List (ByteArray × Int)) × (List (ByteArray × (List (ByteArray × Int)))) × (List (ByteArray × Bool × (List ByteArray)))} {l : List ByteArray} {s : ByteArray} (hc : CseOk c) (hl : l.length < 100000) : VF Tryz.prog OA 169 [St w, .p y72 c, .p (.sl .str) l, .p .str s] (B (needB c s l w)) := by
  refine VF.enter Tryz.func169 rfl (fun _ _ => rfl) rfl ?_
  show VC _ _ _ _ _ [(0, St w), (1, .p y72 c), (2, .p (.sl .str) l), (3, .p .str s)] [] _
  refine VC.seq (VC.text ?_)
  have hlw := lackW_len (l := l) (s := w)
  refine VO.c (.assign rfl) ?_
  refine VO.go (VC.seq (VC.drawn ?_))
  refine VD.r [] (.ld vt72) (.inl rfl) ?_
  refine VD.r [] (.ld vt27) (.inl rfl) ?_
  refine VD.c (.move rfl) ?_
  refine VD.call rfl rfl (VF.call (sWithout_ok (by first | assumption | omega | simp))) ?_
  refine VD.callO rfl rfl (VF.call (sBy_ok (by first | assumption | omega | simp) (by first | assumption | omega | simp))) ?_
  refine VD.r [] (.ld vt9) (.inl rfl) ?_
  refine VD.nw [10, 9] ?_
  refine VD.ro (.look mt158) ?_
  refine VD.c (.not) ?_
  refine VD.c (.assign rfl) ?_
  refine VD.go ?_
  refine VC.ret ?_
  exact VEnd.one rfl evT (pvE (by rfl))
theorem sNeeds_ok {c : (List (ByteArray × Int)) × (List (ByteArray × (List (ByteArray × Int)))) × (List (ByteArray × Bool × (List ByteArray)))} {s : ByteArray} {l : List ByteArray} (hc : CseOk c) (hl : l.length < 100000) : VF Tryz.prog OA 130 [.v y72 c, St s, .v (.sl .str) l] (.v (.sl .str) (l.filter (needB c s l))) := by
  refine VF.enter Tryz.func130 rfl (fun _ _ => rfl) rfl ?_
  show VC _ _ _ _ _ [(0, .v y72 c), (1, St s), (2, .v (.sl .str) l)] [] _
  refine VC.seq (VC.text ?_)
  refine VO.new (.box) ?_
  refine VO.new (.box) ?_
  refine VO.new (.box) ?_
  refine VO.c (.assign rfl) ?_
  refine VO.go (VC.seq (VC.text ?_))
  refine VO.r (.ld vt27) ?_
  refine VO.c (.func) ?_
  refine VO.call rfl rfl (VF.call (sKeptS_ok (F := needB c s l) hl (fun _ _ => VF.clo (sNeeds1_ok hc hl)))) ?_
  refine VO.c (.assign rfl) ?_
  refine VO.go ?_
  refine VC.ret ?_
  exact VEnd.one rfl evT (pvE (by rfl))
def dropI (l : List ByteArray) (i : Nat) : List ByteArray := l.take i ++ l.drop (i + 1)
def leanS (c : Cse) (s : ByteArray) (o out : List ByteArray) (i : Nat) : List ByteArray := if inM (byM c (dropI out i ++ o)) s = true then dropI out i else out
def leanF (c : Cse) (s : ByteArray) (o : List ByteArray) : Nat → List ByteArray → List ByteArray
  | 0, out => out
  | i + 1, out => leanF c s o i (leanS c s o out i)
theorem dropI_len {l : List ByteArray} {i : Nat} (h : i < l.length) : (dropI l i).length = l.length - 1 := by
  unfold dropI
  rw [List.length_append, List.length_take, List.length_drop]
  omega
theorem leanS_len {c : Cse} {s : ByteArray} {o l : List ByteArray} {i : Nat} (h : i < l.length) : i ≤ (leanS c s o l i).length ∧ (leanS c s o l i).length ≤ l.length := by
  unfold leanS
  split
  · rw [dropI_len h]; omega
  omega
theorem leanF_step {c : Cse} {s : ByteArray} {o l : List ByteArray} {j : Nat} (h : 0 < j) : leanF c s o j l = leanF c s o (j - 1) (leanS c s o l (j - 1)) := by
  cases j with
  | zero => omega
  | succ i => rfl
theorem sLean_ok {c : (List (ByteArray × Int)) × (List (ByteArray × (List (ByteArray × Int)))) × (List (ByteArray × Bool × (List ByteArray)))} {s : ByteArray} {l : List ByteArray} {o : List ByteArray} (hc : CseOk c) (hl : l.length < 50000) (ho : o.length < 50000) : VF Tryz.prog OA 128 [.v y72 c, St s, .v (.sl .str) l, .v (.sl .str) o] (.v (.sl .str) (leanF c s o l.length l)) := by
  refine VF.enter Tryz.func128 rfl (fun _ _ => rfl) rfl ?_
  show VC _ _ _ _ _ [(0, .v y72 c), (1, St s), (2, .v (.sl .str) l), (3, .v (.sl .str) o)] [] _
  refine VC.seq (VC.text ?_)
  refine VO.new (.box) ?_
  refine VO.c (.assign rfl) ?_
  refine VO.go (VC.seq (VC.text ?_))
  refine VO.c (.move rfl) ?_
  refine VO.call rfl rfl (VF.call (zCloneS_ok (by first | assumption | omega | simp))) ?_
  refine VO.c (.assign rfl) ?_
  refine VO.go (VC.seq (VC.seq (VC.text ?_)))
  refine VO.c (.move rfl) ?_
  refine VO.r (.len el27) ?_
  refine VO.c (.sub rfl rfl (by omega)) ?_
  refine VO.c (.assign rfl) ?_
  refine VO.go (VC.block ?_)
  refine VC.keep [(1, St s), (3, .v (.sl .str) o), (4, .p y72 c), (9, .v (.sl .str) l), (10, I (((l.length : Nat) : Int) - 1))] ⟨rfl, rfl, rfl, rfl, rfl, trivial⟩ ?_
  refine VC.loop (I := fun kk ff ss => ∃ (j : Nat) (out : List ByteArray), kk = j ∧ ff = [(1, St s), (3, .v (.sl .str) o), (4, .p y72 c), (9, .v (.sl .str) out), (10, I (((j : Nat) : Int) - 1))] ∧ ss = [] ∧ (j ≤ out.length) ∧ (out.length ≤ l.length) ∧ (leanF c s o l.length l = leanF c s o j out)) ?_ _ _ _ ⟨l.length, l, rfl, rfl, rfl, (by omega), (by omega), (by rfl)⟩
  rintro kk ff ss ⟨j, out, hk0, rfl, rfl, hj, hk, hf⟩
  refine VC.seq (VC.seq (VC.text ?_))
  refine VO.c (.move rfl) ?_
  refine VO.c (.geq) ?_
  refine VO.go ?_
  refine VC.condD rfl (fun c3 => ?_) (fun c3 => ?_)
  · have e0 : [(out.take ((((j : Nat) : Int) - 1)).toNat), (out.drop (((((j : Nat) : Int) - 1) + (1 : Int))).toNat)].flatten = dropI out (j - 1) := by
      rw [show (((j : Nat) : Int) - 1).toNat = j - 1 by omega, show ((((j : Nat) : Int) - 1) + 1).toNat = j - 1 + 1 by omega]
      simp [dropI]
    have e1 : [dropI out (j - 1), o].flatten = dropI out (j - 1) ++ o := by simp
    have e2 : (dropI out (j - 1)).length < 50000 := by rw [dropI_len (by omega)]; omega
    have e3 : (dropI out (j - 1) ++ o).length < 100000 := by rw [List.length_append]; omega
    refine VC.skip (VC.seq (VC.block (VC.seq (VC.drawn ?_))))
    refine VD.c (.move rfl) ?_
    refine VD.c (.move rfl) ?_
    refine VD.r [] (.cutH rfl rfl el27 (by omega)) (.inl rfl) ?_
    refine VD.c (.move rfl) ?_
    refine VD.c (.move rfl) ?_
    refine VD.c (.add rfl rfl (by omega)) ?_
    refine VD.nw [] ?_
    refine VD.r [] (.cutL rfl rfl el27 (by omega)) (.inl rfl) ?_
    refine VD.new (.lit [(out.take ((((j : Nat) : Int) - 1)).toNat), (out.drop (((((j : Nat) : Int) - 1) + (1 : Int))).toNat)] el235) ?_
    refine VD.callO rfl rfl (VF.call (zConcatS_ok (by simp) (by rw [e0]; omega))) ?_
    rw [e0]
    refine VD.c (.assign rfl) ?_
    refine VD.go (VC.seq ?_)
    refine VC.drawnU ?_
    refine VDu.r [] (.ld vt72) (.inl rfl) ?_
    refine VDu.c (.move rfl) ?_
    refine VDu.c (.move rfl) ?_
    refine VDu.newcall (.lit [dropI out (j - 1), o] el235) rfl rfl (VF.call (zConcatS_ok (by simp) (by rw [e1]; omega))) ?_
    rw [e1]
    refine VD.callO rfl rfl (VF.call (sBy_ok e3 hc)) ?_
    refine VD.nw [35, 34, 33] ?_
    refine VD.c (.move rfl) ?_
    refine VD.ro (.look mt158) ?_
    refine VD.go ?_
    refine VC.condB rfl (fun c6 => ?_) (fun c6 => ?_)
    · refine VC.text ?_
      refine VO.c (.move rfl) ?_
      refine VO.c (.assign rfl) ?_
      refine VO.nil (VC.text ?_)
      refine VO.c (.move rfl) ?_
      refine VO.c (.sub rfl rfl (by omega)) ?_
      refine VO.c (.assign rfl) ?_
      refine VO.nil ?_
      refine ⟨_, [(1, St s), (3, .v (.sl .str) o), (4, .p y72 c), (9, .v (.sl .str) (leanS c s o out (j - 1))), (10, I ((((j - 1) : Nat) : Int) - 1))], ?_, ⟨rfl, rfl, rfl, slE rfl (by first | exact (if_pos c6).symm | exact (if_neg (fun h => Bool.noConfusion (c6.symm.trans h))).symm), slI rfl (by omega), trivial⟩, (j - 1), (leanS c s o out (j - 1)), rfl, rfl, rfl, (by exact (leanS_len (by omega)).1), (by have := (leanS_len (c := c) (s := s) (o := o) (l := out) (i := j - 1) (by omega)).2; omega), (by rw [hf, leanF_step (by omega)])⟩
      omega
    refine VC.skip (VC.text ?_)
    refine VO.c (.move rfl) ?_
    refine VO.c (.sub rfl rfl (by omega)) ?_
    refine VO.c (.assign rfl) ?_
    refine VO.nil ?_
    refine ⟨_, [(1, St s), (3, .v (.sl .str) o), (4, .p y72 c), (9, .v (.sl .str) (leanS c s o out (j - 1))), (10, I ((((j - 1) : Nat) : Int) - 1))], ?_, ⟨rfl, rfl, rfl, slE rfl (by first | exact (if_pos c6).symm | exact (if_neg (fun h => Bool.noConfusion (c6.symm.trans h))).symm), slI rfl (by omega), trivial⟩, (j - 1), (leanS c s o out (j - 1)), rfl, rfl, rfl, (by exact (leanS_len (by omega)).1), (by have := (leanS_len (c := c) (s := s) (o := o) (l := out) (i := j - 1) (by omega)).2; omega), (by rw [hf, leanF_step (by omega)])⟩
    omega
  refine VC.exit (VC.seq (VC.text ?_))
  refine VO.c (.move rfl) ?_
  refine VO.c (.assign rfl) ?_
  refine VO.go ?_
  refine VC.ret ?_
  exact VEnd.one rfl evT (pvE (by rw [hf, show j = 0 by omega] <;> rfl))
end Go.Proofs
namespace Go.Fs
variable {P : Program} {orc : FuncId → List Value → Heap → Option (Value × Heap)} {rnd : Option Nat} {h h' h0 h1 h2 : Heap} {S S' S0 B G : List Nat} {σ σ' σr : Sto} {t t' : Tr} {ms : List Nat} {fl : VL} {ops : Array Oper} {n i mem : Nat} {l : List Oper} {K : VL → Sto → Prop} {Q : Ex → VL → Sto → Prop}
  {d : Tmp} {ty : TypeId} {pos : String} {after : Array Edge} {op : Op} {v pv : PV} {g : Option (Nat × Bool)} {x y z : Operand} {T T' e : TypeId} {τ τ' : Ty} {bs nw : List Nat} {segs : List (Nat × Nat × Nat)} {tail so : Bool} {w w' : Value} {c c' : Cell}

end Go.Fs
namespace Go.Fs
variable {P : Program} {orc : FuncId → List Value → Heap → Option (Value × Heap)} {rnd : Option Nat} {h h' h0 h1 h2 : Heap} {S S' S0 G : List Nat} {σ σ' σr γ γ' : Sto} {t t' : Tr} {ms : List Nat} {fl nw : VL} {ops : Array Oper} {n i mem : Nat} {l : List Oper} {K : VL → Sto → Prop} {Q : Ex → VL → Sto → Prop}
  {d : Tmp} {ty : TypeId} {pos : String} {after : Array Edge} {op : Op} {v pv : PV} {g : Option (Nat × Bool)} {bs nw0 : List Nat} {tail so : Bool} {x y z : Operand} {T T' e : TypeId} {τ τ' : Ty} {w w' : Value}
theorem old_list {hs : Heap} {fl : VL} (h5 : ∀ k pv, lkV fl k = some pv → nwHas nw0 k = false → RepPV hs S pv (t.get k)) : ∀ (l : List Operand) (asl : List PV), evVs fl l = some asl → l.all (oldX nw0) = true → RepL hs S asl (l.map (evalO t)) := by
  intro l
  induction l with
  | nil => intro asl hx _; obtain rfl := Option.some.inj hx; rfl
  | cons x r ih =>
    intro asl hx hl
    rw [List.all_cons] at hl
    obtain ⟨l1, l2⟩ := band hl
    simp only [evVs] at hx
    split at hx
    · rename_i v vs0 hv hvs
      obtain rfl := Option.some.inj hx
      exact ⟨_, _, rfl, old_sees h5 hv l1, ih vs0 hvs l2⟩
    cases hx
theorem VD.callGU {b : Nat} {f : Operand} {args : Array Operand} {ats : Array TypeId} {F : PV} {asl : List PV} {Qr : PV → Sto → Prop} (hf : evV fl f = some F) (ha : evVs fl args.toList = some asl) (hc : VCallG P orc F asl [] Qr) (hk : ∀ r γ', Qr r γ' → VD P orc ops n l (i + 1) ((d, r) :: fl) (nwSet false d nw0) (γ' ++ σ) false (bs ++ [b]) (mem ||| 2 ^ i) false K)
    (hb : beforeOf bs ⟨some d, .call { callee := .value f, args := args, argTypes := ats }, ty, pos, after, g⟩ = b := by rfl) (hold : (oldX nw0 f && args.toList.all (oldX nw0)) = true := by rfl) (hw : wantV ops fl g = some true := by rfl) (hn : (Nat.blt d n && Nat.ble n 4000) = true := by rfl) :
    VD P orc ops n (⟨some d, .call { callee := .value f, args := args, argTypes := ats }, ty, pos, after, g⟩ :: l) i fl nw0 σ so bs mem false K := fun h0 G S0 t h ms segs I ho => by
  obtain ⟨n1, n2⟩ := fits hn
  obtain ⟨o1, o2⟩ := band hold
  obtain ⟨M, m1, m2, m3, m4, m5, m6, m7⟩ := seen_ok (mem := mem) I hb ho
  obtain ⟨hs, a1, a2, a3, a4, a5, a6, a7⟩ := m7 rfl
  have hN : Goes hs (own σ ++ S0) M (own σ ++ S0) := a3.nx a1
  obtain ⟨fid, a, c, rfl, hv⟩ := hc
  obtain ⟨va, vc, h1, h2, h3⟩ := ((old_sees a6 hf o1).nx hN : RepPV M _ (.clo fid a c) (evalO t f))
  have hargs := (h2.append ((old_list a6 _ _ ha o2).nx hN)).append h3
  refine EvD.call (o := ⟨some d, .call { callee := .value f, args := args, argTypes := ats }, ty, pos, after, g⟩) (want_ok I.slots hw) rfl rfl h1 rfl ?_
  rw [m1]
  refine (hv M (own σ ++ S0) _ m2 (fun b hb => by rw [m3]; exact Lc.lt I.lc b hb) (fun c hc => by cases hc) List.nodup_nil (fun b hb => by cases hb) hargs).mono fun u h' hq => ?_
  obtain ⟨r, γ', q1, q2, q3⟩ := hq
  have hA : After M h' := q2.aft.after
  have hl : h.next ≤ h'.low := hA.low h.next (by omega) (by omega)
  have hlow : Nat.ble h.next h'.low = true := by rw [Nat.ble_eq]; exact hl
  have hnx : h.next ≤ h'.next := by have := hA.next; omega
  refine ⟨blt_of_le hnx, by simp only [hlow, Bool.true_or], _, put_fits n1 t u, ?_⟩
  have hd : drewOn ⟨some d, .call { callee := .value f, args := args, argTypes := ats }, ty, pos, after, g⟩ i ⟨t, h, bs, segs, mem, false⟩ (t.set depth d u) h' =
      ⟨t.set depth d u, { next := h'.next, low := h.low, objs := newer h.next h'.next h'.objs ++ h.objs }, bs ++ [b], (i, h.next, h'.next) :: segs, mem ||| 2 ^ i, false⟩ := by
    unfold drewOn
    simp only [hlow, cond_true, hb]
  rw [hd]
  obtain ⟨e1, e2⟩ := newer_left (h' := h') I.ok m5 m3 hA m2
  have hm : Made (own σ ++ S0) h { next := h'.next, low := h.low, objs := newer h.next h'.next h'.objs ++ h.objs } [] γ' := {
    aft := ⟨e1.next, fun b hb _ => e1.get b hb, e1.ok, fun e h3 h4 _ => e1.low e h3 h4, fun b hb => .inl (e1.get b hb), Nat.le_refl _⟩
    new := fun b hb => by
      rcases q2.new b hb with h5 | h5
      · exact .inl h5
      exact .inr (by omega)
    apart := q2.apart
    cells := fun c hc => (q2.cells c hc).keep (fun b hb => by
      obtain ⟨o, hg, _⟩ := (q2.cells c hc).isObj b hb
      exact ((e2 []) b _ hg (by simp)).1.trans hg.symm) (e2 _) fun b hb => List.mem_append_left _ (List.mem_flatMap.2 ⟨c, hc, hb⟩) }
  have hm2 := Made.app (γ := []) I.lc hm
  have q3' : RepPV { next := h'.next, low := h.low, objs := newer h.next h'.next h'.objs ++ h.objs } (own (γ' ++ σ) ++ S0) r u := by
    rw [own_app, List.append_assoc]; exact q3.nx (e2 _)
  refine hk r γ' q1 h0 G S0 _ _ ms _ ((I.made hm2).set q3' n2) fun ht => ?_
  obtain ⟨hs', a1, a2, a3, a4, a5, a6⟩ := (ho rfl).set (v := r) (u := u) (old := false) n2 fun e => by cases e
  refine ⟨hs', a1, a2.trans e1, SegsOk.cons a2.next a3, a4, fun k pv hk hn => (a5 k pv hk hn).nx (h := hs') fun b ob hg hb => ⟨hg, ?_⟩, fun e => by cases e⟩
  have h3 := a1 b ob hg
  have h4 := a2.next
  intro hmm
  rcases List.mem_append.1 hmm with hmm | hmm
  · rcases hm2.new b hmm with h5 | h5
    · exact hb (List.mem_append_left _ h5)
    omega
  exact hb (List.mem_append_right _ hmm)
end Go.Fs
namespace Go.Proofs
open Go.Fs
set_option linter.unusedVariables false
set_option maxHeartbeats 2000000

theorem zCloneV_ok {l : List (ByteArray × Int)} (hl : l.length < 100000) : VFG Tryz.prog OA 161 [.v y68 l] [] (fun r g => ∃ w, r = .raw w ∧ g = [(w, .row 153 y153 l)]) := by
  refine VFG.enter Tryz.func161 rfl (fun _ _ => rfl) rfl ?_
  show VC _ _ _ _ _ [(0, .v y68 l)] [] _
  refine VC.seq (VC.text ?_)
  refine VO.c (.assign rfl) ?_
  refine VO.go (VC.seq (VC.seq (VC.text ?_)))
  refine VO.c (.move rfl) ?_
  refine VO.isnil (e := 153) rfl rfl (by kernel_rfl) (by kernel_rfl) (fun h1_1 => ?_) ?_
  · refine VO.go ?_
    refine VC.condT rfl ?_
    refine VC.seq (VC.text ?_)
    refine VO.c (.assign rfl) ?_
    refine VO.go ?_
    refine VC.cell0 153 y153 ?_
    refine VC.ret ?_
    simp only [thenV]
    exact VEndG.row rfl evT ⟨(.slice none 0 0), rfl, (by rw [h1_1])⟩
  refine VO.go ?_
  refine VC.condF rfl ?_
  refine VC.skip (VC.seq (VC.text ?_))
  refine VO.cell (.lit0 el68) ?_
  intro ww1
  refine VO.c (.move rfl) ?_
  refine VO.app rfl rfl el68 el68 (by simp; omega) ?_
  intro ww2
  refine VO.c (.assign rfl) ?_
  refine VO.go ?_
  refine VC.ret ?_
  exact VEndG.row rfl evT ⟨ww2, rfl, (by rfl)⟩
end Go.Proofs
namespace Go.Fs
variable {P : Program} {orc : FuncId → List Value → Heap → Option (Value × Heap)} {rnd : Option Nat} {h h' h0 h1 h2 : Heap} {S S' S0 G : List Nat} {σ σ' σr γ γ' : Sto} {t t' : Tr} {ms : List Nat} {fl nw : VL} {ops : Array Oper} {n i mem : Nat} {l : List Oper} {K : VL → Sto → Prop} {Q : Ex → VL → Sto → Prop}
  {d : Tmp} {ty : TypeId} {pos : String} {after : Array Edge} {op : Op} {v pv : PV} {g : Option (Nat × Bool)} {bs nw0 : List Nat} {tail so : Bool} {x y z : Operand} {T T' e : TypeId} {τ τ' : Ty} {w w' : Value}

theorem hnd_raw {f : Option (Nat × Nat)} {h : Heap} {S : List Nat} {u : Value} (hu : RepPV h S (.v .hnd f) u) : RepPV h S (.raw (hndV f)) u := RepV.hnd hu
theorem raw_hnd {f : Option (Nat × Nat)} {h : Heap} {S : List Nat} {u : Value} (hu : RepPV h S (.raw (hndV f)) u) : RepPV h S (.v .hnd f) u := by
  obtain rfl : u = hndV f := hu
  exact RepV.ofHnd f
theorem VO.tell {k : Nat} {p p' : PV} (hpp : ∀ {h : Heap} {S : List Nat} {u : Value}, RepPV h S p u → RepPV h S p' u) (hx : VO P orc ops n l ((k, p') :: fl) σ K) (hk : lkV fl k = some p := by rfl) : VO P orc ops n l fl σ K := fun h0 G S0 t h ms I => hx h0 G S0 t h ms { I with slots := I.slots.cons (hpp (I.slots k p hk)) }
theorem VD.tell {k : Nat} {p p' : PV} (hpp : ∀ {h : Heap} {S : List Nat} {u : Value}, RepPV h S p u → RepPV h S p' u) (hx : VD P orc ops n l i ((k, p') :: fl) nw0 σ so bs mem tail K) (hk : lkV fl k = some p := by rfl) : VD P orc ops n l i fl nw0 σ so bs mem tail K := fun h0 G S0 t h ms segs I ho =>
  hx h0 G S0 t h ms segs { I with slots := I.slots.cons (hpp (I.slots k p hk)) } fun ht => by
    obtain ⟨hs, a1, a2, a3, a4, a5, a6⟩ := ho ht
    refine ⟨hs, a1, a2, a3, a4, fun j q hj hn => ?_, a6⟩
    simp only [lkV] at hj
    cases hb : Nat.beq k j with
    | true =>
      rw [hb] at hj
      simp only [cond_true, Option.some.injEq] at hj
      subst hj
      have := nbeq hb
      subst this
      exact hpp (a5 k p hk hn)
    | false =>
      rw [hb] at hj
      exact a5 j q hj hn
theorem row_hnd {w : Value} {xs : List τ.den} (hc : CellR h S w (.row e τ xs)) : ∃ f, w = hndV f := by
  rcases hc with ⟨h1, _⟩ | ⟨b, rs, m, h1, _⟩
  · exact ⟨none, h1⟩
  exact ⟨some (b, xs.length), h1⟩
theorem VO.hnd {w : Value} {xs : List τ.den} (hm : (w, Cell.row e τ xs) ∈ σ) (hk : ∀ f, w = hndV f → VO P orc ops n l fl σ K) : VO P orc ops n l fl σ K := fun h0 G S0 t h ms I => by
  obtain ⟨f, hf⟩ := row_hnd (I.cells _ hm)
  exact hk f hf h0 G S0 t h ms I
theorem VD.hnd {w : Value} {xs : List τ.den} (hm : (w, Cell.row e τ xs) ∈ σ) (hk : ∀ f, w = hndV f → VD P orc ops n l i fl nw0 σ so bs mem tail K) : VD P orc ops n l i fl nw0 σ so bs mem tail K := fun h0 G S0 t h ms segs I => by
  obtain ⟨f, hf⟩ := row_hnd (I.cells _ hm)
  exact hk f hf h0 G S0 t h ms segs I

def fam (e : TypeId) (τ : Ty) : List (Option (Nat × Nat)) → List (List τ.den) → Sto
  | f :: fs, w :: ws => (hndV f, .row e τ w) :: fam e τ fs ws
  | _, _ => []
theorem fam_at {e : TypeId} {τ : Ty} : ∀ {fs : List (Option (Nat × Nat))} {ws : List (List τ.den)} {i : Nat} (h1 : i < fs.length) (h2 : i < ws.length), fam e τ fs ws = fam e τ (fs.take i) (ws.take i) ++ (hndV fs[i], .row e τ ws[i]) :: fam e τ (fs.drop (i + 1)) (ws.drop (i + 1))
  | f :: fs, w :: ws, 0, _, _ => rfl
  | f :: fs, w :: ws, i + 1, h1, h2 => by
    show (hndV f, _) :: fam e τ fs ws = (hndV f, _) :: (fam e τ (fs.take i) (ws.take i) ++ _)
    rw [fam_at (fs := fs) (ws := ws) (i := i) (by simpa using h1) (by simpa using h2)]
    rfl
theorem fam_app {e : TypeId} {τ : Ty} : ∀ {fs : List (Option (Nat × Nat))} {ws : List (List τ.den)} {f : Option (Nat × Nat)} {w : List τ.den}, fs.length = ws.length → fam e τ (fs ++ [f]) (ws ++ [w]) = fam e τ fs ws ++ [(hndV f, .row e τ w)]
  | [], [], _, _, _ => rfl
  | [], _ :: _, _, _, h => by cases h
  | _ :: _, [], _, _, h => by cases h
  | f :: fs, w :: ws, _, _, h => by
    show (hndV f, _) :: fam e τ (fs ++ _) (ws ++ _) = (hndV f, _) :: (fam e τ fs ws ++ _)
    rw [fam_app (by simpa using h)]
theorem fam_mem {e : TypeId} {τ : Ty} {fs : List (Option (Nat × Nat))} {ws : List (List τ.den)} {i : Nat} (h1 : i < fs.length) (h2 : i < ws.length) : (hndV fs[i], Cell.row e τ ws[i]) ∈ fam e τ fs ws := by
  rw [fam_at h1 h2]
  exact List.mem_append_right _ List.mem_cons_self
theorem deep_co {a : Ty} {e1 e2 : TypeId} {v1 : Value} {ns : List a.den} {fs : List (Option (Nat × Nat))} {ws : List (List τ.den)} (hm : (v1, Cell.row e1 (.pair a .hnd) (ns.zip fs)) ∈ σ) (hf : ∀ c ∈ fam e2 τ fs ws, c ∈ σ) (hl : fs.length = ws.length) (hn : ns.length = ws.length) : Co σ (.raw v1) (.v (.sl (.pair a (.sl τ))) (ns.zip ws)) := .sem fun h S0 u hc hs hu => by
  obtain rfl := hu
  have hlen : (ns.zip fs).length = (ns.zip ws).length := by rw [List.length_zip, List.length_zip, hl]
  rcases hc _ hm with ⟨h1, h2⟩ | ⟨b, rs, m, h1, h2, h3, h4⟩
  · have h1 : u = _ := h1
    have h2 : ns.zip fs = [] := h2
    have : ns.zip ws = [] := List.length_eq_zero_iff.1 (by rw [← hlen, h2]; rfl)
    rw [h1, this]; exact SlV.nil.rep
  have h1 : u = .slice (some ⟨b, 0, none⟩) (ns.zip fs).length 0 := h1
  have hb : b ∉ S0 := hs b (List.mem_flatMap.2 ⟨_, hm, by rw [h1]; simp [blk]⟩)
  have hN : Goes h (own σ ++ S0) h S0 := Goes.less fun c hc => List.mem_append_right _ hc
  have he : Elems h S0 (.pair a (.sl τ)) rs (ns.zip ws) := ⟨by rw [← hlen]; exact h4.1, fun i hi => by
    have hi2 : i < (ns.zip fs).length := by omega
    obtain ⟨e3, e4⟩ := h4.2 i hi2
    have hi' := hi
    rw [List.length_zip] at hi'
    have q1 : (ns.zip ws)[i] = (ns[i]'(by omega), ws[i]'(by omega)) := by simp
    have q2 : (ns.zip fs)[i] = (ns[i]'(by omega), fs[i]'(by omega)) := by simp
    rw [q2] at e3 e4
    rw [q1]
    refine ⟨e3.nx hN, ?_⟩
    have e4 : _ = [hndV (fs[i]'(by omega))] := e4
    have hsh := shut_row (hc _ (hf _ (fam_mem (e := e2) (τ := τ) (fs := fs) (ws := ws) (i := i) (by omega) (by omega)))) fun b hb => hs b (List.mem_flatMap.2 ⟨_, hf _ (fam_mem (e := e2) (τ := τ) (fs := fs) (ws := ws) (i := i) (by omega) (by omega)), hb⟩)
    exact ⟨_, e4, hsh⟩⟩
  rw [h1, hlen]
  exact (he.slv h3 hb).rep

theorem ReadV.ldAll {cs : List PV} (hm : (w, Cell.var cs) ∈ σ) (hT : ValT P T τ) (hl : cs.length = τ.size := by rfl) (ha : τ.agg = true := by rfl) (hx : evV fl x = some (.raw w) := by rfl) : ReadV P fl σ (.load T x) (.agg cs) :=
  ⟨rfl, fun h S t hs hcc => by
    have h1 : evalO t x = w := hs x (by simp [Op.operands]) _ hx
    obtain ⟨b, e, vs, h3, h4, h5, h6, _⟩ := hcc _ hm
    refine ⟨.agg vs.toArray, ⟨vs, rfl, h6⟩, fun H hH _ _ _ _ _ => ?_⟩
    have hB : BoxR H 0 w vs := ⟨b, e, h3, Nat.zero_le _, hH b _ h5⟩
    show (fsLoad P T (evalO t x) H).map _ = _
    rw [h1, hB.ldA hT ha (by rw [h6.len, hl])]; rfl⟩
end Go.Fs
namespace Go.Fs
variable {P : Program} {orc : FuncId → List Value → Heap → Option (Value × Heap)} {h h' h0 h1 h2 : Heap} {S S' S0 G : List Nat} {σ σ' γ γ' : Sto} {t t' : Tr} {ms : List Nat} {fl : VL} {τ : Ty}
def VEndC (a : Nat) (k : Nat) (Q : PV → Sto → Prop) : Ex → VL → Sto → Prop := fun e fl σ => e.goes = true ∧ ∃ p cs σ', lkV fl a = some (.raw p) ∧ σ = (p, .var cs) :: σ' ∧ cs.length = k ∧ Q (.agg cs) σ' ∧ ∀ (h : Heap) (S : List Nat) (u : Value), RepPV h S (.agg cs) u → (∀ c ∈ σ', CellR h S c.1 c.2) → af u = true → own σ' = [] ∧ ∀ (h' : Heap) (S' : List Nat), ∀ c ∈ σ', CellR h' S' c.1 c.2
theorem VFG.enterV {f : FuncId} {args : List PV} {fn : Func} {c : Code} {Q : PV → Sto → Prop} {a : Nat} {ty : TypeId} (hfn : P.funcs[f]? = some fn) (hc : fn.body = some c) (ho : ∀ us h, orc f us h = none) (hn : (Nat.blt 4000 fn.ntmps || Nat.blt fn.ntmps args.length) = false) (hres : fn.results = #[.cell a ty]) (hT : ValT P ty τ) (hag : τ.agg = true)
    (hb : VC P orc none c fn.ntmps (argVL 0 args) [] (VEndC a τ.size Q)) : VFG P orc f args [] Q := fun h S us hok hS hcells hnd hsep ha => by
  have hl := ha.len
  have hn2 : Nat.blt 4000 fn.ntmps = false ∧ Nat.blt fn.ntmps args.length = false := by simpa using hn
  have n3 := nble_no hn2.1
  have n4 := nble_no hn2.2
  have ha' : RepL (entry h) (own ([] : Sto) ++ S) args us := RepL.nx (h := h) (h' := entry h) (fun _ _ a b => ⟨a, b⟩) ha
  have I0 : Iv (entry h) (own ([] : Sto)) S (entry h) [] (fillTr .leaf 0 us) [] (argVL 0 args) := {
    ok := hok
    s0 := hS
    aft := Aft.refl _ _
    cells := fun c hc => by cases hc
    new := fun b hb => by cases hb
    apart := List.nodup_nil
    mark := fun d hd => by cases hd
    marks := List.nodup_nil
    slots := slots_args ha' (by omega) }
  refine EvF.enter hfn hc (ho us h) (by rw [hl]; exact hn) ((hb (entry h) (own ([] : Sto)) S _ (entry h) [] I0).mono fun e fr h1 hq => ?_)
  obtain ⟨_, fl', σ0, Iv1, he, p, cs, σ', hp, hσ, hcl, hQ, hany⟩ := hq
  subst hσ
  obtain ⟨h2, d1, d2, d3⟩ := drops_ok Iv1.marks fun d hd => (Iv1.mark d hd).2
  have hgd : ∀ b o, h1.get b = some o → o ≠ .defd → h2.get b = some o := fun b o hg hne => by
    rw [d3 b (fun hm => hne (by have := (Iv1.mark b hm).2; rw [hg] at this; exact Option.some.inj this))]; exact hg
  have a2 : Aft (entry h) h2 (own ([] : Sto)) := Iv1.aft.trans d2 fun i hi => .inr (Iv1.mark i hi).1
  have I2 : Iv (entry h) (own ([] : Sto)) S h1 σ' fr.t fr.marks fl' := Iv1.forget
  obtain ⟨b0, e0, vs, g1, g2, g3, g4, g5⟩ := Iv1.cells _ List.mem_cons_self
  have g1 : p = .pointer (some ⟨b0, 0, none⟩) := g1
  have hpt : fr.t.get a = p := Iv1.slots _ _ hp
  have hB : BoxR h2 0 p vs := ⟨b0, e0, g1, Nat.zero_le _, hgd _ _ g3 (by simp)⟩
  have hld := hB.ldA hT hag (by rw [g4.len, hcl])
  have hsub : ∀ b ∈ own σ' ++ S, b ∈ own ((p, Cell.var cs) :: σ') ++ S := fun b hb => by
    rcases List.mem_append.1 hb with hb | hb
    · exact List.mem_append_left _ (by rw [own_cons]; exact List.mem_append_right _ hb)
    exact List.mem_append_right _ hb
  have hrep : RepPV h2 (own σ' ++ S) (.agg cs) (.agg vs.toArray) := ⟨vs, rfl, g4.nxR fun b _ hg hne hbS => ⟨hgd b _ hg hne, fun hm => hbS (hsub b hm)⟩⟩
  have e1 : fsResults P fr.t h2 fn.results.toList = some [.agg vs.toArray] := by
    rw [hres]
    show fsResults P fr.t h2 [.cell a ty] = _
    simp only [fsResults, fsResult, hpt, hld]
  have hrow : ∀ c ∈ σ', ∀ b ∈ blk c.1, h2.get b = h1.get b := fun c hc b hb => by
    obtain ⟨o, hg, hne⟩ := (I2.cells c hc).isObj b hb
    rw [hgd b _ hg hne, hg]
  have hcell2 : ∀ c ∈ σ', CellR h2 (own σ' ++ S) c.1 c.2 := fun c hc => by
    have hx := I2.cells c hc
    have hN : GoesR h1 (own σ' ++ S) h2 (own σ' ++ S) := fun b _ hg hne hbS => ⟨hgd b _ hg hne, hbS⟩
    have hgb := hrow c hc
    obtain ⟨w, cc⟩ := c
    cases cc with
    | row e τ xs =>
      rcases hx with hx | ⟨b, rs, m, h3, h4, h5, h6⟩
      · exact .inl hx
      exact .inr ⟨b, rs, m, h3, h4, hgd b _ h5 (by simp), h6.1, fun i hi => (h6.2 i hi).nxR hN⟩
    | var cs =>
      obtain ⟨b, e, vs, h3, h4, h5, h6, h7⟩ := hx
      exact ⟨b, e, vs, h3, h4, hgd b _ h5 (by simp), h6.nxR hN, h7⟩
    | cap e k τ xs =>
      obtain ⟨b, rs, m, h3, h4, h5, h6, h7, h8⟩ := hx
      exact ⟨b, rs, m, h3, h4, hgd b _ h5 (by simp), h6, h7, h8.1, fun i hi => (h8.2 i hi).nxR hN⟩
    | mp κ ν kvs =>
      obtain ⟨b, es, c, h3, h4, h5, h6, h7⟩ := hx
      exact ⟨b, es, c, h3, h4, hgd b _ h5 (by simp), h6, fun i hi hj => ⟨⟨(h7 i hi hj).1.1, (h7 i hi hj).1.2.nxR hN⟩, ⟨(h7 i hi hj).2.1, (h7 i hi hj).2.2.nxR hN⟩⟩⟩
    | it s pos =>
      obtain ⟨b, h3, h4, h5⟩ := hx
      exact ⟨b, h3, h4, hgd b _ h5 (by simp)⟩
    | loop st jump n fl ps assign body =>
      obtain ⟨l, tmps, d, h3, h4, h5, h6⟩ := hx
      exact ⟨l, tmps, d, h3, h4, hgd l _ h5 (by simp), h6.nxR hN⟩
    | cel e n cs =>
      rcases hx with hx | ⟨b, rs, m, h3, h4, h5, h6, h7⟩
      · exact .inl hx
      exact .inr ⟨b, rs, m, h3, h4, hgd b _ h5 (by simp), h6.nxR hN, h7⟩
  have hnew2 : ∀ b ∈ own σ', b ∈ own ([] : Sto) ∨ h.next ≤ b := fun b hb => (I2.new b hb).1
  refine ⟨he, h2, [.agg vs.toArray], d1, e1, ?_⟩
  show _
  unfold leftOf
  cases haf : (af (tupled [.agg vs.toArray]) && Nat.ble h.next h2.low) with
  | true =>
    obtain ⟨af1', hlow⟩ := band haf
    obtain ⟨z1, z2⟩ := hany h2 (own σ' ++ S) _ hrep hcell2 af1'
    refine ⟨_, σ', hQ, ⟨Aft.refl _ _, fun b hb => ?_, ?_, fun c hc => z2 _ _ c hc⟩, hrep.anyAf af1'⟩
    · rw [z1] at hb; cases hb
    rw [z1]; exact List.nodup_nil
  | false =>
    refine ⟨_, σ', hQ, ⟨⟨a2.next, a2.get, fun x => a2.ok x, fun e h3 h4 h5 => Nat.le_min.2 ⟨h3, a2.low e (Nat.le_trans h4 (Nat.le_refl _)) h4 h5⟩, fun b hb => ?_, Nat.min_le_left _ _⟩, hnew2, I2.apart, fun c hc => (hcell2 c hc).keep (fun _ _ => rfl) (fun _ _ a b => ⟨a, b⟩) fun b hb => List.mem_append_left _ (List.mem_flatMap.2 ⟨c, hc, hb⟩)⟩, RepPV.nx (h := h2) (h' := { next := h2.next, low := min h.low h2.low, objs := h2.objs }) (fun _ _ a b => ⟨a, b⟩) hrep⟩
    rcases a2.chg b hb with h3 | h3
    · exact .inl h3
    exact .inr (Nat.le_trans (Nat.min_le_right _ _) h3)
end Go.Fs
namespace Go.Proofs
open Go.Fs
set_option linter.unusedVariables false
set_option maxHeartbeats 2000000
abbrev y155h : Ty := .pair .str .hnd
theorem el69h : ElT Tryz.prog 69 155 y155h := elT_of (by kernel_rfl)
theorem zt155h : ZerT Tryz.prog 155 y155h := zerT_of (z := .agg #[.string ByteArray.empty, .slice none 0 0]) (by kernel_rfl) rfl rfl
theorem bt155h : BldT Tryz.prog 155 y155h [(0, 1), (1, 1)] := bldT_of zt155h rfl (by kernel_rfl)
theorem bt72 : BldT Tryz.prog 72 y72 [(0, 1), (1, 1), (2, 1)] := bldT_of zt72 rfl (by kernel_rfl)
def nms (c : Cse) : List ByteArray := c.2.1.map (·.1)
def wths (c : Cse) : List (List Vers) := c.2.1.map (·.2)
def DeepS (c : Cse) (f0 : Option (Nat × Nat)) (v1 v2 : Value) (fs : List (Option (Nat × Nat))) (vs : List Vers) (ws : List (List Vers)) : Sto := (hndV f0, .row 153 y153 vs) :: (v1, .row 155 y155h ((nms c).zip fs)) :: (v2, .row 156 y156 c.2.2) :: fam 153 y153 fs ws
def DeepQ (c : Cse) (r : PV) (g : Sto) : Prop := ∃ f0 v1 v2 fs, r = .agg [.v .hnd f0, .raw v1, .raw v2] ∧ fs.length = c.2.1.length ∧ g = DeepS c f0 v1 v2 fs c.1 (wths c)
theorem one_all3 {a b c : PV} (ha : a.one = true) (hb : b.one = true) (hc : c.one = true) : [a, b, c].all PV.one = true := by simp [ha, hb, hc]
theorem zip_bnd {c : Cse} {i : Nat} {fs : List (Option (Nat × Nat))} {x : ByteArray × Option (Nat × Nat)} (hf : fs.length = i) (hc : c.2.1.length < 100000) (hi : (i : Int) < (c.2.1.length : Nat)) : (((nms c).take i).zip fs).length + [x].length ≤ 1000000 := by
  rw [List.length_zip]
  simp
  omega
theorem permD {a b x c d : Value × Cell} {F : Sto} : (a :: b :: x :: c :: d :: F).Perm (b :: c :: a :: d :: (F ++ [x])) := by
  have h1 : (x :: c :: d :: F).Perm (c :: d :: (F ++ [x])) := (List.perm_append_singleton x (c :: d :: F)).symm
  exact ((h1.cons b).cons a).trans ((List.Perm.swap b a _).trans ((List.Perm.swap c a _).cons b))
theorem swapE {a b c d e : Value × Cell} {F : Sto} : (a :: b :: c :: d :: e :: F).Perm (e :: a :: d :: c :: b :: F) := by
  refine (swap4 (a := a) (b := b) (c := c) (d := d) (e := e) (r := F)).trans (List.Perm.cons e (List.Perm.cons a ?_))
  exact ((List.Perm.swap c b _)).trans (((List.Perm.swap d b _).cons c).trans (List.Perm.swap d c _))
theorem copied_step {c : Cse} {i : Nat} {fs : List (Option (Nat × Nat))} {f f4 : Option (Nat × Nat)} {w8 : Value} {p5 p3 : Value × Cell} (hf : fs.length = i) (hi : i < c.2.1.length) :
    (w8, Cell.row 155 y155h (((nms c).take i).zip fs ++ [(c.2.1[i].1, f)])) :: (hndV f4, Cell.row 153 y153 c.1) :: p5 :: p3 :: (fam 153 y153 fs ((wths c).take i) ++ [(hndV f, Cell.row 153 y153 c.2.1[i].2)]) =
    (w8, Cell.row 155 y155h (((nms c).take (i + 1)).zip (fs ++ [f]))) :: (hndV f4, Cell.row 153 y153 c.1) :: p5 :: p3 :: fam 153 y153 (fs ++ [f]) ((wths c).take (i + 1)) := by
  have e1 : (nms c).take (i + 1) = (nms c).take i ++ [c.2.1[i].1] := by
    rw [List.take_succ_eq_append_getElem (show i < (nms c).length by simpa [nms] using hi)]
    simp [nms]
  have e2 : (wths c).take (i + 1) = (wths c).take i ++ [c.2.1[i].2] := by
    rw [List.take_succ_eq_append_getElem (show i < (wths c).length by simpa [wths] using hi)]
    simp [wths]
  rw [e1, e2, List.zip_append (by simp [nms]; omega), fam_app (by simp [wths]; omega)]
  rfl
theorem copied_end {c : Cse} {fs : List (Option (Nat × Nat))} {f4 : Option (Nat × Nat)} {w1 w2 : Value} (hf : fs.length = c.2.1.length) :
    (hndV f4, Cell.row 153 y153 c.1) :: (w1, Cell.row 155 y155h (((nms c).take c.2.1.length).zip fs)) :: (w2, Cell.row 156 y156 (c.2.2.take c.2.2.length)) :: fam 153 y153 fs ((wths c).take c.2.1.length) = DeepS c f4 w1 w2 fs c.1 (wths c) := by
  rw [List.take_of_length_le (show (nms c).length ≤ c.2.1.length by simp [nms]), List.take_of_length_le (show (wths c).length ≤ c.2.1.length by simp [wths]), List.take_length]
  rfl
theorem row_af {h : Heap} {S : List Nat} {w : Value} {e : TypeId} {τ : Ty} {xs : List τ.den} (hc : CellR h S w (.row e τ xs)) (ha : af0 w = true) : w = .slice none 0 0 ∧ xs = [] := by
  rcases hc with hc | ⟨b, rs, m, h1, _⟩
  · exact hc
  have h1 : w = .slice (some ⟨b, 0, none⟩) xs.length 0 := h1
  rw [h1] at ha
  cases hx : xs.length <;> rw [hx] at ha <;> cases ha
theorem copied_af {c : Cse} {fs : List (Option (Nat × Nat))} {f4 : Option (Nat × Nat)} {w1 w2 : Value} (hf : fs.length = c.2.1.length) (h : Heap) (S : List Nat) (u : Value) (hu : RepPV h S (.agg [.v .hnd f4, .raw w1, .raw w2]) u)
    (hc : ∀ x ∈ (hndV f4, Cell.row 153 y153 c.1) :: (w1, Cell.row 155 y155h (((nms c).take c.2.1.length).zip fs)) :: (w2, Cell.row 156 y156 (c.2.2.take c.2.2.length)) :: fam 153 y153 fs ((wths c).take c.2.1.length), CellR h S x.1 x.2) (ha : af u = true) :
    own ((hndV f4, Cell.row 153 y153 c.1) :: (w1, Cell.row 155 y155h (((nms c).take c.2.1.length).zip fs)) :: (w2, Cell.row 156 y156 (c.2.2.take c.2.2.length)) :: fam 153 y153 fs ((wths c).take c.2.1.length)) = [] ∧ ∀ (h' : Heap) (S' : List Nat), ∀ x ∈ (hndV f4, Cell.row 153 y153 c.1) :: (w1, Cell.row 155 y155h (((nms c).take c.2.1.length).zip fs)) :: (w2, Cell.row 156 y156 (c.2.2.take c.2.2.length)) :: fam 153 y153 fs ((wths c).take c.2.1.length), CellR h' S' x.1 x.2 := by
  obtain ⟨vs, rfl, u1, r1, e1, g1, u2, r2, e2, g2, u3, r3, e3, g3, g4⟩ := hu
  obtain rfl := g4
  obtain rfl := e3
  obtain rfl := e2
  obtain rfl := e1
  have g1 : u1 = hndV f4 := RepV.hnd g1
  obtain rfl := g2
  obtain rfl := g3
  subst g1
  have ha : (af0 (hndV f4) && (af0 u2 && (af0 u3 && true))) = true := ha
  rw [Bool.and_eq_true, Bool.and_eq_true, Bool.and_eq_true] at ha
  obtain ⟨a1, a2, a3, _⟩ := ha
  obtain ⟨p1, p2⟩ := row_af (hc _ List.mem_cons_self) a1
  obtain ⟨q1, q2⟩ := row_af (hc _ (List.mem_cons_of_mem _ List.mem_cons_self)) a2
  obtain ⟨s1, s2⟩ := row_af (hc _ (List.mem_cons_of_mem _ (List.mem_cons_of_mem _ List.mem_cons_self))) a3
  have p1 : hndV f4 = .slice none 0 0 := p1
  have q1 : u2 = .slice none 0 0 := q1
  have s1 : u3 = .slice none 0 0 := s1
  have hz : c.2.1.length = 0 := by
    have := congrArg List.length q2
    rw [List.length_zip, List.length_take] at this
    simp [nms] at this
    rcases this with h1 | h1
    · rw [h1]; rfl
    rw [← hf, h1]; rfl
  have hfs : fs = [] := List.eq_nil_of_length_eq_zero (by omega)
  subst hfs
  rw [p1, show u2 = .slice none 0 0 from q1, show u3 = .slice none 0 0 from s1, p2, q2, s2]
  have hfam : fam 153 y153 [] ((wths c).take c.2.1.length) = [] := by cases (wths c).take c.2.1.length <;> rfl
  rw [hfam]
  refine ⟨rfl, fun h' S' x hx => ?_⟩
  simp only [List.mem_cons, List.not_mem_nil, or_false] at hx
  rcases hx with rfl | rfl | rfl <;> exact .inl ⟨rfl, rfl⟩
theorem sCopiedD_ok {c : Cse} (hc : CseOk c) : VFG Tryz.prog OA 119 [.v y72 c] [] (DeepQ c) := by
  refine VFG.enterV Tryz.func119 rfl (fun _ _ => rfl) rfl rfl vt72 rfl ?_
  show VC _ _ _ _ _ [(0, .v y72 c)] [] _
  refine VC.seq (VC.text ?_)
  have hcv := hc.v
  have hce := hc.e
  have hcl := hc.l
  refine VO.new (.box) ?_
  refine VO.cell (.alloc zt72) ?_
  intro ww3
  refine VO.go (VC.seq (VC.text ?_))
  refine VO.c (.fa (.l .o)) ?_
  refine VO.r (.ld vt68) ?_
  refine VO.r (.len el68) ?_
  refine VO.cell (.make (k := c.1.length) rfl rfl el68 zt153 (by omega)) ?_
  intro ww4
  refine VO.hnd m0 fun f4 hf4 => ?_
  subst hf4
  refine VO.tell (k := 11) raw_hnd ?_
  refine VO.c (.buildA (cs := [.v .hnd f4, nilV, nilV]) bt72 rfl) ?_
  refine VO.cell (.alloc zt72) ?_
  intro ww5
  refine VO.setV (cs' := [.v .hnd f4, nilV, nilV]) vt72 (.aggs rfl rfl) ?_
  refine VO.go (VC.seq (VC.text ?_))
  refine VO.c (.faO (k := 0) m0) ?_
  refine VO.r (.ldF (k := 0) m0 vt68) ?_
  refine VO.tell (k := 14) hnd_raw ?_
  refine VO.c (.fa (.l .o)) ?_
  refine VO.r (.ld vt68) ?_
  refine VO.perm swap1 ?_
  refine VO.copy rfl rfl el68 (by simp) ?_
  refine VO.go (VC.seq (VC.seq (VC.text ?_)))
  refine VO.c (.fa (.r (.l .o))) ?_
  refine VO.r (.ld vt69) ?_
  refine VO.r (.len el69) ?_
  refine VO.c (.move rfl) ?_
  refine VO.go (VC.block ?_)
  refine VC.cell0 155 y155h ?_
  refine VC.keep [(1, .p y72 c), (2, .raw ww3), (3, .raw ww5), (19, .v y69 c.2.1), (20, I ((c.2.1.length : Nat) : Int)), (21, I ((0 : Nat) : Int))] ⟨rfl, rfl, rfl, rfl, rfl, rfl, trivial⟩ ?_
  refine VC.loop (I := fun kk ff ss => ∃ (i : Nat) (w1 : Value) (fs : List (Option (Nat × Nat))), kk = c.2.1.length - i ∧ ff = [(1, .p y72 c), (2, .raw ww3), (3, .raw ww5), (19, .v y69 c.2.1), (20, I ((c.2.1.length : Nat) : Int)), (21, I ((i : Nat) : Int))] ∧ ss = ((w1, .row 155 y155h (((nms c).take i).zip fs)) :: (hndV f4, .row 153 y153 c.1) :: (ww5, .var [.v .hnd f4, .raw w1, nilV]) :: (ww3, .var [.v y68 [], .v y69 [], .v y70 []]) :: fam 153 y153 fs ((wths c).take i)) ∧ (i ≤ c.2.1.length) ∧ fs.length = i) ?_ _ _ _ ⟨0, (.slice none 0 0), [], rfl, rfl, rfl, Nat.zero_le _, rfl⟩
  rintro kk ff ss ⟨i, w1, fs, hk0, rfl, rfl, hi, hfs⟩
  refine VC.seq (VC.text ?_)
  refine VO.c (.lss) ?_
  refine VO.go (VC.seq ?_)
  refine VC.condD rfl (fun c4 => ?_) (fun c4 => ?_)
  · refine VC.skip (VC.seq (VC.block (VC.seq (VC.text ?_))))
    refine VO.c (.ix (j := i) rfl rfl el69 (by omega)) ?_
    refine VO.r (.ld vt155) ?_
    refine VO.cell (.alloc zt155) ?_
    intro ww6
    refine VO.setV (cs' := [St ((c.2.1[i]).1), .v y68 ((c.2.1[i]).2)]) vt155 .v ?_
    refine VO.shut [(5, .p y155 (c.2.1[i]))] (.cons rfl (.var m0 .refl) .nil) ?_
    refine VO.go (VC.drawn ?_)
    refine VD.co (.faO (k := 1) m2) ?_
    refine VD.r ((w1, .row 155 y155h (((nms c).take i).zip fs)) :: (hndV f4, .row 153 y153 c.1) :: (ww5, .var [.v .hnd f4, .raw w1, nilV]) :: (ww3, .var [.v y68 [], .v y69 [], .v y70 []]) :: fam 153 y153 fs ((wths c).take i)) (.ldF (k := 1) m2 vt69) (.inr ⟨rfl, rfl⟩) ?_
    refine VD.c (.fa (.l .o)) ?_
    refine VD.r [] (.ld vt9) (.inl rfl) ?_
    refine VD.c (.fa (.r .o)) ?_
    refine VD.r [] (.ld vt68) (.inl rfl) ?_
    refine VD.nw [] ?_
    refine VD.callGU rfl rfl (VFG.call (zCloneV_ok (hc.w _ (List.getElem_mem _)))) ?_
    rintro _ _ ⟨ww7, rfl, rfl⟩
    show VD _ _ _ _ _ _ _ _ ((ww7, .row 153 y153 ((c.2.1[i]).2)) :: (w1, .row 155 y155h (((nms c).take i).zip fs)) :: (hndV f4, .row 153 y153 c.1) :: (ww5, .var [.v .hnd f4, .raw w1, nilV]) :: (ww3, .var [.v y68 [], .v y69 [], .v y70 []]) :: fam 153 y153 fs ((wths c).take i)) _ _ _ _ _
    refine VD.hnd m0 fun f hf => ?_
    subst hf
    refine VD.tell (k := 31) raw_hnd ?_
    refine VD.c (.build ((c.2.1[i]).1, f) bt155h) ?_
    refine VD.new (.lit [((c.2.1[i]).1, f)] el69h) ?_
    refine VD.perm swap1 ?_
    refine VD.mk (MakeV.app el69h el69h rfl rfl (zip_bnd hfs hce c4)) ?_
    rintro _ _ tl8 ⟨ww8, rfl, rfl⟩
    refine VD.co (.faO (k := 1) m3) ?_
    refine VD.perm swap3 ?_
    refine VD.one m1 fun ho9 => ?_
    refine VD.mk0 (MakeV.setF (k := 1) vt69 (.raw rfl (agg_one ho9) ho9) (Nat.le_of_ble_eq_true rfl) (.inl rfl) rfl rfl) ?_
    rintro _ _ tl10 ⟨rfl, rfl⟩
    refine VD.nil ?_
    refine VC.text ?_
    refine VO.c (.add rfl rfl (by omega)) ?_
    refine VO.c (.move rfl) ?_
    refine VO.perm permD ?_
    refine VO.nil ?_
    refine ⟨_, [(1, .p y72 c), (2, .raw ww3), (3, .raw ww5), (19, .v y69 c.2.1), (20, I ((c.2.1.length : Nat) : Int)), (21, I (((i + 1) : Nat) : Int))], ?_, ⟨rfl, rfl, rfl, rfl, rfl, rfl, trivial⟩, (i + 1), ww8, (fs ++ [f]), rfl, rfl, (copied_step hfs (by omega)), (by omega), (by rw [List.length_append, hfs]; rfl)⟩
    omega
  refine VC.exit (VC.seq (VC.seq (VC.text ?_)))
  refine VO.c (.fa (.r (.r .o))) ?_
  refine VO.r (.ld vt70) ?_
  refine VO.r (.len el70) ?_
  refine VO.c (.move rfl) ?_
  refine VO.go (VC.block ?_)
  refine VC.cell0 156 y156 ?_
  refine VC.keep [(2, .raw ww3), (3, .raw ww5), (38, .v y70 c.2.2), (39, I ((c.2.2.length : Nat) : Int)), (40, I ((0 : Nat) : Int))] ⟨rfl, rfl, rfl, rfl, rfl, trivial⟩ ?_
  refine VC.loop (I := fun kk ff ss => ∃ (j : Nat) (w2 : Value), kk = c.2.2.length - j ∧ ff = [(2, .raw ww3), (3, .raw ww5), (38, .v y70 c.2.2), (39, I ((c.2.2.length : Nat) : Int)), (40, I ((j : Nat) : Int))] ∧ ss = ((w2, .row 156 y156 (c.2.2.take j)) :: (w1, .row 155 y155h (((nms c).take i).zip fs)) :: (hndV f4, .row 153 y153 c.1) :: (ww5, .var [.v .hnd f4, .raw w1, .raw w2]) :: (ww3, .var [.v y68 [], .v y69 [], .v y70 []]) :: fam 153 y153 fs ((wths c).take i)) ∧ (j ≤ c.2.2.length)) ?_ _ _ _ ⟨0, (.slice none 0 0), rfl, rfl, rfl, Nat.zero_le _⟩
  rintro kk ff ss ⟨j, w2, hk2, rfl, rfl, hj⟩
  refine VC.seq (VC.text ?_)
  refine VO.c (.lss) ?_
  refine VO.go (VC.seq ?_)
  refine VC.condD rfl (fun c9 => ?_) (fun c9 => ?_)
  · refine VC.skip (VC.seq (VC.block (VC.seq (VC.text ?_))))
    refine VO.c (.ix (j := j) rfl rfl el70 (by omega)) ?_
    refine VO.r (.ld vt156) ?_
    refine VO.cell (.alloc zt156) ?_
    intro ww11
    refine VO.setV (cs' := [St ((c.2.2[j]).1), B ((c.2.2[j]).2.1), .v (.sl .str) ((c.2.2[j]).2.2)]) vt156 .v ?_
    refine VO.shut [(7, .p y156 (c.2.2[j]))] (.cons rfl (.var m0 .refl) .nil) ?_
    refine VO.go (VC.drawn ?_)
    refine VD.co (.faO (k := 2) m3) ?_
    refine VD.r ((w2, .row 156 y156 (c.2.2.take j)) :: (w1, .row 155 y155h (((nms c).take i).zip fs)) :: (hndV f4, .row 153 y153 c.1) :: (ww5, .var [.v .hnd f4, .raw w1, .raw w2]) :: (ww3, .var [.v y68 [], .v y69 [], .v y70 []]) :: fam 153 y153 fs ((wths c).take i)) (.ldF (k := 2) m3 vt70) (.inr ⟨rfl, rfl⟩) ?_
    refine VD.c (.fa (.l .o)) ?_
    refine VD.r [] (.ld vt9) (.inl rfl) ?_
    refine VD.c (.fa (.r (.l .o))) ?_
    refine VD.r [] (.ld vt4) (.inl rfl) ?_
    refine VD.nw [] ?_
    refine VD.c (.fa (.r (.r .o))) ?_
    refine VD.r [] (.ld vt27) (.inl rfl) ?_
    refine VD.call rfl rfl (VF.call (zCloneS_ok (hc.u _ (List.getElem_mem _)))) ?_
    refine VD.c (.build ((c.2.2[j]).1, (c.2.2[j]).2.1, ((c.2.2[j]).2.2)) bt156) ?_
    refine VD.new (.lit [((c.2.2[j]).1, (c.2.2[j]).2.1, ((c.2.2[j]).2.2))] el70) ?_
    refine VD.mk (MakeV.app el70 el70 rfl rfl (by simp; omega)) ?_
    rintro _ _ tl12 ⟨ww12, rfl, rfl⟩
    refine VD.co (.faO (k := 2) m3) ?_
    refine VD.perm swap3 ?_
    refine VD.one m1 fun ho13 => ?_
    refine VD.mk0 (MakeV.setF (k := 2) vt70 (.raw rfl (agg_one ho13) ho13) (Nat.le_of_ble_eq_true rfl) (.inl rfl) rfl rfl) ?_
    rintro _ _ tl14 ⟨rfl, rfl⟩
    refine VD.nil ?_
    refine VC.text ?_
    refine VO.c (.add rfl rfl (by omega)) ?_
    refine VO.c (.move rfl) ?_
    refine VO.perm swap4 ?_
    refine VO.perm swap1 ?_
    refine VO.perm swap4 ?_
    refine VO.perm swap4 ?_
    refine VO.perm swap4 ?_
    refine VO.nil ?_
    refine ⟨_, [(2, .raw ww3), (3, .raw ww5), (38, .v y70 c.2.2), (39, I ((c.2.2.length : Nat) : Int)), (40, I (((j + 1) : Nat) : Int))], ?_, ⟨rfl, rfl, rfl, rfl, rfl, trivial⟩, (j + 1), ww12, rfl, rfl, (by rw [List.take_succ_eq_append_getElem (by omega)] <;> rfl), (by omega)⟩
    omega
  refine VC.exit (VC.seq (VC.text ?_))
  refine VO.r (.ldAll m3 vt72) ?_
  refine VO.one m0 fun ho2 => ?_
  refine VO.one m1 fun ho1 => ?_
  refine VO.perm swap4 ?_
  refine VO.setV (cs' := [.v .hnd f4, .raw w1, .raw w2]) vt72 (.aggs rfl (one_all3 (a := .v .hnd f4) (b := .raw w1) (c := .raw w2) rfl ho1 ho2)) ?_
  refine VO.go ?_
  refine VC.perm swapE ?_
  refine VC.forget ?_
  refine VC.ret ?_
  obtain rfl : i = c.2.1.length := by omega
  obtain rfl : j = c.2.2.length := by omega
  exact ⟨rfl, ww3, _, _, rfl, rfl, rfl, ⟨f4, w1, w2, fs, rfl, hfs, copied_end hfs⟩, copied_af hfs⟩
end Go.Proofs
namespace Go.Fs
variable {P : Program} {orc : FuncId → List Value → Heap → Option (Value × Heap)} {h h' h0 h1 h2 : Heap} {S S' S0 G : List Nat} {σ σ' : Sto} {t t' : Tr} {ms : List Nat} {fl : VL} {ops : Array Oper} {n i mem : Nat} {l : List Oper} {K : VL → Sto → Prop}
  {d : Tmp} {ty : TypeId} {pos : String} {after : Array Edge} {g : Option (Nat × Bool)} {bs nw : List Nat} {tail so : Bool} {e : TypeId} {τ : Ty}
theorem hnd_co {f : Option (Nat × Nat)} {xs : List τ.den} (hm : (hndV f, Cell.row e τ xs) ∈ σ) : Co σ (.v .hnd f) (.v (.sl τ) xs) := .sem fun h S0 u hc hs hu => by
  obtain rfl : u = hndV f := RepV.hnd hu
  exact (shut_row (hc _ hm) fun b hb => hs b (List.mem_flatMap.2 ⟨_, hm, hb⟩)).rep
theorem agg_co {a b : Ty} {cs : List PV} {x : (Ty.pair a b).den} (hc : CoL σ cs (cellsPV (.pair a b) x)) : Co σ (.agg cs) (.v (.pair a b) x) := .sem fun h S0 u hcc hs hu => by
  obtain ⟨vs, rfl, hr⟩ := hu
  exact RepV.ofCells (repC_cells (CoL.ok hcc hs hc hr))
theorem VD.callCU {b : Nat} {f : Operand} {args : Array Operand} {ats : Array TypeId} {F F' r : PV} {asl as' : List PV} (hf : evV fl f = some F) (ha : evVs fl args.toList = some asl) (cF : Co σ F F') (ca : CoL σ asl as') (hr : r.flat = true) (hc : VCall P orc F' as' r)
    (hk : VD P orc ops n l (i + 1) ((d, r) :: fl) (nwSet true d nw) σ true (bs ++ [b]) (mem ||| 2 ^ i) false K)
    (hb : beforeOf bs ⟨some d, .call { callee := .value f, args := args, argTypes := ats }, ty, pos, after, g⟩ = b := by rfl) (hold : (oldX nw f && args.toList.all (oldX nw)) = true := by rfl) (hw : wantV ops fl g = some true := by rfl) (hn : (Nat.blt d n && Nat.ble n 4000) = true := by rfl) :
    VD P orc ops n (⟨some d, .call { callee := .value f, args := args, argTypes := ats }, ty, pos, after, g⟩ :: l) i fl nw σ true bs mem false K := fun h0 G S0 t h ms segs I ho => by
  obtain ⟨n1, n2⟩ := fits hn
  obtain ⟨o1, o2⟩ := band hold
  obtain ⟨M, m1, m2, m3, m4, m5, m6, m7⟩ := seen_ok (mem := mem) I hb ho
  obtain ⟨hs, a1, a2, a3, a4, a5, a6, a7⟩ := m7 rfl
  have hN : Goes hs (own σ ++ S0) M (own σ ++ S0) := a3.nx a1
  have hcs : ∀ c ∈ σ, CellR M (own σ ++ S0) c.1 c.2 := fun c hc => ((a7 rfl) c hc).keep (fun b hb => by
    obtain ⟨o, hg, _⟩ := ((a7 rfl) c hc).isObj b hb
    rw [a3.get b (a1 b o hg)]) hN fun b hb => List.mem_append_left _ (List.mem_flatMap.2 ⟨c, hc, hb⟩)
  have hS : ∀ b ∈ S0, b < M.next := fun b hb => by rw [m3]; exact (I.lc).s0 b hb
  obtain ⟨fid, a, c, h1, h2⟩ := hc.ev m2 hS (cF.ok hcs I.lc.sep ((old_sees a6 hf o1).nx hN)) (ca.ok hcs I.lc.sep ((old_list a6 _ _ ha o2).nx hN))
  refine EvD.call (o := ⟨some d, .call { callee := .value f, args := args, argTypes := ats }, ty, pos, after, g⟩) (want_ok I.slots hw) rfl rfl h1 rfl ?_
  rw [m1]
  refine h2.mono fun u h' hq => ?_
  obtain ⟨q1, q2, q3⟩ := hq
  obtain rfl := q3 hr
  have hlow : Nat.ble h.next h'.low = true := by rw [m4]; exact ble_refl' _
  refine ⟨by rw [m3]; exact blt_refl' _, by simp only [hlow, Bool.true_or], _, put_fits n1 t u, ?_⟩
  have hd : drewOn ⟨some d, .call { callee := .value f, args := args, argTypes := ats }, ty, pos, after, g⟩ i ⟨t, h, bs, segs, mem, false⟩ (t.set depth d u) h' = ⟨t.set depth d u, h, bs ++ [b], (i, h.next, h.next) :: segs, mem ||| 2 ^ i, false⟩ := by
    unfold drewOn
    simp only [hlow, cond_true, hb, m3, newer_same, List.nil_append]
  rw [hd]
  exact hk h0 G S0 _ _ ms _ (I.set ((q2.flat hr).2 _ _) n2) fun ht => Old.seg ((ho ht).set n2 fun _ _ _ _ _ _ _ => (q2.flat hr).2 _ _) (Nat.le_refl _)
end Go.Fs
namespace Go.Proofs
open Go.Fs
set_option linter.unusedVariables false
set_option maxHeartbeats 2000000
def chgE (c : Cse) (s : ByteArray) (n : Int) : Int := firstE [caseE c, whenE (decide (thingE c.1 s < 0)) 10, rangeE n 0 999]
def setN (l : List Vers) (i : Nat) (n : Int) : List Vers := l.set i ((l.getD i (ByteArray.empty, 0)).1, n)
def chgC (c : Cse) (s : ByteArray) (n : Int) : Cse := (setN c.1 (thingE c.1 s).toNat n, c.2)
theorem fst3 {a b d : Int} (h : firstE [a, b, d] = 0) : a = 0 ∧ b = 0 ∧ d = 0 := by
  simp only [firstE] at h
  split at h
  · rename_i h1
    split at h
    · rename_i h2
      split at h
      · exact ⟨h1, h2, by assumption⟩
      exact absurd h ‹_›
    exact absurd h ‹_›
  exact absurd h ‹_›
theorem when_no {b : Bool} {e : Int} (he : e ≠ 0) (h : whenE b e = 0) : b = false := by
  cases b with
  | true => exact absurd h he
  | false => rfl
theorem m4x {a b c d e : Value × Cell} {r : Sto} : e ∈ a :: b :: c :: d :: e :: r := List.mem_cons_of_mem _ m3
theorem fam_deep {c : Cse} {f0 : Option (Nat × Nat)} {v1 v2 : Value} {fs : List (Option (Nat × Nat))} {vs : List Vers} {ws : List (List Vers)} {σ : Sto} (hs : ∀ x ∈ DeepS c f0 v1 v2 fs vs ws, x ∈ σ) : ∀ x ∈ fam 153 y153 fs ws, x ∈ σ := fun x hx => hs x (List.mem_cons_of_mem _ (List.mem_cons_of_mem _ (List.mem_cons_of_mem _ hx)))
theorem deepAll {c : Cse} {f0 : Option (Nat × Nat)} {v1 v2 : Value} {fs : List (Option (Nat × Nat))} {vs : List Vers} {ws : List (List Vers)} {σ : Sto} (hs : ∀ x ∈ DeepS c f0 v1 v2 fs vs ws, x ∈ σ) (hf : fs.length = c.2.1.length) (hw : ws.length = c.2.1.length) : CoL σ [.v .hnd f0, .raw v1, .raw v2] (cellsPV y72 ((vs, (nms c).zip ws, c.2.2) : Cse)) :=
  .cons (hnd_co (hs _ m0)) (.cons (deep_co (hs _ m1) (fam_deep hs) (by omega) (by rw [hw]; simp [nms])) (.cons (.row (hs _ (List.mem_cons_of_mem _ m1))) .nil))
theorem zip_case {c : Cse} : (nms c).zip (wths c) = c.2.1 := by
  unfold nms wths
  rw [List.zip_map', List.map_id'']
  intro x; rfl
theorem wths_len {c : Cse} : (wths c).length = c.2.1.length := by simp [wths]
theorem sChange_ok {c : Cse} {s : ByteArray} {n : Int} (hc : CseOk c) : VF Tryz.prog OA 48 [.v y72 c, St s, I n] (.tup [.v y72 (if chgE c s n = 0 then chgC c s n else ([], [], [])), I (chgE c s n)]) := by
  refine VF.enter Tryz.func48 rfl (fun _ _ => rfl) rfl ?_
  show VC _ _ _ _ _ [(0, .v y72 c), (1, St s), (2, I n)] [] _
  refine VC.seq (VC.text ?_)
  have hcv := hc.v
  refine VO.new (.box) ?_
  refine VO.cell (.alloc zt72) ?_
  intro ww1
  refine VO.c (.assign rfl) ?_
  refine VO.go (VC.seq (VC.seq (VC.drawn ?_)))
  refine VD.r [] (.ld vt72) (.inl rfl) ?_
  refine VD.call rfl rfl (VF.call (sCase_ok hc)) ?_
  refine VD.r [] (.ld vt72) (.inl rfl) ?_
  refine VD.c (.move rfl) ?_
  refine VD.call rfl rfl (VF.call (sThing_ok (by omega))) ?_
  refine VD.c (.lss) ?_
  refine VD.nw [] ?_
  refine VD.call rfl rfl (VF.call (sWhen_ok )) ?_
  refine VD.c (.move rfl) ?_
  refine VD.call rfl rfl (VF.call (sNumber_ok )) ?_
  refine VD.new (.lit [caseE c, whenE (decide (thingE c.1 s < (0 : Int))) (10 : Int), rangeE n 0 999] el204) ?_
  refine VD.callO rfl rfl (VF.call (sFirst_ok (by simp))) ?_
  refine VD.c (.assign rfl) ?_
  refine VD.go (VC.seq (VC.text ?_))
  refine VO.c (.move rfl) ?_
  refine VO.c (.neq) ?_
  refine VO.go ?_
  refine VC.condD rfl (fun c2 => ?_) (fun c2 => ?_)
  · refine VC.seq (VC.text ?_)
    refine VO.c (.build ([], [], []) bt72) ?_
    refine VO.c (.move rfl) ?_
    refine VO.setV (cs' := [.v y68 [], .v y69 [], .v y70 []]) vt72 .v ?_
    refine VO.c (.assign rfl) ?_
    refine VO.go ?_
    refine VC.ret ?_
    exact VEnd.two rfl (.cell (x := (([], [], []) : Cse)) rfl m0 vt72 .refl) evT (pvE (if_neg c2).symm) rfl
  have e0 : chgE c s n = 0 := Classical.not_not.1 c2
  obtain ⟨-, e2, -⟩ := fst3 e0
  have e3 : 0 ≤ thingE c.1 s := by have := of_decide_eq_false (when_no (by decide) e2); omega
  obtain ⟨e4, e5⟩ := thing_get e3
  refine VC.skip (VC.seq (VC.text ?_))
  refine VO.r (.ld vt72) ?_
  refine VO.callG [] rfl rfl rfl (VFG.call (sCopiedD_ok hc)) ?_
  rintro _ _ ⟨f0, v1, v2, fs, rfl, hfs, rfl⟩
  refine VO.perm (List.perm_append_singleton _ _) ?_
  refine VO.cell (.alloc zt72) ?_
  intro ww2
  show VO _ _ _ _ _ _ ((ww2, _) :: (ww1, _) :: (hndV f0, .row 153 y153 c.1) :: (v1, .row 155 y155h ((nms c).zip fs)) :: (v2, .row 156 y156 c.2.2) :: fam 153 y153 fs (wths c)) _
  refine VO.one m3 fun ho1 => ?_
  refine VO.one m4x fun ho2 => ?_
  refine VO.setV (cs' := [.v .hnd f0, .raw v1, .raw v2]) vt72 (.aggs rfl (one_all3 (a := .v .hnd f0) (b := .raw v1) (c := .raw v2) rfl ho1 ho2)) ?_
  refine VO.perm swap2 ?_
  refine VO.go (VC.seq (VC.drawn ?_))
  refine VD.co (.faO (k := 0) m1) ?_
  refine VD.r _ (.ldF (k := 0) m1 vt68) (.inr ⟨rfl, rfl⟩) ?_
  refine VD.tell (k := 28) hnd_raw ?_
  refine VD.r _ (.ldAll m1 vt72) (.inr ⟨rfl, rfl⟩) ?_
  refine VD.c (.move rfl) ?_
  have hin : ∀ x ∈ DeepS c f0 v1 v2 fs c.1 (wths c), x ∈ (hndV f0, .row 153 y153 c.1) :: (ww2, .var [.v .hnd f0, .raw v1, .raw v2]) :: (ww1, .var [.v y68 [], .v y69 [], .v y70 []]) :: (v1, .row 155 y155h ((nms c).zip fs)) :: (v2, .row 156 y156 c.2.2) :: fam 153 y153 fs (wths c) := fun x hx => by
    rcases List.mem_cons.1 hx with rfl | hx
    · exact m0
    exact List.mem_cons_of_mem _ (List.mem_cons_of_mem _ (List.mem_cons_of_mem _ hx))
  have hag := agg_co (deepAll hin hfs wths_len)
  rw [zip_case] at hag
  refine VD.callCU rfl rfl .same (.cons hag (.cons .same .nil)) rfl (VF.call (sThing_ok (c := c) (s := s) (by omega))) ?_
  refine VD.c (.move rfl) ?_
  refine VD.co (.ixOZ (k := thingE c.1 s) rfl rfl m0 el68 (by omega) (by omega)) ?_
  refine VD.co (.faE (k := 1) m0 e4) ?_
  refine VD.mk0 (MakeV.setEF e4 vt3 (.r .o) rfl rfl) ?_
  rintro _ _ tl4 ⟨rfl, rfl⟩
  have eN : c.1.set (thingE c.1 s).toNat (c.1[(thingE c.1 s).toNat].1, n) = (chgC c s n).1 := by
    unfold chgC setN
    rw [List.getD_eq_getElem?_getD, List.getElem?_eq_getElem e4]; rfl
  rw [eN]
  refine VD.nil ?_
  refine VC.seq (VC.text ?_)
  refine VO.r (.ldAll m1 vt72) ?_
  refine VO.perm swap2 ?_
  refine VO.setV (cs' := [.v .hnd f0, .raw v1, .raw v2]) vt72 (.aggs rfl (one_all3 (a := .v .hnd f0) (b := .raw v1) (c := .raw v2) rfl ho1 ho2)) ?_
  refine VO.c (.assign rfl) ?_
  refine VO.go ?_
  refine VC.ret ?_
  have hin2 : ∀ x ∈ DeepS c f0 v1 v2 fs (chgC c s n).1 (wths c), x ∈ (ww1, .var [.v .hnd f0, .raw v1, .raw v2]) :: (hndV f0, .row 153 y153 (chgC c s n).1) :: (ww2, .var [.v .hnd f0, .raw v1, .raw v2]) :: (v1, .row 155 y155h ((nms c).zip fs)) :: (v2, .row 156 y156 c.2.2) :: fam 153 y153 fs (wths c) := fun x hx => by
    rcases List.mem_cons.1 hx with rfl | hx
    · exact m1
    exact List.mem_cons_of_mem _ (List.mem_cons_of_mem _ (List.mem_cons_of_mem _ hx))
  have hag2 := deepAll hin2 hfs wths_len
  rw [zip_case] at hag2
  exact VEnd.two rfl (.cell (x := chgC c s n) rfl m0 vt72 hag2) evT (pvE (if_pos e0).symm) (by rw [e0])
end Go.Proofs
namespace Go.Proofs
open Go.Fs
set_option linter.unusedVariables false
set_option maxHeartbeats 4000000
def rnwE (c : Cse) (s : ByteArray) : Int := if caseE c ≠ 0 then caseE c else if evidE c.2.1 s < 0 then 10 else 0
def nowV (c : Cse) (v : Vers) : Vers := vAt c.1 (thingE c.1 v.1).toNat
def rnwC (c : Cse) (s : ByteArray) : Cse := (c.1, c.2.1.set (evidE c.2.1 s).toNat ((eAt c (evidE c.2.1 s).toNat).1, (eAt c (evidE c.2.1 s).toNat).2.map (nowV c)), c.2.2)
end Go.Proofs
namespace Go.Proofs
open Go.Fs
set_option linter.unusedVariables false
set_option maxHeartbeats 1000000
theorem zt27DB : ZerT Tryz.prog 27 (.sl .str) := zerT_of (z := .slice none 0 0) (by kernel_rfl) rfl rfl
theorem case_len {c : Cse} (h : caseE c = 0) : c.2.1.length ≤ 64 := by
  have hv : versE c.1 = 0 := (case_known h).1
  unfold caseE at h
  rw [if_neg (fun h2 : versE c.1 ≠ 0 => h2 hv)] at h
  by_cases h4 : 64 < (c.2.1.length : Int)
  · rw [if_pos h4] at h; cases h
  omega
theorem two_len {c : Cse} {s : ByteArray} {x : Int} (h : ¬ firstE [twoE c s, x] ≠ 0) : c.2.1.length ≤ 64 :=
  case_len (firstE_mem0 (firstE_mem0 (Decidable.not_not.1 h) _ List.mem_cons_self) _ List.mem_cons_self)
def heldE (c : Cse) (s : ByteArray) : Int := firstE [twoE c s, whenE (!(if twoE c s = 0 then holdsE c s else false)) 35]
theorem sHeld_ok {c : (List (ByteArray × Int)) × (List (ByteArray × (List (ByteArray × Int)))) × (List (ByteArray × Bool × (List ByteArray)))} {s : ByteArray} (hc : CseOk c) : VF Tryz.prog OA 129 [.v y72 c, St s] (I (heldE c s)) := by
  refine VF.enter Tryz.func129 rfl (fun _ _ => rfl) rfl ?_
  show VC _ _ _ _ _ [(0, .v y72 c), (1, St s)] [] _
  refine VC.seq (VC.text ?_)
  refine VO.new (.box) ?_
  refine VO.c (.assign rfl) ?_
  refine VO.go (VC.seq (VC.text ?_))
  refine VO.r (.ld vt72) ?_
  refine VO.c (.move rfl) ?_
  refine VO.call rfl rfl (VF.call (sHolds_ok (by first | assumption | omega | simp))) ?_
  refine VO.c (.move rfl) ?_
  refine VO.c (.extract) ?_
  refine VO.c (.extract) ?_
  refine VO.c (.assign rfl) ?_
  refine VO.c (.assign rfl) ?_
  refine VO.go (VC.seq (VC.text ?_))
  refine VO.c (.move rfl) ?_
  refine VO.c (.move rfl) ?_
  refine VO.c (.not) ?_
  refine VO.call rfl rfl (VF.call (sWhen_ok )) ?_
  refine VO.new (.lit [twoE c s, whenE (!(if twoE c s = 0 then holdsE c s else false)) (35 : Int)] el204) ?_
  refine VO.call rfl rfl (VF.call (sFirst_ok (by first | assumption | omega | simp))) ?_
  refine VO.c (.assign rfl) ?_
  refine VO.go ?_
  refine VC.ret ?_
  exact VEnd.one rfl evT (pvI (by rfl))
def staleE (c : Cse) : List ByteArray := (c.2.1.filter fun x => !freshB c x).map (·.1)
theorem staleE_len {c : Cse} : (staleE c).length ≤ c.2.1.length := by
  unfold staleE
  rw [List.length_map]
  exact List.length_filter_le _ _
def lackE (c : Cse) (s : ByteArray) : Int := firstE [twoE c s, whenE (if twoE c s = 0 then holdsE c s else false) 7]
theorem nil4 {P : Program} {orc : FuncId → List Value → Heap → Option (Value × Heap)} {f : FuncId} {a b c r : PV} {τ : Ty} (h : VF P orc f [a, b, c, .v (.sl τ) []] r) : VF P orc f [a, b, c, nilV] r := fun hh S us hok hS hr => h hh S us hok hS (by
  obtain ⟨u1, r1, e1, h1, u2, r2, e2, h2, u3, r3, e3, h3, u4, r4, e4, h4, h5⟩ := hr
  obtain rfl := h4
  exact ⟨u1, r1, e1, h1, u2, r2, e2, h2, u3, r3, e3, h3, _, r4, e4, SlV.nil.rep, h5⟩)
theorem sLeanN_ok {c : Cse} {s : ByteArray} {l : List ByteArray} (hc : CseOk c) (hl : l.length < 50000) : VF Tryz.prog OA 128 [.v y72 c, .v .str s, .v (.sl .str) l, nilV] (.v (.sl .str) (leanF c s [] l.length l)) := nil4 (sLean_ok hc hl (by simp))
theorem sSupport_ok {c : (List (ByteArray × Int)) × (List (ByteArray × (List (ByteArray × Int)))) × (List (ByteArray × Bool × (List ByteArray)))} {s : ByteArray} (hc : CseOk c) : VF Tryz.prog OA 60 [.v y72 c, St s] (.tup [.v (.sl .str) (if heldE c s = 0 then leanF c s [] (validE c).length (validE c) else []), I (heldE c s)]) := by
  refine VF.enter Tryz.func60 rfl (fun _ _ => rfl) rfl ?_
  show VC _ _ _ _ _ [(0, .v y72 c), (1, St s)] [] _
  refine VC.seq (VC.text ?_)
  have hce := hc.e
  have hvl := validE_len (c := c)
  refine VO.new (.box) ?_
  refine VO.c (.assign rfl) ?_
  refine VO.c (.assign rfl) ?_
  refine VO.go (VC.seq (VC.seq (VC.text ?_)))
  refine VO.r (.ld vt72) ?_
  refine VO.c (.move rfl) ?_
  refine VO.call rfl rfl (VF.call (sHeld_ok (by first | assumption | omega | simp))) ?_
  refine VO.c (.assign rfl) ?_
  refine VO.go (VC.seq (VC.text ?_))
  refine VO.c (.move rfl) ?_
  refine VO.c (.neq) ?_
  refine VO.go ?_
  refine VC.condD rfl (fun c2 => ?_) (fun c2 => ?_)
  · refine VC.seq (VC.text ?_)
    refine VO.c (.move rfl) ?_
    refine VO.c (.assign rfl) ?_
    refine VO.c (.assign rfl) ?_
    refine VO.go ?_
    refine VC.ret ?_
    exact VEnd.two rfl (evC .nil) evT (pvE (by exact (if_neg c2).symm)) (pvI (by rfl))
  have h64 := two_len c2
  refine VC.skip (VC.seq (VC.drawn ?_))
  refine VD.r [] (.ld vt72) (.inl rfl) ?_
  refine VD.c (.move rfl) ?_
  refine VD.r [] (.ld vt72) (.inl rfl) ?_
  refine VD.call rfl rfl (VF.call (sValid0_ok (by first | assumption | omega | simp))) ?_
  refine VD.callO rfl rfl (VF.call (sLeanN_ok (by first | assumption | omega | simp) (by first | assumption | omega | simp))) ?_
  refine VD.c (.assign rfl) ?_
  refine VD.nw [4, 17, 16] ?_
  refine VD.c (.assign rfl) ?_
  refine VD.go ?_
  refine VC.ret ?_
  exact VEnd.two rfl evT evT (pvE (by exact (if_pos (show heldE c s = 0 from Decidable.not_not.1 c2)).symm)) (pvI (by exact (Decidable.not_not.1 c2).symm))
theorem sNeeded_ok {c : (List (ByteArray × Int)) × (List (ByteArray × (List (ByteArray × Int)))) × (List (ByteArray × Bool × (List ByteArray)))} {s : ByteArray} (hc : CseOk c) : VF Tryz.prog OA 61 [.v y72 c, St s] (.tup [.v (.sl .str) (if heldE c s = 0 then (validE c).filter (needB c s (validE c)) else []), I (heldE c s)]) := by
  refine VF.enter Tryz.func61 rfl (fun _ _ => rfl) rfl ?_
  show VC _ _ _ _ _ [(0, .v y72 c), (1, St s)] [] _
  refine VC.seq (VC.text ?_)
  have hce := hc.e
  have hvl := validE_len (c := c)
  refine VO.new (.box) ?_
  refine VO.c (.assign rfl) ?_
  refine VO.c (.assign rfl) ?_
  refine VO.go (VC.seq (VC.seq (VC.text ?_)))
  refine VO.r (.ld vt72) ?_
  refine VO.c (.move rfl) ?_
  refine VO.call rfl rfl (VF.call (sHeld_ok (by first | assumption | omega | simp))) ?_
  refine VO.c (.assign rfl) ?_
  refine VO.go (VC.seq (VC.text ?_))
  refine VO.c (.move rfl) ?_
  refine VO.c (.neq) ?_
  refine VO.go ?_
  refine VC.condD rfl (fun c2 => ?_) (fun c2 => ?_)
  · refine VC.seq (VC.text ?_)
    refine VO.c (.move rfl) ?_
    refine VO.c (.assign rfl) ?_
    refine VO.c (.assign rfl) ?_
    refine VO.go ?_
    refine VC.ret ?_
    exact VEnd.two rfl (evC .nil) evT (pvE (by exact (if_neg c2).symm)) (pvI (by rfl))
  have h64 := two_len c2
  refine VC.skip (VC.seq (VC.drawn ?_))
  refine VD.r [] (.ld vt72) (.inl rfl) ?_
  refine VD.c (.move rfl) ?_
  refine VD.r [] (.ld vt72) (.inl rfl) ?_
  refine VD.call rfl rfl (VF.call (sValid0_ok (by first | assumption | omega | simp))) ?_
  refine VD.callO rfl rfl (VF.call (sNeeds_ok (by first | assumption | omega | simp) (by first | assumption | omega | simp))) ?_
  refine VD.c (.assign rfl) ?_
  refine VD.nw [4, 17, 16] ?_
  refine VD.c (.assign rfl) ?_
  refine VD.go ?_
  refine VC.ret ?_
  exact VEnd.two rfl evT evT (pvE (by exact (if_pos (show heldE c s = 0 from Decidable.not_not.1 c2)).symm)) (pvI (by exact (Decidable.not_not.1 c2).symm))
def chkO (c : Cse) : Int → List ByteArray → Int
  | _, [] => 0
  | last, s :: r => if evidE c.2.1 s < 0 then 10 else if evidE c.2.1 s ≤ last then 11 else chkO c (evidE c.2.1 s) r
theorem chkO_drop {c : Cse} {l : List ByteArray} {j : Nat} {k : Int} (h : j < l.length) : chkO c k (l.drop j) = if evidE c.2.1 l[j] < 0 then 10 else if evidE c.2.1 l[j] ≤ k then 11 else chkO c (evidE c.2.1 l[j]) (l.drop (j + 1)) := by
  rw [List.drop_eq_getElem_cons h] <;> rfl
def badS (c : Cse) (s : ByteArray) (l : List ByteArray) : Bool := l.any (fun w => !hasB (validE c) w) || !inM (byM c l) s || decide (((l.filter (needB c s l)).length : Int) ≠ (l.length : Int))
theorem badS_1 {c : Cse} {s : ByteArray} {l : List ByteArray} (h : (l.any fun w => !hasB (validE c) w) = true) : badS c s l = true := by
  unfold badS
  rw [h] <;> rfl
theorem badS_2 {c : Cse} {s : ByteArray} {l : List ByteArray} (h : (l.any fun w => !hasB (validE c) w) = false) (h2 : inM (byM c l) s = false) : badS c s l = true := by
  unfold badS
  rw [h, h2] <;> rfl
theorem badS_3 {c : Cse} {s : ByteArray} {l : List ByteArray} (h : (l.any fun w => !hasB (validE c) w) = false) (h2 : inM (byM c l) s = true) : badS c s l = decide (((l.filter (needB c s l)).length : Int) ≠ (l.length : Int)) := by
  unfold badS
  rw [h, h2] <;> rfl
def supE (c : Cse) (s : ByteArray) (l : List ByteArray) : Int := if twoE c s ≠ 0 then twoE c s else if chkO c (-1) l ≠ 0 then chkO c (-1) l else whenE (badS c s l) 22
def stepO (c : Cse) (k : Int) (s : ByteArray) : Int := firstE [whenE (decide (evidE c.2.1 s < 0)) 10, whenE (decide (evidE c.2.1 s ≤ k)) 11]
theorem chk_step {c : Cse} {l : List ByteArray} {j : Nat} {k : Int} (h : j < l.length) : chkO c k (l.drop j) = if stepO c k l[j] ≠ 0 then stepO c k l[j] else chkO c (evidE c.2.1 l[j]) (l.drop (j + 1)) := by
  rw [chkO_drop h]
  unfold stepO
  rw [firstE_two]
  by_cases h1 : evidE c.2.1 l[j] < 0
  · rw [if_pos h1, decide_eq_true h1] <;> rfl
  rw [if_neg h1, decide_eq_false h1]
  by_cases h2 : evidE c.2.1 l[j] ≤ k
  · rw [if_pos h2, decide_eq_true h2] <;> rfl
  rw [if_neg h2, decide_eq_false h2] <;> rfl
theorem sCheckSupport1_ok {x : ByteArray × (List (ByteArray × Int))} {s : ByteArray} : VF Tryz.prog OA 134 [.v y155 x, .p .str s] (B (decide (x.1 = s))) := by
  refine VF.enter Tryz.func134 rfl (fun _ _ => rfl) rfl ?_
  show VC _ _ _ _ _ [(0, .v y155 x), (1, .p .str s)] [] _
  refine VC.seq (VC.text ?_)
  refine VO.new (.box) ?_
  refine VO.c (.assign rfl) ?_
  refine VO.go (VC.seq (VC.text ?_))
  refine VO.c (.fa (.l .o)) ?_
  refine VO.r (.ld vt9) ?_
  refine VO.r (.ld vt9) ?_
  refine VO.c (.seql) ?_
  refine VO.c (.assign rfl) ?_
  refine VO.go ?_
  refine VC.ret ?_
  exact VEnd.one rfl evT (pvE (by first | rfl | simp))
theorem sCheckSupport2_ok {s : ByteArray} {l : List ByteArray} (hl : l.length < 1000000) : VF Tryz.prog OA 135 [St s, .p (.sl .str) l] (B (!hasB l s)) := by
  refine VF.enter Tryz.func135 rfl (fun _ _ => rfl) rfl ?_
  show VC _ _ _ _ _ [(0, St s), (1, .p (.sl .str) l)] [] _
  refine VC.seq (VC.text ?_)
  refine VO.c (.assign rfl) ?_
  refine VO.go (VC.seq (VC.text ?_))
  refine VO.r (.ld vt27) ?_
  refine VO.c (.move rfl) ?_
  refine VO.call rfl rfl (VF.call (zContains_ok (by first | assumption | omega | simp))) ?_
  refine VO.c (.not) ?_
  refine VO.c (.assign rfl) ?_
  refine VO.go ?_
  refine VC.ret ?_
  exact VEnd.one rfl evT (pvE (by first | rfl | simp))
theorem sCheckSupport_ok {c : (List (ByteArray × Int)) × (List (ByteArray × (List (ByteArray × Int)))) × (List (ByteArray × Bool × (List ByteArray)))} {s : ByteArray} {l : List ByteArray} (hc : CseOk c) (hl : l.length < 100000) : VF Tryz.prog OA 65 [.v y72 c, St s, .v (.sl .str) l] (I (supE c s l)) := by
  refine VF.enter Tryz.func65 rfl (fun _ _ => rfl) rfl ?_
  show VC _ _ _ _ _ [(0, .v y72 c), (1, St s), (2, .v (.sl .str) l)] [] _
  refine VC.seq (VC.text ?_)
  have hce := hc.e
  have hvl := validE_len (c := c)
  have hnl := List.length_filter_le (needB c s l) l
  refine VO.new (.box) ?_
  refine VO.c (.assign rfl) ?_
  refine VO.go (VC.seq (VC.seq (VC.text ?_)))
  refine VO.r (.ld vt72) ?_
  refine VO.c (.move rfl) ?_
  refine VO.call rfl rfl (VF.call (sCheckClaim_ok (by first | assumption | omega | simp))) ?_
  refine VO.c (.assign rfl) ?_
  refine VO.go (VC.seq (VC.text ?_))
  refine VO.c (.move rfl) ?_
  refine VO.c (.neq) ?_
  refine VO.go ?_
  refine VC.condD rfl (fun c2 => ?_) (fun c2 => ?_)
  · refine VC.seq (VC.text ?_)
    refine VO.c (.move rfl) ?_
    refine VO.c (.assign rfl) ?_
    refine VO.go ?_
    refine VC.ret ?_
    exact VEnd.one rfl evT (pvI (by rw [supE, if_pos c2]))
  refine VC.skip (VC.seq (VC.text ?_))
  refine VO.c (.assign rfl) ?_
  refine VO.go (VC.seq (VC.seq (VC.text ?_)))
  refine VO.c (.move rfl) ?_
  refine VO.r (.len el27) ?_
  refine VO.c (.move rfl) ?_
  refine VO.go (VC.block ?_)
  refine VC.keep [(1, St s), (2, .v (.sl .str) l), (3, .p y72 c), (8, I (-1)), (21, .v (.sl .str) l), (22, I ((l.length : Nat) : Int)), (23, I ((0 : Nat) : Int))] ⟨rfl, rfl, rfl, rfl, rfl, rfl, rfl, trivial⟩ ?_
  refine VC.loop (I := fun kk ff ss => ∃ (j : Nat) (k : Int), kk = l.length - j ∧ ff = [(1, St s), (2, .v (.sl .str) l), (3, .p y72 c), (8, I k), (21, .v (.sl .str) l), (22, I ((l.length : Nat) : Int)), (23, I ((j : Nat) : Int))] ∧ ss = [] ∧ (j ≤ l.length) ∧ (chkO c (-1) l = chkO c k (l.drop j))) ?_ _ _ _ ⟨0, -1, rfl, rfl, rfl, Nat.zero_le _, (by rfl)⟩
  rintro kk ff ss ⟨j, k, hk0, rfl, rfl, hj, hf⟩
  refine VC.seq (VC.text ?_)
  refine VO.c (.lss) ?_
  refine VO.go (VC.seq ?_)
  refine VC.condD rfl (fun c6 => ?_) (fun c6 => ?_)
  · refine VC.skip (VC.seq (VC.block (VC.seq (VC.text ?_))))
    refine VO.c (.ix (j := j) rfl rfl el27 (by omega)) ?_
    refine VO.r (.ld vt9) ?_
    refine VO.cell (.alloc zt9) ?_
    intro ww1
    refine VO.setV (cs' := [St (l[j])]) vt9 .v ?_
    refine VO.shut [(10, .p .str (l[j]))] (.cons rfl (.var m0 .refl) .nil) ?_
    refine VO.go (VC.seq (VC.text ?_))
    refine VO.c (.fa (.r (.l .o))) ?_
    refine VO.r (.ld vt69) ?_
    refine VO.c (.func) ?_
    refine VO.call rfl rfl (VF.call (zIndexFE_ok (F := fun x => decide (x.1 = l[j])) (by omega) (fun _ _ => VF.clo sCheckSupport1_ok))) ?_
    refine VO.c (.assign rfl) ?_
    refine VO.go (VC.seq (VC.seq (VC.text ?_)))
    refine VO.c (.move rfl) ?_
    refine VO.c (.lss) ?_
    refine VO.call rfl rfl (VF.call (sWhen_ok )) ?_
    refine VO.c (.move rfl) ?_
    refine VO.c (.move rfl) ?_
    refine VO.c (.leq) ?_
    refine VO.call rfl rfl (VF.call (sWhen_ok )) ?_
    refine VO.new (.lit [whenE (decide (idxG (fun x => decide (x.1 = l[j])) c.2.1 0 < (0 : Int))) (10 : Int), whenE (decide (idxG (fun x => decide (x.1 = l[j])) c.2.1 0 ≤ k)) (11 : Int)] el204) ?_
    refine VO.call rfl rfl (VF.call (sFirst_ok (by first | assumption | omega | simp))) ?_
    refine VO.c (.assign rfl) ?_
    refine VO.go (VC.seq (VC.text ?_))
    refine VO.c (.move rfl) ?_
    refine VO.c (.neq) ?_
    refine VO.go ?_
    refine VC.condD rfl (fun c10 => ?_) (fun c10 => ?_)
    · refine VC.seq (VC.text ?_)
      refine VO.c (.move rfl) ?_
      refine VO.c (.assign rfl) ?_
      refine VO.go ?_
      refine VC.ret ?_
      exact VEnd.one rfl evT (pvI (by rw [supE, if_neg c2, hf, chk_step (by omega), if_pos (show stepO c k l[j] ≠ 0 from c10), if_pos (show stepO c k l[j] ≠ 0 from c10)] <;> rfl))
    refine VC.skip (VC.text ?_)
    refine VO.c (.move rfl) ?_
    refine VO.c (.assign rfl) ?_
    refine VO.nil (VC.text ?_)
    refine VO.c (.add rfl rfl (by omega)) ?_
    refine VO.c (.move rfl) ?_
    refine VO.nil ?_
    refine ⟨_, [(1, St s), (2, .v (.sl .str) l), (3, .p y72 c), (8, I (evidE c.2.1 l[j])), (21, .v (.sl .str) l), (22, I ((l.length : Nat) : Int)), (23, I (((j + 1) : Nat) : Int))], ?_, ⟨rfl, rfl, rfl, slI rfl (by first | rfl | simp | omega), rfl, rfl, rfl, trivial⟩, (j + 1), (evidE c.2.1 l[j]), rfl, rfl, rfl, (by omega), (by rw [hf, chk_step (by omega), if_neg (show ¬ stepO c k l[j] ≠ 0 from c10)])⟩
    omega
  refine VC.exit (VC.seq (VC.text ?_))
  refine VO.r (.ld vt72) ?_
  refine VO.call rfl rfl (VF.call (sValid0_ok (by first | assumption | omega | simp))) ?_
  refine VO.cell (.alloc zt27DB) ?_
  intro ww2
  refine VO.setV (cs' := [.v (.sl .str) (validE c)]) vt27 .v ?_
  refine VO.shut [(13, .p (.sl .str) (validE c))] (.cons rfl (.var m0 .refl) .nil) ?_
  refine VO.go (VC.seq (VC.text ?_))
  refine VO.c (.func) ?_
  refine VO.c (.assign rfl) ?_
  refine VO.go (VC.seq (VC.text ?_))
  refine VO.c (.move rfl) ?_
  refine VO.c (.move rfl) ?_
  refine VO.call rfl rfl (VF.call (zContainsF_ok (F := fun w => !hasB (validE c) w) (by omega) (fun _ _ => VF.clo (sCheckSupport2_ok (by omega))))) ?_
  refine VO.c (.move rfl) ?_
  refine VO.splitB (x := 51) rfl (fun g16_3 => ?_) (fun g16_3 => ?_)
  · try simp only [Bool.and_eq_true, Bool.or_eq_true, Bool.and_eq_false_iff, Bool.or_eq_false_iff, Bool.not_eq_true', Bool.not_eq_false', decide_eq_true_eq, decide_eq_false_iff_not] at g16_3
    refine VO.skip ?_
    refine VO.skip ?_
    refine VO.skip ?_
    refine VO.skip ?_
    refine VO.skip ?_
    refine VO.skip ?_
    refine VO.c (.pickT rfl rfl) ?_
    refine VO.c (.move rfl) ?_
    refine VO.skip ?_
    refine VO.skip ?_
    refine VO.skip ?_
    refine VO.skip ?_
    refine VO.skip ?_
    refine VO.skip ?_
    refine VO.skip ?_
    refine VO.skip ?_
    refine VO.c (.pickT rfl rfl) ?_
    refine VO.call rfl rfl (VF.call (sWhen_ok )) ?_
    refine VO.c (.assign rfl) ?_
    refine VO.go ?_
    refine VC.ret ?_
    exact VEnd.one rfl evT (pvI (by rw [supE, if_neg c2, hf, List.drop_eq_nil_of_le (by omega), if_neg (fun h => h rfl)]; first | rw [badS_1 g16_3] | rw [badS_2 g16_3 g16_11] | rw [badS_3 g16_3 g16_11]))
  try simp only [Bool.and_eq_true, Bool.or_eq_true, Bool.and_eq_false_iff, Bool.or_eq_false_iff, Bool.not_eq_true', Bool.not_eq_false', decide_eq_true_eq, decide_eq_false_iff_not] at g16_3
  refine VO.r (.ld vt72) ?_
  refine VO.c (.move rfl) ?_
  refine VO.call rfl rfl (VF.call (sBy_ok (by first | assumption | omega | simp) (by first | assumption | omega | simp))) ?_
  refine VO.c (.move rfl) ?_
  refine VO.r (.look mt158) ?_
  refine VO.c (.not) ?_
  refine VO.c (.pickF rfl rfl) ?_
  refine VO.c (.move rfl) ?_
  refine VO.splitB (x := 59) rfl (fun g16_11 => ?_) (fun g16_11 => ?_)
  · try simp only [Bool.and_eq_true, Bool.or_eq_true, Bool.and_eq_false_iff, Bool.or_eq_false_iff, Bool.not_eq_true', Bool.not_eq_false', decide_eq_true_eq, decide_eq_false_iff_not] at g16_11
    refine VO.skip ?_
    refine VO.skip ?_
    refine VO.skip ?_
    refine VO.skip ?_
    refine VO.skip ?_
    refine VO.skip ?_
    refine VO.skip ?_
    refine VO.skip ?_
    refine VO.c (.pickT rfl rfl) ?_
    refine VO.call rfl rfl (VF.call (sWhen_ok )) ?_
    refine VO.c (.assign rfl) ?_
    refine VO.go ?_
    refine VC.ret ?_
    exact VEnd.one rfl evT (pvI (by rw [supE, if_neg c2, hf, List.drop_eq_nil_of_le (by omega), if_neg (fun h => h rfl)]; first | rw [badS_1 g16_3] | rw [badS_2 g16_3 g16_11] | rw [badS_3 g16_3 g16_11]))
  try simp only [Bool.and_eq_true, Bool.or_eq_true, Bool.and_eq_false_iff, Bool.or_eq_false_iff, Bool.not_eq_true', Bool.not_eq_false', decide_eq_true_eq, decide_eq_false_iff_not] at g16_11
  refine VO.r (.ld vt72) ?_
  refine VO.c (.move rfl) ?_
  refine VO.c (.move rfl) ?_
  refine VO.call rfl rfl (VF.call (sNeeds_ok (by first | assumption | omega | simp) (by first | assumption | omega | simp))) ?_
  refine VO.r (.len el27) ?_
  refine VO.c (.move rfl) ?_
  refine VO.r (.len el27) ?_
  refine VO.c (.neq) ?_
  refine VO.c (.pickF rfl rfl) ?_
  refine VO.call rfl rfl (VF.call (sWhen_ok )) ?_
  refine VO.c (.assign rfl) ?_
  refine VO.go ?_
  refine VC.ret ?_
  exact VEnd.one rfl evT (pvI (by rw [supE, if_neg c2, hf, List.drop_eq_nil_of_le (by omega), if_neg (fun h => h rfl)]; first | rw [badS_1 g16_3] | rw [badS_2 g16_3 g16_11] | rw [badS_3 g16_3 g16_11]))
end Go.Proofs
namespace Go.Proofs
open Go.Fs
set_option linter.unusedVariables false
set_option maxHeartbeats 2000000

theorem shortC_ok {c : Cse} (h : shortC c = true) : CseOk c := by
  unfold shortC at h
  simp only [Bool.and_eq_true] at h
  obtain ⟨⟨h1, h2, h3⟩, h4, h5, h6⟩ := h
  have h1 := of_decide_eq_true h1
  have h2 := of_decide_eq_true h2
  have h3 := of_decide_eq_true h3
  refine ⟨by omega, by omega, by omega, fun x hx => ?_, fun x hx => ?_⟩
  · have h7 := List.all_eq_true.1 h5 x hx
    unfold eS at h7
    simp only [Bool.and_eq_true, Bool.or_eq_true, decide_eq_true_eq] at h7
    omega
  have h7 := List.all_eq_true.1 h6 x hx
  unfold cS at h7
  simp only [Bool.and_eq_true, Bool.or_eq_true, decide_eq_true_eq] at h7
  omega
theorem openE_R {c : Cse} (h : caseE c = 0) : openE c = opnR c c.2.2.length := by
  unfold openE opnE opnR
  congr 1
  refine List.filter_congr fun x hx => ?_
  show (!inM (byM c (validE c)) x.1) = (!inM (byM c (validR c)) x.1)
  rw [validE_R h]
theorem hasC_in {c : Cse} {s : ByteArray} : hasC c s = decide (0 ≤ claimE c.2.2 s) := by
  unfold hasC
  rw [Bool.eq_iff_iff, List.any_eq_true, decide_eq_true_eq, claim_in]
  constructor
  · rintro ⟨x, hx, he⟩; exact ⟨x, hx, of_decide_eq_true he⟩
  rintro ⟨x, hx, he⟩; exact ⟨x, hx, decide_eq_true he⟩
theorem two_same {c : Cse} {s : ByteArray} : twoE c s = rTwo c s := by
  unfold rTwo
  by_cases h : caseE c = 0
  · rw [if_neg (fun h2 => h2 h)]
    unfold twoE
    rw [hasC_in]
    by_cases h2 : 0 ≤ claimE c.2.2 s
    · rw [decide_eq_true h2, if_neg (show ¬ claimE c.2.2 s < 0 by omega), h] <;> rfl
    rw [decide_eq_false h2, if_pos (show claimE c.2.2 s < 0 by omega), h] <;> rfl
  rw [if_pos h]
  unfold twoE
  rw [firstE_two, if_neg h]
theorem rTwo_ok {c : Cse} {s : ByteArray} (h : rTwo c s = 0) : caseE c = 0 ∧ 0 ≤ claimE c.2.2 s := by
  unfold rTwo at h
  by_cases h1 : caseE c = 0
  · rw [if_neg (fun h2 => h2 h1)] at h
    refine ⟨h1, ?_⟩
    by_cases h3 : claimE c.2.2 s < 0
    · rw [if_pos h3] at h; cases h
    omega
  rw [if_pos h1] at h; exact absurd h h1
end Go.Proofs
namespace Go.Proofs
open Go.Fs
theorem case_ev {c : Cse} (h : caseE c = 0) : ∀ i (hi : i < c.2.1.length), ¬ 0 ≤ evidE (c.2.1.take i) c.2.1[i].1 := fun i hi => by
  have hv : versE c.1 = 0 := (case_known h).1
  have he : firstR (evAt c) 0 c.2.1.length = 0 := by
    unfold caseE at h
    rw [if_neg (fun h2 : versE c.1 ≠ 0 => h2 hv)] at h
    by_cases h4 : 64 < (c.2.1.length : Int)
    · rw [if_pos h4] at h; cases h
    · rw [if_neg h4] at h
      by_cases h5 : firstR (evAt c) 0 c.2.1.length = 0
      · exact h5
      · rw [if_pos h5] at h; exact h
  have h1 := firstR_zero _ 0 rfl he i (Nat.zero_le _) hi
  unfold evAt at h1
  rw [eAt_eq hi] at h1
  have h2 := firstE_mem0 h1 (whenE (decide (0 ≤ evidE (c.2.1.take i) c.2.1[i].1)) 9) (by simp)
  intro h3
  rw [decide_eq_true h3] at h2
  cases h2
theorem evid_in {l : List Evid} {s : ByteArray} : 0 ≤ evidE l s ↔ ∃ x ∈ l, x.1 = s := by
  unfold evidE
  rw [idxG_none]
  constructor
  · rintro ⟨x, hx, he⟩; exact ⟨x, hx, of_decide_eq_true he⟩
  · rintro ⟨x, hx, he⟩; exact ⟨x, hx, decide_eq_true he⟩
theorem ev_nodup {c : Cse} (h : caseE c = 0) : (c.2.1.map (·.1)).Nodup := by
  refine List.pairwise_iff_getElem.2 fun i j hi hj hij => ?_
  rw [List.length_map] at hi hj
  rw [List.getElem_map, List.getElem_map]
  intro e
  exact case_ev h j hj (evid_in.2 ⟨c.2.1[i], List.mem_take_iff_getElem.2 ⟨i, by omega, rfl⟩, e⟩)
theorem validR_nodup {c : Cse} (h : caseE c = 0) : (validR c).Nodup := by
  unfold validR
  exact (ev_nodup h).sublist (List.Sublist.map _ List.filter_sublist)
theorem lackW_drop {l : List ByteArray} (hn : l.Nodup) {i : Nat} (hi : i < l.length) : lackW l l[i] = dropI l i := by
  have hp := List.pairwise_iff_getElem.1 hn
  have e : lackW l l[i] = lackW (l.take i ++ l[i] :: l.drop (i + 1)) l[i] := by
    rw [← List.drop_eq_getElem_cons hi, List.take_append_drop]
  rw [e]
  unfold lackW dropI
  rw [List.filter_append, List.filter_cons_of_neg (by simp)]
  congr 1
  · refine List.filter_eq_self.2 fun o ho => ?_
    obtain ⟨k, hk, rfl⟩ := List.mem_take_iff_getElem.1 ho
    rw [decide_eq_false (hp k i (by omega) hi (by omega))]; rfl
  · refine List.filter_eq_self.2 fun o ho => ?_
    obtain ⟨k, hk, rfl⟩ := List.getElem_of_mem ho
    rw [List.length_drop] at hk
    rw [List.getElem_drop, decide_eq_false (fun e => hp i (i + 1 + k) hi (by omega) (by omega) e.symm)]; rfl
/-- What is in its order is distinct. -/
theorem chkO_nodup {c : Cse} : ∀ {l : List ByteArray} {k : Int}, chkO c k l = 0 → l.Nodup ∧ ∀ s ∈ l, k < evidE c.2.1 s
  | [], k, _ => ⟨List.nodup_nil, fun s hs => by cases hs⟩
  | s :: r, k, h => by
    unfold chkO at h
    by_cases h1 : evidE c.2.1 s < 0
    · rw [if_pos h1] at h; cases h
    · rw [if_neg h1] at h
      by_cases h2 : evidE c.2.1 s ≤ k
      · rw [if_pos h2] at h; cases h
      · rw [if_neg h2] at h
        obtain ⟨h3, h4⟩ := chkO_nodup h
        refine ⟨List.nodup_cons.2 ⟨fun hm => ?_, h3⟩, fun w hw => ?_⟩
        · have := h4 s hm; omega
        · rcases List.mem_cons.1 hw with rfl | hw
          · omega
          · have := h4 w hw; omega
def badR (c : Cse) (s : ByteArray) (l : List ByteArray) (i : Nat) : Bool := !hasB (validR c) (l.getD i ByteArray.empty) || byR c (dropI l i) s
theorem badR_at {c : Cse} {s : ByteArray} {l : List ByteArray} {i : Nat} (h : i < l.length) : badR c s l i = (!hasB (validR c) l[i] || byR c (dropI l i) s) := by
  unfold badR
  rw [getD_at h]
def supR (c : Cse) (s : ByteArray) (l : List ByteArray) : Int := if rTwo c s ≠ 0 then rTwo c s else if chkO c (-1) l ≠ 0 then chkO c (-1) l else whenE ((List.range l.length).any (badR c s l) || !byR c l s) 22
theorem badS_R {c : Cse} {s : ByteArray} {l : List ByteArray} (h : caseE c = 0) (hn : l.Nodup) : badS c s l = ((List.range l.length).any (badR c s l) || !byR c l s) := by
  have hb : inM (byM c l) s = byR c l s := rfl
  have hc : decide (((l.filter (needB c s l)).length : Int) ≠ (l.length : Int)) = (List.range l.length).any fun i => byR c (dropI l i) s := by
    rw [Bool.eq_iff_iff, decide_eq_true_eq, List.any_eq_true]
    constructor
    · intro h1
      have h2 : ¬ l.all (needB c s l) = true := fun h3 => h1 (by rw [List.filter_eq_self.2 (List.all_eq_true.1 h3)])
      rw [Bool.not_eq_true, List.all_eq_false] at h2
      obtain ⟨w, hw, h3⟩ := h2
      obtain ⟨i, hi, rfl⟩ := List.getElem_of_mem hw
      refine ⟨i, List.mem_range.2 hi, ?_⟩
      unfold needB at h3
      rw [lackW_drop hn hi] at h3
      have h4 : inM (byM c (dropI l i)) s = true := by simpa using h3
      exact h4
    · rintro ⟨i, hi, h1⟩ h2
      have hi := List.mem_range.1 hi
      have h3 : (l.filter (needB c s l)).length = l.length := by omega
      have h4 := List.length_filter_eq_length_iff.1 h3 l[i] (List.getElem_mem hi)
      unfold needB at h4
      rw [lackW_drop hn hi] at h4
      have h1 : inM (byM c (dropI l i)) s = true := h1
      rw [h1] at h4
      cases h4
  have ha : (l.any fun w => !hasB (validE c) w) = (List.range l.length).any fun i => !hasB (validR c) (l.getD i ByteArray.empty) := by
    rw [validE_R h, Bool.eq_iff_iff, List.any_eq_true, List.any_eq_true]
    constructor
    · rintro ⟨w, hw, h1⟩
      obtain ⟨i, hi, rfl⟩ := List.getElem_of_mem hw
      exact ⟨i, List.mem_range.2 hi, by rw [getD_at hi]; exact h1⟩
    · rintro ⟨i, hi, h1⟩
      have hi := List.mem_range.1 hi
      rw [getD_at hi] at h1
      exact ⟨_, List.getElem_mem hi, h1⟩
  have hd : (List.range l.length).any (badR c s l) = (((List.range l.length).any fun i => !hasB (validR c) (l.getD i ByteArray.empty)) || (List.range l.length).any fun i => byR c (dropI l i) s) := by
    rw [Bool.eq_iff_iff, Bool.or_eq_true, List.any_eq_true, List.any_eq_true, List.any_eq_true]
    constructor
    · rintro ⟨i, hi, h1⟩
      unfold badR at h1
      rw [Bool.or_eq_true] at h1
      exact h1.imp (fun h => ⟨i, hi, h⟩) fun h => ⟨i, hi, h⟩
    · rintro (⟨i, hi, h1⟩ | ⟨i, hi, h1⟩)
      · exact ⟨i, hi, by unfold badR; rw [h1]; rfl⟩
      · exact ⟨i, hi, by unfold badR; rw [h1, Bool.or_true]⟩
  unfold badS
  rw [ha, hb, hc, hd]
  cases (List.range l.length).any fun i => !hasB (validR c) (l.getD i ByteArray.empty) <;> cases (List.range l.length).any fun i => byR c (dropI l i) s <;> cases byR c l s <;> rfl
theorem sup_same {c : Cse} {s : ByteArray} {l : List ByteArray} : supE c s l = supR c s l := by
  unfold supE supR
  rw [two_same]
  by_cases h : rTwo c s = 0
  · have e1 : ¬ rTwo c s ≠ 0 := fun h2 => h2 h
    rw [if_neg e1, if_neg e1]
    by_cases h2 : chkO c (-1) l = 0
    · have e2 : ¬ chkO c (-1) l ≠ 0 := fun h3 => h3 h2
      rw [if_neg e2, if_neg e2, badS_R (rTwo_ok h).1 (chkO_nodup h2).1]
    · rw [if_pos h2, if_pos h2]
  · rw [if_pos h, if_pos h]
theorem ev_one {c : Cse} (h : caseE c = 0) {x y : Evid} (hx : x ∈ c.2.1) (hy : y ∈ c.2.1) (e : x.1 = y.1) : x = y := by
  obtain ⟨i, hi, rfl⟩ := List.getElem_of_mem hx
  obtain ⟨j, hj, rfl⟩ := List.getElem_of_mem hy
  rcases Nat.lt_trichotomy i j with h1 | h1 | h1
  · exact absurd (evid_in.2 ⟨c.2.1[i], List.mem_take_iff_getElem.2 ⟨i, by omega, rfl⟩, e⟩) (case_ev h j hj)
  · subst h1; rfl
  · exact absurd (evid_in.2 ⟨c.2.1[j], List.mem_take_iff_getElem.2 ⟨j, by omega, rfl⟩, e.symm⟩) (case_ev h i hi)
theorem valid_has {c : Cse} (h : caseE c = 0) {x : Evid} (hx : x ∈ c.2.1) : hasB (validR c) x.1 = validB c x := by
  unfold hasB validR
  rw [Bool.eq_iff_iff, List.any_eq_true]
  constructor
  · rintro ⟨w, hw, h1⟩
    have h1 := of_decide_eq_true h1
    obtain ⟨y, hy, rfl⟩ := List.mem_map.1 hw
    obtain ⟨h2, h3⟩ := List.mem_filter.1 hy
    rw [← ev_one h h2 hx h1]; exact h3
  · exact fun h1 => ⟨x.1, List.mem_map.2 ⟨x, List.mem_filter.2 ⟨hx, h1⟩, rfl⟩, decide_eq_true rfl⟩
theorem staleE_R {c : Cse} (h : caseE c = 0) : staleE c = (c.2.1.filter fun x => !hasB (validR c) x.1).map (·.1) := by
  obtain ⟨hv, hk⟩ := case_known h
  unfold staleE
  congr 1
  exact List.filter_congr fun x hx => by rw [valid_has h hx, fresh_valid hv (hk x hx)]
end Go.Proofs
namespace Go.Proofs
open Go.Fs
set_option linter.unusedVariables false
set_option maxHeartbeats 1000000

theorem leanS_t {c : Cse} {s : ByteArray} {o out : List ByteArray} {i : Nat} (h : byR c (dropI out i ++ o) s = true) : leanS c s o out i = dropI out i := if_pos h
theorem leanS_f {c : Cse} {s : ByteArray} {o out : List ByteArray} {i : Nat} (h : byR c (dropI out i ++ o) s = false) : leanS c s o out i = out := by
  unfold leanS
  have h : inM (byM c (dropI out i ++ o)) s = false := h
  rw [h] <;> rfl
theorem sup_0 {c : Cse} {s : ByteArray} {l : List ByteArray} (h : ¬ rTwo c s ≠ 0) (h2 : chkO c (-1) l = 0) : supR c s l = whenE ((List.range l.length).any (badR c s l) || !byR c l s) 22 := by
  unfold supR
  rw [if_neg h, if_neg (fun h3 => h3 h2)]
end Go.Proofs
