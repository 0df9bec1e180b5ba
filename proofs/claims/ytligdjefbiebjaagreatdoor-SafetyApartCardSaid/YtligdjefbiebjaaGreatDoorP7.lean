/- Parts of the proof: an evaluator of the model, what it is sound for, and contracts of functions. No condition. -/
import Derived.Test.YtligdjefbiebjaaGreatDoorP6
import Derived.Test.YtligdjefbiebjaaGreatDoorP5
import Derived.Test.YtligdjefbiebjaaGreatDoorP3
set_option linter.all false
namespace Go.Proofs
open Go.Fs
set_option linter.unusedVariables false
set_option maxHeartbeats 2000000
abbrev y110 : Ty := (.sl (.pair (.int .i64) (.pair (.int .i64) .str)))
abbrev y127 : Ty := (.pair (.int .i64) (.pair (.int .i64) .str))
theorem vt127 : ValT Tryz.prog 127 y127 := valT_of (by kernel_rfl)
theorem el110 : ElT Tryz.prog 110 127 y127 := elT_of (by kernel_rfl)
theorem zt127 : ZerT Tryz.prog 127 y127 := zerT_of (z := .agg #[.int .i64 0, .int .i64 0, .string ByteArray.empty]) (by kernel_rfl) rfl rfl
theorem bt127 : BldT Tryz.prog 127 y127 [(0, 1), (1, 1), (2, 1)] := bldT_of zt127 rfl (by kernel_rfl)
theorem sCheckAt_ok {l : List (ByteArray × ByteArray × ByteArray × (List ByteArray) × (Int × Int))} {t : Int} (hl : l.length < 5000) (hk : PermOk l) : VF Tryz.prog OA 139 [.v y43 l, I t] (I (firstE [permsE l, rangeE t 0 100000])) := by
  refine VF.enter Tryz.func139 rfl (fun _ _ => rfl) rfl ?_
  show VC _ _ _ _ _ [(0, .v y43 l), (1, I t)] [] _
  refine VC.seq (VC.text ?_)
  refine VO.c (.assign rfl) ?_
  refine VO.go (VC.seq (VC.text ?_))
  refine VO.c (.move rfl) ?_
  refine VO.call rfl rfl (VF.call (sPermits_ok (by first | assumption | omega | simp) (by first | assumption | omega | simp))) ?_
  refine VO.c (.move rfl) ?_
  refine VO.call rfl rfl (VF.call (sWithin_ok )) ?_
  refine VO.new (.lit [permsE l, rangeE t (0 : Int) (100000 : Int)] el204) ?_
  refine VO.call rfl rfl (VF.call (sFirst_ok (by first | assumption | omega | simp))) ?_
  refine VO.c (.assign rfl) ?_
  refine VO.go ?_
  refine VC.ret ?_
  exact VEnd.one rfl evT (pvI (by rfl))
theorem sOutT_ok {l : List (ByteArray × ByteArray × ByteArray × (List ByteArray) × (Int × Int))} {t : Int} (hl : l.length < 5000) (hk : PermOk l) : VF Tryz.prog OA 69 [.v y43 l, I t] (.tup [.v (.sl .str) (if firstE [permsE l, rangeE t 0 100000] = 0 then outE l t else []), I (firstE [permsE l, rangeE t 0 100000])]) := by
  refine VF.enter Tryz.func69 rfl (fun _ _ => rfl) rfl ?_
  show VC _ _ _ _ _ [(0, .v y43 l), (1, I t)] [] _
  refine VC.seq (VC.text ?_)
  refine VO.c (.assign rfl) ?_
  refine VO.c (.assign rfl) ?_
  refine VO.go (VC.seq (VC.seq (VC.text ?_)))
  refine VO.c (.move rfl) ?_
  refine VO.c (.move rfl) ?_
  refine VO.call rfl rfl (VF.call (sCheckAt_ok (by first | assumption | omega | simp) (by first | assumption | omega | simp))) ?_
  refine VO.c (.assign rfl) ?_
  refine VO.go (VC.seq (VC.text ?_))
  refine VO.c (.move rfl) ?_
  refine VO.c (.neq) ?_
  refine VO.go ?_
  refine VC.condD rfl (fun c2 => ?_) (fun c2 => ?_)
  · refine VC.seq (VC.text ?_)
    refine VO.c (.move rfl) ?_
    refine VO.c (.assign rfl) ?_
    refine VO.c (.assign rfl) ?_
    refine VO.go ?_
    refine VC.ret ?_
    exact VEnd.two rfl (evC .nil) evT (pvE (by rw [if_neg c2])) (pvI (by rfl))
  refine VC.skip (VC.seq (VC.text ?_))
  refine VO.c (.move rfl) ?_
  refine VO.c (.move rfl) ?_
  refine VO.call rfl rfl (VF.call (sOut_ok (by first | assumption | omega | simp))) ?_
  refine VO.c (.assign rfl) ?_
  refine VO.c (.assign rfl) ?_
  refine VO.go ?_
  refine VC.ret ?_
  exact VEnd.two rfl evT evT (pvE (by rw [if_pos (Classical.not_not.1 c2)])) (pvI (by exact (Classical.not_not.1 c2).symm))
def plocksE (p : Permit) : List ByteArray := p.2.2.2.1
theorem lockedE_eq {l : List Permit} {t : Int} {gs : List ByteArray} (h : gs ++ ([] : List Permit).flatMap plocksE = (atE l t).flatMap plocksE) : setE gs = lockedE l t := by
  rw [List.flatMap_nil, List.append_nil] at h
  rw [h] <;> rfl
def Few9 (l : List Permit) : Prop := ∀ p ∈ l, p.2.2.2.1.length ≤ 9
theorem flat9 : ∀ {l : List Permit}, Few9 l → (l.flatMap plocksE).length ≤ 9 * l.length
  | [], _ => Nat.le_refl _
  | p :: l, h => by
    rw [List.flatMap_cons, List.length_append]
    have h1 : (plocksE p).length ≤ 9 := h p List.mem_cons_self
    have h2 := flat9 (l := l) fun q hq => h q (List.mem_cons_of_mem _ hq)
    simp only [List.length_cons]
    omega
theorem at9 {l : List Permit} {t : Int} (h : Few9 l) : Few9 (atE l t) := fun p hp => h p (List.mem_filter.1 hp).1
theorem locks_len {l : List Permit} {t : Int} {gs : List ByteArray} {rest : List Permit} (h9 : Few9 l) (h : gs ++ rest.flatMap plocksE = (atE l t).flatMap plocksE) : gs.length + (rest.flatMap plocksE).length ≤ 9 * l.length := by
  have h1 := congrArg List.length h
  rw [List.length_append] at h1
  have h2 := flat9 (at9 (t := t) h9)
  have h3 : (atE l t).length ≤ l.length := List.length_filter_le _ _
  omega
theorem few_ok {l : List Permit} (h : Few9 l) : PermOk l := fun p hp => by have := h p hp; omega
theorem sLockedT_ok {l : List (ByteArray × ByteArray × ByteArray × (List ByteArray) × (Int × Int))} {t : Int} (hl : l.length < 5000) (h9 : Few9 l) : VF Tryz.prog OA 70 [.v y43 l, I t] (.tup [.v (.sl .str) (if firstE [permsE l, rangeE t 0 100000] = 0 then lockedE l t else []), I (firstE [permsE l, rangeE t 0 100000])]) := by
  refine VF.enter Tryz.func70 rfl (fun _ _ => rfl) rfl ?_
  show VC _ _ _ _ _ [(0, .v y43 l), (1, I t)] [] _
  refine VC.seq (VC.text ?_)
  have hk := few_ok h9
  refine VO.c (.assign rfl) ?_
  refine VO.c (.assign rfl) ?_
  refine VO.go (VC.seq (VC.seq (VC.text ?_)))
  refine VO.c (.move rfl) ?_
  refine VO.c (.move rfl) ?_
  refine VO.call rfl rfl (VF.call (sCheckAt_ok (by first | assumption | omega | simp) (by first | assumption | omega | simp))) ?_
  refine VO.c (.assign rfl) ?_
  refine VO.go (VC.seq (VC.text ?_))
  refine VO.c (.move rfl) ?_
  refine VO.c (.neq) ?_
  refine VO.go ?_
  refine VC.condD rfl (fun c2 => ?_) (fun c2 => ?_)
  · refine VC.seq (VC.text ?_)
    refine VO.c (.move rfl) ?_
    refine VO.c (.assign rfl) ?_
    refine VO.c (.assign rfl) ?_
    refine VO.go ?_
    refine VC.ret ?_
    exact VEnd.two rfl (evC .nil) evT (pvE (by rw [if_neg c2])) (pvI (by rfl))
  refine VC.skip (VC.seq (VC.text ?_))
  refine VO.cell (.alloc0 zt27) ?_
  intro ww1
  refine VO.go (VC.seq (VC.seq ?_))
  refine VC.nilRow 9 .str ?_
  refine VC.text ?_
  refine VO.c (.move rfl) ?_
  refine VO.c (.move rfl) ?_
  refine VO.call rfl rfl (VF.call (sAt_ok )) ?_
  refine VO.go (VC.block ?_)
  refine VC.keep [(7, .raw ww1), (17, .clo 176 [] [.p y43 l, .p (.int .i64) t])] ⟨rfl, rfl, trivial⟩ ?_
  refine VC.rangeFunc rfl (sAt1_ok (by omega)) (fun _ => rfl) rfl rfl (fun rest ss => ∃ (gs : List ByteArray), ∃ (wg : Value), ss = [(wg, .row 9 .str gs), (ww1, .var [.raw wg])] ∧ (gs ++ rest.flatMap plocksE = (atE l t).flatMap plocksE)) (fun ee ss => False) ⟨[], (.slice none 0 0), rfl, (by rfl)⟩ ?_ ?_ ?_
  · rintro jj x rest _ ⟨gs, wg, rfl, hg⟩
    show VC _ _ _ _ _ [(18, .v y35 x), (7, .raw ww1), (17, .clo 176 [] [.p y43 l, .p (.int .i64) t])] [(wg, .row 9 .str gs), (ww1, .var [.raw wg])] _
    refine VC.text ?_
    refine VO.cell (.alloc zt35) ?_
    intro ww2
    refine VO.setV (cs' := [St x.1, St x.2.1, St x.2.2.1, .v (.sl .str) x.2.2.2.1, I x.2.2.2.2.1, I x.2.2.2.2.2]) vt35 .v ?_
    refine VO.shut [(8, .p y35 x)] (.cons rfl (.var m0 .refl) .nil) ?_
    refine VO.nil ?_
    refine ⟨rfl, ?_⟩
    refine VC.block (VC.text ?_)
    refine VO.r (.ldV m1 vt27) ?_
    refine VO.c (.fa (.r (.r (.r (.l .o))))) ?_
    refine VO.r (.ld vt27) ?_
    refine VO.app rfl rfl el27 el27 (by have := locks_len h9 hg; rw [List.flatMap_cons, List.length_append] at this; unfold plocksE at this; first | omega | (simp; omega)) ?_
    intro ww3
    refine VO.perm swap1 ?_
    refine VO.one m1 fun ho4 => ?_
    refine VO.setV (cs' := [.raw ww3]) vt27 (.raw rfl (agg_one ho4) ho4) ?_
    refine VO.perm swap1 ?_
    refine VO.nil ?_
    exact .inl ⟨rfl, gs ++ x.2.2.2.1, ww3, rfl, (by rw [List.append_assoc]; exact hg)⟩
  · rintro _ ⟨gs, wg, rfl, hg⟩
    refine VC.seq (VC.text ?_)
    refine VO.r (.ldV m1 vt27) ?_
    refine VO.callG [(wg, .row 9 .str gs)] rfl rfl rfl (VFG.call (sDistinct_ok (by have := locks_len h9 hg; omega))) ?_
    rintro _ _ ⟨rfl, rfl⟩
    show VO _ _ _ _ _ _ [(ww1, .var [.raw wg])] _
    refine VO.c (.assign rfl) ?_
    refine VO.c (.assign rfl) ?_
    refine VO.go ?_
    refine VC.ret ?_
    exact VEnd.two rfl evT evT (pvE (by rw [if_pos (Classical.not_not.1 c2), lockedE_eq hg])) (pvI (by exact (Classical.not_not.1 c2).symm))
  rintro _ _ _ ⟨⟩
def busyF (l : List Permit) (m : Int × Int) (p : Permit) : Int × Int := if m.2 < ((outE l p.2.2.2.2.1).length : Int) ∨ (((outE l p.2.2.2.2.1).length : Int) = m.2 ∧ p.2.2.2.2.1 < m.1) then (p.2.2.2.2.1, ((outE l p.2.2.2.2.1).length : Int)) else m
def busyE (l : List Permit) (i : Nat) : Int × Int := (l.take i).foldl (busyF l) (0, 0)
theorem busy_t {l : List Permit} {i : Nat} (h : i < l.length) (hc : (busyE l i).2 < ((outE l l[i].2.2.2.2.1).length : Int) ∨ (((outE l l[i].2.2.2.2.1).length : Int) = (busyE l i).2 ∧ l[i].2.2.2.2.1 < (busyE l i).1)) : busyE l (i + 1) = (l[i].2.2.2.2.1, ((outE l l[i].2.2.2.2.1).length : Int)) := by
  have e : busyE l (i + 1) = busyF l (busyE l i) l[i] := by unfold busyE; rw [List.take_succ_eq_append_getElem h, List.foldl_append] <;> rfl
  rw [e]; exact if_pos hc
theorem busy_f {l : List Permit} {i : Nat} (h : i < l.length) (hc : ¬ ((busyE l i).2 < ((outE l l[i].2.2.2.2.1).length : Int) ∨ (((outE l l[i].2.2.2.2.1).length : Int) = (busyE l i).2 ∧ l[i].2.2.2.2.1 < (busyE l i).1))) : busyE l (i + 1) = busyE l i := by
  have e : busyE l (i + 1) = busyF l (busyE l i) l[i] := by unfold busyE; rw [List.take_succ_eq_append_getElem h, List.foldl_append] <;> rfl
  rw [e]; exact if_neg hc
def busyC (l : List Permit) : Int := firstE [permsE l, whenE (decide ((l.length : Int) = 0)) 12]
theorem sBusy_ok {l : List (ByteArray × ByteArray × ByteArray × (List ByteArray) × (Int × Int))} (hl : l.length < 5000) (hk : PermOk l) : VF Tryz.prog OA 71 [.v y43 l] (.tup [I (if busyC l = 0 then (busyE l l.length).1 else 0), I (if busyC l = 0 then (busyE l l.length).2 else 0), I (busyC l)]) := by
  refine VF.enter Tryz.func71 rfl (fun _ _ => rfl) rfl ?_
  show VC _ _ _ _ _ [(0, .v y43 l)] [] _
  refine VC.seq (VC.text ?_)
  refine VO.c (.assign rfl) ?_
  refine VO.c (.assign rfl) ?_
  refine VO.c (.assign rfl) ?_
  refine VO.go (VC.seq (VC.seq (VC.text ?_)))
  refine VO.c (.move rfl) ?_
  refine VO.call rfl rfl (VF.call (sPermits_ok (by first | assumption | omega | simp) (by first | assumption | omega | simp))) ?_
  refine VO.c (.move rfl) ?_
  refine VO.r (.len el43) ?_
  refine VO.c (.eql) ?_
  refine VO.call rfl rfl (VF.call (sWhen_ok )) ?_
  refine VO.new (.lit [permsE l, whenE (decide (((l.length : Nat) : Int) = (0 : Int))) (12 : Int)] el204) ?_
  refine VO.call rfl rfl (VF.call (sFirst_ok (by first | assumption | omega | simp))) ?_
  refine VO.c (.assign rfl) ?_
  refine VO.go (VC.seq (VC.text ?_))
  refine VO.c (.move rfl) ?_
  refine VO.c (.neq) ?_
  refine VO.go ?_
  refine VC.condD rfl (fun c2 => ?_) (fun c2 => ?_)
  · have hb : ¬ busyC l = 0 := c2
    refine VC.seq (VC.text ?_)
    refine VO.c (.move rfl) ?_
    refine VO.c (.assign rfl) ?_
    refine VO.c (.assign rfl) ?_
    refine VO.c (.assign rfl) ?_
    refine VO.go ?_
    refine VC.ret ?_
    exact VEnd.three rfl evT evT evT (pvI (by rw [if_neg hb])) (pvI (by rw [if_neg hb])) (pvI (by rfl))
  have hb : busyC l = 0 := Classical.not_not.1 c2
  refine VC.skip (VC.seq (VC.text ?_))
  refine VO.c (.assign rfl) ?_
  refine VO.c (.assign rfl) ?_
  refine VO.go (VC.seq (VC.seq (VC.text ?_)))
  refine VO.c (.move rfl) ?_
  refine VO.r (.len el43) ?_
  refine VO.c (.move rfl) ?_
  refine VO.go (VC.block ?_)
  refine VC.keep [(0, .v y43 l), (6, I ((busyE l 0).1)), (7, I ((busyE l 0).2)), (23, .v y43 l), (24, I ((l.length : Nat) : Int)), (25, I ((0 : Nat) : Int))] ⟨rfl, rfl, rfl, rfl, rfl, rfl, trivial⟩ ?_
  refine VC.loop (I := fun kk ff ss => ∃ (i : Nat), kk = l.length - i ∧ ff = [(0, .v y43 l), (6, I ((busyE l i).1)), (7, I ((busyE l i).2)), (23, .v y43 l), (24, I ((l.length : Nat) : Int)), (25, I ((i : Nat) : Int))] ∧ ss = [] ∧ (i ≤ l.length)) ?_ _ _ _ ⟨0, rfl, rfl, rfl, Nat.zero_le _⟩
  rintro kk ff ss ⟨i, hk0, rfl, rfl, hi⟩
  refine VC.seq (VC.text ?_)
  refine VO.c (.lss) ?_
  refine VO.go (VC.seq ?_)
  refine VC.condD rfl (fun c6 => ?_) (fun c6 => ?_)
  · refine VC.skip (VC.seq (VC.block (VC.seq (VC.text ?_))))
    refine VO.c (.ix (j := i) rfl rfl el43 (by omega)) ?_
    refine VO.r (.ld vt35) ?_
    refine VO.cell (.alloc zt35) ?_
    intro ww6
    refine VO.setV (cs' := [St ((l[i]).1), St ((l[i]).2.1), St ((l[i]).2.2.1), .v (.sl .str) ((l[i]).2.2.2.1), I (((l[i]).2.2.2.2).1), I (((l[i]).2.2.2.2).2)]) vt35 .v ?_
    refine VO.shut [(9, .p y35 (l[i]))] (.cons rfl (.var m0 .refl) .nil) ?_
    refine VO.go (VC.seq (VC.text ?_))
    refine VO.c (.fa (.r (.r (.r (.r .o))))) ?_
    refine VO.c (.fa (.l .o)) ?_
    refine VO.r (.ld vt3) ?_
    refine VO.c (.assign rfl) ?_
    refine VO.go (VC.seq (VC.text ?_))
    refine VO.c (.move rfl) ?_
    refine VO.c (.move rfl) ?_
    refine VO.call rfl rfl (VF.call (sOut_ok (by first | assumption | omega | simp))) ?_
    refine VO.r (.len el27) ?_
    refine VO.c (.assign rfl) ?_
    refine VO.go (VC.seq (VC.text ?_))
    refine VO.c (.move rfl) ?_
    refine VO.c (.move rfl) ?_
    refine VO.c (.gtr) ?_
    refine VO.c (.move rfl) ?_
    refine VO.splitD (x := 39) rfl (fun g10_3 => ?_) (fun g10_3 => ?_)
    · refine VO.skip ?_
      refine VO.skip ?_
      refine VO.skip ?_
      refine VO.skip ?_
      refine VO.skip ?_
      refine VO.skip ?_
      refine VO.skip ?_
      refine VO.skip ?_
      refine VO.c (.pickT rfl rfl) ?_
      refine VO.go ?_
      refine VC.condT rfl ?_
      refine VC.text ?_
      refine VO.c (.move rfl) ?_
      refine VO.c (.move rfl) ?_
      refine VO.c (.assign rfl) ?_
      refine VO.c (.assign rfl) ?_
      refine VO.nil (VC.text ?_)
      refine VO.c (.add rfl rfl (by omega)) ?_
      refine VO.c (.move rfl) ?_
      refine VO.nil ?_
      refine ⟨_, [(0, .v y43 l), (6, I ((busyE l (i + 1)).1)), (7, I ((busyE l (i + 1)).2)), (23, .v y43 l), (24, I ((l.length : Nat) : Int)), (25, I (((i + 1) : Nat) : Int))], ?_, ⟨rfl, slI rfl (by first | rw [busy_t (by omega) (.inl g10_3)] | rw [busy_t (by omega) (.inr c10)] | rw [busy_f (by omega) (fun h => h.elim g10_3 (fun h => c10.elim (fun h2 => h2 h.1) (fun h2 => h2 h.2)))]), slI rfl (by first | rw [busy_t (by omega) (.inl g10_3)] | rw [busy_t (by omega) (.inr c10)] | rw [busy_f (by omega) (fun h => h.elim g10_3 (fun h => c10.elim (fun h2 => h2 h.1) (fun h2 => h2 h.2)))]), rfl, rfl, rfl, trivial⟩, (i + 1), rfl, rfl, rfl, (by omega)⟩
      omega
    refine VO.c (.move rfl) ?_
    refine VO.c (.move rfl) ?_
    refine VO.c (.eql) ?_
    refine VO.c (.move rfl) ?_
    refine VO.cg (r := decide ((((outE l (((l[i]).2.2.2.2).1)).length : Nat) : Int) = ((busyE l i).2))) (w := true) [] trivial (fun hgd => have g10_7 : (((outE l (((l[i]).2.2.2.2).1)).length : Nat) : Int) = ((busyE l i).2) := (by simpa using hgd); (.move rfl)) ?_
    refine VO.cg (r := decide ((((outE l (((l[i]).2.2.2.2).1)).length : Nat) : Int) = ((busyE l i).2))) (w := true) [] trivial (fun hgd => have g10_7 : (((outE l (((l[i]).2.2.2.2).1)).length : Nat) : Int) = ((busyE l i).2) := (by simpa using hgd); (.move rfl)) ?_
    refine VO.cg (r := decide ((((outE l (((l[i]).2.2.2.2).1)).length : Nat) : Int) = ((busyE l i).2))) (w := true) [(44, I (((l[i]).2.2.2.2).1)), (45, I ((busyE l i).1))] ⟨rfl, rfl, trivial⟩ (fun hgd => have g10_7 : (((outE l (((l[i]).2.2.2.2).1)).length : Nat) : Int) = ((busyE l i).2) := (by simpa using hgd); (.lss)) ?_
    refine VO.c (.and) ?_
    refine VO.c (.pickF rfl rfl) ?_
    refine VO.go ?_
    refine VC.condB rfl (fun c10 => ?_) (fun c10 => ?_)
    · try simp only [Bool.and_eq_true, Bool.or_eq_true, Bool.and_eq_false_iff, Bool.or_eq_false_iff, Bool.not_eq_true', Bool.not_eq_false', decide_eq_true_eq, decide_eq_false_iff_not] at c10
      refine VC.text ?_
      refine VO.c (.move rfl) ?_
      refine VO.c (.move rfl) ?_
      refine VO.c (.assign rfl) ?_
      refine VO.c (.assign rfl) ?_
      refine VO.nil (VC.text ?_)
      refine VO.c (.add rfl rfl (by omega)) ?_
      refine VO.c (.move rfl) ?_
      refine VO.nil ?_
      refine ⟨_, [(0, .v y43 l), (6, I ((busyE l (i + 1)).1)), (7, I ((busyE l (i + 1)).2)), (23, .v y43 l), (24, I ((l.length : Nat) : Int)), (25, I (((i + 1) : Nat) : Int))], ?_, ⟨rfl, slI rfl (by first | rw [busy_t (by omega) (.inl g10_3)] | rw [busy_t (by omega) (.inr c10)] | rw [busy_f (by omega) (fun h => h.elim g10_3 (fun h => c10.elim (fun h2 => h2 h.1) (fun h2 => h2 h.2)))]), slI rfl (by first | rw [busy_t (by omega) (.inl g10_3)] | rw [busy_t (by omega) (.inr c10)] | rw [busy_f (by omega) (fun h => h.elim g10_3 (fun h => c10.elim (fun h2 => h2 h.1) (fun h2 => h2 h.2)))]), rfl, rfl, rfl, trivial⟩, (i + 1), rfl, rfl, rfl, (by omega)⟩
      omega
    try simp only [Bool.and_eq_true, Bool.or_eq_true, Bool.and_eq_false_iff, Bool.or_eq_false_iff, Bool.not_eq_true', Bool.not_eq_false', decide_eq_true_eq, decide_eq_false_iff_not] at c10
    refine VC.skip (VC.text ?_)
    refine VO.c (.add rfl rfl (by omega)) ?_
    refine VO.c (.move rfl) ?_
    refine VO.nil ?_
    refine ⟨_, [(0, .v y43 l), (6, I ((busyE l (i + 1)).1)), (7, I ((busyE l (i + 1)).2)), (23, .v y43 l), (24, I ((l.length : Nat) : Int)), (25, I (((i + 1) : Nat) : Int))], ?_, ⟨rfl, slI rfl (by first | rw [busy_t (by omega) (.inl g10_3)] | rw [busy_t (by omega) (.inr c10)] | rw [busy_f (by omega) (fun h => h.elim g10_3 (fun h => c10.elim (fun h2 => h2 h.1) (fun h2 => h2 h.2)))]), slI rfl (by first | rw [busy_t (by omega) (.inl g10_3)] | rw [busy_t (by omega) (.inr c10)] | rw [busy_f (by omega) (fun h => h.elim g10_3 (fun h => c10.elim (fun h2 => h2 h.1) (fun h2 => h2 h.2)))]), rfl, rfl, rfl, trivial⟩, (i + 1), rfl, rfl, rfl, (by omega)⟩
    omega
  refine VC.exit (VC.seq (VC.text ?_))
  refine VO.c (.move rfl) ?_
  refine VO.c (.move rfl) ?_
  refine VO.c (.assign rfl) ?_
  refine VO.c (.assign rfl) ?_
  refine VO.c (.assign rfl) ?_
  refine VO.go ?_
  refine VC.ret ?_
  exact VEnd.three rfl evT evT evT (pvI (by rw [if_pos hb, show i = l.length by omega])) (pvI (by rw [if_pos hb, show i = l.length by omega])) (pvI (by exact hb.symm))
theorem locked_len {l : List Permit} {t : Int} (h : Few9 l) : (lockedE l t).length ≤ 9 * l.length := by
  have h1 := setE_len ((atE l t).flatMap plocksE)
  have h2 := flat9 (at9 (t := t) h)
  have h3 : (atE l t).length ≤ l.length := List.length_filter_le _ _
  have h1 : (lockedE l t).length ≤ ((atE l t).flatMap plocksE).length := h1
  omega
abbrev Clsh := Int × Int × ByteArray
def pAt (l : List Permit) (i : Nat) : Permit := l.getD i (ByteArray.empty, ByteArray.empty, ByteArray.empty, [], 0, 0)
theorem pAt_eq {l : List Permit} {i : Nat} (h : i < l.length) : pAt l i = l[i] := getD_at h
def clsN (l : List Permit) (i k : Nat) : ByteArray := nameR (reasonIx (pAt l i) (pAt l k))
def clsAt (l : List Permit) (i k : Nat) : List Clsh := if clsN l i k = ByteArray.empty then [] else [((i : Int), (k : Int), clsN l i k)]
theorem clsAt_t {l : List Permit} {i k : Nat} (h : ¬ clsN l i k = ByteArray.empty) : clsAt l i k = [((i : Int), (k : Int), clsN l i k)] := if_neg h
theorem clsAt_f {l : List Permit} {i k : Nat} (h : clsN l i k = ByteArray.empty) : clsAt l i k = [] := if_pos h
theorem clsAt_len {l : List Permit} {i k : Nat} : (clsAt l i k).length ≤ 1 := by unfold clsAt; split <;> simp
theorem flat_len {α β : Type} {f : α → List β} {n : Nat} : ∀ {l : List α}, (∀ x ∈ l, (f x).length ≤ n) → (l.flatMap f).length ≤ l.length * n
  | [], _ => by simp
  | x :: l, h => by
    rw [List.flatMap_cons, List.length_append]
    have h1 := h x List.mem_cons_self
    have h2 := flat_len (l := l) fun y hy => h y (List.mem_cons_of_mem _ hy)
    simp only [List.length_cons, Nat.add_mul, Nat.one_mul]
    omega
def clRow (l : List Permit) (k i : Nat) : List Clsh := (List.range i).flatMap fun a => clsAt l a k
def clP (l : List Permit) (k : Nat) : List Clsh := (List.range k).flatMap fun b => clRow l b b
theorem clRow_succ {l : List Permit} {k i : Nat} : clRow l k (i + 1) = clRow l k i ++ clsAt l i k := by
  unfold clRow
  rw [List.range_succ, List.flatMap_append]; simp
theorem clP_succ {l : List Permit} {k : Nat} : clP l (k + 1) = clP l k ++ clRow l k k := by
  unfold clP
  rw [List.range_succ, List.flatMap_append]; simp
theorem clRow_len {l : List Permit} {k i : Nat} : (clRow l k i).length ≤ i := by
  have := flat_len (f := fun a => clsAt l a k) (n := 1) (l := List.range i) fun x _ => clsAt_len
  rw [List.length_range] at this
  unfold clRow; omega
theorem clP_len {l : List Permit} {k n : Nat} (h : k ≤ n) : (clP l k).length ≤ k * n := by
  have := flat_len (f := fun b => clRow l b b) (n := n) (l := List.range k) fun x hx => by
    have h1 := clRow_len (l := l) (k := x) (i := x)
    have h2 := List.mem_range.1 hx
    omega
  rwa [List.length_range] at this
def clUp (l : List Permit) (i d : Nat) : List Clsh := (List.range d).flatMap fun x => clsAt l i (i + 1 + x)
def clR (l : List Permit) (n i : Nat) : List Clsh := (List.range i).flatMap fun a => clUp l a (n - (a + 1))
theorem clUp_succ {l : List Permit} {i d : Nat} : clUp l i (d + 1) = clUp l i d ++ clsAt l i (i + 1 + d) := by
  unfold clUp
  rw [List.range_succ, List.flatMap_append]; simp
theorem clR_succ {l : List Permit} {n i : Nat} : clR l n (i + 1) = clR l n i ++ clUp l i (n - (i + 1)) := by
  unfold clR
  rw [List.range_succ, List.flatMap_append]; simp
theorem zSortC_ok {w_l : Value} {l : List Clsh} (hl : l.length ≤ 1000000) : VFG Tryz.prog OA 137 [.raw w_l, .clo 138 [] []] [(w_l, .row 127 (.pair (.int .i64) (.pair (.int .i64) .str)) l)] (fun r g => r = .tup [] ∧ g = [(w_l, .row 127 (.pair (.int .i64) (.pair (.int .i64) .str)) (sortC l))]) := VFG.sortC hl
theorem sClashes_ok {l : List (ByteArray × ByteArray × ByteArray × (List ByteArray) × (Int × Int))} (hl : l.length ≤ 100) (hk : PermOk l) : VF Tryz.prog OA 68 [.v y43 l] (.tup [.v y110 (if permsE l = 0 then sortC (clP l l.length) else []), I (permsE l)]) := by
  refine VF.enter Tryz.func68 rfl (fun _ _ => rfl) rfl ?_
  show VC _ _ _ _ _ [(0, .v y43 l)] [] _
  refine VC.seq (VC.text ?_)
  refine VO.c (.assign rfl) ?_
  refine VO.c (.assign rfl) ?_
  refine VO.go (VC.seq (VC.seq (VC.text ?_)))
  refine VO.c (.move rfl) ?_
  refine VO.call rfl rfl (VF.call (sPermits_ok (by first | assumption | omega | simp) (by first | assumption | omega | simp))) ?_
  refine VO.c (.assign rfl) ?_
  refine VO.go (VC.seq (VC.text ?_))
  refine VO.c (.move rfl) ?_
  refine VO.c (.neq) ?_
  refine VO.go ?_
  refine VC.condD rfl (fun c2 => ?_) (fun c2 => ?_)
  · refine VC.seq (VC.text ?_)
    refine VO.c (.move rfl) ?_
    refine VO.c (.assign rfl) ?_
    refine VO.c (.assign rfl) ?_
    refine VO.go ?_
    refine VC.ret ?_
    exact VEnd.two rfl (evC .nil) evT (pvE (by rw [if_neg c2])) (pvI (by rfl))
  refine VC.skip (VC.seq (VC.text ?_))
  refine VO.c (.assign rfl) ?_
  refine VO.go (VC.seq (VC.seq (VC.text ?_)))
  refine VO.c (.move rfl) ?_
  refine VO.r (.len el43) ?_
  refine VO.c (.move rfl) ?_
  refine VO.go (VC.block ?_)
  refine VC.cell0 127 y127 ?_
  refine VC.keep [(0, .v y43 l), (5, .raw (.slice none 0 0)), (16, .v y43 l), (17, I ((l.length : Nat) : Int)), (18, I ((0 : Nat) : Int))] ⟨rfl, rfl, rfl, rfl, rfl, trivial⟩ ?_
  refine VC.loop (I := fun kk ff ss => ∃ (k : Nat) (out : Value), kk = l.length - k ∧ ff = [(0, .v y43 l), (5, .raw out), (16, .v y43 l), (17, I ((l.length : Nat) : Int)), (18, I ((k : Nat) : Int))] ∧ ss = [(out, .row 127 y127 (clP l k))] ∧ (k ≤ l.length)) ?_ _ _ _ ⟨0, (.slice none 0 0), rfl, rfl, rfl, Nat.zero_le _⟩
  rintro kk ff ss ⟨k, out, hk0, rfl, rfl, hkm⟩
  refine VC.seq (VC.text ?_)
  refine VO.c (.lss) ?_
  refine VO.go (VC.seq ?_)
  refine VC.condD rfl (fun c6 => ?_) (fun c6 => ?_)
  · have hkl : k < l.length := by omega
    have hkk := hk _ (List.getElem_mem hkl)
    have hlc := clP_len (l := l) (k := k) (n := l.length) (by omega)
    have hlm : k * l.length ≤ 100 * 100 := Nat.mul_le_mul (by omega) hl
    have hlt : (l.take k).length = k := by rw [List.length_take]; omega
    refine VC.skip (VC.seq (VC.block (VC.seq (VC.text ?_))))
    refine VO.c (.move rfl) ?_
    refine VO.c (.ix (j := k) rfl rfl el43 (by omega)) ?_
    refine VO.r (.ld vt35) ?_
    refine VO.cell (.alloc zt35) ?_
    intro ww8
    refine VO.c (.assign rfl) ?_
    refine VO.setV (cs' := [St ((l[k]).1), St ((l[k]).2.1), St ((l[k]).2.2.1), .v (.sl .str) ((l[k]).2.2.2.1), I (((l[k]).2.2.2.2).1), I (((l[k]).2.2.2.2).2)]) vt35 .v ?_
    refine VO.shut [(7, .p y35 (l[k]))] (.cons rfl (.var m0 .refl) .nil) ?_
    refine VO.go (VC.seq (VC.text ?_))
    refine VO.c (.move rfl) ?_
    refine VO.c (.move rfl) ?_
    refine VO.r (.cutH rfl rfl el43 (by omega)) ?_
    rw [Int.toNat_natCast]
    refine VO.r (.len el43) ?_
    refine VO.c (.move rfl) ?_
    refine VO.go (VC.block ?_)
    refine VC.keep [(0, .v y43 l), (5, .raw out), (6, I ((k : Nat) : Int)), (7, .p y35 (l[k])), (16, .v y43 l), (17, I ((l.length : Nat) : Int)), (18, I ((k : Nat) : Int)), (25, .v y43 (l.take k)), (26, I (((l.take k).length : Nat) : Int)), (27, I ((0 : Nat) : Int))] ⟨rfl, rfl, rfl, rfl, rfl, rfl, rfl, rfl, rfl, rfl, trivial⟩ ?_
    refine VC.loop (I := fun kk ff ss => ∃ (i : Nat) (out2 : Value), kk = k - i ∧ ff = [(0, .v y43 l), (5, .raw out2), (6, I ((k : Nat) : Int)), (7, .p y35 (l[k])), (16, .v y43 l), (17, I ((l.length : Nat) : Int)), (18, I ((k : Nat) : Int)), (25, .v y43 (l.take k)), (26, I (((l.take k).length : Nat) : Int)), (27, I ((i : Nat) : Int))] ∧ ss = [(out2, .row 127 y127 (clP l k ++ clRow l k i))] ∧ (i ≤ k)) ?_ _ _ _ ⟨0, out, rfl, rfl, (by rw [show clRow l k 0 = [] from rfl, List.append_nil]), Nat.zero_le _⟩
    rintro kk ff ss ⟨i, out2, hk2, rfl, rfl, hi⟩
    refine VC.seq (VC.text ?_)
    refine VO.c (.lss) ?_
    refine VO.go (VC.seq ?_)
    refine VC.condD rfl (fun c9 => ?_) (fun c9 => ?_)
    · have hik : i < k := by omega
      have hil : i < l.length := by omega
      have hgi : (l.take k)[i]'(by omega) = l[i] := List.getElem_take
      have hki := hk _ (List.getElem_mem hil)
      have hnm : (reasonR (reasonIx ((l.take k)[i]'(by omega)) l[k])).1 = clsN l i k := by rw [hgi, reasonR_name]; unfold clsN; rw [pAt_eq hil, pAt_eq hkl]
      have hlr := clRow_len (l := l) (k := k) (i := i)
      refine VC.skip (VC.seq (VC.block (VC.seq (VC.text ?_))))
      refine VO.c (.move rfl) ?_
      refine VO.c (.ix (j := i) rfl rfl el43 (by omega)) ?_
      refine VO.r (.ld vt35) ?_
      refine VO.cell (.alloc zt35) ?_
      intro ww9
      refine VO.c (.assign rfl) ?_
      refine VO.setV (cs' := [St (((l.take k)[i]).1), St (((l.take k)[i]).2.1), St (((l.take k)[i]).2.2.1), .v (.sl .str) (((l.take k)[i]).2.2.2.1), I ((((l.take k)[i]).2.2.2.2).1), I ((((l.take k)[i]).2.2.2.2).2)]) vt35 .v ?_
      refine VO.shut [(9, .p y35 ((l.take k)[i]))] (.cons rfl (.var m0 .refl) .nil) ?_
      refine VO.go (VC.seq (VC.text ?_))
      refine VO.r (.ld vt35) ?_
      refine VO.r (.ld vt35) ?_
      refine VO.call rfl rfl (VF.call (sExcl_ok (by rw [hgi]; exact hki) hkk)) ?_
      refine VO.cell (.alloc zt140) ?_
      intro ww10
      refine VO.setV (cs' := [St ((reasonR (reasonIx ((l.take k)[i]) (l[k]))).1), .v .fn ((reasonR (reasonIx ((l.take k)[i]) (l[k]))).2.1), I ((reasonR (reasonIx ((l.take k)[i]) (l[k]))).2.2)]) vt140 .v ?_
      refine VO.shut [(10, .p y140 (reasonR (reasonIx ((l.take k)[i]) (l[k]))))] (.cons rfl (.var m0 .refl) .nil) ?_
      refine VO.go (VC.seq (VC.text ?_))
      refine VO.c (.fa (.l .o)) ?_
      refine VO.r (.ld vt9) ?_
      refine VO.c (.sneq) ?_
      refine VO.go ?_
      refine VC.condD rfl (fun c12 => ?_) (fun c12 => ?_)
      · refine VC.text ?_
        refine VO.c (.move rfl) ?_
        refine VO.c (.move rfl) ?_
        refine VO.c (.move rfl) ?_
        refine VO.c (.fa (.l .o)) ?_
        refine VO.r (.ld vt9) ?_
        refine VO.c (.build (((i : Nat) : Int), ((k : Nat) : Int), (reasonR (reasonIx ((l.take k)[i]) (l[k]))).1) bt127) ?_
        refine VO.new (.lit [(((i : Nat) : Int), ((k : Nat) : Int), (reasonR (reasonIx ((l.take k)[i]) (l[k]))).1)] el110) ?_
        refine VO.app rfl rfl el110 el110 (by simp; omega) ?_
        intro ww11
        refine VO.c (.assign rfl) ?_
        refine VO.nil (VC.text ?_)
        refine VO.c (.add rfl rfl (by omega)) ?_
        refine VO.c (.move rfl) ?_
        refine VO.nil ?_
        refine ⟨_, [(0, .v y43 l), (5, .raw ww11), (6, I ((k : Nat) : Int)), (7, .p y35 (l[k])), (16, .v y43 l), (17, I ((l.length : Nat) : Int)), (18, I ((k : Nat) : Int)), (25, .v y43 (l.take k)), (26, I (((l.take k).length : Nat) : Int)), (27, I (((i + 1) : Nat) : Int))], ?_, ⟨rfl, rfl, rfl, rfl, rfl, rfl, rfl, rfl, rfl, rfl, trivial⟩, (i + 1), ww11, rfl, rfl, (by first | rw [clRow_succ, clsAt_t (show ¬ _ = _ by rw [← hnm]; exact c12), ← hnm, List.append_assoc] | rw [clRow_succ, clsAt_f (hnm.symm.trans (Classical.not_not.1 c12)), List.append_nil]), (by omega)⟩
        omega
      refine VC.skip (VC.text ?_)
      refine VO.c (.add rfl rfl (by omega)) ?_
      refine VO.c (.move rfl) ?_
      refine VO.nil ?_
      refine ⟨_, [(0, .v y43 l), (5, .raw out2), (6, I ((k : Nat) : Int)), (7, .p y35 (l[k])), (16, .v y43 l), (17, I ((l.length : Nat) : Int)), (18, I ((k : Nat) : Int)), (25, .v y43 (l.take k)), (26, I (((l.take k).length : Nat) : Int)), (27, I (((i + 1) : Nat) : Int))], ?_, ⟨rfl, rfl, rfl, rfl, rfl, rfl, rfl, rfl, rfl, rfl, trivial⟩, (i + 1), out2, rfl, rfl, (by first | rw [clRow_succ, clsAt_t (show ¬ _ = _ by rw [← hnm]; exact c12), ← hnm, List.append_assoc] | rw [clRow_succ, clsAt_f (hnm.symm.trans (Classical.not_not.1 c12)), List.append_nil]), (by omega)⟩
      omega
    refine VC.exit (VC.text ?_)
    refine VO.c (.add rfl rfl (by omega)) ?_
    refine VO.c (.move rfl) ?_
    refine VO.nil ?_
    refine ⟨_, [(0, .v y43 l), (5, .raw out2), (16, .v y43 l), (17, I ((l.length : Nat) : Int)), (18, I (((k + 1) : Nat) : Int))], ?_, ⟨rfl, rfl, rfl, rfl, rfl, trivial⟩, (k + 1), out2, rfl, rfl, (by rw [clP_succ, show i = k by omega]), (by omega)⟩
    omega
  have hlc := clP_len (l := l) (k := k) (n := l.length) (by omega)
  have hlm : k * l.length ≤ 100 * 100 := Nat.mul_le_mul (by omega) hl
  refine VC.exit (VC.seq (VC.text ?_))
  refine VO.c (.move rfl) ?_
  refine VO.callG [(out, .row 127 y127 (clP l k))] rfl rfl rfl (VFG.call (zSortC_ok (by first | assumption | omega | simp))) ?_
  rintro _ _ ⟨rfl, rfl⟩
  show VO _ _ _ _ _ _ [(out, .row 127 y127 (sortC (clP l k)))] _
  refine VO.go (VC.seq (VC.text ?_))
  refine VO.c (.move rfl) ?_
  refine VO.c (.assign rfl) ?_
  refine VO.c (.assign rfl) ?_
  refine VO.go ?_
  refine VC.ret ?_
  exact VEnd.two rfl (evC (.row m0)) evT (pvE (by rw [if_pos (Classical.not_not.1 c2), show k = l.length by omega])) (pvI (by exact (Classical.not_not.1 c2).symm))
end Go.Proofs
namespace Go.Proofs
open Go.Fs Go.Sort
set_option linter.unusedVariables false
theorem perm_mid {α : Type} {a b c d : List α} : (a ++ b ++ (c ++ d)).Perm ((a ++ c) ++ (b ++ d)) := by
  have h : (b ++ (c ++ d)).Perm (c ++ (b ++ d)) := by
    rw [← List.append_assoc, ← List.append_assoc]
    exact List.Perm.append_right d List.perm_append_comm
  rw [List.append_assoc, List.append_assoc]
  exact List.Perm.append_left a h
theorem clR_next {l : List Permit} {n : Nat} : ∀ {i : Nat}, i ≤ n → (clR l (n + 1) i).Perm (clR l n i ++ clRow l n i)
  | 0, _ => List.Perm.refl _
  | i + 1, h => by
    have ih := clR_next (l := l) (n := n) (i := i) (by omega)
    rw [clR_succ, clR_succ, clRow_succ, show n + 1 - (i + 1) = (n - (i + 1)) + 1 by omega, clUp_succ, show i + 1 + (n - (i + 1)) = n by omega]
    exact (List.Perm.append_right _ ih).trans perm_mid
theorem clP_perm {l : List Permit} : ∀ {n : Nat}, (clP l n).Perm (clR l n n)
  | 0 => List.Perm.refl _
  | n + 1 => by
    have ih := clP_perm (l := l) (n := n)
    have h1 := clR_next (l := l) (n := n) (i := n) (Nat.le_refl _)
    have h2 : clR l (n + 1) (n + 1) = clR l (n + 1) n := by rw [clR_succ, show n + 1 - (n + 1) = 0 by omega]; exact List.append_nil _
    rw [clP_succ, h2]
    exact (List.Perm.append_right _ ih).trans h1.symm
theorem clsAt_mem {l : List Permit} {a b : Nat} {x : Clsh} (h : x ∈ clsAt l a b) : x = ((a : Int), (b : Int), clsN l a b) := by
  unfold clsAt at h
  split at h
  · cases h
  simpa using h
theorem clUp_mem {l : List Permit} {i d : Nat} {x : Clsh} (h : x ∈ clUp l i d) : ∃ b : Nat, b < i + 1 + d ∧ x = ((i : Int), (b : Int), clsN l i b) := by
  unfold clUp at h
  obtain ⟨c, h1, h2⟩ := List.mem_flatMap.1 h
  exact ⟨i + 1 + c, by have := List.mem_range.1 h1; omega, clsAt_mem h2⟩
theorem clR_mem {l : List Permit} {n i : Nat} {x : Clsh} (h : x ∈ clR l n i) : ∃ a b : Nat, a < i ∧ x = ((a : Int), (b : Int), clsN l a b) := by
  unfold clR at h
  obtain ⟨c, h1, h2⟩ := List.mem_flatMap.1 h
  obtain ⟨b, _, h3⟩ := clUp_mem h2
  exact ⟨c, b, List.mem_range.1 h1, h3⟩
def leC (x y : Clsh) : Prop := ltOf cmpC y x = false
theorem leC_of {x y : Clsh} (h : x.1 < y.1 ∨ (x.1 = y.1 ∧ x.2.1 < y.2.1)) : leC x y := by
  unfold leC
  rw [ltC, decide_eq_false_iff_not]
  omega
theorem clUp_asc {l : List Permit} {i : Nat} : ∀ {d : Nat}, (clUp l i d).Pairwise leC
  | 0 => List.Pairwise.nil
  | d + 1 => by
    rw [clUp_succ, List.pairwise_append]
    refine ⟨clUp_asc, ?_, fun x hx y hy => ?_⟩
    · unfold clsAt; split <;> simp
    obtain ⟨b, hb, rfl⟩ := clUp_mem hx
    obtain rfl := clsAt_mem hy
    refine leC_of (.inr ⟨rfl, ?_⟩)
    show (b : Int) < ((i + 1 + d : Nat) : Int)
    omega
theorem clR_asc {l : List Permit} {n : Nat} : ∀ {i : Nat}, (clR l n i).Pairwise leC
  | 0 => List.Pairwise.nil
  | i + 1 => by
    rw [clR_succ, List.pairwise_append]
    refine ⟨clR_asc, clUp_asc, fun x hx y hy => ?_⟩
    obtain ⟨a, b, ha, rfl⟩ := clR_mem hx
    obtain ⟨c, _, rfl⟩ := clUp_mem hy
    refine leC_of (.inl ?_)
    show (a : Int) < (i : Int)
    omega
theorem clash_sort {l : List Permit} {n : Nat} : sortC (clP l n) = clR l n n := by
  have hp := (sortC_perm (clP l n)).trans clP_perm
  refine List.Perm.eq_of_pairwise (le := leC) (fun a b ha hb h1 h2 => ?_) (sortC_sorted _) clR_asc hp
  obtain ⟨a1, a2, _, rfl⟩ := clR_mem (hp.subset ha)
  obtain ⟨b1, b2, _, rfl⟩ := clR_mem hb
  unfold leC at h1 h2
  rw [ltC, decide_eq_false_iff_not] at h1 h2
  have h1 : ¬ ((b1 : Int) < a1 ∨ ((b1 : Int) = a1 ∧ (b2 : Int) < a2)) := h1
  have h2 : ¬ ((a1 : Int) < b1 ∨ ((a1 : Int) = b1 ∧ (a2 : Int) < b2)) := h2
  obtain rfl : a1 = b1 := by omega
  obtain rfl : a2 = b2 := by omega
  rfl
end Go.Proofs
namespace Go.Proofs
open Go.Fs
set_option linter.unusedVariables false
set_option maxHeartbeats 2000000

theorem clash_t {l : List Permit} (h : permsE l = 0) : (if permsE l = 0 then sortC (clP l l.length) else []) = clR l l.length l.length := by rw [if_pos h, clash_sort]
theorem busyC_t {l : List Permit} (h : permsE l = 0) : busyC l = whenE (decide ((l.length : Int) = 0)) 12 := by
  unfold busyC
  rw [h]
  by_cases h2 : (l.length : Int) = 0
  · rw [decide_eq_true h2] <;> rfl
  rw [decide_eq_false h2] <;> rfl
theorem busy_1 {l : List Permit} (h : permsE l = 0) : (if busyC l = 0 then (busyE l l.length).1 else 0) = (busyE l l.length).1 := by
  rw [busyC_t h]
  by_cases h2 : (l.length : Int) = 0
  · have : l = [] := List.length_eq_zero_iff.1 (by omega)
    subst this; rfl
  rw [decide_eq_false h2] <;> rfl
theorem busy_2 {l : List Permit} (h : permsE l = 0) : (if busyC l = 0 then (busyE l l.length).2 else 0) = (busyE l l.length).2 := by
  rw [busyC_t h]
  by_cases h2 : (l.length : Int) = 0
  · have : l = [] := List.length_eq_zero_iff.1 (by omega)
    subst this; rfl
  rw [decide_eq_false h2] <;> rfl
end Go.Proofs
namespace Go.Proofs
open Go.Fs
set_option linter.unusedVariables false
def incM (m : List (ByteArray × Int)) (w : ByteArray) : List (ByteArray × Int) := mset m w ((mget m w).getD 0 + 1)
def cntM (ws : List ByteArray) : List (ByteArray × Int) := ws.foldl incM []
theorem cntM_app {ws vs : List ByteArray} : cntM (ws ++ vs) = vs.foldl incM (cntM ws) := List.foldl_append
def cntB : List ByteArray → ByteArray → Nat
  | [], _ => 0
  | w :: r, v => (if v = w then 1 else 0) + cntB r v
theorem cntB_pos {v : ByteArray} : ∀ {ws : List ByteArray}, 0 < cntB ws v ↔ v ∈ ws
  | [] => by simp [cntB]
  | w :: ws => by
    have ih := cntB_pos (v := v) (ws := ws)
    unfold cntB
    rw [List.mem_cons, ← ih]
    by_cases h : v = w
    · rw [if_pos h]; simp [h]; omega
    rw [if_neg h]; simp [h]
theorem cntB_one {v : ByteArray} : ∀ {ws : List ByteArray}, ws.Pairwise (· ≠ ·) → cntB ws v ≤ 1
  | [], _ => Nat.zero_le _
  | w :: ws, h => by
    have h1 := List.pairwise_cons.1 h
    have ih := cntB_one (v := v) h1.2
    unfold cntB
    by_cases hv : v = w
    · have : ¬ 0 < cntB ws v := fun hp => h1.1 v (cntB_pos.1 hp) hv.symm
      rw [if_pos hv]; omega
    rw [if_neg hv]; omega
theorem cnt_get : ∀ {ws : List ByteArray} {m : List (ByteArray × Int)} {v : ByteArray}, (mget (ws.foldl incM m) v).getD 0 = (mget m v).getD 0 + (cntB ws v : Nat)
  | [], m, v => by simp [cntB]
  | w :: ws, m, v => by
    rw [List.foldl_cons, cnt_get]
    unfold incM
    rw [mget_mset]
    show _ = _ + (((if v = w then 1 else 0) + cntB ws v : Nat) : Int)
    by_cases h : v = w
    · subst h
      rw [if_pos rfl, if_pos rfl]
      show (mget m v).getD 0 + 1 + _ = _
      omega
    rw [if_neg h, if_neg h]; omega
theorem cntM_get {ws : List ByteArray} {v : ByteArray} : (mget (cntM ws) v).getD 0 = (cntB ws v : Nat) := by
  unfold cntM
  rw [cnt_get]; simp [mget]
theorem mset_len {α β : Type} [DecidableEq α] : ∀ {m : List (α × β)} {x : α} {y : β}, (mset m x y).length = if (mget m x).isSome = true then m.length else m.length + 1
  | [], x, y => rfl
  | (a, b) :: r, x, y => by
    unfold mset mget
    by_cases h : x = a
    · rw [if_pos h, if_pos h]; simp
    rw [if_neg h, if_neg h, List.length_cons, mset_len]
    split <;> simp
theorem insE_len {w : ByteArray} : ∀ {l : List ByteArray}, (insE w l).length = l.length + 1
  | [] => rfl
  | x :: l => by unfold insE; split <;> simp [insE_len]
theorem cnt_len : ∀ {ws : List ByteArray} {m : List (ByteArray × Int)} {s : List ByteArray}, m.length = s.length → (∀ v, (mget m v).isSome = hasB s v) → (ws.foldl incM m).length = (ws.foldl putE s).length
  | [], m, s, h1, h2 => h1
  | w :: ws, m, s, h1, h2 => by
    rw [List.foldl_cons, List.foldl_cons]
    refine cnt_len ?_ fun v => ?_
    · unfold incM putE
      rw [mset_len, h2 w]
      split
      · exact h1
      rw [insE_len, h1]
    unfold incM
    rw [mget_mset]
    rw [Bool.eq_iff_iff, hasB_mem, mem_putE, ← hasB_mem, ← h2 v]
    by_cases h : v = w
    · rw [if_pos h]; simp [h]
    rw [if_neg h]; simp [h]
theorem cntM_len {ws : List ByteArray} : (cntM ws).length = (setE ws).length := cnt_len rfl fun v => rfl
theorem cnt_pos {ws : List ByteArray} {v : ByteArray} (h : v ∈ setE ws) : ¬ (mget (cntM ws) v).getD 0 = 0 := by
  have := cntB_pos.2 (mem_setE.1 h)
  rw [cntM_get]; omega
theorem validsE_all {l : List Permit} {ss : List Season} {n : Nat} (h : validsE l ss n = 0) {k : Nat} (hk : k < n) (hl : k < l.length) : issueE (l.take k) ss l[k] = 0 := by
  unfold validsE at h
  have := firstE_all.1 h _ (List.mem_map.2 ⟨k, List.mem_range.2 hk, rfl⟩)
  rwa [getDg _ _ hl] at this
theorem issueE_zero {l : List Permit} {ss : List Season} {p : Permit} (h : issueE l ss p = 0) : clashE l p = 0 ∧ ¬ crowdedE (l ++ [p]) ss p.2.2.2.2 = true := by
  unfold issueE at h
  split at h
  · rename_i h1; exact absurd h h1
  rename_i h1
  refine ⟨Classical.not_not.1 h1, fun h2 => ?_⟩
  rw [if_pos h2] at h; cases h
theorem reasonR_four {k : Nat} (h4 : k ≤ 4) (h : (reasonR k).2.2 = 0) : k = 4 := by
  rcases k with _ | _ | _ | _ | _ | k
  · cases h
  · cases h
  · cases h
  · cases h
  · rfl
  omega
def Free (l : List Permit) : Prop := ∀ i k (hi : i < l.length) (hk : k < l.length), i < k → reasonIx l[i] l[k] = 4
theorem valid_free {l : List Permit} {ss : List Season} (h : validsE l ss l.length = 0) : Free l := fun i k hi hk hik => by
  have h1 := (issueE_zero (validsE_all h hk hk)).1
  unfold clashE at h1
  have h2 := firstE_all.1 h1 _ (List.mem_map.2 ⟨l[i], ?_, rfl⟩)
  · exact reasonR_four reasonIx_lt h2
  rw [List.mem_iff_getElem]
  refine ⟨i, by rw [List.length_take]; omega, List.getElem_take⟩
theorem at_last {l : List Permit} {t : Int} : ∀ {n : Nat}, n ≤ l.length → atE (l.take n) t ≠ [] → ∃ k, ∃ hk : k < l.length, hasT l[k].2.2.2.2 t = true ∧ atE (l.take n) t = atE (l.take k ++ [l[k]]) t
  | 0, _, h => absurd rfl h
  | n + 1, hn, h => by
    have e0 : l.take (n + 1) = l.take n ++ [l[n]] := List.take_succ_eq_append_getElem hn
    by_cases hp : hasT l[n].2.2.2.2 t = true
    · exact ⟨n, hn, hp, by rw [e0]⟩
    have e : atE (l.take (n + 1)) t = atE (l.take n) t := by rw [e0]; unfold atE; rw [List.filter_append, List.filter_cons, if_neg hp]; simp
    rw [e] at h
    obtain ⟨k, hk, h1, h2⟩ := at_last (by omega) h
    exact ⟨k, hk, h1, by rw [e, h2]⟩
theorem valid_over {l : List Permit} {ss : List Season} (h : validsE l ss l.length = 0) (hs : ∀ t, 0 ≤ permittedE ss t) (t : Int) : ((outE l t).length : Int) ≤ permittedE ss t := by
  by_cases h0 : atE l t = []
  · have : outE l t = [] := by unfold outE; rw [h0]; rfl
    rw [this]; exact hs t
  obtain ⟨k, hk, h1, h2⟩ := at_last (l := l) (t := t) (Nat.le_refl l.length) (by rwa [List.take_length])
  rw [List.take_length] at h2
  have h3 := (issueE_zero (validsE_all h hk hk)).2
  have h4 : ¬ overE (l.take k ++ [l[k]]) ss t = true := fun ho => h3 (crowded_iff.2 ⟨t, (hasT_iff.1 h1).1, (hasT_iff.1 h1).2, ho⟩)
  have h5 : outE l t = outE (l.take k ++ [l[k]]) t := by unfold outE; rw [h2]
  unfold overE at h4
  rw [decide_eq_true_eq, ← h5] at h4
  omega
end Go.Proofs
namespace Go.Proofs
open Go.Fs
set_option linter.unusedVariables false
theorem locks_asc : ∀ {ls : List ByteArray} {b : ByteArray}, locksE b ls = 0 → (∀ x ∈ ls, ltS b x = true) ∧ Asc ls
  | [], b, _ => ⟨fun x hx => (by cases hx), asc_nil⟩
  | y :: ls, b, h => by
    unfold locksE wst at h
    by_cases h0 : lockE b y = 0
    · rw [if_pos h0] at h
      have ih := locks_asc (ls := ls) (b := y) h
      have h1 : ltS b y = true := by
        unfold lockE at h0
        have := firstE_all.1 h0 (whenE (!ltS b y) 11) (by simp)
        unfold whenE at this
        revert this
        cases ltS b y
        · intro h; cases h
        intro _; rfl
      exact ⟨fun x hx => (List.mem_cons.1 hx).elim (fun e => e ▸ h1) fun hx => ltS_trans h1 (ih.1 x hx), List.pairwise_cons.2 ⟨ih.1, ih.2⟩⟩
    rw [if_neg h0] at h; exact absurd h h0
theorem asc_ne {l : List ByteArray} (h : Asc l) : l.Pairwise (· ≠ ·) := h.imp fun {a b} h e => by
  subst e
  rw [ltS_irr] at h; cases h
theorem perm_locks {p : Permit} (h : permE p = 0) : p.2.2.2.1.Pairwise (· ≠ ·) := by
  unfold permE at h
  rw [firstE_all] at h
  exact asc_ne (locks_asc (h (locksE ByteArray.empty p.2.2.2.1) (by simp))).2
theorem seas_nonneg : ∀ {ss : List Season} {e : Int}, ssE e ss = 0 → ∀ s ∈ ss, 0 ≤ s.2
  | [], _, _, s, hs => by cases hs
  | x :: ss, e, h, s, hs => by
    unfold ssE wst at h
    by_cases h0 : seasonE e x = 0
    · rw [if_pos h0] at h
      rcases List.mem_cons.1 hs with rfl | hs
      · unfold seasonE at h0
        have := firstE_all.1 h0 (rangeE s.2 0 16) (by simp)
        unfold rangeE at this
        split at this
        · cases this
        omega
      exact seas_nonneg (e := x.1.2) h s hs
    rw [if_neg h0] at h; exact absurd h h0
theorem permitted_nonneg {ss : List Season} (h : ∀ s ∈ ss, 0 ≤ s.2) (t : Int) : 0 ≤ permittedE ss t := by
  induction ss with
  | nil => exact Int.le_refl _
  | cons s ss ih =>
    unfold permittedE
    split
    · exact h s List.mem_cons_self
    exact ih fun x hx => h x (List.mem_cons_of_mem _ hx)
theorem seasE_nonneg {ss : List Season} (h : seasE ss = 0) (t : Int) : 0 ≤ permittedE ss t := by
  unfold seasE at h
  split at h
  · cases h
  exact permitted_nonneg (seas_nonneg h) t
theorem common_iff {a b : List ByteArray} : commonB a b = true ↔ ∃ x, x ∈ a ∧ x ∈ b := by
  unfold commonB
  rw [List.any_eq_true]
  constructor
  · rintro ⟨x, h1, h2⟩; exact ⟨x, h1, hasB_mem.1 h2⟩
  rintro ⟨x, h1, h2⟩; exact ⟨x, h1, hasB_mem.2 h2⟩
theorem common_comm {a b : List ByteArray} : commonB a b = commonB b a := by
  rw [Bool.eq_iff_iff, common_iff, common_iff]
  exact ⟨fun ⟨x, h1, h2⟩ => ⟨x, h2, h1⟩, fun ⟨x, h1, h2⟩ => ⟨x, h2, h1⟩⟩
theorem meet_comm {a b : Int × Int} : meetB a b = meetB b a := by
  unfold meetB
  rw [decide_eq_decide.2 (⟨Eq.symm, Eq.symm⟩ : a = b ↔ b = a), Int.max_comm a.1, Int.min_comm a.2]
theorem reason_comm {a b : Permit} : reasonIx a b = reasonIx b a := by
  unfold reasonIx
  rw [decide_eq_decide.2 (⟨Eq.symm, Eq.symm⟩ : a.1 = b.1 ↔ b.1 = a.1), decide_eq_decide.2 (⟨Eq.symm, Eq.symm⟩ : a.2.1 = b.2.1 ↔ b.2.1 = a.2.1), meet_comm, common_comm, Bool.or_comm (hasB a.2.2.2.1 b.2.2.1)]
def gatesW (l : List Permit) (t : Int) : List ByteArray := (atE l t).map fun p => p.2.2.1
def crewsW (l : List Permit) (t : Int) : List ByteArray := (atE l t).map fun p => p.2.1
def locksW (l : List Permit) (t : Int) : List ByteArray := (atE l t).flatMap fun p => p.2.2.2.1
structure Aprt (p q : Permit) : Prop where
  crew : p.2.1 ≠ q.2.1
  lock : ∀ x ∈ p.2.2.2.1, ∀ y ∈ q.2.2.2.1, x ≠ y
  gate : ∀ x ∈ p.2.2.2.1, x ≠ q.2.2.1
  etag : ∀ x ∈ q.2.2.2.1, x ≠ p.2.2.1
theorem aprt_of {p q : Permit} {t : Int} (hp : hasT p.2.2.2.2 t = true) (hq : hasT q.2.2.2.2 t = true) (h : reasonIx p q = 4) : Aprt p q := by
  have h1 := hasT_iff.1 hp
  have h2 := hasT_iff.1 hq
  have hm : meetB p.2.2.2.2 q.2.2.2.2 = true := by
    unfold meetB
    rw [Bool.or_eq_true]
    right
    rw [decide_eq_true_eq]; omega
  unfold reasonIx at h
  rw [hm] at h
  simp only [Bool.true_and, decide_eq_true_eq, Bool.or_eq_true] at h
  by_cases c1 : p.1 = q.1
  · rw [if_pos c1] at h; cases h
  rw [if_neg c1] at h
  by_cases c2 : p.2.1 = q.2.1
  · rw [if_pos c2] at h; cases h
  rw [if_neg c2] at h
  by_cases c3 : commonB p.2.2.2.1 q.2.2.2.1 = true
  · rw [if_pos c3] at h; cases h
  rw [if_neg c3] at h
  by_cases c4 : hasB p.2.2.2.1 q.2.2.1 = true ∨ hasB q.2.2.2.1 p.2.2.1 = true
  · rw [if_pos c4] at h; cases h
  exact ⟨c2, fun x hx y hy e => c3 (common_iff.2 ⟨x, hx, e ▸ hy⟩), fun x hx e => c4 (.inl (hasB_mem.2 (e ▸ hx))), fun x hx e => c4 (.inr (hasB_mem.2 (e ▸ hx)))⟩
theorem at_apart {l : List Permit} {t : Int} (h : Free l) : (atE l t).Pairwise Aprt := by
  have h1 : l.Pairwise fun p q => reasonIx p q = 4 := List.pairwise_iff_getElem.2 fun i j hi hj hij => h i j hi hj hij
  have h2 : (atE l t).Pairwise fun p q => reasonIx p q = 4 := h1.sublist List.filter_sublist
  exact h2.imp_of_mem fun {a b} ha hb h => aprt_of (List.mem_filter.1 ha).2 (List.mem_filter.1 hb).2 h
theorem crew_one {l : List Permit} {t : Int} (h : Free l) (v : ByteArray) : cntB (crewsW l t) v ≤ 1 := cntB_one (List.pairwise_map.2 ((at_apart h).imp fun h => h.crew))
theorem lock_one {l : List Permit} {t : Int} (h : Free l) (hl : ∀ p ∈ l, permE p = 0) (v : ByteArray) : cntB (locksW l t) v ≤ 1 :=
  cntB_one (List.pairwise_flatMap.2 ⟨fun a ha => perm_locks (hl a (List.mem_filter.1 ha).1), (at_apart h).imp fun h => h.lock⟩)
theorem gate_none {l : List Permit} {t : Int} {p : Permit} {w : ByteArray} (h : Free l) (hp : p ∈ l) (ht : hasT p.2.2.2.2 t = true) (hw : w ∈ p.2.2.2.1) (hg : p.2.2.1 ≠ w) : cntB (gatesW l t) w = 0 := by
  refine Nat.eq_zero_of_not_pos fun hc => ?_
  obtain ⟨q, hq, e⟩ := List.mem_map.1 (cntB_pos.1 hc)
  have hpa : p ∈ atE l t := List.mem_filter.2 ⟨hp, ht⟩
  obtain ⟨i, hi, ei⟩ := List.mem_iff_getElem.1 hpa
  obtain ⟨k, hk, ek⟩ := List.mem_iff_getElem.1 hq
  have ha := List.pairwise_iff_getElem.1 (at_apart (t := t) h)
  rcases Nat.lt_trichotomy i k with h1 | h1 | h1
  · have := (ha i k hi hk h1).gate w (by rw [ei]; exact hw)
    rw [ek] at this; exact this e.symm
  · subst h1
    have : p = q := ei.symm.trans ek
    exact hg (this ▸ e)
  have := (ha k i hk hi h1).etag w (by rw [ei]; exact hw)
  rw [ek] at this; exact this e.symm
def topE (l : List Permit) : Nat → Int × Int
  | 0 => (0, 0)
  | t + 1 => if (topE l t).1 < ((outE l (t : Nat)).length : Int) then (((outE l (t : Nat)).length : Int), (t : Int)) else topE l t
theorem topE_t {l : List Permit} {t : Nat} (h : (topE l t).1 < ((outE l (t : Nat)).length : Int)) : topE l (t + 1) = (((outE l (t : Nat)).length : Int), (t : Int)) := if_pos h
theorem topE_f {l : List Permit} {t : Nat} (h : ¬ (topE l t).1 < ((outE l (t : Nat)).length : Int)) : topE l (t + 1) = topE l t := if_neg h
theorem topE_ok {l : List Permit} : ∀ n : Nat, (∀ t : Nat, t < n → ((outE l t).length : Int) ≤ (topE l n).1) ∧ (topE l n = (0, 0) ∨ ∃ f : Nat, f < n ∧ topE l n = (((outE l f).length : Int), (f : Int)) ∧ ∀ t : Nat, t < f → ((outE l t).length : Int) < ((outE l f).length : Int))
  | 0 => ⟨fun t ht => by omega, .inl rfl⟩
  | n + 1 => by
    obtain ⟨h1, h2⟩ := topE_ok (l := l) n
    by_cases h : (topE l n).1 < ((outE l (n : Nat)).length : Int)
    · rw [topE_t h]
      refine ⟨fun t ht => ?_, .inr ⟨n, by omega, rfl, fun t ht => ?_⟩⟩
      · by_cases e : t = n
        · subst e; exact Int.le_refl _
        have := h1 t (by omega)
        show ((outE l t).length : Int) ≤ ((outE l n).length : Int)
        omega
      have := h1 t ht
      omega
    rw [topE_f h]
    refine ⟨fun t ht => ?_, h2.imp id fun ⟨f, h3, h4, h5⟩ => ⟨f, by omega, h4, h5⟩⟩
    by_cases e : t = n
    · subst e; omega
    exact h1 t (by omega)
theorem busyE_ok {l : List Permit} : ∀ {n : Nat}, n ≤ l.length → (∀ j (hj : j < l.length), j < n → ((outE l l[j].2.2.2.2.1).length : Int) ≤ (busyE l n).2 ∧ (((outE l l[j].2.2.2.2.1).length : Int) = (busyE l n).2 → (busyE l n).1 ≤ l[j].2.2.2.2.1 ∨ (busyE l n).2 = 0)) ∧ (busyE l n = (0, 0) ∨ ∃ j, ∃ hj : j < l.length, busyE l n = (l[j].2.2.2.2.1, ((outE l l[j].2.2.2.2.1).length : Int)))
  | 0, _ => ⟨fun j hj h => by omega, .inl rfl⟩
  | n + 1, hn => by
    obtain ⟨h1, h2⟩ := busyE_ok (l := l) (n := n) (by omega)
    by_cases hc : (busyE l n).2 < ((outE l l[n].2.2.2.2.1).length : Int) ∨ (((outE l l[n].2.2.2.2.1).length : Int) = (busyE l n).2 ∧ l[n].2.2.2.2.1 < (busyE l n).1)
    · rw [busy_t (by omega) hc]
      refine ⟨fun j hj hjn => ?_, .inr ⟨n, by omega, rfl⟩⟩
      by_cases e : j = n
      · subst e; exact ⟨Int.le_refl _, fun _ => .inl (Int.le_refl _)⟩
      obtain ⟨h3, h4⟩ := h1 j hj (by omega)
      refine ⟨by show _ ≤ ((outE l l[n].2.2.2.2.1).length : Int); omega, fun e2 => ?_⟩
      have e2 : ((outE l l[j].2.2.2.2.1).length : Int) = ((outE l l[n].2.2.2.2.1).length : Int) := e2
      show l[n].2.2.2.2.1 ≤ _ ∨ ((outE l l[n].2.2.2.2.1).length : Int) = 0
      rcases hc with hc | ⟨hc, hd⟩
      · omega
      have := h4 (by omega)
      omega
    rw [busy_f (by omega) hc]
    refine ⟨fun j hj hjn => ?_, h2⟩
    by_cases e : j = n
    · subst e
      have a1 : ¬ (busyE l j).2 < ((outE l l[j].2.2.2.2.1).length : Int) := fun h => hc (.inl h)
      refine ⟨by omega, fun e2 => .inl ?_⟩
      have a2 : ¬ l[j].2.2.2.2.1 < (busyE l j).1 := fun h => hc (.inr ⟨e2, h⟩)
      omega
    exact h1 j hj (by omega)
theorem out_pos {l : List Permit} {t : Int} {p : Permit} (hp : p ∈ l) (ht : hasT p.2.2.2.2 t = true) : 0 < (outE l t).length := by
  have : p.2.2.1 ∈ outE l t := mem_setE.2 (List.mem_map.2 ⟨p, List.mem_filter.2 ⟨hp, ht⟩, rfl⟩)
  exact List.length_pos_of_mem this
theorem out_begin {l : List Permit} {t : Int} (h : 0 < (outE l t).length) : ∃ j, ∃ hj : j < l.length, l[j].2.2.2.2.1 ≤ t ∧ (outE l t).length ≤ (outE l l[j].2.2.2.2.1).length := by
  have hne : atE l t ≠ [] := fun e => by unfold outE at h; rw [e] at h; simp [setE] at h
  obtain ⟨p, hp⟩ := List.exists_mem_of_ne_nil _ hne
  have hpt := hasT_iff.1 (List.mem_filter.1 hp).2
  obtain ⟨y, hy, hyt, hmax⟩ := last_le (t := t) ((atE l t).map fun p => p.2.2.2.2.1) _ (List.mem_map.2 ⟨p, hp, rfl⟩) hpt.1
  obtain ⟨q, hq, rfl⟩ := List.mem_map.1 hy
  obtain ⟨j, hj, ej⟩ := List.mem_iff_getElem.1 (List.mem_filter.1 hq).1
  refine ⟨j, hj, by rw [ej]; exact hyt, ?_⟩
  rw [ej]
  refine out_len fun r hr hrt => ?_
  have h1 := hasT_iff.1 hrt
  have h2 := hmax _ (List.mem_map.2 ⟨r, List.mem_filter.2 ⟨hr, hrt⟩, rfl⟩) h1.1
  exact hasT_iff.2 ⟨h2, by omega⟩
theorem busy_top {l : List Permit} (hv : PermV l) (h2 : ∀ p ∈ l, p.2.2.2.2.2 ≤ 200) (hl : l ≠ []) : (busyE l l.length).1 = (topE l 200).2 ∧ (busyE l l.length).2 = (topE l 200).1 := by
  obtain ⟨b1, b2⟩ := busyE_ok (l := l) (Nat.le_refl l.length)
  obtain ⟨t1, t2⟩ := topE_ok (l := l) 200
  have hspan : ∀ j (hj : j < l.length), 0 ≤ l[j].2.2.2.2.1 ∧ l[j].2.2.2.2.1 < 200 ∧ 0 < (outE l l[j].2.2.2.2.1).length := fun j hj => by
    have h3 := spanE_ok (hv _ (List.getElem_mem hj))
    have h4 := h2 _ (List.getElem_mem hj)
    exact ⟨h3.1, by omega, out_pos (List.getElem_mem hj) (hasT_iff.2 ⟨Int.le_refl _, h3.2.1⟩)⟩
  have hpos : 0 < l.length := List.length_pos_iff.2 hl
  have hb0 := (b1 0 hpos hpos).1
  have hs0 := hspan 0 hpos
  rcases b2 with b2 | ⟨j, hj, b2⟩
  · rw [b2] at hb0
    have hb0 : ((outE l l[0].2.2.2.2.1).length : Int) ≤ 0 := hb0
    omega
  have hsj := hspan j hj
  have hjt := t1 l[j].2.2.2.2.1.toNat (by omega)
  rw [Int.toNat_of_nonneg hsj.1] at hjt
  rcases t2 with t2 | ⟨f, hf, t2, t3⟩
  · rw [t2] at hjt
    have hjt : ((outE l l[j].2.2.2.2.1).length : Int) ≤ 0 := hjt
    omega
  rw [t2] at hjt
  have hjt : ((outE l l[j].2.2.2.2.1).length : Int) ≤ ((outE l (f : Nat)).length : Int) := hjt
  obtain ⟨k, hk, k1, k2⟩ := out_begin (l := l) (t := (f : Nat)) (by omega)
  have hsk := hspan k hk
  obtain ⟨k3, k4⟩ := b1 k hk hk
  have hbj : (busyE l l.length).2 = ((outE l l[j].2.2.2.2.1).length : Int) := by rw [b2]
  have hbj1 : (busyE l l.length).1 = l[j].2.2.2.2.1 := by rw [b2]
  have hkf : l[k].2.2.2.2.1 = (f : Int) := by
    refine Classical.byContradiction fun hne => ?_
    have := t3 l[k].2.2.2.2.1.toNat (by omega)
    rw [Int.toNat_of_nonneg hsk.1] at this
    omega
  have hjf : ¬ l[j].2.2.2.2.1 < (f : Int) := fun hlt => by
    have := t3 l[j].2.2.2.2.1.toNat (by omega)
    rw [Int.toNat_of_nonneg hsj.1] at this
    omega
  have k5 := k4 (by omega)
  rw [t2]
  constructor
  · show _ = (f : Int)
    omega
  show _ = ((outE l (f : Nat)).length : Int)
  omega
end Go.Proofs
namespace Go.Proofs
open Go.Fs
set_option linter.unusedVariables false
abbrev Tab := List ((Int × Int) × ByteArray)
def tabP (m : Tab) (x : Clsh) : Tab := mset m (x.1, x.2.1) x.2.2
def tabE (cs : List Clsh) : Tab := cs.foldl tabP []
theorem tabE_succ {cs : List Clsh} {i : Nat} (h : i < cs.length) : tabE (cs.take (i + 1)) = mset (tabE (cs.take i)) (cs[i].1, cs[i].2.1) cs[i].2.2 := by
  unfold tabE
  rw [List.take_succ_eq_append_getElem h, List.foldl_append]; rfl
theorem tab_no {k : Int × Int} : ∀ {cs : List Clsh} {m : Tab}, (∀ x ∈ cs, (x.1, x.2.1) ≠ k) → mget (cs.foldl tabP m) k = mget m k
  | [], m, _ => rfl
  | x :: cs, m, h => by
    rw [List.foldl_cons, tab_no fun y hy => h y (List.mem_cons_of_mem _ hy)]
    unfold tabP
    rw [mget_mset, if_neg fun e => h x List.mem_cons_self e.symm]
theorem tab_yes {k : Int × Int} {v : ByteArray} : ∀ {cs : List Clsh} {m : Tab}, (∀ x ∈ cs, (x.1, x.2.1) = k → x.2.2 = v) → (mget m k = some v ∨ ∃ x ∈ cs, (x.1, x.2.1) = k) → mget (cs.foldl tabP m) k = some v
  | [], m, _, h => by
    rcases h with h | ⟨x, hx, _⟩
    · exact h
    cases hx
  | x :: cs, m, h1, h2 => by
    rw [List.foldl_cons]
    refine tab_yes (fun y hy => h1 y (List.mem_cons_of_mem _ hy)) ?_
    unfold tabP
    rw [mget_mset]
    by_cases e : k = (x.1, x.2.1)
    · rw [if_pos e, h1 x List.mem_cons_self e.symm]; exact .inl rfl
    rw [if_neg e]
    rcases h2 with h2 | ⟨y, hy, hk⟩
    · exact .inl h2
    rcases List.mem_cons.1 hy with rfl | hy
    · exact absurd hk.symm e
    exact .inr ⟨y, hy, hk⟩
theorem clR_is {l : List Permit} {n i : Nat} {x : Clsh} (h : x ∈ clR l n i) : ∃ a b : Nat, a < b ∧ a < i ∧ b < n ∧ ¬ clsN l a b = ByteArray.empty ∧ x = ((a : Int), (b : Int), clsN l a b) := by
  unfold clR at h
  obtain ⟨a, h1, h2⟩ := List.mem_flatMap.1 h
  unfold clUp at h2
  obtain ⟨d, h3, h4⟩ := List.mem_flatMap.1 h2
  have h1 := List.mem_range.1 h1
  have h3 := List.mem_range.1 h3
  unfold clsAt at h4
  split at h4
  · cases h4
  rename_i hn
  exact ⟨a, a + 1 + d, by omega, h1, by omega, hn, by simpa using h4⟩
theorem clR_has {l : List Permit} {n a b : Nat} (h1 : a < b) (h2 : b < n) (hn : ¬ clsN l a b = ByteArray.empty) : ((a : Int), (b : Int), clsN l a b) ∈ clR l n n := by
  unfold clR
  refine List.mem_flatMap.2 ⟨a, List.mem_range.2 (by omega), ?_⟩
  unfold clUp
  refine List.mem_flatMap.2 ⟨b - (a + 1), List.mem_range.2 (by omega), ?_⟩
  rw [show a + 1 + (b - (a + 1)) = b by omega]
  unfold clsAt
  rw [if_neg hn]; simp
theorem tab_all {l : List Permit} {n a b : Nat} (h1 : a < b) (h2 : b < n) : (mget (tabE (clR l n n)) ((a : Int), (b : Int))).getD ByteArray.empty = clsN l a b := by
  unfold tabE
  by_cases hn : clsN l a b = ByteArray.empty
  · rw [tab_no fun x hx e => ?_]
    · rw [hn]; rfl
    obtain ⟨c, d, _, _, _, h3, rfl⟩ := clR_is hx
    obtain ⟨e1, e2⟩ := Prod.mk.inj e
    have e1 : (c : Int) = a := e1
    have e2 : (d : Int) = b := e2
    obtain rfl : c = a := by omega
    obtain rfl : d = b := by omega
    exact h3 hn
  rw [tab_yes (v := clsN l a b) (fun x hx e => ?_) (.inr ⟨_, clR_has h1 h2 hn, rfl⟩)]
  · rfl
  obtain ⟨c, d, _, _, _, h3, rfl⟩ := clR_is hx
  obtain ⟨e1, e2⟩ := Prod.mk.inj e
  have e1 : (c : Int) = a := e1
  have e2 : (d : Int) = b := e2
  obtain rfl : c = a := by omega
  obtain rfl : d = b := by omega
  rfl
def ltK (x y : Clsh) : Prop := x.1 < y.1 ∨ (x.1 = y.1 ∧ x.2.1 < y.2.1)
theorem clUp_lt {l : List Permit} {i : Nat} : ∀ {d : Nat}, (clUp l i d).Pairwise ltK
  | 0 => List.Pairwise.nil
  | d + 1 => by
    rw [clUp_succ, List.pairwise_append]
    refine ⟨clUp_lt, ?_, fun x hx y hy => ?_⟩
    · unfold clsAt; split <;> simp
    obtain ⟨b, hb, rfl⟩ := clUp_mem hx
    obtain rfl := clsAt_mem hy
    refine .inr ⟨rfl, ?_⟩
    show (b : Int) < ((i + 1 + d : Nat) : Int)
    omega
theorem clR_lt {l : List Permit} {n : Nat} : ∀ {i : Nat}, (clR l n i).Pairwise ltK
  | 0 => List.Pairwise.nil
  | i + 1 => by
    rw [clR_succ, List.pairwise_append]
    refine ⟨clR_lt, clUp_lt, fun x hx y hy => ?_⟩
    obtain ⟨a, b, ha, rfl⟩ := clR_mem hx
    obtain ⟨c, _, rfl⟩ := clUp_mem hy
    refine .inl ?_
    show (a : Int) < (i : Int)
    omega
theorem tab_new {l : List Permit} {n i : Nat} (h : i < (clR l n n).length) : (mget (tabE ((clR l n n).take i)) ((clR l n n)[i].1, (clR l n n)[i].2.1)).getD ByteArray.empty = ByteArray.empty := by
  unfold tabE
  rw [tab_no fun x hx e => ?_]
  · rfl
  obtain ⟨j, hj, rfl⟩ := List.mem_iff_getElem.1 hx
  rw [List.length_take] at hj
  rw [List.getElem_take] at e
  have := List.pairwise_iff_getElem.1 (clR_lt (l := l) (n := n) (i := n)) j i (by omega) h (by omega)
  obtain ⟨e1, e2⟩ := Prod.mk.inj e
  unfold ltK at this
  omega
def tri : Nat → Nat
  | 0 => 0
  | k + 1 => tri k + k
theorem clP_tri {l : List Permit} : ∀ {k : Nat}, (clP l k).length ≤ tri k
  | 0 => Nat.le_refl _
  | k + 1 => by
    have h1 := clP_tri (l := l) (k := k)
    have h2 := clRow_len (l := l) (k := k) (i := k)
    rw [clP_succ, List.length_append]
    unfold tri; omega
theorem clR_ten {l : List Permit} {n : Nat} (h : n ≤ 5) : (clR l n n).length ≤ 10 := by
  rw [← clP_perm.length_eq]
  refine Nat.le_trans clP_tri ?_
  have : n = 0 ∨ n = 1 ∨ n = 2 ∨ n = 3 ∨ n = 4 ∨ n = 5 := by omega
  rcases this with rfl | rfl | rfl | rfl | rfl | rfl <;> decide
theorem free_none {l : List Permit} (h : Free l) {n : Nat} (hn : n ≤ l.length) : clR l n n = [] := by
  refine List.eq_nil_iff_forall_not_mem.2 fun x hx => ?_
  obtain ⟨a, b, h1, h2, h3, h4, _⟩ := clR_is hx
  refine h4 ?_
  unfold clsN
  rw [pAt_eq (by omega), pAt_eq (by omega), h a b (by omega) (by omega) h1]; rfl
end Go.Proofs
namespace Go.Fs
variable {P : Program}
theorem keyArr2 {K : TypeId} (hb : arrB P K 2 = true) (hB : (match P.underlying K with | some td => isAggD td | none => false) = true) (hc : ∀ (em : Bool) (x : (Ty.pair (.int .i64) (.int .i64)).den), (runPure P (Instr.checkKey em 10000 K (.agg ((Ty.pair (.int .i64) (.int .i64)).flatC x).toArray))).isSome = true) : KeyT P K (.pair (.int .i64) (.int .i64)) where
  flat := rfl
  und := by
    cases hU : P.underlying K with
    | none => rw [hU] at hB; cases hB
    | some td =>
      rw [hU] at hB
      refine ⟨td, rfl, .inr ⟨fun u v => (by cases td <;> first | rfl | cases hB), fun u v x y inst hu hv => ?_⟩⟩
      have e1 := flat_agg hu rfl rfl
      have e2 := flat_agg hv rfl rfl
      unfold arrB at hb
      split at hb
      · rename_i m e hU2
        obtain ⟨hb, h4⟩ := band hb
        obtain ⟨hb, h3⟩ := band hb
        obtain ⟨h1, h2⟩ := band hb
        have h1 := nbeq h1
        have hi : P.underlying e = some (.int .i64) := by
          split at h3
          · rename_i k hk; rw [of_decide_eq_true h3] at hk; exact hk
          cases h3
        obtain ⟨i, hi2, hi3⟩ : ∃ i, P.info? e = some i ∧ i.size = 1 := by
          split at h4
          · rename_i i hi; exact ⟨i, hi, nbeq h4⟩
          cases h4
        have hrun : runPure P (Op.equal K u v) = some (decide ([x.1, x.2] = [y.1, y.2])) := by
          rw [e1, e2]; exact eq_arr (d := 9998) (xs := [x.1, x.2]) (ys := [y.1, y.2]) (n := 2) (hU2.trans (by rw [h1])) hi hi2 hi3 rfl rfl
        rw [hrun]
        congr 1
        refine decide_eq_decide.2 ⟨fun h => ?_, fun h => ?_⟩
        · injection h with a b
          injection b with b _
          exact Prod.ext a b
        rw [h]
      cases hb
  chk := fun em u x hu => by
    rw [flat_agg hu rfl rfl]; exact hc em x
  bits := fun u x hu => by
    rw [flat_agg hu rfl rfl]
    show ((((Ty.pair (.int .i64) (.int .i64)).flatC x).toArray.size == ((Ty.pair (.int .i64) (.int .i64)).flatC x).toArray.size) && (((Ty.pair (.int .i64) (.int .i64)).flatC x).toArray.toList.zip ((Ty.pair (.int .i64) (.int .i64)).flatC x).toArray.toList).all fun (p : Value × Value) => Instr.sameBits 9999 p.1 p.2) = true
    rw [flat_bits _ x]; simp
section
variable {orc : FuncId → List Value → Heap → Option (Value × Heap)} {h : Heap} {S : List Nat} {fl : VL} {σ : Sto} {T : TypeId} {τ : Ty}
theorem CalmV.buildV {pl : List (Nat × Nat)} {parts : Array (Nat × Operand)} {ps : List PV} {dx : τ.den} (hT : BldT P T τ pl) (hps : evVs fl (parts.toList.map (·.2)) = some ps := by rfl) (hb : bldL pl (cellsPV τ (zeroD τ)) (parts.toList.map (·.1)) ps = some (cellsPV τ dx) := by rfl) : CalmV P fl σ (.build T parts) (.v τ dx) := CalmV.build dx hT hps hb
end
end Go.Fs
namespace Go.Proofs
open Go.Fs
set_option linter.unusedVariables false
set_option maxHeartbeats 2000000

theorem asc_at {l : List ByteArray} (h : Asc l) {i k : Nat} (hi : i < l.length) (hk : k < l.length) (hik : i < k) : ltS l[i] l[k] = true := List.pairwise_iff_getElem.1 h i k hi hk hik
theorem lAscending_ok {l : List ByteArray} (hl : l.length < 1000000) (ha : Asc l) : VF Tryz.prog OA 79 [.v (.sl .str) l] (B true) := by
  refine VF.enter Tryz.func79 rfl (fun _ _ => rfl) rfl ?_
  show VC _ _ _ _ _ [(0, .v (.sl .str) l)] [] _
  refine VC.seq (VC.text ?_)
  refine VO.c (.assign rfl) ?_
  refine VO.go (VC.seq (VC.seq (VC.text ?_)))
  refine VO.c (.assign rfl) ?_
  refine VO.go (VC.block ?_)
  refine VC.keep [(0, .v (.sl .str) l), (3, I ((1 : Nat) : Int))] ⟨rfl, rfl, trivial⟩ ?_
  refine VC.loop (I := fun kk ff ss => ∃ (i : Nat), kk = l.length - i ∧ ff = [(0, .v (.sl .str) l), (3, I ((i : Nat) : Int))] ∧ ss = [] ∧ (1 ≤ i)) ?_ _ _ _ ⟨1, rfl, rfl, rfl, (by omega)⟩
  rintro kk ff ss ⟨i, hk0, rfl, rfl, h1⟩
  refine VC.seq (VC.seq (VC.text ?_))
  refine VO.c (.move rfl) ?_
  refine VO.c (.move rfl) ?_
  refine VO.r (.len el27) ?_
  refine VO.c (.lss) ?_
  refine VO.go ?_
  refine VC.condD rfl (fun c2 => ?_) (fun c2 => ?_)
  · have hq := asc_at ha (i := ((i : Int) - 1).toNat) (k := i) (by omega) (by omega) (by omega)
    refine VC.skip (VC.seq (VC.block (VC.seq (VC.drawn ?_))))
    refine VD.c (.move rfl) ?_
    refine VD.c (.move rfl) ?_
    refine VD.c (.ix (j := i) rfl rfl el27 (by omega)) ?_
    refine VD.r [] (.ld vt9) (.inl rfl) ?_
    refine VD.c (.move rfl) ?_
    refine VD.c (.move rfl) ?_
    refine VD.nw [] ?_
    refine VD.c (.sub rfl rfl (by omega)) ?_
    refine VD.c (.ixZ (k := (((i : Nat) : Int) - (1 : Int))) rfl rfl el27 (by omega) (by omega)) ?_
    refine VD.r [] (.ld vt9) (.inl rfl) ?_
    refine VD.c (.sleq) ?_
    refine VD.go ?_
    refine VC.condB rfl (fun c4 => ?_) (fun c4 => ?_)
    · try simp only [Bool.and_eq_true, Bool.or_eq_true, Bool.and_eq_false_iff, Bool.or_eq_false_iff, Bool.not_eq_true', Bool.not_eq_false', decide_eq_true_eq, decide_eq_false_iff_not] at c4
      refine VC.seq (VC.text ?_)
      refine VO.c (.assign rfl) ?_
      refine VO.go ?_
      refine VC.ret ?_
      exact VEnd.one rfl evT (pvE (by exact absurd (hq.symm.trans c4) (by decide)))
    try simp only [Bool.and_eq_true, Bool.or_eq_true, Bool.and_eq_false_iff, Bool.or_eq_false_iff, Bool.not_eq_true', Bool.not_eq_false', decide_eq_true_eq, decide_eq_false_iff_not] at c4
    refine VC.skip (VC.text ?_)
    refine VO.c (.move rfl) ?_
    refine VO.c (.add rfl rfl (by omega)) ?_
    refine VO.c (.assign rfl) ?_
    refine VO.nil ?_
    refine ⟨_, [(0, .v (.sl .str) l), (3, I (((i + 1) : Nat) : Int))], ?_, ⟨rfl, rfl, trivial⟩, (i + 1), rfl, rfl, rfl, (by omega)⟩
    omega
  refine VC.exit (VC.seq (VC.text ?_))
  refine VO.c (.assign rfl) ?_
  refine VO.go ?_
  refine VC.ret ?_
  exact VEnd.one rfl evT (pvE (by rfl))
end Go.Proofs
namespace Go.Proofs
open Go.Fs
set_option linter.unusedVariables false
set_option maxHeartbeats 4000000
abbrev y125 : Ty := (.mp (.pair (.int .i64) (.int .i64)) .str)
theorem mt125 : MapT Tryz.prog 125 y128 .str := ⟨128, 9, by kernel_rfl, keyArr2 (by kernel_rfl) (by kernel_rfl) fun _ _ => by kernel_rfl, zt9⟩
theorem atE_t {l : List Permit} {t : Int} {i : Nat} (hi : i < l.length) (h : hasT l[i].2.2.2.2 t = true) : atE (l.take (i + 1)) t = atE (l.take i) t ++ [l[i]] := by
  rw [List.take_succ_eq_append_getElem hi]
  unfold atE
  rw [List.filter_append, List.filter_cons, if_pos h] <;> rfl
theorem atE_f {l : List Permit} {t : Int} {i : Nat} (hi : i < l.length) (h : ¬ hasT l[i].2.2.2.2 t = true) : atE (l.take (i + 1)) t = atE (l.take i) t := by
  rw [List.take_succ_eq_append_getElem hi]
  unfold atE
  rw [List.filter_append, List.filter_cons, if_neg h]; simp
theorem crews_t {l : List Permit} {t : Int} {i : Nat} (hi : i < l.length) (h : hasT l[i].2.2.2.2 t = true) : cntM (crewsW (l.take (i + 1)) t) = incM (cntM (crewsW (l.take i) t)) l[i].2.1 := by
  unfold crewsW
  rw [atE_t hi h, List.map_append, cntM_app] <;> rfl
theorem gates_t {l : List Permit} {t : Int} {i : Nat} (hi : i < l.length) (h : hasT l[i].2.2.2.2 t = true) : cntM (gatesW (l.take (i + 1)) t) = incM (cntM (gatesW (l.take i) t)) l[i].2.2.1 := by
  unfold gatesW
  rw [atE_t hi h, List.map_append, cntM_app] <;> rfl
def lockP (m : List (ByteArray × Int)) (ls : List ByteArray) (q : Nat) : List (ByteArray × Int) := (ls.take q).foldl incM m
theorem lockP_succ {m : List (ByteArray × Int)} {ls : List ByteArray} {q : Nat} (h : q < ls.length) : lockP m ls (q + 1) = incM (lockP m ls q) ls[q] := by
  unfold lockP
  rw [List.take_succ_eq_append_getElem h, List.foldl_append] <;> rfl
theorem locks_t {l : List Permit} {t : Int} {i q : Nat} (hi : i < l.length) (h : hasT l[i].2.2.2.2 t = true) (hq : l[i].2.2.2.1.length ≤ q) : cntM (locksW (l.take (i + 1)) t) = lockP (cntM (locksW (l.take i) t)) l[i].2.2.2.1 q := by
  unfold locksW lockP
  rw [atE_t hi h, List.flatMap_append, cntM_app, List.take_of_length_le hq]; simp
theorem maps_f {l : List Permit} {t : Int} {i : Nat} (hi : i < l.length) (h : ¬ hasT l[i].2.2.2.2 t = true) : crewsW (l.take (i + 1)) t = crewsW (l.take i) t ∧ gatesW (l.take (i + 1)) t = gatesW (l.take i) t ∧ locksW (l.take (i + 1)) t = locksW (l.take i) t := by
  unfold crewsW gatesW locksW
  rw [atE_f hi h]
  exact ⟨rfl, rfl, rfl⟩
theorem short5 {l : List Permit} {sn : List Season} (h : (((decide ((5 : Int) < ((l.length : Nat) : Int))) || (!(shortPs l))) || (!(decide ((sn.length : Int) ≤ 9)))) = false) : l.length ≤ 5 ∧ Few9 l ∧ sn.length ≤ 9 := by
  simp only [Bool.or_eq_false_iff, Bool.not_eq_false', decide_eq_true_eq, decide_eq_false_iff_not] at h
  exact ⟨by omega, (shortPs_ok h.1.2).2, by omega⟩
theorem valid_same {l : List Permit} {sn : List Season} (hz : permsE l = 0) (hs : seasE sn = 0) : sValidE l sn = validsE l sn l.length := by
  unfold sValidE
  rw [hz, hs] <;> rfl
theorem clR_bad {l : List Permit} {n i : Nat} (h : i < (clR l n n).length) : ¬ (((((clR l n n)[i].1 < 0 ∨ (clR l n n)[i].2.1 ≤ (clR l n n)[i].1) ∨ (n : Int) ≤ (clR l n n)[i].2.1)) ∨ (clR l n n)[i].2.2 = ByteArray.empty) := by
  obtain ⟨a, b, e1, e2, e3, e4, e5⟩ := clR_is (List.getElem_mem h)
  rw [e5]
  rintro (h | h)
  · have h : (((a : Int) < 0 ∨ (b : Int) ≤ a) ∨ (n : Int) ≤ b) := h
    omega
  exact e4 h
theorem cntB_le {v : ByteArray} : ∀ {ws : List ByteArray}, cntB ws v ≤ ws.length
  | [] => Nat.le_refl _
  | w :: ws => by
    have := cntB_le (v := v) (ws := ws)
    unfold cntB
    rw [List.length_cons]
    split <;> omega
theorem map_len {l : List Permit} {t : Int} {f : Permit → ByteArray} {i : Nat} : ((atE (l.take i) t).map f).length ≤ l.length := by
  rw [List.length_map]
  have h1 : (atE (l.take i) t).length ≤ (l.take i).length := List.length_filter_le _ _
  have h2 := List.length_take_le i l
  rw [List.length_take] at h1
  omega
theorem crew_bd {l : List Permit} {t : Int} {i : Nat} {v : ByteArray} (h : l.length ≤ 5) : 0 ≤ (mget (cntM (crewsW (l.take i) t)) v).getD (zeroD (.int .i64)) ∧ (mget (cntM (crewsW (l.take i) t)) v).getD (zeroD (.int .i64)) ≤ 5 := by
  show 0 ≤ (mget (cntM (crewsW (l.take i) t)) v).getD 0 ∧ (mget (cntM (crewsW (l.take i) t)) v).getD 0 ≤ 5
  rw [cntM_get]
  have h1 := cntB_le (v := v) (ws := crewsW (l.take i) t)
  have h2 : (crewsW (l.take i) t).length ≤ l.length := map_len
  omega
theorem gate_bd {l : List Permit} {t : Int} {i : Nat} {v : ByteArray} (h : l.length ≤ 5) : 0 ≤ (mget (cntM (gatesW (l.take i) t)) v).getD (zeroD (.int .i64)) ∧ (mget (cntM (gatesW (l.take i) t)) v).getD (zeroD (.int .i64)) ≤ 5 := by
  show 0 ≤ (mget (cntM (gatesW (l.take i) t)) v).getD 0 ∧ (mget (cntM (gatesW (l.take i) t)) v).getD 0 ≤ 5
  rw [cntM_get]
  have h1 := cntB_le (v := v) (ws := gatesW (l.take i) t)
  have h2 : (gatesW (l.take i) t).length ≤ l.length := map_len
  omega
theorem lock_bd {l : List Permit} {t : Int} {i q : Nat} {v : ByteArray} {ls : List ByteArray} (h : l.length ≤ 5) (h9 : Few9 l) : 0 ≤ (mget (lockP (cntM (locksW (l.take i) t)) ls q) v).getD (zeroD (.int .i64)) ∧ (mget (lockP (cntM (locksW (l.take i) t)) ls q) v).getD (zeroD (.int .i64)) ≤ 45 + (q : Int) := by
  show 0 ≤ (mget (lockP (cntM (locksW (l.take i) t)) ls q) v).getD 0 ∧ (mget (lockP (cntM (locksW (l.take i) t)) ls q) v).getD 0 ≤ 45 + (q : Int)
  unfold lockP
  rw [cnt_get, cntM_get]
  have h1 := cntB_le (v := v) (ws := locksW (l.take i) t)
  have h3 := cntB_le (v := v) (ws := ls.take q)
  have h4 := List.length_take_le q ls
  have h2 : (locksW (l.take i) t).length ≤ 9 * (atE (l.take i) t).length := flat9 (at9 fun p hp => h9 p (List.mem_of_mem_take hp))
  have h5 : (atE (l.take i) t).length ≤ (l.take i).length := List.length_filter_le _ _
  have h6 := List.length_take_le i l
  rw [List.length_take] at h5
  omega
theorem firstE_00 {a b : Int} (ha : a = 0) (hb : b = 0) : firstE [a, b] = 0 := by rw [ha, hb] <;> rfl
theorem law13_ok {l : List (ByteArray × ByteArray × ByteArray × (List ByteArray) × (Int × Int))} {sn : List ((Int × Int) × Int)} : VF Tryz.prog OA 13 [.v y22 l, .v y23 sn] (B true) := by
  refine VF.enter Tryz.func13 rfl (fun _ _ => rfl) rfl ?_
  show VC _ _ _ _ _ [(0, .v y22 l), (1, .v y23 sn)] [] _
  refine VC.seq (VC.text ?_)
  refine VO.c (.assign rfl) ?_
  refine VO.go (VC.seq (VC.seq (VC.text ?_)))
  refine VO.c (.move rfl) ?_
  refine VO.r (.len el22) ?_
  refine VO.c (.gtr) ?_
  refine VO.c (.move rfl) ?_
  refine VO.cg (r := decide ((5 : Int) < ((l.length : Nat) : Int))) (w := false) [] trivial (fun hgd => have g1_3 : ¬ ((5 : Int) < ((l.length : Nat) : Int)) := (by simpa using hgd); (.move rfl)) ?_
  refine VO.callg (r0 := decide ((5 : Int) < ((l.length : Nat) : Int))) (w := false) [(52, .v y22 l)] ⟨rfl, trivial⟩ rfl rfl .same .refl rfl (fun hgd => have g1_3 : ¬ ((5 : Int) < ((l.length : Nat) : Int)) := (by simpa using hgd); VF.call (rShortP_ok )) ?_
  refine VO.cg (r := decide ((5 : Int) < ((l.length : Nat) : Int))) (w := false) [(53, B (shortPs l))] ⟨rfl, trivial⟩ (fun hgd => have g1_3 : ¬ ((5 : Int) < ((l.length : Nat) : Int)) := (by simpa using hgd); (.not)) ?_
  refine VO.c (.or) ?_
  refine VO.c (.move rfl) ?_
  refine VO.cg (r := ((decide ((5 : Int) < ((l.length : Nat) : Int))) || (!(shortPs l)))) (w := false) [] trivial (fun hgd => have g1_8 : ((decide ((5 : Int) < ((l.length : Nat) : Int))) || (!(shortPs l))) = false := (by simpa using hgd); (.move rfl)) ?_
  refine VO.callg (r0 := ((decide ((5 : Int) < ((l.length : Nat) : Int))) || (!(shortPs l)))) (w := false) [(57, .v y23 sn)] ⟨rfl, trivial⟩ rfl rfl .same .refl rfl (fun hgd => have g1_8 : ((decide ((5 : Int) < ((l.length : Nat) : Int))) || (!(shortPs l))) = false := (by simpa using hgd); VF.call (rShortS_ok )) ?_
  refine VO.cg (r := ((decide ((5 : Int) < ((l.length : Nat) : Int))) || (!(shortPs l)))) (w := false) [(58, B (decide ((sn.length : Int) ≤ 9)))] ⟨rfl, trivial⟩ (fun hgd => have g1_8 : ((decide ((5 : Int) < ((l.length : Nat) : Int))) || (!(shortPs l))) = false := (by simpa using hgd); (.not)) ?_
  refine VO.c (.or) ?_
  refine VO.c (.move rfl) ?_
  refine VO.cg (r := (((decide ((5 : Int) < ((l.length : Nat) : Int))) || (!(shortPs l))) || (!(decide ((sn.length : Int) ≤ 9))))) (w := false) [] trivial (fun hgd => have g1_13 : (((decide ((5 : Int) < ((l.length : Nat) : Int))) || (!(shortPs l))) || (!(decide ((sn.length : Int) ≤ 9)))) = false := (by simpa using hgd); (.move rfl)) ?_
  refine VO.callg (r0 := (((decide ((5 : Int) < ((l.length : Nat) : Int))) || (!(shortPs l))) || (!(decide ((sn.length : Int) ≤ 9))))) (w := false) [(62, .v y22 l)] ⟨rfl, trivial⟩ rfl rfl .same .refl rfl (fun hgd => have g1_13 : (((decide ((5 : Int) < ((l.length : Nat) : Int))) || (!(shortPs l))) || (!(decide ((sn.length : Int) ≤ 9)))) = false := (by simpa using hgd); VF.call (rPermits_ok (by have := (short5 g1_13).1; omega) (few_ok (short5 g1_13).2.1))) ?_
  refine VO.cg (r := (((decide ((5 : Int) < ((l.length : Nat) : Int))) || (!(shortPs l))) || (!(decide ((sn.length : Int) ≤ 9))))) (w := false) [(63, I (permsE l))] ⟨rfl, trivial⟩ (fun hgd => have g1_13 : (((decide ((5 : Int) < ((l.length : Nat) : Int))) || (!(shortPs l))) || (!(decide ((sn.length : Int) ≤ 9)))) = false := (by simpa using hgd); (.neq)) ?_
  refine VO.c (.or) ?_
  refine VO.c (.move rfl) ?_
  refine VO.cg (r := ((((decide ((5 : Int) < ((l.length : Nat) : Int))) || (!(shortPs l))) || (!(decide ((sn.length : Int) ≤ 9)))) || (decide (permsE l ≠ (0 : Int))))) (w := false) [] trivial (fun hgd => have g1_18 : ((((decide ((5 : Int) < ((l.length : Nat) : Int))) || (!(shortPs l))) || (!(decide ((sn.length : Int) ≤ 9)))) || (decide (permsE l ≠ (0 : Int)))) = false := (by simpa using hgd); (.move rfl)) ?_
  refine VO.callg (r0 := ((((decide ((5 : Int) < ((l.length : Nat) : Int))) || (!(shortPs l))) || (!(decide ((sn.length : Int) ≤ 9)))) || (decide (permsE l ≠ (0 : Int))))) (w := false) [(67, .v y23 sn)] ⟨rfl, trivial⟩ rfl rfl .same .refl rfl (fun hgd => have g1_18 : ((((decide ((5 : Int) < ((l.length : Nat) : Int))) || (!(shortPs l))) || (!(decide ((sn.length : Int) ≤ 9)))) || (decide (permsE l ≠ (0 : Int)))) = false := (by simpa using hgd); VF.call (rSeas_ok (by have := (short5 (Bool.or_eq_false_iff.1 g1_18).1).2.2; omega))) ?_
  refine VO.cg (r := ((((decide ((5 : Int) < ((l.length : Nat) : Int))) || (!(shortPs l))) || (!(decide ((sn.length : Int) ≤ 9)))) || (decide (permsE l ≠ (0 : Int))))) (w := false) [(68, I (seasE sn))] ⟨rfl, trivial⟩ (fun hgd => have g1_18 : ((((decide ((5 : Int) < ((l.length : Nat) : Int))) || (!(shortPs l))) || (!(decide ((sn.length : Int) ≤ 9)))) || (decide (permsE l ≠ (0 : Int)))) = false := (by simpa using hgd); (.neq)) ?_
  refine VO.c (.or) ?_
  refine VO.go ?_
  refine VC.condB rfl (fun c1 => ?_) (fun c1 => ?_)
  · try simp only [Bool.and_eq_true, Bool.or_eq_true, Bool.and_eq_false_iff, Bool.or_eq_false_iff, Bool.not_eq_true', Bool.not_eq_false', decide_eq_true_eq, decide_eq_false_iff_not] at c1
    refine VC.seq (VC.text ?_)
    refine VO.call rfl rfl (VF.call (awakeC_ok )) ?_
    refine VO.c (.assign rfl) ?_
    refine VO.go ?_
    refine VC.ret ?_
    exact VEnd.one rfl evT (pvE (by first | rfl | simp))
  try simp only [Bool.and_eq_true, Bool.or_eq_true, Bool.and_eq_false_iff, Bool.or_eq_false_iff, Bool.not_eq_true', Bool.not_eq_false', decide_eq_true_eq, decide_eq_false_iff_not] at c1
  have hl5 : l.length ≤ 5 := by have := c1.1.1.1.1; omega
  have h9 : Few9 l := (shortPs_ok c1.1.1.1.2).2
  have hk : PermOk l := few_ok h9
  have hsl : sn.length ≤ 9 := by have := c1.1.1.2; omega
  have hz : permsE l = 0 := Classical.not_not.1 c1.1.2
  have hsz : seasE sn = 0 := Classical.not_not.1 c1.2
  have hv := permsV hz
  have hpz := (permsE_ok hz).2
  have hcl := clR_ten (l := l) hl5
  refine VC.skip (VC.seq (VC.seq (VC.text ?_)))
  refine VO.c (.move rfl) ?_
  refine VO.r (.len el22) ?_
  refine VO.c (.move rfl) ?_
  refine VO.go (VC.block ?_)
  refine VC.keep [(0, .v y22 l), (1, .v y23 sn), (72, .v y22 l), (73, I ((l.length : Nat) : Int)), (74, I ((0 : Nat) : Int))] ⟨rfl, rfl, rfl, rfl, rfl, trivial⟩ ?_
  refine VC.loop (I := fun kk ff ss => ∃ (a0 : Nat), kk = l.length - a0 ∧ ff = [(0, .v y22 l), (1, .v y23 sn), (72, .v y22 l), (73, I ((l.length : Nat) : Int)), (74, I ((a0 : Nat) : Int))] ∧ ss = [] ∧ (a0 ≤ l.length) ∧ (∀ i (h : i < l.length), i < a0 → (l[i]).2.2.2.2.2 ≤ 200)) ?_ _ _ _ ⟨0, rfl, rfl, rfl, Nat.zero_le _, (by exact fun i h h2 => absurd h2 (Nat.not_lt_zero _))⟩
  rintro kk ff ss ⟨a0, hk0, rfl, rfl, ha0, h200⟩
  refine VC.seq (VC.text ?_)
  refine VO.c (.lss) ?_
  refine VO.go (VC.seq ?_)
  refine VC.condD rfl (fun c4 => ?_) (fun c4 => ?_)
  · refine VC.skip (VC.seq (VC.block (VC.seq (VC.text ?_))))
    refine VO.c (.ix (j := a0) rfl rfl el22 (by omega)) ?_
    refine VO.r (.ld vt31) ?_
    refine VO.cell (.alloc zt31) ?_
    intro ww1
    refine VO.setV (cs' := [St ((l[a0]).1), St ((l[a0]).2.1), St ((l[a0]).2.2.1), .v (.sl .str) ((l[a0]).2.2.2.1), I (((l[a0]).2.2.2.2).1), I (((l[a0]).2.2.2.2).2)]) vt31 .v ?_
    refine VO.shut [(6, .p y31 (l[a0]))] (.cons rfl (.var m0 .refl) .nil) ?_
    refine VO.go (VC.seq (VC.text ?_))
    refine VO.c (.fa (.r (.r (.r (.r .o))))) ?_
    refine VO.c (.fa (.r .o)) ?_
    refine VO.r (.ld vt3) ?_
    refine VO.c (.gtr) ?_
    refine VO.go ?_
    refine VC.condD rfl (fun c6 => ?_) (fun c6 => ?_)
    · refine VC.seq (VC.text ?_)
      refine VO.call rfl rfl (VF.call (awakeC_ok )) ?_
      refine VO.c (.assign rfl) ?_
      refine VO.go ?_
      refine VC.ret ?_
      exact VEnd.one rfl evT (pvE (by first | rfl | simp))
    refine VC.skip (VC.text ?_)
    refine VO.c (.add rfl rfl (by omega)) ?_
    refine VO.c (.move rfl) ?_
    refine VO.nil ?_
    refine ⟨_, [(0, .v y22 l), (1, .v y23 sn), (72, .v y22 l), (73, I ((l.length : Nat) : Int)), (74, I (((a0 + 1) : Nat) : Int))], ?_, ⟨rfl, rfl, rfl, rfl, rfl, trivial⟩, (a0 + 1), rfl, rfl, rfl, (by omega), (by exact fun i h h2 => if e : i = a0 then (by subst e; omega) else h200 i h (by omega))⟩
    omega
  have h2 : ∀ p ∈ l, p.2.2.2.2.2 ≤ 200 := fun p hp => by obtain ⟨i, hi, rfl⟩ := List.mem_iff_getElem.1 hp; exact h200 i hi (by omega)
  refine VC.exit (VC.seq (VC.text ?_))
  refine VO.c (.move rfl) ?_
  refine VO.call rfl rfl (VF.call (lPermits_ok (by first | assumption | omega | simp) (by first | assumption | omega | simp))) ?_
  refine VO.call rfl rfl (VF.call (sClashes_ok (by first | assumption | omega | simp) (by first | assumption | omega | simp))) ?_
  refine VO.c (.move rfl) ?_
  refine VO.c (.extract) ?_
  rw [clash_t hz]
  refine VO.c (.extract) ?_
  refine VO.c (.assign rfl) ?_
  refine VO.c (.assign rfl) ?_
  refine VO.go (VC.seq (VC.seq (VC.text ?_)))
  refine VO.c (.move rfl) ?_
  refine VO.c (.neq) ?_
  refine VO.c (.move rfl) ?_
  refine VO.cg (r := decide (permsE l ≠ (0 : Int))) (w := false) [] trivial (fun hgd => have g10_2 : ¬ (permsE l ≠ (0 : Int)) := (by simpa using hgd); (.move rfl)) ?_
  refine VO.rg (r := decide (permsE l ≠ (0 : Int))) (w := false) [(93, .v y110 (clR l l.length l.length))] ⟨rfl, trivial⟩ (fun hgd => have g10_2 : ¬ (permsE l ≠ (0 : Int)) := (by simpa using hgd); (.len el110)) ?_
  refine VO.cg (r := decide (permsE l ≠ (0 : Int))) (w := false) [(94, I (((clR l l.length l.length).length : Nat) : Int))] ⟨rfl, trivial⟩ (fun hgd => have g10_2 : ¬ (permsE l ≠ (0 : Int)) := (by simpa using hgd); (.gtr)) ?_
  refine VO.c (.or) ?_
  refine VO.go ?_
  refine VC.condB rfl (fun c10 => ?_) (fun c10 => ?_)
  · try simp only [Bool.and_eq_true, Bool.or_eq_true, Bool.and_eq_false_iff, Bool.or_eq_false_iff, Bool.not_eq_true', Bool.not_eq_false', decide_eq_true_eq, decide_eq_false_iff_not] at c10
    exact (c10.elim (fun h => h hz) (fun h => by omega)).elim
  try simp only [Bool.and_eq_true, Bool.or_eq_true, Bool.and_eq_false_iff, Bool.or_eq_false_iff, Bool.not_eq_true', Bool.not_eq_false', decide_eq_true_eq, decide_eq_false_iff_not] at c10
  refine VC.skip (VC.seq (VC.text ?_))
  refine VO.cell (.mkMap y128 .str) ?_
  intro ww2
  refine VO.c (.assign rfl) ?_
  refine VO.go (VC.seq (VC.seq (VC.text ?_)))
  refine VO.c (.move rfl) ?_
  refine VO.r (.len el110) ?_
  refine VO.c (.move rfl) ?_
  refine VO.go (VC.block ?_)
  refine VC.keep [(0, .v y22 l), (1, .v y23 sn), (7, .v y110 (clR l l.length l.length)), (9, .raw ww2), (98, .v y110 (clR l l.length l.length)), (99, I (((clR l l.length l.length).length : Nat) : Int)), (100, I ((0 : Nat) : Int))] ⟨rfl, rfl, rfl, rfl, rfl, rfl, rfl, trivial⟩ ?_
  refine VC.loop (I := fun kk ff ss => ∃ (a2 : Nat), kk = (clR l l.length l.length).length - a2 ∧ ff = [(0, .v y22 l), (1, .v y23 sn), (7, .v y110 (clR l l.length l.length)), (9, .raw ww2), (98, .v y110 (clR l l.length l.length)), (99, I (((clR l l.length l.length).length : Nat) : Int)), (100, I ((a2 : Nat) : Int))] ∧ ss = [(ww2, .mp y128 .str (tabE ((clR l l.length l.length).take a2)))] ∧ (a2 ≤ (clR l l.length l.length).length)) ?_ _ _ _ ⟨0, rfl, rfl, rfl, (by omega)⟩
  rintro kk ff ss ⟨a2, hk2, rfl, rfl, ha2⟩
  refine VC.seq (VC.text ?_)
  refine VO.c (.lss) ?_
  refine VO.go (VC.seq ?_)
  refine VC.condD rfl (fun c14 => ?_) (fun c14 => ?_)
  · have hxl : a2 < (clR l l.length l.length).length := by omega
    have hnew := tab_new hxl
    refine VC.skip (VC.seq (VC.block (VC.seq (VC.text ?_))))
    refine VO.c (.ix (j := a2) rfl rfl el110 (by omega)) ?_
    refine VO.r (.ld vt127) ?_
    refine VO.cell (.alloc zt127) ?_
    intro ww3
    refine VO.setV (cs' := [I (((clR l l.length l.length)[a2]).1), I (((clR l l.length l.length)[a2]).2.1), St (((clR l l.length l.length)[a2]).2.2)]) vt127 .v ?_
    refine VO.shut [(11, .p y127 ((clR l l.length l.length)[a2]))] (.cons rfl (.var m0 .refl) .nil) ?_
    refine VO.go (VC.seq (VC.seq (VC.text ?_)))
    refine VO.c (.fa (.l .o)) ?_
    refine VO.r (.ld vt3) ?_
    refine VO.c (.lss) ?_
    refine VO.c (.move rfl) ?_
    refine VO.cg (r := decide (((clR l l.length l.length)[a2]).1 < (0 : Int))) (w := false) [] trivial (fun hgd => have g16_3 : ¬ (((clR l l.length l.length)[a2]).1 < (0 : Int)) := (by simpa using hgd); (.fa (.l .o))) ?_
    refine VO.rg (r := decide (((clR l l.length l.length)[a2]).1 < (0 : Int))) (w := false) [(108, .p (.int .i64) (((clR l l.length l.length)[a2]).1))] ⟨rfl, trivial⟩ (fun hgd => have g16_3 : ¬ (((clR l l.length l.length)[a2]).1 < (0 : Int)) := (by simpa using hgd); (.ld vt3)) ?_
    refine VO.cg (r := decide (((clR l l.length l.length)[a2]).1 < (0 : Int))) (w := false) [] trivial (fun hgd => have g16_3 : ¬ (((clR l l.length l.length)[a2]).1 < (0 : Int)) := (by simpa using hgd); (.fa (.r (.l .o)))) ?_
    refine VO.rg (r := decide (((clR l l.length l.length)[a2]).1 < (0 : Int))) (w := false) [(110, .p (.int .i64) (((clR l l.length l.length)[a2]).2.1))] ⟨rfl, trivial⟩ (fun hgd => have g16_3 : ¬ (((clR l l.length l.length)[a2]).1 < (0 : Int)) := (by simpa using hgd); (.ld vt3)) ?_
    refine VO.cg (r := decide (((clR l l.length l.length)[a2]).1 < (0 : Int))) (w := false) [(109, I (((clR l l.length l.length)[a2]).1)), (111, I (((clR l l.length l.length)[a2]).2.1))] ⟨rfl, rfl, trivial⟩ (fun hgd => have g16_3 : ¬ (((clR l l.length l.length)[a2]).1 < (0 : Int)) := (by simpa using hgd); (.geq)) ?_
    refine VO.c (.or) ?_
    refine VO.c (.move rfl) ?_
    refine VO.cg (r := ((decide (((clR l l.length l.length)[a2]).1 < (0 : Int))) || (decide (((clR l l.length l.length)[a2]).2.1 ≤ ((clR l l.length l.length)[a2]).1)))) (w := false) [] trivial (fun hgd => have g16_10 : ((decide (((clR l l.length l.length)[a2]).1 < (0 : Int))) || (decide (((clR l l.length l.length)[a2]).2.1 ≤ ((clR l l.length l.length)[a2]).1))) = false := (by simpa using hgd); (.fa (.r (.l .o)))) ?_
    refine VO.rg (r := ((decide (((clR l l.length l.length)[a2]).1 < (0 : Int))) || (decide (((clR l l.length l.length)[a2]).2.1 ≤ ((clR l l.length l.length)[a2]).1)))) (w := false) [(115, .p (.int .i64) (((clR l l.length l.length)[a2]).2.1))] ⟨rfl, trivial⟩ (fun hgd => have g16_10 : ((decide (((clR l l.length l.length)[a2]).1 < (0 : Int))) || (decide (((clR l l.length l.length)[a2]).2.1 ≤ ((clR l l.length l.length)[a2]).1))) = false := (by simpa using hgd); (.ld vt3)) ?_
    refine VO.cg (r := ((decide (((clR l l.length l.length)[a2]).1 < (0 : Int))) || (decide (((clR l l.length l.length)[a2]).2.1 ≤ ((clR l l.length l.length)[a2]).1)))) (w := false) [] trivial (fun hgd => have g16_10 : ((decide (((clR l l.length l.length)[a2]).1 < (0 : Int))) || (decide (((clR l l.length l.length)[a2]).2.1 ≤ ((clR l l.length l.length)[a2]).1))) = false := (by simpa using hgd); (.move rfl)) ?_
    refine VO.rg (r := ((decide (((clR l l.length l.length)[a2]).1 < (0 : Int))) || (decide (((clR l l.length l.length)[a2]).2.1 ≤ ((clR l l.length l.length)[a2]).1)))) (w := false) [(117, .v y22 l)] ⟨rfl, trivial⟩ (fun hgd => have g16_10 : ((decide (((clR l l.length l.length)[a2]).1 < (0 : Int))) || (decide (((clR l l.length l.length)[a2]).2.1 ≤ ((clR l l.length l.length)[a2]).1))) = false := (by simpa using hgd); (.len el22)) ?_
    refine VO.cg (r := ((decide (((clR l l.length l.length)[a2]).1 < (0 : Int))) || (decide (((clR l l.length l.length)[a2]).2.1 ≤ ((clR l l.length l.length)[a2]).1)))) (w := false) [(116, I (((clR l l.length l.length)[a2]).2.1)), (118, I ((l.length : Nat) : Int))] ⟨rfl, rfl, trivial⟩ (fun hgd => have g16_10 : ((decide (((clR l l.length l.length)[a2]).1 < (0 : Int))) || (decide (((clR l l.length l.length)[a2]).2.1 ≤ ((clR l l.length l.length)[a2]).1))) = false := (by simpa using hgd); (.geq)) ?_
    refine VO.c (.or) ?_
    refine VO.c (.move rfl) ?_
    refine VO.cg (r := (((decide (((clR l l.length l.length)[a2]).1 < (0 : Int))) || (decide (((clR l l.length l.length)[a2]).2.1 ≤ ((clR l l.length l.length)[a2]).1))) || (decide (((l.length : Nat) : Int) ≤ ((clR l l.length l.length)[a2]).2.1)))) (w := false) [] trivial (fun hgd => have g16_17 : (((decide (((clR l l.length l.length)[a2]).1 < (0 : Int))) || (decide (((clR l l.length l.length)[a2]).2.1 ≤ ((clR l l.length l.length)[a2]).1))) || (decide (((l.length : Nat) : Int) ≤ ((clR l l.length l.length)[a2]).2.1))) = false := (by simpa using hgd); (.fa (.r (.r .o)))) ?_
    refine VO.rg (r := (((decide (((clR l l.length l.length)[a2]).1 < (0 : Int))) || (decide (((clR l l.length l.length)[a2]).2.1 ≤ ((clR l l.length l.length)[a2]).1))) || (decide (((l.length : Nat) : Int) ≤ ((clR l l.length l.length)[a2]).2.1)))) (w := false) [(122, .p .str (((clR l l.length l.length)[a2]).2.2))] ⟨rfl, trivial⟩ (fun hgd => have g16_17 : (((decide (((clR l l.length l.length)[a2]).1 < (0 : Int))) || (decide (((clR l l.length l.length)[a2]).2.1 ≤ ((clR l l.length l.length)[a2]).1))) || (decide (((l.length : Nat) : Int) ≤ ((clR l l.length l.length)[a2]).2.1))) = false := (by simpa using hgd); (.ld vt9)) ?_
    refine VO.cg (r := (((decide (((clR l l.length l.length)[a2]).1 < (0 : Int))) || (decide (((clR l l.length l.length)[a2]).2.1 ≤ ((clR l l.length l.length)[a2]).1))) || (decide (((l.length : Nat) : Int) ≤ ((clR l l.length l.length)[a2]).2.1)))) (w := false) [(123, St (((clR l l.length l.length)[a2]).2.2))] ⟨rfl, trivial⟩ (fun hgd => have g16_17 : (((decide (((clR l l.length l.length)[a2]).1 < (0 : Int))) || (decide (((clR l l.length l.length)[a2]).2.1 ≤ ((clR l l.length l.length)[a2]).1))) || (decide (((l.length : Nat) : Int) ≤ ((clR l l.length l.length)[a2]).2.1))) = false := (by simpa using hgd); (.seql)) ?_
    refine VO.c (.or) ?_
    refine VO.c (.move rfl) ?_
    refine VO.cg (r := ((((decide (((clR l l.length l.length)[a2]).1 < (0 : Int))) || (decide (((clR l l.length l.length)[a2]).2.1 ≤ ((clR l l.length l.length)[a2]).1))) || (decide (((l.length : Nat) : Int) ≤ ((clR l l.length l.length)[a2]).2.1))) || (decide (((clR l l.length l.length)[a2]).2.2 = ByteArray.empty)))) (w := false) [] trivial (fun hgd => have g16_22 : ((((decide (((clR l l.length l.length)[a2]).1 < (0 : Int))) || (decide (((clR l l.length l.length)[a2]).2.1 ≤ ((clR l l.length l.length)[a2]).1))) || (decide (((l.length : Nat) : Int) ≤ ((clR l l.length l.length)[a2]).2.1))) || (decide (((clR l l.length l.length)[a2]).2.2 = ByteArray.empty))) = false := (by simpa using hgd); (.move rfl)) ?_
    refine VO.cg (r := ((((decide (((clR l l.length l.length)[a2]).1 < (0 : Int))) || (decide (((clR l l.length l.length)[a2]).2.1 ≤ ((clR l l.length l.length)[a2]).1))) || (decide (((l.length : Nat) : Int) ≤ ((clR l l.length l.length)[a2]).2.1))) || (decide (((clR l l.length l.length)[a2]).2.2 = ByteArray.empty)))) (w := false) [] trivial (fun hgd => have g16_22 : ((((decide (((clR l l.length l.length)[a2]).1 < (0 : Int))) || (decide (((clR l l.length l.length)[a2]).2.1 ≤ ((clR l l.length l.length)[a2]).1))) || (decide (((l.length : Nat) : Int) ≤ ((clR l l.length l.length)[a2]).2.1))) || (decide (((clR l l.length l.length)[a2]).2.2 = ByteArray.empty))) = false := (by simpa using hgd); (.fa (.l .o))) ?_
    refine VO.rg (r := ((((decide (((clR l l.length l.length)[a2]).1 < (0 : Int))) || (decide (((clR l l.length l.length)[a2]).2.1 ≤ ((clR l l.length l.length)[a2]).1))) || (decide (((l.length : Nat) : Int) ≤ ((clR l l.length l.length)[a2]).2.1))) || (decide (((clR l l.length l.length)[a2]).2.2 = ByteArray.empty)))) (w := false) [(128, .p (.int .i64) (((clR l l.length l.length)[a2]).1))] ⟨rfl, trivial⟩ (fun hgd => have g16_22 : ((((decide (((clR l l.length l.length)[a2]).1 < (0 : Int))) || (decide (((clR l l.length l.length)[a2]).2.1 ≤ ((clR l l.length l.length)[a2]).1))) || (decide (((l.length : Nat) : Int) ≤ ((clR l l.length l.length)[a2]).2.1))) || (decide (((clR l l.length l.length)[a2]).2.2 = ByteArray.empty))) = false := (by simpa using hgd); (.ld vt3)) ?_
    refine VO.cg (r := ((((decide (((clR l l.length l.length)[a2]).1 < (0 : Int))) || (decide (((clR l l.length l.length)[a2]).2.1 ≤ ((clR l l.length l.length)[a2]).1))) || (decide (((l.length : Nat) : Int) ≤ ((clR l l.length l.length)[a2]).2.1))) || (decide (((clR l l.length l.length)[a2]).2.2 = ByteArray.empty)))) (w := false) [] trivial (fun hgd => have g16_22 : ((((decide (((clR l l.length l.length)[a2]).1 < (0 : Int))) || (decide (((clR l l.length l.length)[a2]).2.1 ≤ ((clR l l.length l.length)[a2]).1))) || (decide (((l.length : Nat) : Int) ≤ ((clR l l.length l.length)[a2]).2.1))) || (decide (((clR l l.length l.length)[a2]).2.2 = ByteArray.empty))) = false := (by simpa using hgd); (.fa (.r (.l .o)))) ?_
    refine VO.rg (r := ((((decide (((clR l l.length l.length)[a2]).1 < (0 : Int))) || (decide (((clR l l.length l.length)[a2]).2.1 ≤ ((clR l l.length l.length)[a2]).1))) || (decide (((l.length : Nat) : Int) ≤ ((clR l l.length l.length)[a2]).2.1))) || (decide (((clR l l.length l.length)[a2]).2.2 = ByteArray.empty)))) (w := false) [(130, .p (.int .i64) (((clR l l.length l.length)[a2]).2.1))] ⟨rfl, trivial⟩ (fun hgd => have g16_22 : ((((decide (((clR l l.length l.length)[a2]).1 < (0 : Int))) || (decide (((clR l l.length l.length)[a2]).2.1 ≤ ((clR l l.length l.length)[a2]).1))) || (decide (((l.length : Nat) : Int) ≤ ((clR l l.length l.length)[a2]).2.1))) || (decide (((clR l l.length l.length)[a2]).2.2 = ByteArray.empty))) = false := (by simpa using hgd); (.ld vt3)) ?_
    refine VO.cg (v := .v y128 (((clR l l.length l.length)[a2]).1, ((clR l l.length l.length)[a2]).2.1)) (r := ((((decide (((clR l l.length l.length)[a2]).1 < (0 : Int))) || (decide (((clR l l.length l.length)[a2]).2.1 ≤ ((clR l l.length l.length)[a2]).1))) || (decide (((l.length : Nat) : Int) ≤ ((clR l l.length l.length)[a2]).2.1))) || (decide (((clR l l.length l.length)[a2]).2.2 = ByteArray.empty)))) (w := false) [(129, I (((clR l l.length l.length)[a2]).1)), (131, I (((clR l l.length l.length)[a2]).2.1))] ⟨rfl, rfl, trivial⟩ (fun hgd => have g16_22 : ((((decide (((clR l l.length l.length)[a2]).1 < (0 : Int))) || (decide (((clR l l.length l.length)[a2]).2.1 ≤ ((clR l l.length l.length)[a2]).1))) || (decide (((l.length : Nat) : Int) ≤ ((clR l l.length l.length)[a2]).2.1))) || (decide (((clR l l.length l.length)[a2]).2.2 = ByteArray.empty))) = false := (by simpa using hgd); (.buildV bt128)) ?_
    refine VO.rg (r := ((((decide (((clR l l.length l.length)[a2]).1 < (0 : Int))) || (decide (((clR l l.length l.length)[a2]).2.1 ≤ ((clR l l.length l.length)[a2]).1))) || (decide (((l.length : Nat) : Int) ≤ ((clR l l.length l.length)[a2]).2.1))) || (decide (((clR l l.length l.length)[a2]).2.2 = ByteArray.empty)))) (w := false) [(127, .raw ww2), (132, .v y128 (((clR l l.length l.length)[a2]).1, ((clR l l.length l.length)[a2]).2.1))] ⟨rfl, rfl, trivial⟩ (fun hgd => have g16_22 : ((((decide (((clR l l.length l.length)[a2]).1 < (0 : Int))) || (decide (((clR l l.length l.length)[a2]).2.1 ≤ ((clR l l.length l.length)[a2]).1))) || (decide (((l.length : Nat) : Int) ≤ ((clR l l.length l.length)[a2]).2.1))) || (decide (((clR l l.length l.length)[a2]).2.2 = ByteArray.empty))) = false := (by simpa using hgd); (.lookO mt125 m0)) ?_
    refine VO.cg (r := ((((decide (((clR l l.length l.length)[a2]).1 < (0 : Int))) || (decide (((clR l l.length l.length)[a2]).2.1 ≤ ((clR l l.length l.length)[a2]).1))) || (decide (((l.length : Nat) : Int) ≤ ((clR l l.length l.length)[a2]).2.1))) || (decide (((clR l l.length l.length)[a2]).2.2 = ByteArray.empty)))) (w := false) [(133, St ((mget (tabE ((clR l l.length l.length).take a2)) (((clR l l.length l.length)[a2]).1, ((clR l l.length l.length)[a2]).2.1)).getD ByteArray.empty))] ⟨rfl, trivial⟩ (fun hgd => have g16_22 : ((((decide (((clR l l.length l.length)[a2]).1 < (0 : Int))) || (decide (((clR l l.length l.length)[a2]).2.1 ≤ ((clR l l.length l.length)[a2]).1))) || (decide (((l.length : Nat) : Int) ≤ ((clR l l.length l.length)[a2]).2.1))) || (decide (((clR l l.length l.length)[a2]).2.2 = ByteArray.empty))) = false := (by simpa using hgd); (.sneq)) ?_
    refine VO.c (.or) ?_
    refine VO.go ?_
    refine VC.condB rfl (fun c16 => ?_) (fun c16 => ?_)
    · try simp only [Bool.and_eq_true, Bool.or_eq_true, Bool.and_eq_false_iff, Bool.or_eq_false_iff, Bool.not_eq_true', Bool.not_eq_false', decide_eq_true_eq, decide_eq_false_iff_not] at c16
      exact (c16.elim (clR_bad hxl) (fun h => h hnew)).elim
    try simp only [Bool.and_eq_true, Bool.or_eq_true, Bool.and_eq_false_iff, Bool.or_eq_false_iff, Bool.not_eq_true', Bool.not_eq_false', decide_eq_true_eq, decide_eq_false_iff_not] at c16
    refine VC.skip (VC.text ?_)
    refine VO.c (.move rfl) ?_
    refine VO.c (.fa (.l .o)) ?_
    refine VO.r (.ld vt3) ?_
    refine VO.c (.fa (.r (.l .o))) ?_
    refine VO.r (.ld vt3) ?_
    refine VO.c (.build (((clR l l.length l.length)[a2]).1, ((clR l l.length l.length)[a2]).2.1) bt128) ?_
    refine VO.c (.fa (.r (.r .o))) ?_
    refine VO.r (.ld vt9) ?_
    refine VO.mput mt125 ?_
    refine VO.nil (VC.text ?_)
    refine VO.c (.add rfl rfl (by omega)) ?_
    refine VO.c (.move rfl) ?_
    refine VO.nil ?_
    refine ⟨_, [(0, .v y22 l), (1, .v y23 sn), (7, .v y110 (clR l l.length l.length)), (9, .raw ww2), (98, .v y110 (clR l l.length l.length)), (99, I (((clR l l.length l.length).length : Nat) : Int)), (100, I (((a2 + 1) : Nat) : Int))], ?_, ⟨rfl, rfl, rfl, rfl, rfl, rfl, rfl, trivial⟩, (a2 + 1), rfl, rfl, (by rw [tabE_succ hxl]), (by omega)⟩
    omega
  have htab : (clR l l.length l.length).take a2 = clR l l.length l.length := List.take_of_length_le (by omega)
  refine VC.exit (VC.seq (VC.seq ?_))
  refine VC.shutL [(ww2, .mp y128 .str (tabE ((clR l l.length l.length).take a2)))] [(9, .v y125 (tabE ((clR l l.length l.length).take a2)))] rfl (.cons rfl (.mp m0) .nil) ?_
  refine VC.text ?_
  refine VO.c (.move rfl) ?_
  refine VO.r (.len el22) ?_
  refine VO.c (.move rfl) ?_
  refine VO.go (VC.block ?_)
  refine VC.keep [(0, .v y22 l), (1, .v y23 sn), (7, .v y110 (clR l l.length l.length)), (9, .v y125 (tabE ((clR l l.length l.length).take a2))), (145, .v y22 l), (146, I ((l.length : Nat) : Int)), (147, I ((0 : Nat) : Int))] ⟨rfl, rfl, rfl, rfl, rfl, rfl, rfl, trivial⟩ ?_
  refine VC.loop (I := fun kk ff ss => ∃ (a4 : Nat), kk = l.length - a4 ∧ ff = [(0, .v y22 l), (1, .v y23 sn), (7, .v y110 (clR l l.length l.length)), (9, .v y125 (tabE ((clR l l.length l.length).take a2))), (145, .v y22 l), (146, I ((l.length : Nat) : Int)), (147, I ((a4 : Nat) : Int))] ∧ ss = [] ∧ (a4 ≤ l.length)) ?_ _ _ _ ⟨0, rfl, rfl, rfl, Nat.zero_le _⟩
  rintro kk ff ss ⟨a4, hk4, rfl, rfl, ha4⟩
  refine VC.seq (VC.text ?_)
  refine VO.c (.lss) ?_
  refine VO.go (VC.seq ?_)
  refine VC.condD rfl (fun c21 => ?_) (fun c21 => ?_)
  · have hil : a4 < l.length := by omega
    have pa := hpz _ (List.getElem_mem hil)
    have ka := hk _ (List.getElem_mem hil)
    refine VC.skip (VC.seq (VC.block (VC.seq (VC.text ?_))))
    refine VO.c (.move rfl) ?_
    refine VO.c (.ix (j := a4) rfl rfl el22 (by omega)) ?_
    refine VO.r (.ld vt31) ?_
    refine VO.cell (.alloc zt31) ?_
    intro ww4
    refine VO.c (.assign rfl) ?_
    refine VO.setV (cs' := [St ((l[a4]).1), St ((l[a4]).2.1), St ((l[a4]).2.2.1), .v (.sl .str) ((l[a4]).2.2.2.1), I (((l[a4]).2.2.2.2).1), I (((l[a4]).2.2.2.2).2)]) vt31 .v ?_
    refine VO.shut [(13, .p y31 (l[a4]))] (.cons rfl (.var m0 .refl) .nil) ?_
    refine VO.go (VC.seq (VC.text ?_))
    refine VO.c (.move rfl) ?_
    refine VO.r (.len el22) ?_
    refine VO.c (.move rfl) ?_
    refine VO.go (VC.block ?_)
    refine VC.keep [(0, .v y22 l), (1, .v y23 sn), (7, .v y110 (clR l l.length l.length)), (9, .v y125 (tabE ((clR l l.length l.length).take a2))), (12, I ((a4 : Nat) : Int)), (13, .p y31 (l[a4])), (145, .v y22 l), (146, I ((l.length : Nat) : Int)), (147, I ((a4 : Nat) : Int)), (152, .v y22 l), (153, I ((l.length : Nat) : Int)), (154, I ((0 : Nat) : Int))] ⟨rfl, rfl, rfl, rfl, rfl, rfl, rfl, rfl, rfl, rfl, rfl, rfl, trivial⟩ ?_
    refine VC.loop (I := fun kk ff ss => ∃ (a6 : Nat), kk = l.length - a6 ∧ ff = [(0, .v y22 l), (1, .v y23 sn), (7, .v y110 (clR l l.length l.length)), (9, .v y125 (tabE ((clR l l.length l.length).take a2))), (12, I ((a4 : Nat) : Int)), (13, .p y31 (l[a4])), (145, .v y22 l), (146, I ((l.length : Nat) : Int)), (147, I ((a4 : Nat) : Int)), (152, .v y22 l), (153, I ((l.length : Nat) : Int)), (154, I ((a6 : Nat) : Int))] ∧ ss = [] ∧ (a6 ≤ l.length)) ?_ _ _ _ ⟨0, rfl, rfl, rfl, Nat.zero_le _⟩
    rintro kk ff ss ⟨a6, hk6, rfl, rfl, ha6⟩
    refine VC.seq (VC.text ?_)
    refine VO.c (.lss) ?_
    refine VO.go (VC.seq ?_)
    refine VC.condD rfl (fun c24 => ?_) (fun c24 => ?_)
    · have hkl : a6 < l.length := by omega
      have pb := hpz _ (List.getElem_mem hkl)
      have kb := hk _ (List.getElem_mem hkl)
      have f1 := firstE_00 pa pb
      have f2 := firstE_00 pb pa
      have f3 := reason_comm (a := l[a4]) (b := l[a6])
      have f4 : a4 < a6 → (mget (tabE ((clR l l.length l.length).take a2)) ((a4 : Int), (a6 : Int))).getD ByteArray.empty = nameR (reasonIx l[a4] l[a6]) := fun h => by rw [htab, tab_all h hkl]; unfold clsN; rw [pAt_eq hil, pAt_eq hkl]
      refine VC.skip (VC.seq (VC.block (VC.seq (VC.text ?_))))
      refine VO.c (.move rfl) ?_
      refine VO.c (.ix (j := a6) rfl rfl el22 (by omega)) ?_
      refine VO.r (.ld vt31) ?_
      refine VO.cell (.alloc zt31) ?_
      intro ww5
      refine VO.c (.assign rfl) ?_
      refine VO.setV (cs' := [St ((l[a6]).1), St ((l[a6]).2.1), St ((l[a6]).2.2.1), .v (.sl .str) ((l[a6]).2.2.2.1), I (((l[a6]).2.2.2.2).1), I (((l[a6]).2.2.2.2).2)]) vt31 .v ?_
      refine VO.shut [(15, .p y31 (l[a6]))] (.cons rfl (.var m0 .refl) .nil) ?_
      refine VO.go (VC.seq (VC.drawn ?_))
      refine VD.r [] (.ld vt31) (.inl rfl) ?_
      refine VD.call rfl rfl (VF.call (lPermit_ok (by first | assumption | omega | simp))) ?_
      refine VD.r [] (.ld vt31) (.inl rfl) ?_
      refine VD.call rfl rfl (VF.call (lPermit_ok (by first | assumption | omega | simp))) ?_
      refine VD.callO rfl rfl (VF.call (sExclude_ok (by first | assumption | omega | simp) (by first | assumption | omega | simp))) ?_
      refine VD.c (.move rfl) ?_
      refine VD.nw [163, 161] ?_
      refine VD.c (.extract) ?_
      refine VD.c (.extract) ?_
      refine VD.c (.assign rfl) ?_
      refine VD.c (.assign rfl) ?_
      refine VD.go (VC.seq (VC.drawn ?_))
      refine VD.r [] (.ld vt31) (.inl rfl) ?_
      refine VD.call rfl rfl (VF.call (lPermit_ok (by first | assumption | omega | simp))) ?_
      refine VD.r [] (.ld vt31) (.inl rfl) ?_
      refine VD.call rfl rfl (VF.call (lPermit_ok (by first | assumption | omega | simp))) ?_
      refine VD.callO rfl rfl (VF.call (sExclude_ok (by first | assumption | omega | simp) (by first | assumption | omega | simp))) ?_
      refine VD.c (.move rfl) ?_
      refine VD.nw [171, 169] ?_
      refine VD.c (.extract) ?_
      refine VD.c (.extract) ?_
      refine VD.c (.assign rfl) ?_
      refine VD.c (.assign rfl) ?_
      refine VD.go (VC.seq (VC.text ?_))
      refine VO.c (.move rfl) ?_
      refine VO.c (.neq) ?_
      refine VO.c (.move rfl) ?_
      refine VO.cg (r := decide (firstE [permE (l[a4]), permE (l[a6])] ≠ (0 : Int))) (w := false) [] trivial (fun hgd => have g28_2 : ¬ (firstE [permE (l[a4]), permE (l[a6])] ≠ (0 : Int)) := (by simpa using hgd); (.move rfl)) ?_
      refine VO.cg (r := decide (firstE [permE (l[a4]), permE (l[a6])] ≠ (0 : Int))) (w := false) [(178, I (firstE [permE (l[a6]), permE (l[a4])]))] ⟨rfl, trivial⟩ (fun hgd => have g28_2 : ¬ (firstE [permE (l[a4]), permE (l[a6])] ≠ (0 : Int)) := (by simpa using hgd); (.neq)) ?_
      refine VO.c (.or) ?_
      refine VO.c (.move rfl) ?_
      refine VO.cg (r := ((decide (firstE [permE (l[a4]), permE (l[a6])] ≠ (0 : Int))) || (decide (firstE [permE (l[a6]), permE (l[a4])] ≠ (0 : Int))))) (w := false) [] trivial (fun hgd => have g28_6 : ((decide (firstE [permE (l[a4]), permE (l[a6])] ≠ (0 : Int))) || (decide (firstE [permE (l[a6]), permE (l[a4])] ≠ (0 : Int)))) = false := (by simpa using hgd); (.move rfl)) ?_
      refine VO.cg (r := ((decide (firstE [permE (l[a4]), permE (l[a6])] ≠ (0 : Int))) || (decide (firstE [permE (l[a6]), permE (l[a4])] ≠ (0 : Int))))) (w := false) [] trivial (fun hgd => have g28_6 : ((decide (firstE [permE (l[a4]), permE (l[a6])] ≠ (0 : Int))) || (decide (firstE [permE (l[a6]), permE (l[a4])] ≠ (0 : Int)))) = false := (by simpa using hgd); (.move rfl)) ?_
      refine VO.cg (r := ((decide (firstE [permE (l[a4]), permE (l[a6])] ≠ (0 : Int))) || (decide (firstE [permE (l[a6]), permE (l[a4])] ≠ (0 : Int))))) (w := false) [(182, St (if firstE [permE (l[a4]), permE (l[a6])] = 0 then nameR (reasonIx (l[a4]) (l[a6])) else ByteArray.empty)), (183, St (if firstE [permE (l[a6]), permE (l[a4])] = 0 then nameR (reasonIx (l[a6]) (l[a4])) else ByteArray.empty))] ⟨rfl, rfl, trivial⟩ (fun hgd => have g28_6 : ((decide (firstE [permE (l[a4]), permE (l[a6])] ≠ (0 : Int))) || (decide (firstE [permE (l[a6]), permE (l[a4])] ≠ (0 : Int)))) = false := (by simpa using hgd); (.sneq)) ?_
      refine VO.c (.or) ?_
      refine VO.c (.move rfl) ?_
      refine VO.splitB (x := 186) rfl (fun g28_11 => ?_) (fun g28_11 => ?_)
      · try simp only [Bool.and_eq_true, Bool.or_eq_true, Bool.and_eq_false_iff, Bool.or_eq_false_iff, Bool.not_eq_true', Bool.not_eq_false', decide_eq_true_eq, decide_eq_false_iff_not] at g28_11
        exact absurd g28_11 (by simp [f1, f2, f3])
      try simp only [Bool.and_eq_true, Bool.or_eq_true, Bool.and_eq_false_iff, Bool.or_eq_false_iff, Bool.not_eq_true', Bool.not_eq_false', decide_eq_true_eq, decide_eq_false_iff_not] at g28_11
      refine VO.c (.move rfl) ?_
      refine VO.c (.move rfl) ?_
      refine VO.c (.lss) ?_
      refine VO.c (.move rfl) ?_
      refine VO.cg (r := decide (((a4 : Nat) : Int) < ((a6 : Nat) : Int))) (w := true) [] trivial (fun hgd => have g28_15 : ((a4 : Nat) : Int) < ((a6 : Nat) : Int) := (by simpa using hgd); (.move rfl)) ?_
      refine VO.cg (r := decide (((a4 : Nat) : Int) < ((a6 : Nat) : Int))) (w := true) [] trivial (fun hgd => have g28_15 : ((a4 : Nat) : Int) < ((a6 : Nat) : Int) := (by simpa using hgd); (.move rfl)) ?_
      refine VO.cg (r := decide (((a4 : Nat) : Int) < ((a6 : Nat) : Int))) (w := true) [] trivial (fun hgd => have g28_15 : ((a4 : Nat) : Int) < ((a6 : Nat) : Int) := (by simpa using hgd); (.move rfl)) ?_
      refine VO.cg (r := decide (((a4 : Nat) : Int) < ((a6 : Nat) : Int))) (w := true) [] trivial (fun hgd => have g28_15 : ((a4 : Nat) : Int) < ((a6 : Nat) : Int) := (by simpa using hgd); (.move rfl)) ?_
      refine VO.cg (v := .v y128 (((a4 : Nat) : Int), ((a6 : Nat) : Int))) (r := decide (((a4 : Nat) : Int) < ((a6 : Nat) : Int))) (w := true) [(193, I ((a4 : Nat) : Int)), (194, I ((a6 : Nat) : Int))] ⟨rfl, rfl, trivial⟩ (fun hgd => have g28_15 : ((a4 : Nat) : Int) < ((a6 : Nat) : Int) := (by simpa using hgd); (.buildV bt128)) ?_
      refine VO.rg (r := decide (((a4 : Nat) : Int) < ((a6 : Nat) : Int))) (w := true) [(192, .v y125 (tabE ((clR l l.length l.length).take a2))), (195, .v y128 (((a4 : Nat) : Int), ((a6 : Nat) : Int)))] ⟨rfl, rfl, trivial⟩ (fun hgd => have g28_15 : ((a4 : Nat) : Int) < ((a6 : Nat) : Int) := (by simpa using hgd); (.look mt125)) ?_
      refine VO.cg (r := decide (((a4 : Nat) : Int) < ((a6 : Nat) : Int))) (w := true) [(191, St (if firstE [permE (l[a4]), permE (l[a6])] = 0 then nameR (reasonIx (l[a4]) (l[a6])) else ByteArray.empty)), (196, St ((mget (tabE ((clR l l.length l.length).take a2)) (((a4 : Nat) : Int), ((a6 : Nat) : Int))).getD ByteArray.empty))] ⟨rfl, rfl, trivial⟩ (fun hgd => have g28_15 : ((a4 : Nat) : Int) < ((a6 : Nat) : Int) := (by simpa using hgd); (.sneq)) ?_
      refine VO.c (.and) ?_
      refine VO.c (.pickF rfl rfl) ?_
      refine VO.go ?_
      refine VC.condB rfl (fun c28 => ?_) (fun c28 => ?_)
      · try simp only [Bool.and_eq_true, Bool.or_eq_true, Bool.and_eq_false_iff, Bool.or_eq_false_iff, Bool.not_eq_true', Bool.not_eq_false', decide_eq_true_eq, decide_eq_false_iff_not] at c28
        exact absurd c28 (by simp only [if_pos f1]; exact fun h => h.2 (f4 (by omega)).symm)
      try simp only [Bool.and_eq_true, Bool.or_eq_true, Bool.and_eq_false_iff, Bool.or_eq_false_iff, Bool.not_eq_true', Bool.not_eq_false', decide_eq_true_eq, decide_eq_false_iff_not] at c28
      refine VC.skip ?_
      refine VC.keep [(0, .v y22 l), (1, .v y23 sn), (7, .v y110 (clR l l.length l.length)), (9, .v y125 (tabE ((clR l l.length l.length).take a2))), (12, I ((a4 : Nat) : Int)), (13, .p y31 (l[a4])), (145, .v y22 l), (146, I ((l.length : Nat) : Int)), (147, I ((a4 : Nat) : Int)), (152, .v y22 l), (153, I ((l.length : Nat) : Int)), (154, I ((a6 : Nat) : Int))] ⟨rfl, rfl, rfl, rfl, rfl, rfl, rfl, rfl, rfl, rfl, rfl, rfl, trivial⟩ ?_
      refine VC.text ?_
      refine VO.c (.add rfl rfl (by omega)) ?_
      refine VO.c (.move rfl) ?_
      refine VO.nil ?_
      refine ⟨_, [(0, .v y22 l), (1, .v y23 sn), (7, .v y110 (clR l l.length l.length)), (9, .v y125 (tabE ((clR l l.length l.length).take a2))), (12, I ((a4 : Nat) : Int)), (13, .p y31 (l[a4])), (145, .v y22 l), (146, I ((l.length : Nat) : Int)), (147, I ((a4 : Nat) : Int)), (152, .v y22 l), (153, I ((l.length : Nat) : Int)), (154, I (((a6 + 1) : Nat) : Int))], ?_, ⟨rfl, rfl, rfl, rfl, rfl, rfl, rfl, rfl, rfl, rfl, rfl, rfl, trivial⟩, (a6 + 1), rfl, rfl, rfl, (by omega)⟩
      omega
    refine VC.exit (VC.text ?_)
    refine VO.c (.add rfl rfl (by omega)) ?_
    refine VO.c (.move rfl) ?_
    refine VO.nil ?_
    refine ⟨_, [(0, .v y22 l), (1, .v y23 sn), (7, .v y110 (clR l l.length l.length)), (9, .v y125 (tabE ((clR l l.length l.length).take a2))), (145, .v y22 l), (146, I ((l.length : Nat) : Int)), (147, I (((a4 + 1) : Nat) : Int))], ?_, ⟨rfl, rfl, rfl, rfl, rfl, rfl, rfl, trivial⟩, (a4 + 1), rfl, rfl, rfl, (by omega)⟩
    omega
  refine VC.exit (VC.seq (VC.text ?_))
  refine VO.c (.move rfl) ?_
  refine VO.call rfl rfl (VF.call (lPermits_ok (by first | assumption | omega | simp) (by first | assumption | omega | simp))) ?_
  refine VO.call rfl rfl (VF.call (sBusy_ok (by first | assumption | omega | simp) (by first | assumption | omega | simp))) ?_
  refine VO.c (.move rfl) ?_
  refine VO.c (.extract) ?_
  refine VO.c (.extract) ?_
  refine VO.c (.extract) ?_
  refine VO.c (.assign rfl) ?_
  refine VO.c (.assign rfl) ?_
  refine VO.c (.assign rfl) ?_
  refine VO.go (VC.seq (VC.seq (VC.text ?_)))
  refine VO.c (.move rfl) ?_
  refine VO.r (.len el22) ?_
  refine VO.c (.eql) ?_
  refine VO.go ?_
  refine VC.condD rfl (fun c33 => ?_) (fun c33 => ?_)
  · refine VC.seq (VC.text ?_)
    refine VO.c (.move rfl) ?_
    refine VO.c (.eql) ?_
    refine VO.c (.move rfl) ?_
    refine VO.callg (r0 := decide (busyC l = (12 : Int))) (w := true) [] trivial rfl rfl .same .refl rfl (fun hgd => have g34_2 : busyC l = (12 : Int) := (by simpa using hgd); VF.call (awakeC_ok )) ?_
    refine VO.c (.and) ?_
    refine VO.c (.assign rfl) ?_
    refine VO.go ?_
    refine VC.ret ?_
    exact VEnd.one rfl evT (pvE (by rw [busyC_t hz, decide_eq_true c33] <;> rfl))
  have hne : l ≠ [] := fun e => c33 (by rw [e]; rfl)
  have hbc : busyC l = 0 := by rw [busyC_t hz, decide_eq_false c33] <;> rfl
  have hb1 := busy_1 hz
  have hb2 := busy_2 hz
  have hbt := busy_top hv h2 hne
  have hve := valid_same hz hsz
  refine VC.skip (VC.seq (VC.text ?_))
  refine VO.c (.move rfl) ?_
  refine VO.call rfl rfl (VF.call (lPermits_ok (by first | assumption | omega | simp) (by first | assumption | omega | simp))) ?_
  refine VO.c (.move rfl) ?_
  refine VO.call rfl rfl (VF.call (lSeasons_ok (by first | assumption | omega | simp))) ?_
  refine VO.call rfl rfl (VF.call (sValidT_ok (by first | assumption | omega | simp) (by first | assumption | omega | simp) (by first | assumption | omega | simp))) ?_
  refine VO.c (.eql) ?_
  refine VO.c (.assign rfl) ?_
  refine VO.go (VC.seq (VC.seq (VC.text ?_)))
  refine VO.c (.move rfl) ?_
  refine VO.c (.move rfl) ?_
  refine VO.cg (r := decide (sValidE l sn = (0 : Int))) (w := true) [] trivial (fun hgd => have g36_1 : sValidE l sn = (0 : Int) := (by first | exact eq_of_beq hgd | simpa using hgd); (.move rfl)) ?_
  refine VO.rg (r := decide (sValidE l sn = (0 : Int))) (w := true) [(225, .v y110 (clR l l.length l.length))] ⟨rfl, trivial⟩ (fun hgd => have g36_1 : sValidE l sn = (0 : Int) := (by first | exact eq_of_beq hgd | simpa using hgd); (.len el110)) ?_
  refine VO.cg (r := decide (sValidE l sn = (0 : Int))) (w := true) [(226, I (((clR l l.length l.length).length : Nat) : Int))] ⟨rfl, trivial⟩ (fun hgd => have g36_1 : sValidE l sn = (0 : Int) := (by first | exact eq_of_beq hgd | simpa using hgd); (.gtr)) ?_
  refine VO.c (.and) ?_
  refine VO.c (.move rfl) ?_
  refine VO.cg (r := ((decide (sValidE l sn = (0 : Int))) && (decide ((0 : Int) < (((clR l l.length l.length).length : Nat) : Int))))) (w := false) [] trivial (fun hgd => have g36_6 : ((decide (sValidE l sn = (0 : Int))) && (decide ((0 : Int) < (((clR l l.length l.length).length : Nat) : Int)))) = false := (by first | exact eq_of_beq hgd | simpa using hgd); (.move rfl)) ?_
  refine VO.cg (r := ((decide (sValidE l sn = (0 : Int))) && (decide ((0 : Int) < (((clR l l.length l.length).length : Nat) : Int))))) (w := false) [(230, I (busyC l))] ⟨rfl, trivial⟩ (fun hgd => have g36_6 : ((decide (sValidE l sn = (0 : Int))) && (decide ((0 : Int) < (((clR l l.length l.length).length : Nat) : Int)))) = false := (by first | exact eq_of_beq hgd | simpa using hgd); (.neq)) ?_
  refine VO.c (.or) ?_
  refine VO.go ?_
  refine VC.condB rfl (fun c36 => ?_) (fun c36 => ?_)
  · try simp only [Bool.and_eq_true, Bool.or_eq_true, Bool.and_eq_false_iff, Bool.or_eq_false_iff, Bool.not_eq_true', Bool.not_eq_false', decide_eq_true_eq, decide_eq_false_iff_not] at c36
    exact absurd c36 (by simp only [hbc]; exact fun h => h.elim (fun h => by rw [free_none (valid_free (hve.symm.trans h.1)) (Nat.le_refl _)] at h; exact absurd h.2 (by decide)) fun h => h rfl)
  try simp only [Bool.and_eq_true, Bool.or_eq_true, Bool.and_eq_false_iff, Bool.or_eq_false_iff, Bool.not_eq_true', Bool.not_eq_false', decide_eq_true_eq, decide_eq_false_iff_not] at c36
  refine VC.skip (VC.seq (VC.text ?_))
  refine VO.c (.assign rfl) ?_
  refine VO.c (.assign rfl) ?_
  refine VO.go (VC.seq (VC.seq (VC.text ?_)))
  refine VO.c (.move rfl) ?_
  refine VO.go (VC.block ?_)
  refine VC.keep [(0, .v y22 l), (1, .v y23 sn), (20, I (if busyC l = 0 then (busyE l l.length).1 else 0)), (21, I (if busyC l = 0 then (busyE l l.length).2 else 0)), (23, D (sValidE l sn = (0 : Int))), (24, I ((topE l 0).1)), (25, I ((topE l 0).2)), (233, I ((0 : Nat) : Int))] ⟨rfl, rfl, rfl, rfl, rfl, rfl, rfl, rfl, trivial⟩ ?_
  refine VC.loop (I := fun kk ff ss => ∃ (n : Nat), kk = 200 - n ∧ ff = [(0, .v y22 l), (1, .v y23 sn), (20, I (if busyC l = 0 then (busyE l l.length).1 else 0)), (21, I (if busyC l = 0 then (busyE l l.length).2 else 0)), (23, D (sValidE l sn = (0 : Int))), (24, I ((topE l n).1)), (25, I ((topE l n).2)), (233, I ((n : Nat) : Int))] ∧ ss = [] ∧ (n ≤ 200)) ?_ _ _ _ ⟨0, rfl, rfl, rfl, Nat.zero_le _⟩
  rintro kk ff ss ⟨n, hk8, rfl, rfl, hn⟩
  refine VC.seq (VC.text ?_)
  refine VO.c (.lss) ?_
  refine VO.go (VC.seq ?_)
  refine VC.condD rfl (fun c40 => ?_) (fun c40 => ?_)
  · have hn2 : n < 200 := by omega
    have ho : firstE [permsE l, rangeE n 0 100000] = 0 := firstE_00 hz (by unfold rangeE; rw [if_neg (by omega)])
    refine VC.skip (VC.seq (VC.block (VC.seq (VC.text ?_))))
    refine VO.c (.move rfl) ?_
    refine VO.c (.assign rfl) ?_
    refine VO.go (VC.seq (VC.text ?_))
    refine VO.c (.move rfl) ?_
    refine VO.call rfl rfl (VF.call (lPermits_ok (by first | assumption | omega | simp) (by first | assumption | omega | simp))) ?_
    refine VO.c (.move rfl) ?_
    refine VO.call rfl rfl (VF.call (sOutT_ok (by first | assumption | omega | simp) (by first | assumption | omega | simp))) ?_
    refine VO.c (.move rfl) ?_
    refine VO.c (.extract) ?_
    rw [if_pos ho]
    refine VO.c (.extract) ?_
    refine VO.c (.assign rfl) ?_
    refine VO.c (.assign rfl) ?_
    refine VO.go (VC.seq (VC.text ?_))
    refine VO.c (.move rfl) ?_
    refine VO.call rfl rfl (VF.call (lPermits_ok (by first | assumption | omega | simp) (by first | assumption | omega | simp))) ?_
    refine VO.c (.move rfl) ?_
    refine VO.call rfl rfl (VF.call (sLockedT_ok (by first | assumption | omega | simp) (by first | assumption | omega | simp))) ?_
    refine VO.c (.move rfl) ?_
    refine VO.c (.extract) ?_
    rw [if_pos ho]
    refine VO.c (.extract) ?_
    refine VO.c (.assign rfl) ?_
    refine VO.c (.assign rfl) ?_
    refine VO.go (VC.seq (VC.seq (VC.text ?_)))
    refine VO.c (.move rfl) ?_
    refine VO.c (.neq) ?_
    refine VO.c (.move rfl) ?_
    refine VO.cg (r := decide (firstE [permsE l, rangeE ((n : Nat) : Int) 0 100000] ≠ (0 : Int))) (w := false) [] trivial (fun hgd => have g44_2 : ¬ (firstE [permsE l, rangeE ((n : Nat) : Int) 0 100000] ≠ (0 : Int)) := (by simpa using hgd); (.move rfl)) ?_
    refine VO.cg (r := decide (firstE [permsE l, rangeE ((n : Nat) : Int) 0 100000] ≠ (0 : Int))) (w := false) [(253, I (firstE [permsE l, rangeE ((n : Nat) : Int) 0 100000]))] ⟨rfl, trivial⟩ (fun hgd => have g44_2 : ¬ (firstE [permsE l, rangeE ((n : Nat) : Int) 0 100000] ≠ (0 : Int)) := (by simpa using hgd); (.neq)) ?_
    refine VO.c (.or) ?_
    refine VO.go ?_
    refine VC.condB rfl (fun c44 => ?_) (fun c44 => ?_)
    · try simp only [Bool.and_eq_true, Bool.or_eq_true, Bool.and_eq_false_iff, Bool.or_eq_false_iff, Bool.not_eq_true', Bool.not_eq_false', decide_eq_true_eq, decide_eq_false_iff_not] at c44
      exact (c44.elim (fun h => h ho) (fun h => h ho)).elim
    try simp only [Bool.and_eq_true, Bool.or_eq_true, Bool.and_eq_false_iff, Bool.or_eq_false_iff, Bool.not_eq_true', Bool.not_eq_false', decide_eq_true_eq, decide_eq_false_iff_not] at c44
    refine VC.skip (VC.seq (VC.text ?_))
    refine VO.cell (.mkMap .str (.int .i64)) ?_
    intro ww6
    refine VO.cell (.mkMap .str (.int .i64)) ?_
    intro ww7
    refine VO.cell (.mkMap .str (.int .i64)) ?_
    intro ww8
    refine VO.c (.assign rfl) ?_
    refine VO.c (.assign rfl) ?_
    refine VO.c (.assign rfl) ?_
    refine VO.go (VC.seq (VC.seq ?_))
    refine VC.keep [(0, .v y22 l), (1, .v y23 sn), (20, I (if busyC l = 0 then (busyE l l.length).1 else 0)), (21, I (if busyC l = 0 then (busyE l l.length).2 else 0)), (23, D (sValidE l sn = (0 : Int))), (24, I ((topE l n).1)), (25, I ((topE l n).2)), (26, I ((n : Nat) : Int)), (27, .v (.sl .str) (outE l n)), (29, .v (.sl .str) (lockedE l n)), (31, .raw ww6), (32, .raw ww7), (33, .raw ww8), (233, I ((n : Nat) : Int))] ⟨rfl, rfl, rfl, rfl, rfl, rfl, rfl, rfl, rfl, rfl, rfl, rfl, rfl, rfl, trivial⟩ ?_
    refine VC.text ?_
    refine VO.c (.move rfl) ?_
    refine VO.r (.len el22) ?_
    refine VO.c (.move rfl) ?_
    refine VO.go (VC.block ?_)
    refine VC.keep [(0, .v y22 l), (1, .v y23 sn), (20, I (if busyC l = 0 then (busyE l l.length).1 else 0)), (21, I (if busyC l = 0 then (busyE l l.length).2 else 0)), (23, D (sValidE l sn = (0 : Int))), (24, I ((topE l n).1)), (25, I ((topE l n).2)), (26, I ((n : Nat) : Int)), (27, .v (.sl .str) (outE l n)), (29, .v (.sl .str) (lockedE l n)), (31, .raw ww6), (32, .raw ww7), (33, .raw ww8), (233, I ((n : Nat) : Int)), (259, .v y22 l), (260, I ((l.length : Nat) : Int)), (261, I ((0 : Nat) : Int))] ⟨rfl, rfl, rfl, rfl, rfl, rfl, rfl, rfl, rfl, rfl, rfl, rfl, rfl, rfl, rfl, rfl, rfl, trivial⟩ ?_
    refine VC.loop (I := fun kk ff ss => ∃ (b : Nat), kk = l.length - b ∧ ff = [(0, .v y22 l), (1, .v y23 sn), (20, I (if busyC l = 0 then (busyE l l.length).1 else 0)), (21, I (if busyC l = 0 then (busyE l l.length).2 else 0)), (23, D (sValidE l sn = (0 : Int))), (24, I ((topE l n).1)), (25, I ((topE l n).2)), (26, I ((n : Nat) : Int)), (27, .v (.sl .str) (outE l n)), (29, .v (.sl .str) (lockedE l n)), (31, .raw ww6), (32, .raw ww7), (33, .raw ww8), (233, I ((n : Nat) : Int)), (259, .v y22 l), (260, I ((l.length : Nat) : Int)), (261, I ((b : Nat) : Int))] ∧ ss = [(ww8, .mp .str (.int .i64) (cntM (gatesW (l.take b) n))), (ww7, .mp .str (.int .i64) (cntM (locksW (l.take b) n))), (ww6, .mp .str (.int .i64) (cntM (crewsW (l.take b) n)))] ∧ (b ≤ l.length)) ?_ _ _ _ ⟨0, rfl, rfl, rfl, Nat.zero_le _⟩
    rintro kk ff ss ⟨b, hk10, rfl, rfl, hb⟩
    refine VC.seq (VC.text ?_)
    refine VO.c (.lss) ?_
    refine VO.go (VC.seq ?_)
    refine VC.condD rfl (fun c48 => ?_) (fun c48 => ?_)
    · have hbl : b < l.length := by omega
      refine VC.skip (VC.seq (VC.block (VC.seq (VC.text ?_))))
      refine VO.c (.ix (j := b) rfl rfl el22 (by omega)) ?_
      refine VO.r (.ld vt31) ?_
      refine VO.cell (.alloc zt31) ?_
      intro ww9
      refine VO.setV (cs' := [St ((l[b]).1), St ((l[b]).2.1), St ((l[b]).2.2.1), .v (.sl .str) ((l[b]).2.2.2.1), I (((l[b]).2.2.2.2).1), I (((l[b]).2.2.2.2).2)]) vt31 .v ?_
      refine VO.shut [(35, .p y31 (l[b]))] (.cons rfl (.var m0 .refl) .nil) ?_
      refine VO.go (VC.seq (VC.seq (VC.text ?_)))
      refine VO.c (.move rfl) ?_
      refine VO.c (.fa (.r (.r (.r (.r .o))))) ?_
      refine VO.c (.fa (.l .o)) ?_
      refine VO.r (.ld vt3) ?_
      refine VO.c (.lss) ?_
      refine VO.c (.move rfl) ?_
      refine VO.cg (r := decide (((n : Nat) : Int) < ((l[b]).2.2.2.2).1)) (w := false) [] trivial (fun hgd => have g50_5 : ¬ (((n : Nat) : Int) < ((l[b]).2.2.2.2).1) := (by simpa using hgd); (.move rfl)) ?_
      refine VO.cg (r := decide (((n : Nat) : Int) < ((l[b]).2.2.2.2).1)) (w := false) [] trivial (fun hgd => have g50_5 : ¬ (((n : Nat) : Int) < ((l[b]).2.2.2.2).1) := (by simpa using hgd); (.fa (.r (.r (.r (.r .o)))))) ?_
      refine VO.cg (r := decide (((n : Nat) : Int) < ((l[b]).2.2.2.2).1)) (w := false) [(272, .p y29 ((l[b]).2.2.2.2))] ⟨rfl, trivial⟩ (fun hgd => have g50_5 : ¬ (((n : Nat) : Int) < ((l[b]).2.2.2.2).1) := (by simpa using hgd); (.fa (.r .o))) ?_
      refine VO.rg (r := decide (((n : Nat) : Int) < ((l[b]).2.2.2.2).1)) (w := false) [(273, .p (.int .i64) (((l[b]).2.2.2.2).2))] ⟨rfl, trivial⟩ (fun hgd => have g50_5 : ¬ (((n : Nat) : Int) < ((l[b]).2.2.2.2).1) := (by simpa using hgd); (.ld vt3)) ?_
      refine VO.cg (r := decide (((n : Nat) : Int) < ((l[b]).2.2.2.2).1)) (w := false) [(271, I ((n : Nat) : Int)), (274, I (((l[b]).2.2.2.2).2))] ⟨rfl, rfl, trivial⟩ (fun hgd => have g50_5 : ¬ (((n : Nat) : Int) < ((l[b]).2.2.2.2).1) := (by simpa using hgd); (.geq)) ?_
      refine VO.c (.or) ?_
      refine VO.go ?_
      refine VC.condB rfl (fun c50 => ?_) (fun c50 => ?_)
      · try simp only [Bool.and_eq_true, Bool.or_eq_true, Bool.and_eq_false_iff, Bool.or_eq_false_iff, Bool.not_eq_true', Bool.not_eq_false', decide_eq_true_eq, decide_eq_false_iff_not] at c50
        have hht : ¬ hasT (l[b]).2.2.2.2 n = true := fun h => by have := hasT_iff.1 h; omega
        refine VC.exit (VC.text ?_)
        refine VO.c (.add rfl rfl (by omega)) ?_
        refine VO.c (.move rfl) ?_
        refine VO.nil ?_
        refine ⟨_, [(0, .v y22 l), (1, .v y23 sn), (20, I (if busyC l = 0 then (busyE l l.length).1 else 0)), (21, I (if busyC l = 0 then (busyE l l.length).2 else 0)), (23, D (sValidE l sn = (0 : Int))), (24, I ((topE l n).1)), (25, I ((topE l n).2)), (26, I ((n : Nat) : Int)), (27, .v (.sl .str) (outE l n)), (29, .v (.sl .str) (lockedE l n)), (31, .raw ww6), (32, .raw ww7), (33, .raw ww8), (233, I ((n : Nat) : Int)), (259, .v y22 l), (260, I ((l.length : Nat) : Int)), (261, I (((b + 1) : Nat) : Int))], ?_, ⟨rfl, rfl, rfl, rfl, rfl, rfl, rfl, rfl, rfl, rfl, rfl, rfl, rfl, rfl, rfl, rfl, rfl, trivial⟩, (b + 1), rfl, rfl, (by first | (rw [crews_t hbl hht, gates_t hbl hht, locks_t hbl hht (q := q) (by omega)]; rfl) | rw [(maps_f hbl hht).1, (maps_f hbl hht).2.1, (maps_f hbl hht).2.2]), (by omega)⟩
        omega
      try simp only [Bool.and_eq_true, Bool.or_eq_true, Bool.and_eq_false_iff, Bool.or_eq_false_iff, Bool.not_eq_true', Bool.not_eq_false', decide_eq_true_eq, decide_eq_false_iff_not] at c50
      have hht : hasT (l[b]).2.2.2.2 n = true := hasT_iff.2 (by omega)
      have h9b : (l[b]).2.2.2.1.length ≤ 9 := h9 _ (List.getElem_mem hbl)
      refine VC.skip (VC.seq (VC.text ?_))
      refine VO.c (.move rfl) ?_
      refine VO.c (.fa (.r (.l .o))) ?_
      refine VO.r (.ld vt9) ?_
      refine VO.r (.lookO mt129 m2) ?_
      refine VO.c (.add rfl rfl (by have := crew_bd (t := n) (i := b) (v := (l[b]).2.1) hl5; omega)) ?_
      refine VO.perm swap2 ?_
      refine VO.mput mt129 ?_
      refine VO.go (VC.seq (VC.text ?_))
      refine VO.c (.move rfl) ?_
      refine VO.c (.fa (.r (.r (.l .o)))) ?_
      refine VO.r (.ld vt9) ?_
      refine VO.r (.lookO mt129 m1) ?_
      refine VO.c (.add rfl rfl (by have := gate_bd (t := n) (i := b) (v := (l[b]).2.2.1) hl5; omega)) ?_
      refine VO.perm swap1 ?_
      refine VO.mput mt129 ?_
      refine VO.go (VC.seq (VC.text ?_))
      refine VO.c (.fa (.r (.r (.r (.l .o))))) ?_
      refine VO.r (.ld vt27) ?_
      refine VO.r (.len el27) ?_
      refine VO.c (.move rfl) ?_
      refine VO.go (VC.block ?_)
      refine VC.keep [(0, .v y22 l), (1, .v y23 sn), (20, I (if busyC l = 0 then (busyE l l.length).1 else 0)), (21, I (if busyC l = 0 then (busyE l l.length).2 else 0)), (23, D (sValidE l sn = (0 : Int))), (24, I ((topE l n).1)), (25, I ((topE l n).2)), (26, I ((n : Nat) : Int)), (27, .v (.sl .str) (outE l n)), (29, .v (.sl .str) (lockedE l n)), (31, .raw ww6), (32, .raw ww7), (33, .raw ww8), (233, I ((n : Nat) : Int)), (259, .v y22 l), (260, I ((l.length : Nat) : Int)), (261, I ((b : Nat) : Int)), (288, .v (.sl .str) ((l[b]).2.2.2.1)), (289, I ((((l[b]).2.2.2.1).length : Nat) : Int)), (290, I ((0 : Nat) : Int))] ⟨rfl, rfl, rfl, rfl, rfl, rfl, rfl, rfl, rfl, rfl, rfl, rfl, rfl, rfl, rfl, rfl, rfl, rfl, rfl, rfl, trivial⟩ ?_
      refine VC.loop (I := fun kk ff ss => ∃ (q : Nat), kk = (l[b]).2.2.2.1.length - q ∧ ff = [(0, .v y22 l), (1, .v y23 sn), (20, I (if busyC l = 0 then (busyE l l.length).1 else 0)), (21, I (if busyC l = 0 then (busyE l l.length).2 else 0)), (23, D (sValidE l sn = (0 : Int))), (24, I ((topE l n).1)), (25, I ((topE l n).2)), (26, I ((n : Nat) : Int)), (27, .v (.sl .str) (outE l n)), (29, .v (.sl .str) (lockedE l n)), (31, .raw ww6), (32, .raw ww7), (33, .raw ww8), (233, I ((n : Nat) : Int)), (259, .v y22 l), (260, I ((l.length : Nat) : Int)), (261, I ((b : Nat) : Int)), (288, .v (.sl .str) ((l[b]).2.2.2.1)), (289, I ((((l[b]).2.2.2.1).length : Nat) : Int)), (290, I ((q : Nat) : Int))] ∧ ss = [(ww8, .mp .str (.int .i64) (mset (cntM (gatesW (l.take b) n)) ((l[b]).2.2.1) (((mget (cntM (gatesW (l.take b) n)) ((l[b]).2.2.1)).getD 0) + (1 : Int)))), (ww6, .mp .str (.int .i64) (mset (cntM (crewsW (l.take b) n)) ((l[b]).2.1) (((mget (cntM (crewsW (l.take b) n)) ((l[b]).2.1)).getD 0) + (1 : Int)))), (ww7, .mp .str (.int .i64) (lockP (cntM (locksW (l.take b) n)) (l[b]).2.2.2.1 q))] ∧ (q ≤ (l[b]).2.2.2.1.length)) ?_ _ _ _ ⟨0, rfl, rfl, rfl, (by omega)⟩
      rintro kk ff ss ⟨q, hk12, rfl, rfl, hq⟩
      refine VC.seq (VC.text ?_)
      refine VO.c (.lss) ?_
      refine VO.go (VC.seq ?_)
      refine VC.condD rfl (fun c54 => ?_) (fun c54 => ?_)
      · refine VC.skip (VC.seq (VC.block (VC.seq (VC.text ?_))))
        refine VO.c (.ix (j := q) rfl rfl el27 (by omega)) ?_
        refine VO.r (.ld vt9) ?_
        refine VO.c (.assign rfl) ?_
        refine VO.go (VC.text ?_)
        refine VO.c (.move rfl) ?_
        refine VO.c (.move rfl) ?_
        refine VO.r (.lookO mt129 m2) ?_
        refine VO.c (.add rfl rfl (by have := lock_bd (t := n) (i := b) (q := q) (v := (l[b]).2.2.2.1[q]) (ls := (l[b]).2.2.2.1) hl5 h9; have := h9 _ (List.getElem_mem hbl); omega)) ?_
        refine VO.perm swap2 ?_
        refine VO.mput mt129 ?_
        refine VO.nil (VC.text ?_)
        refine VO.c (.add rfl rfl (by omega)) ?_
        refine VO.c (.move rfl) ?_
        refine VO.perm swap2 ?_
        refine VO.perm swap2 ?_
        refine VO.nil ?_
        refine ⟨_, [(0, .v y22 l), (1, .v y23 sn), (20, I (if busyC l = 0 then (busyE l l.length).1 else 0)), (21, I (if busyC l = 0 then (busyE l l.length).2 else 0)), (23, D (sValidE l sn = (0 : Int))), (24, I ((topE l n).1)), (25, I ((topE l n).2)), (26, I ((n : Nat) : Int)), (27, .v (.sl .str) (outE l n)), (29, .v (.sl .str) (lockedE l n)), (31, .raw ww6), (32, .raw ww7), (33, .raw ww8), (233, I ((n : Nat) : Int)), (259, .v y22 l), (260, I ((l.length : Nat) : Int)), (261, I ((b : Nat) : Int)), (288, .v (.sl .str) ((l[b]).2.2.2.1)), (289, I ((((l[b]).2.2.2.1).length : Nat) : Int)), (290, I (((q + 1) : Nat) : Int))], ?_, ⟨rfl, rfl, rfl, rfl, rfl, rfl, rfl, rfl, rfl, rfl, rfl, rfl, rfl, rfl, rfl, rfl, rfl, rfl, rfl, rfl, trivial⟩, (q + 1), rfl, rfl, (by rw [lockP_succ (by omega)] <;> rfl), (by omega)⟩
        omega
      refine VC.exit (VC.text ?_)
      refine VO.c (.add rfl rfl (by omega)) ?_
      refine VO.c (.move rfl) ?_
      refine VO.perm swap1 ?_
      refine VO.perm swap2 ?_
      refine VO.perm swap2 ?_
      refine VO.nil ?_
      refine ⟨_, [(0, .v y22 l), (1, .v y23 sn), (20, I (if busyC l = 0 then (busyE l l.length).1 else 0)), (21, I (if busyC l = 0 then (busyE l l.length).2 else 0)), (23, D (sValidE l sn = (0 : Int))), (24, I ((topE l n).1)), (25, I ((topE l n).2)), (26, I ((n : Nat) : Int)), (27, .v (.sl .str) (outE l n)), (29, .v (.sl .str) (lockedE l n)), (31, .raw ww6), (32, .raw ww7), (33, .raw ww8), (233, I ((n : Nat) : Int)), (259, .v y22 l), (260, I ((l.length : Nat) : Int)), (261, I (((b + 1) : Nat) : Int))], ?_, ⟨rfl, rfl, rfl, rfl, rfl, rfl, rfl, rfl, rfl, rfl, rfl, rfl, rfl, rfl, rfl, rfl, rfl, trivial⟩, (b + 1), rfl, rfl, (by first | (rw [crews_t hbl hht, gates_t hbl hht, locks_t hbl hht (q := q) (by omega)]; rfl) | rw [(maps_f hbl hht).1, (maps_f hbl hht).2.1, (maps_f hbl hht).2.2]), (by omega)⟩
      omega
    have e1 : l.take b = l := List.take_of_length_le (by omega)
    have g1 : ((cntM (gatesW (l.take b) n)).length : Int) = ((outE l n).length : Int) := by rw [e1, cntM_len] <;> rfl
    have g2 : ((cntM (locksW (l.take b) n)).length : Int) = ((lockedE l n).length : Int) := by rw [e1, cntM_len] <;> rfl
    have ao : Asc (outE l n) := setE_asc _
    have al : Asc (lockedE l n) := setE_asc _
    have lo := outE_len (l := l) (t := n)
    have ll := locked_len (t := n) h9
    refine VC.exit (VC.seq (VC.seq ?_))
    refine VC.perm swap2 ?_
    refine VC.shutL [(ww6, .mp .str (.int .i64) (cntM (crewsW (l.take b) n)))] [(31, .v y129 (cntM (crewsW (l.take b) n)))] rfl (.cons rfl (.mp m0) .nil) ?_
    refine VC.shutL [(ww8, .mp .str (.int .i64) (cntM (gatesW (l.take b) n)))] [(33, .v y129 (cntM (gatesW (l.take b) n)))] rfl (.cons rfl (.mp m0) .nil) ?_
    refine VC.shutL [(ww7, .mp .str (.int .i64) (cntM (locksW (l.take b) n)))] [(32, .v y129 (cntM (locksW (l.take b) n)))] rfl (.cons rfl (.mp m0) .nil) ?_
    refine VC.text ?_
    refine VO.c (.move rfl) ?_
    refine VO.r (.len el27) ?_
    refine VO.c (.move rfl) ?_
    refine VO.r (.lenM mt129) ?_
    refine VO.c (.neq) ?_
    refine VO.c (.move rfl) ?_
    refine VO.cg (r := decide ((((outE l n).length : Nat) : Int) ≠ (((cntM (gatesW (l.take b) n)).length : Nat) : Int))) (w := false) [] trivial (fun hgd => have g59_5 : ¬ ((((outE l n).length : Nat) : Int) ≠ (((cntM (gatesW (l.take b) n)).length : Nat) : Int)) := (by simpa using hgd); (.move rfl)) ?_
    refine VO.rg (r := decide ((((outE l n).length : Nat) : Int) ≠ (((cntM (gatesW (l.take b) n)).length : Nat) : Int))) (w := false) [(306, .v (.sl .str) (lockedE l n))] ⟨rfl, trivial⟩ (fun hgd => have g59_5 : ¬ ((((outE l n).length : Nat) : Int) ≠ (((cntM (gatesW (l.take b) n)).length : Nat) : Int)) := (by simpa using hgd); (.len el27)) ?_
    refine VO.cg (r := decide ((((outE l n).length : Nat) : Int) ≠ (((cntM (gatesW (l.take b) n)).length : Nat) : Int))) (w := false) [] trivial (fun hgd => have g59_5 : ¬ ((((outE l n).length : Nat) : Int) ≠ (((cntM (gatesW (l.take b) n)).length : Nat) : Int)) := (by simpa using hgd); (.move rfl)) ?_
    refine VO.rg (r := decide ((((outE l n).length : Nat) : Int) ≠ (((cntM (gatesW (l.take b) n)).length : Nat) : Int))) (w := false) [(308, .v y129 (cntM (locksW (l.take b) n)))] ⟨rfl, trivial⟩ (fun hgd => have g59_5 : ¬ ((((outE l n).length : Nat) : Int) ≠ (((cntM (gatesW (l.take b) n)).length : Nat) : Int)) := (by simpa using hgd); (.lenM mt129)) ?_
    refine VO.cg (r := decide ((((outE l n).length : Nat) : Int) ≠ (((cntM (gatesW (l.take b) n)).length : Nat) : Int))) (w := false) [(307, I (((lockedE l n).length : Nat) : Int)), (309, I (((cntM (locksW (l.take b) n)).length : Nat) : Int))] ⟨rfl, rfl, trivial⟩ (fun hgd => have g59_5 : ¬ ((((outE l n).length : Nat) : Int) ≠ (((cntM (gatesW (l.take b) n)).length : Nat) : Int)) := (by simpa using hgd); (.neq)) ?_
    refine VO.c (.or) ?_
    refine VO.c (.move rfl) ?_
    refine VO.cg (r := ((decide ((((outE l n).length : Nat) : Int) ≠ (((cntM (gatesW (l.take b) n)).length : Nat) : Int))) || (decide ((((lockedE l n).length : Nat) : Int) ≠ (((cntM (locksW (l.take b) n)).length : Nat) : Int))))) (w := false) [] trivial (fun hgd => have g59_12 : ((decide ((((outE l n).length : Nat) : Int) ≠ (((cntM (gatesW (l.take b) n)).length : Nat) : Int))) || (decide ((((lockedE l n).length : Nat) : Int) ≠ (((cntM (locksW (l.take b) n)).length : Nat) : Int)))) = false := (by simpa using hgd); (.move rfl)) ?_
    refine VO.callg (r0 := ((decide ((((outE l n).length : Nat) : Int) ≠ (((cntM (gatesW (l.take b) n)).length : Nat) : Int))) || (decide ((((lockedE l n).length : Nat) : Int) ≠ (((cntM (locksW (l.take b) n)).length : Nat) : Int))))) (w := false) [(313, .v (.sl .str) (outE l n))] ⟨rfl, trivial⟩ rfl rfl .same .refl rfl (fun hgd => have g59_12 : ((decide ((((outE l n).length : Nat) : Int) ≠ (((cntM (gatesW (l.take b) n)).length : Nat) : Int))) || (decide ((((lockedE l n).length : Nat) : Int) ≠ (((cntM (locksW (l.take b) n)).length : Nat) : Int)))) = false := (by simpa using hgd); VF.call (lAscending_ok (by omega) ao)) ?_
    refine VO.cg (r := ((decide ((((outE l n).length : Nat) : Int) ≠ (((cntM (gatesW (l.take b) n)).length : Nat) : Int))) || (decide ((((lockedE l n).length : Nat) : Int) ≠ (((cntM (locksW (l.take b) n)).length : Nat) : Int))))) (w := false) [(314, B true)] ⟨rfl, trivial⟩ (fun hgd => have g59_12 : ((decide ((((outE l n).length : Nat) : Int) ≠ (((cntM (gatesW (l.take b) n)).length : Nat) : Int))) || (decide ((((lockedE l n).length : Nat) : Int) ≠ (((cntM (locksW (l.take b) n)).length : Nat) : Int)))) = false := (by simpa using hgd); (.not)) ?_
    refine VO.c (.or) ?_
    refine VO.c (.move rfl) ?_
    refine VO.cg (r := (((decide ((((outE l n).length : Nat) : Int) ≠ (((cntM (gatesW (l.take b) n)).length : Nat) : Int))) || (decide ((((lockedE l n).length : Nat) : Int) ≠ (((cntM (locksW (l.take b) n)).length : Nat) : Int)))) || false)) (w := false) [] trivial (fun hgd => have g59_17 : (((decide ((((outE l n).length : Nat) : Int) ≠ (((cntM (gatesW (l.take b) n)).length : Nat) : Int))) || (decide ((((lockedE l n).length : Nat) : Int) ≠ (((cntM (locksW (l.take b) n)).length : Nat) : Int)))) || false) = false := (by simpa using hgd); (.move rfl)) ?_
    refine VO.callg (r0 := (((decide ((((outE l n).length : Nat) : Int) ≠ (((cntM (gatesW (l.take b) n)).length : Nat) : Int))) || (decide ((((lockedE l n).length : Nat) : Int) ≠ (((cntM (locksW (l.take b) n)).length : Nat) : Int)))) || false)) (w := false) [(318, .v (.sl .str) (lockedE l n))] ⟨rfl, trivial⟩ rfl rfl .same .refl rfl (fun hgd => have g59_17 : (((decide ((((outE l n).length : Nat) : Int) ≠ (((cntM (gatesW (l.take b) n)).length : Nat) : Int))) || (decide ((((lockedE l n).length : Nat) : Int) ≠ (((cntM (locksW (l.take b) n)).length : Nat) : Int)))) || false) = false := (by simpa using hgd); VF.call (lAscending_ok (by omega) al)) ?_
    refine VO.cg (r := (((decide ((((outE l n).length : Nat) : Int) ≠ (((cntM (gatesW (l.take b) n)).length : Nat) : Int))) || (decide ((((lockedE l n).length : Nat) : Int) ≠ (((cntM (locksW (l.take b) n)).length : Nat) : Int)))) || false)) (w := false) [(319, B true)] ⟨rfl, trivial⟩ (fun hgd => have g59_17 : (((decide ((((outE l n).length : Nat) : Int) ≠ (((cntM (gatesW (l.take b) n)).length : Nat) : Int))) || (decide ((((lockedE l n).length : Nat) : Int) ≠ (((cntM (locksW (l.take b) n)).length : Nat) : Int)))) || false) = false := (by simpa using hgd); (.not)) ?_
    refine VO.c (.or) ?_
    refine VO.go ?_
    refine VC.condB rfl (fun c59 => ?_) (fun c59 => ?_)
    · try simp only [Bool.and_eq_true, Bool.or_eq_true, Bool.and_eq_false_iff, Bool.or_eq_false_iff, Bool.not_eq_true', Bool.not_eq_false', decide_eq_true_eq, decide_eq_false_iff_not] at c59
      exact absurd c59 (by rw [g1, g2]; simp)
    try simp only [Bool.and_eq_true, Bool.or_eq_true, Bool.and_eq_false_iff, Bool.or_eq_false_iff, Bool.not_eq_true', Bool.not_eq_false', decide_eq_true_eq, decide_eq_false_iff_not] at c59
    refine VC.skip (VC.seq (VC.seq (VC.text ?_)))
    refine VO.c (.move rfl) ?_
    refine VO.r (.len el27) ?_
    refine VO.c (.move rfl) ?_
    refine VO.go (VC.block ?_)
    refine VC.keep [(0, .v y22 l), (1, .v y23 sn), (20, I (if busyC l = 0 then (busyE l l.length).1 else 0)), (21, I (if busyC l = 0 then (busyE l l.length).2 else 0)), (23, D (sValidE l sn = (0 : Int))), (24, I ((topE l n).1)), (25, I ((topE l n).2)), (26, I ((n : Nat) : Int)), (29, .v (.sl .str) (lockedE l n)), (31, .v y129 (cntM (crewsW (l.take b) n))), (32, .v y129 (cntM (locksW (l.take b) n))), (33, .v y129 (cntM (gatesW (l.take b) n))), (233, I ((n : Nat) : Int)), (322, .v (.sl .str) (outE l n)), (323, I (((outE l n).length : Nat) : Int)), (324, I ((0 : Nat) : Int))] ⟨rfl, rfl, rfl, rfl, rfl, rfl, rfl, rfl, rfl, rfl, rfl, rfl, rfl, rfl, rfl, rfl, trivial⟩ ?_
    refine VC.loop (I := fun kk ff ss => ∃ (g : Nat), kk = (outE l n).length - g ∧ ff = [(0, .v y22 l), (1, .v y23 sn), (20, I (if busyC l = 0 then (busyE l l.length).1 else 0)), (21, I (if busyC l = 0 then (busyE l l.length).2 else 0)), (23, D (sValidE l sn = (0 : Int))), (24, I ((topE l n).1)), (25, I ((topE l n).2)), (26, I ((n : Nat) : Int)), (29, .v (.sl .str) (lockedE l n)), (31, .v y129 (cntM (crewsW (l.take b) n))), (32, .v y129 (cntM (locksW (l.take b) n))), (33, .v y129 (cntM (gatesW (l.take b) n))), (233, I ((n : Nat) : Int)), (322, .v (.sl .str) (outE l n)), (323, I (((outE l n).length : Nat) : Int)), (324, I ((g : Nat) : Int))] ∧ ss = [] ∧ (g ≤ (outE l n).length)) ?_ _ _ _ ⟨0, rfl, rfl, rfl, (by omega)⟩
    rintro kk ff ss ⟨g, hk14, rfl, rfl, hg⟩
    refine VC.seq (VC.text ?_)
    refine VO.c (.lss) ?_
    refine VO.go (VC.seq ?_)
    refine VC.condD rfl (fun c62 => ?_) (fun c62 => ?_)
    · refine VC.skip (VC.seq (VC.block (VC.seq (VC.text ?_))))
      refine VO.c (.ix (j := g) rfl rfl el27 (by omega)) ?_
      refine VO.r (.ld vt9) ?_
      refine VO.c (.assign rfl) ?_
      refine VO.go (VC.seq (VC.text ?_))
      refine VO.c (.move rfl) ?_
      refine VO.c (.move rfl) ?_
      refine VO.r (.look mt129) ?_
      refine VO.c (.eql) ?_
      refine VO.go ?_
      refine VC.condD rfl (fun c64 => ?_) (fun c64 => ?_)
      · exact absurd c64 (by rw [e1]; exact cnt_pos (ws := gatesW l n) (List.getElem_mem (show g < (outE l n).length by omega)))
      refine VC.skip (VC.text ?_)
      refine VO.c (.add rfl rfl (by omega)) ?_
      refine VO.c (.move rfl) ?_
      refine VO.nil ?_
      refine ⟨_, [(0, .v y22 l), (1, .v y23 sn), (20, I (if busyC l = 0 then (busyE l l.length).1 else 0)), (21, I (if busyC l = 0 then (busyE l l.length).2 else 0)), (23, D (sValidE l sn = (0 : Int))), (24, I ((topE l n).1)), (25, I ((topE l n).2)), (26, I ((n : Nat) : Int)), (29, .v (.sl .str) (lockedE l n)), (31, .v y129 (cntM (crewsW (l.take b) n))), (32, .v y129 (cntM (locksW (l.take b) n))), (33, .v y129 (cntM (gatesW (l.take b) n))), (233, I ((n : Nat) : Int)), (322, .v (.sl .str) (outE l n)), (323, I (((outE l n).length : Nat) : Int)), (324, I (((g + 1) : Nat) : Int))], ?_, ⟨rfl, rfl, rfl, rfl, rfl, rfl, rfl, rfl, rfl, rfl, rfl, rfl, rfl, rfl, rfl, rfl, trivial⟩, (g + 1), rfl, rfl, rfl, (by omega)⟩
      omega
    refine VC.exit (VC.seq (VC.seq (VC.text ?_)))
    refine VO.c (.move rfl) ?_
    refine VO.r (.len el27) ?_
    refine VO.c (.move rfl) ?_
    refine VO.go (VC.block ?_)
    refine VC.keep [(0, .v y22 l), (1, .v y23 sn), (20, I (if busyC l = 0 then (busyE l l.length).1 else 0)), (21, I (if busyC l = 0 then (busyE l l.length).2 else 0)), (23, D (sValidE l sn = (0 : Int))), (24, I ((topE l n).1)), (25, I ((topE l n).2)), (26, I ((n : Nat) : Int)), (31, .v y129 (cntM (crewsW (l.take b) n))), (32, .v y129 (cntM (locksW (l.take b) n))), (33, .v y129 (cntM (gatesW (l.take b) n))), (233, I ((n : Nat) : Int)), (333, .v (.sl .str) (lockedE l n)), (334, I (((lockedE l n).length : Nat) : Int)), (335, I ((0 : Nat) : Int))] ⟨rfl, rfl, rfl, rfl, rfl, rfl, rfl, rfl, rfl, rfl, rfl, rfl, rfl, rfl, rfl, trivial⟩ ?_
    refine VC.loop (I := fun kk ff ss => ∃ (k : Nat), kk = (lockedE l n).length - k ∧ ff = [(0, .v y22 l), (1, .v y23 sn), (20, I (if busyC l = 0 then (busyE l l.length).1 else 0)), (21, I (if busyC l = 0 then (busyE l l.length).2 else 0)), (23, D (sValidE l sn = (0 : Int))), (24, I ((topE l n).1)), (25, I ((topE l n).2)), (26, I ((n : Nat) : Int)), (31, .v y129 (cntM (crewsW (l.take b) n))), (32, .v y129 (cntM (locksW (l.take b) n))), (33, .v y129 (cntM (gatesW (l.take b) n))), (233, I ((n : Nat) : Int)), (333, .v (.sl .str) (lockedE l n)), (334, I (((lockedE l n).length : Nat) : Int)), (335, I ((k : Nat) : Int))] ∧ ss = [] ∧ (k ≤ (lockedE l n).length)) ?_ _ _ _ ⟨0, rfl, rfl, rfl, (by omega)⟩
    rintro kk ff ss ⟨k, hk16, rfl, rfl, hk1⟩
    refine VC.seq (VC.text ?_)
    refine VO.c (.lss) ?_
    refine VO.go (VC.seq ?_)
    refine VC.condD rfl (fun c68 => ?_) (fun c68 => ?_)
    · refine VC.skip (VC.seq (VC.block (VC.seq (VC.text ?_))))
      refine VO.c (.ix (j := k) rfl rfl el27 (by omega)) ?_
      refine VO.r (.ld vt9) ?_
      refine VO.c (.assign rfl) ?_
      refine VO.go (VC.seq (VC.text ?_))
      refine VO.c (.move rfl) ?_
      refine VO.c (.move rfl) ?_
      refine VO.r (.look mt129) ?_
      refine VO.c (.eql) ?_
      refine VO.go ?_
      refine VC.condD rfl (fun c70 => ?_) (fun c70 => ?_)
      · exact absurd c70 (by rw [e1]; exact cnt_pos (ws := locksW l n) (List.getElem_mem (show k < (lockedE l n).length by omega)))
      refine VC.skip (VC.text ?_)
      refine VO.c (.add rfl rfl (by omega)) ?_
      refine VO.c (.move rfl) ?_
      refine VO.nil ?_
      refine ⟨_, [(0, .v y22 l), (1, .v y23 sn), (20, I (if busyC l = 0 then (busyE l l.length).1 else 0)), (21, I (if busyC l = 0 then (busyE l l.length).2 else 0)), (23, D (sValidE l sn = (0 : Int))), (24, I ((topE l n).1)), (25, I ((topE l n).2)), (26, I ((n : Nat) : Int)), (31, .v y129 (cntM (crewsW (l.take b) n))), (32, .v y129 (cntM (locksW (l.take b) n))), (33, .v y129 (cntM (gatesW (l.take b) n))), (233, I ((n : Nat) : Int)), (333, .v (.sl .str) (lockedE l n)), (334, I (((lockedE l n).length : Nat) : Int)), (335, I (((k + 1) : Nat) : Int))], ?_, ⟨rfl, rfl, rfl, rfl, rfl, rfl, rfl, rfl, rfl, rfl, rfl, rfl, rfl, rfl, rfl, trivial⟩, (k + 1), rfl, rfl, rfl, (by omega)⟩
      omega
    refine VC.exit (VC.seq (VC.seq (VC.text ?_)))
    refine VO.c (.move rfl) ?_
    refine VO.r (.lenM mt129) ?_
    refine VO.c (.move rfl) ?_
    refine VO.c (.gtr) ?_
    refine VO.go ?_
    refine VC.condD rfl (fun c73 => ?_) (fun c73 => ?_)
    · have ht := topE_t (l := l) (t := n) (by omega)
      refine VC.text ?_
      refine VO.c (.move rfl) ?_
      refine VO.r (.lenM mt129) ?_
      refine VO.c (.move rfl) ?_
      refine VO.c (.assign rfl) ?_
      refine VO.c (.assign rfl) ?_
      refine VO.go (VC.seq (VC.seq (VC.text ?_)))
      refine VO.c (.move rfl) ?_
      refine VO.c (.not) ?_
      refine VO.go ?_
      refine VC.condB rfl (fun c75 => ?_) (fun c75 => ?_)
      · try simp only [Bool.and_eq_true, Bool.or_eq_true, Bool.and_eq_false_iff, Bool.or_eq_false_iff, Bool.not_eq_true', Bool.not_eq_false', decide_eq_true_eq, decide_eq_false_iff_not] at c75
        refine VC.exit (VC.text ?_)
        refine VO.c (.add rfl rfl (by omega)) ?_
        refine VO.c (.move rfl) ?_
        refine VO.nil ?_
        refine ⟨_, [(0, .v y22 l), (1, .v y23 sn), (20, I (if busyC l = 0 then (busyE l l.length).1 else 0)), (21, I (if busyC l = 0 then (busyE l l.length).2 else 0)), (23, D (sValidE l sn = (0 : Int))), (24, I ((topE l (n + 1)).1)), (25, I ((topE l (n + 1)).2)), (233, I (((n + 1) : Nat) : Int))], ?_, ⟨rfl, rfl, rfl, rfl, rfl, slI rfl (by first | (rw [ht, g1]) | (rw [ht])), slI rfl (by rw [ht]), rfl, trivial⟩, (n + 1), rfl, rfl, rfl, (by omega)⟩
        omega
      try simp only [Bool.and_eq_true, Bool.or_eq_true, Bool.and_eq_false_iff, Bool.or_eq_false_iff, Bool.not_eq_true', Bool.not_eq_false', decide_eq_true_eq, decide_eq_false_iff_not] at c75
      have hval : validsE l sn l.length = 0 := hve.symm.trans (by simpa using c75)
      have hfr := valid_free hval
      have hov := valid_over hval (seasE_nonneg hsz) n
      have kc : ∀ v, ¬ (1 : Int) < (mget (cntM (crewsW (l.take b) n)) v).getD 0 := fun v => by rw [e1, cntM_get]; have := crew_one (t := n) hfr v; omega
      have kl : ∀ v, ¬ (1 : Int) < (mget (cntM (locksW (l.take b) n)) v).getD 0 := fun v => by rw [e1, cntM_get]; have := lock_one (t := n) hfr hpz v; omega
      refine VC.skip (VC.seq (VC.seq (VC.text ?_)))
      refine VO.c (.move rfl) ?_
      refine VO.r (.lenM mt129) ?_
      refine VO.c (.move rfl) ?_
      refine VO.c (.move rfl) ?_
      refine VO.call rfl rfl (VF.call (rPermitted_ok (by first | assumption | omega | simp))) ?_
      refine VO.c (.gtr) ?_
      refine VO.go ?_
      refine VC.condD rfl (fun c76 => ?_) (fun c76 => ?_)
      · exact absurd c76 (by omega)
      refine VC.skip (VC.seq (VC.text ?_))
      refine VO.c (.move rfl) ?_
      refine VO.r (.len el22) ?_
      refine VO.c (.move rfl) ?_
      refine VO.go (VC.block ?_)
      refine VC.keep [(0, .v y22 l), (1, .v y23 sn), (20, I (if busyC l = 0 then (busyE l l.length).1 else 0)), (21, I (if busyC l = 0 then (busyE l l.length).2 else 0)), (23, D (sValidE l sn = (0 : Int))), (24, I (((cntM (gatesW (l.take b) n)).length : Nat) : Int)), (25, I ((n : Nat) : Int)), (26, I ((n : Nat) : Int)), (31, .v y129 (cntM (crewsW (l.take b) n))), (32, .v y129 (cntM (locksW (l.take b) n))), (33, .v y129 (cntM (gatesW (l.take b) n))), (233, I ((n : Nat) : Int)), (359, .v y22 l), (360, I ((l.length : Nat) : Int)), (361, I ((0 : Nat) : Int))] ⟨rfl, rfl, rfl, rfl, rfl, rfl, rfl, rfl, rfl, rfl, rfl, rfl, rfl, rfl, rfl, trivial⟩ ?_
      refine VC.loop (I := fun kk ff ss => ∃ (c : Nat), kk = l.length - c ∧ ff = [(0, .v y22 l), (1, .v y23 sn), (20, I (if busyC l = 0 then (busyE l l.length).1 else 0)), (21, I (if busyC l = 0 then (busyE l l.length).2 else 0)), (23, D (sValidE l sn = (0 : Int))), (24, I (((cntM (gatesW (l.take b) n)).length : Nat) : Int)), (25, I ((n : Nat) : Int)), (26, I ((n : Nat) : Int)), (31, .v y129 (cntM (crewsW (l.take b) n))), (32, .v y129 (cntM (locksW (l.take b) n))), (33, .v y129 (cntM (gatesW (l.take b) n))), (233, I ((n : Nat) : Int)), (359, .v y22 l), (360, I ((l.length : Nat) : Int)), (361, I ((c : Nat) : Int))] ∧ ss = [] ∧ (c ≤ l.length)) ?_ _ _ _ ⟨0, rfl, rfl, rfl, Nat.zero_le _⟩
      rintro kk ff ss ⟨c, hk18, rfl, rfl, hc⟩
      refine VC.seq (VC.text ?_)
      refine VO.c (.lss) ?_
      refine VO.go (VC.seq ?_)
      refine VC.condD rfl (fun c79 => ?_) (fun c79 => ?_)
      · have hcc : c < l.length := by omega
        have hc9 : (l[c]).2.2.2.1.length ≤ 9 := h9 _ (List.getElem_mem hcc)
        refine VC.skip (VC.seq (VC.block (VC.seq (VC.text ?_))))
        refine VO.c (.ix (j := c) rfl rfl el22 (by omega)) ?_
        refine VO.r (.ld vt31) ?_
        refine VO.cell (.alloc zt31) ?_
        intro ww10
        refine VO.setV (cs' := [St ((l[c]).1), St ((l[c]).2.1), St ((l[c]).2.2.1), .v (.sl .str) ((l[c]).2.2.2.1), I (((l[c]).2.2.2.2).1), I (((l[c]).2.2.2.2).2)]) vt31 .v ?_
        refine VO.shut [(43, .p y31 (l[c]))] (.cons rfl (.var m0 .refl) .nil) ?_
        refine VO.go (VC.seq (VC.text ?_))
        refine VO.c (.move rfl) ?_
        refine VO.c (.fa (.r (.r (.r (.r .o))))) ?_
        refine VO.c (.fa (.l .o)) ?_
        refine VO.r (.ld vt3) ?_
        refine VO.c (.geq) ?_
        refine VO.c (.move rfl) ?_
        refine VO.cg (r := decide (((l[c]).2.2.2.2).1 ≤ ((n : Nat) : Int))) (w := true) [] trivial (fun hgd => have g81_5 : ((l[c]).2.2.2.2).1 ≤ ((n : Nat) : Int) := (by simpa using hgd); (.move rfl)) ?_
        refine VO.cg (r := decide (((l[c]).2.2.2.2).1 ≤ ((n : Nat) : Int))) (w := true) [] trivial (fun hgd => have g81_5 : ((l[c]).2.2.2.2).1 ≤ ((n : Nat) : Int) := (by simpa using hgd); (.fa (.r (.r (.r (.r .o)))))) ?_
        refine VO.cg (r := decide (((l[c]).2.2.2.2).1 ≤ ((n : Nat) : Int))) (w := true) [(372, .p y29 ((l[c]).2.2.2.2))] ⟨rfl, trivial⟩ (fun hgd => have g81_5 : ((l[c]).2.2.2.2).1 ≤ ((n : Nat) : Int) := (by simpa using hgd); (.fa (.r .o))) ?_
        refine VO.rg (r := decide (((l[c]).2.2.2.2).1 ≤ ((n : Nat) : Int))) (w := true) [(373, .p (.int .i64) (((l[c]).2.2.2.2).2))] ⟨rfl, trivial⟩ (fun hgd => have g81_5 : ((l[c]).2.2.2.2).1 ≤ ((n : Nat) : Int) := (by simpa using hgd); (.ld vt3)) ?_
        refine VO.cg (r := decide (((l[c]).2.2.2.2).1 ≤ ((n : Nat) : Int))) (w := true) [(371, I ((n : Nat) : Int)), (374, I (((l[c]).2.2.2.2).2))] ⟨rfl, rfl, trivial⟩ (fun hgd => have g81_5 : ((l[c]).2.2.2.2).1 ≤ ((n : Nat) : Int) := (by simpa using hgd); (.lss)) ?_
        refine VO.c (.and) ?_
        refine VO.c (.assign rfl) ?_
        refine VO.go (VC.seq (VC.seq (VC.text ?_)))
        refine VO.c (.move rfl) ?_
        refine VO.c (.move rfl) ?_
        refine VO.cg (r := ((decide (((l[c]).2.2.2.2).1 ≤ ((n : Nat) : Int))) && (decide (((n : Nat) : Int) < ((l[c]).2.2.2.2).2)))) (w := true) [] trivial (fun hgd => have g82_1 : ((decide (((l[c]).2.2.2.2).1 ≤ ((n : Nat) : Int))) && (decide (((n : Nat) : Int) < ((l[c]).2.2.2.2).2))) = true := (by simpa using hgd); (.move rfl)) ?_
        refine VO.cg (r := ((decide (((l[c]).2.2.2.2).1 ≤ ((n : Nat) : Int))) && (decide (((n : Nat) : Int) < ((l[c]).2.2.2.2).2)))) (w := true) [] trivial (fun hgd => have g82_1 : ((decide (((l[c]).2.2.2.2).1 ≤ ((n : Nat) : Int))) && (decide (((n : Nat) : Int) < ((l[c]).2.2.2.2).2))) = true := (by simpa using hgd); (.fa (.r (.l .o)))) ?_
        refine VO.rg (r := ((decide (((l[c]).2.2.2.2).1 ≤ ((n : Nat) : Int))) && (decide (((n : Nat) : Int) < ((l[c]).2.2.2.2).2)))) (w := true) [(380, .p .str ((l[c]).2.1))] ⟨rfl, trivial⟩ (fun hgd => have g82_1 : ((decide (((l[c]).2.2.2.2).1 ≤ ((n : Nat) : Int))) && (decide (((n : Nat) : Int) < ((l[c]).2.2.2.2).2))) = true := (by simpa using hgd); (.ld vt9)) ?_
        refine VO.rg (r := ((decide (((l[c]).2.2.2.2).1 ≤ ((n : Nat) : Int))) && (decide (((n : Nat) : Int) < ((l[c]).2.2.2.2).2)))) (w := true) [(379, .v y129 (cntM (crewsW (l.take b) n))), (381, St ((l[c]).2.1))] ⟨rfl, rfl, trivial⟩ (fun hgd => have g82_1 : ((decide (((l[c]).2.2.2.2).1 ≤ ((n : Nat) : Int))) && (decide (((n : Nat) : Int) < ((l[c]).2.2.2.2).2))) = true := (by simpa using hgd); (.look mt129)) ?_
        refine VO.cg (r := ((decide (((l[c]).2.2.2.2).1 ≤ ((n : Nat) : Int))) && (decide (((n : Nat) : Int) < ((l[c]).2.2.2.2).2)))) (w := true) [(382, I ((mget (cntM (crewsW (l.take b) n)) ((l[c]).2.1)).getD 0))] ⟨rfl, trivial⟩ (fun hgd => have g82_1 : ((decide (((l[c]).2.2.2.2).1 ≤ ((n : Nat) : Int))) && (decide (((n : Nat) : Int) < ((l[c]).2.2.2.2).2))) = true := (by simpa using hgd); (.gtr)) ?_
        refine VO.c (.and) ?_
        refine VO.go ?_
        refine VC.condB rfl (fun c82 => ?_) (fun c82 => ?_)
        · try simp only [Bool.and_eq_true, Bool.or_eq_true, Bool.and_eq_false_iff, Bool.or_eq_false_iff, Bool.not_eq_true', Bool.not_eq_false', decide_eq_true_eq, decide_eq_false_iff_not] at c82
          exact absurd c82.2 (kc _)
        try simp only [Bool.and_eq_true, Bool.or_eq_true, Bool.and_eq_false_iff, Bool.or_eq_false_iff, Bool.not_eq_true', Bool.not_eq_false', decide_eq_true_eq, decide_eq_false_iff_not] at c82
        refine VC.skip (VC.seq (VC.text ?_))
        refine VO.c (.fa (.r (.r (.r (.l .o))))) ?_
        refine VO.r (.ld vt27) ?_
        refine VO.r (.len el27) ?_
        refine VO.c (.move rfl) ?_
        refine VO.go (VC.block ?_)
        refine VC.keep [(0, .v y22 l), (1, .v y23 sn), (20, I (if busyC l = 0 then (busyE l l.length).1 else 0)), (21, I (if busyC l = 0 then (busyE l l.length).2 else 0)), (23, D (sValidE l sn = (0 : Int))), (24, I (((cntM (gatesW (l.take b) n)).length : Nat) : Int)), (25, I ((n : Nat) : Int)), (26, I ((n : Nat) : Int)), (31, .v y129 (cntM (crewsW (l.take b) n))), (32, .v y129 (cntM (locksW (l.take b) n))), (33, .v y129 (cntM (gatesW (l.take b) n))), (43, .p y31 (l[c])), (44, B ((decide (((l[c]).2.2.2.2).1 ≤ ((n : Nat) : Int))) && (decide (((n : Nat) : Int) < ((l[c]).2.2.2.2).2)))), (233, I ((n : Nat) : Int)), (359, .v y22 l), (360, I ((l.length : Nat) : Int)), (361, I ((c : Nat) : Int)), (386, .v (.sl .str) ((l[c]).2.2.2.1)), (387, I ((((l[c]).2.2.2.1).length : Nat) : Int)), (388, I ((0 : Nat) : Int))] ⟨rfl, rfl, rfl, rfl, rfl, rfl, rfl, rfl, rfl, rfl, rfl, rfl, rfl, rfl, rfl, rfl, rfl, rfl, rfl, rfl, trivial⟩ ?_
        refine VC.loop (I := fun kk ff ss => ∃ (d : Nat), kk = (l[c]).2.2.2.1.length - d ∧ ff = [(0, .v y22 l), (1, .v y23 sn), (20, I (if busyC l = 0 then (busyE l l.length).1 else 0)), (21, I (if busyC l = 0 then (busyE l l.length).2 else 0)), (23, D (sValidE l sn = (0 : Int))), (24, I (((cntM (gatesW (l.take b) n)).length : Nat) : Int)), (25, I ((n : Nat) : Int)), (26, I ((n : Nat) : Int)), (31, .v y129 (cntM (crewsW (l.take b) n))), (32, .v y129 (cntM (locksW (l.take b) n))), (33, .v y129 (cntM (gatesW (l.take b) n))), (43, .p y31 (l[c])), (44, B ((decide (((l[c]).2.2.2.2).1 ≤ ((n : Nat) : Int))) && (decide (((n : Nat) : Int) < ((l[c]).2.2.2.2).2)))), (233, I ((n : Nat) : Int)), (359, .v y22 l), (360, I ((l.length : Nat) : Int)), (361, I ((c : Nat) : Int)), (386, .v (.sl .str) ((l[c]).2.2.2.1)), (387, I ((((l[c]).2.2.2.1).length : Nat) : Int)), (388, I ((d : Nat) : Int))] ∧ ss = [] ∧ (d ≤ (l[c]).2.2.2.1.length)) ?_ _ _ _ ⟨0, rfl, rfl, rfl, (by omega)⟩
        rintro kk ff ss ⟨d, hk20, rfl, rfl, hd⟩
        refine VC.seq (VC.text ?_)
        refine VO.c (.lss) ?_
        refine VO.go (VC.seq ?_)
        refine VC.condD rfl (fun c85 => ?_) (fun c85 => ?_)
        · refine VC.skip (VC.seq (VC.block (VC.seq (VC.text ?_))))
          refine VO.c (.ix (j := d) rfl rfl el27 (by omega)) ?_
          refine VO.r (.ld vt9) ?_
          refine VO.c (.assign rfl) ?_
          refine VO.go (VC.seq (VC.text ?_))
          refine VO.c (.move rfl) ?_
          refine VO.c (.move rfl) ?_
          refine VO.r (.look mt129) ?_
          refine VO.c (.assign rfl) ?_
          refine VO.go (VC.seq (VC.text ?_))
          refine VO.c (.move rfl) ?_
          refine VO.c (.move rfl) ?_
          refine VO.splitB (x := 396) rfl (fun g88_1 => ?_) (fun g88_1 => ?_)
          · try simp only [Bool.and_eq_true, Bool.or_eq_true, Bool.and_eq_false_iff, Bool.or_eq_false_iff, Bool.not_eq_true', Bool.not_eq_false', decide_eq_true_eq, decide_eq_false_iff_not] at g88_1
            refine VO.c (.move rfl) ?_
            refine VO.c (.move rfl) ?_
            refine VO.r (.look mt129) ?_
            refine VO.c (.gtr) ?_
            refine VO.c (.move rfl) ?_
            refine VO.splitD (x := 401) rfl (fun g88_6 => ?_) (fun g88_6 => ?_)
            · exact absurd g88_6 (kl _)
            refine VO.c (.fa (.r (.r (.l .o)))) ?_
            refine VO.r (.ld vt9) ?_
            refine VO.c (.move rfl) ?_
            refine VO.c (.sneq) ?_
            refine VO.c (.move rfl) ?_
            refine VO.cg (r := decide ((l[c]).2.2.1 ≠ ((l[c]).2.2.2.1)[d])) (w := true) [] trivial (fun hgd => have g88_11 : (l[c]).2.2.1 ≠ ((l[c]).2.2.2.1)[d] := (by simpa using hgd); (.move rfl)) ?_
            refine VO.cg (r := decide ((l[c]).2.2.1 ≠ ((l[c]).2.2.2.1)[d])) (w := true) [(407, I ((mget (cntM (gatesW (l.take b) n)) (((l[c]).2.2.2.1)[d])).getD 0))] ⟨rfl, trivial⟩ (fun hgd => have g88_11 : (l[c]).2.2.1 ≠ ((l[c]).2.2.2.1)[d] := (by simpa using hgd); (.gtr)) ?_
            refine VO.c (.and) ?_
            refine VO.c (.pickF rfl rfl) ?_
            refine VO.c (.pickT rfl rfl) ?_
            refine VO.go ?_
            refine VC.condB rfl (fun c88 => ?_) (fun c88 => ?_)
            · try simp only [Bool.and_eq_true, Bool.or_eq_true, Bool.and_eq_false_iff, Bool.or_eq_false_iff, Bool.not_eq_true', Bool.not_eq_false', decide_eq_true_eq, decide_eq_false_iff_not] at c88
              exact absurd c88.2 (by rw [e1, cntM_get, gate_none hfr (List.getElem_mem hcc) (hasT_iff.2 g88_1) (List.getElem_mem (show d < (l[c]).2.2.2.1.length by omega)) c88.1]; decide)
            try simp only [Bool.and_eq_true, Bool.or_eq_true, Bool.and_eq_false_iff, Bool.or_eq_false_iff, Bool.not_eq_true', Bool.not_eq_false', decide_eq_true_eq, decide_eq_false_iff_not] at c88
            refine VC.skip (VC.text ?_)
            refine VO.c (.add rfl rfl (by omega)) ?_
            refine VO.c (.move rfl) ?_
            refine VO.nil ?_
            refine ⟨_, [(0, .v y22 l), (1, .v y23 sn), (20, I (if busyC l = 0 then (busyE l l.length).1 else 0)), (21, I (if busyC l = 0 then (busyE l l.length).2 else 0)), (23, D (sValidE l sn = (0 : Int))), (24, I (((cntM (gatesW (l.take b) n)).length : Nat) : Int)), (25, I ((n : Nat) : Int)), (26, I ((n : Nat) : Int)), (31, .v y129 (cntM (crewsW (l.take b) n))), (32, .v y129 (cntM (locksW (l.take b) n))), (33, .v y129 (cntM (gatesW (l.take b) n))), (43, .p y31 (l[c])), (44, B ((decide (((l[c]).2.2.2.2).1 ≤ ((n : Nat) : Int))) && (decide (((n : Nat) : Int) < ((l[c]).2.2.2.2).2)))), (233, I ((n : Nat) : Int)), (359, .v y22 l), (360, I ((l.length : Nat) : Int)), (361, I ((c : Nat) : Int)), (386, .v (.sl .str) ((l[c]).2.2.2.1)), (387, I ((((l[c]).2.2.2.1).length : Nat) : Int)), (388, I (((d + 1) : Nat) : Int))], ?_, ⟨rfl, rfl, rfl, rfl, rfl, rfl, rfl, rfl, rfl, rfl, rfl, rfl, rfl, rfl, rfl, rfl, rfl, rfl, rfl, rfl, trivial⟩, (d + 1), rfl, rfl, rfl, (by omega)⟩
            omega
          try simp only [Bool.and_eq_true, Bool.or_eq_true, Bool.and_eq_false_iff, Bool.or_eq_false_iff, Bool.not_eq_true', Bool.not_eq_false', decide_eq_true_eq, decide_eq_false_iff_not] at g88_1
          refine VO.skip ?_
          refine VO.skip ?_
          refine VO.skip ?_
          refine VO.skip ?_
          refine VO.skip ?_
          refine VO.skip ?_
          refine VO.skip ?_
          refine VO.skip ?_
          refine VO.skip ?_
          refine VO.skip ?_
          refine VO.skip ?_
          refine VO.skip ?_
          refine VO.skip ?_
          refine VO.skip ?_
          refine VO.c (.pickF rfl rfl) ?_
          refine VO.go ?_
          refine VC.condF rfl ?_
          refine VC.skip (VC.text ?_)
          refine VO.c (.add rfl rfl (by omega)) ?_
          refine VO.c (.move rfl) ?_
          refine VO.nil ?_
          refine ⟨_, [(0, .v y22 l), (1, .v y23 sn), (20, I (if busyC l = 0 then (busyE l l.length).1 else 0)), (21, I (if busyC l = 0 then (busyE l l.length).2 else 0)), (23, D (sValidE l sn = (0 : Int))), (24, I (((cntM (gatesW (l.take b) n)).length : Nat) : Int)), (25, I ((n : Nat) : Int)), (26, I ((n : Nat) : Int)), (31, .v y129 (cntM (crewsW (l.take b) n))), (32, .v y129 (cntM (locksW (l.take b) n))), (33, .v y129 (cntM (gatesW (l.take b) n))), (43, .p y31 (l[c])), (44, B ((decide (((l[c]).2.2.2.2).1 ≤ ((n : Nat) : Int))) && (decide (((n : Nat) : Int) < ((l[c]).2.2.2.2).2)))), (233, I ((n : Nat) : Int)), (359, .v y22 l), (360, I ((l.length : Nat) : Int)), (361, I ((c : Nat) : Int)), (386, .v (.sl .str) ((l[c]).2.2.2.1)), (387, I ((((l[c]).2.2.2.1).length : Nat) : Int)), (388, I (((d + 1) : Nat) : Int))], ?_, ⟨rfl, rfl, rfl, rfl, rfl, rfl, rfl, rfl, rfl, rfl, rfl, rfl, rfl, rfl, rfl, rfl, rfl, rfl, rfl, rfl, trivial⟩, (d + 1), rfl, rfl, rfl, (by omega)⟩
          omega
        refine VC.exit (VC.text ?_)
        refine VO.c (.add rfl rfl (by omega)) ?_
        refine VO.c (.move rfl) ?_
        refine VO.nil ?_
        refine ⟨_, [(0, .v y22 l), (1, .v y23 sn), (20, I (if busyC l = 0 then (busyE l l.length).1 else 0)), (21, I (if busyC l = 0 then (busyE l l.length).2 else 0)), (23, D (sValidE l sn = (0 : Int))), (24, I (((cntM (gatesW (l.take b) n)).length : Nat) : Int)), (25, I ((n : Nat) : Int)), (26, I ((n : Nat) : Int)), (31, .v y129 (cntM (crewsW (l.take b) n))), (32, .v y129 (cntM (locksW (l.take b) n))), (33, .v y129 (cntM (gatesW (l.take b) n))), (233, I ((n : Nat) : Int)), (359, .v y22 l), (360, I ((l.length : Nat) : Int)), (361, I (((c + 1) : Nat) : Int))], ?_, ⟨rfl, rfl, rfl, rfl, rfl, rfl, rfl, rfl, rfl, rfl, rfl, rfl, rfl, rfl, rfl, trivial⟩, (c + 1), rfl, rfl, rfl, (by omega)⟩
        omega
      refine VC.exit (VC.text ?_)
      refine VO.c (.add rfl rfl (by omega)) ?_
      refine VO.c (.move rfl) ?_
      refine VO.nil ?_
      refine ⟨_, [(0, .v y22 l), (1, .v y23 sn), (20, I (if busyC l = 0 then (busyE l l.length).1 else 0)), (21, I (if busyC l = 0 then (busyE l l.length).2 else 0)), (23, D (sValidE l sn = (0 : Int))), (24, I ((topE l (n + 1)).1)), (25, I ((topE l (n + 1)).2)), (233, I (((n + 1) : Nat) : Int))], ?_, ⟨rfl, rfl, rfl, rfl, rfl, slI rfl (by first | (rw [ht, g1]) | (rw [ht])), slI rfl (by rw [ht]), rfl, trivial⟩, (n + 1), rfl, rfl, rfl, (by omega)⟩
      omega
    have ht := topE_f (l := l) (t := n) (by omega)
    refine VC.skip (VC.seq (VC.seq (VC.text ?_)))
    refine VO.c (.move rfl) ?_
    refine VO.c (.not) ?_
    refine VO.go ?_
    refine VC.condB rfl (fun c75 => ?_) (fun c75 => ?_)
    · try simp only [Bool.and_eq_true, Bool.or_eq_true, Bool.and_eq_false_iff, Bool.or_eq_false_iff, Bool.not_eq_true', Bool.not_eq_false', decide_eq_true_eq, decide_eq_false_iff_not] at c75
      refine VC.exit (VC.text ?_)
      refine VO.c (.add rfl rfl (by omega)) ?_
      refine VO.c (.move rfl) ?_
      refine VO.nil ?_
      refine ⟨_, [(0, .v y22 l), (1, .v y23 sn), (20, I (if busyC l = 0 then (busyE l l.length).1 else 0)), (21, I (if busyC l = 0 then (busyE l l.length).2 else 0)), (23, D (sValidE l sn = (0 : Int))), (24, I ((topE l (n + 1)).1)), (25, I ((topE l (n + 1)).2)), (233, I (((n + 1) : Nat) : Int))], ?_, ⟨rfl, rfl, rfl, rfl, rfl, slI rfl (by first | (rw [ht, g1]) | (rw [ht])), slI rfl (by rw [ht]), rfl, trivial⟩, (n + 1), rfl, rfl, rfl, (by omega)⟩
      omega
    try simp only [Bool.and_eq_true, Bool.or_eq_true, Bool.and_eq_false_iff, Bool.or_eq_false_iff, Bool.not_eq_true', Bool.not_eq_false', decide_eq_true_eq, decide_eq_false_iff_not] at c75
    have hval : validsE l sn l.length = 0 := hve.symm.trans (by simpa using c75)
    have hfr := valid_free hval
    have hov := valid_over hval (seasE_nonneg hsz) n
    have kc : ∀ v, ¬ (1 : Int) < (mget (cntM (crewsW (l.take b) n)) v).getD 0 := fun v => by rw [e1, cntM_get]; have := crew_one (t := n) hfr v; omega
    have kl : ∀ v, ¬ (1 : Int) < (mget (cntM (locksW (l.take b) n)) v).getD 0 := fun v => by rw [e1, cntM_get]; have := lock_one (t := n) hfr hpz v; omega
    refine VC.skip (VC.seq (VC.seq (VC.text ?_)))
    refine VO.c (.move rfl) ?_
    refine VO.r (.lenM mt129) ?_
    refine VO.c (.move rfl) ?_
    refine VO.c (.move rfl) ?_
    refine VO.call rfl rfl (VF.call (rPermitted_ok (by first | assumption | omega | simp))) ?_
    refine VO.c (.gtr) ?_
    refine VO.go ?_
    refine VC.condD rfl (fun c76 => ?_) (fun c76 => ?_)
    · exact absurd c76 (by omega)
    refine VC.skip (VC.seq (VC.text ?_))
    refine VO.c (.move rfl) ?_
    refine VO.r (.len el22) ?_
    refine VO.c (.move rfl) ?_
    refine VO.go (VC.block ?_)
    refine VC.keep [(0, .v y22 l), (1, .v y23 sn), (20, I (if busyC l = 0 then (busyE l l.length).1 else 0)), (21, I (if busyC l = 0 then (busyE l l.length).2 else 0)), (23, D (sValidE l sn = (0 : Int))), (24, I ((topE l n).1)), (25, I ((topE l n).2)), (26, I ((n : Nat) : Int)), (31, .v y129 (cntM (crewsW (l.take b) n))), (32, .v y129 (cntM (locksW (l.take b) n))), (33, .v y129 (cntM (gatesW (l.take b) n))), (233, I ((n : Nat) : Int)), (359, .v y22 l), (360, I ((l.length : Nat) : Int)), (361, I ((0 : Nat) : Int))] ⟨rfl, rfl, rfl, rfl, rfl, rfl, rfl, rfl, rfl, rfl, rfl, rfl, rfl, rfl, rfl, trivial⟩ ?_
    refine VC.loop (I := fun kk ff ss => ∃ (c : Nat), kk = l.length - c ∧ ff = [(0, .v y22 l), (1, .v y23 sn), (20, I (if busyC l = 0 then (busyE l l.length).1 else 0)), (21, I (if busyC l = 0 then (busyE l l.length).2 else 0)), (23, D (sValidE l sn = (0 : Int))), (24, I ((topE l n).1)), (25, I ((topE l n).2)), (26, I ((n : Nat) : Int)), (31, .v y129 (cntM (crewsW (l.take b) n))), (32, .v y129 (cntM (locksW (l.take b) n))), (33, .v y129 (cntM (gatesW (l.take b) n))), (233, I ((n : Nat) : Int)), (359, .v y22 l), (360, I ((l.length : Nat) : Int)), (361, I ((c : Nat) : Int))] ∧ ss = [] ∧ (c ≤ l.length)) ?_ _ _ _ ⟨0, rfl, rfl, rfl, Nat.zero_le _⟩
    rintro kk ff ss ⟨c, hk18, rfl, rfl, hc⟩
    refine VC.seq (VC.text ?_)
    refine VO.c (.lss) ?_
    refine VO.go (VC.seq ?_)
    refine VC.condD rfl (fun c79 => ?_) (fun c79 => ?_)
    · have hcc : c < l.length := by omega
      have hc9 : (l[c]).2.2.2.1.length ≤ 9 := h9 _ (List.getElem_mem hcc)
      refine VC.skip (VC.seq (VC.block (VC.seq (VC.text ?_))))
      refine VO.c (.ix (j := c) rfl rfl el22 (by omega)) ?_
      refine VO.r (.ld vt31) ?_
      refine VO.cell (.alloc zt31) ?_
      intro ww11
      refine VO.setV (cs' := [St ((l[c]).1), St ((l[c]).2.1), St ((l[c]).2.2.1), .v (.sl .str) ((l[c]).2.2.2.1), I (((l[c]).2.2.2.2).1), I (((l[c]).2.2.2.2).2)]) vt31 .v ?_
      refine VO.shut [(43, .p y31 (l[c]))] (.cons rfl (.var m0 .refl) .nil) ?_
      refine VO.go (VC.seq (VC.text ?_))
      refine VO.c (.move rfl) ?_
      refine VO.c (.fa (.r (.r (.r (.r .o))))) ?_
      refine VO.c (.fa (.l .o)) ?_
      refine VO.r (.ld vt3) ?_
      refine VO.c (.geq) ?_
      refine VO.c (.move rfl) ?_
      refine VO.cg (r := decide (((l[c]).2.2.2.2).1 ≤ ((n : Nat) : Int))) (w := true) [] trivial (fun hgd => have g81_5 : ((l[c]).2.2.2.2).1 ≤ ((n : Nat) : Int) := (by simpa using hgd); (.move rfl)) ?_
      refine VO.cg (r := decide (((l[c]).2.2.2.2).1 ≤ ((n : Nat) : Int))) (w := true) [] trivial (fun hgd => have g81_5 : ((l[c]).2.2.2.2).1 ≤ ((n : Nat) : Int) := (by simpa using hgd); (.fa (.r (.r (.r (.r .o)))))) ?_
      refine VO.cg (r := decide (((l[c]).2.2.2.2).1 ≤ ((n : Nat) : Int))) (w := true) [(372, .p y29 ((l[c]).2.2.2.2))] ⟨rfl, trivial⟩ (fun hgd => have g81_5 : ((l[c]).2.2.2.2).1 ≤ ((n : Nat) : Int) := (by simpa using hgd); (.fa (.r .o))) ?_
      refine VO.rg (r := decide (((l[c]).2.2.2.2).1 ≤ ((n : Nat) : Int))) (w := true) [(373, .p (.int .i64) (((l[c]).2.2.2.2).2))] ⟨rfl, trivial⟩ (fun hgd => have g81_5 : ((l[c]).2.2.2.2).1 ≤ ((n : Nat) : Int) := (by simpa using hgd); (.ld vt3)) ?_
      refine VO.cg (r := decide (((l[c]).2.2.2.2).1 ≤ ((n : Nat) : Int))) (w := true) [(371, I ((n : Nat) : Int)), (374, I (((l[c]).2.2.2.2).2))] ⟨rfl, rfl, trivial⟩ (fun hgd => have g81_5 : ((l[c]).2.2.2.2).1 ≤ ((n : Nat) : Int) := (by simpa using hgd); (.lss)) ?_
      refine VO.c (.and) ?_
      refine VO.c (.assign rfl) ?_
      refine VO.go (VC.seq (VC.seq (VC.text ?_)))
      refine VO.c (.move rfl) ?_
      refine VO.c (.move rfl) ?_
      refine VO.cg (r := ((decide (((l[c]).2.2.2.2).1 ≤ ((n : Nat) : Int))) && (decide (((n : Nat) : Int) < ((l[c]).2.2.2.2).2)))) (w := true) [] trivial (fun hgd => have g82_1 : ((decide (((l[c]).2.2.2.2).1 ≤ ((n : Nat) : Int))) && (decide (((n : Nat) : Int) < ((l[c]).2.2.2.2).2))) = true := (by simpa using hgd); (.move rfl)) ?_
      refine VO.cg (r := ((decide (((l[c]).2.2.2.2).1 ≤ ((n : Nat) : Int))) && (decide (((n : Nat) : Int) < ((l[c]).2.2.2.2).2)))) (w := true) [] trivial (fun hgd => have g82_1 : ((decide (((l[c]).2.2.2.2).1 ≤ ((n : Nat) : Int))) && (decide (((n : Nat) : Int) < ((l[c]).2.2.2.2).2))) = true := (by simpa using hgd); (.fa (.r (.l .o)))) ?_
      refine VO.rg (r := ((decide (((l[c]).2.2.2.2).1 ≤ ((n : Nat) : Int))) && (decide (((n : Nat) : Int) < ((l[c]).2.2.2.2).2)))) (w := true) [(380, .p .str ((l[c]).2.1))] ⟨rfl, trivial⟩ (fun hgd => have g82_1 : ((decide (((l[c]).2.2.2.2).1 ≤ ((n : Nat) : Int))) && (decide (((n : Nat) : Int) < ((l[c]).2.2.2.2).2))) = true := (by simpa using hgd); (.ld vt9)) ?_
      refine VO.rg (r := ((decide (((l[c]).2.2.2.2).1 ≤ ((n : Nat) : Int))) && (decide (((n : Nat) : Int) < ((l[c]).2.2.2.2).2)))) (w := true) [(379, .v y129 (cntM (crewsW (l.take b) n))), (381, St ((l[c]).2.1))] ⟨rfl, rfl, trivial⟩ (fun hgd => have g82_1 : ((decide (((l[c]).2.2.2.2).1 ≤ ((n : Nat) : Int))) && (decide (((n : Nat) : Int) < ((l[c]).2.2.2.2).2))) = true := (by simpa using hgd); (.look mt129)) ?_
      refine VO.cg (r := ((decide (((l[c]).2.2.2.2).1 ≤ ((n : Nat) : Int))) && (decide (((n : Nat) : Int) < ((l[c]).2.2.2.2).2)))) (w := true) [(382, I ((mget (cntM (crewsW (l.take b) n)) ((l[c]).2.1)).getD 0))] ⟨rfl, trivial⟩ (fun hgd => have g82_1 : ((decide (((l[c]).2.2.2.2).1 ≤ ((n : Nat) : Int))) && (decide (((n : Nat) : Int) < ((l[c]).2.2.2.2).2))) = true := (by simpa using hgd); (.gtr)) ?_
      refine VO.c (.and) ?_
      refine VO.go ?_
      refine VC.condB rfl (fun c82 => ?_) (fun c82 => ?_)
      · try simp only [Bool.and_eq_true, Bool.or_eq_true, Bool.and_eq_false_iff, Bool.or_eq_false_iff, Bool.not_eq_true', Bool.not_eq_false', decide_eq_true_eq, decide_eq_false_iff_not] at c82
        exact absurd c82.2 (kc _)
      try simp only [Bool.and_eq_true, Bool.or_eq_true, Bool.and_eq_false_iff, Bool.or_eq_false_iff, Bool.not_eq_true', Bool.not_eq_false', decide_eq_true_eq, decide_eq_false_iff_not] at c82
      refine VC.skip (VC.seq (VC.text ?_))
      refine VO.c (.fa (.r (.r (.r (.l .o))))) ?_
      refine VO.r (.ld vt27) ?_
      refine VO.r (.len el27) ?_
      refine VO.c (.move rfl) ?_
      refine VO.go (VC.block ?_)
      refine VC.keep [(0, .v y22 l), (1, .v y23 sn), (20, I (if busyC l = 0 then (busyE l l.length).1 else 0)), (21, I (if busyC l = 0 then (busyE l l.length).2 else 0)), (23, D (sValidE l sn = (0 : Int))), (24, I ((topE l n).1)), (25, I ((topE l n).2)), (26, I ((n : Nat) : Int)), (31, .v y129 (cntM (crewsW (l.take b) n))), (32, .v y129 (cntM (locksW (l.take b) n))), (33, .v y129 (cntM (gatesW (l.take b) n))), (43, .p y31 (l[c])), (44, B ((decide (((l[c]).2.2.2.2).1 ≤ ((n : Nat) : Int))) && (decide (((n : Nat) : Int) < ((l[c]).2.2.2.2).2)))), (233, I ((n : Nat) : Int)), (359, .v y22 l), (360, I ((l.length : Nat) : Int)), (361, I ((c : Nat) : Int)), (386, .v (.sl .str) ((l[c]).2.2.2.1)), (387, I ((((l[c]).2.2.2.1).length : Nat) : Int)), (388, I ((0 : Nat) : Int))] ⟨rfl, rfl, rfl, rfl, rfl, rfl, rfl, rfl, rfl, rfl, rfl, rfl, rfl, rfl, rfl, rfl, rfl, rfl, rfl, rfl, trivial⟩ ?_
      refine VC.loop (I := fun kk ff ss => ∃ (d : Nat), kk = (l[c]).2.2.2.1.length - d ∧ ff = [(0, .v y22 l), (1, .v y23 sn), (20, I (if busyC l = 0 then (busyE l l.length).1 else 0)), (21, I (if busyC l = 0 then (busyE l l.length).2 else 0)), (23, D (sValidE l sn = (0 : Int))), (24, I ((topE l n).1)), (25, I ((topE l n).2)), (26, I ((n : Nat) : Int)), (31, .v y129 (cntM (crewsW (l.take b) n))), (32, .v y129 (cntM (locksW (l.take b) n))), (33, .v y129 (cntM (gatesW (l.take b) n))), (43, .p y31 (l[c])), (44, B ((decide (((l[c]).2.2.2.2).1 ≤ ((n : Nat) : Int))) && (decide (((n : Nat) : Int) < ((l[c]).2.2.2.2).2)))), (233, I ((n : Nat) : Int)), (359, .v y22 l), (360, I ((l.length : Nat) : Int)), (361, I ((c : Nat) : Int)), (386, .v (.sl .str) ((l[c]).2.2.2.1)), (387, I ((((l[c]).2.2.2.1).length : Nat) : Int)), (388, I ((d : Nat) : Int))] ∧ ss = [] ∧ (d ≤ (l[c]).2.2.2.1.length)) ?_ _ _ _ ⟨0, rfl, rfl, rfl, (by omega)⟩
      rintro kk ff ss ⟨d, hk20, rfl, rfl, hd⟩
      refine VC.seq (VC.text ?_)
      refine VO.c (.lss) ?_
      refine VO.go (VC.seq ?_)
      refine VC.condD rfl (fun c85 => ?_) (fun c85 => ?_)
      · refine VC.skip (VC.seq (VC.block (VC.seq (VC.text ?_))))
        refine VO.c (.ix (j := d) rfl rfl el27 (by omega)) ?_
        refine VO.r (.ld vt9) ?_
        refine VO.c (.assign rfl) ?_
        refine VO.go (VC.seq (VC.text ?_))
        refine VO.c (.move rfl) ?_
        refine VO.c (.move rfl) ?_
        refine VO.r (.look mt129) ?_
        refine VO.c (.assign rfl) ?_
        refine VO.go (VC.seq (VC.text ?_))
        refine VO.c (.move rfl) ?_
        refine VO.c (.move rfl) ?_
        refine VO.splitB (x := 396) rfl (fun g88_1 => ?_) (fun g88_1 => ?_)
        · try simp only [Bool.and_eq_true, Bool.or_eq_true, Bool.and_eq_false_iff, Bool.or_eq_false_iff, Bool.not_eq_true', Bool.not_eq_false', decide_eq_true_eq, decide_eq_false_iff_not] at g88_1
          refine VO.c (.move rfl) ?_
          refine VO.c (.move rfl) ?_
          refine VO.r (.look mt129) ?_
          refine VO.c (.gtr) ?_
          refine VO.c (.move rfl) ?_
          refine VO.splitD (x := 401) rfl (fun g88_6 => ?_) (fun g88_6 => ?_)
          · exact absurd g88_6 (kl _)
          refine VO.c (.fa (.r (.r (.l .o)))) ?_
          refine VO.r (.ld vt9) ?_
          refine VO.c (.move rfl) ?_
          refine VO.c (.sneq) ?_
          refine VO.c (.move rfl) ?_
          refine VO.cg (r := decide ((l[c]).2.2.1 ≠ ((l[c]).2.2.2.1)[d])) (w := true) [] trivial (fun hgd => have g88_11 : (l[c]).2.2.1 ≠ ((l[c]).2.2.2.1)[d] := (by simpa using hgd); (.move rfl)) ?_
          refine VO.cg (r := decide ((l[c]).2.2.1 ≠ ((l[c]).2.2.2.1)[d])) (w := true) [(407, I ((mget (cntM (gatesW (l.take b) n)) (((l[c]).2.2.2.1)[d])).getD 0))] ⟨rfl, trivial⟩ (fun hgd => have g88_11 : (l[c]).2.2.1 ≠ ((l[c]).2.2.2.1)[d] := (by simpa using hgd); (.gtr)) ?_
          refine VO.c (.and) ?_
          refine VO.c (.pickF rfl rfl) ?_
          refine VO.c (.pickT rfl rfl) ?_
          refine VO.go ?_
          refine VC.condB rfl (fun c88 => ?_) (fun c88 => ?_)
          · try simp only [Bool.and_eq_true, Bool.or_eq_true, Bool.and_eq_false_iff, Bool.or_eq_false_iff, Bool.not_eq_true', Bool.not_eq_false', decide_eq_true_eq, decide_eq_false_iff_not] at c88
            exact absurd c88.2 (by rw [e1, cntM_get, gate_none hfr (List.getElem_mem hcc) (hasT_iff.2 g88_1) (List.getElem_mem (show d < (l[c]).2.2.2.1.length by omega)) c88.1]; decide)
          try simp only [Bool.and_eq_true, Bool.or_eq_true, Bool.and_eq_false_iff, Bool.or_eq_false_iff, Bool.not_eq_true', Bool.not_eq_false', decide_eq_true_eq, decide_eq_false_iff_not] at c88
          refine VC.skip (VC.text ?_)
          refine VO.c (.add rfl rfl (by omega)) ?_
          refine VO.c (.move rfl) ?_
          refine VO.nil ?_
          refine ⟨_, [(0, .v y22 l), (1, .v y23 sn), (20, I (if busyC l = 0 then (busyE l l.length).1 else 0)), (21, I (if busyC l = 0 then (busyE l l.length).2 else 0)), (23, D (sValidE l sn = (0 : Int))), (24, I ((topE l n).1)), (25, I ((topE l n).2)), (26, I ((n : Nat) : Int)), (31, .v y129 (cntM (crewsW (l.take b) n))), (32, .v y129 (cntM (locksW (l.take b) n))), (33, .v y129 (cntM (gatesW (l.take b) n))), (43, .p y31 (l[c])), (44, B ((decide (((l[c]).2.2.2.2).1 ≤ ((n : Nat) : Int))) && (decide (((n : Nat) : Int) < ((l[c]).2.2.2.2).2)))), (233, I ((n : Nat) : Int)), (359, .v y22 l), (360, I ((l.length : Nat) : Int)), (361, I ((c : Nat) : Int)), (386, .v (.sl .str) ((l[c]).2.2.2.1)), (387, I ((((l[c]).2.2.2.1).length : Nat) : Int)), (388, I (((d + 1) : Nat) : Int))], ?_, ⟨rfl, rfl, rfl, rfl, rfl, rfl, rfl, rfl, rfl, rfl, rfl, rfl, rfl, rfl, rfl, rfl, rfl, rfl, rfl, rfl, trivial⟩, (d + 1), rfl, rfl, rfl, (by omega)⟩
          omega
        try simp only [Bool.and_eq_true, Bool.or_eq_true, Bool.and_eq_false_iff, Bool.or_eq_false_iff, Bool.not_eq_true', Bool.not_eq_false', decide_eq_true_eq, decide_eq_false_iff_not] at g88_1
        refine VO.skip ?_
        refine VO.skip ?_
        refine VO.skip ?_
        refine VO.skip ?_
        refine VO.skip ?_
        refine VO.skip ?_
        refine VO.skip ?_
        refine VO.skip ?_
        refine VO.skip ?_
        refine VO.skip ?_
        refine VO.skip ?_
        refine VO.skip ?_
        refine VO.skip ?_
        refine VO.skip ?_
        refine VO.c (.pickF rfl rfl) ?_
        refine VO.go ?_
        refine VC.condF rfl ?_
        refine VC.skip (VC.text ?_)
        refine VO.c (.add rfl rfl (by omega)) ?_
        refine VO.c (.move rfl) ?_
        refine VO.nil ?_
        refine ⟨_, [(0, .v y22 l), (1, .v y23 sn), (20, I (if busyC l = 0 then (busyE l l.length).1 else 0)), (21, I (if busyC l = 0 then (busyE l l.length).2 else 0)), (23, D (sValidE l sn = (0 : Int))), (24, I ((topE l n).1)), (25, I ((topE l n).2)), (26, I ((n : Nat) : Int)), (31, .v y129 (cntM (crewsW (l.take b) n))), (32, .v y129 (cntM (locksW (l.take b) n))), (33, .v y129 (cntM (gatesW (l.take b) n))), (43, .p y31 (l[c])), (44, B ((decide (((l[c]).2.2.2.2).1 ≤ ((n : Nat) : Int))) && (decide (((n : Nat) : Int) < ((l[c]).2.2.2.2).2)))), (233, I ((n : Nat) : Int)), (359, .v y22 l), (360, I ((l.length : Nat) : Int)), (361, I ((c : Nat) : Int)), (386, .v (.sl .str) ((l[c]).2.2.2.1)), (387, I ((((l[c]).2.2.2.1).length : Nat) : Int)), (388, I (((d + 1) : Nat) : Int))], ?_, ⟨rfl, rfl, rfl, rfl, rfl, rfl, rfl, rfl, rfl, rfl, rfl, rfl, rfl, rfl, rfl, rfl, rfl, rfl, rfl, rfl, trivial⟩, (d + 1), rfl, rfl, rfl, (by omega)⟩
        omega
      refine VC.exit (VC.text ?_)
      refine VO.c (.add rfl rfl (by omega)) ?_
      refine VO.c (.move rfl) ?_
      refine VO.nil ?_
      refine ⟨_, [(0, .v y22 l), (1, .v y23 sn), (20, I (if busyC l = 0 then (busyE l l.length).1 else 0)), (21, I (if busyC l = 0 then (busyE l l.length).2 else 0)), (23, D (sValidE l sn = (0 : Int))), (24, I ((topE l n).1)), (25, I ((topE l n).2)), (26, I ((n : Nat) : Int)), (31, .v y129 (cntM (crewsW (l.take b) n))), (32, .v y129 (cntM (locksW (l.take b) n))), (33, .v y129 (cntM (gatesW (l.take b) n))), (233, I ((n : Nat) : Int)), (359, .v y22 l), (360, I ((l.length : Nat) : Int)), (361, I (((c + 1) : Nat) : Int))], ?_, ⟨rfl, rfl, rfl, rfl, rfl, rfl, rfl, rfl, rfl, rfl, rfl, rfl, rfl, rfl, rfl, trivial⟩, (c + 1), rfl, rfl, rfl, (by omega)⟩
      omega
    refine VC.exit (VC.text ?_)
    refine VO.c (.add rfl rfl (by omega)) ?_
    refine VO.c (.move rfl) ?_
    refine VO.nil ?_
    refine ⟨_, [(0, .v y22 l), (1, .v y23 sn), (20, I (if busyC l = 0 then (busyE l l.length).1 else 0)), (21, I (if busyC l = 0 then (busyE l l.length).2 else 0)), (23, D (sValidE l sn = (0 : Int))), (24, I ((topE l (n + 1)).1)), (25, I ((topE l (n + 1)).2)), (233, I (((n + 1) : Nat) : Int))], ?_, ⟨rfl, rfl, rfl, rfl, rfl, slI rfl (by first | (rw [ht, g1]) | (rw [ht])), slI rfl (by rw [ht]), rfl, trivial⟩, (n + 1), rfl, rfl, rfl, (by omega)⟩
    omega
  refine VC.exit (VC.seq (VC.text ?_))
  refine VO.c (.move rfl) ?_
  refine VO.c (.move rfl) ?_
  refine VO.c (.eql) ?_
  refine VO.c (.move rfl) ?_
  refine VO.cg (r := decide ((if busyC l = 0 then (busyE l l.length).1 else 0) = ((topE l n).2))) (w := true) [] trivial (fun hgd => have g93_3 : (if busyC l = 0 then (busyE l l.length).1 else 0) = ((topE l n).2) := (by simpa using hgd); (.move rfl)) ?_
  refine VO.cg (r := decide ((if busyC l = 0 then (busyE l l.length).1 else 0) = ((topE l n).2))) (w := true) [] trivial (fun hgd => have g93_3 : (if busyC l = 0 then (busyE l l.length).1 else 0) = ((topE l n).2) := (by simpa using hgd); (.move rfl)) ?_
  refine VO.cg (r := decide ((if busyC l = 0 then (busyE l l.length).1 else 0) = ((topE l n).2))) (w := true) [(419, I (if busyC l = 0 then (busyE l l.length).2 else 0)), (420, I ((topE l n).1))] ⟨rfl, rfl, trivial⟩ (fun hgd => have g93_3 : (if busyC l = 0 then (busyE l l.length).1 else 0) = ((topE l n).2) := (by simpa using hgd); (.eql)) ?_
  refine VO.c (.and) ?_
  refine VO.c (.move rfl) ?_
  refine VO.callg (r0 := ((decide ((if busyC l = 0 then (busyE l l.length).1 else 0) = ((topE l n).2))) && (decide ((if busyC l = 0 then (busyE l l.length).2 else 0) = ((topE l n).1))))) (w := true) [] trivial rfl rfl .same .refl rfl (fun hgd => have g93_8 : ((decide ((if busyC l = 0 then (busyE l l.length).1 else 0) = ((topE l n).2))) && (decide ((if busyC l = 0 then (busyE l l.length).2 else 0) = ((topE l n).1)))) = true := (by simpa using hgd); VF.call (awakeC_ok )) ?_
  refine VO.c (.and) ?_
  refine VO.c (.assign rfl) ?_
  refine VO.go ?_
  refine VC.ret ?_
  exact VEnd.one rfl evT (pvE (by rw [hb1, hb2, show n = 200 by omega, hbt.1, hbt.2]; simp))
end Go.Proofs
namespace Go.Fs
open Go.RowKit (Below)
variable {P : Program}
def orcB (fi fj fc : FuncId) (T : TypeId) : FuncId → List Value → Heap → Option (Value × Heap) := fun f xs h =>
  bif Nat.beq f fc then
    match xs with
    | [.pointer (some ⟨b, 0, none⟩)] =>
      match h.get b with
      | some (.row e [p, v] true false) =>
        bif Nat.beq e T then
          match p with
          | .pointer none => some (.tuple #[], h.set b (.row e [.pointer (some ⟨b, 0, none⟩), v] true false))
          | .pointer (some ⟨b', 0, none⟩) => bif Nat.beq b' b then some (.tuple #[], h) else none
          | _ => none
        else none
      | _ => none
    | _ => none
  else orcS fi fj f xs h
theorem orcB_sound {B : Nat} {w0 : World} {fi fj fc : FuncId} {T : TypeId} (hz : w0.drawn = 0) (hS : CallSound P B w0 (orcS fi fj)) (hc : Enters P fc)
    (hF : ∀ (b : Nat) (w : World), w.cell? ⟨b, 0, none⟩ = some (.pointer none) → w.shape? b = some (T, 2) → w.frozen? ⟨b, 0, none⟩ = false →
      Calls P fc #[.pointer (some ⟨b, 0, none⟩)] w fun e w' => e = .returned (.tuple #[]) ∧ w' = w.setCell ⟨b, 0, none⟩ (.pointer (some ⟨b, 0, none⟩)))
    (hU : ∀ (b : Nat) (w : World), w.cell? ⟨b, 0, none⟩ = some (.pointer (some ⟨b, 0, none⟩)) → Calls P fc #[.pointer (some ⟨b, 0, none⟩)] w fun e w' => e = .returned (.tuple #[]) ∧ w' = w) :
    CallSound P B w0 (orcB fi fj fc T) := by
  intro f xs h v h' hf
  unfold orcB at hf
  cases hb : Nat.beq f fc with
  | false =>
    rw [hb] at hf
    exact hS f xs h v h' hf
  | true =>
    have := nbeq hb
    subst this
    rw [hb] at hf
    simp only [cond_true] at hf
    split at hf
    · rename_i b
      split at hf
      · rename_i e p u hg
        obtain ⟨he, hf2⟩ := bif_some hf
        obtain rfl := nbeq he
        refine ⟨hc, fun ρ S w args' hr ha nn => ?_⟩
        obtain ⟨hsb, cur, k1, k2, k3, k4, k5, k6, k7⟩ := hr.objs b _ hg
        have hcl : cur.length = 2 := (k6 rfl).symm
        match cur, hcl with
        | [p', u'], _ =>
        have hp : VR ρ S p p' := k7 0 (by simp)
        have hu : VR ρ S u u' := k7 1 (by simp)
        have hat : (ρ b).at 0 = ⟨(ρ b).block, 0, none⟩ := by unfold Loc.at; rw [k2]
        have harg : args' = [.pointer (some ⟨(ρ b).block, 0, none⟩)] := by
          have h1 := ha.1
          match args', h1 with
          | [a], _ =>
            have h2 : VR ρ S (.pointer (some ⟨b, 0, none⟩)) a := ha.2 0 (by simp)
            rw [h2.ptr_inv.2, hat]
        subst harg
        have hcell : w.cell? ⟨(ρ b).block, 0, none⟩ = some p' := by simp [World.cell?, k1]
        split at hf2
        · simp only [Option.some.injEq, Prod.mk.injEq] at hf2
          obtain ⟨rfl, rfl⟩ := hf2
          obtain rfl := hp.eq_of_af0 rfl
          have hC : CallsIn Fence.wide nn P f #[.pointer (some ⟨(ρ b).block, 0, none⟩)] w _ := callsIn_wide.2 (hF (ρ b).block w hcell (by simp [World.shape?, k1]) (by simp [World.frozen?, k1]))
          refine hC.mono fun e2 w' hret => ?_
          obtain ⟨rfl, rfl⟩ := hret
          refine ⟨ρ, Moved.set hr hg rfl rfl rfl rfl rfl (by simp [World.setCell]) (fun k hk => ?_) ?_, VR.tuple' LR.nil⟩
          · simp only [World.setCell, Array.getElem?_modify]
            rw [if_neg (fun e0 => hk e0.symm)]
          refine ⟨[.pointer (some ⟨(ρ b).block, 0, none⟩), u'], ?_, k2, k3, k4, Nat.le_refl _, fun _ => rfl, fun i hi => ?_⟩
          · simp only [World.setCell, Array.getElem?_modify, if_pos rfl, k1]
            simp
          match i, hi with
          | 0, _ => show VR ρ S (.pointer (some ⟨b, 0, none⟩)) (.pointer (some ⟨(ρ b).block, 0, none⟩)); rw [← hat]; exact .ptr b 0 hsb
          | 1, _ => exact hu
        · rename_i b'
          obtain ⟨hbb, hf3⟩ := bif_some hf2
          obtain rfl := nbeq hbb
          simp only [Option.some.injEq, Prod.mk.injEq] at hf3
          obtain ⟨rfl, rfl⟩ := hf3
          have hp2 := hp.ptr_inv.2
          rw [hat] at hp2
          subst hp2
          have hC : CallsIn Fence.wide nn P f #[.pointer (some ⟨(ρ b').block, 0, none⟩)] w _ := callsIn_wide.2 (hU (ρ b').block w hcell)
          refine hC.mono fun e2 w' hret => ?_
          obtain ⟨rfl, rfl⟩ := hret
          exact ⟨ρ, Moved.same hr, VR.tuple' LR.nil⟩
        cases hf2
      cases hf
    cases hf
end Go.Fs
namespace Go.Fs
open Go.RowKit (Below)
variable {P : Program} {B : Nat} {w0 : World}

def fsStepX (P : Program) (orc : FuncId → List Value → Heap → Option (Value × Heap)) (rec : Rec) : Rec := fun rnd c fr h =>
  match c with
  | .region _ ops true => match drawnX P { next := h.next, low := h.next, objs := h.objs } (fsOp P (callOf P orc rec) (fsYield rec)) ops fr.n ⟨fr.t, { next := h.next, low := h.next, objs := h.objs }, [], [], 0, false⟩ with
    | some s => some (.normal, { t := s.t, n := fr.n, marks := fr.marks }, { next := s.h.next, low := min h.low s.h.low, objs := s.h.objs })
    | none => none
  | c => fsStep P orc rec rnd c fr h
def fsCodeX (P : Program) (orc : FuncId → List Value → Heap → Option (Value × Heap)) : Nat → Rec
  | 0 => fun _ _ _ _ => none
  | n + 1 => fsStepX P orc (fsCodeX P orc n)

theorem HR.low {ρ : Ren} {S : Nat → Prop} {h : Heap} {w : World} (hr : HR P ρ S B w0 h w) (l : Nat) : HR P ρ S B w0 { next := h.next, low := l, objs := h.objs } w :=
  { objs := hr.objs, inj := hr.inj, base := hr.base, ro := hr.ro, ids := hr.ids, pos := hr.pos, below := hr.below, drawn := hr.drawn, size := hr.size }
theorem Moved.lowered {ρ ρ' : Ren} {S : Nat → Prop} {h h' : Heap} {w w' : World} {l : Nat} (m : Moved P B w0 ρ ρ' S { next := h.next, low := l, objs := h.objs } h' w w') :
    Moved P B w0 ρ ρ' S h { next := h'.next, low := min h.low h'.low, objs := h'.objs } w w' where
  agree := m.agree
  next := m.next
  hr := m.hr.low _
  frame := ⟨m.frame.os, m.frame.tape, m.frame.output, m.frame.size, m.frame.block⟩
  low := Nat.min_le_left _ _
  keep := fun i hi hl => m.keep i hi (Nat.lt_of_lt_of_le hl (Nat.min_le_right _ _))
  old := m.old
  fresh := fun i o ho hi => by
    obtain ⟨h1, h2⟩ := m.fresh i o ho hi
    refine ⟨h1, ?_⟩
    rcases h2 with h2 | ⟨j, oj, h3, h4, h5, h6, h7⟩
    · exact .inl h2
    exact .inr ⟨j, oj, h3, h4, h5, Nat.le_trans (Nat.min_le_right _ _) h6, h7⟩
theorem stepX_sound (hP : ProgOk P) {orc : FuncId → List Value → Heap → Option (Value × Heap)} (horc : CallSound P B w0 orc) {m : Nat} {rec : Rec} (hrec : SoundR P B w0 m rec) : SoundR P B w0 (m + 1) (fsStepX P orc rec) := by
  have hcs : CallSnd P B w0 (callOf P orc rec) := call_sound hP horc hrec
  have hys : YieldSound P B w0 (fsYield rec) := yield_sound hrec
  have hold := step_sound hP horc hrec
  intro rnd c fr h e fr' h' hok hf
  cases c with
  | region id ops draw =>
    cases draw with
    | false => exact hold rnd _ fr h e fr' h' hok hf
    | true =>
      intro ρ S w a nn Q hr ht hm hs k
      simp only [fsStepX] at hf
      split at hf
      · rename_i s hrun
        simp only [Option.some.injEq, Prod.mk.injEq] at hf
        obtain ⟨rfl, rfl, rfl⟩ := hf
        refine wpIn_region_draw fun t => ?_
        rw [hP.mixed]
        exact drawn_wpX (h0 := { next := h.next, low := h.next, objs := h.objs }) (call := callOf P orc rec) (yield := fsYield rec) hcs hys hok hrun ((hr.drew _).low _) ht (fun ρ1 w1 a1 m1 ht1 hd1 => k _ _ _ ⟨(Moved.ofDrew m1).lowered, ht1, by rw [hd1]; exact hm.mono fun b hb => ⟨.inl hb, m1.agree b hb⟩⟩) t
      cases hf
  | _ => exact hold rnd _ fr h e fr' h' hok hf

theorem codeX_sound (hP : ProgOk P) {orc : FuncId → List Value → Heap → Option (Value × Heap)} (horc : CallSound P B w0 orc) : ∀ m, SoundR P B w0 m (fsCodeX P orc m)
  | 0 => fun rnd c fr h e fr' h' _ hf => by cases hf
  | m + 1 => stepX_sound hP horc (codeX_sound hP horc m)
theorem fsX_calls (hP : ProgOk P) {orc : FuncId → List Value → Heap → Option (Value × Heap)} (horc : CallSound P B w0 orc) (m : Nat) : CallSound P B w0 (fsEnter P (fsCodeX P orc m)) := enter_sound hP (codeX_sound hP horc m)
theorem fsX_closed (hP : ProgOk P) {w : World} {orc : FuncId → List Value → Heap → Option (Value × Heap)} (horc : CallSound P w.heap.size (wz w) orc) {m : Nat} {f : FuncId} {args : List Value} {v : Value} (ha : args.all af = true)
    (hf : (fsEnter P (fsCodeX P orc m) f args ⟨1, 1, []⟩).map (·.1) = some v) (hv : af v = true) :
    Calls P f args.toArray w fun | .returned v', w' => v' = v ∧ Below w.heap.size w w' | _, _ => False := by
  obtain ⟨⟨v0, h0⟩, h1, h2⟩ := Option.map_eq_some_iff.1 hf
  simp only at h2
  subst h2
  have hr : HR P (fun _ => ⟨0, 0, 0, 0⟩) (fun _ => False) w.heap.size (wz w) ⟨1, 1, []⟩ w :=
    { objs := fun i o hi => (by cases hi), inj := fun i j oi oj hi => (by cases hi), base := fun i o hi => (by cases hi), ro := fun i o hi => (by cases hi), ids := fun b hb => hb.elim, pos := by decide,
      below := z_below (Below.refl _ _), drawn := Nat.zero_le _, size := Nat.le_refl _ }
  have hc := ((fsX_calls hP horc m) f args _ _ _ h1).2 _ _ w args hr ⟨rfl, fun i hi => .of_af (List.all_eq_true.1 ha _ (mem_getD hi))⟩ 0
  refine Calls.mono (callsIn_wide.1 hc) fun e w' he => ?_
  cases e with
  | returned v' =>
    obtain ⟨ρ', m1, hv1⟩ := he
    exact ⟨hv1.eq_of_af hv, below_z m1.hr.below⟩
  | panicked c => exact he.elim
  | outgrown => exact he.elim
theorem awakeX_calls (hP : ProgOk P) {B : Nat} {w0 : World} {O : FuncId → List Value → Heap → Option (Value × Heap)} {fa : FuncId} (hS : ∀ w, Below B w0 w → CallSound P w.heap.size (wz w) O) {m : Nat}
    (hrun : (fsEnter P (fsCodeX P O m) fa [] ⟨1, 1, []⟩).map (·.1) = some (.bool true)) (w : World) (hw : Below B w0 w) :
    Calls P fa #[] w fun | .returned v', w' => v' = .bool true ∧ Below w.heap.size w w' | _, _ => False :=
  fsX_closed hP (hS w hw) (args := []) rfl hrun rfl
end Go.Fs
namespace Go.Fs
variable {P : Program} {orc : FuncId → List Value → Heap → Option (Value × Heap)}
def runPre (P : Program) (orc : FuncId → List Value → Heap → Option (Value × Heap)) : Nat → Nat → Code → Fr → Heap → Option (Nat × Code × Fr × Heap)
  | 0, n, c, fr, h => some (n, c, fr, h)
  | k + 1, n, c, fr, h => match n, c with
    | n + 1, .seq a b => match fsCodeX P orc n none a fr h with
      | some (.normal, fr1, h1) => runPre P orc k n b fr1 h1
      | _ => none
    | _, _ => none
theorem run_via : ∀ {k n : Nat} {c : Code} {fr : Fr} {h : Heap} {n' : Nat} {c' : Code} {fr' : Fr} {h' : Heap}, runPre P orc k n c fr h = some (n', c', fr', h') → fsCodeX P orc n none c fr h = fsCodeX P orc n' none c' fr' h'
  | 0, n, c, fr, h, n', c', fr', h', hr => by
    simp only [runPre, Option.some.injEq, Prod.mk.injEq] at hr
    obtain ⟨rfl, rfl, rfl, rfl⟩ := hr
    rfl
  | k + 1, n, c, fr, h, n', c', fr', h', hr => by
    simp only [runPre] at hr
    split at hr
    · rename_i n a b
      split at hr
      · rename_i fr1 h1 ha
        rw [← run_via hr]
        show fsStep P orc (fsCodeX P orc n) none (.seq a b) fr h = _
        simp only [fsStep, ha]
      cases hr
    cases hr
def endV (P : Program) (fn : Func) (h : Heap) (x : Ex × Fr × Heap) : Option Value :=
  bif x.1.goes then
    match dropMarks x.2.1.marks x.2.2 with
    | some h2 => (fsResults P x.2.1.t h2 fn.results.toList).map tupled
    | none => none
  else none
theorem enter_map {rec : Rec} {f : FuncId} {args : List Value} {h : Heap} {fn : Func} {c : Code} (hf : P.funcs[f]? = some fn) (hc : fn.body = some c) (hn : (Nat.blt 4000 fn.ntmps || Nat.blt fn.ntmps args.length) = false) :
    (fsEnter P rec f args h).map (·.1) = (rec none c ⟨fillTr .leaf 0 args, fn.ntmps, []⟩ { next := h.next, low := h.next, objs := h.objs }).bind (endV P fn h) := by
  unfold fsEnter fsEnterK endV
  simp only [hf, hc, hn, cond_false]
  cases rec none c ⟨fillTr .leaf 0 args, fn.ntmps, []⟩ { next := h.next, low := h.next, objs := h.objs } with
  | none => rfl
  | some x =>
    obtain ⟨e, fr, h1⟩ := x
    simp only [Option.bind_some]
    cases e.goes with
    | false => rfl
    | true =>
      simp only [cond_true]
      cases dropMarks fr.marks h1 with
      | none => rfl
      | some h2 =>
        simp only
        cases fsResults P fr.t h2 fn.results.toList with
        | none => rfl
        | some vs =>
          simp only [Option.map_some]
          generalize (!false && (af (tupled vs) && Nat.ble h.next h2.low)) = q
          cases q <;> rfl
def sufx : Nat → Code → Code
  | 0, c => c
  | k + 1, .seq _ b => sufx k b
  | _ + 1, c => c
def rfOf : Code → Option (Array Tmp × Code × Code)
  | .rangeFunc _ ps a b => some (ps, a, b)
  | .seq a b => (rfOf a).or (rfOf b)
  | .cond _ a b => (rfOf a).or (rfOf b)
  | .block _ b => rfOf b
  | .loop b => rfOf b
  | .scope b => rfOf b
  | _ => none
def rfIn (fn : Func) : Array Tmp × Code × Code := (fn.body.bind rfOf).getD (#[], .skip, .skip)
end Go.Fs
