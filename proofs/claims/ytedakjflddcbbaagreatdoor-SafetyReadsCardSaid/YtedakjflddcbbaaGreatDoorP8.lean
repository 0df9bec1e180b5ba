/- Parts of the proof: an evaluator of the model, what it is sound for, and contracts of functions. No condition. -/
import Derived.Test.YtedakjflddcbbaaGreatDoorP7
import Derived.Test.YtedakjflddcbbaaGreatDoorP3
import Derived.Test.YtedakjflddcbbaaGreatDoorP2
import Derived.Shelf.Strings.Builder1
import Derived.Shelf.Strings.Builder2
import Derived.Shelf.Strings.OnBuilder
import Derived.Shelf.Small.Bits
import Derived.Shelf.Small.Strs
import Derived.Shelf.Small.Wraps
import Derived.Shelf.Strings.BuilderF
import Derived.Shelf.Strings.BuilderK
import Derived.Shelf.Strings.Builder2Cap
import Derived.Shelf.Strconv.Itoa0
import Derived.Shelf.Strconv.Itoa1
import Derived.Shelf.LaysM
import Derived.Shelf.Strconv.Itoa2
import Derived.Shelf.Strconv.Itoa3
import Derived.Shelf.Strings.Prefix
import Derived.Shelf.Strings.Split
import Derived.Shelf.Unicode.Decode
import Derived.Shelf.Strings.Explode
import Derived.Shelf.Unicode.DecodeAny
import Derived.Shelf.Slices.Turned
import Derived.Ground.Names2Prog
import Derived.Shelf.Slices.Clone
import Derived.Shelf.Slices.CompactS
import Derived.Shelf.Slices.Cells
import Derived.Shelf.Slices.In.SortNone
import Derived.Ground.SlgnProg
import Derived.Shelf.SlicesE.Clone
import Derived.Test.YtedakjflddcbbaaGreatDoorProg
import Derived.Lib.AppendIntMem
import Derived.Test.YtedakjflddcbbaaGreatDoorChecked
import Derived.KernelRfl
import Derived.ChangeArms
import Derived.Carry
import Derived.RowKit
import Derived.OpenShut
import Derived.Test.YtedakjflddcbbaaGreatDoorCards
import Derived.Test.YtedakjflddcbbaaGreatDoorTie
import Derived.Test.YtedakjflddcbbaaGreatDoorP5
import Derived.WalkKit
import Derived.ProofKit
import Derived.LaidMore
import Derived.Deep.DeepHandedRow
import Derived.Lib.LaidTab
import Derived.Stop.LaidErr
import Derived.Lib.LaidIn
set_option linter.all false
namespace Go.Proofs
open Go.Fs
set_option maxHeartbeats 4000000
theorem zt29 : ZerT Tryz.prog 29 (.int .i64) := zerT_of (z := .int .i64 0) (by kernel_rfl) rfl rfl
theorem bt36 : BldT Tryz.prog 36 y36 [(0, 1), (1, 1), (2, 1)] := bldT_of zt36 rfl (by kernel_rfl)
abbrev nC : Cse := ([], [], [])
def parG (s : ByteArray) : Option Cse × Nat := prsG stpC (splS 10 s) nC 0
def parE (s : ByteArray) : Int := if 4096 < s.size then 27 else match (parG s).1 with | none => 26 | some c => caseE c
def parN (s : ByteArray) : Int := if 4096 < s.size then 0 else match (parG s).1 with | none => (((parG s).2 : Nat) : Int) | some c => if caseE c ≠ 0 then (((parG s).2 : Nat) : Int) else 0
def parC (s : ByteArray) : Cse := if 4096 < s.size then nC else match (parG s).1 with | none => nC | some c => if caseE c ≠ 0 then nC else c
theorem par_big {s : ByteArray} (h : 4096 < s.size) : parC s = nC ∧ parN s = 0 ∧ parE s = 27 := ⟨if_pos h, if_pos h, if_pos h⟩
theorem par_none {s : ByteArray} {i : Nat} (h : ¬ 4096 < s.size) (hp : parG s = (none, i)) : parC s = nC ∧ parN s = ((i : Nat) : Int) ∧ parE s = 26 := by
  unfold parC parN parE; refine ⟨?_, ?_, ?_⟩ <;> rw [if_neg h, hp]
theorem par_wrong {s : ByteArray} {c : Cse} {i : Nat} (h : ¬ 4096 < s.size) (hp : parG s = (some c, i)) (hc : caseE c ≠ 0) : parC s = nC ∧ parN s = ((i : Nat) : Int) ∧ parE s = caseE c := by
  unfold parC parN parE; refine ⟨?_, ?_, ?_⟩ <;> rw [if_neg h, hp]
  · exact if_pos hc
  exact if_pos hc
theorem par_good {s : ByteArray} {c : Cse} {i : Nat} (h : ¬ 4096 < s.size) (hp : parG s = (some c, i)) (hc : caseE c = 0) : parC s = c ∧ parN s = 0 ∧ parE s = 0 := by
  unfold parC parN parE; refine ⟨?_, ?_, ?_⟩ <;> rw [if_neg h, hp]
  · exact if_neg (fun e => e hc)
  · exact if_neg (fun e => e hc)
  exact hc
def CseI (c : Cse) (n : Nat) : Prop := c.1.length + (c.2.1.length + c.2.2.length) = n ∧ (∀ x ∈ c.2.1, x.2.length < 100000) ∧ ∀ x ∈ c.2.2, x.2.2.length < 100000
theorem parV_few : ∀ (l : List ByteArray), (parV l).length ≤ l.length
  | [] => Nat.le_refl _
  | [_] => Nat.zero_le _
  | a :: b :: r => by
    have := parV_few r; show (parV r).length + 1 ≤ r.length + 1 + 1; omega
theorem stp_I {c c' : Cse} {W : List ByteArray} {n : Nat} (h : stpW c W = some c') (hW : W.length < 100000) (hc : CseI c n) : CseI c' (n + 1) := by
  obtain ⟨h1, h2, h3⟩ := hc; unfold stpW at h; split at h
  · cases h
  split at h
  · split at h
    · injection h with h; subst h; refine ⟨?_, h2, h3⟩; show (c.1 ++ [_]).length + (c.2.1.length + c.2.2.length) = n + 1; rw [List.length_append, List.length_singleton]; omega
    cases h
  split at h
  · split at h
    · injection h with h; subst h; refine ⟨?_, fun x hx => ?_, h3⟩
      · show c.1.length + ((c.2.1 ++ [_]).length + c.2.2.length) = n + 1; rw [List.length_append, List.length_singleton]; omega
      rcases List.mem_append.1 hx with hx | hx
      · exact h2 x hx
      rw [List.mem_singleton.1 hx]; have := parV_few (W.drop 2); rw [List.length_drop] at this; show (parV (W.drop 2)).length < 100000; omega
    cases h
  split at h
  · injection h with h; subst h; refine ⟨?_, h2, fun x hx => ?_⟩
    · show c.1.length + (c.2.1.length + (c.2.2 ++ [_]).length) = n + 1; rw [List.length_append, List.length_singleton]; omega
    rcases List.mem_append.1 hx with hx | hx
    · exact h3 x hx
    rw [List.mem_singleton.1 hx]; show (W.drop 3).length < 100000; rw [List.length_drop]; omega
  cases h
theorem cseI_ok {c : Cse} {n : Nat} (hc : CseI c n) (hn : n < 100000) : CseOk c := by
  obtain ⟨h1, h2, h3⟩ := hc; exact ⟨by omega, by omega, by omega, h2, h3⟩
theorem cseI_nil : CseI nC 0 := ⟨rfl, fun x hx => (by cases hx), fun x hx => (by cases hx)⟩
theorem perm_res {a b c d : Value × Cell} {l : Sto} : (l ++ [d, c, b, a]).Perm ([a, b, c] ++ (d :: l)) :=
  (List.perm_append_comm).trans ((List.reverse_perm [a, b, c, d]).append_right l)
theorem me6 {a b c d e f g : Value × Cell} {r : Sto} : g ∈ a :: b :: c :: d :: e :: f :: g :: r := List.mem_append_right [a, b, c, d, e, f] List.mem_cons_self
theorem me7 {a b c d e f g h : Value × Cell} {r : Sto} : h ∈ a :: b :: c :: d :: e :: f :: g :: h :: r := List.mem_append_right [a, b, c, d, e, f, g] List.mem_cons_self
theorem me8 {a b c d e f g h i : Value × Cell} {r : Sto} : i ∈ a :: b :: c :: d :: e :: f :: g :: h :: i :: r := List.mem_append_right [a, b, c, d, e, f, g, h] List.mem_cons_self
abbrev resS (w2 w3 w4 : Value) (c : List PV) (n e : Int) : Sto := [(w2, .var c), (w3, .var [I n]), (w4, .var [I e])]
abbrev nilCs : List PV := cellsPV y36 nC
theorem sParse_ok {s : ByteArray} : VF Tryz.prog OA 9 [St s] (.tup [.v y36 (parC s), I (parN s), I (parE s)]) := by
  refine VF.enter Tryz.func9 rfl (fun _ _ => rfl) rfl ?_; show VC _ _ _ _ _ [(0, St s)] [] _; refine VC.seq (VC.text ?_); refine VO.cell (.alloc zt36) ?_; intro w2; refine VO.cell (.alloc zt3) ?_; intro w3; refine VO.cell (.alloc zt29) ?_; intro w4; refine VO.go (VC.seq (VC.seq (VC.text ?_))); refine VO.c (.move rfl) ?_; refine VO.r (.lenS) ?_; refine VO.c (.gtr) (VO.go ?_); refine VC.condD rfl (fun c1 => ?_) (fun c1 => ?_)
  · obtain ⟨e1, e2, e3⟩ := par_big (s := s) (by omega); refine VC.seq ?_; refine VC.perm swap2 ?_; refine VC.text ?_; refine VO.c (.build nC bt36) ?_; refine VO.setV (cs' := nilCs) vt36 .v ?_; refine VO.perm swap2 ?_; refine VO.setV (cs' := [I (0 : Int)]) vt3 .v ?_; refine VO.perm swap2 ?_; refine VO.setV (cs' := [I (27 : Int)]) vt29 .v ?_; refine VO.go ?_; refine VC.ret ?_; exact VEnd.three rfl (.cell (x := nC) rfl m2 vt36 .refl) (.cell (x := (0 : Int)) rfl m1 vt3 .refl) (.cell (x := (27 : Int)) rfl m0 vt29 .refl) (pvE e1.symm) (pvI e2.symm) (pvI e3.symm)
  have hs : s.size ≤ 4096 := by omega
  refine VC.skip (VC.seq (VC.text ?_)); refine VO.cell (.allocR zt36) ?_; intro wc; refine VO.go (VC.seq (VC.text ?_)); refine VO.cell (.alloc zt3) ?_; intro wn; refine VO.setV (cs' := [I (0 : Int)]) vt3 .v ?_; refine VO.go ?_; refine VC.cell0 102 y102 ?_; refine VC.cell0 101 y101 ?_; refine VC.cell0 98 y98 ?_; refine VC.perm swap_c3 ?_; show VC _ _ _ _ _ _ (cseS wc (.slice none 0 0) (.slice none 0 0) (.slice none 0 0) nC ++ [(wn, .var [I (0 : Int)]), (w4, .var [I (0 : Int)]), (w3, .var [I (0 : Int)]), (w2, .var nilCs)]) _; refine VC.seq (VC.seq (VC.text ?_)); refine VO.c (.move rfl) ?_; refine VO.callG [] rfl rfl rfl (VFG.call zLines_ok) ?_; rintro _ _ ⟨w, rfl, rfl⟩; refine VO.go (VC.block ?_); refine VC.keep [(0, St s), (2, .raw w2), (3, .raw w3), (4, .raw w4), (5, .raw wc), (6, .raw wn), (16, .clo 93 [] [.raw w])] ⟨rfl, rfl, rfl, rfl, rfl, rfl, rfl, trivial⟩ ?_
  refine VC.rangeFuncW rfl (zLines1_ok (n := s.size + 1) (by omega) (by omega)) (fun _ => rfl) rfl rfl
    (fun rest ss => ∃ (c : Cse) (r : ByteArray) (m i : Nat) (b0 b1 b2 : Value), rest = linF m r ∧ r.size < m ∧ i + r.size ≤ s.size ∧ CseI c i ∧ parG s = prsG stpC (splS 10 r) c i ∧ ss = cseS wc b0 b1 b2 c ++ [(wn, .var [I ((i : Nat) : Int)]), (w4, .var [I (0 : Int)]), (w3, .var [I (0 : Int)]), (w2, .var nilCs)])
    (fun ee ss => ee = .ret ∧ ∃ (i : Nat) (l : Sto), parG s = (none, i) ∧ ss = resS w2 w3 w4 nilCs ((i : Nat) : Int) 26 ++ l)
    ⟨nC, s, s.size + 1, 0, _, _, _, rfl, by omega, by omega, cseI_nil, rfl, rfl⟩ ?_ ?_ ?_
  · rintro jj y rest _ ⟨c, r, m, i, b0, b1, b2, hr, hm, hi, hc, hp, rfl⟩; obtain ⟨m, rfl⟩ : ∃ q, m = q + 1 := ⟨m - 1, by omega⟩
    have hr0 : r.size ≠ 0 := fun e => by rw [linF_nil e] at hr; cases hr
    rw [linF_s hr0] at hr; injection hr with hr1 hr2; subst hr1 hr2; have hlt := cutR_less hr0; have hls := lnA_size (r := r); have hca := cutA_size (s := r) (c := 10); have hre : r ≠ ByteArray.empty := fun e => hr0 (by rw [e]; rfl); show VC _ _ _ _ _ [(17, St (lnA r)), (0, St s), (2, .raw w2), (3, .raw w3), (4, .raw w4), (5, .raw wc), (6, .raw wn), (16, .clo 93 [] [.raw w])] _ _; refine VC.text ?_; refine VO.c (.assign rfl) ?_; refine VO.nil ?_; refine ⟨rfl, ?_⟩; refine VC.block (VC.seq (VC.text ?_)); refine VO.c (.move rfl) ?_; refine VO.call rfl rfl (VF.call (show VF Tryz.prog OA 49 [St (lnA r), St nlS] (.tup [St (sufA (lnA r) nlS), B (sufB (lnA r) nlS)]) from zCutS_ok (by omega))) ?_; refine VO.c (.move rfl) (VO.c (.extract) (VO.c (.extract) (VO.c (.assign rfl) ?_))); refine VO.c (.assign rfl) (VO.go ?_); by_cases hx : 0 ≤ Go.Lib.indexByte (toL r) 10
    · obtain ⟨hx1, hx2⟩ := lnA_suf hx; rw [hx1, hx2]; refine VC.seq (VC.seq (VC.text ?_)); refine VO.c (.move rfl) (VO.c (.not) (VO.c (.move rfl) (VO.c (.move rfl) ?_))); have hfw := splS_few (c := 32) (s := cutA 10 r); have hzw := splS_size (c := 32) (s := cutA 10 r); have hlen : 0 < (splS 32 (cutA 10 r)).length := List.length_pos_iff.2 splS_ne; obtain ⟨hc1, hc2, hc3⟩ := id hc; refine VO.call rfl rfl (VF.call (show VF Tryz.prog OA 51 [St (cutA 10 r), St spS] (.v (.sl .str) (splS 32 (cutA 10 r))) from zSplit_ok rfl (by omega))) ?_; refine VO.callG (cseS wc b0 b1 b2 c) rfl rfl rfl (VFG.call (sRead_ok hlen (by omega) (fun x hx => by have := hzw x hx; omega) (by omega) (by omega) (by omega))) ?_; rintro _ _ ⟨d0, d1, d2, c', rfl, rfl, hst⟩; refine VO.c (.not) (VO.c (.pickF rfl rfl) (VO.go ?_))
      cases hq : stpW c (splS 32 (cutA 10 r)) with
      | none =>
        have hpn : parG s = (none, i) := hp.trans (prsG_bad hx hq); refine VC.condT rfl ?_; refine VC.seq ?_; refine VC.perm perm_res ?_; refine VC.late ((wn, .var [I ((i : Nat) : Int)]) :: cseS wc d0 d1 d2 c') ⟨resS w2 w3 w4 nilCs 0 0, rfl⟩ ?_; refine VLt.c (.build nC bt36) ?_; refine VLt.qo rfl m0 (.inl rfl) (.ldV m0 vt3) ?_; refine VLt.mk0 (MakeV.setF (k := 0) vt36 .v (Nat.le_of_ble_eq_true rfl) (.inr ⟨rfl, rfl⟩) rfl rfl) (TurnV.store rfl (.inl rfl)) ⟨[_, _], rfl⟩ ?_; rintro _ _ ⟨rfl, rfl⟩; refine ⟨⟨[_, _, _], rfl⟩, ?_⟩; refine VLt.perm swap1 ⟨[_, _, _], rfl⟩ ?_; refine VLt.mk0 (MakeV.setF (k := 0) vt3 .v (Nat.le_of_ble_eq_true rfl) (.inr ⟨rfl, rfl⟩) rfl rfl) (TurnV.store rfl (.inl rfl)) ⟨[_, _], rfl⟩ ?_; rintro _ _ ⟨rfl, rfl⟩; refine ⟨⟨[_, _, _], rfl⟩, ?_⟩; refine VLt.perm swap2 ⟨[_, _, _], rfl⟩ ?_; refine VLt.mk0 (MakeV.setF (k := 0) vt29 .v (Nat.le_of_ble_eq_true rfl) (.inr ⟨rfl, rfl⟩) rfl rfl) (TurnV.store rfl (.inl rfl)) ⟨[_, _], rfl⟩ ?_; rintro _ _ ⟨rfl, rfl⟩; refine ⟨⟨[_, _, _], rfl⟩, ?_⟩; refine VLt.perm (show List.Perm _ (resS w2 w3 w4 nilCs ((i : Nat) : Int) 26 ++ ((wn, .var [I ((i : Nat) : Int)]) :: cseS wc d0 d1 d2 c')) from (List.reverse_perm [_, _, _]).append_right _) ⟨[_, _, _], rfl⟩ ?_; refine VLt.go ?_; refine VC.ret ?_
        exact .inr ⟨(by intro h; cases h), rfl, i, _, hpn, rfl⟩
      | some c2 =>
        obtain rfl := hst c2 hq; refine VC.condF rfl ?_; refine VC.skip ?_; refine VC.perm (List.perm_append_comm) ?_; refine VC.text ?_; refine VO.r (.ldV m0 vt3) ?_; refine VO.c (.add rfl rfl (by omega)) ?_; refine VO.setV (cs' := [I (((i + 1 : Nat) : Nat) : Int)]) vt3 .v ?_; refine VO.perm (List.perm_append_comm (l₁ := ([(wn, .var [I (((i + 1 : Nat) : Nat) : Int)]), (w4, .var [I (0 : Int)]), (w3, .var [I (0 : Int)]), (w2, .var nilCs)] : Sto))) ?_; refine VO.nil ?_; refine .inl ⟨rfl, c', cutR 10 r, m, i + 1, d0, d1, d2, rfl, by omega, by omega, stp_I hq (by omega) hc, hp.trans (prsG_good hx hq), rfl⟩
    have hx1 := lnA_no hx; rw [hx1]; have hpn : parG s = (none, i) := hp.trans (prsG_torn hre hx); refine VC.seq (VC.seq (VC.text ?_)); refine VO.c (.move rfl) (VO.c (.not) (VO.c (.move rfl) (VO.skip ?_))); refine VO.skip (VO.skip (VO.skip (VO.c (.pickT rfl rfl) ?_))); refine VO.go ?_; refine VC.condT rfl ?_; refine VC.seq ?_; refine VC.perm perm_res ?_; refine VC.late ((wn, .var [I ((i : Nat) : Int)]) :: cseS wc b0 b1 b2 c) ⟨resS w2 w3 w4 nilCs 0 0, rfl⟩ ?_; refine VLt.c (.build nC bt36) ?_; refine VLt.qo rfl m0 (.inl rfl) (.ldV m0 vt3) ?_; refine VLt.mk0 (MakeV.setF (k := 0) vt36 .v (Nat.le_of_ble_eq_true rfl) (.inr ⟨rfl, rfl⟩) rfl rfl) (TurnV.store rfl (.inl rfl)) ⟨[_, _], rfl⟩ ?_; rintro _ _ ⟨rfl, rfl⟩; refine ⟨⟨[_, _, _], rfl⟩, ?_⟩; refine VLt.perm swap1 ⟨[_, _, _], rfl⟩ ?_; refine VLt.mk0 (MakeV.setF (k := 0) vt3 .v (Nat.le_of_ble_eq_true rfl) (.inr ⟨rfl, rfl⟩) rfl rfl) (TurnV.store rfl (.inl rfl)) ⟨[_, _], rfl⟩ ?_; rintro _ _ ⟨rfl, rfl⟩; refine ⟨⟨[_, _, _], rfl⟩, ?_⟩; refine VLt.perm swap2 ⟨[_, _, _], rfl⟩ ?_; refine VLt.mk0 (MakeV.setF (k := 0) vt29 .v (Nat.le_of_ble_eq_true rfl) (.inr ⟨rfl, rfl⟩) rfl rfl) (TurnV.store rfl (.inl rfl)) ⟨[_, _], rfl⟩ ?_; rintro _ _ ⟨rfl, rfl⟩; refine ⟨⟨[_, _, _], rfl⟩, ?_⟩; refine VLt.perm (show List.Perm _ (resS w2 w3 w4 nilCs ((i : Nat) : Int) 26 ++ ((wn, .var [I ((i : Nat) : Int)]) :: cseS wc b0 b1 b2 c)) from (List.reverse_perm [_, _, _]).append_right _) ⟨[_, _, _], rfl⟩ ?_; refine VLt.go ?_; refine VC.ret ?_; exact .inr ⟨(by intro h; cases h), rfl, i, _, hpn, rfl⟩
  · rintro C1 _ ⟨c, r, m, i, b0, b1, b2, hr, hm, hi, hc, hp, rfl⟩
    have hr0 : r = ByteArray.empty := by
      by_cases h0 : r.size = 0
      · exact toL_inj (List.eq_nil_of_length_eq_zero (by rw [toL_len]; exact h0))
      obtain ⟨m, rfl⟩ : ∃ q, m = q + 1 := ⟨m - 1, by omega⟩; rw [linF_s h0] at hr; cases hr
    have hps : parG s = (some c, i) := by rw [hp, hr0, prsG_end]
    have hok := cseI_ok hc (by omega)
    have hs4 : ¬ 4096 < s.size := by omega
    show VC _ _ _ _ _ _ ((w, C1) :: (cseS wc b0 b1 b2 c ++ [(wn, .var [I ((i : Nat) : Int)]), (w4, .var [I (0 : Int)]), (w3, .var [I (0 : Int)]), (w2, .var nilCs)])) _; refine VC.perm (show List.Perm _ ([(w2, .var nilCs), (w3, .var [I (0 : Int)]), (w4, .var [I (0 : Int)])] ++ ((wn, .var [I ((i : Nat) : Int)]) :: (w, C1) :: cseS wc b0 b1 b2 c)) from perm_res (l := (w, C1) :: cseS wc b0 b1 b2 c)) ?_; refine VC.seq (VC.seq (VC.text ?_)); refine VO.r (.ldAll me5 vt36) ?_; refine VO.callC rfl rfl .same (.cons (agg_co (a := .sl y98) (b := .pair (.sl y101) (.sl y102)) (x := c) (.cons (.row me6) (.cons (.row me7) (.cons (.row me8) .nil)))) .nil) rfl (VF.call (sCase_ok hok)) ?_; refine VO.c (.assign rfl) ?_; refine VO.go (VC.seq (VC.text ?_)); refine VO.c (.move rfl) (VO.c (.neq) (VO.go ?_)); refine VC.condD rfl (fun c2 => ?_) (fun c2 => ?_)
    · obtain ⟨e1, e2, e3⟩ := par_wrong hs4 hps c2; refine VC.seq ?_; refine VC.late ((wn, .var [I ((i : Nat) : Int)]) :: (w, C1) :: cseS wc b0 b1 b2 c) ⟨resS w2 w3 w4 nilCs 0 0, rfl⟩ ?_; refine VLt.c (.build nC bt36) ?_; refine VLt.qo rfl m0 (.inl rfl) (.ldV m0 vt3) ?_; refine VLt.c (.move rfl) ?_; refine VLt.mk0 (MakeV.setF (k := 0) vt36 .v (Nat.le_of_ble_eq_true rfl) (.inr ⟨rfl, rfl⟩) rfl rfl) (TurnV.store rfl (.inl rfl)) ⟨[_, _], rfl⟩ ?_; rintro _ _ ⟨rfl, rfl⟩; refine ⟨⟨[_, _, _], rfl⟩, ?_⟩; refine VLt.perm swap1 ⟨[_, _, _], rfl⟩ ?_; refine VLt.mk0 (MakeV.setF (k := 0) vt3 .v (Nat.le_of_ble_eq_true rfl) (.inr ⟨rfl, rfl⟩) rfl rfl) (TurnV.store rfl (.inl rfl)) ⟨[_, _], rfl⟩ ?_; rintro _ _ ⟨rfl, rfl⟩; refine ⟨⟨[_, _, _], rfl⟩, ?_⟩; refine VLt.perm swap2 ⟨[_, _, _], rfl⟩ ?_; refine VLt.mk0 (MakeV.setF (k := 0) vt29 .v (Nat.le_of_ble_eq_true rfl) (.inr ⟨rfl, rfl⟩) rfl rfl) (TurnV.store rfl (.inl rfl)) ⟨[_, _], rfl⟩ ?_; rintro _ _ ⟨rfl, rfl⟩; refine ⟨⟨[_, _, _], rfl⟩, ?_⟩; refine VLt.go ?_; refine VC.ret ?_; exact VEnd.three rfl (.cell (x := nC) rfl m2 vt36 .refl) (.cell (x := ((i : Nat) : Int)) rfl m1 vt3 .refl) (.cell (x := caseE c) rfl m0 vt29 .refl) (pvE e1.symm) (pvI e2.symm) (pvI e3.symm)
    obtain ⟨e1, e2, e3⟩ := par_good hs4 hps (Classical.not_not.1 c2); refine VC.skip (VC.seq (VC.text ?_)); refine VO.r (.ldAll me5 vt36) ?_; refine VO.one me6 fun ho0 => ?_; refine VO.one me7 fun ho1 => ?_; refine VO.one me8 fun ho2 => ?_; refine VO.setV (cs' := [.raw b0, .raw b1, .raw b2]) vt36 (.aggs (cs := [.raw b0, .raw b1, .raw b2]) rfl (by simp [PV.one, ho0, ho1, ho2])) ?_; refine VO.perm swap1 ?_; refine VO.setV (cs' := [I (0 : Int)]) vt3 .v ?_; refine VO.perm swap2 ?_; refine VO.setV (cs' := [I (0 : Int)]) vt29 .v ?_; refine VO.go ?_; refine VC.ret ?_; exact VEnd.three rfl (.cell (x := c) rfl m2 vt36 (.cons (.row me6) (.cons (.row me7) (.cons (.row me8) .nil)))) (.cell (x := (0 : Int)) rfl m1 vt3 .refl) (.cell (x := (0 : Int)) rfl m0 vt29 .refl) (pvE e1.symm) (pvI e2.symm) (pvI e3.symm)
  rintro C1 ee _ hne ⟨rfl, i, l, hpn, rfl⟩; obtain ⟨e1, e2, e3⟩ := par_none (show ¬ 4096 < s.size by omega) hpn; exact VEnd.three rfl (.cell (x := nC) rfl m1 vt36 .refl) (.cell (x := ((i : Nat) : Int)) rfl m2 vt3 .refl) (.cell (x := (26 : Int)) rfl m3 vt29 .refl) (pvE e1.symm) (pvI e2.symm) (pvI e3.symm)
end Go.Proofs
namespace Go.Proofs
open Go.Fs
set_option maxHeartbeats 4000000
theorem stp_emp {c : Cse} {W : List ByteArray} (h : empB W = true) : stpW c W = none := if_pos h
theorem wd_ne : (vWd ≠ eWd ∧ vWd ≠ cWd) ∧ eWd ≠ cWd ∧ allW ≠ anyW := by decide
theorem stp_v {c : Cse} {W : List ByteArray} {q : Bool} (he : empB W = false) (hw : wrdA W 0 = vWd) (h3 : W.length = 3) (h1 : c.2.1.length = 0) (h2 : c.2.2.length = 0) (hq : numK (wrdA W 2) = q) : stpW c W = if q = true then some (c.1 ++ [(wrdA W 1, numV (wrdA W 2))], c.2.1, c.2.2) else none := by
  subst hq; unfold stpW; rw [if_neg (by rw [he]; decide), if_pos ⟨hw, h3, h1, h2⟩]
theorem stp_e {c : Cse} {W : List ByteArray} {q : Bool} (he : empB W = false) (hw : wrdA W 0 = eWd) (h1 : 2 ≤ W.length) (h2 : W.length % 2 = 0) (h3 : c.2.2.length = 0) (hq : parK (W.drop 2) = q) : stpW c W = if q = true then some (c.1, c.2.1 ++ [(wrdA W 1, parV (W.drop 2))], c.2.2) else none := by
  subst hq; unfold stpW; rw [if_neg (by rw [he]; decide), if_neg (fun hh => wd_ne.1.1 (hh.1.symm.trans hw)), if_pos ⟨hw, h1, h2, h3⟩]
theorem stp_c {c : Cse} {W : List ByteArray} (he : empB W = false) (hw : wrdA W 0 = cWd) (h1 : 3 ≤ W.length) (h2 : wrdA W 2 = allW ∨ wrdA W 2 = anyW) : stpW c W = some (c.1, c.2.1, c.2.2 ++ [(wrdA W 1, decide (wrdA W 2 = anyW), W.drop 3)]) := by
  unfold stpW; rw [if_neg (by rw [he]; decide), if_neg (fun hh => wd_ne.1.2 (hh.1.symm.trans hw)), if_neg (fun hh => wd_ne.2.1 (hh.1.symm.trans hw)), if_pos ⟨hw, h1, h2⟩]
end Go.Proofs
namespace Go.Proofs
open Go.Fs
set_option maxHeartbeats 4000000
end Go.Proofs
namespace Go.Proofs
open Go.Fs
set_option maxHeartbeats 2000000
end Go.Proofs
namespace Go.Proofs
open Go.Fs
set_option maxHeartbeats 4000000
theorem caseV_ok {c : Cse} (h : CseV c) : CseOk c := by
  have h1 := h.n1; have h2 := h.n2; have h3 := h.n3; exact ⟨by omega, by omega, by omega, fun x hx => by have := (h.e x hx).2.1; omega, fun x hx => by have := (h.l x hx).2.1; omega⟩
theorem nil_ok : CseOk nC := ⟨by decide, by decide, by decide, fun x hx => (by cases hx), fun x hx => (by cases hx)⟩
theorem parC_cases (s : ByteArray) : parC s = nC ∨ caseE (parC s) = 0 := by
  unfold parC; split
  · exact .inl rfl
  split
  · exact .inl rfl
  split
  · exact .inl rfl
  rename_i h; exact .inr (Classical.not_not.1 h)
theorem parC_ok {s : ByteArray} : CseOk (parC s) := by
  rcases parC_cases s with h | h
  · rw [h]; exact nil_ok
  exact caseV_ok (case_V h)
end Go.Proofs
namespace Go.Proofs
open Go.Fs
set_option maxHeartbeats 2000000
theorem joinF {ws : List ByteArray} (h : ∀ w ∈ ws, FinW w) : ∀ c ∈ toL (joinS 32 ws), c ≠ 10 := joinS_free fun w hw => (h w hw).fre
theorem emp_fin {ws : List ByteArray} (h : ∀ w ∈ ws, FinW w) : empB ws = false := by
  unfold empB
  exact List.any_eq_false.2 fun x hx => by simpa using (h x hx).ne
theorem spl_fin {ws : List ByteArray} (h0 : ws ≠ []) (h : ∀ w ∈ ws, FinW w) : splS 32 (joinS 32 ws) = ws := splS_join h0 fun w hw x hx => ((h w hw).fre x hx).1
theorem parL_back {l : List Vers} (h : ∀ v ∈ l, FinW v.1 ∧ 0 ≤ v.2 ∧ v.2 ≤ 999) : parK (parL l) = true ∧ parV (parL l) = l := by
  induction l with
  | nil => exact ⟨rfl, rfl⟩
  | cons v r ih =>
    obtain ⟨i1, i2⟩ := ih fun x hx => h x (List.mem_cons_of_mem _ hx); obtain ⟨h1, h2, h3⟩ := h v List.mem_cons_self; obtain ⟨n1, n2⟩ := numL_dec (n := v.2) ⟨h2, by omega⟩; refine ⟨?_, ?_⟩
    · show (decide (v.1 ≠ ByteArray.empty) && (numK (decS v.2) && parK (parL r))) = true; rw [decide_eq_true h1.ne, n1, i1] <;> rfl
    show (v.1, numV (decS v.2)) :: parV (parL r) = v :: r; rw [n2, i2]
theorem stp_back_v {c : Cse} {v : Vers} (h : FinW v.1 ∧ 0 ≤ v.2 ∧ v.2 ≤ 999) (h1 : c.2.1.length = 0) (h2 : c.2.2.length = 0) : stpC c (joinS 32 (vLin v)) = some (c.1 ++ [v], c.2.1, c.2.2) := by
  unfold stpC; rw [spl_fin (by simp [vLin]) (vLin_fin h)]; obtain ⟨n1, n2⟩ := numL_dec (n := v.2) ⟨h.2.1, by omega⟩; rw [stp_v (q := true) (emp_fin (vLin_fin h)) rfl rfl h1 h2 n1, if_pos rfl]; show some (c.1 ++ [(v.1, numV (decS v.2))], c.2.1, c.2.2) = _; rw [n2]
theorem stp_back_e {c : Cse} {x : Evid} (h : FinW x.1 ∧ x.2.length ≤ 16 ∧ ∀ v ∈ x.2, FinW v.1 ∧ 0 ≤ v.2 ∧ v.2 ≤ 999) (h2 : c.2.2.length = 0) : stpC c (joinS 32 (eLin x)) = some (c.1, c.2.1 ++ [x], c.2.2) := by
  unfold stpC; rw [spl_fin (by simp [eLin]) (eLin_fin h)]; obtain ⟨p1, p2⟩ := parL_back h.2.2; have hl := eLin_len (x := x); rw [stp_e (q := true) (emp_fin (eLin_fin h)) rfl (by omega) (by omega) h2 p1, if_pos rfl]; show some (c.1, c.2.1 ++ [(x.1, parV (parL x.2))], c.2.2) = _; rw [p2]
theorem stp_back_c {c : Cse} {x : Clm} (h : FinW x.1 ∧ x.2.2.length ≤ 16 ∧ ∀ u ∈ x.2.2, FinW u) : stpC c (joinS 32 (cLin x)) = some (c.1, c.2.1, c.2.2 ++ [x]) := by
  unfold stpC; rw [spl_fin (by simp [cLin]) (cLin_fin h)]
  have hk : kWd x.2.1 = allW ∨ kWd x.2.1 = anyW := by unfold kWd; split; exact .inr rfl; exact .inl rfl
  rw [stp_c (emp_fin (cLin_fin h)) rfl (by simp [cLin]) hk]
  have hb : decide (kWd x.2.1 = anyW) = x.2.1 := by
    obtain ⟨a, b, r⟩ := x; cases b
    · exact decide_eq_false (show ¬ allW = anyW from wd_ne.2.2)
    exact decide_eq_true rfl
  show some (c.1, c.2.1, c.2.2 ++ [(x.1, decide (kWd x.2.1 = anyW), x.2.2)]) = _; rw [hb]
theorem runT_cons {β : Type} {f : β → ByteArray → Option β} {b b' : β} {x : ByteArray} {r : List ByteArray} (h : f b x = some b') : runT f b (x :: r) = runT f b' r := by
  show (match f b x with | some b' => _ | none => _) = _; rw [h]
theorem run_v {r : List ByteArray} : ∀ {l : List Vers} {c : Cse}, (∀ v ∈ l, FinW v.1 ∧ 0 ≤ v.2 ∧ v.2 ≤ 999) → c.2.1.length = 0 → c.2.2.length = 0 → runT stpC c (l.map (fun v => joinS 32 (vLin v)) ++ r) = runT stpC (c.1 ++ l, c.2.1, c.2.2) r
  | [], c, _, _, _ => by rw [List.append_nil] <;> rfl
  | v :: l, c, h, h1, h2 => by
    rw [List.map_cons, List.cons_append, runT_cons (stp_back_v (h v List.mem_cons_self) h1 h2), run_v (c := (c.1 ++ [v], c.2.1, c.2.2)) (fun x hx => h x (List.mem_cons_of_mem _ hx)) h1 h2]; show runT stpC ((c.1 ++ [v]) ++ l, c.2.1, c.2.2) r = _; rw [List.append_assoc] <;> rfl
theorem run_e {r : List ByteArray} : ∀ {l : List Evid} {c : Cse}, (∀ x ∈ l, FinW x.1 ∧ x.2.length ≤ 16 ∧ ∀ v ∈ x.2, FinW v.1 ∧ 0 ≤ v.2 ∧ v.2 ≤ 999) → c.2.2.length = 0 → runT stpC c (l.map (fun v => joinS 32 (eLin v)) ++ r) = runT stpC (c.1, c.2.1 ++ l, c.2.2) r
  | [], c, _, _ => by rw [List.append_nil] <;> rfl
  | v :: l, c, h, h2 => by
    rw [List.map_cons, List.cons_append, runT_cons (stp_back_e (h v List.mem_cons_self) h2), run_e (c := (c.1, c.2.1 ++ [v], c.2.2)) (fun x hx => h x (List.mem_cons_of_mem _ hx)) h2]; show runT stpC (c.1, (c.2.1 ++ [v]) ++ l, c.2.2) r = _; rw [List.append_assoc] <;> rfl
theorem run_c : ∀ {l : List Clm} {c : Cse}, (∀ x ∈ l, FinW x.1 ∧ x.2.2.length ≤ 16 ∧ ∀ u ∈ x.2.2, FinW u) → runT stpC c (l.map (fun v => joinS 32 (cLin v))) = some (c.1, c.2.1, c.2.2 ++ l)
  | [], c, _ => by rw [List.append_nil] <;> rfl
  | v :: l, c, h => by
    rw [List.map_cons, runT_cons (stp_back_c (h v List.mem_cons_self)), run_c (c := (c.1, c.2.1, c.2.2 ++ [v])) (fun x hx => h x (List.mem_cons_of_mem _ hx))]; show some (c.1, c.2.1, (c.2.2 ++ [v]) ++ l) = _; rw [List.append_assoc] <;> rfl
theorem run_back {c : Cse} (h : CseV c) : runT stpC nC (linsC c) = some c := by
  unfold linsC; rw [run_v h.v rfl rfl]; show runT stpC ([] ++ c.1, [], []) _ = _; rw [List.nil_append, run_e h.e rfl]; show runT stpC (c.1, [] ++ c.2.1, []) _ = _; rw [List.nil_append, run_c h.l]; show some (c.1, c.2.1, [] ++ c.2.2) = _; rw [List.nil_append]
theorem lins_free {c : Cse} (h : CseV c) : ∀ x ∈ linsC c, ∀ b ∈ toL x, b ≠ 10 := fun x hx => by
  unfold linsC at hx; rcases List.mem_append.1 hx with hx | hx
  · obtain ⟨v, hv, rfl⟩ := List.mem_map.1 hx; exact joinF (vLin_fin (h.v v hv))
  rcases List.mem_append.1 hx with hx | hx
  · obtain ⟨v, hv, rfl⟩ := List.mem_map.1 hx; exact joinF (eLin_fin (h.e v hv))
  obtain ⟨v, hv, rfl⟩ := List.mem_map.1 hx; exact joinF (cLin_fin (h.l v hv))
theorem par_txt {c : Cse} (h : CseV c) : parG (txtC c) = (some c, (linsC c).length) := by
  unfold parG txtC; rw [splS_txt0 (lins_free h), prsG_run (run_back h), prsG_last rfl, Nat.zero_add]
theorem back_R {c : Cse} (h : caseE c = 0) (hs : ¬ 4096 < (txtC c).size) : parC (txtC c) = c ∧ parN (txtC c) = 0 ∧ parE (txtC c) = 0 := par_good hs (par_txt (case_V h)) h
theorem back_lines {c : Cse} (h : caseE c = 0) : (splS 10 (txtC c)).length = c.1.length + (c.2.1.length + c.2.2.length) + 1 := by
  unfold txtC; rw [splS_txt0 (lins_free (case_V h)), List.length_append, lins_len] <;> rfl
end Go.Proofs
namespace Go.Proofs
open Go.Fs
set_option maxHeartbeats 4000000
theorem parL_parV : ∀ (n : Nat) (l : List ByteArray), l.length ≤ n → parK l = true → parL (parV l) = l
  | _, [], _, _ => rfl
  | _, [_], _, h => by cases h
  | 0, a :: b :: r, hn, _ => by simp at hn
  | n + 1, a :: b :: r, hn, h => by
    have h : (decide (a ≠ ByteArray.empty) && (numK b && parK r)) = true := h; simp only [Bool.and_eq_true] at h; show a :: decS (numV b) :: parL (parV r) = a :: b :: r; simp only [List.length_cons] at hn; rw [(dec_num h.2.1).1, parL_parV n r (by omega) h.2.2]
theorem drop_w {W : List ByteArray} {i : Nat} (h : i < W.length) : W.drop i = wrdA W i :: W.drop (i + 1) := by
  rw [List.drop_eq_getElem_cons h, wrd_at h]
theorem stp_lin {c c' : Cse} {l : ByteArray} (h : stpC c l = some c') : linsC c' = linsC c ++ [l] := by
  have hj := join_spl (c := 32) (s := l); have h0 : 0 < (splS 32 l).length := List.length_pos_iff.2 splS_ne; unfold stpC at h; generalize splS 32 l = W at *
  have hd0 : W = wrdA W 0 :: W.drop 1 := by have := drop_w h0; rwa [List.drop_zero] at this
  unfold stpW at h; split at h
  · cases h
  split at h
  · rename_i hv; obtain ⟨w0, w3, e1, e2⟩ := hv; split at h
    · rename_i hk; injection h with h; subst h; have e1 := List.eq_nil_of_length_eq_zero e1; have e2 := List.eq_nil_of_length_eq_zero e2
      have hW : vLin (wrdA W 1, numV (wrdA W 2)) = W := by
        show [vWd, wrdA W 1, decS (numV (wrdA W 2))] = W; rw [(dec_num hk).1]
        conv => rhs; rw [hd0, drop_w (show 1 < W.length by omega), drop_w (show 2 < W.length by omega), List.drop_eq_nil_of_le (show W.length ≤ 2 + 1 by omega), w0]
      unfold linsC; show (c.1 ++ [_]).map _ ++ (c.2.1.map _ ++ c.2.2.map _) = _; rw [e1, e2, List.map_append]; show (_ ++ [joinS 32 (vLin (wrdA W 1, numV (wrdA W 2)))]) ++ [] = (_ ++ []) ++ [l]; rw [hW, hj, List.append_nil, List.append_nil]
    cases h
  split at h
  · rename_i hv; obtain ⟨w0, w2, wm, e2⟩ := hv; split at h
    · rename_i hk; injection h with h; subst h; have e2 := List.eq_nil_of_length_eq_zero e2
      have hW : eLin (wrdA W 1, parV (W.drop 2)) = W := by
        show eWd :: wrdA W 1 :: parL (parV (W.drop 2)) = W; rw [parL_parV _ _ (Nat.le_refl _) hk]
        conv => rhs; rw [hd0, drop_w (show 1 < W.length by omega), w0]
      unfold linsC; show c.1.map _ ++ ((c.2.1 ++ [_]).map _ ++ c.2.2.map _) = _; rw [e2, List.map_append]; show _ ++ ((_ ++ [joinS 32 (eLin (wrdA W 1, parV (W.drop 2)))]) ++ []) = (_ ++ (_ ++ [])) ++ [l]; rw [hW, hj, List.append_nil, List.append_nil, List.append_assoc]
    cases h
  split at h
  · rename_i hv; obtain ⟨w0, w3, wk⟩ := hv; injection h with h; subst h
    have hkw : kWd (decide (wrdA W 2 = anyW)) = wrdA W 2 := by
      rcases wk with wk | wk
      · rw [wk, decide_eq_false (show ¬ allW = anyW from wd_ne.2.2)] <;> rfl
      rw [wk, decide_eq_true rfl] <;> rfl
    have hW : cLin (wrdA W 1, decide (wrdA W 2 = anyW), W.drop 3) = W := by
      show cWd :: wrdA W 1 :: kWd (decide (wrdA W 2 = anyW)) :: W.drop 3 = W; rw [hkw]
      conv => rhs; rw [hd0, drop_w (show 1 < W.length by omega), drop_w (show 2 < W.length by omega), w0]
    unfold linsC; show c.1.map _ ++ (c.2.1.map _ ++ (c.2.2 ++ [_]).map _) = _; rw [List.map_append]; show _ ++ (_ ++ (_ ++ [joinS 32 (cLin (wrdA W 1, decide (wrdA W 2 = anyW), W.drop 3))])) = (_ ++ (_ ++ _)) ++ [l]; rw [hW, hj, List.append_assoc, List.append_assoc]
  cases h
theorem runT_none {β : Type} {f : β → ByteArray → Option β} {b : β} {x : ByteArray} {r : List ByteArray} (h : f b x = none) : runT f b (x :: r) = none := by
  show (match f b x with | some b' => _ | none => _) = _; rw [h]
theorem run_lin : ∀ {ls : List ByteArray} {b b' : Cse}, runT stpC b ls = some b' → linsC b' = linsC b ++ ls
  | [], b, b', h => by injection h with h; subst h; rw [List.append_nil]
  | x :: r, b, b', h => by
    cases hs : stpC b x with
    | none =>
      rw [runT_none hs] at h; cases h
    | some b1 =>
      rw [runT_cons hs] at h; rw [run_lin h, stp_lin hs, List.append_assoc] <;> rfl
theorem run_pre {x : ByteArray} : ∀ {a : List ByteArray} {b c : Cse}, runT stpC b (a ++ [x]) = some c → ∃ b', runT stpC b a = some b' ∧ stpC b' x ≠ none
  | [], b, c, h => by
    refine ⟨b, rfl, fun hn => ?_⟩; have h : runT stpC b [x] = some c := h
    rw [runT_none hn] at h; cases h
  | y :: r, b, c, h => by
    cases hs : stpC b y with
    | none =>
      rw [List.cons_append, runT_none hs] at h; cases h
    | some b1 =>
      rw [List.cons_append, runT_cons hs] at h; obtain ⟨b', h1, h2⟩ := run_pre h; exact ⟨b', by rw [runT_cons hs]; exact h1, h2⟩
theorem stp_empty {b : Cse} : stpC b ByteArray.empty = none := stp_emp (W := splS 32 ByteArray.empty) (by decide)
theorem same_text {s : ByteArray} (h : parE s = 0) : prtE (parC s) = 0 ∧ prtR (parC s) = s := by
  by_cases hb : 4096 < s.size
  · rw [(par_big hb).2.2] at h; cases h
  cases hp : parG s with
  | mk o i =>
    cases o with
    | none => rw [(par_none hb hp).2.2] at h; cases h
    | some c =>
      have hc : caseE c = 0 := by
        by_cases hc : caseE c = 0
        · exact hc
        rw [(par_wrong hb hp hc).2.2] at h; exact absurd h hc
      rw [(par_good hb hp hc).1]; obtain ⟨ls, h1, h2, h3⟩ := prsG_some splS_ne hp; have hl : linsC c = ls := run_lin h2
      have ht : txtC c = s := by
        unfold txtC; rw [hl]; exact txtG_spl h1
      have he : prtE c = 0 := by
        unfold prtE; rw [if_neg (fun e => e hc), ht, if_neg hb]
      exact ⟨he, by unfold prtR; rw [if_pos he, ht]⟩
theorem short_text {c : Cse} (h : caseE c = 0) (hs : ¬ 4096 < (txtC c).size) (hn : 0 < c.1.length + (c.2.1.length + c.2.2.length)) : parE ((txtC c).extract 0 ((txtC c).size - 1)) = 26 ∧ parN ((txtC c).extract 0 ((txtC c).size - 1)) = ((c.1.length + (c.2.1.length + c.2.2.length) : Nat) : Int) - 1 ∧ (txtC c).size ≠ 0 := by
  have hV := case_V h; have hr := run_back hV; have hf := lins_free hV; have hlen := lins_len (c := c); rw [← hlen] at hn ⊢
  have hne : linsC c ≠ [] := fun e => by rw [e] at hn; exact absurd hn (Nat.lt_irrefl 0)
  obtain ⟨a, x, hax⟩ : ∃ a x, linsC c = a ++ [x] := ⟨(linsC c).dropLast, (linsC c).getLast hne, (List.dropLast_concat_getLast hne).symm⟩
  have hsz : (txtC c).size = (txtG a ++ x).size + 1 := by
    unfold txtC; rw [hax, txtG_snoc, ByteArray.size_append, ByteArray.size_append, ByteArray.size_append]; rfl
  have hcut : (txtC c).extract 0 ((txtC c).size - 1) = txtG a ++ x := by
    unfold txtC; rw [hax]; exact txtG_cut
  rw [hcut]; rw [hax] at hr hf; obtain ⟨b', h1, h2⟩ := run_pre hr; have hx : x ≠ ByteArray.empty := fun e => h2 (by rw [e]; exact stp_empty)
  have hp : parG (txtG a ++ x) = (none, a.length) := by
    unfold parG; rw [splS_txtG (hf x (List.mem_append_right _ (List.mem_singleton.2 rfl))) fun y hy => hf y (List.mem_append_left _ hy), prsG_run h1, prsG_tail hx, Nat.zero_add]
  obtain ⟨e1, e2, e3⟩ := par_none (by omega) hp; refine ⟨e3, ?_, by omega⟩; rw [e2, hax, List.length_append]; simp
theorem txt_nil {c : Cse} (hn : c.1.length + (c.2.1.length + c.2.2.length) = 0) : txtC c = ByteArray.empty := by
  have : linsC c = [] := List.eq_nil_of_length_eq_zero (by rw [lins_len]; exact hn); unfold txtC; rw [this] <;> rfl
end Go.Proofs
namespace Go.Proofs
open Go.Fs
set_option maxHeartbeats 4000000
theorem prt_27 {c : Cse} (h : caseE c = 0) (hp : prtE c ≠ 0) : prtE c = 27 := by
  have hE : prtE c = if 4096 < (txtC c).size then 27 else 0 := if_neg (fun e => e h); rw [hE] at hp ⊢; split at hp
  · rename_i hz; rw [if_pos hz]
  exact absurd rfl hp
theorem prt_0 {c : Cse} (h : caseE c = 0) (hp : prtE c = 0) : prtR c = txtC c ∧ ¬ 4096 < (txtC c).size := by
  refine ⟨if_pos hp, fun hz => ?_⟩; unfold prtE at hp; rw [if_neg (fun e => e h), if_pos hz] at hp; cases hp
theorem lawReads_ok {c : (List (ByteArray × Int)) × (List (ByteArray × (List (ByteArray × Int)))) × (List (ByteArray × Bool × (List ByteArray)))} {s : ByteArray} : VF Tryz.prog OA 4 [.v y26 c, St s] (B true) := by
  refine VF.enter Tryz.func4 rfl (fun _ _ => rfl) rfl ?_; show VC _ _ _ _ _ [(0, .v y26 c), (1, St s)] [] _; refine VC.seq (VC.text ?_); refine VO.new (.box) ?_; refine VO.c (.assign rfl) ?_; refine VO.go (VC.seq (VC.seq (VC.text ?_))); refine VO.r (.ld vt26) ?_; refine VO.call rfl rfl (VF.call (rShortC_ok )) ?_; refine VO.c (.not) (VO.c (.move rfl) ?_); refine VO.cg (r := (!(shortC c))) (w := false) [] trivial (fun _ => (.move rfl)) ?_; refine VO.rg (r := (!(shortC c))) (w := false) [(23, St s)] ⟨rfl, trivial⟩ (fun _ => (.lenS)) ?_; refine VO.cg (r := (!(shortC c))) (w := false) [(24, I ((s.size : Nat) : Int))] ⟨rfl, trivial⟩ (fun _ => (.gtr)) ?_; refine VO.c (.or) (VO.go ?_); refine VC.condB rfl (fun c1 => ?_) (fun c1 => ?_)
  · try simp only [Bool.and_eq_true, Bool.or_eq_true, Bool.and_eq_false_iff, Bool.or_eq_false_iff, Bool.not_eq_true', Bool.not_eq_false', decide_eq_true_eq, decide_eq_false_iff_not] at c1
    refine VC.seq (VC.text ?_); refine VO.call rfl rfl (VF.call (awakeC_ok )) ?_; refine VO.c (.assign rfl) (VO.go ?_); refine VC.ret ?_; exact VEnd.one rfl evT (pvE (by rfl))
  try simp only [Bool.and_eq_true, Bool.or_eq_true, Bool.and_eq_false_iff, Bool.or_eq_false_iff, Bool.not_eq_true', Bool.not_eq_false', decide_eq_true_eq, decide_eq_false_iff_not] at c1
  have hok : CseOk c := shortC_ok (by simp at c1; exact c1.1); refine VC.skip (VC.seq (VC.seq (VC.text ?_))); refine VO.c (.move rfl) ?_; refine VO.call rfl rfl (VF.call (sParse_ok )) ?_; refine VO.c (.move rfl) (VO.c (.extract) (VO.c (.extract) (VO.c (.extract) ?_))); refine VO.cell (.alloc zt36) ?_; intro ww1; refine VO.setV (cs' := [.v y32 ((parC s).1), .v y33 ((parC s).2.1), .v y34 ((parC s).2.2)]) vt36 .v ?_; refine VO.shut [(5, .p y36 (parC s))] (.cons rfl (.var m0 .refl) .nil) ?_; refine VO.c (.assign rfl) (VO.c (.assign rfl) ?_); refine VO.go (VC.seq (VC.text ?_)); refine VO.c (.move rfl) (VO.c (.eql) (VO.go ?_)); refine VC.join [(2, .p y26 c)] [] ?_ ?_; refine VC.condD rfl (fun c4 => ?_) (fun c4 => ?_)
  · have hst := same_text c4; refine VC.seq (VC.text ?_); refine VO.r (.ld vt36) ?_; refine VO.call rfl rfl (VF.call (sPrint_ok parC_ok)) ?_; refine VO.c (.move rfl) (VO.c (.extract) (VO.c (.extract) (VO.c (.assign rfl) ?_))); refine VO.c (.assign rfl) ?_; refine VO.go (VC.seq (VC.text ?_)); refine VO.c (.move rfl) (VO.c (.neq) (VO.c (.move rfl) ?_)); refine VO.cg (r := decide (prtE (parC s) ≠ (0 : Int))) (w := false) [] trivial (fun _ => (.move rfl)) ?_; refine VO.cg (r := decide (prtE (parC s) ≠ (0 : Int))) (w := false) [] trivial (fun _ => (.move rfl)) ?_; refine VO.cg (r := decide (prtE (parC s) ≠ (0 : Int))) (w := false) [(44, St (prtR (parC s))), (45, St s)] ⟨rfl, rfl, trivial⟩ (fun _ => (.sneq)) ?_; refine VO.c (.or) (VO.go ?_); refine VC.condB rfl (fun c6 => ?_) (fun c6 => ?_)
    · try simp only [Bool.and_eq_true, Bool.or_eq_true, Bool.and_eq_false_iff, Bool.or_eq_false_iff, Bool.not_eq_true', Bool.not_eq_false', decide_eq_true_eq, decide_eq_false_iff_not] at c6
      refine VC.seq (VC.text ?_); refine VO.c (.assign rfl) (VO.go ?_); refine VC.ret ?_; exact VEnd.one rfl evT (pvE (by exfalso; simp [hst.1, hst.2] at c6))
    try simp only [Bool.and_eq_true, Bool.or_eq_true, Bool.and_eq_false_iff, Bool.or_eq_false_iff, Bool.not_eq_true', Bool.not_eq_false', decide_eq_true_eq, decide_eq_false_iff_not] at c6
    refine VC.skip ?_; exact ⟨⟨rfl, trivial⟩, rfl⟩
  · refine VC.skip ?_; exact ⟨⟨rfl, trivial⟩, rfl⟩
  refine VC.seq (VC.seq (VC.text ?_)); refine VO.r (.ld vt26) ?_; refine VO.call rfl rfl (VF.call (rCase_ok hok)) ?_; refine VO.c (.neq) (VO.c (.move rfl) ?_); refine VO.cg (r := decide (caseE c ≠ (0 : Int))) (w := false) [] trivial (fun _ => (.fa (.l .o))) ?_; refine VO.rg (r := decide (caseE c ≠ (0 : Int))) (w := false) [(52, .p y22 c.1)] ⟨rfl, trivial⟩ (fun _ => (.ld vt22)) ?_; refine VO.rg (r := decide (caseE c ≠ (0 : Int))) (w := false) [(53, .v y22 c.1)] ⟨rfl, trivial⟩ (fun _ => (.len el22)) ?_; refine VO.cg (r := decide (caseE c ≠ (0 : Int))) (w := false) [(54, I ((c.1.length : Nat) : Int))] ⟨rfl, trivial⟩ (fun _ => (.gtr)) ?_; refine VO.c (.or) (VO.c (.move rfl) ?_); refine VO.cg (r := ((decide (caseE c ≠ (0 : Int))) || (decide ((8 : Int) < ((c.1.length : Nat) : Int))))) (w := false) [] trivial (fun _ => (.fa (.r (.l .o)))) ?_; refine VO.rg (r := ((decide (caseE c ≠ (0 : Int))) || (decide ((8 : Int) < ((c.1.length : Nat) : Int))))) (w := false) [(58, .p y23 c.2.1)] ⟨rfl, trivial⟩ (fun _ => (.ld vt23)) ?_; refine VO.rg (r := ((decide (caseE c ≠ (0 : Int))) || (decide ((8 : Int) < ((c.1.length : Nat) : Int))))) (w := false) [(59, .v y23 c.2.1)] ⟨rfl, trivial⟩ (fun _ => (.len el23)) ?_; refine VO.cg (r := ((decide (caseE c ≠ (0 : Int))) || (decide ((8 : Int) < ((c.1.length : Nat) : Int))))) (w := false) [(60, I ((c.2.1.length : Nat) : Int))] ⟨rfl, trivial⟩ (fun _ => (.gtr)) ?_; refine VO.c (.or) (VO.c (.move rfl) ?_); refine VO.cg (r := (((decide (caseE c ≠ (0 : Int))) || (decide ((8 : Int) < ((c.1.length : Nat) : Int)))) || (decide ((8 : Int) < ((c.2.1.length : Nat) : Int))))) (w := false) [] trivial (fun _ => (.fa (.r (.r (k := 0) .o)))) ?_; refine VO.rg (r := (((decide (caseE c ≠ (0 : Int))) || (decide ((8 : Int) < ((c.1.length : Nat) : Int)))) || (decide ((8 : Int) < ((c.2.1.length : Nat) : Int))))) (w := false) [(64, .p y24 c.2.2)] ⟨rfl, trivial⟩ (fun _ => (.ld vt24)) ?_; refine VO.rg (r := (((decide (caseE c ≠ (0 : Int))) || (decide ((8 : Int) < ((c.1.length : Nat) : Int)))) || (decide ((8 : Int) < ((c.2.1.length : Nat) : Int))))) (w := false) [(65, .v y24 c.2.2)] ⟨rfl, trivial⟩ (fun _ => (.len el24)) ?_; refine VO.cg (r := (((decide (caseE c ≠ (0 : Int))) || (decide ((8 : Int) < ((c.1.length : Nat) : Int)))) || (decide ((8 : Int) < ((c.2.1.length : Nat) : Int))))) (w := false) [(66, I ((c.2.2.length : Nat) : Int))] ⟨rfl, trivial⟩ (fun _ => (.gtr)) ?_; refine VO.c (.or) (VO.go ?_); refine VC.condB rfl (fun c8 => ?_) (fun c8 => ?_)
  · try simp only [Bool.and_eq_true, Bool.or_eq_true, Bool.and_eq_false_iff, Bool.or_eq_false_iff, Bool.not_eq_true', Bool.not_eq_false', decide_eq_true_eq, decide_eq_false_iff_not] at c8
    refine VC.seq (VC.text ?_); refine VO.call rfl rfl (VF.call (awakeC_ok )) ?_; refine VO.c (.assign rfl) (VO.go ?_); refine VC.ret ?_; exact VEnd.one rfl evT (pvE (by rfl))
  try simp only [Bool.and_eq_true, Bool.or_eq_true, Bool.and_eq_false_iff, Bool.or_eq_false_iff, Bool.not_eq_true', Bool.not_eq_false', decide_eq_true_eq, decide_eq_false_iff_not] at c8
  have hz : caseE c = 0 := by simp at c8; omega
  have hl1 : c.1.length ≤ 8 := by simp at c8; omega
  have hl2 : c.2.1.length ≤ 8 := by simp at c8; omega
  have hl3 : c.2.2.length ≤ 8 := by simp at c8; omega
  refine VC.skip (VC.seq (VC.text ?_)); refine VO.r (.ld vt26) ?_; refine VO.call rfl rfl (VF.call (lGiven_ok hok)) ?_; refine VO.call rfl rfl (VF.call (sPrint_ok hok)) ?_; refine VO.c (.move rfl) (VO.c (.extract) (VO.c (.extract) (VO.c (.assign rfl) ?_))); refine VO.c (.assign rfl) ?_; refine VO.go (VC.seq (VC.seq ?_)); refine VC.keep [(2, .p y26 c), (10, St (prtR c)), (11, I (prtE c))] ⟨rfl, rfl, rfl, trivial⟩ ?_; refine VC.text ?_; refine VO.c (.move rfl) (VO.c (.neq) (VO.go ?_)); refine VC.condD rfl (fun c11 => ?_) (fun c11 => ?_)
  · have h27 := prt_27 hz c11; refine VC.seq (VC.text ?_); refine VO.c (.move rfl) (VO.c (.eql) (VO.c (.move rfl) ?_)); refine VO.callg (r0 := decide (prtE c = (27 : Int))) (w := true) [] trivial rfl rfl .same .refl rfl (fun _ => VF.call (awakeC_ok )) ?_; refine VO.c (.and) (VO.c (.assign rfl) (VO.go ?_)); refine VC.ret ?_; exact VEnd.one rfl evT (pvE (by rw [decide_eq_true h27] <;> rfl))
  obtain ⟨hpr, hsz⟩ := prt_0 hz (Classical.not_not.1 c11); obtain ⟨b1, b2, b3⟩ := back_R hz hsz; have hbl : (splS (Go.Proofs.c8 10) (txtC c)).length = c.1.length + (c.2.1.length + c.2.2.length) + 1 := back_lines hz; refine VC.skip (VC.seq (VC.text ?_)); refine VO.c (.move rfl) ?_; refine VO.keep [(2, .p y26 c), (84, St (txtC c)), (10, St (txtC c))] ⟨rfl, slE rfl hpr, slE rfl hpr, trivial⟩ ?_; refine VO.call rfl rfl (VF.call (sParse_ok )) ?_; refine VO.c (.move rfl) (VO.c (.extract) (VO.c (.extract) (VO.c (.extract) ?_))); refine VO.cell (.alloc zt36) ?_; intro ww2; refine VO.setV (cs' := [.v y32 ((parC (txtC c)).1), .v y33 ((parC (txtC c)).2.1), .v y34 ((parC (txtC c)).2.2)]) vt36 .v ?_; refine VO.shut [(12, .p y36 (parC (txtC c)))] (.cons rfl (.var m0 .refl) .nil) ?_; refine VO.c (.assign rfl) (VO.c (.assign rfl) ?_); refine VO.go (VC.seq (VC.text ?_)); refine VO.c (.fa (.l .o)) ?_; refine VO.r (.ld vt22) ?_; refine VO.r (.len el22) ?_; refine VO.c (.fa (.r (.l .o))) ?_; refine VO.r (.ld vt23) ?_; refine VO.r (.len el23) ?_; refine VO.c (.add rfl rfl (by omega)) (VO.c (.fa (.r (.r .o))) ?_); refine VO.r (.ld vt24) ?_; refine VO.r (.len el24) ?_; refine VO.c (.add rfl rfl (by omega)) (VO.c (.assign rfl) ?_); refine VO.go (VC.seq (VC.seq (VC.drawn ?_))); refine VD.c (.move rfl) (VD.c (.neq) (VD.c (.move rfl) ?_)); refine VD.splitD (x := 102) rfl (fun g15_2 => ?_) (fun g15_2 => ?_)
  · refine VD.skip (VD.skip (VD.nw [] (VD.c (.pickT rfl rfl) ?_))); refine VD.c (.move rfl) (VD.skip (VD.skip (VD.skip ?_))); refine VD.skip (VD.skip (VD.nw [] (VD.c (.pickT rfl rfl) ?_))); refine VD.c (.move rfl) (VD.skip (VD.skip (VD.skip ?_))); refine VD.skip (VD.skip (VD.nw [] (VD.skip ?_))); refine VD.c (.pickT rfl rfl) (VD.go ?_); refine VC.condT rfl ?_; refine VC.seq ?_; refine VC.keep [(10, St (txtC c)), (15, I ((((c.1.length : Nat) : Int) + ((c.2.1.length : Nat) : Int)) + ((c.2.2.length : Nat) : Int)))] ⟨rfl, rfl, trivial⟩ ?_; refine VC.text ?_; refine VO.c (.assign rfl) (VO.go ?_); refine VC.ret ?_; exact VEnd.one rfl evT (pvE (by exfalso; first | exact absurd b3 g15_2 | exact absurd b2 g15_6 | (simp [b1, sameC_t] at g15_13; done) | omega))
  refine VD.c (.move rfl) (VD.c (.neq) (VD.nw [] (VD.c (.pickF rfl rfl) ?_))); refine VD.c (.move rfl) ?_; refine VD.splitD (x := 106) rfl (fun g15_6 => ?_) (fun g15_6 => ?_)
  · refine VD.skip (VD.skip (VD.skip (VD.skip ?_))); refine VD.nw [] (VD.skip (VD.c (.pickT rfl rfl) (VD.c (.move rfl) ?_))); refine VD.skip (VD.skip (VD.skip (VD.skip ?_))); refine VD.nw [] (VD.skip (VD.skip (VD.c (.pickT rfl rfl) ?_))); refine VD.go ?_; refine VC.condT rfl ?_; refine VC.seq ?_; refine VC.keep [(10, St (txtC c)), (15, I ((((c.1.length : Nat) : Int) + ((c.2.1.length : Nat) : Int)) + ((c.2.2.length : Nat) : Int)))] ⟨rfl, rfl, trivial⟩ ?_; refine VC.text ?_; refine VO.c (.assign rfl) (VO.go ?_); refine VC.ret ?_; exact VEnd.one rfl evT (pvE (by exfalso; first | exact absurd b3 g15_2 | exact absurd b2 g15_6 | (simp [b1, sameC_t] at g15_13; done) | omega))
  refine VD.r [] (.ld vt36) (.inl rfl) ?_; refine VD.call rfl rfl (VF.call (lTold_ok parC_ok)) ?_; refine VD.r [] (.ld vt26) (.inl rfl) ?_; refine VD.callO rfl rfl (VF.call (rSameC_ok parC_ok hok)) ?_; refine VD.nw [108] (VD.c (.not) (VD.c (.pickF rfl rfl) (VD.c (.move rfl) ?_))); refine VD.splitB (x := 113) rfl (fun g15_13 => ?_) (fun g15_13 => ?_)
  · try simp only [Bool.and_eq_true, Bool.or_eq_true, Bool.and_eq_false_iff, Bool.or_eq_false_iff, Bool.not_eq_true', Bool.not_eq_false', decide_eq_true_eq, decide_eq_false_iff_not] at g15_13
    refine VD.skip (VD.skip (VD.skip (VD.nw [108] ?_))); refine VD.skip (VD.skip (VD.skip (VD.c (.pickT rfl rfl) ?_))); refine VD.go ?_; refine VC.condT rfl ?_; refine VC.seq ?_; refine VC.keep [(10, St (txtC c)), (15, I ((((c.1.length : Nat) : Int) + ((c.2.1.length : Nat) : Int)) + ((c.2.2.length : Nat) : Int)))] ⟨rfl, rfl, trivial⟩ ?_; refine VC.text ?_; refine VO.c (.assign rfl) (VO.go ?_); refine VC.ret ?_; exact VEnd.one rfl evT (pvE (by exfalso; first | exact absurd b3 g15_2 | exact absurd b2 g15_6 | (simp [b1, sameC_t] at g15_13; done) | omega))
  try simp only [Bool.and_eq_true, Bool.or_eq_true, Bool.and_eq_false_iff, Bool.or_eq_false_iff, Bool.not_eq_true', Bool.not_eq_false', decide_eq_true_eq, decide_eq_false_iff_not] at g15_13
  refine VD.c (.move rfl) ?_; refine VD.call rfl rfl (VF.call (rSplit_ok (by omega) (by omega))) ?_; refine VD.ro (.len el48) ?_; refine VD.nw [115, 108] (VD.c (.move rfl) (VD.c (.add rfl rfl (by omega)) (VD.c (.neq) ?_))); refine VD.c (.pickF rfl rfl) (VD.go ?_); refine VC.condD rfl (fun c15 => ?_) (fun c15 => ?_)
  · refine VC.seq ?_; refine VC.keep [(10, St (txtC c)), (15, I ((((c.1.length : Nat) : Int) + ((c.2.1.length : Nat) : Int)) + ((c.2.2.length : Nat) : Int)))] ⟨rfl, rfl, trivial⟩ ?_; refine VC.text ?_; refine VO.c (.assign rfl) (VO.go ?_); refine VC.ret ?_; exact VEnd.one rfl evT (pvE (by exfalso; first | exact absurd b3 g15_2 | exact absurd b2 g15_6 | (simp [b1, sameC_t] at g15_13; done) | omega))
  refine VC.skip (VC.seq (VC.seq ?_)); refine VC.keep [(10, St (txtC c)), (15, I ((((c.1.length : Nat) : Int) + ((c.2.1.length : Nat) : Int)) + ((c.2.2.length : Nat) : Int)))] ⟨rfl, rfl, trivial⟩ ?_; refine VC.text ?_; refine VO.c (.move rfl) (VO.c (.eql) (VO.go ?_)); refine VC.condD rfl (fun c17 => ?_) (fun c17 => ?_)
  · have hnl := txt_nil (c := c) (by omega); refine VC.seq (VC.text ?_); refine VO.c (.move rfl) (VO.c (.seql) (VO.c (.move rfl) ?_)); refine VO.callg (r0 := decide (txtC c = ByteArray.empty)) (w := true) [] trivial rfl rfl .same .refl rfl (fun _ => VF.call (awakeC_ok )) ?_; refine VO.c (.and) (VO.c (.assign rfl) (VO.go ?_)); refine VC.ret ?_; exact VEnd.one rfl evT (pvE (by rw [decide_eq_true (show txtC c = ⟨#[]⟩ from hnl)] <;> rfl))
  obtain ⟨s1, s2, hnz⟩ := short_text hz hsz (by omega)
  have hen : ((((txtC c).size : Nat) : Int) - (1 : Int)).toNat = (txtC c).size - 1 := by omega
  have hnn : (((c.1.length + (c.2.1.length + c.2.2.length) : Nat) : Int)) - 1 = (((c.1.length : Nat) : Int) + ((c.2.1.length : Nat) : Int)) + ((c.2.2.length : Nat) : Int) - 1 := by omega
  refine VC.skip (VC.seq (VC.text ?_)); refine VO.c (.move rfl) (VO.c (.move rfl) ?_); refine VO.r (.lenS) ?_; refine VO.c (.sub rfl rfl (by omega)) ?_; refine VO.r (.cutHS (by kernel_rfl) rfl rfl (by omega)) ?_; refine VO.call rfl rfl (VF.call (sParse_ok )) ?_; refine VO.c (.move rfl) (VO.c (.extract) (VO.c (.extract) (VO.c (.extract) ?_))); refine VO.cell (.alloc zt36) ?_; intro ww3; refine VO.setV (cs' := [.v y32 ((parC ((txtC c).extract 0 (((((txtC c).size : Nat) : Int) - (1 : Int))).toNat)).1), .v y33 ((parC ((txtC c).extract 0 (((((txtC c).size : Nat) : Int) - (1 : Int))).toNat)).2.1), .v y34 ((parC ((txtC c).extract 0 (((((txtC c).size : Nat) : Int) - (1 : Int))).toNat)).2.2)]) vt36 .v ?_; refine VO.shut [(16, .p y36 (parC ((txtC c).extract 0 (((((txtC c).size : Nat) : Int) - (1 : Int))).toNat)))] (.cons rfl (.var m0 .refl) .nil) ?_; refine VO.c (.assign rfl) (VO.c (.assign rfl) ?_); refine VO.go (VC.seq (VC.text ?_)); refine VO.c (.move rfl) (VO.c (.eql) (VO.c (.move rfl) ?_)); refine VO.cg (r := decide (parE ((txtC c).extract 0 (((((txtC c).size : Nat) : Int) - (1 : Int))).toNat) = (26 : Int))) (w := true) [] trivial (fun _ => (.move rfl)) ?_; refine VO.cg (r := decide (parE ((txtC c).extract 0 (((((txtC c).size : Nat) : Int) - (1 : Int))).toNat) = (26 : Int))) (w := true) [] trivial (fun _ => (.move rfl)) ?_; refine VO.cg (r := decide (parE ((txtC c).extract 0 (((((txtC c).size : Nat) : Int) - (1 : Int))).toNat) = (26 : Int))) (w := true) [(142, I ((((c.1.length : Nat) : Int) + ((c.2.1.length : Nat) : Int)) + ((c.2.2.length : Nat) : Int)))] ⟨rfl, trivial⟩ (fun hgd => have g20_2 : parE ((txtC c).extract 0 (((((txtC c).size : Nat) : Int) - (1 : Int))).toNat) = (26 : Int) := (by simpa using hgd); (.sub rfl rfl (by omega))) ?_; refine VO.cg (r := decide (parE ((txtC c).extract 0 (((((txtC c).size : Nat) : Int) - (1 : Int))).toNat) = (26 : Int))) (w := true) [(141, I (parN ((txtC c).extract 0 (((((txtC c).size : Nat) : Int) - (1 : Int))).toNat))), (143, I (((((c.1.length : Nat) : Int) + ((c.2.1.length : Nat) : Int)) + ((c.2.2.length : Nat) : Int)) - (1 : Int)))] ⟨rfl, rfl, trivial⟩ (fun _ => (.eql)) ?_; refine VO.c (.and) (VO.c (.move rfl) ?_); refine VO.callg (r0 := ((decide (parE ((txtC c).extract 0 (((((txtC c).size : Nat) : Int) - (1 : Int))).toNat) = (26 : Int))) && (decide (parN ((txtC c).extract 0 (((((txtC c).size : Nat) : Int) - (1 : Int))).toNat) = (((((c.1.length : Nat) : Int) + ((c.2.1.length : Nat) : Int)) + ((c.2.2.length : Nat) : Int)) - (1 : Int)))))) (w := true) [] trivial rfl rfl .same .refl rfl (fun _ => VF.call (awakeC_ok )) ?_; refine VO.c (.and) (VO.c (.assign rfl) (VO.go ?_)); refine VC.ret ?_; exact VEnd.one rfl evT (pvE (by rw [hen, decide_eq_true s1, decide_eq_true (s2.trans hnn)] <;> rfl))
end Go.Proofs
namespace Go.Fs
open Go.RowKit (Below)
variable {P : Program}
def orcB (fi fj fc : FuncId) (T : TypeId) : FuncId → List Value → Heap → Option (Value × Heap) := fun f xs h =>
  bif Nat.beq f fc then
    match xs with
    | [.pointer (some ⟨b, 0, none⟩)] =>
      match h.get b with
      | some (.row e [p, v] true false) =>
        bif Nat.beq e T then
          match p with
          | .pointer none => some (.tuple #[], h.set b (.row e [.pointer (some ⟨b, 0, none⟩), v] true false))
          | .pointer (some ⟨b', 0, none⟩) => bif Nat.beq b' b then some (.tuple #[], h) else none
          | _ => none
        else none
      | _ => none
    | _ => none
  else orcS fi fj f xs h
theorem orcB_sound {B : Nat} {w0 : World} {fi fj fc : FuncId} {T : TypeId} (hz : w0.drawn = 0) (hS : CallSound P B w0 (orcS fi fj)) (hc : Enters P fc)
    (hF : ∀ (b : Nat) (w : World), w.cell? ⟨b, 0, none⟩ = some (.pointer none) → w.shape? b = some (T, 2) → w.frozen? ⟨b, 0, none⟩ = false →
      Calls P fc #[.pointer (some ⟨b, 0, none⟩)] w fun e w' => e = .returned (.tuple #[]) ∧ w' = w.setCell ⟨b, 0, none⟩ (.pointer (some ⟨b, 0, none⟩)))
    (hU : ∀ (b : Nat) (w : World), w.cell? ⟨b, 0, none⟩ = some (.pointer (some ⟨b, 0, none⟩)) → Calls P fc #[.pointer (some ⟨b, 0, none⟩)] w fun e w' => e = .returned (.tuple #[]) ∧ w' = w) :
    CallSound P B w0 (orcB fi fj fc T) := by
  intro f xs h v h' hf; unfold orcB at hf
  cases hb : Nat.beq f fc with
  | false =>
    rw [hb] at hf
    exact hS f xs h v h' hf
  | true =>
    have := nbeq hb; subst this; rw [hb] at hf; simp only [cond_true] at hf; split at hf
    · rename_i b; split at hf
      · rename_i e p u hg; obtain ⟨he, hf2⟩ := bif_some hf; obtain rfl := nbeq he; refine ⟨hc, fun ρ S w args' hr ha nn => ?_⟩; obtain ⟨hsb, cur, k1, k2, k3, k4, k5, k6, k7⟩ := hr.objs b _ hg; have hcl : cur.length = 2 := (k6 rfl).symm
        match cur, hcl with
        | [p', u'], _ =>
        have hp : VR ρ S p p' := k7 0 (by simp); have hu : VR ρ S u u' := k7 1 (by simp)
        have hat : (ρ b).at 0 = ⟨(ρ b).block, 0, none⟩ := by unfold Loc.at; rw [k2]
        have harg : args' = [.pointer (some ⟨(ρ b).block, 0, none⟩)] := by
          have h1 := ha.1
          match args', h1 with
          | [a], _ =>
            have h2 : VR ρ S (.pointer (some ⟨b, 0, none⟩)) a := ha.2 0 (by simp); rw [h2.ptr_inv.2, hat]
        subst harg
        have hcell : w.cell? ⟨(ρ b).block, 0, none⟩ = some p' := by simp [World.cell?, k1]
        split at hf2
        · simp only [Option.some.injEq, Prod.mk.injEq] at hf2; obtain ⟨rfl, rfl⟩ := hf2; obtain rfl := hp.eq_of_af0 rfl; have hC : CallsIn Fence.wide nn P f #[.pointer (some ⟨(ρ b).block, 0, none⟩)] w _ := callsIn_wide.2 (hF (ρ b).block w hcell (by simp [World.shape?, k1]) (frozen_soft k1 (by rw [k3]; exact Nat.zero_lt_succ _))); refine hC.mono fun e2 w' hret => ?_; obtain ⟨rfl, rfl⟩ := hret; refine ⟨ρ, Moved.set hr hg rfl rfl rfl rfl rfl (by simp [World.setCell]) (fun k hk => ?_) ?_, VR.tuple' LR.nil⟩
          · simp only [World.setCell, Array.getElem?_modify]; rw [if_neg (fun e0 => hk e0.symm)]
          refine ⟨[.pointer (some ⟨(ρ b).block, 0, none⟩), u'], ?_, k2, k3, k4, Nat.le_refl _, fun _ => rfl, fun i hi => ?_⟩
          · simp only [World.setCell, Array.getElem?_modify, if_pos rfl, k1]; simp
          match i, hi with
          | 0, _ => show VR ρ S (.pointer (some ⟨b, 0, none⟩)) (.pointer (some ⟨(ρ b).block, 0, none⟩)); rw [← hat]; exact .ptr b 0 hsb
          | 1, _ => exact hu
        · rename_i b'; obtain ⟨hbb, hf3⟩ := bif_some hf2; obtain rfl := nbeq hbb; simp only [Option.some.injEq, Prod.mk.injEq] at hf3; obtain ⟨rfl, rfl⟩ := hf3; have hp2 := hp.ptr_inv.2; rw [hat] at hp2; subst hp2; have hC : CallsIn Fence.wide nn P f #[.pointer (some ⟨(ρ b').block, 0, none⟩)] w _ := callsIn_wide.2 (hU (ρ b').block w hcell); refine hC.mono fun e2 w' hret => ?_; obtain ⟨rfl, rfl⟩ := hret; exact ⟨ρ, Moved.same hr, VR.tuple' LR.nil⟩
        cases hf2
      cases hf
    cases hf
end Go.Fs
namespace Go.Fs
open Go.RowKit (Below)
variable {P : Program} {ops : Array Oper} {n : Nat}
def sameV : Value → Value → Bool
  | .int k a, .int k' b => decide (k = k') && decide (a = b)
  | .bool a, .bool b => decide (a = b)
  | _, _ => false
theorem sameV_eq {a b : Value} (h : sameV a b = true) : a = b := by
  unfold sameV at h; split at h
  · obtain ⟨h1, h2⟩ := band h; rw [of_decide_eq_true h1, of_decide_eq_true h2]
  · rw [of_decide_eq_true h]
  cases h
def sameL : List Value → List Value → Bool
  | [], [] => true
  | a :: r, b :: q => sameV a b && sameL r q
  | _, _ => false
theorem sameL_eq : ∀ {a b : List Value}, sameL a b = true → a = b
  | [], [], _ => rfl
  | [], _ :: _, h => by cases h
  | _ :: _, [], h => by cases h
  | a :: r, b :: q, h => by
    obtain ⟨h1, h2⟩ := band (h : (sameV a b && sameL r q) = true); rw [sameV_eq h1, sameL_eq h2]
def sameO : AObj → AObj → Bool
  | .row e cs o m, .row e' cs' o' m' => Nat.beq e e' && sameL cs cs' && decide (o = o') && decide (m = m')
  | _, _ => false
theorem sameO_eq {a b : AObj} (h : sameO a b = true) : a = b := by
  unfold sameO at h; split at h
  · obtain ⟨h, h1⟩ := band h; obtain ⟨h, h2⟩ := band h; obtain ⟨h, h3⟩ := band h; rw [nbeq h, sameL_eq h3, of_decide_eq_true h2, of_decide_eq_true h1]
  cases h
def okRd (rd : List (Nat × AObj)) (h : Heap) : Bool := rd.all fun p => match h.get p.1 with
  | some ob => sameO ob p.2
  | none => false
theorem stLook_mem {b : Nat} {ob : AObj} : ∀ {l : List (Nat × AObj)}, look l b = some ob → (b, ob) ∈ l
  | [], h => by cases h
  | (c, oc) :: r, h => by
    simp only [look] at h
    cases hc : Nat.beq c b with
    | true =>
      rw [hc] at h; simp only [cond_true, Option.some.injEq] at h
      rw [nbeq hc, h]; exact List.mem_cons_self
    | false =>
      rw [hc] at h; simp only [cond_false] at h; exact List.mem_cons_of_mem _ (stLook_mem h)
theorem okRd_get {rd : List (Nat × AObj)} {h : Heap} (hk : okRd rd h = true) {b : Nat} {ob : AObj} (hl : look rd b = some ob) : h.get b = some ob := by
  have := List.all_eq_true.1 hk _ (stLook_mem hl); simp only at this; split at this
  · rename_i o2 hg; rw [hg, sameO_eq this]
  cases this
def stillR (P : Program) (rd : List (Nat × AObj)) (ops : Array Oper) (n : Nat) (o : Oper) (s : DSt) : Option DSt :=
  match fsWanted ops s.t o, o.op with
  | some true, .load T a =>
    match evalO s.t a with
    | .pointer (some p) =>
      match look rd p.block with
      | some ob =>
        match fsLoad P T (evalO s.t a) { next := s.h.next, low := s.h.next, objs := [(p.block, ob)] } with
        | some v => (put n s.t o.dst v).map fun t => { s with t, bs := s.bs ++ [beforeOf s.bs o] }
        | none => none
      | none => none
    | _ => none
  | _, _ => none
def fsDrawnY (P : Program) (rd : List (Nat × AObj)) (step : Oper → (Operand → Value) → Heap → Option (Value × Heap)) (ops : Array Oper) (n : Nat) : List Oper → Nat → DSt → Option DSt
  | [], _, s => bif okRd rd s.h then some s else none
  | o :: r, i, s => bif okRd rd s.h then
      match fsDraw step ops n o i s with
      | some s' => fsDrawnY P rd step ops n r (i + 1) s'
      | none => match stillR P rd ops n o s with
        | some s' => fsDrawnY P rd step ops n r (i + 1) s'
        | none => none
    else none
def fsReads (P : Program) (h0 : Heap) (step : Oper → (Operand → Value) → Heap → Option (Value × Heap)) (ops : Array Oper) (n : Nat) : List Oper → Nat → DSt → List (Nat × AObj) → List (Nat × AObj)
  | [], _, _, l => l
  | o :: r, i, s, l => match fsDraw step ops n o i s with
    | some s' => fsReads P h0 step ops n r (i + 1) s' l
    | none => match stillO P h0 ops n o s with
      | some (s', b) => match h0.get (b - 1) with
        | some ob => fsReads P h0 step ops n r (i + 1) s' ((b - 1, ob) :: l)
        | none => l
      | none => l
def drawnY (P : Program) (h0 : Heap) (step : Oper → (Operand → Value) → Heap → Option (Value × Heap)) (ops : Array Oper) (n : Nat) (s : DSt) (rd : List (Nat × AObj)) : Option DSt :=
  bif rd.all fun p => Nat.blt p.1 h0.next then fsDrawnY P rd step ops n ops.toList 0 s else none
theorem stillR_of {call : FuncId → List Value → Heap → Option (Value × Heap)} {yield : Nat → List Value → Heap → Option (Value × Heap)} {X : Nat → AObj → Prop} {rd : List (Nat × AObj)} {o : Oper} {i : Nat} {s s' : DSt}
    (hf : stillR P rd ops n o s = some s') (hX : ∀ c ob, look rd c = some ob → X c ob) :
    s'.bs = s.bs ++ [beforeOf s.bs o] ∧ Did (fsOp P call yield) ops n X o i s s' := by
  unfold stillR at hf; split at hf
  · rename_i T a hw hop; split at hf
    · rename_i p hev; split at hf
      · rename_i ob hg; split at hf
        · rename_i v hv; obtain ⟨t, h3, h4⟩ := Option.map_eq_some_iff.1 hf; subst h4; refine ⟨rfl, .still hw v [(p.block, ob)] (fun c oc hc => ?_) ?_ h3 rfl rfl rfl rfl⟩
          · simp only [look] at hc
            cases hbc : Nat.beq p.block c with
            | true =>
              rw [hbc] at hc; simp only [cond_true, Option.some.injEq] at hc; obtain rfl := nbeq hbc; subst hc
              exact hX _ _ hg
            | false => rw [hbc] at hc; cases hc
          unfold fsOp; rw [hop]; simp only [hv, Option.map_some]
        cases hf
      cases hf
    cases hf
  cases hf
theorem drawnY_trace {call : FuncId → List Value → Heap → Option (Value × Heap)} {yield : Nat → List Value → Heap → Option (Value × Heap)} {rd : List (Nat × AObj)} : ∀ (l : List Oper) (i : Nat) (s s' : DSt), fsDrawnY P rd (fsOp P call yield) ops n l i s = some s' →
    ∃ st : Nat → DSt, st i = s ∧ st (i + l.length) = s' ∧ (∀ q, i ≤ q → q ≤ i + l.length → okRd rd (st q).h = true) ∧
    ∀ j o, l[j]? = some o → ∀ X : Nat → AObj → Prop, (∀ c ob, look rd c = some ob → X c ob) → (st (i + j + 1)).bs = (st (i + j)).bs ++ [beforeOf (st (i + j)).bs o] ∧ Did (fsOp P call yield) ops n X o (i + j) (st (i + j)) (st (i + j + 1))
  | [], i, s, s', h => by
    simp only [fsDrawnY] at h; obtain ⟨h1, h2⟩ := bif_some h; simp only [Option.some.injEq] at h2; subst h2
    exact ⟨fun _ => s, rfl, rfl, fun _ _ _ => h1, fun j o hj => by simp at hj⟩
  | o :: l, i, s, s', h => by
    simp only [fsDrawnY] at h; obtain ⟨hok, h⟩ := bif_some h
    have key : ∀ s1, fsDrawnY P rd (fsOp P call yield) ops n l (i + 1) s1 = some s' →
        (∀ X : Nat → AObj → Prop, (∀ c ob, look rd c = some ob → X c ob) → s1.bs = s.bs ++ [beforeOf s.bs o] ∧ Did (fsOp P call yield) ops n X o i s s1) →
      ∃ st : Nat → DSt, st i = s ∧ st (i + (o :: l).length) = s' ∧ (∀ q, i ≤ q → q ≤ i + (o :: l).length → okRd rd (st q).h = true) ∧
        ∀ j o', (o :: l)[j]? = some o' → ∀ X : Nat → AObj → Prop, (∀ c ob, look rd c = some ob → X c ob) → (st (i + j + 1)).bs = (st (i + j)).bs ++ [beforeOf (st (i + j)).bs o'] ∧ Did (fsOp P call yield) ops n X o' (i + j) (st (i + j)) (st (i + j + 1)) := fun s1 hr hd => by
      obtain ⟨st, h1, h2, hq, h3⟩ := drawnY_trace l (i + 1) s1 s' hr; refine ⟨fun k => if k = i then s else st k, by simp, ?_, fun q hq1 hq2 => ?_, fun j o' hj X hX => ?_⟩
      · simp only [List.length_cons]; rw [if_neg (by omega), ← h2]; congr 1; omega
      · rw [List.length_cons] at hq2; by_cases e : q = i
        · subst e; simpa using hok
        simp only [if_neg e]; exact hq q (by omega) (by omega)
      cases j with
      | zero =>
        simp at hj; subst hj
        simpa [h1] using hd X hX
      | succ j =>
        simp only [List.getElem?_cons_succ] at hj; have := h3 j o' hj X hX; rw [show i + 1 + j = i + (j + 1) by omega] at this; simp only; rw [if_neg (by omega), if_neg (by omega)]; exact this
    split at h
    · rename_i s1 hs1; exact key s1 h fun X _ => did_of hs1
    split at h
    · rename_i s1 hs1; exact key s1 h fun X hX => stillR_of hs1 hX
    cases h
theorem traceY_of {call : FuncId → List Value → Heap → Option (Value × Heap)} {yield : Nat → List Value → Heap → Option (Value × Heap)} {t0 : Tr} {h0 : Heap} {s : DSt} {rd : List (Nat × AObj)} (h : drawnY P h0 (fsOp P call yield) ops n ⟨t0, h0, [], [], 0, false⟩ rd = some s) : ∃ st, Trace (fsOp P call yield) ops n st t0 h0 ∧ st ops.size = s := by
  unfold drawnY at h; obtain ⟨hb, h⟩ := bif_some h; obtain ⟨st, h1, h2, hq, h3⟩ := drawnY_trace _ _ _ _ h
  have h2' : st ops.size = s := by simpa using h2
  refine ⟨st, ⟨h1, fun i o ho => ?_⟩, h2'⟩; have := h3 i o (by simpa using ho) (fun b ob => h0.get b = some ob ∧ b < h0.next ∧ (b < (st ops.size).h.low ∨ ∀ q, q ≤ ops.size → (st q).h.get b = some ob)) (fun c ob hc => ?_)
  · simpa only [Nat.zero_add] using this
  have hall : ∀ q, q ≤ ops.size → (st q).h.get c = some ob := fun q hq2 => okRd_get (hq q (Nat.zero_le _) (by simpa using hq2)) hc; have h0 := hall 0 (Nat.zero_le _); rw [h1] at h0; exact ⟨h0, nblt (List.all_eq_true.1 hb _ (stLook_mem hc)), .inr hall⟩
variable {B : Nat} {w0 : World} {S : Nat → Prop} {ρ0 : Ren} {call : FuncId → List Value → Heap → Option (Value × Heap)} {yield : Nat → List Value → Heap → Option (Value × Heap)} {t0 : Tr} {h0 : Heap}
theorem drawn_wpY (hcs : CallSnd P B w0 call) (hys : YieldSound P B w0 yield) (hok : regionOk ops = true) {s : DSt} {rd : List (Nat × AObj)} (hf : drawnY P h0 (fsOp P call yield) ops n ⟨t0, h0, [], [], 0, false⟩ rd = some s)
    {w : World} {a : Act} (hr : HR P ρ0 S B w0 h0 w) (ht : TrR ρ0 S t0 n a.tmps) {r : Option Nat} {nn : Nat} {Q : Exit → Act → World → Prop}
    (k : ∀ ρ' w' a', Moved P B w0 ρ0 ρ' S h0 s.h w w' → TrR ρ' (Ext S h0 s.h) s.t n a'.tmps → a'.defers = a.defers → Q .normal a' w') (t : Nat) :
    wpOpsIn (Wide r) nn P ops Q (Region.schedule true ops t) a w := drawn_wpT hcs hys hok (traceY_of hf) hr ht k t
end Go.Fs
namespace Go.Fs
open Go.RowKit (Below)
variable {P : Program} {B : Nat} {w0 : World}
def fsStepX (P : Program) (orc : FuncId → List Value → Heap → Option (Value × Heap)) (rec : Rec) : Rec := fun rnd c fr h =>
  match c with
  | .region _ ops true => match drawnX P { next := h.next, low := h.next, objs := h.objs } (fsOp P (callOf P orc rec) (fsYield rec)) ops fr.n ⟨fr.t, { next := h.next, low := h.next, objs := h.objs }, [], [], 0, false⟩ with
    | some s => some (.normal, { t := s.t, n := fr.n, marks := fr.marks }, { next := s.h.next, low := min h.low s.h.low, objs := s.h.objs })
    | none => match drawnY P { next := h.next, low := h.next, objs := h.objs } (fsOp P (callOf P orc rec) (fsYield rec)) ops fr.n ⟨fr.t, { next := h.next, low := h.next, objs := h.objs }, [], [], 0, false⟩ (fsReads P { next := h.next, low := h.next, objs := h.objs } (fsOp P (callOf P orc rec) (fsYield rec)) ops fr.n ops.toList 0 ⟨fr.t, { next := h.next, low := h.next, objs := h.objs }, [], [], 0, false⟩ []) with
      | some s => some (.normal, { t := s.t, n := fr.n, marks := fr.marks }, { next := s.h.next, low := min h.low s.h.low, objs := s.h.objs })
      | none => fsStep P orc rec rnd c fr h
  | c => fsStep P orc rec rnd c fr h
def fsCodeX (P : Program) (orc : FuncId → List Value → Heap → Option (Value × Heap)) : Nat → Rec
  | 0 => fun _ _ _ _ => none
  | n + 1 => fsStepX P orc (fsCodeX P orc n)
theorem HR.low {ρ : Ren} {S : Nat → Prop} {h : Heap} {w : World} (hr : HR P ρ S B w0 h w) (l : Nat) : HR P ρ S B w0 { next := h.next, low := l, objs := h.objs } w :=
  { objs := hr.objs, inj := hr.inj, base := hr.base, ro := hr.ro, ids := hr.ids, pos := hr.pos, below := hr.below, drawn := hr.drawn, size := hr.size }
theorem Moved.lowered {ρ ρ' : Ren} {S : Nat → Prop} {h h' : Heap} {w w' : World} {l : Nat} (m : Moved P B w0 ρ ρ' S { next := h.next, low := l, objs := h.objs } h' w w') :
    Moved P B w0 ρ ρ' S h { next := h'.next, low := min h.low h'.low, objs := h'.objs } w w' where
  agree := m.agree
  next := m.next
  hr := m.hr.low _
  frame := ⟨m.frame.os, m.frame.tape, m.frame.output, m.frame.size, m.frame.block⟩
  low := Nat.min_le_left _ _
  keep := fun i hi hl => m.keep i hi (Nat.lt_of_lt_of_le hl (Nat.min_le_right _ _))
  old := m.old
  fresh := fun i o ho hi => by
    obtain ⟨h1, h2⟩ := m.fresh i o ho hi; refine ⟨h1, ?_⟩; rcases h2 with h2 | ⟨j, oj, h3, h4, h5, h6, h7⟩
    · exact .inl h2
    exact .inr ⟨j, oj, h3, h4, h5, Nat.le_trans (Nat.min_le_right _ _) h6, h7⟩
theorem stepX_sound (hP : ProgOk P) {orc : FuncId → List Value → Heap → Option (Value × Heap)} (horc : CallSound P B w0 orc) {m : Nat} {rec : Rec} (hrec : SoundR P B w0 m rec) : SoundR P B w0 (m + 1) (fsStepX P orc rec) := by
  have hcs : CallSnd P B w0 (callOf P orc rec) := call_sound hP horc hrec; have hys : YieldSound P B w0 (fsYield rec) := yield_sound hrec; have hold := step_sound hP horc hrec; intro rnd c fr h e fr' h' hok hf
  cases c with
  | region id ops draw =>
    cases draw with
    | false => exact hold rnd _ fr h e fr' h' hok hf
    | true =>
      intro ρ S w a nn Q hr ht hm hs k; simp only [fsStepX] at hf; split at hf
      · rename_i s hrun; simp only [Option.some.injEq, Prod.mk.injEq] at hf; obtain ⟨rfl, rfl, rfl⟩ := hf; refine wpIn_region_draw fun t => ?_; rw [hP.mixed]; exact drawn_wpX (h0 := { next := h.next, low := h.next, objs := h.objs }) (call := callOf P orc rec) (yield := fsYield rec) hcs hys hok hrun ((hr.drew _).low _) ht (fun ρ1 w1 a1 m1 ht1 hd1 => k _ _ _ ⟨(Moved.ofDrew m1).lowered, ht1, by rw [hd1]; exact hm.mono fun b hb => ⟨.inl hb, m1.agree b hb⟩⟩) t
      split at hf
      · rename_i s hrun; simp only [Option.some.injEq, Prod.mk.injEq] at hf; obtain ⟨rfl, rfl, rfl⟩ := hf; refine wpIn_region_draw fun t => ?_; rw [hP.mixed]; exact drawn_wpY (h0 := { next := h.next, low := h.next, objs := h.objs }) (call := callOf P orc rec) (yield := fsYield rec) hcs hys hok hrun ((hr.drew _).low _) ht (fun ρ1 w1 a1 m1 ht1 hd1 => k _ _ _ ⟨(Moved.ofDrew m1).lowered, ht1, by rw [hd1]; exact hm.mono fun b hb => ⟨.inl hb, m1.agree b hb⟩⟩) t
      exact hold rnd _ fr h e fr' h' hok hf ρ S w a nn Q hr ht hm hs k
  | _ => exact hold rnd _ fr h e fr' h' hok hf
theorem codeX_sound (hP : ProgOk P) {orc : FuncId → List Value → Heap → Option (Value × Heap)} (horc : CallSound P B w0 orc) : ∀ m, SoundR P B w0 m (fsCodeX P orc m)
  | 0 => fun rnd c fr h e fr' h' _ hf => by cases hf
  | m + 1 => stepX_sound hP horc (codeX_sound hP horc m)
end Go.Fs
namespace Go.Fs
variable {P : Program} {orc : FuncId → List Value → Heap → Option (Value × Heap)}
def runPre (P : Program) (orc : FuncId → List Value → Heap → Option (Value × Heap)) : Nat → Nat → Code → Fr → Heap → Option (Nat × Code × Fr × Heap)
  | 0, n, c, fr, h => some (n, c, fr, h)
  | k + 1, n, c, fr, h => match n, c with
    | n + 1, .seq a b => match fsCodeX P orc n none a fr h with
      | some (.normal, fr1, h1) => runPre P orc k n b fr1 h1
      | _ => none
    | _, _ => none
def endV (P : Program) (fn : Func) (h : Heap) (x : Ex × Fr × Heap) : Option Value :=
  bif x.1.goes then
    match dropMarks x.2.1.marks x.2.2 with
    | some h2 => (fsResults P x.2.1.t h2 fn.results.toList).map tupled
    | none => none
  else none
theorem enter_map {rec : Rec} {f : FuncId} {args : List Value} {h : Heap} {fn : Func} {c : Code} (hf : P.funcs[f]? = some fn) (hc : fn.body = some c) (hn : (Nat.blt 4000 fn.ntmps || Nat.blt fn.ntmps args.length) = false) :
    (fsEnter P rec f args h).map (·.1) = (rec none c ⟨fillTr .leaf 0 args, fn.ntmps, []⟩ { next := h.next, low := h.next, objs := h.objs }).bind (endV P fn h) := by
  unfold fsEnter fsEnterK endV; simp only [hf, hc, hn, cond_false]
  cases rec none c ⟨fillTr .leaf 0 args, fn.ntmps, []⟩ { next := h.next, low := h.next, objs := h.objs } with
  | none => rfl
  | some x =>
    obtain ⟨e, fr, h1⟩ := x; simp only [Option.bind_some]
    cases e.goes with
    | false => rfl
    | true =>
      simp only [cond_true]
      cases dropMarks fr.marks h1 with
      | none => rfl
      | some h2 =>
        simp only
        cases fsResults P fr.t h2 fn.results.toList with
        | none => rfl
        | some vs =>
          simp only [Option.map_some]; generalize (!false && (af (tupled vs) && Nat.ble h.next h2.low)) = q; cases q <;> rfl
def sufx : Nat → Code → Code
  | 0, c => c
  | k + 1, .seq _ b => sufx k b
  | _ + 1, c => c
end Go.Fs
namespace Go.Fs
open Go.RowKit (Below)
variable {P : Program}
def gv : Value → Bool
  | .func (.func _) ⟨[]⟩ ⟨[]⟩ => true
  | v => af0 v
theorem VR.of_gv {ρ : Ren} {S : Nat → Prop} {v : Value} (h : gv v = true) : VR ρ S v v := by
  unfold gv at h; split at h
  · exact .func _ _ _ _ _ rfl (fun i h => absurd h (by simp)) rfl (fun i h => absurd h (by simp))
  exact .lit h
def gHeap (n : Nat) (L : List (Nat × TypeId × List Value)) : Heap := ⟨n, n, L.map fun x => (x.1 + 1, .row x.2.1 x.2.2 false true)⟩
def globR (P : Program) : Ren := fun b => Loc.clean (b - 1) 0 0 (P.cellsOf (((P.globals[b - 1]?).map (·.type)).getD 0))
structure GlobW (P : Program) (B : Nat) (w : World) (x : Nat × TypeId × List Value) : Prop where
  type : (P.globals[x.1]?).map (·.type) = some x.2.1
  only : ∀ (g : Nat) gl, P.globals[g]? = some gl → gl.type = x.2.1 → g = x.1
  block : x.1 < B
  cells : ∀ i, i < x.2.2.length → w.cell? ⟨x.1, i, none⟩ = some (x.2.2.getD i undef)
  vals : x.2.2.all gv = true
theorem GlobW.below {B : Nat} {w w' : World} {x : Nat × TypeId × List Value} (h : GlobW P B w x) (hb : Below B w w') : GlobW P B w' x :=
  ⟨h.type, h.only, h.block, fun i hi => (World.cell?_of_block (a := ⟨x.1, i, none⟩) (hb.block _ h.block)).trans (h.cells i hi), h.vals⟩
theorem gHeap_get {n : Nat} : ∀ {L : List (Nat × TypeId × List Value)} {i : Nat} {o : AObj}, (gHeap n L).get i = some o → ∃ x ∈ L, i = x.1 + 1 ∧ o = .row x.2.1 x.2.2 false true
  | [], i, o, h => by cases h
  | x :: L, i, o, h => by
    simp only [gHeap, Heap.get, List.map_cons, look] at h
    cases hb : Nat.beq (x.1 + 1) i with
    | true =>
      rw [hb] at h
      exact ⟨x, List.mem_cons_self, (nbeq hb).symm, (Option.some.inj h).symm⟩
    | false =>
      rw [hb] at h; obtain ⟨y, hy, h1, h2⟩ := gHeap_get (n := n) (L := L) (i := i) (o := o) h; exact ⟨y, List.mem_cons_of_mem _ hy, h1, h2⟩
theorem gHeap_hr {w : World} {n : Nat} {L : List (Nat × TypeId × List Value)} (hn : ∀ x ∈ L, x.1 + 1 < n) (hp : 0 < n) (hL : ∀ x ∈ L, GlobW P w.heap.size w x) :
    HR P (globR P) (fun b => ∃ x ∈ L, b = x.1 + 1) w.heap.size (wz w) (gHeap n L) w where
  objs := fun i o hi => by
    obtain ⟨x, hx, rfl, rfl⟩ := gHeap_get hi; have h := hL x hx; refine ⟨⟨x, hx, rfl⟩, ?_, fun j hj => ?_, fun _ g gl h1 h2 => ?_⟩
    · show P.cellsOf (((P.globals[x.1 + 1 - 1]?).map (·.type)).getD 0) = _; rw [Nat.add_sub_cancel, h.type]; rfl
    · refine ⟨x.2.2.getD j undef, ?_, .of_gv (List.all_eq_true.1 h.vals _ (mem_getD hj))⟩; show w.cell? ⟨x.1 + 1 - 1, 0 + j, none⟩ = _; rw [Nat.add_sub_cancel, Nat.zero_add]; exact h.cells j hj
    exact ⟨(h.only g gl h1 h2).symm, rfl⟩
  inj := fun i j oi oj hi _ ho => by
    obtain ⟨x, hx, rfl, rfl⟩ := gHeap_get hi; cases ho
  base := fun i o hi ho => by
    obtain ⟨x, hx, rfl, rfl⟩ := gHeap_get hi; cases ho
  ro := fun i o hi _ => by
    obtain ⟨x, hx, rfl, rfl⟩ := gHeap_get hi; exact (hL x hx).block
  ids := fun b ⟨x, hx, hb⟩ => by
    subst hb; exact ⟨hn x hx, Nat.succ_ne_zero _⟩
  pos := hp
  below := z_below (Below.refl _ _)
  drawn := Nat.zero_le _
  size := Nat.le_refl _
end Go.Fs
namespace Go.Fs
open Go.RowKit (Below)
variable {P : Program} {ρ ρ' : Ren} {S S' : Nat → Prop} {B : Nat} {w0 w w' w1 w2 : World} {h h' h1 h2 : Heap}
def gcL (n0 : Nat) (keep : List Nat) : List (Nat × AObj) → List (Nat × AObj)
  | [] => []
  | x :: r => bif Nat.blt x.1 n0 || keep.any (Nat.beq x.1) then x :: gcL n0 keep r else gcL n0 keep r
def gcH (n0 : Nat) (keep : List Nat) (h : Heap) : Heap := ⟨h.next, h.low, gcL n0 keep h.objs⟩
theorem gc_some {n0 : Nat} {keep : List Nat} {i : Nat} {o : AObj} : ∀ {L : List (Nat × AObj)}, look (gcL n0 keep L) i = some o → look L i = some o
  | [], h => h
  | x :: L, h => by
    unfold gcL at h
    cases hk : (Nat.blt x.1 n0 || keep.any (Nat.beq x.1)) with
    | true =>
      rw [hk] at h; simp only [cond_true, look] at h ⊢
      cases hb : Nat.beq x.1 i with
      | true => rw [hb] at h; exact h
      | false => rw [hb] at h; exact gc_some h
    | false =>
      rw [hk] at h; simp only [cond_false] at h; simp only [look]
      cases hb : Nat.beq x.1 i with
      | false => exact gc_some h
      | true =>
        exfalso; have e := nbeq hb
        have hno : ∀ {L : List (Nat × AObj)}, look (gcL n0 keep L) i = none := by
          intro L
          induction L with
          | nil => rfl
          | cons y L ih =>
            unfold gcL
            cases hk2 : (Nat.blt y.1 n0 || keep.any (Nat.beq y.1)) with
            | false => exact ih
            | true =>
              simp only [cond_true, look]
              cases hb2 : Nat.beq y.1 i with
              | false => exact ih
              | true => rw [nbeq hb2, ← e, hk] at hk2; cases hk2
        rw [hno] at h; cases h
theorem gc_low {n0 : Nat} {keep : List Nat} {i : Nat} (hi : i < n0) : ∀ {L : List (Nat × AObj)}, look (gcL n0 keep L) i = look L i
  | [] => rfl
  | x :: L => by
    unfold gcL
    cases hb : Nat.beq x.1 i with
    | true =>
      have hx : Nat.blt x.1 n0 = true := by rw [nbeq hb]; show Nat.ble (i + 1) n0 = true; rw [Nat.ble_eq]; omega
      simp only [hx, Bool.true_or, cond_true, look, hb]
    | false =>
      cases hk : (Nat.blt x.1 n0 || keep.any (Nat.beq x.1)) with
      | true => simp only [cond_true, look, hb, cond_false]; exact gc_low hi
      | false => simp only [cond_false, look, hb]; exact gc_low hi
theorem HR.gc {n0 : Nat} {keep : List Nat} (hr : HR P ρ S B w0 h w) : HR P ρ S B w0 (gcH n0 keep h) w :=
  { objs := fun i o hi => hr.objs i o (gc_some hi), inj := fun i j oi oj hi hj => hr.inj i j oi oj (gc_some hi) (gc_some hj), base := fun i o hi => hr.base i o (gc_some hi), ro := fun i o hi => hr.ro i o (gc_some hi), ids := hr.ids, pos := hr.pos,
    below := hr.below, drawn := hr.drawn, size := hr.size }
theorem Moved.gc {n0 : Nat} {keep : List Nat} (hn : h.next ≤ n0) (m : Moved P B w0 ρ ρ' S h h1 w w1) : Moved P B w0 ρ ρ' S h (gcH n0 keep h1) w w1 where
  agree := m.agree
  next := m.next
  hr := m.hr.gc
  frame := m.frame
  low := m.low
  keep := fun i hi hl => (gc_low (by omega)).trans (m.keep i hi hl)
  old := fun i o hi hl => m.old i o (gc_some hi) hl
  fresh := fun i o hi hl => m.fresh i o (gc_some hi) hl
def runG (P : Program) (orc : FuncId → List Value → Heap → Option (Value × Heap)) (n0 : Nat) : List (Nat × List Nat) → Nat → Code → Fr → Heap → Option (Ex × Fr × Heap)
  | [], n, c, fr, h => fsCodeX P orc n none c fr h
  | (k, keep) :: ks, n, c, fr, h => match runPre P orc k n c fr h with
    | some (n1, c1, fr1, h1) => runG P orc n0 ks n1 c1 fr1 (gcH n0 keep h1)
    | none => none
theorem pre_sound (hP : ProgOk P) {orc : FuncId → List Value → Heap → Option (Value × Heap)} (horc : CallSound P B w0 orc) : ∀ {k n : Nat} {c : Code} {fr : Fr} {h : Heap} {n1 : Nat} {c1 : Code} {fr1 : Fr} {h1 : Heap}, codeOk c = true → runPre P orc k n c fr h = some (n1, c1, fr1, h1) →
    codeOk c1 = true ∧ ∀ {ρ : Ren} {S : Nat → Prop} {w : World} {a : Act} {nn : Nat} {Q : Exit → Act → World → Prop}, HR P ρ S B w0 h w → TrR ρ S fr.t fr.n a.tmps → MarksR ρ S fr.marks a.defers →
      (∀ ρ' w' a', Post P B w0 ρ ρ' S h w fr1 h1 w' a' → c1.wpIn (Wide none) nn P Q a' w') → c.wpIn (Wide none) nn P Q a w
  | 0, n, c, fr, h, n1, c1, fr1, h1, hok, hr => by
    simp only [runPre, Option.some.injEq, Prod.mk.injEq] at hr; obtain ⟨rfl, rfl, rfl, rfl⟩ := hr
    exact ⟨hok, fun hR ht hm k => k _ _ _ ⟨Moved.same hR, ht.mono fun b hb => ⟨.inl hb, rfl⟩, hm.mono fun b hb => ⟨.inl hb, rfl⟩⟩⟩
  | k + 1, n, c, fr, h, n1, c1, fr1, h1, hok, hr => by
    simp only [runPre] at hr; split at hr
    · rename_i n x y; split at hr
      · rename_i fr2 h2 hx; obtain ⟨ok1, ok2⟩ := band (show (codeOk x && codeOk y) = true from hok); obtain ⟨g1, g2⟩ := pre_sound hP horc ok2 hr; refine ⟨g1, fun {ρ S w a nn Q} hR ht hm kk => wpIn_seq ?_⟩; refine (codeX_sound hP horc n none x fr h _ fr2 h2 ok1 hx ρ S w a nn _ hR ht hm (fun l hl => by cases hl) fun ρ1 w1 a1 p1 => ?_).wpIn; show y.wpIn (Wide none) nn P Q a1 w1; exact g2 p1.moved.hr p1.tmps p1.marks fun ρ2 w2 a2 p2 => kk _ _ _ (Post.trans (fr1 := fr2) (a1 := a1) p1.moved p2)
      cases hr
    cases hr
theorem runG_sound (hP : ProgOk P) {orc : FuncId → List Value → Heap → Option (Value × Heap)} (horc : CallSound P B w0 orc) {n0 : Nat} : ∀ {ks : List (Nat × List Nat)} {n : Nat} {c : Code} {fr : Fr} {h : Heap} {e : Ex} {fr' : Fr} {h' : Heap}, codeOk c = true → runG P orc n0 ks n c fr h = some (e, fr', h') →
    ∀ {g : Heap} {ρ0 ρ : Ren} {S : Nat → Prop} {w w' : World} {a : Act} {nn : Nat} {Q : Exit → Act → World → Prop}, g.next ≤ n0 → Moved P B w0 ρ0 ρ S g h w w' → TrR ρ (Ext S g h) fr.t fr.n a.tmps → MarksR ρ (Ext S g h) fr.marks a.defers →
      (∀ ρ' w2 a', Post P B w0 ρ0 ρ' S g w fr' h' w2 a' → Q (exOf e) a' w2) → c.wpIn (Wide none) nn P Q a w'
  | [], n, c, fr, h, e, fr', h', hok, hr, g, ρ0, ρ, S, w, w', a, nn, Q, hg, m, ht, hm, k =>
    (codeX_sound hP horc n none c fr h e fr' h' hok hr ρ _ w' a nn Q m.hr ht hm (fun l hl => by cases hl) fun ρ1 w1 a1 p1 => k _ _ _ (Post.trans (fr1 := fr) (a1 := a) m p1)).wpIn
  | (j, keep) :: ks, n, c, fr, h, e, fr', h', hok, hr, g, ρ0, ρ, S, w, w', a, nn, Q, hg, m, ht, hm, k => by
    simp only [runG] at hr; split at hr
    · rename_i n1 c1 fr1 h1 hx; obtain ⟨g1, g2⟩ := pre_sound hP horc hok hx; refine g2 m.hr ht hm fun ρ1 w1 a1 p1 => ?_; have q := Post.trans (fr1 := fr) (a1 := a) m p1; exact runG_sound hP horc g1 hr hg (q.moved.gc hg) q.tmps q.marks k
    cases hr
def fsG (P : Program) (orc : FuncId → List Value → Heap → Option (Value × Heap)) (n0 n : Nat) (ks : List (Nat × List Nat)) : Rec := fun rnd c fr h =>
  match rnd, c with
  | none, .seq x y => bif Nat.ble h.next n0 then runG P orc n0 ks n (.seq x y) fr h else none
  | _, _ => none
def isSeq : Code → Bool
  | .seq _ _ => true
  | _ => false
theorem fsG_eq {orc : FuncId → List Value → Heap → Option (Value × Heap)} {n0 n : Nat} {ks : List (Nat × List Nat)} {c : Code} {fr : Fr} {h : Heap} (hc : isSeq c = true) (hn : Nat.ble h.next n0 = true) : fsG P orc n0 n ks none c fr h = runG P orc n0 ks n c fr h := by
  cases c with
  | seq x y =>
    show (bif Nat.ble h.next n0 then _ else _) = _
    rw [hn]; rfl
  | _ => cases hc
theorem fsG_sound (hP : ProgOk P) {orc : FuncId → List Value → Heap → Option (Value × Heap)} (horc : CallSound P B w0 orc) {n0 n : Nat} {ks : List (Nat × List Nat)} : SoundR P B w0 0 (fsG P orc n0 n ks) := by
  intro rnd c fr h e fr' h' hok hf ρ S w a nn Q hr ht hm hs k; unfold fsG at hf; split at hf
  · rename_i x y; obtain ⟨hn, hq⟩ := bif_some hf; show Code.wpIn (Wide none) nn P (.seq x y) Q a w; exact runG_sound hP horc hok hq (nble hn) (Moved.same hr) (ht.mono fun b hb => ⟨.inl hb, rfl⟩) (hm.mono fun b hb => ⟨.inl hb, rfl⟩) k
  cases hf
theorem run_viaG {orc : FuncId → List Value → Heap → Option (Value × Heap)} {n0 k n : Nat} {keep : List Nat} {ks : List (Nat × List Nat)} {c : Code} {fr : Fr} {h : Heap} {n' : Nat} {c' : Code} {fr' : Fr} {h' : Heap} (hr : (runPre P orc k n c fr h).map (fun x => (x.1, x.2.1, x.2.2.1, gcH n0 keep x.2.2.2)) = some (n', c', fr', h')) : runG P orc n0 ((k, keep) :: ks) n c fr h = runG P orc n0 ks n' c' fr' h' := by
  simp only [runG]
  cases hx : runPre P orc k n c fr h with
  | none => rw [hx] at hr; cases hr
  | some x =>
    obtain ⟨n1, c1, fr1, h1⟩ := x; rw [hx] at hr; simp only [Option.map_some, Option.some.injEq, Prod.mk.injEq] at hr; obtain ⟨rfl, rfl, rfl, rfl⟩ := hr; rfl
theorem gcG_closed (hP : ProgOk P) {w : World} {orc : FuncId → List Value → Heap → Option (Value × Heap)} (horc : CallSound P w.heap.size (wz w) orc) {ρ : Ren} {S : Nat → Prop} {g : Heap} (hr : HR P ρ S w.heap.size (wz w) g w) {n0 n : Nat} {ks : List (Nat × List Nat)} {f : FuncId} {args : List Value} {v : Value} (ha : args.all af = true)
    (hf : (fsEnter P (fsG P orc n0 n ks) f args g).map (·.1) = some v) (hv : af v = true) :
    Calls P f args.toArray w fun | .returned v', w' => v' = v ∧ Below w.heap.size w w' | _, _ => False := by
  obtain ⟨⟨v0, h1⟩, h2, h3⟩ := Option.map_eq_some_iff.1 hf; simp only at h3; subst h3; have hc := ((enter_sound hP (fsG_sound hP horc)) f args _ _ _ h2).2 _ _ w args hr ⟨rfl, fun i hi => .of_af (List.all_eq_true.1 ha _ (mem_getD hi))⟩ 0; refine Calls.mono (callsIn_wide.1 hc) fun e w' he => ?_
  cases e with
  | returned v' =>
    obtain ⟨ρ', m1, hv1⟩ := he
    exact ⟨hv1.eq_of_af hv, below_z m1.hr.below⟩
  | panicked c => exact he.elim
  | outgrown => exact he.elim
theorem awakeGc_calls (hP : ProgOk P) {B : Nat} {w0 : World} {O : FuncId → List Value → Heap → Option (Value × Heap)} {fa : FuncId} {n : Nat} {L : List (Nat × TypeId × List Value)} (hn : ∀ x ∈ L, x.1 + 1 < n) (hp : 0 < n) (hL : ∀ x ∈ L, GlobW P B w0 x) (hB : ∀ w, Below B w0 w → B ≤ w.heap.size) (hS : ∀ w, Below B w0 w → CallSound P w.heap.size (wz w) O) {n0 m : Nat} {ks : List (Nat × List Nat)}
    (hrun : (fsEnter P (fsG P O n0 m ks) fa [] (gHeap n L)).map (·.1) = some (.bool true)) (w : World) (hw : Below B w0 w) :
    Calls P fa #[] w fun | .returned v', w' => v' = .bool true ∧ Below w.heap.size w w' | _, _ => False :=
  gcG_closed hP (hS w hw) (gHeap_hr hn hp fun x hx => let h := (hL x hx).below hw; ⟨h.type, h.only, Nat.lt_of_lt_of_le h.block (hB w hw), h.cells, h.vals⟩) (args := []) rfl hrun rfl
end Go.Fs
namespace Go.Fs
open Go.RowKit (Below)
variable {P : Program} {B : Nat} {w0 : World}
theorem orcI_sound {fi : FuncId} (hz : w0.drawn = 0) (hi : Enters P fi)
    (hI : ∀ (n : Int) (w : World), Below B w0 w → -9223372036854775808 ≤ n → n ≤ 9223372036854775807 → Calls P fi #[.int .i64 n] w fun e w' => e = .returned (.string ⟨(Lib.itoa n).toArray⟩) ∧ Below w.heap.size w w') : CallSound P B w0 (orcS fi fi) := by
  intro f xs h v h' hf; unfold orcS at hf
  cases hfi : Nat.beq f fi with
  | true =>
    have := nbeq hfi; subst this; rw [hfi] at hf; simp only [cond_true] at hf; split at hf
    · rename_i n; obtain ⟨hc, hf2⟩ := bif_some hf; obtain ⟨h0, h1⟩ := band hc; have h0 := of_decide_eq_true h0; have h1 := of_decide_eq_true h1; simp only [Option.some.injEq, Prod.mk.injEq] at hf2; obtain ⟨rfl, rfl⟩ := hf2; refine ⟨hi, fun ρ S w args' hr ha nn => ?_⟩; have he : args' = [.int .i64 n] := ha.eq_of_af (by rfl); subst he; have hC : CallsIn Fence.wide nn P f #[.int .i64 n] w _ := callsIn_wide.2 (hI n w hr.below (by omega) (by omega)); refine hC.mono fun e w' hret => ?_; obtain ⟨rfl, hb⟩ := hret; exact ⟨ρ, Moved.grewWorld hr hb (by rw [hz]; exact Nat.zero_le _), by rw [itoaF_eq h0 h1]; exact .lit rfl⟩
    cases hf
  | false =>
    rw [hfi] at hf; simp only [cond_false] at hf; cases hf
end Go.Fs
namespace Go.Proofs
open Go.Shelf
def Tryz.lays156_ren : Go.Shelf.Ren := ⟨fun | 156 => 43 | 165 => 91 | 166 => 42 | 169 => 46 | 240 => 90 | 241 => 136 | 276 => 135 | 277 => 162 | n => n, fun | 31 => 48 | 9 => 9 | 3 => 3 | 4 => 4 | 0 => 0 | 20 => 20 | 72 => 91 | 76 => 94 | 70 => 88 | 37 => 89 | 75 => 93 | 127 => 151 | 164 => 186 | 5 => 5 | 80 => 104 | n => n, fun | n => n⟩
theorem Tryz.lays156 : Go.Proofs.Lays.n156 Tryz.prog Tryz.lays156_ren := {
  mixed := by kernel_rfl
  f156 := Tryz.func43.trans (congrArg some (by kernel_rfl))
  f165 := Tryz.func91.trans (congrArg some (by kernel_rfl))
  f166 := Tryz.func42.trans (congrArg some (by kernel_rfl))
  f169 := Tryz.func46.trans (congrArg some (by kernel_rfl))
  f240 := Tryz.func90.trans (congrArg some (by kernel_rfl))
  f241 := Tryz.func136.trans (congrArg some (by kernel_rfl))
  f276 := Tryz.func135.trans (congrArg some (by kernel_rfl))
  f277 := Tryz.func162.trans (congrArg some (by kernel_rfl))
  t0 := Tryz.underlying0
  a0 := Tryz.isAgg0
  z0 := Tryz.sizeOf0
  v0 := Tryz.zeroValue0
  t3 := Tryz.underlying3
  a3 := Tryz.isAgg3
  z3 := Tryz.sizeOf3
  v3 := Tryz.zeroValue3
  t4 := Tryz.underlying4
  a4 := Tryz.isAgg4
  z4 := Tryz.sizeOf4
  v4 := Tryz.zeroValue4
  t9 := Tryz.underlying9
  a9 := Tryz.isAgg9
  z9 := Tryz.sizeOf9
  v9 := Tryz.zeroValue9
  t20 := Tryz.underlying20
  a20 := Tryz.isAgg20
  z20 := Tryz.sizeOf20
  v20 := Tryz.zeroValue20
  t31 := Tryz.underlying48
  a31 := Tryz.isAgg48
  z31 := Tryz.sizeOf48
  v31 := Tryz.zeroValue48
  t37 := Tryz.underlying89
  a37 := Tryz.isAgg89
  z37 := Tryz.sizeOf89
  v37 := Tryz.zeroValue89
  t70 := Tryz.underlying88
  a70 := Tryz.isAgg88
  z70 := Tryz.sizeOf88
  v70 := Tryz.zeroValue88
  t72 := Tryz.underlying91
  a72 := Tryz.isAgg91
  z72 := Tryz.sizeOf91
  v72 := Tryz.zeroValue91
  t75 := Tryz.underlying93
  a75 := Tryz.isAgg93
  z75 := Tryz.sizeOf93
  v75 := Tryz.zeroValue93
  t76 := Tryz.underlying94
  a76 := Tryz.isAgg94
  z76 := Tryz.sizeOf94
  v76 := Tryz.zeroValue94
  t127 := Tryz.underlying151
  a127 := Tryz.isAgg151
  z127 := Tryz.sizeOf151
  v127 := Tryz.zeroValue151
  t164 := Tryz.underlying186
  a164 := Tryz.isAgg186
  z164 := Tryz.sizeOf186
  v164 := Tryz.zeroValue186 }
theorem Tryz.Builder_Extra_156 : Builder.Extra Tryz.prog Tryz.lays156_ren := {
  sizeBuilder := by kernel_rfl
  liesBuilder := by kernel_rfl
  t5 := Tryz.underlying5
  a5 := Tryz.isAgg5
  z5 := Tryz.sizeOf5
  v5 := Tryz.zeroValue5
  infoByte := by kernel_rfl
  cellsByte := by kernel_rfl
  sizeByte := by kernel_rfl
  neB5 := by decide }
open Go.RowKit in
/-- strings.Join: "Join concatenates the elements of its first argument to create a single string. The separator string sep is placed between elements in the resulting string.": HOWEVER MANY ELEMENTS. Below the heap's end the world is asl it was. (LAID: no walk: one application.) -/
theorem Tryz.strings_Join (bk o c : Nat) (xs : List ByteArray) (sep : ByteArray) (w : World) (hcells : ∀ (j : Nat) x, xs[j]? = some x → w.cell? ⟨bk, o + j, none⟩ = some (.string x)) (hbk : bk < w.heap.size) (hN : xs.length ≤ 140737488355328) (hcap : xs.length ≤ c) (hlen : (Lib.join (xs.map (·.data.toList)) sep.data.toList).length ≤ 140737488355328) :
    Calls Tryz.prog 43 #[.slice (some ⟨bk, o, none⟩) xs.length c, .string sep] w fun e w' => e = .returned (.string ⟨(Lib.join (xs.map (·.data.toList)) sep.data.toList).toArray⟩) ∧ Below w.heap.size w w' := Any.strings_Join Tryz.lays156 Tryz.Builder_Extra_156 bk o c xs sep w hcells hbk hN hcap hlen
def Tryz.laysM243_ren : Go.Shelf.Ren := ⟨fun | 243 => 92 | 246 => 137 | 283 => 163 | 284 => 164 | 285 => 165 | 286 => 166 | 129 => 184 | 317 => 187 | 318 => 188 | 319 => 189 | 320 => 190 | 337 => 202 | 338 => 203 | n => n, fun | 3 => 3 | 9 => 9 | 2 => 2 | 4 => 4 | 171 => 206 | 0 => 0 | 53 => 207 | 37 => 89 | 5 => 5 | 173 => 210 | 212 => 228 | 51 => 223 | 20 => 20 | 213 => 229 | 46 => 195 | 232 => 246 | 233 => 247 | n => n, fun | 17 => 1 | 18 => 4 | 19 => 5 | n => n⟩
theorem Tryz.laysM243 : Go.Proofs.LaysM.n243 Tryz.prog Tryz.laysM243_ren := {
  mixed := by kernel_rfl
  f129 := Tryz.func184.trans (congrArg some (by kernel_rfl))
  f243 := Tryz.func92.trans (congrArg some (by kernel_rfl))
  f246 := Tryz.func137.trans (congrArg some (by kernel_rfl))
  f283 := Tryz.func163.trans (congrArg some (by kernel_rfl))
  f284 := Tryz.func164.trans (congrArg some (by kernel_rfl))
  f285 := Tryz.func165.trans (congrArg some (by kernel_rfl))
  f286 := Tryz.func166.trans (congrArg some (by kernel_rfl))
  f317 := Tryz.func187.trans (congrArg some (by kernel_rfl))
  f318 := Tryz.func188.trans (congrArg some (by kernel_rfl))
  f319 := Tryz.func189.trans (congrArg some (by kernel_rfl))
  f320 := Tryz.func190.trans (congrArg some (by kernel_rfl))
  f337 := Tryz.func202.trans (congrArg some (by kernel_rfl))
  f338 := Tryz.func203.trans (congrArg some (by kernel_rfl))
  t0 := Tryz.underlying0
  a0 := Tryz.isAgg0
  z0 := Tryz.sizeOf0
  v0 := Tryz.zeroValue0
  t2 := Tryz.underlying2
  a2 := Tryz.isAgg2
  z2 := Tryz.sizeOf2
  v2 := Tryz.zeroValue2
  t3 := Tryz.underlying3
  a3 := Tryz.isAgg3
  z3 := Tryz.sizeOf3
  v3 := Tryz.zeroValue3
  t4 := Tryz.underlying4
  a4 := Tryz.isAgg4
  z4 := Tryz.sizeOf4
  v4 := Tryz.zeroValue4
  t5 := Tryz.underlying5
  a5 := Tryz.isAgg5
  z5 := Tryz.sizeOf5
  v5 := Tryz.zeroValue5
  t9 := Tryz.underlying9
  a9 := Tryz.isAgg9
  z9 := Tryz.sizeOf9
  v9 := Tryz.zeroValue9
  t20 := Tryz.underlying20
  a20 := Tryz.isAgg20
  z20 := Tryz.sizeOf20
  v20 := Tryz.zeroValue20
  t37 := Tryz.underlying89
  a37 := Tryz.isAgg89
  z37 := Tryz.sizeOf89
  v37 := Tryz.zeroValue89
  t46 := Tryz.underlying195
  a46 := Tryz.isAgg195
  z46 := Tryz.sizeOf195
  v46 := Tryz.zeroValue195
  t51 := Tryz.underlying223
  a51 := Tryz.isAgg223
  z51 := Tryz.sizeOf223
  v51 := Tryz.zeroValue223
  t53 := Tryz.underlying207
  a53 := Tryz.isAgg207
  z53 := Tryz.sizeOf207
  v53 := Tryz.zeroValue207
  t171 := Tryz.underlying206
  a171 := Tryz.isAgg206
  z171 := Tryz.sizeOf206
  v171 := Tryz.zeroValue206
  t173 := Tryz.underlying210
  a173 := Tryz.isAgg210
  z173 := Tryz.sizeOf210
  v173 := Tryz.zeroValue210
  t212 := Tryz.underlying228
  a212 := Tryz.isAgg228
  z212 := Tryz.sizeOf228
  v212 := Tryz.zeroValue228
  t213 := Tryz.underlying229
  a213 := Tryz.isAgg229
  z213 := Tryz.sizeOf229
  t232 := Tryz.underlying246
  a232 := Tryz.isAgg246
  z232 := Tryz.sizeOf246
  v232 := Tryz.zeroValue246
  t233 := Tryz.underlying247
  a233 := Tryz.isAgg247
  z233 := Tryz.sizeOf247
  v233 := Tryz.zeroValue247
  g17 := by kernel_rfl
  g18 := by kernel_rfl
  g19 := by kernel_rfl
  i0 := by kernel_rfl
  i2 := by kernel_rfl
  i3 := by kernel_rfl
  i4 := by kernel_rfl
  i5 := by kernel_rfl
  i9 := by kernel_rfl
  i20 := by kernel_rfl
  i37 := by kernel_rfl
  i46 := by kernel_rfl
  i51 := by kernel_rfl
  i53 := by kernel_rfl
  i171 := by kernel_rfl
  i173 := by kernel_rfl
  i212 := by kernel_rfl
  i232 := by kernel_rfl
  i233 := by kernel_rfl
  m17 := by kernel_rfl
  m18 := by kernel_rfl
  m19 := by kernel_rfl }
open Go.RowKit Go.Sort Go.Lib in
/-- internal/strconv.Itoa: "Itoa is equivalent to FormatInt(int64(i), 10).": i's decimal numeral, for every int. (LAID: no walk: one application.) -/
theorem Tryz.internal_strconv_Itoa (n : Int) (h0 : -9223372036854775808 ≤ n) (h1 : n ≤ 9223372036854775807) (w : World) (htab : Lib.TabIs Tryz.prog w "internal/strconv.uint64pow10" .u64 Lib.pow10Tab) :
    Calls Tryz.prog 92 #[.int .i64 n] w fun e w' => e = .returned (.string ⟨(Lib.itoa n).toArray⟩) ∧ ∃ k os, w' = grow (w.drewN k) os := Any.internal_strconv_Itoa Tryz.laysM243 n h0 h1 w htab
end Go.Proofs
namespace Go.Proofs
open Go.Fs
open Go.Shelf
open Go.RowKit (Below)
theorem tzAll : (Tryz.prog.funcs.toList.all fun fn => match fn.body with | some c => codeOk c && !(fn.name == "runtime.NumGoroutine") | none => true) = true := by kernel_rfl
theorem tzMixed : Tryz.prog.follows .mixedOrders = true := by kernel_rfl
theorem tzOk : ProgOk Tryz.prog where
  mixed := tzMixed
  name := fun f fn hf hb => by
    have := List.all_eq_true.1 tzAll fn (by rw [Array.mem_toList_iff]; exact Array.mem_of_getElem? hf)
    cases hx : fn.body with
    | none => rw [hx] at hb; cases hb
    | some c => rw [hx] at this; simpa using (band this).2
  code := fun f fn c hf hb => by
    have := List.all_eq_true.1 tzAll fn (by rw [Array.mem_toList_iff]; exact Array.mem_of_getElem? hf); rw [hb] at this; exact (band this).1
theorem tzItoa : Fs.Enters Tryz.prog 92 := ⟨_, Tryz.func92, rfl, by kernel_rfl⟩
theorem tzCheck : Fs.Enters Tryz.prog 90 := ⟨_, Tryz.func90, rfl, by kernel_rfl⟩
theorem tzAwakeE : Fs.Enters Tryz.prog 6 := ⟨_, Tryz.func6, rfl, by kernel_rfl⟩
def tzRen : Go.Shelf.Ren := ⟨fun | 240 => 90 | 276 => 135 | n => n, fun | 0 => 0 | 4 => 4 | 9 => 9 | 20 => 20 | 70 => 88 | 72 => 91 | 164 => 186 | 37 => 89 | n => n, fun | n => n⟩
theorem tzLays : Go.Proofs.Lays.n240 Tryz.prog tzRen := {
  mixed := by kernel_rfl
  f240 := Tryz.func90.trans (congrArg some (by kernel_rfl))
  f276 := Tryz.func135.trans (congrArg some (by kernel_rfl))
  t0 := Tryz.underlying0
  a0 := Tryz.isAgg0
  z0 := Tryz.sizeOf0
  v0 := Tryz.zeroValue0
  t4 := Tryz.underlying4
  a4 := Tryz.isAgg4
  z4 := Tryz.sizeOf4
  v4 := Tryz.zeroValue4
  t9 := Tryz.underlying9
  a9 := Tryz.isAgg9
  z9 := Tryz.sizeOf9
  v9 := Tryz.zeroValue9
  t20 := Tryz.underlying20
  a20 := Tryz.isAgg20
  z20 := Tryz.sizeOf20
  v20 := Tryz.zeroValue20
  t70 := Tryz.underlying88
  a70 := Tryz.isAgg88
  z70 := Tryz.sizeOf88
  v70 := Tryz.zeroValue88
  t72 := Tryz.underlying91
  a72 := Tryz.isAgg91
  z72 := Tryz.sizeOf91
  v72 := Tryz.zeroValue91
  t164 := Tryz.underlying186
  a164 := Tryz.isAgg186
  z164 := Tryz.sizeOf186
  v164 := Tryz.zeroValue186 }
theorem tzX72 : Builder.X72 Tryz.prog tzRen := { sizeBuilder := by kernel_rfl, liesBuilder := by kernel_rfl }
theorem tzJoin : Fs.Enters Tryz.prog 43 := ⟨_, Tryz.func43, rfl, by kernel_rfl⟩
/-- No package variable is read. -/
def tzG : List (Nat × TypeId × List Value) := []
abbrev OB := orcB 92 43 90 91
theorem tzOrc {B : Nat} {w0 : World} (hz : w0.drawn = 0) (hB : w0.heap.size ≤ B) (ht : ∀ w, Below B w0 w → Lib.TabIs Tryz.prog w "internal/strconv.uint64pow10" .u64 Lib.pow10Tab) : CallSound Tryz.prog B w0 (orcS 92 92) :=
  orcI_sound hz tzItoa (fun n w hw h0 h1 => (Tryz.internal_strconv_Itoa n h0 h1 w (ht w hw)).mono fun e w' ⟨he, k, os, hw'⟩ => ⟨he, by rw [hw']; exact Lib.below_grow _ _ (Nat.le_refl _) _ _⟩)
theorem tzOrcJ {B : Nat} {w0 : World} (hz : w0.drawn = 0) (hB : w0.heap.size ≤ B) (ht : ∀ w, Below B w0 w → Lib.TabIs Tryz.prog w "internal/strconv.uint64pow10" .u64 Lib.pow10Tab) : CallSound Tryz.prog B w0 (orcS 92 43) :=
  orcS_sound hz tzItoa tzJoin (fun n w hw h0 h1 => (Tryz.internal_strconv_Itoa n h0 h1 w (ht w hw)).mono fun e w' ⟨he, k, os, hw'⟩ => ⟨he, by rw [hw']; exact Lib.below_grow _ _ (Nat.le_refl _) _ _⟩)
    (fun bk o c xs sep w hcells hbk hN hcap hlen => Tryz.strings_Join bk o c xs sep w hcells hbk hN hcap hlen)
theorem tzOrcB {B : Nat} {w0 : World} (hz : w0.drawn = 0) (hB : w0.heap.size ≤ B) (ht : ∀ w, Below B w0 w → Lib.TabIs Tryz.prog w "internal/strconv.uint64pow10" .u64 Lib.pow10Tab) : CallSound Tryz.prog B w0 OB :=
  orcB_sound hz (tzOrcJ hz hB ht) tzCheck (fun b w h0 h1 h2 => Any.Builder_copyCheck_fresh tzLays tzX72 b w h0 h1 h2) (fun b w h0 => Any.Builder_copyCheck_used tzLays tzX72 b w h0)
end Go.Proofs
namespace Go.Proofs
open Go.Fs
noncomputable def tzq0 : Value := .string ⟨#[115, 111, 117, 116, 104]⟩
noncomputable def tzq1 : Value := .string ⟨#[110, 111, 114, 116, 104]⟩
noncomputable def tzq2 : Value := .string ⟨#[108, 111, 99, 107]⟩
noncomputable def tzq3 : Value := .string ⟨#[121]⟩
noncomputable def tzq4 : Value := .string ⟨#[98]⟩
noncomputable def tzq5 : Value := .string ⟨#[109, 111, 100, 101, 108]⟩
noncomputable def tzq6 : Value := .string ⟨#[120]⟩
noncomputable def tzq7 : Value := .string ⟨#[]⟩
noncomputable def tzq8 : Value := .string ⟨#[97]⟩
noncomputable def tzq9 : Value := .string ⟨#[115, 97, 102, 101]⟩
noncomputable def tzq10 : Value := .string ⟨#[101, 51]⟩
noncomputable def tzq11 : Value := .string ⟨#[115, 104, 117, 116]⟩
noncomputable def tzq12 : Value := .string ⟨#[101, 49]⟩
noncomputable def tzq13 : Value := .string ⟨#[103, 97, 116, 101]⟩
noncomputable def tzq14 : Value := .string ⟨#[116, 111, 112]⟩
noncomputable def tzq15 : Value := .string ⟨#[101, 50]⟩
noncomputable def tzq16 : Value := .string ⟨#[99]⟩
noncomputable def tzn : Value := .slice none 0 0
noncomputable def tzu : Value := .tuple #[]
noncomputable def tzs (b n : Nat) : Value := .slice (some ⟨b, 0, none⟩) n 0
noncomputable def tzi (n : Int) : Value := .int .i64 n
noncomputable def tzp (b o : Nat) : Value := .pointer (some ⟨b, o, none⟩)
noncomputable def tze0 : Nat × AObj := (285, .row 36 [tzs 254 2, tzs 268 3, tzs 283 3] true false)
noncomputable def tze1 : Nat × AObj := (283, .row 102 [tzq9, .bool false, tzs 271 2, tzq11, .bool true, tzs 276 2, tzq14, .bool false, tzs 281 2] true true)
noncomputable def tze2 : Nat × AObj := (281, .row 9 [tzq9, tzq11] true true)
noncomputable def tze3 : Nat × AObj := (276, .row 9 [tzq15, tzq10] true true)
noncomputable def tze4 : Nat × AObj := (271, .row 9 [tzq12, tzq10] true true)
noncomputable def tze5 : Nat × AObj := (268, .row 101 [tzq12, tzs 258 1, tzq15, tzs 263 2, tzq10, tzn] true true)
noncomputable def tze6 : Nat × AObj := (263, .row 98 [tzq13, tzi 1, tzq5, tzi 1] true true)
noncomputable def tze7 : Nat × AObj := (258, .row 98 [tzq5, tzi 2] true true)
noncomputable def tze8 : Nat × AObj := (254, .row 98 [tzq5, tzi 3, tzq13, tzi 1] true false)
noncomputable def tzC : Code := match Tryz.f6.body with | some c => c | none => .skip
noncomputable def tzx0 : Tr := (.node (tzi 0) (.node (.bool false) .leaf .leaf) .leaf)
noncomputable def tzx1 : Tr := (.node (tzi 2) (.node (.bool false) .leaf .leaf) .leaf)
noncomputable def tzx2 : Tr := (.node (tzi 0) (.node (tzi 0) .leaf .leaf) .leaf)
noncomputable def tzx3 : Tr := (.node (.bool false) (.node (tzi 0) .leaf .leaf) .leaf)
noncomputable def tzx4 : Tr := (.node (tzi 2) (.node (tzi 0) .leaf .leaf) .leaf)
noncomputable def tzx5 : Tr := (.node (tzi 15) (.node (.bool false) .leaf .leaf) .leaf)
noncomputable def tzx6 : Tr := (.node (tzi 20) (.node (.bool false) .leaf .leaf) .leaf)
noncomputable def tzx7 : Tr := (.node (tzi 0) (.node (tzi 21) .leaf .leaf) .leaf)
noncomputable def tzx8 : Tr := (.node (tzi 15) (.node (tzi 0) .leaf .leaf) .leaf)
noncomputable def tzx9 : Tr := (.node (tzi 20) (.node (tzi 0) .leaf .leaf) .leaf)
noncomputable def tzx10 : Tr := (.node (.tuple #[tzs 25 2, tzi 0]) .leaf .leaf)
noncomputable def tzx11 : Tr := (.node (.tuple #[tzs 41 2, tzi 0]) .leaf .leaf)
noncomputable def tzx12 : Tr := (.node (.tuple #[tzs 92 2, tzi 0]) .leaf .leaf)
noncomputable def tzx13 : Tr := (.node (.tuple #[tzs 129 2, tzi 0]) .leaf .leaf)
noncomputable def tzx14 : Tr := (.node (.tuple #[tzs 239 2, tzi 0]) .leaf .leaf)
noncomputable def tzx15 : Tr := (.node (.tuple #[tzs 315 1, tzi 0]) .leaf .leaf)
noncomputable def tzx16 : Tr := (.node (.tuple #[tzs 594 2, tzi 0]) .leaf .leaf)
noncomputable def tzx17 : Tr := (.node (.tuple #[tzs 440 1, tzi 0]) .leaf .leaf)
noncomputable def tzx18 : Tr := (.node (tzq2) (.node (tzi 0) .leaf .leaf) .leaf)
noncomputable def tzx19 : Tr := (.node (tzs 41 2) (.node (.bool false) .leaf .leaf) .leaf)
noncomputable def tzx20 : Tr := (.node (tzi 0) (.node (tzs 92 2) .leaf .leaf) .leaf)
noncomputable def tzx21 : Tr := (.node (tzs 56 2) (.node (tzi 0) .leaf .leaf) .leaf)
noncomputable def tzx22 : Tr := (.node (tzs 51 3) (.node (tzi 33) .leaf .leaf) .leaf)
noncomputable def tzx23 : Tr := (.node (.bool false) (.node (tzs 315 1) .leaf .leaf) .leaf)
noncomputable def tzx24 : Tr := (.node (.bool false) (.node (.tuple #[.bool true, tzi 0]) .leaf .leaf) .leaf)
noncomputable def tzx25 : Tr := (.node (tzi 0) (.node (.tuple #[.bool true, tzi 0]) .leaf .leaf) .leaf)
noncomputable def tzx26 : Tr := (.node (tzq7) (.node (tzs 129 2) .leaf .leaf) .leaf)
noncomputable def tzx27 : Tr := (.node (.tuple #[tzi 20, tzi 0]) (.node (.bool false) .leaf .leaf) .leaf)
noncomputable def tzx28 : Tr := (.node (tzi 15) (.node (.bool false) .leaf .leaf) (.node (.bool true) .leaf .leaf))
noncomputable def tzx29 : Tr := (.node (tzi 0) (.node (.bool false) .leaf .leaf) (.node (.bool false) .leaf .leaf))
noncomputable def tzx30 : Tr := (.node (tzi 0) (.node (tzi 21) .leaf .leaf) (.node (.bool true) .leaf .leaf))
noncomputable def tzx31 : Tr := (.node (tzi 0) (.node (.bool false) .leaf .leaf) (.node (tzi 0) .leaf .leaf))
noncomputable def tzx32 : Tr := (.node (tzi 2) (.node (.bool false) .leaf .leaf) (.node (.bool false) .leaf .leaf))
noncomputable def tzx33 : Tr := (.node (tzi 0) (.node (tzi 0) .leaf .leaf) (.node (.bool false) .leaf .leaf))
noncomputable def tzx34 : Tr := (.node (tzi 20) (.node (.bool false) .leaf .leaf) (.node (.bool false) .leaf .leaf))
noncomputable def tzx35 : Tr := (.node (tzp 54 3) (.node (tzs 1 1) .leaf .leaf) .leaf)
noncomputable def tzx36 : Tr := (.node (.tuple #[tzi 15, tzi 2, tzi 0]) (.node (.bool false) .leaf .leaf) .leaf)
noncomputable def tzx37 : Tr := (.node (tzs 1 1) (.node (tzs 1 1) .leaf .leaf) .leaf)
noncomputable def tzx38 : Tr := (.node (tzs 44 1) (.node (tzs 59 2) .leaf .leaf) .leaf)
noncomputable def tzx39 : Tr := (.node (tzs 55 2) (.node (tzs 239 2) .leaf .leaf) .leaf)
noncomputable def tzx40 : Tr := (.node (tzi 0) tzx12 .leaf)
noncomputable def tzx41 : Tr := (.node (.bool false) tzx13 .leaf)
noncomputable def tzx42 : Tr := (.node (.bool false) tzx14 .leaf)
noncomputable def tzx43 : Tr := (.node (.bool false) tzx15 .leaf)
noncomputable def tzx44 : Tr := (.node (tzi 0) (.node (tzs 92 2) .leaf .leaf) (.node (.bool true) .leaf .leaf))
noncomputable def tzx45 : Tr := (.node (tzs 41 2) (.node (.bool false) .leaf .leaf) (.node (tzi 0) .leaf .leaf))
noncomputable def tzx46 : Tr := (.node (tzi 0) (.node (.tuple #[.bool true, tzi 0]) .leaf .leaf) (.node (.bool false) .leaf .leaf))
noncomputable def tzx47 : Tr := (.node (.tuple #[tzi 20, tzi 0]) (.node (.bool false) .leaf .leaf) (.node (.bool false) .leaf .leaf))
noncomputable def tzx48 : Tr := (.node (tzs 25 2) tzx14 .leaf)
noncomputable def tzx49 : Tr := (.node (.agg #[tzs 69 2, tzs 72 3, tzs 76 3]) .leaf .leaf)
noncomputable def tzx50 : Tr := (.node (.agg #[tzs 94 2, tzs 97 3, tzs 101 3]) .leaf .leaf)
noncomputable def tzx51 : Tr := (.node (.agg #[tzs 103 2, tzs 106 3, tzs 110 3]) .leaf .leaf)
noncomputable def tzx52 : Tr := (.node (.agg #[tzs 254 2, tzs 268 3, tzs 283 3]) .leaf .leaf)
noncomputable def tzx53 : Tr := (.node (.agg #[tzs 241 2, tzs 244 3, tzs 248 3]) .leaf .leaf)
noncomputable def tzx54 : Tr := (.node (.agg #[tzs 159 2, tzs 162 3, tzs 166 3]) .leaf .leaf)
noncomputable def tzx55 : Tr := (.node (.agg #[tzs 287 2, tzs 290 3, tzs 294 3]) .leaf .leaf)
noncomputable def tzx56 : Tr := (.node (tzs 51 3) (.node (tzi 33) .leaf .leaf) (.node (tzs 129 2) .leaf .leaf))
noncomputable def tzx57 : Tr := (.node (.tuple #[tzs 41 2, tzi 0]) (.node (tzi 0) .leaf .leaf) (.node (.bool false) .leaf .leaf))
noncomputable def tzx58 : Tr := (.node (tzi 0) tzx12 (.node (.bool false) .leaf .leaf))
noncomputable def tzx59 : Tr := (.node (tzs 12 2) tzx0 (.node (.bool false) .leaf .leaf))
noncomputable def tzx60 : Tr := (.node (tzu) tzx0 (.node (.bool false) (.node (.bool true) .leaf .leaf) .leaf))
noncomputable def tzx61 : Tr := (.node (.agg #[tzq16, tzq3, tzq0, tzn, tzi 30, tzi 40]) .leaf .leaf)
noncomputable def tzx62 : Tr := (.node (.agg #[tzq4, tzq3, tzq0, tzn, tzi 15, tzi 25]) .leaf .leaf)
noncomputable def tzx63 : Tr := (.node (tzp 54 3) (.node (tzs 1 1) .leaf .leaf) (.node (tzs 239 2) .leaf .leaf))
noncomputable def tzx64 : Tr := (.node (.tuple #[tzi 15, tzi 2, tzi 0]) (.node (.bool false) .leaf .leaf) (.node (tzs 317 2) .leaf .leaf))
noncomputable def tzx65 : Tr := (.node (tzs 1 1) (.node (tzs 1 1) .leaf .leaf) (.node (tzs 316 2) .leaf .leaf))
noncomputable def tzx66 : Tr := (.node (tzs 44 1) (.node (tzs 59 2) .leaf .leaf) (.node (tzs 92 2) .leaf .leaf))
noncomputable def tzx67 : Tr := (.node (.tuple #[.agg #[tzs 254 2, tzs 268 3, tzs 283 3], tzi 0]) .leaf .leaf)
noncomputable def tzx68 : Tr := (.node (tzi 0) tzx12 (.node (tzs 319 1) .leaf .leaf))
noncomputable def tzx69 : Tr := (.node (.tuple #[.agg #[tzs 689 2, tzs 703 3, tzs 718 3], tzi 0]) .leaf .leaf)
noncomputable def tzx70 : Tr := (.node (tzi 0) tzx49 .leaf)
noncomputable def tzx71 : Tr := (.node (tzi 0) tzx50 .leaf)
noncomputable def tzx72 : Tr := (.node (.bool false) tzx51 .leaf)
noncomputable def tzx73 : Tr := (.node (.bool false) tzx53 .leaf)
noncomputable def tzx74 : Tr := (.node (.bool false) tzx54 .leaf)
noncomputable def tzx75 : Tr := (.node (tzs 30 2) tzx25 (.node (tzi 2) .leaf .leaf))
noncomputable def tzx76 : Tr := (.node (.tuple #[tzq2, tzi 0]) tzx6 (.node (.bool false) .leaf .leaf))
noncomputable def tzx77 : Tr := (.node (.tuple #[tzs 25 2, tzi 0]) tzx0 (.node (.bool false) .leaf .leaf))
noncomputable def tzx78 : Tr := (.node (.agg #[tzq8, tzq6, tzq1, tzs 58 1, tzi 10, tzi 20]) .leaf .leaf)
noncomputable def tzx79 : Tr := (.node (.agg #[tzq8, tzq6, tzq1, tzs 66 1, tzi 10, tzi 20]) .leaf .leaf)
noncomputable def tzx80 : Tr := (.node (.agg #[tzq8, tzq6, tzq1, tzs 61 1, tzi 10, tzi 20]) .leaf .leaf)
noncomputable def tzx81 : Tr := (.node (.tuple #[tzq7, tzi 0]) tzx1 (.node (tzs 56 2) .leaf .leaf))
noncomputable def tzx82 : Tr := (.node (.agg #[tzq4, tzq3, tzq0, tzs 64 2, tzi 15, tzi 25]) .leaf .leaf)
noncomputable def tzx83 : Tr := (.node (.tuple #[tzq7, tzi 0]) tzx22 (.node (.bool false) .leaf .leaf))
noncomputable def tzx84 : Tr := (.node (tzi 0) tzx62 .leaf)
noncomputable def tzx85 : Tr := (.node (tzs 41 2) tzx52 .leaf)
noncomputable def tzx86 : Tr := (.node (tzs 25 2) tzx40 (.node (.bool false) .leaf .leaf))
noncomputable def tzx87 : Tr := (.node (.bool false) tzx67 .leaf)
noncomputable def tzx88 : Tr := (.node (tzu) tzx19 tzx24)
noncomputable def tzx89 : Tr := (.node (tzs 1 1) tzx27 tzx3)
noncomputable def tzx90 : Tr := (.node (tzi 0) tzx79 .leaf)
noncomputable def tzx91 : Tr := (.node (.agg #[tzq4, tzq3, tzq0, tzs 46 2, tzi 15, tzi 25]) (.node (tzi 0) .leaf .leaf) .leaf)
noncomputable def tzx92 : Tr := (.node (tzs 12 2) tzx29 tzx3)
noncomputable def tzx93 : Tr := (.node (.tuple #[tzs 25 2, tzi 0]) tzx35 (.node (.bool false) .leaf .leaf))
noncomputable def tzx94 : Tr := (.node (.tuple #[tzs 41 2, tzi 0]) tzx40 (.node (.bool false) .leaf .leaf))
noncomputable def tzx95 : Tr := (.node (tzi 0) tzx49 (.node (tzs 315 1) .leaf .leaf))
noncomputable def tzx96 : Tr := (.node (.agg #[tzq4, tzq3, tzq0, tzs 50 2, tzi 15, tzi 25]) (.node (tzs 1 1) .leaf .leaf) .leaf)
noncomputable def tzx97 : Tr := (.node (.agg #[tzq4, tzq3, tzq0, tzs 53 2, tzi 15, tzi 25]) (.node (tzs 67 1) .leaf .leaf) .leaf)
noncomputable def tzx98 : Tr := (.node (.agg #[tzq8, tzq6, tzq1, tzs 48 1, tzi 10, tzi 20]) (.node (tzs 62 1) .leaf .leaf) .leaf)
noncomputable def tzx99 : Tr := (.node (tzi 0) tzx70 (.node (tzi 15) .leaf .leaf))
noncomputable def tzx100 : Tr := (.node (.tuple #[tzi 20, tzi 0]) tzx78 .leaf)
noncomputable def tzx101 : Tr := (.node (tzs 30 2) tzx46 tzx4)
noncomputable def tzx102 : Tr := (.node (.tuple #[tzs 25 2, tzi 0]) tzx29 tzx3)
noncomputable def tzx103 : Tr := (.node (.agg #[tzq4, tzq3, tzq0, tzs 46 2, tzi 15, tzi 25]) (.node (tzi 0) .leaf .leaf) (.node (.bool true) .leaf .leaf))
noncomputable def tzx104 : Tr := (.node (tzi 0) tzx79 (.node (.bool false) .leaf .leaf))
noncomputable def tzx105 : Tr := (.node (tzi 0) tzx62 (.node (tzs 318 2) .leaf .leaf))
noncomputable def tzx106 : Tr := (.node (.tuple #[tzi 15, tzi 2, tzi 0]) tzx80 .leaf)
noncomputable def tzx107 : Tr := (.node (tzs 25 2) tzx58 tzx3)
noncomputable def tzx108 : Tr := (.node (.agg #[tzq4, tzq3, tzq0, tzs 50 2, tzi 15, tzi 25]) (.node (tzs 1 1) .leaf .leaf) (.node (.bool false) .leaf .leaf))
noncomputable def tzx109 : Tr := (.node (.agg #[tzq4, tzq3, tzq0, tzs 53 2, tzi 15, tzi 25]) (.node (tzs 67 1) .leaf .leaf) (.node (.bool false) .leaf .leaf))
noncomputable def tzx110 : Tr := (.node (.agg #[tzq8, tzq6, tzq1, tzs 48 1, tzi 10, tzi 20]) (.node (tzs 62 1) .leaf .leaf) (.node (.bool false) .leaf .leaf))
noncomputable def tzx111 : Tr := (.node (.tuple #[tzi 20, tzi 0]) tzx78 (.node (.bool false) .leaf .leaf))
noncomputable def tzx112 : Tr := (.node (.agg #[tzq8, tzq6, tzq1, tzs 3 1, tzi 10, tzi 20]) tzx0 (.node (.bool false) .leaf .leaf))
noncomputable def tzx113 : Tr := (.node (.agg #[tzq4, tzq3, tzq0, tzs 29 2, tzi 15, tzi 25]) tzx2 (.node (.bool false) .leaf .leaf))
noncomputable def tzx114 : Tr := (.node (tzq7) tzx90 (.node (.bool true) .leaf .leaf))
noncomputable def tzx115 : Tr := (.node (.agg #[tzq4, tzq3, tzq0, tzs 11 2, tzi 15, tzi 25]) tzx7 (.node (tzi 20) .leaf .leaf))
noncomputable def tzx116 : Tr := (.node (.agg #[tzi 0, tzi 50]) tzx37 tzx41)
noncomputable def tzx117 : Tr := (.node (.agg #[tzq16, tzq3, tzq0, tzn, tzi 30, tzi 40]) tzx5 (.node (tzs 41 2) .leaf .leaf))
noncomputable def tzx118 : Tr := (.node (.tuple #[tzi 15, tzi 2, tzi 0]) tzx80 (.node (.bool true) .leaf .leaf))
noncomputable def tzx119 : Tr := (.node (.tuple #[tzs 41 2, tzi 0]) tzx71 (.node (.bool false) .leaf .leaf))
noncomputable def tzx120 : Tr := (.node (tzi 0) tzx97 (.node (.bool false) .leaf .leaf))
noncomputable def tzx121 : Tr := (.node (.agg #[tzq8, tzq6, tzq1, tzs 27 1, tzi 10, tzi 20]) tzx20 (.node (.bool false) .leaf .leaf))
noncomputable def tzx122 : Tr := (.node (.tuple #[tzs 41 2, tzi 0]) tzx68 tzx3)
noncomputable def tzx123 : Tr := (.node (tzu) tzx38 tzx72)
noncomputable def tzx124 : Tr := (.node (.agg #[tzq4, tzq3, tzq0, tzs 7 2, tzi 15, tzi 25]) tzx36 (.node (.bool false) .leaf .leaf))
noncomputable def tzx125 : Tr := (.node (tzq2) tzx96 (.node (.bool true) .leaf .leaf))
noncomputable def tzx126 : Tr := (.node (tzi 0) tzx95 tzx8)
noncomputable def tzx127 : Tr := (.node (.agg #[tzq4, tzq3, tzq0, tzs 29 2, tzi 15, tzi 25]) tzx33 tzx3)
noncomputable def tzx128 : Tr := (.node (.agg #[tzq16, tzq3, tzq0, tzn, tzi 30, tzi 40]) tzx82 .leaf)
noncomputable def tzx129 : Tr := (.node (.agg #[tzq8, tzq6, tzq1, tzs 43 1, tzi 10, tzi 20]) tzx61 .leaf)
noncomputable def tzx130 : Tr := (.node (.agg #[tzq4, tzq3, tzq0, tzs 11 2, tzi 15, tzi 25]) tzx30 tzx9)
noncomputable def tzx131 : Tr := (.node (tzu) tzx100 tzx18)
noncomputable def tzx132 : Tr := (.node (.tuple #[tzs 25 2, tzi 0]) tzx63 tzx43)
noncomputable def tzx133 : Tr := (.node (.agg #[tzq8, tzq6, tzq1, tzs 27 1, tzi 10, tzi 20]) tzx44 tzx3)
noncomputable def tzx134 : Tr := (.node (.tuple #[tzq2, tzi 0]) tzx98 (.node (tzs 55 2) .leaf .leaf))
noncomputable def tzx135 : Tr := (.node (.agg #[tzq16, tzq3, tzq0, tzn, tzi 30, tzi 40]) tzx82 (.node (.bool false) .leaf .leaf))
noncomputable def tzx136 : Tr := (.node (.agg #[tzq8, tzq6, tzq1, tzs 43 1, tzi 10, tzi 20]) tzx61 (.node (.bool false) .leaf .leaf))
noncomputable def tzx137 : Tr := (.node (.agg #[tzi 0, tzi 50, tzi 1]) tzx91 tzx26)
noncomputable def tzx138 : Tr := (.node (tzu) tzx76 tzx77)
noncomputable def tzx139 : Tr := (.node (.agg #[tzq8, tzq6, tzq1, tzs 9 1, tzi 10, tzi 20]) tzx84 (.node (.bool false) .leaf .leaf))
noncomputable def tzx140 : Tr := (.node (tzi 0) tzx128 (.node (.bool false) .leaf .leaf))
noncomputable def tzx141 : Tr := (.node (tzu) tzx129 tzx41)
noncomputable def tzx142 : Tr := (.node (.agg #[tzq4, tzq3, tzq0, tzs 5 2, tzi 15, tzi 25]) tzx106 (.node (tzs 25 2) .leaf .leaf))
noncomputable def tzx143 : Tr := (.node (.agg #[tzq8, tzq6, tzq1, tzs 9 1, tzi 10, tzi 20]) tzx105 tzx23)
noncomputable def tzx144 : Tr := (.node (tzi 0) tzx123 tzx93)
noncomputable def tzx145 : Tr := (.node (tzi 0) tzx131 tzx114)
noncomputable def tzx146 : Tr := (.node (tzi 0) tzx137 tzx115)
noncomputable def tzx147 : Tr := (.node (tzs 129 2) tzx116 tzx139)
noncomputable def tzx148 : Tr := (.node (.bool true) tzx141 tzx120)
noncomputable def tzK7 : List Nat := [41, 25, 1]
noncomputable def tzT7 : Tr := (.node (.bool false) (.node (tzs 1 1) (.node (tzi 0) (.node (tzi 0) (.node (tzu) (.node (tzu) (.node (tzs 41 2) .leaf .leaf) .leaf) tzx61) (.node (tzu) (.node (.tuple #[tzq2, tzi 0]) (.node (tzi 20) .leaf .leaf) .leaf) tzx10)) (.node (tzi 0) (.node (tzu) (.node (tzu) (.node (tzs 44 1) .leaf .leaf) .leaf) tzx10) (.node (tzu) (.node (tzq2) .leaf .leaf) (.node (.agg #[tzq8, tzq6, tzq1, tzs 27 1, tzi 10, tzi 20]) .leaf .leaf)))) (.node (tzi 0) (.node (tzi 0) (.node (tzu) (.node (tzu) (.node (.tuple #[tzi 20, tzi 0]) .leaf .leaf) .leaf) (.node (tzq7) .leaf .leaf)) (.node (tzu) (.node (.agg #[tzq4, tzq3, tzq0, tzs 5 2, tzi 15, tzi 25]) .leaf .leaf) (.node (tzi 0) .leaf .leaf))) (.node (tzu) (.node (tzu) (.node (.agg #[tzi 0, tzi 50, tzi 1]) (.node (.agg #[tzq4, tzq3, tzq0, tzs 46 2, tzi 15, tzi 25]) .leaf .leaf) .leaf) (.node (.agg #[tzq4, tzq3, tzq0, tzs 11 2, tzi 15, tzi 25]) .leaf .leaf)) (.node (tzu) (.node (.tuple #[tzq7, tzi 0]) .leaf .leaf) (.node (tzs 30 2) .leaf .leaf))))) (.node (tzq2) (.node (tzq7) (.node (tzs 41 2) (.node (tzu) (.node (tzu) (.node (tzi 0) .leaf .leaf) .leaf) (.node (.tuple #[tzq7, tzi 0]) .leaf .leaf)) (.node (tzu) (.node (.agg #[tzq8, tzq6, tzq1, tzs 3 1, tzi 10, tzi 20]) (.node (tzi 0) .leaf .leaf) .leaf) (.node (tzs 25 2) .leaf .leaf))) (.node (tzu) (.node (tzu) (.node (.agg #[tzi 0, tzi 50]) (.node (tzs 1 1) .leaf .leaf) .leaf) (.node (.agg #[tzq8, tzq6, tzq1, tzs 9 1, tzi 10, tzi 20]) .leaf .leaf)) (.node (tzu) (.node (tzi 0) .leaf .leaf) (.node (.agg #[tzq4, tzq3, tzq0, tzs 29 2, tzi 15, tzi 25]) .leaf .leaf)))) (.node (tzs 25 2) (.node (tzi 20) (.node (tzu) (.node (tzu) (.node (.agg #[tzq8, tzq6, tzq1, tzs 43 1, tzi 10, tzi 20]) .leaf .leaf) .leaf) (.node (tzi 0) .leaf .leaf)) (.node (tzu) (.node (.tuple #[tzq2, tzi 0]) .leaf .leaf) tzx11)) (.node (tzu) (.node (tzu) (.node (tzs 1 1) (.node (.tuple #[tzi 20, tzi 0]) .leaf .leaf) .leaf) (.node (tzs 12 2) .leaf .leaf)) (.node (tzu) (.node (.agg #[tzq4, tzq3, tzq0, tzs 7 2, tzi 15, tzi 25]) .leaf .leaf) tzx11)))))
noncomputable def tzF7 : Fr := ⟨tzT7, 287, []⟩
noncomputable def tzO7_0 : List (Nat × AObj) := [(41, .row 9 [.string ⟨#[98, 114, 97, 107, 101]⟩, tzq1, tzq7] true true), (25, .row 9 [tzq1, tzq0] true true), (1, .row 61 [tzi 0, tzi 50, tzi 1] true false)]
noncomputable def tzL7 : List (Nat × AObj) := tzO7_0
noncomputable def tzH7 : Heap := ⟨47, 1, tzL7⟩
noncomputable def tzK11 : List Nat := []
noncomputable def tzT11 : Tr := (.node (.bool false) (.node (tzs 1 1) (.node (tzi 0) (.node (tzi 0) (.node (tzp 54 0) (.node (tzu) tzx19 (.node (.bool false) .leaf .leaf)) tzx117) tzx138) (.node (tzi 0) (.node (tzu) (.node (tzu) tzx38 (.node (.bool false) .leaf .leaf)) tzx93) (.node (tzu) tzx125 (.node (.agg #[tzq8, tzq6, tzq1, tzs 27 1, tzi 10, tzi 20]) (.node (tzi 0) .leaf .leaf) (.node (.bool false) .leaf .leaf))))) (.node (tzi 0) (.node (tzi 0) (.node (tzu) (.node (tzu) tzx100 (.node (tzq2) .leaf .leaf)) tzx114) (.node (tzu) tzx142 (.node (tzi 0) (.node (tzi 0) .leaf .leaf) (.node (tzi 15) .leaf .leaf)))) (.node (tzi 2) (.node (tzu) (.node (.agg #[tzi 0, tzi 50, tzi 1]) tzx91 (.node (tzq7) .leaf .leaf)) tzx115) (.node (tzu) tzx83 (.node (tzs 30 2) (.node (tzi 0) .leaf .leaf) (.node (tzi 2) .leaf .leaf)))))) (.node (tzq2) (.node (tzq7) (.node (tzs 41 2) (.node (tzu) (.node (tzu) tzx0 (.node (.bool false) .leaf .leaf)) tzx81) (.node (tzu) tzx112 (.node (tzs 25 2) (.node (tzi 0) .leaf .leaf) (.node (.bool false) .leaf .leaf)))) (.node (tzi 15) (.node (tzu) (.node (.agg #[tzi 0, tzi 50]) tzx37 (.node (.bool false) .leaf .leaf)) tzx139) (.node (tzu) tzx140 (.node (.agg #[tzq4, tzq3, tzq0, tzs 29 2, tzi 15, tzi 25]) (.node (tzi 0) .leaf .leaf) (.node (.bool false) .leaf .leaf))))) (.node (tzs 25 2) (.node (tzi 20) (.node (tzu) (.node (tzu) tzx129 (.node (.bool false) .leaf .leaf)) tzx120) (.node (tzu) tzx134 tzx57)) (.node (tzi 0) (.node (tzu) (.node (tzs 1 1) tzx27 (.node (.bool false) .leaf .leaf)) tzx59) (.node (tzu) tzx124 tzx57)))))
noncomputable def tzF11 : Fr := ⟨tzT11, 287, []⟩
noncomputable def tzH11 : Heap := ⟨68, 1, []⟩
noncomputable def tzK14 : List Nat := [129, 92]
noncomputable def tzT14 : Tr := (.node (.bool false) (.node (tzs 1 1) (.node (tzi 0) (.node (tzi 0) (.node (tzp 54 0) tzx88 tzx117) tzx138) (.node (tzi 0) tzx144 (.node (tzu) tzx125 tzx121))) (.node (tzi 0) (.node (tzi 0) tzx145 (.node (tzu) tzx142 tzx99)) (.node (tzi 2) tzx146 (.node (tzu) tzx83 tzx75)))) (.node (tzq2) (.node (tzq7) (.node (tzs 41 2) (.node (tzs 92 2) tzx60 tzx81) (.node (tzu) tzx112 tzx86)) (.node (tzi 15) tzx147 (.node (tzu) tzx140 tzx113))) (.node (tzs 25 2) (.node (tzi 20) tzx148 (.node (tzu) tzx134 tzx94)) (.node (tzi 0) (.node (tzu) tzx89 tzx59) (.node (tzu) tzx124 tzx119)))))
noncomputable def tzF14 : Fr := ⟨tzT14, 287, []⟩
noncomputable def tzO14_0 : List (Nat × AObj) := [(129, .row 9 [tzq12, tzq10] true true), (92, .row 9 [tzq12, tzq10] true true)]
noncomputable def tzL14 : List (Nat × AObj) := tzO14_0
noncomputable def tzH14 : Heap := ⟨158, 1, tzL14⟩
noncomputable def tzK16 : List Nat := [281, 276, 271, 283, 263, 258, 268, 254, 285, 239, 129, 92]
noncomputable def tzT16 : Tr := (.node (.bool false) (.node (tzs 1 1) (.node (tzi 0) (.node (tzi 0) (.node (tzp 54 0) tzx88 (.node (.agg #[tzq16, tzq3, tzq0, tzn, tzi 30, tzi 40]) tzx5 tzx85)) (.node (tzi 0) (.node (.tuple #[tzq2, tzi 0]) tzx6 tzx42) tzx77)) (.node (tzi 0) tzx144 (.node (tzu) (.node (tzq2) tzx96 (.node (.bool true) (.node (tzi 0) .leaf .leaf) .leaf)) tzx121))) (.node (tzi 0) (.node (tzi 0) tzx145 (.node (tzi 0) (.node (.agg #[tzq4, tzq3, tzq0, tzs 5 2, tzi 15, tzi 25]) tzx106 tzx48) tzx99)) (.node (tzi 2) tzx146 (.node (tzu) (.node (.tuple #[tzq7, tzi 0]) tzx22 tzx73) tzx75)))) (.node (tzq2) (.node (tzq7) (.node (tzs 41 2) (.node (tzs 92 2) tzx60 (.node (.tuple #[tzq7, tzi 0]) tzx1 tzx21)) (.node (tzp 285 0) (.node (.agg #[tzq8, tzq6, tzq1, tzs 3 1, tzi 10, tzi 20]) tzx0 tzx74) tzx86)) (.node (tzi 15) tzx147 (.node (tzu) (.node (tzi 0) tzx128 tzx87) tzx113))) (.node (tzs 25 2) (.node (tzi 20) tzx148 (.node (tzu) (.node (.tuple #[tzq2, tzi 0]) tzx98 tzx39) tzx94)) (.node (tzi 0) (.node (tzs 239 2) tzx89 tzx59) (.node (tzu) (.node (.agg #[tzq4, tzq3, tzq0, tzs 7 2, tzi 15, tzi 25]) tzx36 tzx87) tzx119)))))
noncomputable def tzF16 : Fr := ⟨tzT16, 287, []⟩
noncomputable def tzO16_0 : List (Nat × AObj) := [tze0, tze1, tze2, tze3, tze4, tze5, tze6, tze7, tze8, (239, .row 9 [tzq9, tzq14] true true)]
noncomputable def tzL16 : List (Nat × AObj) := tzO16_0 ++ tzL14
noncomputable def tzH16 : Heap := ⟨286, 1, tzL16⟩
noncomputable def tzK18 : List Nat := [281, 276, 271, 283, 263, 258, 268, 254, 285]
noncomputable def tzT18 : Tr := (.node (.bool false) (.node (tzs 1 1) (.node (tzi 0) (.node (tzi 0) (.node (tzp 54 0) (.node (tzu) tzx45 tzx24) (.node (.agg #[tzq16, tzq3, tzq0, tzn, tzi 30, tzi 40]) tzx28 tzx85)) (.node (tzi 0) (.node (.tuple #[tzq2, tzi 0]) tzx34 tzx42) tzx102)) (.node (tzi 0) (.node (tzi 0) (.node (tzu) tzx66 tzx72) tzx132) (.node (tzi 0) (.node (tzq2) tzx108 (.node (.bool true) (.node (tzi 0) .leaf .leaf) .leaf)) tzx133))) (.node (tzi 0) (.node (tzi 0) (.node (tzi 0) (.node (tzu) tzx111 tzx18) (.node (tzq7) tzx104 (.node (.bool true) tzx15 .leaf))) (.node (tzi 0) (.node (.agg #[tzq4, tzq3, tzq0, tzs 5 2, tzi 15, tzi 25]) tzx118 tzx48) tzx126)) (.node (tzi 2) (.node (tzi 0) (.node (.agg #[tzi 0, tzi 50, tzi 1]) tzx103 tzx26) tzx130) (.node (tzu) (.node (.tuple #[tzq7, tzi 0]) tzx56 tzx73) tzx101)))) (.node (tzq2) (.node (tzq7) (.node (tzs 41 2) (.node (tzs 92 2) (.node (tzu) tzx31 (.node (.bool false) (.node (.bool true) .leaf .leaf) .leaf)) (.node (.tuple #[tzq7, tzi 0]) tzx32 tzx21)) (.node (tzp 285 0) (.node (.agg #[tzq8, tzq6, tzq1, tzs 3 1, tzi 10, tzi 20]) tzx29 tzx74) tzx107)) (.node (tzi 15) (.node (tzs 129 2) (.node (.agg #[tzi 0, tzi 50]) tzx65 tzx41) tzx143) (.node (tzu) (.node (tzi 0) tzx135 tzx87) tzx127))) (.node (tzs 25 2) (.node (tzi 20) (.node (.bool true) (.node (tzu) tzx136 tzx41) (.node (tzi 0) tzx109 (.node (.bool false) tzx55 .leaf))) (.node (tzs 315 1) (.node (.tuple #[tzq2, tzi 0]) tzx110 tzx39) tzx122)) (.node (tzi 0) (.node (tzs 239 2) (.node (tzs 1 1) tzx47 tzx3) tzx92) (.node (tzu) (.node (.agg #[tzq4, tzq3, tzq0, tzs 7 2, tzi 15, tzi 25]) tzx64 tzx87) (.node (.tuple #[tzs 41 2, tzi 0]) tzx71 tzx3))))))
noncomputable def tzF18 : Fr := ⟨tzT18, 287, []⟩
noncomputable def tzO18_0 : List (Nat × AObj) := [tze0, tze1, tze2, tze3, tze4, tze5, tze6, tze7, tze8]
noncomputable def tzL18 : List (Nat × AObj) := tzO18_0
noncomputable def tzH18 : Heap := ⟨320, 1, tzL18⟩
noncomputable def tzK21 : List Nat := [716, 711, 706, 718, 698, 693, 703, 689, 722, 594, 440]
noncomputable def tzT21 : Tr := (.node (.bool false) (.node (tzs 1 1) (.node (tzi 0) (.node (tzi 0) (.node (tzp 54 0) (.node (tzi 0) tzx45 (.node (.bool false) (.node (.tuple #[.bool true, tzi 0]) .leaf .leaf) tzx52)) (.node (.agg #[tzq16, tzq3, tzq0, tzn, tzi 30, tzi 40]) tzx28 (.node (tzs 41 2) tzx52 (.node (.agg #[tzs 648 2, tzs 669 3, tzs 684 3]) .leaf .leaf)))) (.node (tzi 0) (.node (.tuple #[tzq2, tzi 0]) tzx34 (.node (.bool false) tzx14 (.node (.agg #[tzs 482 2, tzs 503 3, tzs 518 3]) .leaf .leaf))) tzx102)) (.node (tzi 0) (.node (tzi 0) (.node (tzu) tzx66 (.node (.bool false) tzx51 (.node (tzs 440 1) .leaf .leaf))) tzx132) (.node (tzi 0) (.node (tzq2) tzx108 (.node (.bool true) (.node (tzi 0) .leaf .leaf) (.node (tzi 0) .leaf .leaf))) tzx133))) (.node (tzi 0) (.node (tzi 0) (.node (tzi 0) (.node (tzi 0) tzx111 (.node (tzq2) (.node (tzi 0) .leaf .leaf) (.node (.agg #[tzs 373 2, tzs 394 3, tzs 409 3]) .leaf .leaf))) (.node (tzq7) tzx104 (.node (.bool true) tzx15 (.node (.agg #[tzs 689 2, tzs 703 3, tzs 718 3]) .leaf .leaf)))) (.node (tzi 0) (.node (.agg #[tzq4, tzq3, tzq0, tzs 5 2, tzi 15, tzi 25]) tzx118 (.node (tzs 25 2) tzx14 tzx16)) tzx126)) (.node (tzi 2) (.node (tzi 0) (.node (.agg #[tzi 0, tzi 50, tzi 1]) tzx103 (.node (tzq7) (.node (tzs 129 2) .leaf .leaf) tzx16)) tzx130) (.node (tzi 0) (.node (.tuple #[tzq7, tzi 0]) tzx56 (.node (.bool false) tzx53 tzx52)) tzx101)))) (.node (tzq2) (.node (tzq7) (.node (tzs 41 2) (.node (tzs 92 2) (.node (tzp 722 0) tzx31 (.node (.bool false) (.node (.bool true) .leaf .leaf) (.node (.agg #[tzs 328 2, tzs 349 3, tzs 364 3]) .leaf .leaf))) (.node (.tuple #[tzq7, tzi 0]) tzx32 (.node (tzs 56 2) (.node (tzi 0) .leaf .leaf) tzx69))) (.node (tzp 285 0) (.node (.agg #[tzq8, tzq6, tzq1, tzs 3 1, tzi 10, tzi 20]) tzx29 (.node (.bool false) tzx54 (.node (.agg #[tzs 527 2, tzs 548 3, tzs 563 3]) .leaf .leaf))) tzx107)) (.node (tzi 15) (.node (tzs 129 2) (.node (.agg #[tzi 0, tzi 50]) tzx65 (.node (.bool false) tzx13 (.node (tzi 0) .leaf .leaf))) tzx143) (.node (tzs 440 1) (.node (tzi 0) tzx135 (.node (.bool false) tzx67 tzx69)) tzx127))) (.node (tzs 25 2) (.node (tzi 20) (.node (.bool true) (.node (tzu) tzx136 (.node (.bool false) tzx13 tzx17)) (.node (tzi 0) tzx109 (.node (.bool false) tzx55 (.node (tzi 0) .leaf .leaf)))) (.node (tzs 315 1) (.node (.tuple #[tzq2, tzi 0]) tzx110 (.node (tzs 55 2) (.node (tzs 239 2) .leaf .leaf) (.node (tzs 594 2) .leaf .leaf))) tzx122)) (.node (tzi 0) (.node (tzs 239 2) (.node (tzs 1 1) tzx47 (.node (.bool false) (.node (tzi 0) .leaf .leaf) tzx52)) tzx92) (.node (tzs 594 2) (.node (.agg #[tzq4, tzq3, tzq0, tzs 7 2, tzi 15, tzi 25]) tzx64 (.node (.bool false) tzx67 (.node (.agg #[tzs 603 2, tzs 624 3, tzs 639 3]) .leaf .leaf))) (.node (.tuple #[tzs 41 2, tzi 0]) (.node (tzi 0) tzx50 tzx17) tzx3))))))
noncomputable def tzF21 : Fr := ⟨tzT21, 287, []⟩
noncomputable def tzO21_0 : List (Nat × AObj) := [(722, .row 36 [tzs 689 2, tzs 703 3, tzs 718 3] true false), (718, .row 102 [tzq9, .bool false, tzs 706 2, tzq11, .bool true, tzs 711 2, tzq14, .bool false, tzs 716 2] true true), (716, .row 9 [tzq9, tzq11] true true), (711, .row 9 [tzq15, tzq10] true true), (706, .row 9 [tzq12, tzq10] true true), (703, .row 101 [tzq12, tzs 693 1, tzq15, tzs 698 2, tzq10, tzn] true true), (698, .row 98 [tzq13, tzi 1, tzq5, tzi 1] true true), (693, .row 98 [tzq5, tzi 3] true true), (689, .row 98 [tzq5, tzi 3, tzq13, tzi 1] true false), (594, .row 9 [tzq9, tzq14] true true), (440, .row 9 [tzq12] true true)]
noncomputable def tzL21 : List (Nat × AObj) := tzO21_0
noncomputable def tzH21 : Heap := ⟨723, 1, tzL21⟩
end Go.Proofs
namespace Go.Proofs
open Go.Fs
theorem tzP7 : (runPre Tryz.prog OB 7 100000 (tzC) ⟨fillTr .leaf 0 [], Tryz.f6.ntmps, []⟩ (gHeap 1 tzG)).map (fun x => (x.1, x.2.1, x.2.2.1, gcH 1 tzK7 x.2.2.2)) = some (99993, sufx 7 tzC, tzF7, tzH7) := by kernel_rfl
end Go.Proofs
namespace Go.Proofs
open Go.Fs
theorem tzP11 : (runPre Tryz.prog OB 4 99993 (sufx 7 tzC) tzF7 tzH7).map (fun x => (x.1, x.2.1, x.2.2.1, gcH 1 tzK11 x.2.2.2)) = some (99989, sufx 11 tzC, tzF11, tzH11) := by kernel_rfl
end Go.Proofs
namespace Go.Proofs
open Go.Fs
theorem tzP14 : (runPre Tryz.prog OB 3 99989 (sufx 11 tzC) tzF11 tzH11).map (fun x => (x.1, x.2.1, x.2.2.1, gcH 1 tzK14 x.2.2.2)) = some (99986, sufx 14 tzC, tzF14, tzH14) := by kernel_rfl
end Go.Proofs
namespace Go.Proofs
open Go.Fs
theorem tzP16 : (runPre Tryz.prog OB 2 99986 (sufx 14 tzC) tzF14 tzH14).map (fun x => (x.1, x.2.1, x.2.2.1, gcH 1 tzK16 x.2.2.2)) = some (99984, sufx 16 tzC, tzF16, tzH16) := by kernel_rfl
end Go.Proofs
namespace Go.Proofs
open Go.Fs
theorem tzP18 : (runPre Tryz.prog OB 2 99984 (sufx 16 tzC) tzF16 tzH16).map (fun x => (x.1, x.2.1, x.2.2.1, gcH 1 tzK18 x.2.2.2)) = some (99982, sufx 18 tzC, tzF18, tzH18) := by kernel_rfl
end Go.Proofs
namespace Go.Proofs
open Go.Fs
theorem tzP21 : (runPre Tryz.prog OB 3 99982 (sufx 18 tzC) tzF18 tzH18).map (fun x => (x.1, x.2.1, x.2.2.1, gcH 1 tzK21 x.2.2.2)) = some (99979, sufx 21 tzC, tzF21, tzH21) := by kernel_rfl
end Go.Proofs
namespace Go.Proofs
open Go.Fs
theorem tzPe : (fsCodeX Tryz.prog OB 99979 none (sufx 21 tzC) tzF21 tzH21).bind (endV Tryz.prog Tryz.f6 (gHeap 1 tzG)) = some (.bool true) := by kernel_rfl
end Go.Proofs
namespace Go.Proofs
open Go.Fs
noncomputable def tzKs : List (Nat × List Nat) := [(7, tzK7), (4, tzK11), (3, tzK14), (2, tzK16), (2, tzK18), (3, tzK21)]
theorem tzRun : (fsEnter Tryz.prog (fsG Tryz.prog OB 1 100000 tzKs) 6 [] (gHeap 1 tzG)).map (·.1) = some (.bool true) := by
  rw [enter_map (c := tzC) Tryz.func6 rfl (by rfl)]; rw [fsG_eq (by kernel_rfl) (by kernel_rfl)]; unfold tzKs; show (runG Tryz.prog OB 1 _ 100000 tzC ⟨fillTr .leaf 0 [], Tryz.f6.ntmps, []⟩ (gHeap 1 tzG)).bind _ = _; rw [run_viaG tzP7]; rw [run_viaG tzP11]; rw [run_viaG tzP14]; rw [run_viaG tzP16]; rw [run_viaG tzP18]; rw [run_viaG tzP21]; exact tzPe
end Go.Proofs
namespace Go.Fs
open Go.RowKit (Below)
variable {P : Program} {H : Type} {enc : TypeId × Value → H} {w : World} {base : Nat} {sp : Nat → Bool} {held : Bool}
def fsB (P : Program) (ty : TypeId → Ty → Bool) : List Field → Nat → Ty → Bool
  | [f], off, .pair a .unit => Nat.beq f.offset off && Nat.beq (P.cellsOf f.type) a.size && ty f.type a
  | [f], off, τ => Nat.beq f.offset off && Nat.beq (P.cellsOf f.type) τ.size && ty f.type τ
  | f :: fs, off, .pair a b => Nat.beq f.offset off && Nat.beq (P.cellsOf f.type) a.size && ty f.type a && fsB P ty fs (off + a.size) b
  | _, _, _ => false
def arrFs (P : Program) (m : Nat) (e : TypeId) : List Field := (List.range m).map fun i => { name := "", type := e, offset := i * P.cellsOf e, embedded := false, tag := "", pkgPath := "", byteOffset := 0 }
def tyB (P : Program) : Nat → TypeId → Ty → Bool
  | 0, _, _ => false
  | n + 1, t, τ =>
    match P.underlying t, τ with
    | some (.int k), .int k' => decide (k = k')
    | some .bool, .bool => true
    | some .string, .str => true
    | some (.float k), .flt k' => decide (k = k')
    | some (.slice te), .sl e => Nat.beq (P.cellsOf te) e.size && Nat.blt 0 e.size && tyB P n te e
    | some (.struct fs), .pair a b => Nat.beq (P.cellsOf t) (Ty.pair a b).size && fsB P (tyB P n) fs.toList 0 (.pair a b)
    | some (.array m e), .pair a b => Nat.beq (P.cellsOf t) (Ty.pair a b).size && fsB P (tyB P n) (arrFs P m e) 0 (.pair a b)
    | _, _ => false
def Wf : (τ : Ty) → τ.den → Prop
  | .int k, n => (Lit.int k n).wf = true
  | .bool, _ => True
  | .str, s => s.size ≤ maxLen
  | .flt k, n => (Lit.float k n).wf = true
  | .sl e, xs => List.length xs ≤ maxLen ∧ ∀ x ∈ (xs : List e.den), Wf e x
  | .pair a b, x => Wf a x.1 ∧ Wf b x.2
  | .unit, _ => True
  | .mp _ _, _ => True
  | .fn, _ => True
  | .hnd, _ => True
structure Got (P : Program) (w : World) (ρ : Ren) (S : Nat → Prop) (h : Heap) (ρ' : Ren) (S' : Nat → Prop) (h' : Heap) : Prop where
  hr : HR P ρ' S' w.heap.size (wz w) h' w
  agree : ∀ b, S b → S' b ∧ ρ' b = ρ b
  aft : After h h'
theorem Got.refl {ρ : Ren} {S : Nat → Prop} {h : Heap} (hr : HR P ρ S w.heap.size (wz w) h w) : Got P w ρ S h ρ S h := ⟨hr, fun _ hb => ⟨hb, rfl⟩, After.refl h⟩
theorem Got.trans {ρ ρ1 ρ2 : Ren} {S S1 S2 : Nat → Prop} {h h1 h2 : Heap} (a : Got P w ρ S h ρ1 S1 h1) (b : Got P w ρ1 S1 h1 ρ2 S2 h2) : Got P w ρ S h ρ2 S2 h2 :=
  ⟨b.hr, fun i hi => let ⟨h3, h4⟩ := a.agree i hi; let ⟨h5, h6⟩ := b.agree i h3; ⟨h5, h6.trans h4⟩, a.aft.trans b.aft⟩
theorem Got.ok {ρ ρ1 : Ren} {S S1 : Nat → Prop} {h h1 : Heap} (a : Got P w ρ S h ρ1 S1 h1) : HOk h1 := fun b o hg => (a.hr.ids b (a.hr.objs b o hg).1).1
theorem hok_of {ρ : Ren} {S : Nat → Prop} {h : Heap} (hr : HR P ρ S w.heap.size (wz w) h w) : HOk h := fun b o hg => (hr.ids b (hr.objs b o hg).1).1
theorem Got.row {ρ : Ren} {S : Nat → Prop} {h : Heap} (hr : HR P ρ S w.heap.size (wz w) h w) {te : TypeId} {cs : List Value} {a : Addr} (ha : a.block < w.heap.size) (hc : ∀ i, i < cs.length → ∃ v, w.cell? ⟨a.block, a.off + i, none⟩ = some v ∧ VR ρ S (cs.getD i undef) v) :
    Got P w ρ S h (fun b => if b = h.next then (.clean a.block a.off 0 (P.cellsOf te)) else ρ b) (fun b => S b ∨ b = h.next) (h.push (.row te cs false false)) := by
  have hag : ∀ b, S b → (S b ∨ b = h.next) ∧ (fun b => if b = h.next then (Loc.clean a.block a.off 0 (P.cellsOf te)) else ρ b) b = ρ b := fun b hb => by
    have := (hr.ids b hb).1; exact ⟨.inl hb, by simp only; rw [if_neg (by omega)]⟩
  have hold : ∀ i o, (h.push (.row te cs false false)).get i = some o → (i = h.next ∧ o = .row te cs false false) ∨ (i ≠ h.next ∧ h.get i = some o) := fun i o hg => by
    rw [Heap.get_push] at hg; by_cases hi : i = h.next
    · rw [if_pos hi] at hg; exact .inl ⟨hi, (Option.some.inj hg).symm⟩
    rw [if_neg hi] at hg; exact .inr ⟨hi, hg⟩
  refine ⟨⟨fun i o hg => ?_, fun i j oi oj hi hj oi1 oj1 he => ?_, fun i o hg ho => ?_, fun i o hg ho => ?_, fun b hb => ?_, Nat.succ_pos _, z_below (Below.refl _ _), Nat.zero_le _, Nat.le_refl _⟩, hag, After.push h _⟩
  · rcases hold i o hg with ⟨rfl, rfl⟩ | ⟨hi, hg'⟩
    · refine ⟨.inr rfl, ?_⟩; simp only [if_true]; refine ⟨rfl, fun i hi => ?_, fun hx => by cases hx⟩; obtain ⟨v, h1, h2⟩ := hc i hi; exact ⟨v, h1, h2.mono hag⟩
    obtain ⟨h1, h2⟩ := hr.objs i o hg'; refine ⟨.inl h1, ?_⟩; simp only [if_neg hi]; exact h2.mono hag
  · rcases hold i oi hi with ⟨rfl, rfl⟩ | ⟨hi', hgi⟩
    · cases oi1
    rcases hold j oj hj with ⟨rfl, rfl⟩ | ⟨hj', hgj⟩
    · cases oj1
    simp only [if_neg hi', if_neg hj'] at he; exact hr.inj i j oi oj hgi hgj oi1 oj1 he
  · rcases hold i o hg with ⟨rfl, rfl⟩ | ⟨hi, hg'⟩
    · cases ho
    simp only [if_neg hi]; exact hr.base i o hg' ho
  · rcases hold i o hg with ⟨rfl, rfl⟩ | ⟨hi, hg'⟩
    · simp only [if_true]; exact ha
    simp only [if_neg hi]; exact hr.ro i o hg' ho
  have hn : (h.push (.row te cs false false)).next = h.next + 1 := rfl; rw [hn]; rcases hb with hb | rfl
  · have := hr.ids b hb; exact ⟨by omega, this.2⟩
  have := hr.pos; exact ⟨by omega, by omega⟩
theorem trod_float {fuel : Nat} {t : TypeId} {cs : List Value} {x : DataW H × List MemPlace} {k : FloatKind} (ht : P.underlying t = some (.float k)) (h : DataW.trod enc P w base sp held fuel t cs = some x) : ∃ n, cs = [.float k n] ∧ (Lit.float k n).wf = true := by
  cases fuel with
  | zero => simp [DataW.trod] at h
  | succ n =>
    unfold DataW.trod at h; rw [ht] at h; split at h <;> simp_all
theorem mapM_all {α β : Type} (f : α → Option β) : ∀ (l : List α) (r : List β), l.mapM f = some r → l.length = r.length ∧ ∀ i (hi : i < l.length) (hr : i < r.length), f l[i] = some r[i]
  | [], r, h => by
    simp only [List.mapM_nil] at h; obtain rfl := Option.some.inj h
    exact ⟨rfl, fun i hi => absurd hi (by simp)⟩
  | a :: l, r, h => by
    rw [List.mapM_cons] at h
    cases hf : f a with
    | none => rw [hf] at h; cases h
    | some b =>
      rw [hf] at h
      cases hl : l.mapM f with
      | none => rw [hl] at h; cases h
      | some bs =>
        rw [hl] at h; obtain rfl := Option.some.inj h; obtain ⟨h1, h2⟩ := mapM_all f l bs hl; refine ⟨by simp [h1], fun i hi hr => ?_⟩
        cases i with
        | zero => exact hf
        | succ i => exact h2 i (by simpa using hi) (by simpa using hr)
theorem cells_some {a : Addr} {n : Nat} {cs : List Value} (h : w.cells? base a n = some cs) : cs.length = n ∧ ∀ i, i < n → w.cell? (a.add i) = some (cs.getD i undef) := by
  unfold World.cells? at h; split at h
  · obtain ⟨h1, h2⟩ := mapM_all _ _ _ h; rw [List.length_range] at h1; refine ⟨h1.symm, fun i hi => ?_⟩; have := h2 i (by simpa using hi) (by omega); rw [List.getElem_range] at this; rw [this]; simp [List.getD, show i < cs.length by omega]
  cases h
theorem cell_some {a : Addr} {v : Value} (h : w.cell? a = some v) : a.spot = none ∧ a.block < w.heap.size := by
  unfold World.cell? at h; split at h
  · rename_i c _ _ hb; refine ⟨?_, (Array.getElem?_eq_some_iff.1 hb).1⟩
    cases hs : a.spot with
    | none => rfl
    | some s => rw [hs] at h; cases h
  cases h
def Tells (P : Program) (w : World) (τ : Ty) (cs : List Value) : Prop := ∀ (ρ : Ren) (S : Nat → Prop) (h : Heap), HR P ρ S w.heap.size (wz w) h w →
  ∃ ρ' S' h' cs' x, Got P w ρ S h ρ' S' h' ∧ LR ρ' S' cs' cs ∧ RepC h' [] τ cs' x ∧ Wf τ x
theorem LR.one {ρ : Ren} {S : Nat → Prop} {v v' : Value} (h : VR ρ S v v') : LR ρ S [v] [v'] := LR.cons h LR.nil
theorem tells_elems {e : Ty} (a : Addr) (len : Nat) (hcs : ∀ i, i < len → ∃ cs, (∀ j, j < e.size → w.cell? (a.add (i * e.size + j)) = some (cs.getD j undef)) ∧ cs.length = e.size ∧ Tells P w e cs) :
    ∀ (ρ : Ren) (S : Nat → Prop) (h : Heap), HR P ρ S w.heap.size (wz w) h w → ∃ ρ' S' h' rs xs, Got P w ρ S h ρ' S' h' ∧ rs.length = len * e.size ∧ List.length xs = len ∧ (∀ i, i < len * e.size → ∃ v, w.cell? (a.add i) = some v ∧ VR ρ' S' (rs.getD i undef) v) ∧
      Elems h' [] e rs xs ∧ ∀ x ∈ (xs : List e.den), Wf e x := by
  induction len with
  | zero =>
    intro ρ S h hr
    exact ⟨ρ, S, h, [], [], Got.refl hr, by simp, rfl, fun i hi => by omega, Elems.nil, fun x hx => by cases hx⟩
  | succ n ih =>
    intro ρ S h hr; obtain ⟨ρ1, S1, h1, rs, xs, g1, l1, l2, c1, e1, w1⟩ := ih (fun i hi => hcs i (by omega)) ρ S h hr; obtain ⟨cs, k1, k2, k3⟩ := hcs n (by omega); obtain ⟨ρ2, S2, h2, cs', x, g2, lr, rc, wf⟩ := k3 ρ1 S1 h1 g1.hr; have hN : Goes h1 [] h2 [] := g2.aft.nx g1.ok; have hl : cs'.length = e.size := rc.len
    have hel : Elems h2 [] e cs' [x] := by
      refine ⟨by simpa using hl, fun i hi => ?_⟩
      obtain rfl : i = 0 := by simpa using hi
      simp only [Nat.zero_mul, List.drop_zero, List.getElem_cons_zero]; rw [List.take_of_length_le (by omega)]; exact rc
    refine ⟨ρ2, S2, h2, rs ++ cs', xs ++ [x], g1.trans g2, by rw [List.length_append, l1, hl, Nat.add_mul]; omega, by simp [l2], fun i hi => ?_, (e1.nx hN).append hel, fun y hy => ?_⟩
    · rw [Nat.add_mul, Nat.one_mul] at hi; by_cases hin : i < n * e.size
      · obtain ⟨v, hv1, hv2⟩ := c1 i hin; refine ⟨v, hv1, ?_⟩; rw [List.getD_eq_getElem?_getD, List.getElem?_append_left (by omega), ← List.getD_eq_getElem?_getD]; exact hv2.mono g2.agree
      have hj : i - n * e.size < e.size := by omega
      refine ⟨cs.getD (i - n * e.size) undef, ?_, ?_⟩
      · have := k1 (i - n * e.size) hj
        rwa [show n * e.size + (i - n * e.size) = i by omega] at this
      rw [List.getD_eq_getElem?_getD, List.getElem?_append_right (by omega), l1, ← List.getD_eq_getElem?_getD]; exact lr.getD _
    rcases List.mem_append.1 hy with hy | hy
    · exact w1 y hy
    obtain rfl := List.mem_singleton.1 hy; exact wf
theorem Addr.add_spot {a : Addr} (h : a.spot = none) (n : Nat) : a.add n = ⟨a.block, a.off + n, none⟩ := by
  obtain ⟨b, o, s⟩ := a; simp only at h; subst h; unfold Addr.add; by_cases hn : n = 0
  · subst hn; simp
  simp [hn]
theorem tells_fields {n : Nat} (ih : ∀ (t : TypeId) (τ : Ty), tyB P n t τ = true → ∀ (fuel : Nat) (cs : List Value) (x : DataW H × List MemPlace), DataW.trod enc P w base sp held fuel t cs = some x → Tells P w τ cs) :
    ∀ (fs : List Field) (off : Nat) (τ : Ty) (cs : List Value) (m : Nat), fsB P (tyB P n) fs off τ = true → cs.length = off + τ.size → (∀ f ∈ fs, ∃ x, DataW.trod enc P w base sp held m f.type ((cs.drop f.offset).take (P.cellsOf f.type)) = some x) → Tells P w τ (cs.drop off) := by
  have one : ∀ (f : Field) (off : Nat) (τ : Ty) (cs : List Value) (m : Nat), f.offset = off → P.cellsOf f.type = τ.size → tyB P n f.type τ = true → off + τ.size ≤ cs.length → (∃ x, DataW.trod enc P w base sp held m f.type ((cs.drop f.offset).take (P.cellsOf f.type)) = some x) → Tells P w τ ((cs.drop off).take τ.size) := by
    intro f off τ cs m h1 h2 h3 h4 ⟨x, hx⟩; rw [h1, h2] at hx; exact ih f.type τ h3 m _ x hx
  intro fs
  induction fs with
  | nil => intro off τ cs m hb; cases hb
  | cons f fs ihf =>
    intro off τ cs m hb hl hall; have hf := hall f List.mem_cons_self
    cases fs with
    | nil =>
      by_cases hs : ∃ a, τ = .pair a .unit
      · obtain ⟨a, rfl⟩ := hs; have hb' : (Nat.beq f.offset off && Nat.beq (P.cellsOf f.type) a.size && tyB P n f.type a) = true := hb; obtain ⟨hb', h3⟩ := band hb'; obtain ⟨h1, h2⟩ := band hb'
        have hs : (Ty.pair a .unit).size = a.size := by simp [Ty.size]
        rw [hs] at hl; have := one f off a cs m (nbeq h1) (nbeq h2) h3 (by omega) hf; intro ρ S h hr; obtain ⟨ρ', S', h', cs', x, g, lr, rc, wf⟩ := this ρ S h hr; have e1 : (cs.drop off).take a.size = cs.drop off := List.take_of_length_le (by rw [List.length_drop]; omega); rw [e1] at lr; have hcl := rc.len; exact ⟨ρ', S', h', cs', (x, ()), g, lr, ⟨by rw [List.take_of_length_le (by omega)]; exact rc, by rw [List.drop_eq_nil_of_le (by omega)]; rfl⟩, wf, trivial⟩
      have hb' : (Nat.beq f.offset off && Nat.beq (P.cellsOf f.type) τ.size && tyB P n f.type τ) = true := by
        cases τ with
        | pair a b =>
          cases b with
          | unit => exact absurd ⟨a, rfl⟩ hs
          | _ => exact hb
        | _ => exact hb
      obtain ⟨hb', h3⟩ := band hb'; obtain ⟨h1, h2⟩ := band hb'; have := one f off τ cs m (nbeq h1) (nbeq h2) h3 (by omega) hf; have e1 : (cs.drop off).take τ.size = cs.drop off := List.take_of_length_le (by rw [List.length_drop]; omega)
      rwa [e1] at this
    | cons g fs =>
      cases τ with
      | pair a b =>
        have hb' : (Nat.beq f.offset off && Nat.beq (P.cellsOf f.type) a.size && tyB P n f.type a && fsB P (tyB P n) (g :: fs) (off + a.size) b) = true := hb; obtain ⟨hb', h4⟩ := band hb'; obtain ⟨hb', h3⟩ := band hb'; obtain ⟨h1, h2⟩ := band hb'; have hs : (Ty.pair a b).size = a.size + b.size := rfl; rw [hs] at hl; have ha := one f off a cs m (nbeq h1) (nbeq h2) h3 (by omega) hf; have hrest := ihf (off + a.size) b cs m h4 (by omega) (fun g hg => hall g (List.mem_cons_of_mem _ hg)); intro ρ S h hr; obtain ⟨ρ1, S1, h1', cs1, x1, g1, lr1, rc1, wf1⟩ := ha ρ S h hr; obtain ⟨ρ2, S2, h2', cs2, x2, g2, lr2, rc2, wf2⟩ := hrest ρ1 S1 h1' g1.hr; have hN : Goes h1' [] h2' [] := g2.aft.nx g1.ok; have hc1 := rc1.len; refine ⟨ρ2, S2, h2', cs1 ++ cs2, (x1, x2), g1.trans g2, ?_, ⟨?_, ?_⟩, wf1, wf2⟩
        · have := (lr1.mono g2.agree).append lr2
          rwa [show (cs.drop off).take a.size ++ cs.drop (off + a.size) = cs.drop off from by rw [← List.drop_drop, List.take_append_drop]] at this
        · rw [List.take_left' hc1]; exact rc1.nx hN
        rw [List.drop_left' hc1]; exact rc2
      | _ => cases hb
theorem tells : ∀ (n : Nat) (t : TypeId) (τ : Ty), tyB P n t τ = true → ∀ (fuel : Nat) (cs : List Value) (x : DataW H × List MemPlace), DataW.trod enc P w base sp held fuel t cs = some x → Tells P w τ cs := by
  intro n
  induction n with
  | zero => intro t τ h; cases h
  | succ n ih =>
    intro t τ hb fuel cs x hx; unfold tyB at hb; split at hb
    · rename_i k k' hu; obtain rfl : k = k' := of_decide_eq_true hb; obtain ⟨m, rfl, _, hwf⟩ := DataW.trod_int hu hx; exact fun ρ S h hr => ⟨ρ, S, h, _, m, Got.refl hr, LR.one (.lit rfl), rfl, hwf⟩
    · rename_i hu; obtain ⟨b, rfl, _⟩ := DataW.trod_bool hu hx; exact fun ρ S h hr => ⟨ρ, S, h, _, b, Got.refl hr, LR.one (.lit rfl), rfl, trivial⟩
    · rename_i hu; obtain ⟨s, rfl, _, hs⟩ := DataW.trod_string hu hx; exact fun ρ S h hr => ⟨ρ, S, h, _, s, Got.refl hr, LR.one (.lit rfl), rfl, hs⟩
    · rename_i k k' hu; obtain rfl : k = k' := of_decide_eq_true hb; obtain ⟨m, rfl, hwf⟩ := trod_float hu hx; exact fun ρ S h hr => ⟨ρ, S, h, _, m, Got.refl hr, LR.one (.lit rfl), rfl, hwf⟩
    · rename_i te e hu; obtain ⟨hb, h3⟩ := band hb; obtain ⟨h1, h2⟩ := band hb; have hce := nbeq h1; have hpos := nblt h2; rcases DataW.trod_slice hu hx with ⟨rfl, _⟩ | ⟨a, len, cap, elems, rest, m, _, rfl, _, hba, hlc, hcap, hlen, hel, _⟩
      · exact fun ρ S h hr => ⟨ρ, S, h, [.slice none 0 0], [], Got.refl hr, LR.one (.lit rfl), ⟨_, rfl, .inl ⟨rfl, rfl⟩⟩, Nat.zero_le _, fun x hx => by cases hx⟩
      by_cases h0 : len = 0
      · subst h0; exact fun ρ S h hr => ⟨ρ, S, h, [.slice (some ⟨0, 0, none⟩) 0 2], [], Got.refl hr, LR.one (.slice 0 0 0 2 cap a (Nat.zero_le _) (fun h => by cases h) (fun _ => rfl) (fun h => absurd rfl h)), ⟨_, rfl, .inr ⟨0, 0, 2, rfl, .inl rfl⟩⟩, Nat.zero_le _, fun x hx => by cases hx⟩
      have hcs : ∀ i, i < len → ∃ cs, (∀ j, j < e.size → w.cell? (a.add (i * e.size + j)) = some (cs.getD j undef)) ∧ cs.length = e.size ∧ Tells P w e cs := by
        intro i hi; have := hel i hi; rw [List.getElem?_eq_getElem (by omega)] at this; rw [hce] at this
        cases hc : w.cells? base (a.add (i * e.size)) e.size with
        | none => rw [hc] at this; cases this
        | some cs =>
          rw [hc] at this; obtain ⟨k1, k2⟩ := cells_some hc; refine ⟨cs, fun j hj => ?_, k1, ih te e h3 m cs _ this⟩; rw [← k2 j hj]; congr 1; obtain ⟨b, o, s⟩ := a; unfold Addr.add; by_cases hx1 : i * e.size = 0
          · simp [hx1]
          by_cases hx2 : j = 0
          · subst hx2; simp [hx1]
          simp [hx1, hx2, Nat.add_assoc]
      have hfirst : a.spot = none ∧ a.block < w.heap.size := by
        obtain ⟨cs, k1, _⟩ := hcs 0 (by omega); have := k1 0 hpos; rw [Nat.zero_mul, Nat.zero_add] at this; have h4 := cell_some this; simpa [Addr.add] using h4
      intro ρ S h hr; obtain ⟨ρ1, S1, h1', rs, xs, g1, l1, l2, c1, e1, w1⟩ := tells_elems (P := P) a len hcs ρ S h hr
      have hrow := Got.row (te := te) g1.hr (cs := rs) (a := a) hfirst.2 (fun i hi => by
        have := c1 i (by omega)
        rwa [Addr.add_spot hfirst.1] at this)
      have hsl : SlV (h1'.push (.row te rs false false)) [] e (.slice (some ⟨h1'.next, 0, none⟩) (List.length xs) 2) xs := (e1.nx (hrow.aft.nx g1.ok)).slv (by rw [Heap.get_push, if_pos rfl]) (by simp); refine ⟨_, _, _, [.slice (some ⟨h1'.next, 0, none⟩) (List.length xs) 2], xs, g1.trans hrow, ?_, ⟨_, rfl, hsl⟩, by omega, w1⟩; rw [l2]; refine LR.one (.slice h1'.next 0 len 2 cap a hlc (fun h => by cases h) (fun h5 => by have := g1.hr.pos; omega) fun _ => ⟨.inr rfl, ?_, fun h => by cases h⟩); simp only [if_true, Loc.at, Nat.add_zero]; obtain ⟨b, o, s⟩ := a; simp only at hfirst; rw [hfirst.1]
    · rename_i fs a b hu; obtain ⟨h1, h2⟩ := band hb; obtain ⟨xs, m, _, _, hl, hsz, hall⟩ := DataW.trod_struct hu hx
      have hcl : cs.length = (Ty.pair a b).size := by rw [hl, nbeq h1]
      have := tells_fields ih fs.toList 0 (.pair a b) cs m h2 (by omega) (fun f hf => by
        obtain ⟨i, hi, rfl⟩ := List.getElem_of_mem hf
        have hi' : i < fs.size := by simpa using hi
        have := hall i fs[i] (by simp [hi']); rw [List.getElem?_eq_getElem (by omega)] at this
        exact ⟨_, by simpa using this⟩)
      simpa using this
    · rename_i m e a b hu; obtain ⟨h1, h2⟩ := band hb; obtain ⟨xs, m', _, _, hl, hsz, hall⟩ := DataW.trod_array hu hx
      have hcl : cs.length = (Ty.pair a b).size := by rw [hl, nbeq h1]
      have := tells_fields ih (arrFs P m e) 0 (.pair a b) cs m' h2 (by omega) (fun f hf => by
        obtain ⟨i, hi, rfl⟩ := List.mem_map.1 hf; have hi' : i < m := List.mem_range.1 hi; have := hall i hi'; rw [List.getElem?_eq_getElem (by omega)] at this
        exact ⟨_, this⟩)
      simpa using this
    cases hb
theorem okWide_agg {n : Nat} {r : Reach} {b0 : Nat} {t : TypeId} {τ : Ty} {v : Value} (hb : tyB P n t τ = true) (hval : Value.okWide P w r b0 t v) : isAggV v = τ.agg := by
  cases n with
  | zero => cases hb
  | succ n =>
    unfold tyB at hb; unfold Value.okWide at hval; split at hb
    · rename_i k k' hu; rw [hu] at hval; simp only [Cell.okWide, hu, Cell.ok] at hval; cases v <;> simp_all [isAggV, Ty.agg]
    · rename_i hu; rw [hu] at hval; simp only [Cell.okWide, hu, Cell.ok] at hval; cases v <;> simp_all [isAggV, Ty.agg]
    · rename_i hu; rw [hu] at hval; simp only [Cell.okWide, hu, Cell.ok] at hval; cases v <;> simp_all [isAggV, Ty.agg]
    · rename_i k k' hu; rw [hu] at hval; simp only [Cell.okWide, hu, Cell.ok] at hval; cases v <;> simp_all [isAggV, Ty.agg]
    · rename_i te e hu; rw [hu] at hval; simp only [Cell.okWide, hu, Cell.ok] at hval; cases v <;> simp_all [isAggV, Ty.agg]
    · rename_i fs a b hu; rw [hu] at hval; obtain ⟨cs, rfl, _⟩ := hval; rfl
    · rename_i m e a b hu; rw [hu] at hval; obtain ⟨cs, rfl, _⟩ := hval; rfl
    cases hb
theorem tell_arg {ρ : Ren} {S : Nat → Prop} {h : Heap} (hr : HR P ρ S w.heap.size (wz w) h w) {n : Nat} {r : Reach} {b0 : Nat} {t : TypeId} {τ : Ty} {v : Value} {d : DataW H} {ps : List MemPlace} (hb : tyB P n t τ = true) (hval : Value.okWide P w r b0 t v) (hd : DataW.Trod enc P w base sp held t v d ps) :
    ∃ ρ' S' h' v' x, Got P w ρ S h ρ' S' h' ∧ VR ρ' S' v' v ∧ RepV h' [] τ v' x ∧ Wf τ x := by
  have hag := okWide_agg hb hval; obtain ⟨fuel, hf⟩ := hd; obtain ⟨ρ', S', h', cs', x, g, lr, rc, wf⟩ := tells n t τ hb fuel _ _ hf ρ S h hr
  cases hτ : τ.agg with
  | true =>
    rw [hτ] at hag
    cases v with
    | agg cs =>
      refine ⟨ρ', S', h', .agg cs'.toArray, x, g, VR.agg' (by simpa [Value.cells] using lr), ⟨hτ.symm, by simpa [Value.cells] using rc⟩, wf⟩
    | _ => cases hag
  | false =>
    rw [hτ] at hag; rw [cells_one hag] at lr; obtain ⟨u, rfl, hu⟩ := rc.one hτ; have := lr.2 0 (by simp); exact ⟨ρ', S', h', u, x, g, by simpa using this, hu, wf⟩
theorem hr_empty (hw : 0 ≤ w.heap.size) : HR P (fun _ => Loc.clean 0 0 0 0) (fun _ => False) w.heap.size (wz w) ⟨1, 1, []⟩ w where
  objs := fun i o h => by cases h
  inj := fun i j oi oj h => by cases h
  base := fun i o h => by cases h
  ro := fun i o h => by cases h
  ids := fun b hb => hb.elim
  pos := Nat.one_pos
  below := z_below (Below.refl _ _)
  drawn := Nat.zero_le _
  size := Nat.le_refl _
section
open Go.WideElems Go.ChangeShapes
theorem trodAll_below (hl : laidOutB P = true) {W W' : World} (hb : Below W.heap.size W W') : ∀ {ts : List TypeId} {vs : List Value} {ds : List (DataW H)} {ps : List MemPlace}, (ts.all fun t => P.readableRec t && decide (t < P.types.size)) = true →
    DataW.TrodAll enc P W 0 (fun _ => true) true ts vs ds ps → (∀ x ∈ ps, x.block < W.heap.size) → DataW.TrodAll enc P W' 0 (fun b => decide (b < W.heap.size)) true ts vs ds ps
  | [], [], [], _, _, h, _ => h
  | [], _ :: _, _, _, _, h, _ => h.elim
  | [], [], _ :: _, _, _, h, _ => h.elim
  | _ :: _, [], _, _, _, h, _ => h.elim
  | _ :: _, _ :: _, [], _, _, h, _ => h.elim
  | t :: ts, v :: vs, d :: ds, ps, ha, h, hp => by
    obtain ⟨p, q, h1, h2, rfl⟩ := h; simp only [List.all_cons, Bool.and_eq_true, decide_eq_true_eq] at ha; exact ⟨p, q, Go.RowKit.Below.trod hl ha.1.1 ha.1.2 h1 hb (fun x hx => hp x (List.mem_append_left _ hx)), trodAll_below hl hb (by simpa using ha.2) h2 (fun x hx => hp x (List.mem_append_right _ hx)), rfl⟩
theorem law_post {f : Func} {s : ChangeSpec} {tb : TypeId} (hl : laidOutB P = true) (hrd : (f.params.toList.all fun t => P.readableRec t && decide (t < P.types.size)) = true) (hres : f.resultTypes = #[tb]) (htb : P.underlying tb = some .bool) (hvars : s.vars = []) {W W' : World} {args : Array Value} {ds gs : List (DataW H)}
    {before : List MemPlace} (hW : DataW.Whole enc P f.params.toList s.vars false W args.toList ds gs before) (hr : (s.fn H (ds ++ gs)).results = [.lit (.bool true)]) (ha : (s.fn H (ds ++ gs)).args = ds) (hv : (s.fn H (ds ++ gs)).vars = []) (hb : Below W.heap.size W W') :
    s.post enc P f false true false false W args (.bool true) W' := by
  have hlt := hW.lt; have hW' := hW; obtain ⟨p, q, hA, hV, rfl, _, _⟩ := hW; rw [hvars] at hV; have hV' : gs = [] ∧ q = [] := trodVars_none hV; obtain ⟨rfl, rfl⟩ := hV'; refine ⟨ds, [], p ++ [], [], p, [], hW', ?_, ?_, ?_, hb.frame _, fun h => by cases h⟩
  · rw [hr, hres]; exact trodAll_mk1 (Go.RowKit.shut_bool htb _)
  · rw [ha]; exact trodAll_below hl hb hrd hA fun x hx => hlt x (List.mem_append_left _ hx)
  rw [hvars, hv]; exact rfl
end
theorem law_calls2 (hP : ProgOk P) {orc : FuncId → List Value → Heap → Option (Value × Heap)} {W : World} (horc : CallSound P W.heap.size (wz W) orc) {ρz : Ren} {Sz : Nat → Prop} {hz : Heap} (hrz : HR P ρz Sz W.heap.size (wz W) hz W) (hGz : GT hz []) {f : FuncId} (hen : Enters P f) {fn : Func} {n : Nat} {t0 t1 : TypeId} {τ0 τ1 : Ty} (hp : fn.params = #[t0, t1]) (hb0 : tyB P n t0 τ0 = true) (hb1 : tyB P n t1 τ1 = true)
    (hE : ∀ (h : Heap) (v0 v1 : Value) (x0 : τ0.den) (x1 : τ1.den), HOkG h → RepV h [] τ0 v0 x0 → RepV h [] τ1 v1 x1 → Wf τ0 x0 → Wf τ1 x1 → EvF P orc f [v0, v1] h fun r h' => r = .bool true ∧ h' = h)
    {args : Array Value} {ds : List (DataW H)} {ps : List MemPlace} (hval : ∀ (j : Nat) t v, fn.params[j]? = some t → args[j]? = some v → Value.okWide P W .any base t v) (hA : DataW.TrodAll enc P W 0 sp held fn.params.toList args.toList ds ps) :
    Calls P f args W fun | .returned v', w' => v' = .bool true ∧ Below W.heap.size W w' | _, _ => False := by
  rw [hp] at hA hval; obtain ⟨v0, vs0, d0, ds0, p0, q0, ha, rfl, rfl, k0, r0⟩ := Go.ChangeShapes.trodAll_cons hA; obtain ⟨v1, vs1, d1, ds1, p1, q1, rfl, rfl, rfl, k1, r1⟩ := Go.ChangeShapes.trodAll_cons r0; obtain ⟨rfl, rfl, rfl⟩ := Go.ChangeShapes.trodAll_nil r1
  obtain rfl : args = #[v0, v1] := by cases args; simp_all
  obtain ⟨ρ0, S0, h0, u0, x0, g0, c0, e0, w0⟩ := tell_arg hrz hb0 (hval 0 t0 v0 rfl rfl) k0; obtain ⟨ρ1, S1, h1, u1, x1, g1, c1, e1, w1⟩ := tell_arg g0.hr hb1 (hval 1 t1 v1 rfl rfl) k1; have hR := hE h1 u0 u1 x0 x1 ⟨g1.ok, (hGz.nx (g0.aft.nx (hok_of hrz))).nx (g1.aft.nx g0.ok)⟩ (e0.nx (g1.aft.nx g0.ok)) e1 w0 w1; refine (fs_open (args' := [v0, v1]) hP horc hen g1.hr (LR.cons (c0.mono g1.agree) (LR.one c1)) (EvF.mono hR fun v h' h => h.1) rfl).mono fun e w' he => ?_
  cases e with
  | returned v => exact ⟨he.1, below_z he.2⟩
  | panicked c => exact he
  | outgrown => exact he
end Go.Fs
namespace Go.Proofs.YtedakjflddcbbaaGreatDoor
open Go.ChangeShapes Go.WideShapes Go.ChangeAt Go.RowKit Go.Fs
theorem own : ownKnob Tryz.prog.godebug = none := by kernel_rfl
theorem laidOut : laidOutB Tryz.prog = true := by kernel_rfl
def laid5 : List (String × DataW Unit) := [("math/bits.deBruijn32tab", Rows.laid_math_bits_deBruijn32tab), ("math/bits.deBruijn64tab", Rows.laid_math_bits_deBruijn64tab), ("internal/strconv.uint64pow10", Rows.laid_internal_strconv_uint64pow10), ("unicode/utf8.acceptRanges", Rows.laid_unicode_utf8_acceptRanges), ("unicode/utf8.first", Rows.laid_unicode_utf8_first)]
theorem gPow : ∃ g : Nat, Tryz.prog.globalNamed "internal/strconv.uint64pow10" = some g ∧ (Tryz.prog.globals[g]?).map (·.type) = some 228 := ⟨1, by kernel_rfl, by kernel_rfl⟩
theorem powTab {W : World} (h : laidMet Tryz.prog laid5 W) : Lib.TabIs Tryz.prog W "internal/strconv.uint64pow10" .u64 Lib.pow10Tab := by
  obtain ⟨g, h1, h2⟩ := gPow; exact Lib.tabIs_of_head h1 h2 Tryz.underlying228 Tryz.underlying207 (by kernel_rfl) (by kernel_rfl) (laidMet.tail (laidMet.tail h))
theorem tzGlob {W : World} : ∀ x ∈ tzG, GlobW Tryz.prog W.heap.size W x := fun x hx => by cases hx
theorem tzGT : GT (⟨1, 1, []⟩ : Heap) [] := fun v hv => by cases hv
theorem seatHr {W : World} (h : laidMet Tryz.prog laid5 W) : HR Tryz.prog (fun _ => Loc.clean 0 0 0 0) (fun _ => False) W.heap.size (Go.Fs.wz W) ⟨1, 1, []⟩ W := hr_empty (Nat.zero_le _)
/-- The oracle is sound wherever the table of powers lies. -/
theorem orcOk {W : World} (ht : Lib.TabIs Tryz.prog W "internal/strconv.uint64pow10" .u64 Lib.pow10Tab) : CallSound Tryz.prog W.heap.size (Go.Fs.wz W) OA := by
  have hT : ∀ w, Below W.heap.size W w → Lib.TabIs Tryz.prog w "internal/strconv.uint64pow10" .u64 Lib.pow10Tab := Lib.tabBelow_of_tabIs ht
  have hS : ∀ w, Below W.heap.size W w → CallSound Tryz.prog w.heap.size (Go.Fs.wz w) OB := fun w hw =>
    tzOrcB rfl (Nat.le_refl _) fun w' hw' => hT w' (hw.trans ((below_z hw').mono hw.size))
  refine orcC_sound ?_ tzCheck (fun b w h0 h1 h2 => Any.Builder_copyCheck_fresh tzLays tzX72 b w h0 h1 h2) (fun b w h0 => Any.Builder_copyCheck_used tzLays tzX72 b w h0); refine orcA_sound rfl (tzOrcJ rfl (Nat.le_refl _) fun w' hw' => hT w' (below_z hw')) tzAwakeE fun w hw => ?_; exact awakeGc_calls tzOk (n := 1) (L := tzG) (fun x hx => by cases hx) (by decide) tzGlob (fun w hw => hw.size) (fun w' hw' => hS w' hw') tzRun w (below_z hw)
/-- The door's heap, with the table of first bytes, which the kit pins. -/
def firstVs : List Value := match Rows.laid_unicode_utf8_first with
  | .agg ds => ds.map fun | .lit (.int k n) => .int k n | _ => .nilIface
  | _ => []
def withFirst (o : Obj) : Obj := match o with
  | .cells _ t fr => .cells firstVs.toArray t fr
  | o => o
noncomputable def doorWorld (os : Os) : World := { World.doorLaid Tryz.prog 200 os with heap := (World.doorLaid Tryz.prog 200 os).heap.modify 2 withFirst }
end Go.Proofs.YtedakjflddcbbaaGreatDoor
