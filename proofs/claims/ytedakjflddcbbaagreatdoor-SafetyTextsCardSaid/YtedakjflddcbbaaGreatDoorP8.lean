/- Parts of the proof: an evaluator of the model, what it is sound for, and contracts of functions. No condition. -/
import Derived.Test.YtedakjflddcbbaaGreatDoorP7
import Derived.Test.YtedakjflddcbbaaGreatDoorP3
import Derived.Test.YtedakjflddcbbaaGreatDoorP2
import Derived.Shelf.Strings.Builder1
import Derived.Shelf.Strings.Builder2
import Derived.Shelf.Strings.OnBuilder
import Derived.Shelf.Small.Bits
import Derived.Shelf.Small.Strs
import Derived.Shelf.Small.Wraps
import Derived.Shelf.Strings.BuilderF
import Derived.Shelf.Strings.BuilderK
import Derived.Shelf.Strings.Builder2Cap
import Derived.Shelf.Strconv.Itoa0
import Derived.Shelf.Strconv.Itoa1
import Derived.Shelf.LaysM
import Derived.Shelf.Strconv.Itoa2
import Derived.Shelf.Strconv.Itoa3
import Derived.Shelf.Strings.Prefix
import Derived.Shelf.Strings.Split
import Derived.Shelf.Unicode.Decode
import Derived.Shelf.Strings.Explode
import Derived.Shelf.Unicode.DecodeAny
import Derived.Shelf.Slices.Turned
import Derived.Ground.Names2Prog
import Derived.Shelf.Slices.Clone
import Derived.Shelf.Slices.CompactS
import Derived.Shelf.Slices.Cells
import Derived.Shelf.Slices.In.SortNone
import Derived.Ground.SlgnProg
import Derived.Shelf.SlicesE.Clone
import Derived.Test.YtedakjflddcbbaaGreatDoorProg
import Derived.Lib.AppendIntMem
import Derived.Test.YtedakjflddcbbaaGreatDoorChecked
import Derived.KernelRfl
set_option linter.all false
namespace Go.Proofs
open Go.Fs
set_option maxHeartbeats 4000000
theorem apC : oG Tryz.prog 29 (.int .i64) := kS (z := .int .i64 0) (by kernel_rfl) rfl rfl
theorem YY : wZ Tryz.prog 36 kF [(0, 1), (1, 1), (2, 1)] := pC N1 rfl (by kernel_rfl)
abbrev nC : dG := ([], [], [])
def tI (s : ByteArray) : Option dG × Nat := oI YT (dL 10 s) nC 0
def yM (s : ByteArray) : Int := if 4096 < s.size then 27 else match (tI s).1 with | none => 26 | some c => fF c
def yN (s : ByteArray) : Int := if 4096 < s.size then 0 else match (tI s).1 with | none => (((tI s).2 : Nat) : Int) | some c => if fF c ≠ 0 then (((tI s).2 : Nat) : Int) else 0
def mM (s : ByteArray) : dG := if 4096 < s.size then nC else match (tI s).1 with | none => nC | some c => if fF c ≠ 0 then nC else c
theorem UB {s : ByteArray} (h : 4096 < s.size) : mM s = nC /\ yN s = 0 /\ yM s = 27 := ⟨if_pos h, if_pos h, if_pos h⟩
theorem FM {s : ByteArray} {i : Nat} (h : ¬ 4096 < s.size) (hp : tI s = (none, i)) : mM s = nC /\ yN s = ((i : Nat) : Int) /\ yM s = 26 := by
  unfold mM yN yM; refine ⟨?_, ?_, ?_⟩ <;> rw [if_neg h, hp]
theorem KQ {s : ByteArray} {c : dG} {i : Nat} (h : ¬ 4096 < s.size) (hp : tI s = (some c, i)) (hc : fF c ≠ 0) : mM s = nC /\ yN s = ((i : Nat) : Int) /\ yM s = fF c := by
  unfold mM yN yM; refine ⟨?_, ?_, ?_⟩ <;> rw [if_neg h, hp]
  . exact if_pos hc
  exact if_pos hc
theorem NO {s : ByteArray} {c : dG} {i : Nat} (h : ¬ 4096 < s.size) (hp : tI s = (some c, i)) (hc : fF c = 0) : mM s = c /\ yN s = 0 /\ yM s = 0 := by
  unfold mM yN yM; refine ⟨?_, ?_, ?_⟩ <;> rw [if_neg h, hp]
  . exact if_neg (fun e => e hc)
  . exact if_neg (fun e => e hc)
  exact hc
def NP (c : dG) (n : Nat) : Prop := c.1.length + (c.2.1.length + c.2.2.length) = n /\ (∀ x ∈ c.2.1, x.2.length < 100000) /\ ∀ x ∈ c.2.2, x.2.2.length < 100000
theorem NQ : ∀ (l : List ByteArray), (x6 l).length <= l.length
  | [] => Nat.le_refl _
  | [_] => Nat.zero_le _
  | a :: b :: r => by
    have := NQ r; show (x6 r).length + 1 <= r.length + 1 + 1; omega
theorem afS {c c' : dG} {W : List ByteArray} {n : Nat} (h : dM c W = some c') (hW : W.length < 100000) (hc : NP c n) : NP c' (n + 1) := by
  obtain ⟨h1, h2, h3⟩ := hc; unfold dM at h; split at h
  . cases h
  split at h
  . split at h
    . injection h with h; subst h; refine ⟨?_, h2, h3⟩; show (c.1 ++ [_]).length + (c.2.1.length + c.2.2.length) = n + 1; rw [List.length_append, List.length_singleton]; omega
    cases h
  split at h
  . split at h
    . injection h with h; subst h; refine ⟨?_, fun x hx => ?_, h3⟩
      . show c.1.length + ((c.2.1 ++ [_]).length + c.2.2.length) = n + 1; rw [List.length_append, List.length_singleton]; omega
      rcases List.mem_append.1 hx with hx | hx
      . exact h2 x hx
      rw [List.mem_singleton.1 hx]; have := NQ (W.drop 2); rw [List.length_drop] at this; show (x6 (W.drop 2)).length < 100000; omega
    cases h
  split at h
  . injection h with h; subst h; refine ⟨?_, h2, fun x hx => ?_⟩
    . show c.1.length + (c.2.1.length + (c.2.2 ++ [_]).length) = n + 1; rw [List.length_append, List.length_singleton]; omega
    rcases List.mem_append.1 hx with hx | hx
    . exact h3 x hx
    rw [List.mem_singleton.1 hx]; show (W.drop 3).length < 100000; rw [List.length_drop]; omega
  cases h
theorem UC {c : dG} {n : Nat} (hc : NP c n) (hn : n < 100000) : qC c := by
  obtain ⟨h1, h2, h3⟩ := hc; exact ⟨by omega, by omega, by omega, h2, h3⟩
theorem NR : NP nC 0 := ⟨rfl, fun x hx => (by cases hx), fun x hx => (by cases hx)⟩
theorem FN {a b c d : Value × Cell} {l : aG} : (l ++ [d, c, b, a]).Perm ([a, b, c] ++ (d :: l)) :=
  (List.perm_append_comm).trans ((List.reverse_perm [a, b, c, d]).append_right l)
theorem me6 {a b c d e f g : Value × Cell} {r : aG} : g ∈ a :: b :: c :: d :: e :: f :: g :: r := List.mem_append_right [a, b, c, d, e, f] List.mem_cons_self
theorem me7 {a b c d e f g h : Value × Cell} {r : aG} : h ∈ a :: b :: c :: d :: e :: f :: g :: h :: r := List.mem_append_right [a, b, c, d, e, f, g] List.mem_cons_self
theorem me8 {a b c d e f g h i : Value × Cell} {r : aG} : i ∈ a :: b :: c :: d :: e :: f :: g :: h :: i :: r := List.mem_append_right [a, b, c, d, e, f, g, h] List.mem_cons_self
abbrev NS (w2 w3 w4 : Value) (c : List PV) (n e : Int) : aG := [(w2, .var c), (w3, .var [I n]), (w4, .var [I e])]
abbrev lE : List PV := iO kF nC
theorem XK {s : ByteArray} : VF Tryz.prog OA 9 [St s] (.mE [.v kF (mM s), I (yN s), I (yM s)]) := by
  refine VF.enter Tryz.func9 rfl (fun _ _ => rfl) rfl ?_; show U _ _ _ _ _ [(0, St s)] [] _; refine U.seq (U.text ?_); refine J.cell (.alloc N1) ?_; intro w2; refine J.cell (.alloc zt3) ?_; intro w3; refine J.cell (.alloc apC) ?_; intro w4; refine J.go (U.seq (U.seq (U.text ?_))); refine J.c (.move rfl) ?_; refine J.r (.gU) ?_; refine J.c (.gtr) (J.go ?_); refine U.aM rfl (fun c1 => ?_) (fun c1 => ?_)
  . obtain ⟨e1, e2, e3⟩ := UB (s := s) (by omega); refine U.seq ?_; refine U.perm dF ?_; refine U.text ?_; refine J.c (.build nC YY) ?_; refine J.eQ (cs' := lE) pS .v ?_; refine J.perm dF ?_; refine J.eQ (cs' := [I (0 : Int)]) qZ .v ?_; refine J.perm dF ?_; refine J.eQ (cs' := [I (27 : Int)]) AF .v ?_; refine J.go ?_; refine U.ret ?_; exact aR.three rfl (.cell (x := nC) rfl m2 pS .refl) (.cell (x := (0 : Int)) rfl m1 qZ .refl) (.cell (x := (27 : Int)) rfl m0 AF .refl) (dV e1.symm) (cY e2.symm) (cY e3.symm)
  have hs : s.size <= 4096 := by omega
  refine U.skip (U.seq (U.text ?_)); refine J.cell (.zK N1) ?_; intro wc; refine J.go (U.seq (U.text ?_)); refine J.cell (.alloc zt3) ?_; intro wn; refine J.eQ (cs' := [I (0 : Int)]) qZ .v ?_; refine J.go ?_; refine U.cell0 102 rO ?_; refine U.cell0 101 pR ?_; refine U.cell0 98 o5 ?_; refine U.perm U1 ?_; show U _ _ _ _ _ _ (dZ wc (.slice none 0 0) (.slice none 0 0) (.slice none 0 0) nC ++ [(wn, .var [I (0 : Int)]), (w4, .var [I (0 : Int)]), (w3, .var [I (0 : Int)]), (w2, .var lE)]) _; refine U.seq (U.seq (U.text ?_)); refine J.c (.move rfl) ?_; refine J.mJ [] rfl rfl rfl (fX.call XJ) ?_; rintro _ _ ⟨w, rfl, rfl⟩; refine J.go (U.block ?_); refine U.keep [(0, St s), (2, .raw w2), (3, .raw w3), (4, .raw w4), (5, .raw wc), (6, .raw wn), (16, .gJ 93 [] [.raw w])] ⟨rfl, rfl, rfl, rfl, rfl, rfl, rfl, trivial⟩ ?_
  refine U.TZ rfl (U0 (n := s.size + 1) (by omega) (by omega)) (fun _ => rfl) rfl rfl
    (fun rest ss => ∃ (c : dG) (r : ByteArray) (m i : Nat) (b0 b1 b2 : Value), rest = KJ m r /\ r.size < m /\ i + r.size <= s.size /\ NP c i /\ tI s = oI YT (dL 10 r) c i /\ ss = dZ wc b0 b1 b2 c ++ [(wn, .var [I ((i : Nat) : Int)]), (w4, .var [I (0 : Int)]), (w3, .var [I (0 : Int)]), (w2, .var lE)])
    (fun ee ss => ee = .ret /\ ∃ (i : Nat) (l : aG), tI s = (none, i) /\ ss = NS w2 w3 w4 lE ((i : Nat) : Int) 26 ++ l)
    ⟨nC, s, s.size + 1, 0, _, _, _, rfl, by omega, by omega, NR, rfl, rfl⟩ ?_ ?_ ?_
  . rintro jj y rest _ ⟨c, r, m, i, b0, b1, b2, hr, hm, hi, hc, hp, rfl⟩; obtain ⟨m, rfl⟩ : ∃ q, m = q + 1 := ⟨m - 1, by omega⟩
    have HK : r.size ≠ 0 := fun e => by rw [NL e] at hr; cases hr
    rw [Q1 HK] at hr; injection hr with hr1 rR; subst hr1 rR; have b7 := KK HK; have hls := ac8 (r := r); have hca := X8 (s := r) (c := 10); have hre : r ≠ ByteArray.empty := fun e => HK (by rw [e]; rfl); show U _ _ _ _ _ [(17, St (wP r)), (0, St s), (2, .raw w2), (3, .raw w3), (4, .raw w4), (5, .raw wc), (6, .raw wn), (16, .gJ 93 [] [.raw w])] _ _; refine U.text ?_; refine J.c (.assign rfl) ?_; refine J.nil ?_; refine ⟨rfl, ?_⟩; refine U.block (U.seq (U.text ?_)); refine J.c (.move rfl) ?_; refine J.call rfl rfl (VF.call (show VF Tryz.prog OA 49 [St (wP r), St r5] (.mE [St (GU (wP r) r5), B (rA (wP r) r5)]) from ac7 (by omega))) ?_; refine J.c (.move rfl) (J.c (.extract) (J.c (.extract) (J.c (.assign rfl) ?_))); refine J.c (.assign rfl) (J.go ?_); by_cases hx : 0 <= Go.Lib.indexByte (aS r) 10
    . obtain ⟨P5, RE⟩ := afR hx; rw [P5, RE]; refine U.seq (U.seq (U.text ?_)); refine J.c (.move rfl) (J.c (.not) (J.c (.move rfl) (J.c (.move rfl) ?_))); have hfw := zO (c := 32) (s := tF 10 r); have hzw := BJ (c := 32) (s := tF 10 r); have hlen : 0 < (dL 32 (tF 10 r)).length := List.length_pos_iff.2 yH; obtain ⟨uS, mS, zR⟩ := id hc; refine J.call rfl rfl (VF.call (show VF Tryz.prog OA 51 [St (tF 10 r), St TV] (.v (.sl .str) (dL 32 (tF 10 r))) from X1 rfl (by omega))) ?_; refine J.mJ (dZ wc b0 b1 b2 c) rfl rfl rfl (fX.call (abY hlen (by omega) (fun x hx => by have := hzw x hx; omega) (by omega) (by omega) (by omega))) ?_; rintro _ _ ⟨d0, d1, d2, c', rfl, rfl, cC⟩; refine J.c (.not) (J.c (.aU rfl rfl) (J.go ?_))
      cases hq : dM c (dL 32 (tF 10 r)) with
      | none =>
        have LL : tI s = (none, i) := hp.trans (abU hx hq); refine U.jJ rfl ?_; refine U.seq ?_; refine U.perm FN ?_; refine U.late ((wn, .var [I ((i : Nat) : Int)]) :: dZ wc d0 d1 d2 c') ⟨NS w2 w3 w4 lE 0 0, rfl⟩ ?_; refine jM.c (.build nC YY) ?_; refine jM.qo rfl m0 (.inl rfl) (.PD m0 qZ) ?_; refine jM.oN (bF.fP (k := 0) pS .v (Nat.le_of_ble_eq_true rfl) (.inr ⟨rfl, rfl⟩) rfl rfl) (rK.store rfl (.inl rfl)) ⟨[_, _], rfl⟩ ?_; rintro _ _ ⟨rfl, rfl⟩; refine ⟨⟨[_, _, _], rfl⟩, ?_⟩; refine jM.perm cW ⟨[_, _, _], rfl⟩ ?_; refine jM.oN (bF.fP (k := 0) qZ .v (Nat.le_of_ble_eq_true rfl) (.inr ⟨rfl, rfl⟩) rfl rfl) (rK.store rfl (.inl rfl)) ⟨[_, _], rfl⟩ ?_; rintro _ _ ⟨rfl, rfl⟩; refine ⟨⟨[_, _, _], rfl⟩, ?_⟩; refine jM.perm dF ⟨[_, _, _], rfl⟩ ?_; refine jM.oN (bF.fP (k := 0) AF .v (Nat.le_of_ble_eq_true rfl) (.inr ⟨rfl, rfl⟩) rfl rfl) (rK.store rfl (.inl rfl)) ⟨[_, _], rfl⟩ ?_; rintro _ _ ⟨rfl, rfl⟩; refine ⟨⟨[_, _, _], rfl⟩, ?_⟩; refine jM.perm (show List.Perm _ (NS w2 w3 w4 lE ((i : Nat) : Int) 26 ++ ((wn, .var [I ((i : Nat) : Int)]) :: dZ wc d0 d1 d2 c')) from (List.reverse_perm [_, _, _]).append_right _) ⟨[_, _, _], rfl⟩ ?_; refine jM.go ?_; refine U.ret ?_
        exact .inr ⟨(by intro h; cases h), rfl, i, _, LL, rfl⟩
      | some c2 =>
        obtain rfl := cC c2 hq; refine U.eB rfl ?_; refine U.skip ?_; refine U.perm (List.perm_append_comm) ?_; refine U.text ?_; refine J.r (.PD m0 qZ) ?_; refine J.c (.add rfl rfl (by omega)) ?_; refine J.eQ (cs' := [I (((i + 1 : Nat) : Nat) : Int)]) qZ .v ?_; refine J.perm (List.perm_append_comm (l₁ := ([(wn, .var [I (((i + 1 : Nat) : Nat) : Int)]), (w4, .var [I (0 : Int)]), (w3, .var [I (0 : Int)]), (w2, .var lE)] : aG))) ?_; refine J.nil ?_; refine .inl ⟨rfl, c', pJ 10 r, m, i + 1, d0, d1, d2, rfl, by omega, by omega, afS hq (by omega) hc, hp.trans (XA hx hq), rfl⟩
    have P5 := ajL hx; rw [P5]; have LL : tI s = (none, i) := hp.trans (X9 hre hx); refine U.seq (U.seq (U.text ?_)); refine J.c (.move rfl) (J.c (.not) (J.c (.move rfl) (J.skip ?_))); refine J.skip (J.skip (J.skip (J.c (.bS rfl rfl) ?_))); refine J.go ?_; refine U.jJ rfl ?_; refine U.seq ?_; refine U.perm FN ?_; refine U.late ((wn, .var [I ((i : Nat) : Int)]) :: dZ wc b0 b1 b2 c) ⟨NS w2 w3 w4 lE 0 0, rfl⟩ ?_; refine jM.c (.build nC YY) ?_; refine jM.qo rfl m0 (.inl rfl) (.PD m0 qZ) ?_; refine jM.oN (bF.fP (k := 0) pS .v (Nat.le_of_ble_eq_true rfl) (.inr ⟨rfl, rfl⟩) rfl rfl) (rK.store rfl (.inl rfl)) ⟨[_, _], rfl⟩ ?_; rintro _ _ ⟨rfl, rfl⟩; refine ⟨⟨[_, _, _], rfl⟩, ?_⟩; refine jM.perm cW ⟨[_, _, _], rfl⟩ ?_; refine jM.oN (bF.fP (k := 0) qZ .v (Nat.le_of_ble_eq_true rfl) (.inr ⟨rfl, rfl⟩) rfl rfl) (rK.store rfl (.inl rfl)) ⟨[_, _], rfl⟩ ?_; rintro _ _ ⟨rfl, rfl⟩; refine ⟨⟨[_, _, _], rfl⟩, ?_⟩; refine jM.perm dF ⟨[_, _, _], rfl⟩ ?_; refine jM.oN (bF.fP (k := 0) AF .v (Nat.le_of_ble_eq_true rfl) (.inr ⟨rfl, rfl⟩) rfl rfl) (rK.store rfl (.inl rfl)) ⟨[_, _], rfl⟩ ?_; rintro _ _ ⟨rfl, rfl⟩; refine ⟨⟨[_, _, _], rfl⟩, ?_⟩; refine jM.perm (show List.Perm _ (NS w2 w3 w4 lE ((i : Nat) : Int) 26 ++ ((wn, .var [I ((i : Nat) : Int)]) :: dZ wc b0 b1 b2 c)) from (List.reverse_perm [_, _, _]).append_right _) ⟨[_, _, _], rfl⟩ ?_; refine jM.go ?_; refine U.ret ?_; exact .inr ⟨(by intro h; cases h), rfl, i, _, LL, rfl⟩
  . rintro C1 _ ⟨c, r, m, i, b0, b1, b2, hr, hm, hi, hc, hp, rfl⟩
    have HK : r = ByteArray.empty := by
      by_cases h0 : r.size = 0
      . exact tE (List.eq_nil_of_length_eq_zero (by rw [cU]; exact h0))
      obtain ⟨m, rfl⟩ : ∃ q, m = q + 1 := ⟨m - 1, by omega⟩; rw [Q1 h0] at hr; cases hr
    have uK : tI s = (some c, i) := by rw [hp, HK, abT]
    have bD := UC hc (by omega)
    have XL : ¬ 4096 < s.size := by omega
    show U _ _ _ _ _ _ ((w, C1) :: (dZ wc b0 b1 b2 c ++ [(wn, .var [I ((i : Nat) : Int)]), (w4, .var [I (0 : Int)]), (w3, .var [I (0 : Int)]), (w2, .var lE)])) _; refine U.perm (show List.Perm _ ([(w2, .var lE), (w3, .var [I (0 : Int)]), (w4, .var [I (0 : Int)])] ++ ((wn, .var [I ((i : Nat) : Int)]) :: (w, C1) :: dZ wc b0 b1 b2 c)) from FN (l := (w, C1) :: dZ wc b0 b1 b2 c)) ?_; refine U.seq (U.seq (U.text ?_)); refine J.r (.PT me5 pS) ?_; refine J.PC rfl rfl .same (.cons (YX (a := .sl o5) (b := .pair (.sl pR) (.sl rO)) (x := c) (.cons (.row me6) (.cons (.row me7) (.cons (.row me8) .nil)))) .nil) rfl (VF.call (MZ bD)) ?_; refine J.c (.assign rfl) ?_; refine J.go (U.seq (U.text ?_)); refine J.c (.move rfl) (J.c (.neq) (J.go ?_)); refine U.aM rfl (fun c2 => ?_) (fun c2 => ?_)
    . obtain ⟨e1, e2, e3⟩ := KQ XL uK c2; refine U.seq ?_; refine U.late ((wn, .var [I ((i : Nat) : Int)]) :: (w, C1) :: dZ wc b0 b1 b2 c) ⟨NS w2 w3 w4 lE 0 0, rfl⟩ ?_; refine jM.c (.build nC YY) ?_; refine jM.qo rfl m0 (.inl rfl) (.PD m0 qZ) ?_; refine jM.c (.move rfl) ?_; refine jM.oN (bF.fP (k := 0) pS .v (Nat.le_of_ble_eq_true rfl) (.inr ⟨rfl, rfl⟩) rfl rfl) (rK.store rfl (.inl rfl)) ⟨[_, _], rfl⟩ ?_; rintro _ _ ⟨rfl, rfl⟩; refine ⟨⟨[_, _, _], rfl⟩, ?_⟩; refine jM.perm cW ⟨[_, _, _], rfl⟩ ?_; refine jM.oN (bF.fP (k := 0) qZ .v (Nat.le_of_ble_eq_true rfl) (.inr ⟨rfl, rfl⟩) rfl rfl) (rK.store rfl (.inl rfl)) ⟨[_, _], rfl⟩ ?_; rintro _ _ ⟨rfl, rfl⟩; refine ⟨⟨[_, _, _], rfl⟩, ?_⟩; refine jM.perm dF ⟨[_, _, _], rfl⟩ ?_; refine jM.oN (bF.fP (k := 0) AF .v (Nat.le_of_ble_eq_true rfl) (.inr ⟨rfl, rfl⟩) rfl rfl) (rK.store rfl (.inl rfl)) ⟨[_, _], rfl⟩ ?_; rintro _ _ ⟨rfl, rfl⟩; refine ⟨⟨[_, _, _], rfl⟩, ?_⟩; refine jM.go ?_; refine U.ret ?_; exact aR.three rfl (.cell (x := nC) rfl m2 pS .refl) (.cell (x := ((i : Nat) : Int)) rfl m1 qZ .refl) (.cell (x := fF c) rfl m0 AF .refl) (dV e1.symm) (cY e2.symm) (cY e3.symm)
    obtain ⟨e1, e2, e3⟩ := NO XL uK (Classical.not_not.1 c2); refine U.skip (U.seq (U.text ?_)); refine J.r (.PT me5 pS) ?_; refine J.one me6 fun ho0 => ?_; refine J.one me7 fun JJ => ?_; refine J.one me8 fun ho2 => ?_; refine J.eQ (cs' := [.raw b0, .raw b1, .raw b2]) pS (.GB (cs := [.raw b0, .raw b1, .raw b2]) rfl (by simp [PV.one, ho0, JJ, ho2])) ?_; refine J.perm cW ?_; refine J.eQ (cs' := [I (0 : Int)]) qZ .v ?_; refine J.perm dF ?_; refine J.eQ (cs' := [I (0 : Int)]) AF .v ?_; refine J.go ?_; refine U.ret ?_; exact aR.three rfl (.cell (x := c) rfl m2 pS (.cons (.row me6) (.cons (.row me7) (.cons (.row me8) .nil)))) (.cell (x := (0 : Int)) rfl m1 qZ .refl) (.cell (x := (0 : Int)) rfl m0 AF .refl) (dV e1.symm) (cY e2.symm) (cY e3.symm)
  rintro C1 ee _ cL ⟨rfl, i, l, LL, rfl⟩; obtain ⟨e1, e2, e3⟩ := FM (show ¬ 4096 < s.size by omega) LL; exact aR.three rfl (.cell (x := nC) rfl m1 pS .refl) (.cell (x := ((i : Nat) : Int)) rfl m2 qZ .refl) (.cell (x := (26 : Int)) rfl m3 AF .refl) (dV e1.symm) (cY e2.symm) (cY e3.symm)
end Go.Proofs
namespace Go.Proofs
open Go.Fs
set_option maxHeartbeats 4000000
theorem akL : wZ Tryz.prog 52 rX [(0, 1), (1, 1)] := pC aeD rfl (by kernel_rfl)
theorem aK.isT {P : Program} {fl : VL} {σ : aG} {op : Op} {p : Prop} {i : Decidable p} (hc : aK P fl σ op (.v .bool (@decide p i))) (h : p) : aK P fl σ op (.v .bool true) := by
  rwa [decide_eq_true h] at hc
theorem aK.isF {P : Program} {fl : VL} {σ : aG} {op : Op} {p : Prop} {i : Decidable p} (hc : aK P fl σ op (.v .bool (@decide p i))) (h : ¬ p) : aK P fl σ op (.v .bool false) := by
  rwa [decide_eq_false h] at hc
abbrev jH (w a0 a1 a2 : Value) (c : dG) : aG := [(w, .var [.raw a0, .raw a1, .raw a2]), (a0, .row 52 rX c.1), (a1, .row 54 tL c.2.1), (a2, .row 56 tM c.2.2)]
def RdR (w : Value) (c : dG) (W : List ByteArray) (r : PV) (g : aG) : Prop := ∃ b0 b1 b2 c', g = jH w b0 b1 b2 c' /\ r = B (dM c W).isSome /\ ∀ c2, dM c W = some c2 -> c' = c2
theorem BM {w b0 b1 b2 : Value} {c c' : dG} {W : List ByteArray} {q : Bool} (h : dM c W = if q = true then some c' else none) : RdR w c W (B q) (jH w b0 b1 b2 c') := by
  refine ⟨b0, b1, b2, c', rfl, ?_, fun c2 h2 => ?_⟩
  . rw [h]; cases q <;> rfl
  rw [h] at h2; cases q
  . cases h2
  exact Option.some.inj h2
theorem afT {c : dG} {W : List ByteArray} (h : lM W = true) : dM c W = none := if_pos h
theorem afU {W : List ByteArray} (h : ∀ i, i < W.length -> dD W i ≠ ByteArray.empty) : lM W = false := by
  unfold lM; refine List.any_eq_false.2 fun x hx => ?_; obtain ⟨i, hi, rfl⟩ := List.getElem_of_mem hx; have := h i hi; rw [gP hi] at this; simpa using this
theorem afV {W : List ByteArray} {i : Nat} (hi : i < W.length) (h : W[i] = ByteArray.empty) : lM W = true := List.any_eq_true.2 ⟨W[i], List.getElem_mem hi, by simpa using h⟩
theorem o6 : (lY ≠ lZ /\ lY ≠ mZ) /\ lZ ≠ mZ /\ yI ≠ j6 := by decide
theorem amB {c : dG} {W : List ByteArray} {q : Bool} (he : lM W = false) (hw : dD W 0 = lY) (h3 : W.length = 3) (h1 : c.2.1.length = 0) (h2 : c.2.2.length = 0) (hq : iE (dD W 2) = q) : dM c W = if q = true then some (c.1 ++ [(dD W 1, pK (dD W 2))], c.2.1, c.2.2) else none := by
  subst hq; unfold dM; rw [if_neg (by rw [he]; decide), if_pos ⟨hw, h3, h1, h2⟩]
theorem Q5 {c : dG} {W : List ByteArray} (he : lM W = false) (hw : dD W 0 = lY) (h : ¬ (W.length = 3 /\ c.2.1.length = 0 /\ c.2.2.length = 0)) : dM c W = none := by
  unfold dM; rw [if_neg (by rw [he]; decide), if_neg (fun hh => h hh.2), if_neg (fun hh => o6.1.1 (hw.symm.trans hh.1)), if_neg (fun hh => o6.1.2 (hw.symm.trans hh.1))]
theorem afW {c : dG} {W : List ByteArray} {q : Bool} (he : lM W = false) (hw : dD W 0 = lZ) (h1 : 2 <= W.length) (h2 : W.length % 2 = 0) (h3 : c.2.2.length = 0) (hq : k9 (W.drop 2) = q) : dM c W = if q = true then some (c.1, c.2.1 ++ [(dD W 1, x6 (W.drop 2))], c.2.2) else none := by
  subst hq; unfold dM; rw [if_neg (by rw [he]; decide), if_neg (fun hh => o6.1.1 (hh.1.symm.trans hw)), if_pos ⟨hw, h1, h2, h3⟩]
theorem Q6 {c : dG} {W : List ByteArray} (he : lM W = false) (hw : dD W 0 = lZ) (h : ¬ (2 <= W.length /\ W.length % 2 = 0 /\ c.2.2.length = 0)) : dM c W = none := by
  unfold dM; rw [if_neg (by rw [he]; decide), if_neg (fun hh => o6.1.1 (hh.1.symm.trans hw)), if_neg (fun hh => h hh.2), if_neg (fun hh => o6.2.1 (hw.symm.trans hh.1))]
theorem afX {c : dG} {W : List ByteArray} (he : lM W = false) (hw : dD W 0 = mZ) (h1 : 3 <= W.length) (h2 : dD W 2 = yI \/ dD W 2 = j6) : dM c W = some (c.1, c.2.1, c.2.2 ++ [(dD W 1, decide (dD W 2 = j6), W.drop 3)]) := by
  unfold dM; rw [if_neg (by rw [he]; decide), if_neg (fun hh => o6.1.2 (hh.1.symm.trans hw)), if_neg (fun hh => o6.2.1 (hh.1.symm.trans hw)), if_pos ⟨hw, h1, h2⟩]
theorem YZ {c : dG} {W : List ByteArray} (he : lM W = false) (hw : dD W 0 = mZ) (h : ¬ (3 <= W.length /\ (dD W 2 = yI \/ dD W 2 = j6))) : dM c W = none := by
  unfold dM; rw [if_neg (by rw [he]; decide), if_neg (fun hh => o6.1.2 (hh.1.symm.trans hw)), if_neg (fun hh => o6.2.1 (hh.1.symm.trans hw)), if_neg (fun hh => h hh.2)]
theorem afY {W : List ByteArray} {i : Nat} (hi : i + 1 < W.length) (h : dD W i ≠ ByteArray.empty) : k9 (W.drop i) = (iE (dD W (i + 1)) && k9 (W.drop (i + 2))) /\ x6 (W.drop i) = (dD W i, pK (dD W (i + 1))) :: x6 (W.drop (i + 2)) := by
  have hd : W.drop i = dD W i :: dD W (i + 1) :: W.drop (i + 2) := by
    rw [List.drop_eq_getElem_cons (by omega), List.drop_eq_getElem_cons hi, gP (by omega), gP hi]
  rw [hd]; refine ⟨?_, rfl⟩; show (decide (dD W i ≠ ByteArray.empty) && (iE (dD W (i + 1)) && k9 (W.drop (i + 2)))) = _; rw [decide_eq_true h, Bool.true_and]
theorem afZ {wc a0 a1 a2 : Value} {c : dG} {l : ByteArray} (hl : l.size < 100000) (h1 : c.1.length < 100000) (h2 : c.2.1.length < 100000) (h3 : c.2.2.length < 100000) :
    fX Tryz.prog OA 56 [.raw wc, St l] (jH wc a0 a1 a2 c) (RdR wc c (dL 32 l)) := by
  refine fX.vI Tryz.func56 rfl (fun _ _ => rfl) rfl ?_; show U _ _ _ _ _ [(0, .raw wc), (1, St l)] (jH wc a0 a1 a2 c) _; refine U.seq (U.text ?_); refine J.c (.assign rfl) ?_; refine J.go (U.seq (U.text ?_)); refine J.c (.move rfl) ?_; refine J.call rfl rfl (VF.call (show VF Tryz.prog OA 15 [St l, .v (.int .u8) 32] (.v (.sl .str) (dL 32 l)) from KC hl (by omega))) ?_; refine J.c (.assign rfl) (J.go ?_); have hwf := zO (c := 32) (s := l); have hws := BJ (c := 32) (s := l); have h0 : 0 < (dL 32 l).length := List.length_pos_iff.2 yH
  have hz : ∀ x ∈ dL 32 l, x.size < 100000 := fun x hx => by have := hws x hx; omega
  have hW : (dL 32 l).length < 100001 := by omega
  clear hwf hws; generalize dL 32 l = W at *; refine U.seq (U.seq (U.text ?_)); refine J.c (.assign rfl) ?_; refine J.go (U.block ?_); refine U.keep [(0, .raw wc), (5, .v (.sl .str) W), (6, I ((0 : Nat) : Int))] ⟨rfl, rfl, rfl, trivial⟩ ?_; refine U.loop (I := fun kk ff ss => ∃ (i : Nat), kk = W.length - i /\ ff = [(0, .raw wc), (5, .v (.sl .str) W), (6, I ((i : Nat) : Int))] /\ ss = jH wc a0 a1 a2 c /\ i <= W.length /\ ∀ j, j < i -> dD W j ≠ ByteArray.empty) ?_ _ _ _ ⟨0, rfl, rfl, rfl, Nat.zero_le _, fun j hj => by omega⟩; rintro kk ff ss ⟨i, kI, rfl, rfl, BD, cL⟩; refine U.seq (U.seq (U.text ?_)); refine J.c (.move rfl) (J.c (.move rfl) ?_); refine J.r (.len b8) ?_; refine J.c (.lss) (J.go ?_); refine U.aM rfl (fun c3 => ?_) (fun c3 => ?_)
  . have hit : i < W.length := by omega
    refine U.skip (U.seq (U.block (U.seq (U.text ?_)))); refine J.c (.move rfl) (J.c (.move rfl) (J.c (.ix (j := i) rfl rfl b8 hit) ?_)); refine J.r (.ld cJ) ?_; refine J.c (.sT) (J.go ?_); refine U.aM rfl (fun c5 => ?_) (fun c5 => ?_)
    . refine U.seq (U.text ?_); refine J.c (.assign rfl) (J.go ?_); refine U.ret ?_; exact ⟨rfl, [], jH wc a0 a1 a2 c, [B false], .refl _, .cons aZ .nil, BM (by rw [afT (afV hit c5)]; rfl), bL⟩
    refine U.skip (U.text ?_); refine J.c (.move rfl) (J.c (.add rfl rfl (by omega)) (J.c (.assign rfl) ?_)); refine J.nil ?_
    exact ⟨W.length - (i + 1), [(0, .raw wc), (5, .v (.sl .str) W), (6, I (((i + 1 : Nat) : Nat) : Int))], by omega, ⟨rfl, rfl, rfl, trivial⟩, i + 1, rfl, rfl, rfl, by omega, fun j hj => by
      by_cases hji : j = i
      . rw [hji, gP hit]; exact c5
      exact cL j (by omega)⟩
  have XI : i = W.length := by omega
  subst XI; have u7 := afU cL; have kX : dD W 0 = W[0] := gP h0; refine U.exit ?_; show U _ _ _ _ _ _ _ _; by_cases hw : W[0] = lY
  . skip
    have hve : W[0] ≠ lZ := by rw [hw]; exact o6.1.1
    have hvc : W[0] ≠ mZ := by rw [hw]; exact o6.1.2
    refine U.seq (U.seq (U.text ?_)); refine J.c (.move rfl) (J.c (.ix (j := 0) rfl rfl b8 h0) ?_); refine J.r (.ld cJ) ?_; refine J.c (.yJ hw) (J.c (.move rfl) ?_); by_cases g3 : W.length = 3
    . skip
      refine J.c (.move rfl) ?_; refine J.r (.len b8) ?_; refine J.c (.LW (h := by omega)) (J.c (.bS rfl rfl) (J.c (.move rfl) ?_)); by_cases ge : c.2.1.length = 0
      . skip
        refine J.c (.move rfl) (J.c (.eD m0) (J.c (.eL (k := 1) m0) ?_)); refine J.r (.jK (k := 1) m0 jD) ?_; refine J.r (.tU m2 iD) ?_; refine J.c (.LW (h := by omega)) (J.c (.bS rfl rfl) (J.c (.move rfl) ?_)); by_cases gc : c.2.2.length = 0
        . skip
          refine J.c (.move rfl) (J.c (.eD m0) (J.c (.eL (k := 2) m0) ?_)); refine J.r (.jK (k := 2) m0 gM) ?_; refine J.r (.tU m3 fJ) ?_; refine J.c (.LW (h := by omega)) (J.c (.bS rfl rfl) (J.go ?_)); refine U.jJ rfl ?_
          have i1 : 1 < W.length := by omega
          have i2 : 2 < W.length := by omega
          have pO := hz _ (List.getElem_mem i2); refine U.seq (U.text ?_); refine J.c (.move rfl) (J.c (.ix (j := 2) rfl rfl b8 i2) ?_); refine J.r (.ld cJ) ?_; refine J.call rfl rfl (VF.call (TU pO)) ?_; refine J.c (.move rfl) (J.c (.extract) (J.c (.extract) (J.c (.assign rfl) ?_))); refine J.c (.assign rfl) ?_; refine J.go (U.seq (U.drawn ?_)); refine VD.c (.move rfl) (VD.c (.move rfl) ?_); refine VD.co (.eD m0) ?_; refine VD.co (.eL (k := 0) m0) ?_; refine VD.r (jH wc a0 a1 a2 c) (.jK (k := 0) m0 gX) (.inr ⟨rfl, rfl⟩) ?_; refine VD.c (.move rfl) (VD.c (.ix (j := 1) rfl rfl b8 i1) ?_); refine VD.r [] (.ld cJ) (.inl rfl) ?_; refine VD.c (.move rfl) (VD.c (.build (W[1], pK W[2]) akL) ?_); refine VD.new (.lit [(W[1], pK W[2])] eC) ?_; refine VD.perm cW ?_; refine VD.mk (bF.app eC eC rfl rfl (by simp; omega)) ?_; rintro _ _ tl ⟨wn, rfl, rfl⟩; refine VD.co (.eD m1) ?_; refine VD.co (.eL (k := 0) m1) ?_; refine VD.perm cW ?_; refine VD.one m1 fun ho => ?_; refine VD.oN (bF.fP (k := 0) gX (.raw rfl (fE ho) ho) (Nat.le_of_ble_eq_true rfl) (.inl rfl) rfl rfl) ?_; rintro _ _ XE ⟨rfl, rfl⟩; refine VD.go (U.seq (U.text ?_)); refine J.c (.move rfl) (J.c (.assign rfl) (J.go ?_)); refine U.ret ?_; exact ⟨rfl, [], jH wc wn a1 a2 (c.1 ++ [(W[1], pK W[2])], c.2.1, c.2.2), [B (iE W[2])], .refl _, .cons aZ .nil, BM (by have := amB u7 (kX.trans hw) g3 ge gc rfl; rwa [gP i1, gP i2] at this), bL⟩
        skip
        refine J.c (.move rfl) (J.c (.eD m0) (J.c (.eL (k := 2) m0) ?_)); refine J.r (.jK (k := 2) m0 gM) ?_; refine J.r (.tU m3 fJ) ?_; refine J.c (.zZ (h := by omega)) (J.c (.bS rfl rfl) (J.go ?_)); refine U.eB rfl ?_; refine U.skip (U.seq (U.seq (U.text ?_))); refine J.c (.move rfl) (J.c (.ix (j := 0) rfl rfl b8 h0) ?_); refine J.r (.ld cJ) ?_; refine J.c (.kT hve) (J.c (.move rfl) (J.skip (J.skip ?_))); refine J.skip (J.c (.aU rfl rfl) (J.c (.move rfl) (J.skip ?_))); refine J.skip (J.skip (J.skip (J.c (.aU rfl rfl) ?_))); refine J.c (.move rfl) (J.skip (J.skip (J.skip ?_))); refine J.skip (J.skip (J.skip (J.c (.aU rfl rfl) ?_))); refine J.go ?_; refine U.eB rfl ?_; refine U.skip (U.seq (U.seq (U.text ?_))); refine J.c (.move rfl) (J.c (.ix (j := 0) rfl rfl b8 h0) ?_); refine J.r (.ld cJ) ?_; refine J.c (.kT hvc) (J.c (.move rfl) (J.skip (J.skip ?_))); refine J.skip (J.c (.aU rfl rfl) (J.c (.move rfl) (J.skip ?_))); refine J.skip (J.skip (J.skip (J.skip ?_))); refine J.skip (J.skip (J.skip (J.skip ?_))); refine J.skip (J.c (.aU rfl rfl) (J.go ?_)); refine U.eB rfl ?_; refine U.skip (U.seq (U.text ?_)); refine J.c (.assign rfl) (J.go ?_); refine U.ret ?_; exact ⟨rfl, [], jH wc a0 a1 a2 c, [B false], .refl _, .cons aZ .nil, BM (by rw [Q5 u7 (kX.trans hw) (fun h => gc h.2.2)]; rfl), bL⟩
      skip
      refine J.c (.move rfl) (J.c (.eD m0) (J.c (.eL (k := 1) m0) ?_)); refine J.r (.jK (k := 1) m0 jD) ?_; refine J.r (.tU m2 iD) ?_; refine J.c (.zZ (h := by omega)) (J.c (.bS rfl rfl) (J.c (.move rfl) (J.skip ?_))); refine J.skip (J.skip (J.skip (J.skip ?_))); refine J.skip (J.c (.aU rfl rfl) (J.go ?_)); refine U.eB rfl ?_; refine U.skip (U.seq (U.seq (U.text ?_))); refine J.c (.move rfl) (J.c (.ix (j := 0) rfl rfl b8 h0) ?_); refine J.r (.ld cJ) ?_; refine J.c (.kT hve) (J.c (.move rfl) (J.skip (J.skip ?_))); refine J.skip (J.c (.aU rfl rfl) (J.c (.move rfl) (J.skip ?_))); refine J.skip (J.skip (J.skip (J.c (.aU rfl rfl) ?_))); refine J.c (.move rfl) (J.skip (J.skip (J.skip ?_))); refine J.skip (J.skip (J.skip (J.c (.aU rfl rfl) ?_))); refine J.go ?_; refine U.eB rfl ?_; refine U.skip (U.seq (U.seq (U.text ?_))); refine J.c (.move rfl) (J.c (.ix (j := 0) rfl rfl b8 h0) ?_); refine J.r (.ld cJ) ?_; refine J.c (.kT hvc) (J.c (.move rfl) (J.skip (J.skip ?_))); refine J.skip (J.c (.aU rfl rfl) (J.c (.move rfl) (J.skip ?_))); refine J.skip (J.skip (J.skip (J.skip ?_))); refine J.skip (J.skip (J.skip (J.skip ?_))); refine J.skip (J.c (.aU rfl rfl) (J.go ?_)); refine U.eB rfl ?_; refine U.skip (U.seq (U.text ?_)); refine J.c (.assign rfl) (J.go ?_); refine U.ret ?_; exact ⟨rfl, [], jH wc a0 a1 a2 c, [B false], .refl _, .cons aZ .nil, BM (by rw [Q5 u7 (kX.trans hw) (fun h => ge h.2.1)]; rfl), bL⟩
    skip
    refine J.c (.move rfl) ?_; refine J.r (.len b8) ?_; refine J.c (.zZ (h := by omega)) (J.c (.bS rfl rfl) (J.c (.move rfl) (J.skip ?_))); refine J.skip (J.skip (J.skip (J.skip ?_))); refine J.skip (J.c (.aU rfl rfl) (J.c (.move rfl) (J.skip ?_))); refine J.skip (J.skip (J.skip (J.skip ?_))); refine J.skip (J.c (.aU rfl rfl) (J.go ?_)); refine U.eB rfl ?_; refine U.skip (U.seq (U.seq (U.text ?_))); refine J.c (.move rfl) (J.c (.ix (j := 0) rfl rfl b8 h0) ?_); refine J.r (.ld cJ) ?_; refine J.c (.kT hve) (J.c (.move rfl) (J.skip (J.skip ?_))); refine J.skip (J.c (.aU rfl rfl) (J.c (.move rfl) (J.skip ?_))); refine J.skip (J.skip (J.skip (J.c (.aU rfl rfl) ?_))); refine J.c (.move rfl) (J.skip (J.skip (J.skip ?_))); refine J.skip (J.skip (J.skip (J.c (.aU rfl rfl) ?_))); refine J.go ?_; refine U.eB rfl ?_; refine U.skip (U.seq (U.seq (U.text ?_))); refine J.c (.move rfl) (J.c (.ix (j := 0) rfl rfl b8 h0) ?_); refine J.r (.ld cJ) ?_; refine J.c (.kT hvc) (J.c (.move rfl) (J.skip (J.skip ?_))); refine J.skip (J.c (.aU rfl rfl) (J.c (.move rfl) (J.skip ?_))); refine J.skip (J.skip (J.skip (J.skip ?_))); refine J.skip (J.skip (J.skip (J.skip ?_))); refine J.skip (J.c (.aU rfl rfl) (J.go ?_)); refine U.eB rfl ?_; refine U.skip (U.seq (U.text ?_)); refine J.c (.assign rfl) (J.go ?_); refine U.ret ?_; exact ⟨rfl, [], jH wc a0 a1 a2 c, [B false], .refl _, .cons aZ .nil, BM (by rw [Q5 u7 (kX.trans hw) (fun h => g3 h.1)]; rfl), bL⟩
  by_cases B8 : W[0] = lZ
  . clear hw; have hw := B8
    have bK : W[0] ≠ lY := by rw [hw]; exact o6.1.1.symm
    have hec : W[0] ≠ mZ := by rw [hw]; exact o6.2.1
    refine U.seq (U.seq (U.text ?_)); refine J.c (.move rfl) (J.c (.ix (j := 0) rfl rfl b8 h0) ?_); refine J.r (.ld cJ) ?_; refine J.c (.kT bK) (J.c (.move rfl) (J.skip (J.skip ?_))); refine J.skip (J.c (.aU rfl rfl) (J.c (.move rfl) (J.skip ?_))); refine J.skip (J.skip (J.skip (J.skip ?_))); refine J.skip (J.c (.aU rfl rfl) (J.c (.move rfl) (J.skip ?_))); refine J.skip (J.skip (J.skip (J.skip ?_))); refine J.skip (J.c (.aU rfl rfl) (J.go ?_)); refine U.eB rfl ?_; refine U.skip (U.seq (U.seq (U.text ?_))); refine J.c (.move rfl) (J.c (.ix (j := 0) rfl rfl b8 h0) ?_); refine J.r (.ld cJ) ?_; refine J.c (.yJ hw) (J.c (.move rfl) ?_); by_cases g2 : 2 <= W.length
    . skip
      refine J.c (.move rfl) ?_; refine J.r (.len b8) ?_; refine J.c (aK.isT (.geq) (by omega)) (J.c (.bS rfl rfl) (J.c (.move rfl) ?_))
      have htm : Int.tmod ((W.length : Nat) : Int) 2 = ((W.length % 2 : Nat) : Int) := by rw [Int.tmod_eq_emod_of_nonneg (by omega)] <;> rfl
      by_cases gm : W.length % 2 = 0
      . skip
        refine J.c (.move rfl) ?_; refine J.r (.len b8) ?_; refine J.c (.rem rfl rfl (by decide)) (J.c (.LW (h := by rw [htm]; omega)) (J.c (.bS rfl rfl) (J.c (.move rfl) ?_))); by_cases gc : c.2.2.length = 0
        . skip
          refine J.c (.move rfl) (J.c (.eD m0) (J.c (.eL (k := 2) m0) ?_)); refine J.r (.jK (k := 2) m0 gM) ?_; refine J.r (.tU m3 fJ) ?_; refine J.c (.LW (h := by omega)) (J.c (.bS rfl rfl) (J.go ?_)); refine U.jJ rfl ?_
          have i1 : 1 < W.length := by omega
          refine U.seq (U.text ?_); refine J.c (.move rfl) (J.c (.ix (j := 1) rfl rfl b8 i1) ?_); refine J.r (.ld cJ) ?_; refine J.c (.D0 (cs := [St W[1], cK]) akG rfl) ?_; refine J.cell (.alloc T3) ?_; intro w9; refine J.eQ (cs' := [St W[1], cK]) GN (.GB rfl rfl) ?_; refine J.go (U.seq (U.seq (U.text ?_))); refine J.c (.assign rfl) ?_; refine J.go (U.block ?_); refine U.cell0 52 rX ?_; refine U.keep [(0, .raw wc), (5, .v (.sl .str) W), (9, .raw w9), (10, I ((2 : Nat) : Int))] ⟨rfl, rfl, rfl, rfl, trivial⟩ ?_; refine U.loop (I := fun kk ff ss => ∃ (i : Nat) (o : List fV) (wo : Value), kk = W.length - i /\ ff = [(0, .raw wc), (5, .v (.sl .str) W), (9, .raw w9), (10, I ((i : Nat) : Int))] /\ ss = (wo, .row 52 rX o) :: (w9, .var [St W[1], .raw wo]) :: jH wc a0 a1 a2 c /\ i <= W.length /\ i % 2 = 0 /\ o.length <= i /\ k9 (W.drop 2) = k9 (W.drop i) /\ x6 (W.drop 2) = o ++ x6 (W.drop i)) ?_ _ _ _ ⟨2, [], .slice none 0 0, rfl, rfl, rfl, by omega, rfl, Nat.zero_le _, rfl, rfl⟩; rintro kk ff ss ⟨i, o, wo, H4, rfl, rfl, CV, him, OI, hpk, hpv⟩; refine U.seq (U.seq (U.text ?_)); refine J.c (.move rfl) (J.c (.move rfl) ?_); refine J.r (.len b8) ?_; refine J.c (.lss) (J.go ?_); refine U.aM rfl (fun D4 => ?_) (fun D4 => ?_)
          . have hit : i < W.length := by omega
            have Z0 : i + 1 < W.length := by omega
            have pO := hz _ (List.getElem_mem Z0); obtain ⟨hp1, hp2⟩ := afY Z0 (cL i hit); rw [gP Z0] at hp1 hp2; rw [gP hit] at hp2; refine U.skip (U.seq (U.block (U.seq (U.text ?_)))); refine J.c (.move rfl) (J.c (.move rfl) (J.c (.add rfl rfl (by omega)) (J.c (.ix (j := i + 1) rfl rfl b8 Z0) ?_))); refine J.r (.ld cJ) ?_; refine J.call rfl rfl (VF.call (TU pO)) ?_; refine J.c (.move rfl) (J.c (.extract) (J.c (.extract) (J.c (.assign rfl) ?_))); refine J.c (.assign rfl) ?_; refine J.go (U.seq (U.seq (U.text ?_))); refine J.c (.move rfl) (J.c (.not) (J.go ?_)); refine U.fO rfl (fun c17 => ?_) (fun c17 => ?_)
            . have RC : iE W[i + 1] = false := by simpa using c17
              refine U.seq (U.text ?_); refine J.c (.assign rfl) (J.go ?_); refine U.ret ?_; exact ⟨rfl, [(wo, .row 52 rX o), (w9, .var [St W[1], .raw wo])], jH wc a0 a1 a2 c, [B false], .refl _, .cons aZ .nil, BM (by rw [afW u7 (kX.trans hw) g2 gm gc (show k9 (W.drop 2) = false by rw [hpk, hp1, RC, Bool.false_and])]; rfl), bL⟩
            have RC : iE W[i + 1] = true := by simpa using c17
            refine U.skip (U.drawn ?_); refine VD.co (.eL (k := 1) m1) ?_; refine VD.r ((wo, .row 52 rX o) :: (w9, .var [St W[1], .raw wo]) :: jH wc a0 a1 a2 c) (.jK (k := 1) m1 gX) (.inr ⟨rfl, rfl⟩) ?_; refine VD.c (.move rfl) (VD.c (.move rfl) (VD.c (.ix (j := i) rfl rfl b8 hit) ?_)); refine VD.r [] (.ld cJ) (.inl rfl) ?_; refine VD.c (.move rfl) (VD.c (.build (W[i], pK W[i + 1]) akL) ?_); refine VD.new (.lit [(W[i], pK W[i + 1])] eC) ?_; refine VD.mk (bF.app eC eC rfl rfl (by simp; omega)) ?_; rintro _ _ tl ⟨wn, rfl, rfl⟩; refine VD.co (.eL (k := 1) m1) ?_; refine VD.perm cW ?_; refine VD.one m1 fun ho => ?_; refine VD.oN (bF.fP (k := 1) gX (.raw rfl (fE ho) ho) (Nat.le_of_ble_eq_true rfl) (.inl rfl) rfl rfl) ?_; rintro _ _ XE ⟨rfl, rfl⟩; refine VD.perm cW ?_; refine VD.nil ?_; refine U.text ?_; refine J.c (.move rfl) (J.c (.add rfl rfl (by omega)) (J.c (.assign rfl) ?_)); refine J.nil ?_; exact ⟨W.length - (i + 2), [(0, .raw wc), (5, .v (.sl .str) W), (9, .raw w9), (10, I (((i + 2 : Nat) : Nat) : Int))], by omega, ⟨rfl, rfl, rfl, rfl, trivial⟩, i + 2, o ++ [(W[i], pK W[i + 1])], wn, rfl, rfl, rfl, by omega, by omega, by simp only [List.length_append, List.length_singleton]; omega, by rw [hpk, hp1, RC, Bool.true_and], by rw [hpv, hp2, List.append_assoc]; rfl⟩
          have XI : i = W.length := by omega
          have hd : W.drop i = [] := List.drop_eq_nil_of_le (by omega); have cC := afW (c := c) u7 (kX.trans hw) g2 gm gc (show k9 (W.drop 2) = true by rw [hpk, hd]; rfl)
          have hpo : x6 (W.drop 2) = o := by rw [hpv, hd]; exact List.append_nil o
          rw [hpo, gP i1] at cC; refine U.exit ?_; refine U.wK [(wo, .row 52 rX o), (w9, .var [St W[1], .raw wo])] [(9, .p tL (W[1], o))] rfl (.cons rfl (.var m1 (.cons .same (.cons (.row m0) .nil))) .nil) ?_; refine U.seq (U.drawn ?_); refine VD.c (.move rfl) (VD.c (.move rfl) ?_); refine VD.co (.eD m0) ?_; refine VD.co (.eL (k := 1) m0) ?_; refine VD.r (jH wc a0 a1 a2 c) (.jK (k := 1) m0 jD) (.inr ⟨rfl, rfl⟩) ?_; refine VD.r [] (.ld GN) (.inl rfl) ?_; refine VD.new (.lit [(W[1], o)] iD) ?_; refine VD.perm dF ?_; refine VD.mk (bF.app iD iD rfl rfl (by simp; omega)) ?_; rintro _ _ tl ⟨wn, rfl, rfl⟩; refine VD.co (.eD m1) ?_; refine VD.co (.eL (k := 1) m1) ?_; refine VD.perm cW ?_; refine VD.one m1 fun ho => ?_; refine VD.oN (bF.fP (k := 1) jD (.raw rfl (fE ho) ho) (Nat.le_of_ble_eq_true rfl) (.inl rfl) rfl rfl) ?_; rintro _ _ XE ⟨rfl, rfl⟩; refine VD.go (U.seq (U.text ?_)); refine J.c (.assign rfl) (J.go ?_); refine U.ret ?_; exact ⟨rfl, [], jH wc a0 wn a2 (c.1, c.2.1 ++ [(W[1], o)], c.2.2), [B true], .cons _ cW, .cons aZ .nil, BM cC, bL⟩
        skip
        refine J.c (.move rfl) (J.c (.eD m0) (J.c (.eL (k := 2) m0) ?_)); refine J.r (.jK (k := 2) m0 gM) ?_; refine J.r (.tU m3 fJ) ?_; refine J.c (.zZ (h := by omega)) (J.c (.bS rfl rfl) (J.go ?_)); refine U.eB rfl ?_; refine U.skip (U.seq (U.seq (U.text ?_))); refine J.c (.move rfl) (J.c (.ix (j := 0) rfl rfl b8 h0) ?_); refine J.r (.ld cJ) ?_; refine J.c (.kT hec) (J.c (.move rfl) (J.skip (J.skip ?_))); refine J.skip (J.c (.aU rfl rfl) (J.c (.move rfl) (J.skip ?_))); refine J.skip (J.skip (J.skip (J.skip ?_))); refine J.skip (J.skip (J.skip (J.skip ?_))); refine J.skip (J.c (.aU rfl rfl) (J.go ?_)); refine U.eB rfl ?_; refine U.skip (U.seq (U.text ?_)); refine J.c (.assign rfl) (J.go ?_); refine U.ret ?_; exact ⟨rfl, [], jH wc a0 a1 a2 c, [B false], .refl _, .cons aZ .nil, BM (by rw [Q6 u7 (kX.trans hw) (fun h => gc h.2.2)]; rfl), bL⟩
      skip
      refine J.c (.move rfl) ?_; refine J.r (.len b8) ?_; refine J.c (.rem rfl rfl (by decide)) (J.c (.zZ (h := by rw [htm]; omega)) (J.c (.bS rfl rfl) (J.c (.move rfl) ?_))); refine J.skip (J.skip (J.skip (J.skip ?_))); refine J.skip (J.skip (J.c (.aU rfl rfl) (J.go ?_))); refine U.eB rfl ?_; refine U.skip (U.seq (U.seq (U.text ?_))); refine J.c (.move rfl) (J.c (.ix (j := 0) rfl rfl b8 h0) ?_); refine J.r (.ld cJ) ?_; refine J.c (.kT hec) (J.c (.move rfl) (J.skip (J.skip ?_))); refine J.skip (J.c (.aU rfl rfl) (J.c (.move rfl) (J.skip ?_))); refine J.skip (J.skip (J.skip (J.skip ?_))); refine J.skip (J.skip (J.skip (J.skip ?_))); refine J.skip (J.c (.aU rfl rfl) (J.go ?_)); refine U.eB rfl ?_; refine U.skip (U.seq (U.text ?_)); refine J.c (.assign rfl) (J.go ?_); refine U.ret ?_; exact ⟨rfl, [], jH wc a0 a1 a2 c, [B false], .refl _, .cons aZ .nil, BM (by rw [Q6 u7 (kX.trans hw) (fun h => gm h.2.1)]; rfl), bL⟩
    skip
    refine J.c (.move rfl) ?_; refine J.r (.len b8) ?_; refine J.c (aK.isF (.geq) (by omega)) (J.c (.bS rfl rfl) (J.c (.move rfl) (J.skip ?_))); refine J.skip (J.skip (J.skip (J.c (.aU rfl rfl) ?_))); refine J.c (.move rfl) (J.skip (J.skip (J.skip ?_))); refine J.skip (J.skip (J.skip (J.c (.aU rfl rfl) ?_))); refine J.go ?_; refine U.eB rfl ?_; refine U.skip (U.seq (U.seq (U.text ?_))); refine J.c (.move rfl) (J.c (.ix (j := 0) rfl rfl b8 h0) ?_); refine J.r (.ld cJ) ?_; refine J.c (.kT hec) (J.c (.move rfl) (J.skip (J.skip ?_))); refine J.skip (J.c (.aU rfl rfl) (J.c (.move rfl) (J.skip ?_))); refine J.skip (J.skip (J.skip (J.skip ?_))); refine J.skip (J.skip (J.skip (J.skip ?_))); refine J.skip (J.c (.aU rfl rfl) (J.go ?_)); refine U.eB rfl ?_; refine U.skip (U.seq (U.text ?_)); refine J.c (.assign rfl) (J.go ?_); refine U.ret ?_; exact ⟨rfl, [], jH wc a0 a1 a2 c, [B false], .refl _, .cons aZ .nil, BM (by rw [Q6 u7 (kX.trans hw) (fun h => g2 h.1)]; rfl), bL⟩
  by_cases CM : W[0] = mZ
  . clear hw B8; have hw := CM
    have hcv : W[0] ≠ lY := by rw [hw]; exact o6.1.2.symm
    have hce : W[0] ≠ lZ := by rw [hw]; exact o6.2.1.symm
    refine U.seq (U.seq (U.text ?_)); refine J.c (.move rfl) (J.c (.ix (j := 0) rfl rfl b8 h0) ?_); refine J.r (.ld cJ) ?_; refine J.c (.kT hcv) (J.c (.move rfl) (J.skip (J.skip ?_))); refine J.skip (J.c (.aU rfl rfl) (J.c (.move rfl) (J.skip ?_))); refine J.skip (J.skip (J.skip (J.skip ?_))); refine J.skip (J.c (.aU rfl rfl) (J.c (.move rfl) (J.skip ?_))); refine J.skip (J.skip (J.skip (J.skip ?_))); refine J.skip (J.c (.aU rfl rfl) (J.go ?_)); refine U.eB rfl ?_; refine U.skip (U.seq (U.seq (U.text ?_))); refine J.c (.move rfl) (J.c (.ix (j := 0) rfl rfl b8 h0) ?_); refine J.r (.ld cJ) ?_; refine J.c (.kT hce) (J.c (.move rfl) (J.skip (J.skip ?_))); refine J.skip (J.c (.aU rfl rfl) (J.c (.move rfl) (J.skip ?_))); refine J.skip (J.skip (J.skip (J.c (.aU rfl rfl) ?_))); refine J.c (.move rfl) (J.skip (J.skip (J.skip ?_))); refine J.skip (J.skip (J.skip (J.c (.aU rfl rfl) ?_))); refine J.go ?_; refine U.eB rfl ?_; refine U.skip (U.seq (U.seq (U.text ?_))); refine J.c (.move rfl) (J.c (.ix (j := 0) rfl rfl b8 h0) ?_); refine J.r (.ld cJ) ?_; refine J.c (.yJ hw) (J.c (.move rfl) ?_); by_cases g3 : 3 <= W.length
    . skip
      refine J.c (.move rfl) ?_; refine J.r (.len b8) ?_; refine J.c (aK.isT (.geq) (by omega)) (J.c (.bS rfl rfl) (J.c (.move rfl) ?_))
      have i1 : 1 < W.length := by omega
      have i2 : 2 < W.length := by omega
      refine J.c (.move rfl) (J.c (.ix (j := 2) rfl rfl b8 i2) ?_); refine J.r (.ld cJ) ?_; by_cases ga : W[2] = yI
      . skip
        refine J.c (.yJ ga) (J.c (.move rfl) (J.skip (J.skip ?_))); refine J.skip (J.skip (J.c (.bS rfl rfl) (J.c (.bS rfl rfl) ?_))); refine J.go ?_; refine U.jJ rfl ?_; refine U.seq (U.drawn ?_); refine VD.c (.move rfl) (VD.c (.move rfl) ?_); refine VD.co (.eD m0) ?_; refine VD.co (.eL (k := 2) m0) ?_; refine VD.r (jH wc a0 a1 a2 c) (.jK (k := 2) m0 gM) (.inr ⟨rfl, rfl⟩) ?_; refine VD.c (.move rfl) (VD.c (.ix (j := 1) rfl rfl b8 i1) ?_); refine VD.r [] (.ld cJ) (.inl rfl) ?_; refine VD.c (.move rfl) (VD.c (.ix (j := 2) rfl rfl b8 i2) ?_); refine VD.r [] (.ld cJ) (.inl rfl) ?_; refine VD.c (.sT) (VD.c (.move rfl) ?_); refine VD.r [] (.CT rfl rfl b8 (by omega)) (.inl rfl) ?_ (hold := by kernel_rfl); refine VD.c (.build (W[1], decide (W[2] = j6), W.drop 3) aeK) ?_; refine VD.new (.lit [(W[1], decide (W[2] = j6), W.drop 3)] fJ) ?_; refine VD.perm lX ?_; refine VD.mk (bF.app fJ fJ rfl rfl (by simp; omega)) ?_; rintro _ _ tl ⟨wn, rfl, rfl⟩; refine VD.co (.eD m1) ?_; refine VD.co (.eL (k := 2) m1) ?_; refine VD.perm cW ?_; refine VD.one m1 fun ho => ?_; refine VD.oN (bF.fP (k := 2) gM (.raw rfl (fE ho) ho) (Nat.le_of_ble_eq_true rfl) (.inl rfl) rfl rfl) ?_; rintro _ _ XE ⟨rfl, rfl⟩; refine VD.go (U.seq (U.text ?_)); refine J.c (.assign rfl) (J.go ?_); refine U.ret ?_; exact ⟨rfl, [], jH wc a0 a1 wn (c.1, c.2.1, c.2.2 ++ [(W[1], decide (W[2] = j6), W.drop 3)]), [B true], .cons _ dF.symm, .cons aZ .nil, BM (by have := afX (c := c) u7 (kX.trans hw) g3 (by rw [gP i2]; exact .inl ga); rw [gP i1, gP i2] at this; exact this), bL⟩
      skip
      refine J.c (.kT ga) (J.c (.move rfl) (J.c (.move rfl) (J.c (.ix (j := 2) rfl rfl b8 i2) ?_))); refine J.r (.ld cJ) ?_; by_cases gn : W[2] = j6
      . skip
        refine J.c (.yJ gn) (J.c (.aU rfl rfl) (J.c (.bS rfl rfl) (J.go ?_))); refine U.jJ rfl ?_; refine U.seq (U.drawn ?_); refine VD.c (.move rfl) (VD.c (.move rfl) ?_); refine VD.co (.eD m0) ?_; refine VD.co (.eL (k := 2) m0) ?_; refine VD.r (jH wc a0 a1 a2 c) (.jK (k := 2) m0 gM) (.inr ⟨rfl, rfl⟩) ?_; refine VD.c (.move rfl) (VD.c (.ix (j := 1) rfl rfl b8 i1) ?_); refine VD.r [] (.ld cJ) (.inl rfl) ?_; refine VD.c (.move rfl) (VD.c (.ix (j := 2) rfl rfl b8 i2) ?_); refine VD.r [] (.ld cJ) (.inl rfl) ?_; refine VD.c (.sT) (VD.c (.move rfl) ?_); refine VD.r [] (.CT rfl rfl b8 (by omega)) (.inl rfl) ?_ (hold := by kernel_rfl); refine VD.c (.build (W[1], decide (W[2] = j6), W.drop 3) aeK) ?_; refine VD.new (.lit [(W[1], decide (W[2] = j6), W.drop 3)] fJ) ?_; refine VD.perm lX ?_; refine VD.mk (bF.app fJ fJ rfl rfl (by simp; omega)) ?_; rintro _ _ tl ⟨wn, rfl, rfl⟩; refine VD.co (.eD m1) ?_; refine VD.co (.eL (k := 2) m1) ?_; refine VD.perm cW ?_; refine VD.one m1 fun ho => ?_; refine VD.oN (bF.fP (k := 2) gM (.raw rfl (fE ho) ho) (Nat.le_of_ble_eq_true rfl) (.inl rfl) rfl rfl) ?_; rintro _ _ XE ⟨rfl, rfl⟩; refine VD.go (U.seq (U.text ?_)); refine J.c (.assign rfl) (J.go ?_); refine U.ret ?_; exact ⟨rfl, [], jH wc a0 a1 wn (c.1, c.2.1, c.2.2 ++ [(W[1], decide (W[2] = j6), W.drop 3)]), [B true], .cons _ dF.symm, .cons aZ .nil, BM (by have := afX (c := c) u7 (kX.trans hw) g3 (by rw [gP i2]; exact .inr gn); rw [gP i1, gP i2] at this; exact this), bL⟩
      skip
      refine J.c (.kT gn) (J.c (.aU rfl rfl) (J.c (.bS rfl rfl) (J.go ?_))); refine U.eB rfl ?_; refine U.skip (U.seq (U.text ?_)); refine J.c (.assign rfl) (J.go ?_); refine U.ret ?_; exact ⟨rfl, [], jH wc a0 a1 a2 c, [B false], .refl _, .cons aZ .nil, BM (by rw [YZ u7 (kX.trans hw) (fun h => by rw [gP i2] at h; rcases h.2 with h | h; exact ga h; exact gn h)]; rfl), bL⟩
    skip
    refine J.c (.move rfl) ?_; refine J.r (.len b8) ?_; refine J.c (aK.isF (.geq) (by omega)) (J.c (.bS rfl rfl) (J.c (.move rfl) (J.skip ?_))); refine J.skip (J.skip (J.skip (J.skip ?_))); refine J.skip (J.skip (J.skip (J.skip ?_))); refine J.skip (J.c (.aU rfl rfl) (J.go ?_)); refine U.eB rfl ?_; refine U.skip (U.seq (U.text ?_)); refine J.c (.assign rfl) (J.go ?_); refine U.ret ?_; exact ⟨rfl, [], jH wc a0 a1 a2 c, [B false], .refl _, .cons aZ .nil, BM (by rw [YZ u7 (kX.trans hw) (fun h => g3 h.1)]; rfl), bL⟩
  have cC : dM c W = none := by
    rw [<- kX] at hw B8 CM; unfold dM; rw [if_neg (by rw [u7]; decide), if_neg (fun h => hw h.1), if_neg (fun h => B8 h.1), if_neg (fun h => CM h.1)]
  refine U.seq (U.seq (U.text ?_)); refine J.c (.move rfl) (J.c (.ix (j := 0) rfl rfl b8 h0) ?_); refine J.r (.ld cJ) ?_; refine J.c (.kT hw) (J.c (.move rfl) (J.skip (J.skip ?_))); refine J.skip (J.c (.aU rfl rfl) (J.c (.move rfl) (J.skip ?_))); refine J.skip (J.skip (J.skip (J.skip ?_))); refine J.skip (J.c (.aU rfl rfl) (J.c (.move rfl) (J.skip ?_))); refine J.skip (J.skip (J.skip (J.skip ?_))); refine J.skip (J.c (.aU rfl rfl) (J.go ?_)); refine U.eB rfl ?_; refine U.skip (U.seq (U.seq (U.text ?_))); refine J.c (.move rfl) (J.c (.ix (j := 0) rfl rfl b8 h0) ?_); refine J.r (.ld cJ) ?_; refine J.c (.kT B8) (J.c (.move rfl) (J.skip (J.skip ?_))); refine J.skip (J.c (.aU rfl rfl) (J.c (.move rfl) (J.skip ?_))); refine J.skip (J.skip (J.skip (J.c (.aU rfl rfl) ?_))); refine J.c (.move rfl) (J.skip (J.skip (J.skip ?_))); refine J.skip (J.skip (J.skip (J.c (.aU rfl rfl) ?_))); refine J.go ?_; refine U.eB rfl ?_; refine U.skip (U.seq (U.seq (U.text ?_))); refine J.c (.move rfl) (J.c (.ix (j := 0) rfl rfl b8 h0) ?_); refine J.r (.ld cJ) ?_; refine J.c (.kT CM) (J.c (.move rfl) (J.skip (J.skip ?_))); refine J.skip (J.c (.aU rfl rfl) (J.c (.move rfl) (J.skip ?_))); refine J.skip (J.skip (J.skip (J.skip ?_))); refine J.skip (J.skip (J.skip (J.skip ?_))); refine J.skip (J.c (.aU rfl rfl) (J.go ?_)); refine U.eB rfl ?_; refine U.skip (U.seq (U.text ?_)); refine J.c (.assign rfl) (J.go ?_); refine U.ret ?_; exact ⟨rfl, [], jH wc a0 a1 a2 c, [B false], .refl _, .cons aZ .nil, BM (by rw [cC]; rfl), bL⟩
end Go.Proofs
namespace Go.Proofs
open Go.Fs
set_option maxHeartbeats 4000000
theorem Z1 : wZ Tryz.prog 26 bT [(0, 1), (1, 1), (2, 1)] := pC N2 rfl (by kernel_rfl)
theorem XM {s : ByteArray} : VF Tryz.prog OA 12 [St s] (.mE [.v bT (mM s), I (yN s), I (yM s)]) := by
  refine VF.enter Tryz.func12 rfl (fun _ _ => rfl) rfl ?_; show U _ _ _ _ _ [(0, St s)] [] _; refine U.seq (U.text ?_); refine J.cell (.alloc N2) ?_; intro w2; refine J.c (.assign rfl) (J.c (.assign rfl) ?_); refine J.go (U.seq (U.seq (U.text ?_))); refine J.c (.move rfl) ?_; refine J.r (.gU) ?_; refine J.c (.gtr) (J.go ?_); refine U.aM rfl (fun c1 => ?_) (fun c1 => ?_)
  . obtain ⟨e1, e2, e3⟩ := UB (s := s) (by omega); refine U.seq (U.text ?_); refine J.c (.build nC Z1) ?_; refine J.eQ (cs' := lE) l5 .v ?_; refine J.c (.assign rfl) (J.c (.assign rfl) (J.go ?_)); refine U.ret ?_; exact aR.three rfl (.cell (x := nC) rfl m0 l5 .refl) aZ aZ (dV e1.symm) (cY e2.symm) (cY e3.symm)
  have hs : s.size <= 4096 := by omega
  have XL : ¬ 4096 < s.size := by omega
  refine U.skip (U.seq (U.text ?_)); refine J.cell (.zK N2) ?_; intro wc; refine J.go ?_; refine U.cell0 56 tM ?_; refine U.cell0 54 tL ?_; refine U.cell0 52 rX ?_; refine U.perm lX ?_; show U _ _ _ _ _ _ (jH wc (.slice none 0 0) (.slice none 0 0) (.slice none 0 0) nC ++ [(w2, .var lE)]) _; refine U.seq (U.text ?_); refine J.c (.move rfl) ?_; refine J.call rfl rfl (VF.call (show VF Tryz.prog OA 15 [St s, .v (.int .u8) 10] (.v (.sl .str) (dL 10 s)) from KC (by omega) (by omega))) ?_; refine J.c (.assign rfl) (J.go ?_); have hlf := zO (c := 10) (s := s); have rF : 0 < (dL 10 s).length := List.length_pos_iff.2 yH; have hls := BJ (c := 10) (s := s); have hpg : tI s = oI YT ((dL 10 s).drop 0) nC 0 := rfl; generalize dL 10 s = L at *; refine U.seq (U.text ?_); refine J.c (.move rfl) ?_; refine J.r (.len b8) ?_; refine J.c (.sub rfl rfl (by omega)) (J.c (.assign rfl) ?_); refine J.go (U.seq (U.seq (U.text ?_))); refine J.c (.assign rfl) ?_; refine J.go (U.block ?_); refine U.keep [(2, .raw w2), (5, .raw wc), (6, .v (.sl .str) L), (7, I ((L.length : Nat) - 1 : Int)), (8, I ((0 : Nat) : Int))] ⟨rfl, rfl, rfl, rfl, rfl, trivial⟩ ?_; refine U.loop (I := fun kk ff ss => ∃ (i : Nat) (c : dG) (b0 b1 b2 : Value), kk = L.length - i /\ ff = [(2, .raw w2), (5, .raw wc), (6, .v (.sl .str) L), (7, I ((L.length : Nat) - 1 : Int)), (8, I ((i : Nat) : Int))] /\ ss = jH wc b0 b1 b2 c ++ [(w2, .var lE)] /\ i + 1 <= L.length /\ NP c i /\ tI s = oI YT (L.drop i) c i) ?_ _ _ _ ⟨0, nC, _, _, _, rfl, rfl, rfl, rF, NR, hpg⟩; rintro kk ff ss ⟨i, c, b0, b1, b2, kI, rfl, rfl, hi, hc, hp⟩; refine U.seq (U.seq (U.text ?_)); refine J.c (.move rfl) (J.c (.move rfl) (J.c (.lss) (J.go ?_))); refine U.aM rfl (fun c7 => ?_) (fun c7 => ?_)
  . have hit : i + 1 < L.length := by omega
    have hti : i < L.length := by omega
    have hz := hls _ (List.getElem_mem hti); have hfw := zO (c := 32) (s := L[i]); obtain ⟨uS, mS, zR⟩ := id hc; refine U.skip (U.seq (U.block (U.seq (U.text ?_)))); refine J.c (.move rfl) (J.c (.move rfl) (J.c (.ix (j := i) rfl rfl b8 hti) ?_)); refine J.r (.ld cJ) ?_; refine J.mJ (jH wc b0 b1 b2 c) rfl rfl rfl (fX.call (afZ (l := L[i]) (by omega) (by omega) (by omega) (by omega))) ?_; rintro _ _ ⟨d0, d1, d2, c', rfl, rfl, cC⟩; refine J.c (.not) (J.go ?_)
    cases hq : dM c (dL 32 L[i]) with
    | none =>
      obtain ⟨e1, e2, e3⟩ := FM XL (hp.trans (afD hit hq)); refine U.jJ rfl ?_; refine U.seq ?_; refine U.perm (List.perm_append_comm) ?_; refine U.text ?_; refine J.c (.build nC Z1) (J.c (.move rfl) ?_); refine J.eQ (cs' := lE) l5 .v ?_; refine J.c (.assign rfl) (J.c (.assign rfl) (J.go ?_)); refine U.ret ?_
      exact aR.three rfl (.cell (x := nC) rfl m0 l5 .refl) aZ aZ (dV e1.symm) (cY e2.symm) (cY e3.symm)
    | some c2 =>
      obtain rfl := cC c2 hq; refine U.eB rfl ?_; refine U.skip (U.text ?_); refine J.c (.move rfl) (J.c (.add rfl rfl (by omega)) (J.c (.assign rfl) ?_)); refine J.nil ?_; exact ⟨L.length - (i + 1), [(2, .raw w2), (5, .raw wc), (6, .v (.sl .str) L), (7, I ((L.length : Nat) - 1 : Int)), (8, I (((i + 1 : Nat) : Nat) : Int))], by omega, ⟨rfl, rfl, rfl, rfl, rfl, trivial⟩, i + 1, c', d0, d1, d2, rfl, rfl, rfl, hit, afS hq (by omega) hc, hp.trans (afC hit hq)⟩
  have XI : i + 1 = L.length := by omega
  have hti : i < L.length := by omega
  have bD := UC hc (by omega); refine U.exit ?_; refine U.perm (List.perm_append_comm) ?_; show U _ _ _ _ _ _ ((w2, .var lE) :: jH wc b0 b1 b2 c) _; refine U.seq (U.seq (U.text ?_)); refine J.c (.move rfl) (J.c (.move rfl) ?_)
  have hix : ((L.length : Nat) - 1 : Int) = ((i : Nat) : Int) := by omega
  refine J.c (.ix (j := i) rfl (by show some (I _) = _; rw [hix]) b8 hti) ?_; refine J.r (.ld cJ) ?_; refine J.c (.MN) (J.go ?_); refine U.aM rfl (fun rL => ?_) (fun rL => ?_)
  . obtain ⟨e1, e2, e3⟩ := FM XL (hp.trans (afF hti XI rL)); refine U.seq (U.text ?_); refine J.c (.build nC Z1) (J.c (.move rfl) ?_); refine J.eQ (cs' := lE) l5 .v ?_; refine J.c (.assign rfl) (J.c (.assign rfl) (J.go ?_)); refine U.ret ?_; exact aR.three rfl (.cell (x := nC) rfl m0 l5 .refl) aZ aZ (dV e1.symm) (cY (by rw [e2, hix])) (cY e3.symm)
  have uK := hp.trans (afE hti XI (Classical.not_not.1 rL)); refine U.skip (U.seq (U.seq (U.text ?_))); refine J.r (.PT m1 l5) ?_; refine J.PC rfl rfl .same (.cons (YX (a := .sl rX) (b := .pair (.sl tL) (.sl tM)) (x := c) (.cons (.row m2) (.cons (.row m3) (.cons (.row XD) .nil)))) .nil) rfl (VF.call (MY bD)) ?_; refine J.c (.assign rfl) ?_; refine J.go (U.seq (U.text ?_)); refine J.c (.move rfl) (J.c (.neq) (J.go ?_)); refine U.aM rfl (fun c2 => ?_) (fun c2 => ?_)
  . obtain ⟨e1, e2, e3⟩ := KQ XL uK c2; refine U.seq (U.text ?_); refine J.c (.build nC Z1) (J.c (.move rfl) (J.c (.move rfl) ?_)); refine J.eQ (cs' := lE) l5 .v ?_; refine J.c (.assign rfl) (J.c (.assign rfl) (J.go ?_)); refine U.ret ?_; exact aR.three rfl (.cell (x := nC) rfl m0 l5 .refl) aZ aZ (dV e1.symm) (cY (by rw [e2, hix])) (cY e3.symm)
  obtain ⟨e1, e2, e3⟩ := NO XL uK (Classical.not_not.1 c2); refine U.skip (U.seq (U.text ?_)); refine J.r (.PT m1 l5) ?_; refine J.one m2 fun ho0 => ?_; refine J.one m3 fun JJ => ?_; refine J.one XD fun ho2 => ?_; refine J.eQ (cs' := [.raw b0, .raw b1, .raw b2]) l5 (.GB (cs := [.raw b0, .raw b1, .raw b2]) rfl (by simp [PV.one, ho0, JJ, ho2])) ?_; refine J.c (.assign rfl) (J.c (.assign rfl) (J.go ?_)); refine U.ret ?_; exact aR.three rfl (.cell (x := c) rfl m0 l5 (.cons (.row m2) (.cons (.row m3) (.cons (.row XD) .nil)))) aZ aZ (dV e1.symm) (cY e2.symm) (cY e3.symm)
end Go.Proofs
namespace Go.Proofs
open Go.Fs
set_option maxHeartbeats 2000000
theorem KR {a b : ByteArray} (h : aS a = aS b) : a = b := tE h
theorem amC {S n d : ByteArray} : ((((S ++ ⟨#[118, 101, 114, 115, 105, 111, 110, 32]⟩) ++ n) ++ ⟨#[32]⟩) ++ d) ++ ⟨#[10]⟩ = S ++ (cA 32 [lY, n, d] ++ r5) := by
  have h : cA 32 [lY, n, d] = (((lY ++ TV) ++ n) ++ TV) ++ d := by
    rw [show [lY, n, d] = ([lY] ++ [n]) ++ [d] from rfl, l6 (by simp), l6 (by simp), BK]
  rw [h]; apply KR; simp only [lL, List.append_assoc]; rfl
theorem amD {S n : ByteArray} : (S ++ ⟨#[101, 118, 105, 100, 101, 110, 99, 101, 32]⟩) ++ n = S ++ cA 32 [lZ, n] := by
  have h : cA 32 [lZ, n] = (lZ ++ TV) ++ n := by
    rw [show [lZ, n] = [lZ] ++ [n] from rfl, l6 (by simp), BK]
  rw [h]; apply KR; simp only [lL, List.append_assoc]; rfl
theorem amE {S a d : ByteArray} {ws : List ByteArray} (h : ws ≠ []) : ((((S ++ cA 32 ws) ++ ⟨#[32]⟩) ++ a) ++ ⟨#[32]⟩) ++ d = S ++ cA 32 (ws ++ [a, d]) := by
  rw [show ws ++ [a, d] = (ws ++ [a]) ++ [d] by simp, l6 (by simp), l6 h]; apply KR; simp only [lL, List.append_assoc]; rfl
theorem amF {S n : ByteArray} {b : Bool} : ((S ++ ⟨#[99, 108, 97, 105, 109, 32]⟩) ++ n) ++ (if b = true then ⟨#[32, 97, 110, 121]⟩ else ⟨#[32, 97, 108, 108]⟩) = S ++ cA 32 [mZ, n, Q4 b] := by
  have h : cA 32 [mZ, n, Q4 b] = (((mZ ++ TV) ++ n) ++ TV) ++ Q4 b := by
    rw [show [mZ, n, Q4 b] = ([mZ] ++ [n]) ++ [Q4 b] from rfl, l6 (by simp), l6 (by simp), BK]
  rw [h]; apply KR; cases b <;> (simp only [lL, List.append_assoc]; rfl)
theorem amG {S u : ByteArray} {ws : List ByteArray} (h : ws ≠ []) : ((S ++ cA 32 ws) ++ ⟨#[32]⟩) ++ u = S ++ cA 32 (ws ++ [u]) := by
  rw [l6 h]; apply KR; simp only [lL, List.append_assoc]; rfl
theorem ag0 {S w : ByteArray} : (S ++ w) ++ ⟨#[10]⟩ = S ++ (w ++ r5) := ByteArray.append_assoc
theorem XN {x : vD} {k : Nat} (h : k < x.2.length) : kU (x.1, x.2.take (k + 1)) = kU (x.1, x.2.take k) ++ [x.2[k].1, fW x.2[k].2] := by
  unfold kU; show _ ++ r8 (x.2.take (k + 1)) = (_ ++ r8 (x.2.take k)) ++ _; rw [List.take_succ_eq_append_getElem h, FH, List.append_assoc]; rfl
theorem XO {x : D3} {k : Nat} (h : k < x.2.2.length) : lO (x.1, x.2.1, x.2.2.take (k + 1)) = lO (x.1, x.2.1, x.2.2.take k) ++ [x.2.2[k]] := by
  unfold lO; show _ ++ x.2.2.take (k + 1) = (_ ++ x.2.2.take k) ++ _; rw [List.take_succ_eq_append_getElem h, List.append_assoc]
theorem ag1 {x : vD} {k : Nat} (h : iF x.1 /\ x.2.length <= 16 /\ ∀ v ∈ x.2, iF v.1 /\ 0 <= v.2 /\ v.2 <= 999) : (cA 32 (kU (x.1, x.2.take k))).size <= 900 :=
  KO (x := (x.1, x.2.take k)) ⟨h.1, by rw [List.length_take]; exact Nat.le_trans (Nat.min_le_right _ _) h.2.1, fun v hv => h.2.2 v (List.mem_of_mem_take hv)⟩
theorem ag2 {x : D3} {k : Nat} (h : iF x.1 /\ x.2.2.length <= 16 /\ ∀ u ∈ x.2.2, iF u) : (cA 32 (lO (x.1, x.2.1, x.2.2.take k))).size <= 900 :=
  KP (x := (x.1, x.2.1, x.2.2.take k)) ⟨h.1, by rw [List.length_take]; exact Nat.le_trans (Nat.min_le_right _ _) h.2.1, fun v hv => h.2.2 v (List.mem_of_mem_take hv)⟩
theorem XP {c : (List (ByteArray × Int)) × (List (ByteArray × (List (ByteArray × Int)))) × (List (ByteArray × Bool × (List ByteArray)))} (hV : U4 c) : VF Tryz.prog OA 11 [.v bT c] (.mE [St (if 4096 < (r9 c).size then ByteArray.empty else r9 c), I (if 4096 < (r9 c).size then 27 else 0)]) := by
  refine VF.enter Tryz.func11 rfl (fun _ _ => rfl) rfl ?_; show U _ _ _ _ _ [(0, .v bT c)] [] _; refine U.seq (U.text ?_); have RN := hV.n1; have pO := hV.n2; have hn3 := hV.n3; have z1 : (⟨#[32]⟩ : ByteArray).size = 1 := rfl; have z2 : (⟨#[10]⟩ : ByteArray).size = 1 := rfl; have z3 : (⟨#[118, 101, 114, 115, 105, 111, 110, 32]⟩ : ByteArray).size = 8 := rfl; have z4 : (⟨#[101, 118, 105, 100, 101, 110, 99, 101, 32]⟩ : ByteArray).size = 9 := rfl; have z5 : (⟨#[99, 108, 97, 105, 109, 32]⟩ : ByteArray).size = 6 := rfl; have z6 : (⟨#[32, 97, 110, 121]⟩ : ByteArray).size = 4 := rfl; have z7 : (⟨#[32, 97, 108, 108]⟩ : ByteArray).size = 4 := rfl; refine J.new (.box) ?_; refine J.c (.assign rfl) (J.c (.assign rfl) ?_); refine J.go (U.seq (U.text ?_)); refine J.c (.assign rfl) ?_; refine J.go (U.seq (U.seq (U.text ?_))); refine J.c (.assign rfl) ?_; refine J.go (U.block ?_); refine U.keep [(1, .p bT c), (4, St (cG ((bC c).take 0))), (5, I ((0 : Nat) : Int))] ⟨rfl, rfl, rfl, trivial⟩ ?_; refine U.loop (I := fun kk ff ss => ∃ (i : Nat), kk = c.1.length - i /\ ff = [(1, .p bT c), (4, St (cG ((bC c).take i))), (5, I ((i : Nat) : Int))] /\ ss = [] /\ (i <= c.1.length)) ?_ _ _ _ ⟨0, rfl, rfl, rfl, Nat.zero_le _⟩; rintro kk ff ss ⟨i, kI, rfl, rfl, hi⟩; have cX := qH hV (k := i); refine U.seq (U.seq (U.text ?_)); refine J.c (.move rfl) (J.c (.fa (.l .o)) ?_); refine J.r (.ld gX) ?_; refine J.r (.len eC) ?_; refine J.c (.lss) (J.go ?_); refine U.aM rfl (fun c3 => ?_) (fun c3 => ?_)
  . have hit : i < c.1.length := by omega
    have hx := hV.v _ (List.getElem_mem hit); have SI := hx.1.sz; have hd := tG (n := c.1[i].2) ⟨hx.2.1, by omega⟩; refine U.skip (U.seq (U.block (U.drawn ?_))); refine VD.c (.move rfl) (VD.c (.nQ (p := (cG ((bC c).take i))) (q := (⟨#[118, 101, 114, 115, 105, 111, 110, 32]⟩)) (by first | (simp only [ByteArray.size_append]; omega) | omega)) (VD.c (.fa (.l .o)) ?_)); refine VD.r [] (.ld gX) (.inl rfl) ?_; refine VD.c (.move rfl) (VD.c (.ix (j := i) rfl rfl eC (by omega)) (VD.nw [] (VD.c (.fa (.l .o)) ?_))); refine VD.r [] (.ld cJ) (.inl rfl) ?_; refine VD.c (.nQ (p := ((cG ((bC c).take i)) ++ (⟨#[118, 101, 114, 115, 105, 111, 110, 32]⟩))) (q := ((c.1[i]).1)) (by first | (simp only [ByteArray.size_append]; omega) | omega)) (VD.c (.nQ (p := (((cG ((bC c).take i)) ++ (⟨#[118, 101, 114, 115, 105, 111, 110, 32]⟩)) ++ ((c.1[i]).1))) (q := (⟨#[32]⟩)) (by first | (simp only [ByteArray.size_append]; omega) | omega)) (VD.c (.fa (.l .o)) ?_)); refine VD.r [] (.ld gX) (.inl rfl) ?_; refine VD.c (.move rfl) (VD.nw [] (VD.c (.ix (j := i) rfl rfl eC (by omega)) (VD.c (.fa (.r .o)) ?_))); refine VD.r [] (.ld qZ) (.inl rfl) ?_; refine VD.call rfl rfl (VF.call (NF ⟨hx.2.1, by omega⟩)) ?_; refine VD.c (.nQ (p := ((((cG ((bC c).take i)) ++ (⟨#[118, 101, 114, 115, 105, 111, 110, 32]⟩)) ++ ((c.1[i]).1)) ++ (⟨#[32]⟩))) (q := (fW ((c.1[i]).2))) (by first | (simp only [ByteArray.size_append]; omega) | omega)) (VD.c (.nQ (p := (((((cG ((bC c).take i)) ++ (⟨#[118, 101, 114, 115, 105, 111, 110, 32]⟩)) ++ ((c.1[i]).1)) ++ (⟨#[32]⟩)) ++ (fW ((c.1[i]).2)))) (q := (⟨#[10]⟩)) (by first | (simp only [ByteArray.size_append]; omega) | omega)) (VD.c (.assign rfl) ?_)); refine VD.nil ?_; refine U.text ?_; refine J.c (.move rfl) (J.c (.add rfl rfl (by omega)) (J.c (.assign rfl) ?_)); refine J.nil ?_; refine ⟨_, [(1, .p bT c), (4, St (cG ((bC c).take (i + 1)))), (5, I (((i + 1) : Nat) : Int))], ?_, ⟨rfl, qA rfl (by rw [U8 hit, qI]; exact amC), rfl, trivial⟩, (i + 1), rfl, rfl, rfl, (by omega)⟩; omega
  refine U.exit (U.seq (U.seq (U.text ?_))); refine J.c (.assign rfl) ?_; refine J.go (U.block ?_); refine U.keep [(1, .p bT c), (4, St (cG ((bC c).take (c.1.length + 0)))), (6, I ((0 : Nat) : Int))] ⟨rfl, qA rfl (by rw [Nat.add_zero, show c.1.length = i by omega]), rfl, trivial⟩ ?_; refine U.loop (I := fun kk ff ss => ∃ (j : Nat), kk = c.2.1.length - j /\ ff = [(1, .p bT c), (4, St (cG ((bC c).take (c.1.length + j)))), (6, I ((j : Nat) : Int))] /\ ss = [] /\ (j <= c.2.1.length)) ?_ _ _ _ ⟨0, rfl, rfl, rfl, Nat.zero_le _⟩; rintro kk ff ss ⟨j, uF, rfl, rfl, hj⟩; have cX := qH hV (k := c.1.length + j); refine U.seq (U.seq (U.text ?_)); refine J.c (.move rfl) (J.c (.fa (.r (.l .o))) ?_); refine J.r (.ld jD) ?_; refine J.r (.len iD) ?_; refine J.c (.lss) (J.go ?_); refine U.aM rfl (fun c7 => ?_) (fun c7 => ?_)
  . have hjt : j < c.2.1.length := by omega
    have hx := hV.e _ (List.getElem_mem hjt); have SI := hx.1.sz; have hxl := hx.2.1; refine U.skip (U.seq (U.block (U.seq (U.text ?_)))); refine J.c (.move rfl) (J.c (.nQ (p := (cG ((bC c).take (c.1.length + j)))) (q := (⟨#[101, 118, 105, 100, 101, 110, 99, 101, 32]⟩)) (by first | (simp only [ByteArray.size_append]; omega) | omega)) (J.c (.fa (.r (.l .o))) ?_)); refine J.r (.ld jD) ?_; refine J.c (.move rfl) (J.c (.ix (j := j) rfl rfl iD (by omega)) (J.c (.fa (.l .o)) ?_)); refine J.r (.ld cJ) ?_; refine J.c (.nQ (p := ((cG ((bC c).take (c.1.length + j))) ++ (⟨#[101, 118, 105, 100, 101, 110, 99, 101, 32]⟩))) (q := ((c.2.1[j]).1)) (by first | (simp only [ByteArray.size_append]; omega) | omega)) (J.c (.assign rfl) ?_); refine J.go (U.seq (U.seq (U.text ?_))); refine J.c (.assign rfl) ?_; refine J.go (U.block ?_); refine U.keep [(1, .p bT c), (4, St (cG ((bC c).take (c.1.length + j)) ++ cA 32 (kU (c.2.1[j].1, c.2.1[j].2.take 0)))), (6, I ((j : Nat) : Int)), (7, I ((0 : Nat) : Int))] ⟨rfl, qA rfl (by exact amD), rfl, rfl, trivial⟩ ?_; refine U.loop (I := fun kk ff ss => ∃ (k : Nat), kk = c.2.1[j].2.length - k /\ ff = [(1, .p bT c), (4, St (cG ((bC c).take (c.1.length + j)) ++ cA 32 (kU (c.2.1[j].1, c.2.1[j].2.take k)))), (6, I ((j : Nat) : Int)), (7, I ((k : Nat) : Int))] /\ ss = [] /\ (k <= c.2.1[j].2.length)) ?_ _ _ _ ⟨0, rfl, rfl, rfl, (by omega)⟩; rintro kk ff ss ⟨k, hk4, rfl, rfl, hk⟩; have hse := ag1 (k := k) hx; refine U.seq (U.seq (U.text ?_)); refine J.c (.move rfl) (J.c (.fa (.r (.l .o))) ?_); refine J.r (.ld jD) ?_; refine J.c (.move rfl) (J.c (.ix (j := j) rfl rfl iD (by omega)) (J.c (.fa (.r .o)) ?_)); refine J.r (.ld gX) ?_; refine J.r (.len eC) ?_; refine J.c (.lss) (J.go ?_); refine U.aM rfl (fun rL => ?_) (fun rL => ?_)
    . have hkt : k < c.2.1[j].2.length := by omega
      have hy := hx.2.2 _ (List.getElem_mem hkt); have oM := hy.1.sz; have hyd := tG (n := c.2.1[j].2[k].2) ⟨hy.2.1, by omega⟩; refine U.skip (U.seq (U.block (U.drawn ?_))); refine VD.c (.move rfl) (VD.c (.nQ (p := (cG ((bC c).take (c.1.length + j)) ++ cA 32 (kU (c.2.1[j].1, c.2.1[j].2.take k)))) (q := (⟨#[32]⟩)) (by first | (simp only [ByteArray.size_append]; omega) | omega)) (VD.c (.fa (.r (.l .o))) ?_)); refine VD.r [] (.ld jD) (.inl rfl) ?_; refine VD.c (.move rfl) (VD.c (.ix (j := j) rfl rfl iD (by omega)) (VD.nw [] (VD.c (.fa (.r .o)) ?_))); refine VD.r [] (.ld gX) (.inl rfl) ?_; refine VD.c (.move rfl) (VD.c (.ix (j := k) rfl rfl eC (by omega)) (VD.c (.fa (.l .o)) ?_)); refine VD.r [] (.ld cJ) (.inl rfl) ?_; refine VD.c (.nQ (p := ((cG ((bC c).take (c.1.length + j)) ++ cA 32 (kU (c.2.1[j].1, c.2.1[j].2.take k))) ++ (⟨#[32]⟩))) (q := ((((c.2.1[j]).2)[k]).1)) (by first | (simp only [ByteArray.size_append]; omega) | omega)) (VD.nw [] (VD.c (.nQ (p := (((cG ((bC c).take (c.1.length + j)) ++ cA 32 (kU (c.2.1[j].1, c.2.1[j].2.take k))) ++ (⟨#[32]⟩)) ++ ((((c.2.1[j]).2)[k]).1))) (q := (⟨#[32]⟩)) (by first | (simp only [ByteArray.size_append]; omega) | omega)) (VD.c (.fa (.r (.l .o))) ?_))); refine VD.r [] (.ld jD) (.inl rfl) ?_; refine VD.c (.move rfl) (VD.c (.ix (j := j) rfl rfl iD (by omega)) (VD.c (.fa (.r .o)) ?_)); refine VD.r [] (.ld gX) (.inl rfl) ?_; refine VD.nw [] (VD.c (.move rfl) (VD.c (.ix (j := k) rfl rfl eC (by omega)) (VD.c (.fa (.r .o)) ?_))); refine VD.r [] (.ld qZ) (.inl rfl) ?_; refine VD.call rfl rfl (VF.call (NF ⟨hy.2.1, by omega⟩)) ?_; refine VD.c (.nQ (p := ((((cG ((bC c).take (c.1.length + j)) ++ cA 32 (kU (c.2.1[j].1, c.2.1[j].2.take k))) ++ (⟨#[32]⟩)) ++ ((((c.2.1[j]).2)[k]).1)) ++ (⟨#[32]⟩))) (q := (fW ((((c.2.1[j]).2)[k]).2))) (by first | (simp only [ByteArray.size_append]; omega) | omega)) (VD.c (.assign rfl) ?_); refine VD.nil ?_; refine U.keep [(1, .p bT c), (4, St (((((cG ((bC c).take (c.1.length + j)) ++ cA 32 (kU (c.2.1[j].1, c.2.1[j].2.take k))) ++ (⟨#[32]⟩)) ++ ((((c.2.1[j]).2)[k]).1)) ++ (⟨#[32]⟩)) ++ (fW ((((c.2.1[j]).2)[k]).2)))), (6, I ((j : Nat) : Int)), (7, I ((k : Nat) : Int))] ⟨rfl, rfl, rfl, rfl, trivial⟩ ?_; refine U.text ?_; refine J.c (.move rfl) (J.c (.add rfl rfl (by omega)) (J.c (.assign rfl) ?_)); refine J.nil ?_; refine ⟨_, [(1, .p bT c), (4, St (cG ((bC c).take (c.1.length + j)) ++ cA 32 (kU (c.2.1[j].1, c.2.1[j].2.take (k + 1))))), (6, I ((j : Nat) : Int)), (7, I (((k + 1) : Nat) : Int))], ?_, ⟨rfl, qA rfl (by rw [XN hkt]; exact amE (by simp [kU])), rfl, rfl, trivial⟩, (k + 1), rfl, rfl, rfl, (by omega)⟩; omega
    have KL : (c.2.1[j].1, c.2.1[j].2.take k) = c.2.1[j] := by rw [List.take_of_length_le (by omega)]
    refine U.exit (U.text ?_); refine J.c (.move rfl) (J.c (.nQ (p := (cG ((bC c).take (c.1.length + j)) ++ cA 32 (kU (c.2.1[j].1, c.2.1[j].2.take k)))) (q := (⟨#[10]⟩)) (by first | (simp only [ByteArray.size_append]; omega) | omega)) (J.c (.assign rfl) ?_)); refine J.nil (U.text ?_); refine J.c (.move rfl) (J.c (.add rfl rfl (by omega)) (J.c (.assign rfl) ?_)); refine J.nil ?_; refine ⟨_, [(1, .p bT c), (4, St (cG ((bC c).take (c.1.length + (j + 1))))), (6, I (((j + 1) : Nat) : Int))], ?_, ⟨rfl, qA rfl (by rw [<- Nat.add_assoc, U9 hjt, qI, KL]; exact ag0), rfl, trivial⟩, (j + 1), rfl, rfl, rfl, (by omega)⟩; omega
  refine U.exit (U.seq (U.seq (U.text ?_))); refine J.c (.assign rfl) ?_; refine J.go (U.block ?_); refine U.keep [(1, .p bT c), (4, St (cG ((bC c).take (c.1.length + c.2.1.length + 0)))), (8, I ((0 : Nat) : Int))] ⟨rfl, qA rfl (by rw [Nat.add_zero, show c.2.1.length = j by omega]), rfl, trivial⟩ ?_; refine U.loop (I := fun kk ff ss => ∃ (m : Nat), kk = c.2.2.length - m /\ ff = [(1, .p bT c), (4, St (cG ((bC c).take (c.1.length + c.2.1.length + m)))), (8, I ((m : Nat) : Int))] /\ ss = [] /\ (m <= c.2.2.length)) ?_ _ _ _ ⟨0, rfl, rfl, rfl, Nat.zero_le _⟩; rintro kk ff ss ⟨m, hk6, rfl, rfl, hm⟩; have cX := qH hV (k := c.1.length + c.2.1.length + m); refine U.seq (U.seq (U.text ?_)); refine J.c (.move rfl) (J.c (.fa (.r (.r .o))) ?_); refine J.r (.ld gM) ?_; refine J.r (.len fJ) ?_; refine J.c (.lss) (J.go ?_); refine U.aM rfl (fun PM => ?_) (fun PM => ?_)
  . have hmt : m < c.2.2.length := by omega
    have hx := hV.l _ (List.getElem_mem hmt); have SI := hx.1.sz; have hxl := hx.2.1; refine U.skip (U.seq (U.block (U.seq (U.text ?_)))); refine J.c (.move rfl) (J.c (.nQ (p := (cG ((bC c).take (c.1.length + c.2.1.length + m)))) (q := (⟨#[99, 108, 97, 105, 109, 32]⟩)) (by first | (simp only [ByteArray.size_append]; omega) | omega)) (J.c (.fa (.r (.r .o))) ?_)); refine J.r (.ld gM) ?_; refine J.c (.move rfl) (J.c (.ix (j := m) rfl rfl fJ (by omega)) (J.c (.fa (.l .o)) ?_)); refine J.r (.ld cJ) ?_; refine J.c (.nQ (p := ((cG ((bC c).take (c.1.length + c.2.1.length + m))) ++ (⟨#[99, 108, 97, 105, 109, 32]⟩))) (q := ((c.2.2[m]).1)) (by first | (simp only [ByteArray.size_append]; omega) | omega)) (J.c (.assign rfl) ?_); refine J.go (U.seq (U.seq (U.text ?_))); refine J.c (.fa (.r (.r .o))) ?_; refine J.r (.ld gM) ?_; refine J.c (.move rfl) (J.c (.ix (j := m) rfl rfl fJ (by omega)) (J.c (.fa (.r (.l .o))) ?_)); refine J.r (.ld BE) ?_; refine J.go ?_; refine U.join [(1, .p bT c), (4, St (((cG ((bC c).take (c.1.length + c.2.1.length + m)) ++ ⟨#[99, 108, 97, 105, 109, 32]⟩) ++ c.2.2[m].1) ++ (if c.2.2[m].2.1 = true then ⟨#[32, 97, 110, 121]⟩ else ⟨#[32, 97, 108, 108]⟩))), (8, I ((m : Nat) : Int))] [] ?_ ?_; refine U.fO rfl (fun BF => ?_) (fun BF => ?_)
    . refine U.text ?_; refine J.c (.move rfl) (J.c (.nQ (p := (((cG ((bC c).take (c.1.length + c.2.1.length + m))) ++ (⟨#[99, 108, 97, 105, 109, 32]⟩)) ++ ((c.2.2[m]).1))) (q := (⟨#[32, 97, 110, 121]⟩)) (by first | (simp only [ByteArray.size_append]; omega) | omega)) (J.c (.assign rfl) ?_)); refine J.nil ?_; exact ⟨⟨rfl, qA rfl (by first | rw [if_pos BF] | rw [if_neg (by rw [BF]; decide)]), rfl, trivial⟩, rfl⟩
    . refine U.text ?_; refine J.c (.move rfl) (J.c (.nQ (p := (((cG ((bC c).take (c.1.length + c.2.1.length + m))) ++ (⟨#[99, 108, 97, 105, 109, 32]⟩)) ++ ((c.2.2[m]).1))) (q := (⟨#[32, 97, 108, 108]⟩)) (by first | (simp only [ByteArray.size_append]; omega) | omega)) (J.c (.assign rfl) ?_)); refine J.nil ?_; exact ⟨⟨rfl, qA rfl (by first | rw [if_pos BF] | rw [if_neg (by rw [BF]; decide)]), rfl, trivial⟩, rfl⟩
    refine U.seq (U.seq (U.text ?_)); refine J.c (.assign rfl) ?_; refine J.go (U.block ?_); refine U.keep [(1, .p bT c), (4, St (cG ((bC c).take (c.1.length + c.2.1.length + m)) ++ cA 32 (lO (c.2.2[m].1, c.2.2[m].2.1, c.2.2[m].2.2.take 0)))), (8, I ((m : Nat) : Int)), (9, I ((0 : Nat) : Int))] ⟨rfl, qA rfl (by exact amF), rfl, rfl, trivial⟩ ?_; refine U.loop (I := fun kk ff ss => ∃ (q : Nat), kk = c.2.2[m].2.2.length - q /\ ff = [(1, .p bT c), (4, St (cG ((bC c).take (c.1.length + c.2.1.length + m)) ++ cA 32 (lO (c.2.2[m].1, c.2.2[m].2.1, c.2.2[m].2.2.take q)))), (8, I ((m : Nat) : Int)), (9, I ((q : Nat) : Int))] /\ ss = [] /\ (q <= c.2.2[m].2.2.length)) ?_ _ _ _ ⟨0, rfl, rfl, rfl, (by omega)⟩; rintro kk ff ss ⟨q, hk8, rfl, rfl, hq⟩; have hsc := ag2 (k := q) hx; refine U.seq (U.seq (U.text ?_)); refine J.c (.move rfl) (J.c (.fa (.r (.r .o))) ?_); refine J.r (.ld gM) ?_; refine J.c (.move rfl) (J.c (.ix (j := m) rfl rfl fJ (by omega)) (J.c (.fa (.r (.r .o))) ?_)); refine J.r (.ld gL) ?_; refine J.r (.len b8) ?_; refine J.c (.lss) (J.go ?_); refine U.aM rfl (fun c23 => ?_) (fun c23 => ?_)
    . have hqt : q < c.2.2[m].2.2.length := by omega
      have oM := (hx.2.2 _ (List.getElem_mem hqt)).sz; refine U.skip (U.seq (U.block (U.text ?_))); refine J.c (.move rfl) (J.c (.nQ (p := (cG ((bC c).take (c.1.length + c.2.1.length + m)) ++ cA 32 (lO (c.2.2[m].1, c.2.2[m].2.1, c.2.2[m].2.2.take q)))) (q := (⟨#[32]⟩)) (by first | (simp only [ByteArray.size_append]; omega) | omega)) (J.c (.fa (.r (.r .o))) ?_)); refine J.r (.ld gM) ?_; refine J.c (.move rfl) (J.c (.ix (j := m) rfl rfl fJ (by omega)) (J.c (.fa (.r (.r .o))) ?_)); refine J.r (.ld gL) ?_; refine J.c (.move rfl) (J.c (.ix (j := q) rfl rfl b8 (by omega)) ?_); refine J.r (.ld cJ) ?_; refine J.c (.nQ (p := ((cG ((bC c).take (c.1.length + c.2.1.length + m)) ++ cA 32 (lO (c.2.2[m].1, c.2.2[m].2.1, c.2.2[m].2.2.take q))) ++ (⟨#[32]⟩))) (q := (((c.2.2[m]).2.2)[q])) (by first | (simp only [ByteArray.size_append]; omega) | omega)) (J.c (.assign rfl) ?_); refine J.nil (U.text ?_); refine J.c (.move rfl) (J.c (.add rfl rfl (by omega)) (J.c (.assign rfl) ?_)); refine J.nil ?_; refine ⟨_, [(1, .p bT c), (4, St (cG ((bC c).take (c.1.length + c.2.1.length + m)) ++ cA 32 (lO (c.2.2[m].1, c.2.2[m].2.1, c.2.2[m].2.2.take (q + 1))))), (8, I ((m : Nat) : Int)), (9, I (((q + 1) : Nat) : Int))], ?_, ⟨rfl, qA rfl (by rw [XO hqt]; exact amG (by simp [lO])), rfl, rfl, trivial⟩, (q + 1), rfl, rfl, rfl, (by omega)⟩; omega
    have hfc : (c.2.2[m].1, c.2.2[m].2.1, c.2.2[m].2.2.take q) = c.2.2[m] := by rw [List.take_of_length_le (by omega)]
    refine U.exit (U.text ?_); refine J.c (.move rfl) (J.c (.nQ (p := (cG ((bC c).take (c.1.length + c.2.1.length + m)) ++ cA 32 (lO (c.2.2[m].1, c.2.2[m].2.1, c.2.2[m].2.2.take q)))) (q := (⟨#[10]⟩)) (by first | (simp only [ByteArray.size_append]; omega) | omega)) (J.c (.assign rfl) ?_)); refine J.nil (U.text ?_); refine J.c (.move rfl) (J.c (.add rfl rfl (by omega)) (J.c (.assign rfl) ?_)); refine J.nil ?_; refine ⟨_, [(1, .p bT c), (4, St (cG ((bC c).take (c.1.length + c.2.1.length + (m + 1))))), (8, I (((m + 1) : Nat) : Int))], ?_, ⟨rfl, qA rfl (by rw [<- Nat.add_assoc, UA hmt, qI, hfc]; exact ag0), rfl, trivial⟩, (m + 1), rfl, rfl, rfl, (by omega)⟩; omega
  have C5 : cG ((bC c).take (c.1.length + c.2.1.length + m)) = r9 c := by
    rw [List.take_of_length_le (by rw [FJ]; omega)] <;> rfl
  refine U.exit (U.seq (U.seq (U.text ?_))); refine J.c (.move rfl) ?_; refine J.r (.gU) ?_; refine J.c (.gtr) (J.go ?_); refine U.aM rfl (fun c27 => ?_) (fun c27 => ?_)
  . refine U.seq (U.text ?_); refine J.c (.assign rfl) (J.c (.assign rfl) (J.go ?_)); refine U.ret ?_; exact aR.two rfl aZ aZ (dV (by rw [if_pos (by rw [<- C5]; omega)]; rfl)) (cY (by rw [if_pos (by rw [<- C5]; omega)]))
  refine U.skip (U.seq (U.text ?_)); refine J.c (.move rfl) (J.c (.assign rfl) (J.c (.assign rfl) (J.go ?_))); refine U.ret ?_; exact aR.two rfl aZ aZ (dV (by rw [if_neg (by rw [<- C5]; omega)]; exact C5)) (cY (by rw [if_neg (by rw [<- C5]; omega)]))
end Go.Proofs
namespace Go.Proofs
open Go.Fs
set_option maxHeartbeats 4000000
theorem ac9 {c : dG} (h : U4 c) : qC c := by
  have h1 := h.n1; have h2 := h.n2; have h3 := h.n3; exact ⟨by omega, by omega, by omega, fun x hx => by have := (h.e x hx).2.1; omega, fun x hx => by have := (h.l x hx).2.1; omega⟩
theorem OK : qC nC := ⟨by decide, by decide, by decide, fun x hx => (by cases hx), fun x hx => (by cases hx)⟩
theorem UD (s : ByteArray) : mM s = nC \/ fF (mM s) = 0 := by
  unfold mM; split
  . exact .inl rfl
  split
  . exact .inl rfl
  split
  . exact .inl rfl
  rename_i h; exact .inr (Classical.not_not.1 h)
theorem KS {s : ByteArray} : qC (mM s) := by
  rcases UD s with h | h
  . rw [h]; exact OK
  exact ac9 (Q3 h)
theorem Q7 {c : dG} (h : fF c = 0) : (if 4096 < (r9 c).size then ByteArray.empty else r9 c) = yK c /\ (if 4096 < (r9 c).size then (27 : Int) else 0) = u6 c := by
  have hE : u6 c = if 4096 < (r9 c).size then 27 else 0 := if_neg (fun e => e h); refine ⟨?_, hE.symm⟩; unfold yK; rw [hE]; by_cases hz : 4096 < (r9 c).size
  . rw [if_pos hz, if_pos hz, if_neg (by decide)]
  rw [if_neg hz, if_neg hz, if_pos rfl]
theorem Q8 {c : dG} (h : fF c ≠ 0) : ByteArray.empty = yK c /\ fF c = u6 c := by
  have hE : u6 c = fF c := if_pos h; refine ⟨?_, hE.symm⟩; unfold yK; rw [hE, if_neg h]
theorem OY {c : (List (ByteArray × Int)) × (List (ByteArray × (List (ByteArray × Int)))) × (List (ByteArray × Bool × (List ByteArray)))} {s : ByteArray} : VF Tryz.prog OA 3 [.v bT c, St s] (B true) := by
  refine VF.enter Tryz.func3 rfl (fun _ _ => rfl) rfl ?_; show U _ _ _ _ _ [(0, .v bT c), (1, St s)] [] _; refine U.seq (U.text ?_); refine J.new (.box) ?_; refine J.c (.assign rfl) ?_; refine J.go (U.seq (U.seq (U.text ?_))); refine J.r (.ld l5) ?_; refine J.call rfl rfl (VF.call (TF )) ?_; refine J.c (.not) (J.c (.move rfl) ?_); refine J.splitB (x := 18) rfl (fun Z2 => ?_) (fun Z2 => ?_)
  . try simp only [Bool.and_eq_true, Bool.or_eq_true, Bool.and_eq_false_iff, Bool.or_eq_false_iff, Bool.not_eq_true', Bool.not_eq_false', decide_eq_true_eq, decide_eq_false_iff_not] at Z2
    refine J.skip (J.skip (J.skip (J.skip ?_))); refine J.skip (J.skip (J.skip (J.skip ?_))); refine J.c (.bS rfl rfl) (J.go ?_); refine U.jJ rfl ?_; refine U.seq (U.text ?_); refine J.call rfl rfl (VF.call (BG )) ?_; refine J.c (.assign rfl) (J.go ?_); refine U.ret ?_; exact aR.one rfl aZ (dV (by rfl))
  try simp only [Bool.and_eq_true, Bool.or_eq_true, Bool.and_eq_false_iff, Bool.or_eq_false_iff, Bool.not_eq_true', Bool.not_eq_false', decide_eq_true_eq, decide_eq_false_iff_not] at Z2
  refine J.c (.move rfl) ?_; refine J.r (.gU) ?_; refine J.c (.gtr) (J.c (.move rfl) ?_); refine J.cg (r := decide ((300 : Int) < ((s.size : Nat) : Int))) (w := true) [] trivial (fun _ => (.move rfl)) ?_; refine J.rg (r := decide ((300 : Int) < ((s.size : Nat) : Int))) (w := true) [(23, St s)] ⟨rfl, trivial⟩ (fun _ => (.gU)) ?_; refine J.cg (r := decide ((300 : Int) < ((s.size : Nat) : Int))) (w := true) [(24, I ((s.size : Nat) : Int))] ⟨rfl, trivial⟩ (fun _ => (.neq)) ?_; refine J.c (.and) (J.c (.aU rfl rfl) (J.go ?_)); refine U.fO rfl (fun c1 => ?_) (fun c1 => ?_)
  . try simp only [Bool.and_eq_true, Bool.or_eq_true, Bool.and_eq_false_iff, Bool.or_eq_false_iff, Bool.not_eq_true', Bool.not_eq_false', decide_eq_true_eq, decide_eq_false_iff_not] at c1
    refine U.seq (U.text ?_); refine J.call rfl rfl (VF.call (BG )) ?_; refine J.c (.assign rfl) (J.go ?_); refine U.ret ?_; exact aR.one rfl aZ (dV (by first | rfl | (simp; done) | (rw [jE rfl]; simp; done) | exact absurd rfl yO | exact absurd rfl GV | exact absurd rfl yP | (exfalso; rw [jE rfl] at o7; cases o7) | exact absurd rfl GW))
  try simp only [Bool.and_eq_true, Bool.or_eq_true, Bool.and_eq_false_iff, Bool.or_eq_false_iff, Bool.not_eq_true', Bool.not_eq_false', decide_eq_true_eq, decide_eq_false_iff_not] at c1
  have bD : qC c := WV Z2; refine U.skip (U.seq (U.text ?_)); refine J.r (.ld l5) ?_; refine J.call rfl rfl (VF.call (WS bD)) ?_; refine J.call rfl rfl (VF.call (XH bD)) ?_; refine J.c (.move rfl) (J.c (.extract) (J.c (.extract) (J.c (.assign rfl) ?_))); refine J.c (.assign rfl) ?_; refine J.go (U.seq (U.text ?_)); refine J.c (.move rfl) ?_; refine J.call rfl rfl (VF.call (XK )) ?_; refine J.c (.move rfl) (J.c (.extract) (J.c (.extract) (J.c (.extract) ?_))); refine J.cell (.alloc N1) ?_; intro dE; refine J.eQ (cs' := [.v pQ ((mM s).1), .v xB ((mM s).2.1), .v F2 ((mM s).2.2)]) pS .v ?_; refine J.shut [(7, .p kF (mM s))] (.cons rfl (.var m0 .refl) .nil) ?_; refine J.c (.assign rfl) (J.c (.assign rfl) ?_); refine J.go (U.seq (U.text ?_)); refine J.r (.ld l5) ?_; refine J.call rfl rfl (VF.call (MY bD)) ?_; refine J.c (.assign rfl) (J.c (.assign rfl) ?_); refine J.go (U.seq (U.seq ?_)); refine U.keep [(1, St s), (2, .p bT c), (5, St (yK c)), (6, I (u6 c)), (7, .p kF (mM s)), (8, I (yN s)), (9, I (yM s)), (10, I (fF c)), (11, St ByteArray.empty)] ⟨rfl, rfl, rfl, rfl, rfl, rfl, rfl, rfl, rfl, trivial⟩ ?_; refine U.text ?_; refine J.c (.move rfl) (J.c (.eql) (J.go ?_)); refine U.join [(1, St s), (5, St (yK c)), (6, I (u6 c)), (7, .p kF (mM s)), (8, I (yN s)), (9, I (yM s)), (10, I (u6 c)), (11, St (yK c))] [] ?_ ?_; refine U.aM rfl (fun c6 => ?_) (fun c6 => ?_)
  . refine U.text ?_; refine J.r (.ld l5) ?_; refine J.call rfl rfl (VF.call (XP (Q3 c6))) ?_; refine J.c (.move rfl) (J.c (.extract) (J.c (.extract) (J.c (.assign rfl) ?_))); refine J.c (.assign rfl) ?_; refine J.nil ?_; exact ⟨⟨rfl, rfl, rfl, rfl, rfl, rfl, slI rfl (by first | exact (Q7 c6).2 | exact (Q8 c6).2), qA rfl (by first | exact (Q7 c6).1 | exact (Q8 c6).1), trivial⟩, rfl⟩
  . refine U.skip ?_; exact ⟨⟨rfl, rfl, rfl, rfl, rfl, rfl, slI rfl (by first | exact (Q7 c6).2 | exact (Q8 c6).2), qA rfl (by first | exact (Q7 c6).1 | exact (Q8 c6).1), trivial⟩, rfl⟩
  refine U.seq (U.text ?_); refine J.c (.move rfl) ?_; refine J.call rfl rfl (VF.call (XM )) ?_; refine J.c (.move rfl) (J.c (.extract) (J.c (.extract) (J.c (.extract) ?_))); refine J.cell (.alloc N2) ?_; intro kJ; refine J.eQ (cs' := [.v mL ((mM s).1), .v A1 ((mM s).2.1), .v sU ((mM s).2.2)]) l5 .v ?_; refine J.shut [(12, .p bT (mM s))] (.cons rfl (.var m0 .refl) .nil) ?_; refine J.c (.assign rfl) (J.c (.assign rfl) ?_); refine J.go (U.seq (U.drawn ?_)); refine VD.c (.move rfl) (VD.c (.move rfl) (VD.c (.sT) (VD.c (.move rfl) ?_))); refine VD.iW (x := 59) rfl (fun GW => ?_) (fun GW => ?_)
  . refine VD.c (.move rfl) (VD.nw [] (VD.c (.move rfl) (VD.c (.eql) ?_))); refine VD.c (.bS rfl rfl) (VD.c (.move rfl) ?_); refine VD.iW (x := 64) rfl (fun GV => ?_) (fun GV => ?_)
    . refine VD.r [] (.ld pS) (.inl rfl) ?_; refine VD.call rfl rfl (VF.call (abC KS)) ?_; refine VD.nw [66] ?_; refine VD.r [] (.ld l5) (.inl rfl) ?_; refine VD.B6 rfl rfl (VF.call (WW KS KS)) ?_; refine VD.c (.bS rfl rfl) (VD.c (.move rfl) ?_); refine VD.splitB (x := 70) rfl (fun o7 => ?_) (fun o7 => ?_)
      . refine VD.c (.move rfl) (VD.c (.move rfl) (VD.nw [66] (VD.c (.eql) ?_))); refine VD.c (.bS rfl rfl) (VD.c (.move rfl) ?_); refine VD.iW (x := 75) rfl (fun yP => ?_) (fun yP => ?_)
        . refine VD.c (.move rfl) (VD.c (.move rfl) (VD.c (.eql) (VD.nw [66] ?_))); refine VD.c (.bS rfl rfl) (VD.c (.move rfl) ?_); refine VD.iW (x := 80) rfl (fun yO => ?_) (fun yO => ?_)
          . refine VD.call rfl rfl (VF.call (BG )) ?_; refine VD.c (.bS rfl rfl) (VD.c (.assign rfl) (VD.go ?_)); refine U.ret ?_; exact aR.one rfl aZ (dV (by first | rfl | (simp; done) | (rw [jE rfl]; simp; done) | exact absurd rfl yO | exact absurd rfl GV | exact absurd rfl yP | (exfalso; rw [jE rfl] at o7; cases o7) | exact absurd rfl GW))
          refine VD.skip (VD.c (.aU rfl rfl) (VD.c (.assign rfl) (VD.go ?_))); refine U.ret ?_; exact aR.one rfl aZ (dV (by first | rfl | (simp; done) | (rw [jE rfl]; simp; done) | exact absurd rfl yO | exact absurd rfl GV | exact absurd rfl yP | (exfalso; rw [jE rfl] at o7; cases o7) | exact absurd rfl GW))
        refine VD.skip (VD.skip (VD.skip (VD.nw [66] ?_))); refine VD.c (.aU rfl rfl) (VD.c (.move rfl) (VD.skip (VD.c (.aU rfl rfl) ?_))); refine VD.c (.assign rfl) (VD.go ?_); refine U.ret ?_; exact aR.one rfl aZ (dV (by first | rfl | (simp; done) | (rw [jE rfl]; simp; done) | exact absurd rfl yO | exact absurd rfl GV | exact absurd rfl yP | (exfalso; rw [jE rfl] at o7; cases o7) | exact absurd rfl GW))
      refine VD.skip (VD.skip (VD.nw [66] (VD.skip ?_))); refine VD.c (.aU rfl rfl) (VD.c (.move rfl) (VD.skip (VD.skip ?_))); refine VD.skip (VD.c (.aU rfl rfl) (VD.nw [66] (VD.c (.move rfl) ?_))); refine VD.skip (VD.c (.aU rfl rfl) (VD.c (.assign rfl) (VD.go ?_))); refine U.ret ?_; exact aR.one rfl aZ (dV (by first | rfl | (simp; done) | (rw [jE rfl]; simp; done) | exact absurd rfl yO | exact absurd rfl GV | exact absurd rfl yP | (exfalso; rw [jE rfl] at o7; cases o7) | exact absurd rfl GW))
    refine VD.skip (VD.skip (VD.nw [] (VD.skip ?_))); refine VD.skip (VD.c (.aU rfl rfl) (VD.c (.move rfl) (VD.skip ?_))); refine VD.skip (VD.skip (VD.nw [] (VD.c (.aU rfl rfl) ?_))); refine VD.c (.move rfl) (VD.skip (VD.skip (VD.skip ?_))); refine VD.c (.aU rfl rfl) (VD.c (.move rfl) (VD.nw [] (VD.skip ?_))); refine VD.c (.aU rfl rfl) (VD.c (.assign rfl) (VD.go ?_)); refine U.ret ?_; exact aR.one rfl aZ (dV (by first | rfl | (simp; done) | (rw [jE rfl]; simp; done) | exact absurd rfl yO | exact absurd rfl GV | exact absurd rfl yP | (exfalso; rw [jE rfl] at o7; cases o7) | exact absurd rfl GW))
  refine VD.skip (VD.nw [] (VD.skip (VD.skip ?_))); refine VD.c (.aU rfl rfl) (VD.c (.move rfl) (VD.skip (VD.skip ?_))); refine VD.skip (VD.nw [] (VD.skip (VD.c (.aU rfl rfl) ?_))); refine VD.c (.move rfl) (VD.skip (VD.skip (VD.skip ?_))); refine VD.c (.aU rfl rfl) (VD.nw [] (VD.c (.move rfl) (VD.skip ?_))); refine VD.skip (VD.skip (VD.c (.aU rfl rfl) (VD.c (.move rfl) ?_))); refine VD.skip (VD.nw [] (VD.c (.aU rfl rfl) (VD.c (.assign rfl) ?_))); refine VD.go ?_; refine U.ret ?_; exact aR.one rfl aZ (dV (by first | rfl | (simp; done) | (rw [jE rfl]; simp; done) | exact absurd rfl yO | exact absurd rfl GV | exact absurd rfl yP | (exfalso; rw [jE rfl] at o7; cases o7) | exact absurd rfl GW))
end Go.Proofs
namespace Go.Fs
open Go.RowKit (Below)
variable {P : Program}
def ag3 (fi fj fc : FuncId) (T : TypeId) : FuncId -> List Value -> Heap -> Option (Value × Heap) := fun f xs h =>
  bif Nat.beq f fc then
    match xs with
    | [.pointer (some ⟨b, 0, none⟩)] =>
      match h.get b with
      | some (.row e [p, v] true false) =>
        bif Nat.beq e T then
          match p with
          | .pointer none => some (.tuple #[], h.set b (.row e [.pointer (some ⟨b, 0, none⟩), v] true false))
          | .pointer (some ⟨b', 0, none⟩) => bif Nat.beq b' b then some (.tuple #[], h) else none
          | _ => none
        else none
      | _ => none
    | _ => none
  else A9 fi fj f xs h
theorem UE {B : Nat} {w0 : World} {fi fj fc : FuncId} {T : TypeId} (hz : w0.drawn = 0) (hS : bX P B w0 (A9 fi fj)) (hc : Enters P fc)
    (hF : ∀ (b : Nat) (w : World), w.cell? ⟨b, 0, none⟩ = some (.pointer none) -> w.shape? b = some (T, 2) -> w.frozen? ⟨b, 0, none⟩ = false ->
      Calls P fc #[.pointer (some ⟨b, 0, none⟩)] w fun e w' => e = .returned (.tuple #[]) /\ w' = w.setCell ⟨b, 0, none⟩ (.pointer (some ⟨b, 0, none⟩)))
    (hU : ∀ (b : Nat) (w : World), w.cell? ⟨b, 0, none⟩ = some (.pointer (some ⟨b, 0, none⟩)) -> Calls P fc #[.pointer (some ⟨b, 0, none⟩)] w fun e w' => e = .returned (.tuple #[]) /\ w' = w) :
    bX P B w0 (ag3 fi fj fc T) := by
  intro f xs h v h' hf; unfold ag3 at hf
  cases hb : Nat.beq f fc with
  | false =>
    rw [hb] at hf
    exact hS f xs h v h' hf
  | true =>
    have := bI hb; subst this; rw [hb] at hf; simp only [cond_true] at hf; split at hf
    . rename_i b; split at hf
      . rename_i e p u hg; obtain ⟨he, cO⟩ := aL hf; obtain rfl := bI he; refine ⟨hc, fun ρ S w args' hr ha nn => ?_⟩; obtain ⟨hsb, cur, k1, k2, k3, k4, k5, k6, k7⟩ := hr.aA b _ hg; have rQ : cur.length = 2 := (k6 rfl).symm
        match cur, rQ with
        | [p', u'], _ =>
        have hp : VR ρ S p p' := k7 0 (by simp); have hu : VR ρ S u u' := k7 1 (by simp)
        have rE : (ρ b).at 0 = ⟨(ρ b).block, 0, none⟩ := by unfold Loc.at; rw [k2]
        have apD : args' = [.pointer (some ⟨(ρ b).block, 0, none⟩)] := by
          have h1 := ha.1
          match args', h1 with
          | [a], _ =>
            have h2 : VR ρ S (.pointer (some ⟨b, 0, none⟩)) a := ha.2 0 (by simp); rw [h2.oW.2, rE]
        subst apD
        have nY : w.cell? ⟨(ρ b).block, 0, none⟩ = some p' := by simp [World.cell?, k1]
        split at cO
        . simp only [Option.some.injEq, Prod.mk.injEq] at cO; obtain ⟨rfl, rfl⟩ := cO; obtain rfl := hp.gE rfl; have hC : CallsIn Fence.wide nn P f #[.pointer (some ⟨(ρ b).block, 0, none⟩)] w _ := callsIn_wide.2 (hF (ρ b).block w nY (by simp [World.shape?, k1]) (vU k1 (by rw [k3]; exact Nat.zero_lt_succ _))); refine hC.mono fun e2 w' nN => ?_; obtain ⟨rfl, rfl⟩ := nN; refine ⟨ρ, aO.set hr hg rfl rfl rfl rfl rfl (by simp [World.setCell]) (fun k hk => ?_) ?_, VR.tuple' LR.nil⟩
          . simp only [World.setCell, Array.getElem?_modify]; rw [if_neg (fun e0 => hk e0.symm)]
          refine ⟨[.pointer (some ⟨(ρ b).block, 0, none⟩), u'], ?_, k2, k3, k4, Nat.le_refl _, fun _ => rfl, fun i hi => ?_⟩
          . simp only [World.setCell, Array.getElem?_modify, if_pos rfl, k1]; simp
          match i, hi with
          | 0, _ => show VR ρ S (.pointer (some ⟨b, 0, none⟩)) (.pointer (some ⟨(ρ b).block, 0, none⟩)); rw [<- rE]; exact .ptr b 0 hsb
          | 1, _ => exact hu
        . rename_i b'; obtain ⟨AS, oZ⟩ := aL cO; obtain rfl := bI AS; simp only [Option.some.injEq, Prod.mk.injEq] at oZ; obtain ⟨rfl, rfl⟩ := oZ; have hp2 := hp.oW.2; rw [rE] at hp2; subst hp2; have hC : CallsIn Fence.wide nn P f #[.pointer (some ⟨(ρ b').block, 0, none⟩)] w _ := callsIn_wide.2 (hU (ρ b').block w nY); refine hC.mono fun e2 w' nN => ?_; obtain ⟨rfl, rfl⟩ := nN; exact ⟨ρ, aO.same hr, VR.tuple' LR.nil⟩
        cases cO
      cases hf
    cases hf
end Go.Fs
namespace Go.Fs
open Go.RowKit (Below)
variable {P : Program} {ops : Array Oper} {n : Nat}
def Q9 : Value -> Value -> Bool
  | .int k a, .int k' b => decide (k = k') && decide (a = b)
  | .bool a, .bool b => decide (a = b)
  | _, _ => false
theorem acA {a b : Value} (h : Q9 a b = true) : a = b := by
  unfold Q9 at h; split at h
  . obtain ⟨h1, h2⟩ := aY h; rw [of_decide_eq_true h1, of_decide_eq_true h2]
  . rw [of_decide_eq_true h]
  cases h
def QA : List Value -> List Value -> Bool
  | [], [] => true
  | a :: r, b :: q => Q9 a b && QA r q
  | _, _ => false
theorem NT : ∀ {a b : List Value}, QA a b = true -> a = b
  | [], [], _ => rfl
  | [], _ :: _, h => by cases h
  | _ :: _, [], h => by cases h
  | a :: r, b :: q, h => by
    obtain ⟨h1, h2⟩ := aY (h : (Q9 a b && QA r q) = true); rw [acA h1, NT h2]
def XQ : aX -> aX -> Bool
  | .row e cs o m, .row e' cs' o' m' => Nat.beq e e' && QA cs cs' && decide (o = o') && decide (m = m')
  | _, _ => false
theorem acB {a b : aX} (h : XQ a b = true) : a = b := by
  unfold XQ at h; split at h
  . obtain ⟨h, h1⟩ := aY h; obtain ⟨h, h2⟩ := aY h; obtain ⟨h, h3⟩ := aY h; rw [bI h, NT h3, of_decide_eq_true h2, of_decide_eq_true h1]
  cases h
def UF (rd : List (Nat × aX)) (h : Heap) : Bool := rd.all fun p => match h.get p.1 with
  | some ob => XQ ob p.2
  | none => false
theorem yQ {b : Nat} {ob : aX} : ∀ {l : List (Nat × aX)}, look l b = some ob -> (b, ob) ∈ l
  | [], h => by cases h
  | (c, oc) :: r, h => by
    simp only [look] at h
    cases hc : Nat.beq c b with
    | true =>
      rw [hc] at h; simp only [cond_true, Option.some.injEq] at h
      rw [bI hc, h]; exact List.mem_cons_self
    | false =>
      rw [hc] at h; simp only [cond_false] at h; exact List.mem_cons_of_mem _ (yQ h)
theorem acC {rd : List (Nat × aX)} {h : Heap} (hk : UF rd h = true) {b : Nat} {ob : aX} (hl : look rd b = some ob) : h.get b = some ob := by
  have := List.all_eq_true.1 hk _ (yQ hl); simp only at this; split at this
  . rename_i o2 hg; rw [hg, acB this]
  cases this
def QB (P : Program) (rd : List (Nat × aX)) (ops : Array Oper) (n : Nat) (o : Oper) (s : dO) : Option dO :=
  match bR ops s.t o, o.op with
  | some true, .load T a =>
    match aB s.t a with
    | .pointer (some p) =>
      match look rd p.block with
      | some ob =>
        match eO P T (aB s.t a) { next := s.h.next, low := s.h.next, aA := [(p.block, ob)] } with
        | some v => (put n s.t o.dst v).map fun t => { s with t, bs := s.bs ++ [aP s.bs o] }
        | none => none
      | none => none
    | _ => none
  | _, _ => none
def qJ (P : Program) (rd : List (Nat × aX)) (step : Oper -> (Operand -> Value) -> Heap -> Option (Value × Heap)) (ops : Array Oper) (n : Nat) : List Oper -> Nat -> dO -> Option dO
  | [], _, s => bif UF rd s.h then some s else none
  | o :: r, i, s => bif UF rd s.h then
      match fY step ops n o i s with
      | some s' => qJ P rd step ops n r (i + 1) s'
      | none => match QB P rd ops n o s with
        | some s' => qJ P rd step ops n r (i + 1) s'
        | none => none
    else none
def KT (P : Program) (h0 : Heap) (step : Oper -> (Operand -> Value) -> Heap -> Option (Value × Heap)) (ops : Array Oper) (n : Nat) : List Oper -> Nat -> dO -> List (Nat × aX) -> List (Nat × aX)
  | [], _, _, l => l
  | o :: r, i, s, l => match fY step ops n o i s with
    | some s' => KT P h0 step ops n r (i + 1) s' l
    | none => match HP P h0 ops n o s with
      | some (s', b) => match h0.get (b - 1) with
        | some ob => KT P h0 step ops n r (i + 1) s' ((b - 1, ob) :: l)
        | none => l
      | none => l
def HW (P : Program) (h0 : Heap) (step : Oper -> (Operand -> Value) -> Heap -> Option (Value × Heap)) (ops : Array Oper) (n : Nat) (s : dO) (rd : List (Nat × aX)) : Option dO :=
  bif rd.all fun p => Nat.blt p.1 h0.next then qJ P rd step ops n ops.toList 0 s else none
theorem XR {call : FuncId -> List Value -> Heap -> Option (Value × Heap)} {yield : Nat -> List Value -> Heap -> Option (Value × Heap)} {X : Nat -> aX -> Prop} {rd : List (Nat × aX)} {o : Oper} {i : Nat} {s s' : dO}
    (hf : QB P rd ops n o s = some s') (hX : ∀ c ob, look rd c = some ob -> X c ob) :
    s'.bs = s.bs ++ [aP s.bs o] /\ zT (cP P call yield) ops n X o i s s' := by
  unfold QB at hf; split at hf
  . rename_i T a hw dQ; split at hf
    . rename_i p bK; split at hf
      . rename_i ob hg; split at hf
        . rename_i v hv; obtain ⟨t, h3, h4⟩ := Option.map_eq_some_iff.1 hf; subst h4; refine ⟨rfl, .still hw v [(p.block, ob)] (fun c oc hc => ?_) ?_ h3 rfl rfl rfl rfl⟩
          . simp only [look] at hc
            cases AY : Nat.beq p.block c with
            | true =>
              rw [AY] at hc; simp only [cond_true, Option.some.injEq] at hc; obtain rfl := bI AY; subst hc
              exact hX _ _ hg
            | false => rw [AY] at hc; cases hc
          unfold cP; rw [dQ]; simp only [hv, Option.map_some]
        cases hf
      cases hf
    cases hf
  cases hf
theorem AL {call : FuncId -> List Value -> Heap -> Option (Value × Heap)} {yield : Nat -> List Value -> Heap -> Option (Value × Heap)} {rd : List (Nat × aX)} : ∀ (l : List Oper) (i : Nat) (s s' : dO), qJ P rd (cP P call yield) ops n l i s = some s' ->
    ∃ st : Nat -> dO, st i = s /\ st (i + l.length) = s' /\ (∀ q, i <= q -> q <= i + l.length -> UF rd (st q).h = true) /\
    ∀ j o, l[j]? = some o -> ∀ X : Nat -> aX -> Prop, (∀ c ob, look rd c = some ob -> X c ob) -> (st (i + j + 1)).bs = (st (i + j)).bs ++ [aP (st (i + j)).bs o] /\ zT (cP P call yield) ops n X o (i + j) (st (i + j)) (st (i + j + 1))
  | [], i, s, s', h => by
    simp only [qJ] at h; obtain ⟨h1, h2⟩ := aL h; simp only [Option.some.injEq] at h2; subst h2
    exact ⟨fun _ => s, rfl, rfl, fun _ _ _ => h1, fun j o hj => by simp at hj⟩
  | o :: l, i, s, s', h => by
    simp only [qJ] at h; obtain ⟨bD, h⟩ := aL h
    have key : ∀ s1, qJ P rd (cP P call yield) ops n l (i + 1) s1 = some s' ->
        (∀ X : Nat -> aX -> Prop, (∀ c ob, look rd c = some ob -> X c ob) -> s1.bs = s.bs ++ [aP s.bs o] /\ zT (cP P call yield) ops n X o i s s1) ->
      ∃ st : Nat -> dO, st i = s /\ st (i + (o :: l).length) = s' /\ (∀ q, i <= q -> q <= i + (o :: l).length -> UF rd (st q).h = true) /\
        ∀ j o', (o :: l)[j]? = some o' -> ∀ X : Nat -> aX -> Prop, (∀ c ob, look rd c = some ob -> X c ob) -> (st (i + j + 1)).bs = (st (i + j)).bs ++ [aP (st (i + j)).bs o'] /\ zT (cP P call yield) ops n X o' (i + j) (st (i + j)) (st (i + j + 1)) := fun s1 hr hd => by
      obtain ⟨st, h1, h2, hq, h3⟩ := AL l (i + 1) s1 s' hr; refine ⟨fun k => if k = i then s else st k, by simp, ?_, fun q hq1 OD => ?_, fun j o' hj X hX => ?_⟩
      . simp only [List.length_cons]; rw [if_neg (by omega), <- h2]; congr 1; omega
      . rw [List.length_cons] at OD; by_cases e : q = i
        . subst e; simpa using bD
        simp only [if_neg e]; exact hq q (by omega) (by omega)
      cases j with
      | zero =>
        simp at hj; subst hj
        simpa [h1] using hd X hX
      | succ j =>
        simp only [List.getElem?_cons_succ] at hj; have := h3 j o' hj X hX; rw [show i + 1 + j = i + (j + 1) by omega] at this; simp only; rw [if_neg (by omega), if_neg (by omega)]; exact this
    split at h
    . rename_i s1 xO; exact key s1 h fun X _ => OO xO
    split at h
    . rename_i s1 xO; exact key s1 h fun X hX => XR xO hX
    cases h
theorem XS {call : FuncId -> List Value -> Heap -> Option (Value × Heap)} {yield : Nat -> List Value -> Heap -> Option (Value × Heap)} {t0 : Tr} {h0 : Heap} {s : dO} {rd : List (Nat × aX)} (h : HW P h0 (cP P call yield) ops n ⟨t0, h0, [], [], 0, false⟩ rd = some s) : ∃ st, Trace (cP P call yield) ops n st t0 h0 /\ st ops.size = s := by
  unfold HW at h; obtain ⟨hb, h⟩ := aL h; obtain ⟨st, h1, h2, hq, h3⟩ := AL _ _ _ _ h
  have CA : st ops.size = s := by simpa using h2
  refine ⟨st, ⟨h1, fun i o ho => ?_⟩, CA⟩; have := h3 i o (by simpa using ho) (fun b ob => h0.get b = some ob /\ b < h0.next /\ (b < (st ops.size).h.low \/ ∀ q, q <= ops.size -> (st q).h.get b = some ob)) (fun c ob hc => ?_)
  . simpa only [Nat.zero_add] using this
  have fU : ∀ q, q <= ops.size -> (st q).h.get c = some ob := fun q OD => acC (hq q (Nat.zero_le _) (by simpa using OD)) hc; have h0 := fU 0 (Nat.zero_le _); rw [h1] at h0; exact ⟨h0, jB (List.all_eq_true.1 hb _ (yQ hc)), .inr fU⟩
variable {B : Nat} {w0 : World} {S : Nat -> Prop} {ρ0 : Ren} {call : FuncId -> List Value -> Heap -> Option (Value × Heap)} {yield : Nat -> List Value -> Heap -> Option (Value × Heap)} {t0 : Tr} {h0 : Heap}
theorem XT (iJ : lH P B w0 call) (oM : fT P B w0 yield) (bD : o8 ops = true) {s : dO} {rd : List (Nat × aX)} (hf : HW P h0 (cP P call yield) ops n ⟨t0, h0, [], [], 0, false⟩ rd = some s)
    {w : World} {a : Act} (hr : HR P ρ0 S B w0 h0 w) (ht : kV ρ0 S t0 n a.tmps) {r : Option Nat} {nn : Nat} {Q : Exit -> Act -> World -> Prop}
    (k : ∀ bN w' a', aO P B w0 ρ0 bN S h0 s.h w w' -> kV bN (Ext S h0 s.h) s.t n a'.tmps -> a'.defers = a.defers -> Q .normal a' w') (t : Nat) :
    wpOpsIn (mI r) nn P ops Q (Region.schedule true ops t) a w := wA iJ oM bD (XS hf) hr ht k t
end Go.Fs
namespace Go.Fs
open Go.RowKit (Below)
variable {P : Program} {B : Nat} {w0 : World}
def KU (P : Program) (orc : FuncId -> List Value -> Heap -> Option (Value × Heap)) (rec : Rec) : Rec := fun aV c fr h =>
  match c with
  | .region _ ops true => match HQ P { next := h.next, low := h.next, aA := h.aA } (cP P (dX P orc rec) (dW rec)) ops fr.n ⟨fr.t, { next := h.next, low := h.next, aA := h.aA }, [], [], 0, false⟩ with
    | some s => some (.normal, { t := s.t, n := fr.n, marks := fr.marks }, { next := s.h.next, low := min h.low s.h.low, aA := s.h.aA })
    | none => match HW P { next := h.next, low := h.next, aA := h.aA } (cP P (dX P orc rec) (dW rec)) ops fr.n ⟨fr.t, { next := h.next, low := h.next, aA := h.aA }, [], [], 0, false⟩ (KT P { next := h.next, low := h.next, aA := h.aA } (cP P (dX P orc rec) (dW rec)) ops fr.n ops.toList 0 ⟨fr.t, { next := h.next, low := h.next, aA := h.aA }, [], [], 0, false⟩ []) with
      | some s => some (.normal, { t := s.t, n := fr.n, marks := fr.marks }, { next := s.h.next, low := min h.low s.h.low, aA := s.h.aA })
      | none => bG P orc rec aV c fr h
  | c => bG P orc rec aV c fr h
def yR (P : Program) (orc : FuncId -> List Value -> Heap -> Option (Value × Heap)) : Nat -> Rec
  | 0 => fun _ _ _ _ => none
  | n + 1 => KU P orc (yR P orc n)
theorem HR.low {ρ : Ren} {S : Nat -> Prop} {h : Heap} {w : World} (hr : HR P ρ S B w0 h w) (l : Nat) : HR P ρ S B w0 { next := h.next, low := l, aA := h.aA } w :=
  { aA := hr.aA, inj := hr.inj, base := hr.base, ro := hr.ro, ids := hr.ids, pos := hr.pos, below := hr.below, drawn := hr.drawn, size := hr.size }
theorem aO.UG {ρ bN : Ren} {S : Nat -> Prop} {h h' : Heap} {w w' : World} {l : Nat} (m : aO P B w0 ρ bN S { next := h.next, low := l, aA := h.aA } h' w w') :
    aO P B w0 ρ bN S h { next := h'.next, low := min h.low h'.low, aA := h'.aA } w w' where
  agree := m.agree
  next := m.next
  hr := m.hr.low _
  frame := ⟨m.frame.os, m.frame.tape, m.frame.output, m.frame.size, m.frame.block⟩
  low := Nat.min_le_left _ _
  keep := fun i hi hl => m.keep i hi (Nat.lt_of_lt_of_le hl (Nat.min_le_right _ _))
  old := m.old
  fresh := fun i o ho hi => by
    obtain ⟨h1, h2⟩ := m.fresh i o ho hi; refine ⟨h1, ?_⟩; rcases h2 with h2 | ⟨j, oj, h3, h4, h5, h6, h7⟩
    . exact .inl h2
    exact .inr ⟨j, oj, h3, h4, h5, Nat.le_trans (Nat.min_le_right _ _) h6, h7⟩
theorem QE (hP : kK P) {orc : FuncId -> List Value -> Heap -> Option (Value × Heap)} (kG : bX P B w0 orc) {m : Nat} {rec : Rec} (jX : nS P B w0 m rec) : nS P B w0 (m + 1) (KU P orc rec) := by
  have iJ : lH P B w0 (dX P orc rec) := xZ hP kG jX; have oM : fT P B w0 (dW rec) := CL jX; have hold := G4 hP kG jX; intro aV c fr h e jF h' bD hf
  cases c with
  | region id ops draw =>
    cases draw with
    | false => exact hold aV _ fr h e jF h' bD hf
    | true =>
      intro ρ S w a nn Q hr ht hm hs k; simp only [KU] at hf; split at hf
      . rename_i s eZ; simp only [Option.some.injEq, Prod.mk.injEq] at hf; obtain ⟨rfl, rfl, rfl⟩ := hf; refine wpIn_region_draw fun t => ?_; rw [hP.mixed]; exact VN (h0 := { next := h.next, low := h.next, aA := h.aA }) (call := dX P orc rec) (yield := dW rec) iJ oM bD eZ ((hr.drew _).low _) ht (fun cQ w1 a1 m1 CB DQ => k _ _ _ ⟨(aO.vW m1).UG, CB, by rw [DQ]; exact hm.mono fun b hb => ⟨.inl hb, m1.agree b hb⟩⟩) t
      split at hf
      . rename_i s eZ; simp only [Option.some.injEq, Prod.mk.injEq] at hf; obtain ⟨rfl, rfl, rfl⟩ := hf; refine wpIn_region_draw fun t => ?_; rw [hP.mixed]; exact XT (h0 := { next := h.next, low := h.next, aA := h.aA }) (call := dX P orc rec) (yield := dW rec) iJ oM bD eZ ((hr.drew _).low _) ht (fun cQ w1 a1 m1 CB DQ => k _ _ _ ⟨(aO.vW m1).UG, CB, by rw [DQ]; exact hm.mono fun b hb => ⟨.inl hb, m1.agree b hb⟩⟩) t
      exact hold aV _ fr h e jF h' bD hf ρ S w a nn Q hr ht hm hs k
  | _ => exact hold aV _ fr h e jF h' bD hf
theorem wQ (hP : kK P) {orc : FuncId -> List Value -> Heap -> Option (Value × Heap)} (kG : bX P B w0 orc) : ∀ m, nS P B w0 m (yR P orc m)
  | 0 => fun aV c fr h e jF h' _ hf => by cases hf
  | m + 1 => QE hP kG (wQ hP kG m)
end Go.Fs
namespace Go.Fs
variable {P : Program} {orc : FuncId -> List Value -> Heap -> Option (Value × Heap)}
def n5 (P : Program) (orc : FuncId -> List Value -> Heap -> Option (Value × Heap)) : Nat -> Nat -> Code -> Fr -> Heap -> Option (Nat × Code × Fr × Heap)
  | 0, n, c, fr, h => some (n, c, fr, h)
  | k + 1, n, c, fr, h => match n, c with
    | n + 1, .seq a b => match yR P orc n none a fr h with
      | some (.normal, fr1, h1) => n5 P orc k n b fr1 h1
      | _ => none
    | _, _ => none
def ag4 (P : Program) (fn : Func) (h : Heap) (x : Ex × Fr × Heap) : Option Value :=
  bif x.1.goes then
    match j9 x.2.1.marks x.2.2 with
    | some h2 => (iH P x.2.1.t h2 fn.results.toList).map iA
    | none => none
  else none
theorem XU {rec : Rec} {f : FuncId} {args : List Value} {h : Heap} {fn : Func} {c : Code} (hf : P.funcs[f]? = some fn) (hc : fn.body = some c) (hn : (Nat.blt 4000 fn.ntmps || Nat.blt fn.ntmps args.length) = false) :
    (nH P rec f args h).map (·.1) = (rec none c ⟨iS .leaf 0 args, fn.ntmps, []⟩ { next := h.next, low := h.next, aA := h.aA }).bind (ag4 P fn h) := by
  unfold nH kN ag4; simp only [hf, hc, hn, cond_false]
  cases rec none c ⟨iS .leaf 0 args, fn.ntmps, []⟩ { next := h.next, low := h.next, aA := h.aA } with
  | none => rfl
  | some x =>
    obtain ⟨e, fr, h1⟩ := x; simp only [Option.bind_some]
    cases e.goes with
    | false => rfl
    | true =>
      simp only [cond_true]
      cases j9 fr.marks h1 with
      | none => rfl
      | some h2 =>
        simp only
        cases iH P fr.t h2 fn.results.toList with
        | none => rfl
        | some vs =>
          simp only [Option.map_some]; generalize (!false && (af (iA vs) && Nat.ble h.next h2.low)) = q; cases q <;> rfl
def vJ : Nat -> Code -> Code
  | 0, c => c
  | k + 1, .seq _ b => vJ k b
  | _ + 1, c => c
end Go.Fs
namespace Go.Fs
open Go.RowKit (Below)
variable {P : Program}
def gv : Value -> Bool
  | .func (.func _) ⟨[]⟩ ⟨[]⟩ => true
  | v => eN v
theorem VR.amH {ρ : Ren} {S : Nat -> Prop} {v : Value} (h : gv v = true) : VR ρ S v v := by
  unfold gv at h; split at h
  . exact .func _ _ _ _ _ rfl (fun i h => absurd h (by simp)) rfl (fun i h => absurd h (by simp))
  exact .lit h
def yS (n : Nat) (L : List (Nat × TypeId × List Value)) : Heap := ⟨n, n, L.map fun x => (x.1 + 1, .row x.2.1 x.2.2 false true)⟩
def amI (P : Program) : Ren := fun b => Loc.clean (b - 1) 0 0 (P.cellsOf (((P.globals[b - 1]?).map (·.type)).getD 0))
structure FO (P : Program) (B : Nat) (w : World) (x : Nat × TypeId × List Value) : Prop where
  type : (P.globals[x.1]?).map (·.type) = some x.2.1
  only : ∀ (g : Nat) gl, P.globals[g]? = some gl -> gl.type = x.2.1 -> g = x.1
  block : x.1 < B
  cells : ∀ i, i < x.2.2.length -> w.cell? ⟨x.1, i, none⟩ = some (x.2.2.getD i undef)
  ag5 : x.2.2.all gv = true
theorem FO.below {B : Nat} {w w' : World} {x : Nat × TypeId × List Value} (h : FO P B w x) (hb : Below B w w') : FO P B w' x :=
  ⟨h.type, h.only, h.block, fun i hi => (World.cell?_of_block (a := ⟨x.1, i, none⟩) (hb.block _ h.block)).trans (h.cells i hi), h.ag5⟩
theorem tJ {n : Nat} : ∀ {L : List (Nat × TypeId × List Value)} {i : Nat} {o : aX}, (yS n L).get i = some o -> ∃ x ∈ L, i = x.1 + 1 /\ o = .row x.2.1 x.2.2 false true
  | [], i, o, h => by cases h
  | x :: L, i, o, h => by
    simp only [yS, Heap.get, List.map_cons, look] at h
    cases hb : Nat.beq (x.1 + 1) i with
    | true =>
      rw [hb] at h
      exact ⟨x, List.mem_cons_self, (bI hb).symm, (Option.some.inj h).symm⟩
    | false =>
      rw [hb] at h; obtain ⟨y, hy, h1, h2⟩ := tJ (n := n) (L := L) (i := i) (o := o) h; exact ⟨y, List.mem_cons_of_mem _ hy, h1, h2⟩
theorem acD {w : World} {n : Nat} {L : List (Nat × TypeId × List Value)} (hn : ∀ x ∈ L, x.1 + 1 < n) (hp : 0 < n) (hL : ∀ x ∈ L, FO P w.heap.size w x) :
    HR P (amI P) (fun b => ∃ x ∈ L, b = x.1 + 1) w.heap.size (wz w) (yS n L) w where
  aA := fun i o hi => by
    obtain ⟨x, hx, rfl, rfl⟩ := tJ hi; have h := hL x hx; refine ⟨⟨x, hx, rfl⟩, ?_, fun j hj => ?_, fun _ g gl h1 h2 => ?_⟩
    . show P.cellsOf (((P.globals[x.1 + 1 - 1]?).map (·.type)).getD 0) = _; rw [Nat.add_sub_cancel, h.type]; rfl
    . refine ⟨x.2.2.getD j undef, ?_, .amH (List.all_eq_true.1 h.ag5 _ (mQ hj))⟩; show w.cell? ⟨x.1 + 1 - 1, 0 + j, none⟩ = _; rw [Nat.add_sub_cancel, Nat.zero_add]; exact h.cells j hj
    exact ⟨(h.only g gl h1 h2).symm, rfl⟩
  inj := fun i j oi oj hi _ ho => by
    obtain ⟨x, hx, rfl, rfl⟩ := tJ hi; cases ho
  base := fun i o hi ho => by
    obtain ⟨x, hx, rfl, rfl⟩ := tJ hi; cases ho
  ro := fun i o hi _ => by
    obtain ⟨x, hx, rfl, rfl⟩ := tJ hi; exact (hL x hx).block
  ids := fun b ⟨x, hx, hb⟩ => by
    subst hb; exact ⟨hn x hx, Nat.succ_ne_zero _⟩
  pos := hp
  below := I8 (Below.refl _ _)
  drawn := Nat.zero_le _
  size := Nat.le_refl _
end Go.Fs
namespace Go.Fs
open Go.RowKit (Below)
variable {P : Program} {ρ bN : Ren} {S S' : Nat -> Prop} {B : Nat} {w0 w w' w1 w2 : World} {h h' h1 h2 : Heap}
def QG (n0 : Nat) (keep : List Nat) : List (Nat × aX) -> List (Nat × aX)
  | [] => []
  | x :: r => bif Nat.blt x.1 n0 || keep.any (Nat.beq x.1) then x :: QG n0 keep r else QG n0 keep r
def LX (n0 : Nat) (keep : List Nat) (h : Heap) : Heap := ⟨h.next, h.low, QG n0 keep h.aA⟩
theorem pM {n0 : Nat} {keep : List Nat} {i : Nat} {o : aX} : ∀ {L : List (Nat × aX)}, look (QG n0 keep L) i = some o -> look L i = some o
  | [], h => h
  | x :: L, h => by
    unfold QG at h
    cases hk : (Nat.blt x.1 n0 || keep.any (Nat.beq x.1)) with
    | true =>
      rw [hk] at h; simp only [cond_true, look] at h ⊢
      cases hb : Nat.beq x.1 i with
      | true => rw [hb] at h; exact h
      | false => rw [hb] at h; exact pM h
    | false =>
      rw [hk] at h; simp only [cond_false] at h; simp only [look]
      cases hb : Nat.beq x.1 i with
      | false => exact pM h
      | true =>
        exfalso; have e := bI hb
        have mR : ∀ {L : List (Nat × aX)}, look (QG n0 keep L) i = none := by
          intro L
          induction L with
          | nil => rfl
          | cons y L ih =>
            unfold QG
            cases uF : (Nat.blt y.1 n0 || keep.any (Nat.beq y.1)) with
            | false => exact ih
            | true =>
              simp only [cond_true, look]
              cases C7 : Nat.beq y.1 i with
              | false => exact ih
              | true => rw [bI C7, <- e, hk] at uF; cases uF
        rw [mR] at h; cases h
theorem QH {n0 : Nat} {keep : List Nat} {i : Nat} (hi : i < n0) : ∀ {L : List (Nat × aX)}, look (QG n0 keep L) i = look L i
  | [] => rfl
  | x :: L => by
    unfold QG
    cases hb : Nat.beq x.1 i with
    | true =>
      have hx : Nat.blt x.1 n0 = true := by rw [bI hb]; show Nat.ble (i + 1) n0 = true; rw [Nat.ble_eq]; omega
      simp only [hx, Bool.true_or, cond_true, look, hb]
    | false =>
      cases hk : (Nat.blt x.1 n0 || keep.any (Nat.beq x.1)) with
      | true => simp only [cond_true, look, hb, cond_false]; exact QH hi
      | false => simp only [cond_false, look, hb]; exact QH hi
theorem HR.gc {n0 : Nat} {keep : List Nat} (hr : HR P ρ S B w0 h w) : HR P ρ S B w0 (LX n0 keep h) w :=
  { aA := fun i o hi => hr.aA i o (pM hi), inj := fun i j oi oj hi hj => hr.inj i j oi oj (pM hi) (pM hj), base := fun i o hi => hr.base i o (pM hi), ro := fun i o hi => hr.ro i o (pM hi), ids := hr.ids, pos := hr.pos,
    below := hr.below, drawn := hr.drawn, size := hr.size }
theorem aO.gc {n0 : Nat} {keep : List Nat} (hn : h.next <= n0) (m : aO P B w0 ρ bN S h h1 w w1) : aO P B w0 ρ bN S h (LX n0 keep h1) w w1 where
  agree := m.agree
  next := m.next
  hr := m.hr.gc
  frame := m.frame
  low := m.low
  keep := fun i hi hl => (QH (by omega)).trans (m.keep i hi hl)
  old := fun i o hi hl => m.old i o (pM hi) hl
  fresh := fun i o hi hl => m.fresh i o (pM hi) hl
def DG (P : Program) (orc : FuncId -> List Value -> Heap -> Option (Value × Heap)) (n0 : Nat) : List (Nat × List Nat) -> Nat -> Code -> Fr -> Heap -> Option (Ex × Fr × Heap)
  | [], n, c, fr, h => yR P orc n none c fr h
  | (k, keep) :: ks, n, c, fr, h => match n5 P orc k n c fr h with
    | some (n1, c1, fr1, h1) => DG P orc n0 ks n1 c1 fr1 (LX n0 keep h1)
    | none => none
theorem KV (hP : kK P) {orc : FuncId -> List Value -> Heap -> Option (Value × Heap)} (kG : bX P B w0 orc) : ∀ {k n : Nat} {c : Code} {fr : Fr} {h : Heap} {n1 : Nat} {c1 : Code} {fr1 : Fr} {h1 : Heap}, codeOk c = true -> n5 P orc k n c fr h = some (n1, c1, fr1, h1) ->
    codeOk c1 = true /\ ∀ {ρ : Ren} {S : Nat -> Prop} {w : World} {a : Act} {nn : Nat} {Q : Exit -> Act -> World -> Prop}, HR P ρ S B w0 h w -> kV ρ S fr.t fr.n a.tmps -> p6 ρ S fr.marks a.defers ->
      (∀ bN w' a', p7 P B w0 ρ bN S h w fr1 h1 w' a' -> c1.wpIn (mI none) nn P Q a' w') -> c.wpIn (mI none) nn P Q a w
  | 0, n, c, fr, h, n1, c1, fr1, h1, bD, hr => by
    simp only [n5, Option.some.injEq, Prod.mk.injEq] at hr; obtain ⟨rfl, rfl, rfl, rfl⟩ := hr
    exact ⟨bD, fun hR ht hm k => k _ _ _ ⟨aO.same hR, ht.mono fun b hb => ⟨.inl hb, rfl⟩, hm.mono fun b hb => ⟨.inl hb, rfl⟩⟩⟩
  | k + 1, n, c, fr, h, n1, c1, fr1, h1, bD, hr => by
    simp only [n5] at hr; split at hr
    . rename_i n x y; split at hr
      . rename_i DJ h2 hx; obtain ⟨RY, VX⟩ := aY (show (codeOk x && codeOk y) = true from bD); obtain ⟨g1, g2⟩ := KV hP kG VX hr; refine ⟨g1, fun {ρ S w a nn Q} hR ht hm kk => wpIn_seq ?_⟩; refine (wQ hP kG n none x fr h _ DJ h2 RY hx ρ S w a nn _ hR ht hm (fun l hl => by cases hl) fun cQ w1 a1 p1 => ?_).wpIn; show y.wpIn (mI none) nn P Q a1 w1; exact g2 p1.bY.hr p1.tmps p1.marks fun j8 w2 a2 p2 => kk _ _ _ (p7.trans (fr1 := DJ) (a1 := a1) p1.bY p2)
      cases hr
    cases hr
theorem GX (hP : kK P) {orc : FuncId -> List Value -> Heap -> Option (Value × Heap)} (kG : bX P B w0 orc) {n0 : Nat} : ∀ {ks : List (Nat × List Nat)} {n : Nat} {c : Code} {fr : Fr} {h : Heap} {e : Ex} {jF : Fr} {h' : Heap}, codeOk c = true -> DG P orc n0 ks n c fr h = some (e, jF, h') ->
    ∀ {g : Heap} {ρ0 ρ : Ren} {S : Nat -> Prop} {w w' : World} {a : Act} {nn : Nat} {Q : Exit -> Act -> World -> Prop}, g.next <= n0 -> aO P B w0 ρ0 ρ S g h w w' -> kV ρ (Ext S g h) fr.t fr.n a.tmps -> p6 ρ (Ext S g h) fr.marks a.defers ->
      (∀ bN w2 a', p7 P B w0 ρ0 bN S g w jF h' w2 a' -> Q (RQ e) a' w2) -> c.wpIn (mI none) nn P Q a w'
  | [], n, c, fr, h, e, jF, h', bD, hr, g, ρ0, ρ, S, w, w', a, nn, Q, hg, m, ht, hm, k =>
    (wQ hP kG n none c fr h e jF h' bD hr ρ _ w' a nn Q m.hr ht hm (fun l hl => by cases hl) fun cQ w1 a1 p1 => k _ _ _ (p7.trans (fr1 := fr) (a1 := a) m p1)).wpIn
  | (j, keep) :: ks, n, c, fr, h, e, jF, h', bD, hr, g, ρ0, ρ, S, w, w', a, nn, Q, hg, m, ht, hm, k => by
    simp only [DG] at hr; split at hr
    . rename_i n1 c1 fr1 h1 hx; obtain ⟨g1, g2⟩ := KV hP kG bD hx; refine g2 m.hr ht hm fun cQ w1 a1 p1 => ?_; have q := p7.trans (fr1 := fr) (a1 := a) m p1; exact GX hP kG g1 hr hg (q.bY.gc hg) q.tmps q.marks k
    cases hr
def fsG (P : Program) (orc : FuncId -> List Value -> Heap -> Option (Value × Heap)) (n0 n : Nat) (ks : List (Nat × List Nat)) : Rec := fun aV c fr h =>
  match aV, c with
  | none, .seq x y => bif Nat.ble h.next n0 then DG P orc n0 ks n (.seq x y) fr h else none
  | _, _ => none
def amJ : Code -> Bool
  | .seq _ _ => true
  | _ => false
theorem ajM {orc : FuncId -> List Value -> Heap -> Option (Value × Heap)} {n0 n : Nat} {ks : List (Nat × List Nat)} {c : Code} {fr : Fr} {h : Heap} (hc : amJ c = true) (hn : Nat.ble h.next n0 = true) : fsG P orc n0 n ks none c fr h = DG P orc n0 ks n c fr h := by
  cases c with
  | seq x y =>
    show (bif Nat.ble h.next n0 then _ else _) = _
    rw [hn]; rfl
  | _ => cases hc
theorem XV (hP : kK P) {orc : FuncId -> List Value -> Heap -> Option (Value × Heap)} (kG : bX P B w0 orc) {n0 n : Nat} {ks : List (Nat × List Nat)} : nS P B w0 0 (fsG P orc n0 n ks) := by
  intro aV c fr h e jF h' bD hf ρ S w a nn Q hr ht hm hs k; unfold fsG at hf; split at hf
  . rename_i x y; obtain ⟨hn, hq⟩ := aL hf; show Code.wpIn (mI none) nn P (.seq x y) Q a w; exact GX hP kG bD hq (dY hn) (aO.same hr) (ht.mono fun b hb => ⟨.inl hb, rfl⟩) (hm.mono fun b hb => ⟨.inl hb, rfl⟩) k
  cases hf
theorem sF {orc : FuncId -> List Value -> Heap -> Option (Value × Heap)} {n0 k n : Nat} {keep : List Nat} {ks : List (Nat × List Nat)} {c : Code} {fr : Fr} {h : Heap} {n' : Nat} {c' : Code} {jF : Fr} {h' : Heap} (hr : (n5 P orc k n c fr h).map (fun x => (x.1, x.2.1, x.2.2.1, LX n0 keep x.2.2.2)) = some (n', c', jF, h')) : DG P orc n0 ((k, keep) :: ks) n c fr h = DG P orc n0 ks n' c' jF h' := by
  simp only [DG]
  cases hx : n5 P orc k n c fr h with
  | none => rw [hx] at hr; cases hr
  | some x =>
    obtain ⟨n1, c1, fr1, h1⟩ := x; rw [hx] at hr; simp only [Option.map_some, Option.some.injEq, Prod.mk.injEq] at hr; obtain ⟨rfl, rfl, rfl, rfl⟩ := hr; rfl
theorem UH (hP : kK P) {w : World} {orc : FuncId -> List Value -> Heap -> Option (Value × Heap)} (kG : bX P w.heap.size (wz w) orc) {ρ : Ren} {S : Nat -> Prop} {g : Heap} (hr : HR P ρ S w.heap.size (wz w) g w) {n0 n : Nat} {ks : List (Nat × List Nat)} {f : FuncId} {args : List Value} {v : Value} (ha : args.all af = true)
    (hf : (nH P (fsG P orc n0 n ks) f args g).map (·.1) = some v) (hv : af v = true) :
    Calls P f args.toArray w fun | .returned v', w' => v' = v /\ Below w.heap.size w w' | _, _ => False := by
  obtain ⟨⟨v0, h1⟩, h2, h3⟩ := Option.map_eq_some_iff.1 hf; simp only at h3; subst h3; have hc := ((CK hP (XV hP kG)) f args _ _ _ h2).2 _ _ w args hr ⟨rfl, fun i hi => .mF (List.all_eq_true.1 ha _ (mQ hi))⟩ 0; refine Calls.mono (callsIn_wide.1 hc) fun e w' he => ?_
  cases e with
  | returned v' =>
    obtain ⟨bN, m1, B2⟩ := he
    exact ⟨B2.dH hv, xK m1.hr.below⟩
  | panicked c => exact he.elim
  | outgrown => exact he.elim
theorem KW (hP : kK P) {B : Nat} {w0 : World} {O : FuncId -> List Value -> Heap -> Option (Value × Heap)} {fa : FuncId} {n : Nat} {L : List (Nat × TypeId × List Value)} (hn : ∀ x ∈ L, x.1 + 1 < n) (hp : 0 < n) (hL : ∀ x ∈ L, FO P B w0 x) (hB : ∀ w, Below B w0 w -> B <= w.heap.size) (hS : ∀ w, Below B w0 w -> bX P w.heap.size (wz w) O) {n0 m : Nat} {ks : List (Nat × List Nat)}
    (eZ : (nH P (fsG P O n0 m ks) fa [] (yS n L)).map (·.1) = some (.bool true)) (w : World) (hw : Below B w0 w) :
    Calls P fa #[] w fun | .returned v', w' => v' = .bool true /\ Below w.heap.size w w' | _, _ => False :=
  UH hP (hS w hw) (acD hn hp fun x hx => let h := (hL x hx).below hw; ⟨h.type, h.only, Nat.lt_of_lt_of_le h.block (hB w hw), h.cells, h.ag5⟩) (args := []) rfl eZ rfl
end Go.Fs
namespace Go.Fs
open Go.RowKit (Below)
variable {P : Program} {B : Nat} {w0 : World}
theorem UI {fi : FuncId} (hz : w0.drawn = 0) (hi : Enters P fi)
    (hI : ∀ (n : Int) (w : World), Below B w0 w -> -9223372036854775808 <= n -> n <= 9223372036854775807 -> Calls P fi #[.int .i64 n] w fun e w' => e = .returned (.string ⟨(Lib.itoa n).toArray⟩) /\ Below w.heap.size w w') : bX P B w0 (A9 fi fi) := by
  intro f xs h v h' hf; unfold A9 at hf
  cases S4 : Nat.beq f fi with
  | true =>
    have := bI S4; subst this; rw [S4] at hf; simp only [cond_true] at hf; split at hf
    . rename_i n; obtain ⟨hc, cO⟩ := aL hf; obtain ⟨h0, h1⟩ := aY hc; have h0 := of_decide_eq_true h0; have h1 := of_decide_eq_true h1; simp only [Option.some.injEq, Prod.mk.injEq] at cO; obtain ⟨rfl, rfl⟩ := cO; refine ⟨hi, fun ρ S w args' hr ha nn => ?_⟩; have he : args' = [.int .i64 n] := ha.dH (by rfl); subst he; have hC : CallsIn Fence.wide nn P f #[.int .i64 n] w _ := callsIn_wide.2 (hI n w hr.below (by omega) (by omega)); refine hC.mono fun e w' nN => ?_; obtain ⟨rfl, hb⟩ := nN; exact ⟨ρ, aO.vT hr hb (by rw [hz]; exact Nat.zero_le _), by rw [MC h0 h1]; exact .lit rfl⟩
    cases hf
  | false =>
    rw [S4] at hf; simp only [cond_false] at hf; cases hf
end Go.Fs
namespace Go.Proofs
open Go.Shelf
def Tryz.DH : Go.Shelf.Ren := ⟨fun | 156 => 43 | 165 => 91 | 166 => 42 | 169 => 46 | 240 => 90 | 241 => 136 | 276 => 135 | 277 => 162 | n => n, fun | 31 => 48 | 9 => 9 | 3 => 3 | 4 => 4 | 0 => 0 | 20 => 20 | 72 => 91 | 76 => 94 | 70 => 88 | 37 => 89 | 75 => 93 | 127 => 151 | 164 => 186 | 5 => 5 | 80 => 104 | n => n, fun | n => n⟩
theorem Tryz.ag6 : Go.Proofs.Lays.n156 Tryz.prog Tryz.DH := {
  mixed := by kernel_rfl
  f156 := Tryz.func43.trans (congrArg some (by kernel_rfl))
  f165 := Tryz.func91.trans (congrArg some (by kernel_rfl))
  f166 := Tryz.func42.trans (congrArg some (by kernel_rfl))
  f169 := Tryz.func46.trans (congrArg some (by kernel_rfl))
  f240 := Tryz.func90.trans (congrArg some (by kernel_rfl))
  f241 := Tryz.func136.trans (congrArg some (by kernel_rfl))
  f276 := Tryz.func135.trans (congrArg some (by kernel_rfl))
  f277 := Tryz.func162.trans (congrArg some (by kernel_rfl))
  t0 := Tryz.underlying0
  a0 := Tryz.isAgg0
  z0 := Tryz.sizeOf0
  v0 := Tryz.zeroValue0
  t3 := Tryz.underlying3
  a3 := Tryz.isAgg3
  z3 := Tryz.sizeOf3
  v3 := Tryz.zeroValue3
  t4 := Tryz.underlying4
  a4 := Tryz.isAgg4
  z4 := Tryz.sizeOf4
  v4 := Tryz.zeroValue4
  t9 := Tryz.underlying9
  a9 := Tryz.isAgg9
  z9 := Tryz.sizeOf9
  v9 := Tryz.zeroValue9
  t20 := Tryz.underlying20
  a20 := Tryz.isAgg20
  z20 := Tryz.sizeOf20
  v20 := Tryz.zeroValue20
  t31 := Tryz.underlying48
  a31 := Tryz.isAgg48
  z31 := Tryz.sizeOf48
  v31 := Tryz.zeroValue48
  t37 := Tryz.underlying89
  a37 := Tryz.isAgg89
  z37 := Tryz.sizeOf89
  v37 := Tryz.zeroValue89
  t70 := Tryz.underlying88
  a70 := Tryz.isAgg88
  z70 := Tryz.sizeOf88
  v70 := Tryz.zeroValue88
  t72 := Tryz.underlying91
  a72 := Tryz.isAgg91
  z72 := Tryz.sizeOf91
  v72 := Tryz.zeroValue91
  t75 := Tryz.underlying93
  a75 := Tryz.isAgg93
  z75 := Tryz.sizeOf93
  v75 := Tryz.zeroValue93
  t76 := Tryz.underlying94
  a76 := Tryz.isAgg94
  z76 := Tryz.sizeOf94
  v76 := Tryz.zeroValue94
  t127 := Tryz.underlying151
  a127 := Tryz.isAgg151
  z127 := Tryz.sizeOf151
  v127 := Tryz.zeroValue151
  t164 := Tryz.underlying186
  a164 := Tryz.isAgg186
  z164 := Tryz.sizeOf186
  v164 := Tryz.zeroValue186 }
theorem Tryz.BN : Builder.Extra Tryz.prog Tryz.DH := {
  sizeBuilder := by kernel_rfl
  liesBuilder := by kernel_rfl
  t5 := Tryz.underlying5
  a5 := Tryz.isAgg5
  z5 := Tryz.sizeOf5
  v5 := Tryz.zeroValue5
  infoByte := by kernel_rfl
  cellsByte := by kernel_rfl
  sizeByte := by kernel_rfl
  neB5 := by decide }
open Go.RowKit in
/-- strings.Join: "Join concatenates the elements of its first argument to create a single string. The separator string sep is placed between elements in the resulting string.": HOWEVER MANY ELEMENTS. Below the heap's end the world is asl it was. (LAID: no walk: one application.) -/
theorem Tryz.strings_Join (bk o c : Nat) (xs : List ByteArray) (sep : ByteArray) (w : World) (bO : ∀ (j : Nat) x, xs[j]? = some x -> w.cell? ⟨bk, o + j, none⟩ = some (.string x)) (rJ : bk < w.heap.size) (hN : xs.length <= 140737488355328) (lG : xs.length <= c) (hlen : (Lib.join (xs.map (·.data.toList)) sep.data.toList).length <= 140737488355328) :
    Calls Tryz.prog 43 #[.slice (some ⟨bk, o, none⟩) xs.length c, .string sep] w fun e w' => e = .returned (.string ⟨(Lib.join (xs.map (·.data.toList)) sep.data.toList).toArray⟩) /\ Below w.heap.size w w' := Any.strings_Join Tryz.ag6 Tryz.BN bk o c xs sep w bO rJ hN lG hlen
def Tryz.LY : Go.Shelf.Ren := ⟨fun | 243 => 92 | 246 => 137 | 283 => 163 | 284 => 164 | 285 => 165 | 286 => 166 | 129 => 184 | 317 => 187 | 318 => 188 | 319 => 189 | 320 => 190 | 337 => 202 | 338 => 203 | n => n, fun | 3 => 3 | 9 => 9 | 2 => 2 | 4 => 4 | 171 => 206 | 0 => 0 | 53 => 207 | 37 => 89 | 5 => 5 | 173 => 210 | 212 => 228 | 51 => 223 | 20 => 20 | 213 => 229 | 46 => 195 | 232 => 246 | 233 => 247 | n => n, fun | 17 => 1 | 18 => 4 | 19 => 5 | n => n⟩
theorem Tryz.acE : Go.Proofs.LaysM.n243 Tryz.prog Tryz.LY := {
  mixed := by kernel_rfl
  f129 := Tryz.func184.trans (congrArg some (by kernel_rfl))
  f243 := Tryz.func92.trans (congrArg some (by kernel_rfl))
  f246 := Tryz.func137.trans (congrArg some (by kernel_rfl))
  f283 := Tryz.func163.trans (congrArg some (by kernel_rfl))
  f284 := Tryz.func164.trans (congrArg some (by kernel_rfl))
  f285 := Tryz.func165.trans (congrArg some (by kernel_rfl))
  f286 := Tryz.func166.trans (congrArg some (by kernel_rfl))
  f317 := Tryz.func187.trans (congrArg some (by kernel_rfl))
  f318 := Tryz.func188.trans (congrArg some (by kernel_rfl))
  f319 := Tryz.func189.trans (congrArg some (by kernel_rfl))
  f320 := Tryz.func190.trans (congrArg some (by kernel_rfl))
  f337 := Tryz.func202.trans (congrArg some (by kernel_rfl))
  f338 := Tryz.func203.trans (congrArg some (by kernel_rfl))
  t0 := Tryz.underlying0
  a0 := Tryz.isAgg0
  z0 := Tryz.sizeOf0
  v0 := Tryz.zeroValue0
  t2 := Tryz.underlying2
  a2 := Tryz.isAgg2
  z2 := Tryz.sizeOf2
  v2 := Tryz.zeroValue2
  t3 := Tryz.underlying3
  a3 := Tryz.isAgg3
  z3 := Tryz.sizeOf3
  v3 := Tryz.zeroValue3
  t4 := Tryz.underlying4
  a4 := Tryz.isAgg4
  z4 := Tryz.sizeOf4
  v4 := Tryz.zeroValue4
  t5 := Tryz.underlying5
  a5 := Tryz.isAgg5
  z5 := Tryz.sizeOf5
  v5 := Tryz.zeroValue5
  t9 := Tryz.underlying9
  a9 := Tryz.isAgg9
  z9 := Tryz.sizeOf9
  v9 := Tryz.zeroValue9
  t20 := Tryz.underlying20
  a20 := Tryz.isAgg20
  z20 := Tryz.sizeOf20
  v20 := Tryz.zeroValue20
  t37 := Tryz.underlying89
  a37 := Tryz.isAgg89
  z37 := Tryz.sizeOf89
  v37 := Tryz.zeroValue89
  t46 := Tryz.underlying195
  a46 := Tryz.isAgg195
  z46 := Tryz.sizeOf195
  v46 := Tryz.zeroValue195
  t51 := Tryz.underlying223
  a51 := Tryz.isAgg223
  z51 := Tryz.sizeOf223
  v51 := Tryz.zeroValue223
  t53 := Tryz.underlying207
  a53 := Tryz.isAgg207
  z53 := Tryz.sizeOf207
  v53 := Tryz.zeroValue207
  t171 := Tryz.underlying206
  a171 := Tryz.isAgg206
  z171 := Tryz.sizeOf206
  v171 := Tryz.zeroValue206
  t173 := Tryz.underlying210
  a173 := Tryz.isAgg210
  z173 := Tryz.sizeOf210
  v173 := Tryz.zeroValue210
  t212 := Tryz.underlying228
  a212 := Tryz.isAgg228
  z212 := Tryz.sizeOf228
  v212 := Tryz.zeroValue228
  t213 := Tryz.underlying229
  a213 := Tryz.isAgg229
  z213 := Tryz.sizeOf229
  t232 := Tryz.underlying246
  a232 := Tryz.isAgg246
  z232 := Tryz.sizeOf246
  v232 := Tryz.zeroValue246
  t233 := Tryz.underlying247
  a233 := Tryz.isAgg247
  z233 := Tryz.sizeOf247
  v233 := Tryz.zeroValue247
  g17 := by kernel_rfl
  g18 := by kernel_rfl
  g19 := by kernel_rfl
  i0 := by kernel_rfl
  i2 := by kernel_rfl
  i3 := by kernel_rfl
  i4 := by kernel_rfl
  i5 := by kernel_rfl
  i9 := by kernel_rfl
  i20 := by kernel_rfl
  i37 := by kernel_rfl
  i46 := by kernel_rfl
  i51 := by kernel_rfl
  i53 := by kernel_rfl
  i171 := by kernel_rfl
  i173 := by kernel_rfl
  i212 := by kernel_rfl
  i232 := by kernel_rfl
  i233 := by kernel_rfl
  m17 := by kernel_rfl
  m18 := by kernel_rfl
  m19 := by kernel_rfl }
open Go.RowKit Go.Sort Go.Lib in
/-- internal/strconv.Itoa: "Itoa is equivalent to FormatInt(int64(i), 10).": i's decimal numeral, for every int. (LAID: no walk: one application.) -/
theorem Tryz.internal_strconv_Itoa (n : Int) (h0 : -9223372036854775808 <= n) (h1 : n <= 9223372036854775807) (w : World) (apE : Lib.TabIs Tryz.prog w "internal/strconv.uint64pow10" .u64 Lib.pow10Tab) :
    Calls Tryz.prog 92 #[.int .i64 n] w fun e w' => e = .returned (.string ⟨(Lib.itoa n).toArray⟩) /\ ∃ k os, w' = grow (w.drewN k) os := Any.internal_strconv_Itoa Tryz.acE n h0 h1 w apE
end Go.Proofs
namespace Go.Proofs
open Go.Fs
open Go.Shelf
open Go.RowKit (Below)
theorem ag7 : (Tryz.prog.funcs.toList.all fun fn => match fn.body with | some c => codeOk c && !(fn.name == "runtime.NumGoroutine") | none => true) = true := by kernel_rfl
theorem ag8 : Tryz.prog.follows .mixedOrders = true := by kernel_rfl
theorem ak6 : kK Tryz.prog where
  mixed := ag8
  name := fun f fn hf hb => by
    have := List.all_eq_true.1 ag7 fn (by rw [Array.mem_toList_iff]; exact Array.mem_of_getElem? hf)
    cases hx : fn.body with
    | none => rw [hx] at hb; cases hb
    | some c => rw [hx] at this; simpa using (aY this).2
  code := fun f fn c hf hb => by
    have := List.all_eq_true.1 ag7 fn (by rw [Array.mem_toList_iff]; exact Array.mem_of_getElem? hf); rw [hb] at this; exact (aY this).1
theorem Z3 : Fs.Enters Tryz.prog 92 := ⟨_, Tryz.func92, rfl, by kernel_rfl⟩
theorem UJ : Fs.Enters Tryz.prog 90 := ⟨_, Tryz.func90, rfl, by kernel_rfl⟩
theorem acF : Fs.Enters Tryz.prog 6 := ⟨_, Tryz.func6, rfl, by kernel_rfl⟩
def ag9 : Go.Shelf.Ren := ⟨fun | 240 => 90 | 276 => 135 | n => n, fun | 0 => 0 | 4 => 4 | 9 => 9 | 20 => 20 | 70 => 88 | 72 => 91 | 164 => 186 | 37 => 89 | n => n, fun | n => n⟩
theorem HX : Go.Proofs.Lays.n240 Tryz.prog ag9 := {
  mixed := by kernel_rfl
  f240 := Tryz.func90.trans (congrArg some (by kernel_rfl))
  f276 := Tryz.func135.trans (congrArg some (by kernel_rfl))
  t0 := Tryz.underlying0
  a0 := Tryz.isAgg0
  z0 := Tryz.sizeOf0
  v0 := Tryz.zeroValue0
  t4 := Tryz.underlying4
  a4 := Tryz.isAgg4
  z4 := Tryz.sizeOf4
  v4 := Tryz.zeroValue4
  t9 := Tryz.underlying9
  a9 := Tryz.isAgg9
  z9 := Tryz.sizeOf9
  v9 := Tryz.zeroValue9
  t20 := Tryz.underlying20
  a20 := Tryz.isAgg20
  z20 := Tryz.sizeOf20
  v20 := Tryz.zeroValue20
  t70 := Tryz.underlying88
  a70 := Tryz.isAgg88
  z70 := Tryz.sizeOf88
  v70 := Tryz.zeroValue88
  t72 := Tryz.underlying91
  a72 := Tryz.isAgg91
  z72 := Tryz.sizeOf91
  v72 := Tryz.zeroValue91
  t164 := Tryz.underlying186
  a164 := Tryz.isAgg186
  z164 := Tryz.sizeOf186
  v164 := Tryz.zeroValue186 }
theorem QI : Builder.X72 Tryz.prog ag9 := { sizeBuilder := by kernel_rfl, liesBuilder := by kernel_rfl }
theorem ajN : Fs.Enters Tryz.prog 43 := ⟨_, Tryz.func43, rfl, by kernel_rfl⟩
/-- No package variable is read. -/
def tzG : List (Nat × TypeId × List Value) := []
abbrev OB := ag3 92 43 90 91
theorem aq1 {B : Nat} {w0 : World} (hz : w0.drawn = 0) (hB : w0.heap.size <= B) (ht : ∀ w, Below B w0 w -> Lib.TabIs Tryz.prog w "internal/strconv.uint64pow10" .u64 Lib.pow10Tab) : bX Tryz.prog B w0 (A9 92 92) :=
  UI hz Z3 (fun n w hw h0 h1 => (Tryz.internal_strconv_Itoa n h0 h1 w (ht w hw)).mono fun e w' ⟨he, k, os, QJ⟩ => ⟨he, by rw [QJ]; exact Lib.below_grow _ _ (Nat.le_refl _) _ _⟩)
theorem Z4 {B : Nat} {w0 : World} (hz : w0.drawn = 0) (hB : w0.heap.size <= B) (ht : ∀ w, Below B w0 w -> Lib.TabIs Tryz.prog w "internal/strconv.uint64pow10" .u64 Lib.pow10Tab) : bX Tryz.prog B w0 (A9 92 43) :=
  S3 hz Z3 ajN (fun n w hw h0 h1 => (Tryz.internal_strconv_Itoa n h0 h1 w (ht w hw)).mono fun e w' ⟨he, k, os, QJ⟩ => ⟨he, by rw [QJ]; exact Lib.below_grow _ _ (Nat.le_refl _) _ _⟩)
    (fun bk o c xs sep w bO rJ hN lG hlen => Tryz.strings_Join bk o c xs sep w bO rJ hN lG hlen)
theorem ajO {B : Nat} {w0 : World} (hz : w0.drawn = 0) (hB : w0.heap.size <= B) (ht : ∀ w, Below B w0 w -> Lib.TabIs Tryz.prog w "internal/strconv.uint64pow10" .u64 Lib.pow10Tab) : bX Tryz.prog B w0 OB :=
  UE hz (Z4 hz hB ht) UJ (fun b w h0 h1 h2 => Any.Builder_copyCheck_fresh HX QI b w h0 h1 h2) (fun b w h0 => Any.Builder_copyCheck_used HX QI b w h0)
end Go.Proofs
namespace Go.Proofs
open Go.Fs
noncomputable def iG : Value := .string ⟨#[115, 111, 117, 116, 104]⟩
noncomputable def nA : Value := .string ⟨#[110, 111, 114, 116, 104]⟩
noncomputable def mB : Value := .string ⟨#[108, 111, 99, 107]⟩
noncomputable def iQ : Value := .string ⟨#[121]⟩
noncomputable def l7 : Value := .string ⟨#[98]⟩
noncomputable def NU : Value := .string ⟨#[109, 111, 100, 101, 108]⟩
noncomputable def oJ : Value := .string ⟨#[120]⟩
noncomputable def mC : Value := .string ⟨#[]⟩
noncomputable def oK : Value := .string ⟨#[97]⟩
noncomputable def NV : Value := .string ⟨#[115, 97, 102, 101]⟩
noncomputable def yT : Value := .string ⟨#[101, 51]⟩
noncomputable def QK : Value := .string ⟨#[115, 104, 117, 116]⟩
noncomputable def BO : Value := .string ⟨#[101, 49]⟩
noncomputable def QM : Value := .string ⟨#[103, 97, 116, 101]⟩
noncomputable def QN : Value := .string ⟨#[116, 111, 112]⟩
noncomputable def QP : Value := .string ⟨#[101, 50]⟩
noncomputable def BP : Value := .string ⟨#[99]⟩
noncomputable def LZ : Value := .slice none 0 0
noncomputable def eF : Value := .tuple #[]
noncomputable def aN (b n : Nat) : Value := .slice (some ⟨b, 0, none⟩) n 0
noncomputable def aD (n : Int) : Value := .int .i64 n
noncomputable def KX (b o : Nat) : Value := .pointer (some ⟨b, o, none⟩)
noncomputable def akM : Nat × aX := (285, .row 36 [aN 254 2, aN 268 3, aN 283 3] true false)
noncomputable def akN : Nat × aX := (283, .row 102 [NV, .bool false, aN 271 2, QK, .bool true, aN 276 2, QN, .bool false, aN 281 2] true true)
noncomputable def akO : Nat × aX := (281, .row 9 [NV, QK] true true)
noncomputable def akP : Nat × aX := (276, .row 9 [QP, yT] true true)
noncomputable def akQ : Nat × aX := (271, .row 9 [BO, yT] true true)
noncomputable def akR : Nat × aX := (268, .row 101 [BO, aN 258 1, QP, aN 263 2, yT, LZ] true true)
noncomputable def akS : Nat × aX := (263, .row 98 [QM, aD 1, NU, aD 1] true true)
noncomputable def akT : Nat × aX := (258, .row 98 [NU, aD 2] true true)
noncomputable def akU : Nat × aX := (254, .row 98 [NU, aD 3, QM, aD 1] true false)
noncomputable def BQ : Code := match Tryz.f6.body with | some c => c | none => .skip
noncomputable def NW : Tr := (.node (aD 0) (.node (.bool false) .leaf .leaf) .leaf)
noncomputable def akV : Tr := (.node (aD 2) (.node (.bool false) .leaf .leaf) .leaf)
noncomputable def apF : Tr := (.node (aD 0) (.node (aD 0) .leaf .leaf) .leaf)
noncomputable def AM : Tr := (.node (.bool false) (.node (aD 0) .leaf .leaf) .leaf)
noncomputable def apG : Tr := (.node (aD 2) (.node (aD 0) .leaf .leaf) .leaf)
noncomputable def akW : Tr := (.node (aD 15) (.node (.bool false) .leaf .leaf) .leaf)
noncomputable def akX : Tr := (.node (aD 20) (.node (.bool false) .leaf .leaf) .leaf)
noncomputable def apH : Tr := (.node (aD 0) (.node (aD 21) .leaf .leaf) .leaf)
noncomputable def apI : Tr := (.node (aD 15) (.node (aD 0) .leaf .leaf) .leaf)
noncomputable def apJ : Tr := (.node (aD 20) (.node (aD 0) .leaf .leaf) .leaf)
noncomputable def agA : Tr := (.node (.tuple #[aN 25 2, aD 0]) .leaf .leaf)
noncomputable def agB : Tr := (.node (.tuple #[aN 41 2, aD 0]) .leaf .leaf)
noncomputable def XW : Tr := (.node (.tuple #[aN 92 2, aD 0]) .leaf .leaf)
noncomputable def XX : Tr := (.node (.tuple #[aN 129 2, aD 0]) .leaf .leaf)
noncomputable def QQ : Tr := (.node (.tuple #[aN 239 2, aD 0]) .leaf .leaf)
noncomputable def XY : Tr := (.node (.tuple #[aN 315 1, aD 0]) .leaf .leaf)
noncomputable def agC : Tr := (.node (.tuple #[aN 594 2, aD 0]) .leaf .leaf)
noncomputable def agD : Tr := (.node (.tuple #[aN 440 1, aD 0]) .leaf .leaf)
noncomputable def agE : Tr := (.node (mB) (.node (aD 0) .leaf .leaf) .leaf)
noncomputable def agF : Tr := (.node (aN 41 2) (.node (.bool false) .leaf .leaf) .leaf)
noncomputable def amK : Tr := (.node (aD 0) (.node (aN 92 2) .leaf .leaf) .leaf)
noncomputable def agG : Tr := (.node (aN 56 2) (.node (aD 0) .leaf .leaf) .leaf)
noncomputable def agH : Tr := (.node (aN 51 3) (.node (aD 33) .leaf .leaf) .leaf)
noncomputable def amL : Tr := (.node (.bool false) (.node (aN 315 1) .leaf .leaf) .leaf)
noncomputable def agI : Tr := (.node (.bool false) (.node (.tuple #[.bool true, aD 0]) .leaf .leaf) .leaf)
noncomputable def amM : Tr := (.node (aD 0) (.node (.tuple #[.bool true, aD 0]) .leaf .leaf) .leaf)
noncomputable def agJ : Tr := (.node (mC) (.node (aN 129 2) .leaf .leaf) .leaf)
noncomputable def agK : Tr := (.node (.tuple #[aD 20, aD 0]) (.node (.bool false) .leaf .leaf) .leaf)
noncomputable def agL : Tr := (.node (aD 15) (.node (.bool false) .leaf .leaf) (.node (.bool true) .leaf .leaf))
noncomputable def QR : Tr := (.node (aD 0) (.node (.bool false) .leaf .leaf) (.node (.bool false) .leaf .leaf))
noncomputable def amN : Tr := (.node (aD 0) (.node (aD 21) .leaf .leaf) (.node (.bool true) .leaf .leaf))
noncomputable def agM : Tr := (.node (aD 0) (.node (.bool false) .leaf .leaf) (.node (aD 0) .leaf .leaf))
noncomputable def agN : Tr := (.node (aD 2) (.node (.bool false) .leaf .leaf) (.node (.bool false) .leaf .leaf))
noncomputable def amO : Tr := (.node (aD 0) (.node (aD 0) .leaf .leaf) (.node (.bool false) .leaf .leaf))
noncomputable def agO : Tr := (.node (aD 20) (.node (.bool false) .leaf .leaf) (.node (.bool false) .leaf .leaf))
noncomputable def amP : Tr := (.node (KX 54 3) (.node (aN 1 1) .leaf .leaf) .leaf)
noncomputable def agP : Tr := (.node (.tuple #[aD 15, aD 2, aD 0]) (.node (.bool false) .leaf .leaf) .leaf)
noncomputable def agQ : Tr := (.node (aN 1 1) (.node (aN 1 1) .leaf .leaf) .leaf)
noncomputable def agR : Tr := (.node (aN 44 1) (.node (aN 59 2) .leaf .leaf) .leaf)
noncomputable def agS : Tr := (.node (aN 55 2) (.node (aN 239 2) .leaf .leaf) .leaf)
noncomputable def agT : Tr := (.node (aD 0) XW .leaf)
noncomputable def QS : Tr := (.node (.bool false) XX .leaf)
noncomputable def agU : Tr := (.node (.bool false) QQ .leaf)
noncomputable def amQ : Tr := (.node (.bool false) XY .leaf)
noncomputable def amR : Tr := (.node (aD 0) (.node (aN 92 2) .leaf .leaf) (.node (.bool true) .leaf .leaf))
noncomputable def agV : Tr := (.node (aN 41 2) (.node (.bool false) .leaf .leaf) (.node (aD 0) .leaf .leaf))
noncomputable def amS : Tr := (.node (aD 0) (.node (.tuple #[.bool true, aD 0]) .leaf .leaf) (.node (.bool false) .leaf .leaf))
noncomputable def agW : Tr := (.node (.tuple #[aD 20, aD 0]) (.node (.bool false) .leaf .leaf) (.node (.bool false) .leaf .leaf))
noncomputable def agX : Tr := (.node (aN 25 2) QQ .leaf)
noncomputable def agY : Tr := (.node (.agg #[aN 69 2, aN 72 3, aN 76 3]) .leaf .leaf)
noncomputable def agZ : Tr := (.node (.agg #[aN 94 2, aN 97 3, aN 101 3]) .leaf .leaf)
noncomputable def ah0 : Tr := (.node (.agg #[aN 103 2, aN 106 3, aN 110 3]) .leaf .leaf)
noncomputable def KY : Tr := (.node (.agg #[aN 254 2, aN 268 3, aN 283 3]) .leaf .leaf)
noncomputable def ah1 : Tr := (.node (.agg #[aN 241 2, aN 244 3, aN 248 3]) .leaf .leaf)
noncomputable def ah2 : Tr := (.node (.agg #[aN 159 2, aN 162 3, aN 166 3]) .leaf .leaf)
noncomputable def ah3 : Tr := (.node (.agg #[aN 287 2, aN 290 3, aN 294 3]) .leaf .leaf)
noncomputable def ah4 : Tr := (.node (aN 51 3) (.node (aD 33) .leaf .leaf) (.node (aN 129 2) .leaf .leaf))
noncomputable def ah5 : Tr := (.node (.tuple #[aN 41 2, aD 0]) (.node (aD 0) .leaf .leaf) (.node (.bool false) .leaf .leaf))
noncomputable def amT : Tr := (.node (aD 0) XW (.node (.bool false) .leaf .leaf))
noncomputable def XZ : Tr := (.node (aN 12 2) NW (.node (.bool false) .leaf .leaf))
noncomputable def ah6 : Tr := (.node (eF) NW (.node (.bool false) (.node (.bool true) .leaf .leaf) .leaf))
noncomputable def Y0 : Tr := (.node (.agg #[BP, iQ, iG, LZ, aD 30, aD 40]) .leaf .leaf)
noncomputable def ah7 : Tr := (.node (.agg #[l7, iQ, iG, LZ, aD 15, aD 25]) .leaf .leaf)
noncomputable def amU : Tr := (.node (KX 54 3) (.node (aN 1 1) .leaf .leaf) (.node (aN 239 2) .leaf .leaf))
noncomputable def ah8 : Tr := (.node (.tuple #[aD 15, aD 2, aD 0]) (.node (.bool false) .leaf .leaf) (.node (aN 317 2) .leaf .leaf))
noncomputable def ah9 : Tr := (.node (aN 1 1) (.node (aN 1 1) .leaf .leaf) (.node (aN 316 2) .leaf .leaf))
noncomputable def ahA : Tr := (.node (aN 44 1) (.node (aN 59 2) .leaf .leaf) (.node (aN 92 2) .leaf .leaf))
noncomputable def Y1 : Tr := (.node (.tuple #[.agg #[aN 254 2, aN 268 3, aN 283 3], aD 0]) .leaf .leaf)
noncomputable def amV : Tr := (.node (aD 0) XW (.node (aN 319 1) .leaf .leaf))
noncomputable def ahB : Tr := (.node (.tuple #[.agg #[aN 689 2, aN 703 3, aN 718 3], aD 0]) .leaf .leaf)
noncomputable def amW : Tr := (.node (aD 0) agY .leaf)
noncomputable def ahC : Tr := (.node (aD 0) agZ .leaf)
noncomputable def ahD : Tr := (.node (.bool false) ah0 .leaf)
noncomputable def ahE : Tr := (.node (.bool false) ah1 .leaf)
noncomputable def ahF : Tr := (.node (.bool false) ah2 .leaf)
noncomputable def ahG : Tr := (.node (aN 30 2) amM (.node (aD 2) .leaf .leaf))
noncomputable def amX : Tr := (.node (.tuple #[mB, aD 0]) akX (.node (.bool false) .leaf .leaf))
noncomputable def ahH : Tr := (.node (.tuple #[aN 25 2, aD 0]) NW (.node (.bool false) .leaf .leaf))
noncomputable def ahI : Tr := (.node (.agg #[oK, oJ, nA, aN 58 1, aD 10, aD 20]) .leaf .leaf)
noncomputable def ahJ : Tr := (.node (.agg #[oK, oJ, nA, aN 66 1, aD 10, aD 20]) .leaf .leaf)
noncomputable def ahK : Tr := (.node (.agg #[oK, oJ, nA, aN 61 1, aD 10, aD 20]) .leaf .leaf)
noncomputable def ahL : Tr := (.node (.tuple #[mC, aD 0]) akV (.node (aN 56 2) .leaf .leaf))
noncomputable def ahM : Tr := (.node (.agg #[l7, iQ, iG, aN 64 2, aD 15, aD 25]) .leaf .leaf)
noncomputable def ahN : Tr := (.node (.tuple #[mC, aD 0]) agH (.node (.bool false) .leaf .leaf))
noncomputable def amY : Tr := (.node (aD 0) ah7 .leaf)
noncomputable def ahO : Tr := (.node (aN 41 2) KY .leaf)
noncomputable def ahP : Tr := (.node (aN 25 2) agT (.node (.bool false) .leaf .leaf))
noncomputable def QT : Tr := (.node (.bool false) Y1 .leaf)
noncomputable def ahQ : Tr := (.node (eF) agF agI)
noncomputable def ahR : Tr := (.node (aN 1 1) agK AM)
noncomputable def amZ : Tr := (.node (aD 0) ahJ .leaf)
noncomputable def ahS : Tr := (.node (.agg #[l7, iQ, iG, aN 46 2, aD 15, aD 25]) (.node (aD 0) .leaf .leaf) .leaf)
noncomputable def ahT : Tr := (.node (aN 12 2) QR AM)
noncomputable def ahU : Tr := (.node (.tuple #[aN 25 2, aD 0]) amP (.node (.bool false) .leaf .leaf))
noncomputable def ahV : Tr := (.node (.tuple #[aN 41 2, aD 0]) agT (.node (.bool false) .leaf .leaf))
noncomputable def an0 : Tr := (.node (aD 0) agY (.node (aN 315 1) .leaf .leaf))
noncomputable def ahW : Tr := (.node (.agg #[l7, iQ, iG, aN 50 2, aD 15, aD 25]) (.node (aN 1 1) .leaf .leaf) .leaf)
noncomputable def an1 : Tr := (.node (.agg #[l7, iQ, iG, aN 53 2, aD 15, aD 25]) (.node (aN 67 1) .leaf .leaf) .leaf)
noncomputable def ahX : Tr := (.node (.agg #[oK, oJ, nA, aN 48 1, aD 10, aD 20]) (.node (aN 62 1) .leaf .leaf) .leaf)
noncomputable def ahY : Tr := (.node (aD 0) amW (.node (aD 15) .leaf .leaf))
noncomputable def Z5 : Tr := (.node (.tuple #[aD 20, aD 0]) ahI .leaf)
noncomputable def Z6 : Tr := (.node (aN 30 2) amS apG)
noncomputable def Z7 : Tr := (.node (.tuple #[aN 25 2, aD 0]) QR AM)
noncomputable def Z8 : Tr := (.node (.agg #[l7, iQ, iG, aN 46 2, aD 15, aD 25]) (.node (aD 0) .leaf .leaf) (.node (.bool true) .leaf .leaf))
noncomputable def Z9 : Tr := (.node (aD 0) ahJ (.node (.bool false) .leaf .leaf))
noncomputable def ajP : Tr := (.node (aD 0) ah7 (.node (aN 318 2) .leaf .leaf))
noncomputable def ZA : Tr := (.node (.tuple #[aD 15, aD 2, aD 0]) ahK .leaf)
noncomputable def ZB : Tr := (.node (aN 25 2) amT AM)
noncomputable def ZC : Tr := (.node (.agg #[l7, iQ, iG, aN 50 2, aD 15, aD 25]) (.node (aN 1 1) .leaf .leaf) (.node (.bool false) .leaf .leaf))
noncomputable def ZD : Tr := (.node (.agg #[l7, iQ, iG, aN 53 2, aD 15, aD 25]) (.node (aN 67 1) .leaf .leaf) (.node (.bool false) .leaf .leaf))
noncomputable def ZE : Tr := (.node (.agg #[oK, oJ, nA, aN 48 1, aD 10, aD 20]) (.node (aN 62 1) .leaf .leaf) (.node (.bool false) .leaf .leaf))
noncomputable def ZF : Tr := (.node (.tuple #[aD 20, aD 0]) ahI (.node (.bool false) .leaf .leaf))
noncomputable def ZG : Tr := (.node (.agg #[oK, oJ, nA, aN 3 1, aD 10, aD 20]) NW (.node (.bool false) .leaf .leaf))
noncomputable def ZH : Tr := (.node (.agg #[l7, iQ, iG, aN 29 2, aD 15, aD 25]) apF (.node (.bool false) .leaf .leaf))
noncomputable def ZI : Tr := (.node (mC) amZ (.node (.bool true) .leaf .leaf))
noncomputable def ZJ : Tr := (.node (.agg #[l7, iQ, iG, aN 11 2, aD 15, aD 25]) apH (.node (aD 20) .leaf .leaf))
noncomputable def ajQ : Tr := (.node (.agg #[aD 0, aD 50]) agQ QS)
noncomputable def ZK : Tr := (.node (.agg #[BP, iQ, iG, LZ, aD 30, aD 40]) akW (.node (aN 41 2) .leaf .leaf))
noncomputable def ZL : Tr := (.node (.tuple #[aD 15, aD 2, aD 0]) ahK (.node (.bool true) .leaf .leaf))
noncomputable def ZM : Tr := (.node (.tuple #[aN 41 2, aD 0]) ahC (.node (.bool false) .leaf .leaf))
noncomputable def ZN : Tr := (.node (aD 0) an1 (.node (.bool false) .leaf .leaf))
noncomputable def ZO : Tr := (.node (.agg #[oK, oJ, nA, aN 27 1, aD 10, aD 20]) amK (.node (.bool false) .leaf .leaf))
noncomputable def ZP : Tr := (.node (.tuple #[aN 41 2, aD 0]) amV AM)
noncomputable def ajR : Tr := (.node (eF) agR ahD)
noncomputable def ZQ : Tr := (.node (.agg #[l7, iQ, iG, aN 7 2, aD 15, aD 25]) agP (.node (.bool false) .leaf .leaf))
noncomputable def ZR : Tr := (.node (mB) ahW (.node (.bool true) .leaf .leaf))
noncomputable def ZS : Tr := (.node (aD 0) an0 apI)
noncomputable def ZT : Tr := (.node (.agg #[l7, iQ, iG, aN 29 2, aD 15, aD 25]) amO AM)
noncomputable def ZU : Tr := (.node (.agg #[BP, iQ, iG, LZ, aD 30, aD 40]) ahM .leaf)
noncomputable def ZV : Tr := (.node (.agg #[oK, oJ, nA, aN 43 1, aD 10, aD 20]) Y0 .leaf)
noncomputable def ZW : Tr := (.node (.agg #[l7, iQ, iG, aN 11 2, aD 15, aD 25]) amN apJ)
noncomputable def ajS : Tr := (.node (eF) Z5 agE)
noncomputable def ZX : Tr := (.node (.tuple #[aN 25 2, aD 0]) amU amQ)
noncomputable def ZY : Tr := (.node (.agg #[oK, oJ, nA, aN 27 1, aD 10, aD 20]) amR AM)
noncomputable def ZZ : Tr := (.node (.tuple #[mB, aD 0]) ahX (.node (aN 55 2) .leaf .leaf))
noncomputable def aa0 : Tr := (.node (.agg #[BP, iQ, iG, LZ, aD 30, aD 40]) ahM (.node (.bool false) .leaf .leaf))
noncomputable def aa1 : Tr := (.node (.agg #[oK, oJ, nA, aN 43 1, aD 10, aD 20]) Y0 (.node (.bool false) .leaf .leaf))
noncomputable def ajT : Tr := (.node (.agg #[aD 0, aD 50, aD 1]) ahS agJ)
noncomputable def aa2 : Tr := (.node (eF) amX ahH)
noncomputable def aa3 : Tr := (.node (.agg #[oK, oJ, nA, aN 9 1, aD 10, aD 20]) amY (.node (.bool false) .leaf .leaf))
noncomputable def aa4 : Tr := (.node (aD 0) ZU (.node (.bool false) .leaf .leaf))
noncomputable def ajU : Tr := (.node (eF) ZV QS)
noncomputable def aa5 : Tr := (.node (.agg #[l7, iQ, iG, aN 5 2, aD 15, aD 25]) ZA (.node (aN 25 2) .leaf .leaf))
noncomputable def aa6 : Tr := (.node (.agg #[oK, oJ, nA, aN 9 1, aD 10, aD 20]) ajP amL)
noncomputable def aa7 : Tr := (.node (aD 0) ajR ahU)
noncomputable def aa8 : Tr := (.node (aD 0) ajS ZI)
noncomputable def aa9 : Tr := (.node (aD 0) ajT ZJ)
noncomputable def aaA : Tr := (.node (aN 129 2) ajQ aa3)
noncomputable def aaB : Tr := (.node (.bool true) ajU ZN)
noncomputable def akY : List Nat := [41, 25, 1]
noncomputable def apK : Tr := (.node (.bool false) (.node (aN 1 1) (.node (aD 0) (.node (aD 0) (.node (eF) (.node (eF) (.node (aN 41 2) .leaf .leaf) .leaf) Y0) (.node (eF) (.node (.tuple #[mB, aD 0]) (.node (aD 20) .leaf .leaf) .leaf) agA)) (.node (aD 0) (.node (eF) (.node (eF) (.node (aN 44 1) .leaf .leaf) .leaf) agA) (.node (eF) (.node (mB) .leaf .leaf) (.node (.agg #[oK, oJ, nA, aN 27 1, aD 10, aD 20]) .leaf .leaf)))) (.node (aD 0) (.node (aD 0) (.node (eF) (.node (eF) (.node (.tuple #[aD 20, aD 0]) .leaf .leaf) .leaf) (.node (mC) .leaf .leaf)) (.node (eF) (.node (.agg #[l7, iQ, iG, aN 5 2, aD 15, aD 25]) .leaf .leaf) (.node (aD 0) .leaf .leaf))) (.node (eF) (.node (eF) (.node (.agg #[aD 0, aD 50, aD 1]) (.node (.agg #[l7, iQ, iG, aN 46 2, aD 15, aD 25]) .leaf .leaf) .leaf) (.node (.agg #[l7, iQ, iG, aN 11 2, aD 15, aD 25]) .leaf .leaf)) (.node (eF) (.node (.tuple #[mC, aD 0]) .leaf .leaf) (.node (aN 30 2) .leaf .leaf))))) (.node (mB) (.node (mC) (.node (aN 41 2) (.node (eF) (.node (eF) (.node (aD 0) .leaf .leaf) .leaf) (.node (.tuple #[mC, aD 0]) .leaf .leaf)) (.node (eF) (.node (.agg #[oK, oJ, nA, aN 3 1, aD 10, aD 20]) (.node (aD 0) .leaf .leaf) .leaf) (.node (aN 25 2) .leaf .leaf))) (.node (eF) (.node (eF) (.node (.agg #[aD 0, aD 50]) (.node (aN 1 1) .leaf .leaf) .leaf) (.node (.agg #[oK, oJ, nA, aN 9 1, aD 10, aD 20]) .leaf .leaf)) (.node (eF) (.node (aD 0) .leaf .leaf) (.node (.agg #[l7, iQ, iG, aN 29 2, aD 15, aD 25]) .leaf .leaf)))) (.node (aN 25 2) (.node (aD 20) (.node (eF) (.node (eF) (.node (.agg #[oK, oJ, nA, aN 43 1, aD 10, aD 20]) .leaf .leaf) .leaf) (.node (aD 0) .leaf .leaf)) (.node (eF) (.node (.tuple #[mB, aD 0]) .leaf .leaf) agB)) (.node (eF) (.node (eF) (.node (aN 1 1) (.node (.tuple #[aD 20, aD 0]) .leaf .leaf) .leaf) (.node (aN 12 2) .leaf .leaf)) (.node (eF) (.node (.agg #[l7, iQ, iG, aN 7 2, aD 15, aD 25]) .leaf .leaf) agB)))))
noncomputable def akZ : Fr := ⟨apK, 287, []⟩
noncomputable def ajV : List (Nat × aX) := [(41, .row 9 [.string ⟨#[98, 114, 97, 107, 101]⟩, nA, mC] true true), (25, .row 9 [nA, iG] true true), (1, .row 61 [aD 0, aD 50, aD 1] true false)]
noncomputable def apL : List (Nat × aX) := ajV
noncomputable def al0 : Heap := ⟨47, 1, apL⟩
noncomputable def ahZ : List Nat := []
noncomputable def an2 : Tr := (.node (.bool false) (.node (aN 1 1) (.node (aD 0) (.node (aD 0) (.node (KX 54 0) (.node (eF) agF (.node (.bool false) .leaf .leaf)) ZK) aa2) (.node (aD 0) (.node (eF) (.node (eF) agR (.node (.bool false) .leaf .leaf)) ahU) (.node (eF) ZR (.node (.agg #[oK, oJ, nA, aN 27 1, aD 10, aD 20]) (.node (aD 0) .leaf .leaf) (.node (.bool false) .leaf .leaf))))) (.node (aD 0) (.node (aD 0) (.node (eF) (.node (eF) Z5 (.node (mB) .leaf .leaf)) ZI) (.node (eF) aa5 (.node (aD 0) (.node (aD 0) .leaf .leaf) (.node (aD 15) .leaf .leaf)))) (.node (aD 2) (.node (eF) (.node (.agg #[aD 0, aD 50, aD 1]) ahS (.node (mC) .leaf .leaf)) ZJ) (.node (eF) ahN (.node (aN 30 2) (.node (aD 0) .leaf .leaf) (.node (aD 2) .leaf .leaf)))))) (.node (mB) (.node (mC) (.node (aN 41 2) (.node (eF) (.node (eF) NW (.node (.bool false) .leaf .leaf)) ahL) (.node (eF) ZG (.node (aN 25 2) (.node (aD 0) .leaf .leaf) (.node (.bool false) .leaf .leaf)))) (.node (aD 15) (.node (eF) (.node (.agg #[aD 0, aD 50]) agQ (.node (.bool false) .leaf .leaf)) aa3) (.node (eF) aa4 (.node (.agg #[l7, iQ, iG, aN 29 2, aD 15, aD 25]) (.node (aD 0) .leaf .leaf) (.node (.bool false) .leaf .leaf))))) (.node (aN 25 2) (.node (aD 20) (.node (eF) (.node (eF) ZV (.node (.bool false) .leaf .leaf)) ZN) (.node (eF) ZZ ah5)) (.node (aD 0) (.node (eF) (.node (aN 1 1) agK (.node (.bool false) .leaf .leaf)) XZ) (.node (eF) ZQ ah5)))))
noncomputable def ai0 : Fr := ⟨an2, 287, []⟩
noncomputable def ai1 : Heap := ⟨68, 1, []⟩
noncomputable def ai2 : List Nat := [129, 92]
noncomputable def an3 : Tr := (.node (.bool false) (.node (aN 1 1) (.node (aD 0) (.node (aD 0) (.node (KX 54 0) ahQ ZK) aa2) (.node (aD 0) aa7 (.node (eF) ZR ZO))) (.node (aD 0) (.node (aD 0) aa8 (.node (eF) aa5 ahY)) (.node (aD 2) aa9 (.node (eF) ahN ahG)))) (.node (mB) (.node (mC) (.node (aN 41 2) (.node (aN 92 2) ah6 ahL) (.node (eF) ZG ahP)) (.node (aD 15) aaA (.node (eF) aa4 ZH))) (.node (aN 25 2) (.node (aD 20) aaB (.node (eF) ZZ ahV)) (.node (aD 0) (.node (eF) ahR XZ) (.node (eF) ZQ ZM)))))
noncomputable def ai3 : Fr := ⟨an3, 287, []⟩
noncomputable def ai4 : List (Nat × aX) := [(129, .row 9 [BO, yT] true true), (92, .row 9 [BO, yT] true true)]
noncomputable def ai5 : List (Nat × aX) := ai4
noncomputable def ai6 : Heap := ⟨158, 1, ai5⟩
noncomputable def ai7 : List Nat := [281, 276, 271, 283, 263, 258, 268, 254, 285, 239, 129, 92]
noncomputable def an4 : Tr := (.node (.bool false) (.node (aN 1 1) (.node (aD 0) (.node (aD 0) (.node (KX 54 0) ahQ (.node (.agg #[BP, iQ, iG, LZ, aD 30, aD 40]) akW ahO)) (.node (aD 0) (.node (.tuple #[mB, aD 0]) akX agU) ahH)) (.node (aD 0) aa7 (.node (eF) (.node (mB) ahW (.node (.bool true) (.node (aD 0) .leaf .leaf) .leaf)) ZO))) (.node (aD 0) (.node (aD 0) aa8 (.node (aD 0) (.node (.agg #[l7, iQ, iG, aN 5 2, aD 15, aD 25]) ZA agX) ahY)) (.node (aD 2) aa9 (.node (eF) (.node (.tuple #[mC, aD 0]) agH ahE) ahG)))) (.node (mB) (.node (mC) (.node (aN 41 2) (.node (aN 92 2) ah6 (.node (.tuple #[mC, aD 0]) akV agG)) (.node (KX 285 0) (.node (.agg #[oK, oJ, nA, aN 3 1, aD 10, aD 20]) NW ahF) ahP)) (.node (aD 15) aaA (.node (eF) (.node (aD 0) ZU QT) ZH))) (.node (aN 25 2) (.node (aD 20) aaB (.node (eF) (.node (.tuple #[mB, aD 0]) ahX agS) ahV)) (.node (aD 0) (.node (aN 239 2) ahR XZ) (.node (eF) (.node (.agg #[l7, iQ, iG, aN 7 2, aD 15, aD 25]) agP QT) ZM)))))
noncomputable def ai8 : Fr := ⟨an4, 287, []⟩
noncomputable def ai9 : List (Nat × aX) := [akM, akN, akO, akP, akQ, akR, akS, akT, akU, (239, .row 9 [NV, QN] true true)]
noncomputable def an5 : List (Nat × aX) := ai9 ++ ai5
noncomputable def aiA : Heap := ⟨286, 1, an5⟩
noncomputable def aiB : List Nat := [281, 276, 271, 283, 263, 258, 268, 254, 285]
noncomputable def an6 : Tr := (.node (.bool false) (.node (aN 1 1) (.node (aD 0) (.node (aD 0) (.node (KX 54 0) (.node (eF) agV agI) (.node (.agg #[BP, iQ, iG, LZ, aD 30, aD 40]) agL ahO)) (.node (aD 0) (.node (.tuple #[mB, aD 0]) agO agU) Z7)) (.node (aD 0) (.node (aD 0) (.node (eF) ahA ahD) ZX) (.node (aD 0) (.node (mB) ZC (.node (.bool true) (.node (aD 0) .leaf .leaf) .leaf)) ZY))) (.node (aD 0) (.node (aD 0) (.node (aD 0) (.node (eF) ZF agE) (.node (mC) Z9 (.node (.bool true) XY .leaf))) (.node (aD 0) (.node (.agg #[l7, iQ, iG, aN 5 2, aD 15, aD 25]) ZL agX) ZS)) (.node (aD 2) (.node (aD 0) (.node (.agg #[aD 0, aD 50, aD 1]) Z8 agJ) ZW) (.node (eF) (.node (.tuple #[mC, aD 0]) ah4 ahE) Z6)))) (.node (mB) (.node (mC) (.node (aN 41 2) (.node (aN 92 2) (.node (eF) agM (.node (.bool false) (.node (.bool true) .leaf .leaf) .leaf)) (.node (.tuple #[mC, aD 0]) agN agG)) (.node (KX 285 0) (.node (.agg #[oK, oJ, nA, aN 3 1, aD 10, aD 20]) QR ahF) ZB)) (.node (aD 15) (.node (aN 129 2) (.node (.agg #[aD 0, aD 50]) ah9 QS) aa6) (.node (eF) (.node (aD 0) aa0 QT) ZT))) (.node (aN 25 2) (.node (aD 20) (.node (.bool true) (.node (eF) aa1 QS) (.node (aD 0) ZD (.node (.bool false) ah3 .leaf))) (.node (aN 315 1) (.node (.tuple #[mB, aD 0]) ZE agS) ZP)) (.node (aD 0) (.node (aN 239 2) (.node (aN 1 1) agW AM) ahT) (.node (eF) (.node (.agg #[l7, iQ, iG, aN 7 2, aD 15, aD 25]) ah8 QT) (.node (.tuple #[aN 41 2, aD 0]) ahC AM))))))
noncomputable def aiC : Fr := ⟨an6, 287, []⟩
noncomputable def aiD : List (Nat × aX) := [akM, akN, akO, akP, akQ, akR, akS, akT, akU]
noncomputable def an7 : List (Nat × aX) := aiD
noncomputable def aiE : Heap := ⟨320, 1, an7⟩
noncomputable def aiF : List Nat := [716, 711, 706, 718, 698, 693, 703, 689, 722, 594, 440]
noncomputable def an8 : Tr := (.node (.bool false) (.node (aN 1 1) (.node (aD 0) (.node (aD 0) (.node (KX 54 0) (.node (aD 0) agV (.node (.bool false) (.node (.tuple #[.bool true, aD 0]) .leaf .leaf) KY)) (.node (.agg #[BP, iQ, iG, LZ, aD 30, aD 40]) agL (.node (aN 41 2) KY (.node (.agg #[aN 648 2, aN 669 3, aN 684 3]) .leaf .leaf)))) (.node (aD 0) (.node (.tuple #[mB, aD 0]) agO (.node (.bool false) QQ (.node (.agg #[aN 482 2, aN 503 3, aN 518 3]) .leaf .leaf))) Z7)) (.node (aD 0) (.node (aD 0) (.node (eF) ahA (.node (.bool false) ah0 (.node (aN 440 1) .leaf .leaf))) ZX) (.node (aD 0) (.node (mB) ZC (.node (.bool true) (.node (aD 0) .leaf .leaf) (.node (aD 0) .leaf .leaf))) ZY))) (.node (aD 0) (.node (aD 0) (.node (aD 0) (.node (aD 0) ZF (.node (mB) (.node (aD 0) .leaf .leaf) (.node (.agg #[aN 373 2, aN 394 3, aN 409 3]) .leaf .leaf))) (.node (mC) Z9 (.node (.bool true) XY (.node (.agg #[aN 689 2, aN 703 3, aN 718 3]) .leaf .leaf)))) (.node (aD 0) (.node (.agg #[l7, iQ, iG, aN 5 2, aD 15, aD 25]) ZL (.node (aN 25 2) QQ agC)) ZS)) (.node (aD 2) (.node (aD 0) (.node (.agg #[aD 0, aD 50, aD 1]) Z8 (.node (mC) (.node (aN 129 2) .leaf .leaf) agC)) ZW) (.node (aD 0) (.node (.tuple #[mC, aD 0]) ah4 (.node (.bool false) ah1 KY)) Z6)))) (.node (mB) (.node (mC) (.node (aN 41 2) (.node (aN 92 2) (.node (KX 722 0) agM (.node (.bool false) (.node (.bool true) .leaf .leaf) (.node (.agg #[aN 328 2, aN 349 3, aN 364 3]) .leaf .leaf))) (.node (.tuple #[mC, aD 0]) agN (.node (aN 56 2) (.node (aD 0) .leaf .leaf) ahB))) (.node (KX 285 0) (.node (.agg #[oK, oJ, nA, aN 3 1, aD 10, aD 20]) QR (.node (.bool false) ah2 (.node (.agg #[aN 527 2, aN 548 3, aN 563 3]) .leaf .leaf))) ZB)) (.node (aD 15) (.node (aN 129 2) (.node (.agg #[aD 0, aD 50]) ah9 (.node (.bool false) XX (.node (aD 0) .leaf .leaf))) aa6) (.node (aN 440 1) (.node (aD 0) aa0 (.node (.bool false) Y1 ahB)) ZT))) (.node (aN 25 2) (.node (aD 20) (.node (.bool true) (.node (eF) aa1 (.node (.bool false) XX agD)) (.node (aD 0) ZD (.node (.bool false) ah3 (.node (aD 0) .leaf .leaf)))) (.node (aN 315 1) (.node (.tuple #[mB, aD 0]) ZE (.node (aN 55 2) (.node (aN 239 2) .leaf .leaf) (.node (aN 594 2) .leaf .leaf))) ZP)) (.node (aD 0) (.node (aN 239 2) (.node (aN 1 1) agW (.node (.bool false) (.node (aD 0) .leaf .leaf) KY)) ahT) (.node (aN 594 2) (.node (.agg #[l7, iQ, iG, aN 7 2, aD 15, aD 25]) ah8 (.node (.bool false) Y1 (.node (.agg #[aN 603 2, aN 624 3, aN 639 3]) .leaf .leaf))) (.node (.tuple #[aN 41 2, aD 0]) (.node (aD 0) agZ agD) AM))))))
noncomputable def aiG : Fr := ⟨an8, 287, []⟩
noncomputable def aiH : List (Nat × aX) := [(722, .row 36 [aN 689 2, aN 703 3, aN 718 3] true false), (718, .row 102 [NV, .bool false, aN 706 2, QK, .bool true, aN 711 2, QN, .bool false, aN 716 2] true true), (716, .row 9 [NV, QK] true true), (711, .row 9 [QP, yT] true true), (706, .row 9 [BO, yT] true true), (703, .row 101 [BO, aN 693 1, QP, aN 698 2, yT, LZ] true true), (698, .row 98 [QM, aD 1, NU, aD 1] true true), (693, .row 98 [NU, aD 3] true true), (689, .row 98 [NU, aD 3, QM, aD 1] true false), (594, .row 9 [NV, QN] true true), (440, .row 9 [BO] true true)]
noncomputable def an9 : List (Nat × aX) := aiH
noncomputable def aiI : Heap := ⟨723, 1, an9⟩
end Go.Proofs
namespace Go.Proofs
open Go.Fs
theorem apM : (n5 Tryz.prog OB 7 100000 (BQ) ⟨iS .leaf 0 [], Tryz.f6.ntmps, []⟩ (yS 1 tzG)).map (fun x => (x.1, x.2.1, x.2.2.1, LX 1 akY x.2.2.2)) = some (99993, vJ 7 BQ, akZ, al0) := by kernel_rfl
end Go.Proofs
namespace Go.Proofs
open Go.Fs
theorem anA : (n5 Tryz.prog OB 4 99993 (vJ 7 BQ) akZ al0).map (fun x => (x.1, x.2.1, x.2.2.1, LX 1 ahZ x.2.2.2)) = some (99989, vJ 11 BQ, ai0, ai1) := by kernel_rfl
end Go.Proofs
namespace Go.Proofs
open Go.Fs
theorem anB : (n5 Tryz.prog OB 3 99989 (vJ 11 BQ) ai0 ai1).map (fun x => (x.1, x.2.1, x.2.2.1, LX 1 ai2 x.2.2.2)) = some (99986, vJ 14 BQ, ai3, ai6) := by kernel_rfl
end Go.Proofs
namespace Go.Proofs
open Go.Fs
theorem anC : (n5 Tryz.prog OB 2 99986 (vJ 14 BQ) ai3 ai6).map (fun x => (x.1, x.2.1, x.2.2.1, LX 1 ai7 x.2.2.2)) = some (99984, vJ 16 BQ, ai8, aiA) := by kernel_rfl
end Go.Proofs
namespace Go.Proofs
open Go.Fs
theorem anD : (n5 Tryz.prog OB 2 99984 (vJ 16 BQ) ai8 aiA).map (fun x => (x.1, x.2.1, x.2.2.1, LX 1 aiB x.2.2.2)) = some (99982, vJ 18 BQ, aiC, aiE) := by kernel_rfl
end Go.Proofs
namespace Go.Proofs
open Go.Fs
theorem anE : (n5 Tryz.prog OB 3 99982 (vJ 18 BQ) aiC aiE).map (fun x => (x.1, x.2.1, x.2.2.1, LX 1 aiF x.2.2.2)) = some (99979, vJ 21 BQ, aiG, aiI) := by kernel_rfl
end Go.Proofs
namespace Go.Proofs
open Go.Fs
theorem apN : (yR Tryz.prog OB 99979 none (vJ 21 BQ) aiG aiI).bind (ag4 Tryz.prog Tryz.f6 (yS 1 tzG)) = some (.bool true) := by kernel_rfl
end Go.Proofs
namespace Go.Proofs
open Go.Fs
noncomputable def al1 : List (Nat × List Nat) := [(7, akY), (4, ahZ), (3, ai2), (2, ai7), (2, aiB), (3, aiF)]
theorem anF : (nH Tryz.prog (fsG Tryz.prog OB 1 100000 al1) 6 [] (yS 1 tzG)).map (·.1) = some (.bool true) := by
  rw [XU (c := BQ) Tryz.func6 rfl (by rfl)]; rw [ajM (by kernel_rfl) (by kernel_rfl)]; unfold al1; show (DG Tryz.prog OB 1 _ 100000 BQ ⟨iS .leaf 0 [], Tryz.f6.ntmps, []⟩ (yS 1 tzG)).bind _ = _; rw [sF apM]; rw [sF anA]; rw [sF anB]; rw [sF anC]; rw [sF anD]; rw [sF anE]; exact apN
end Go.Proofs
