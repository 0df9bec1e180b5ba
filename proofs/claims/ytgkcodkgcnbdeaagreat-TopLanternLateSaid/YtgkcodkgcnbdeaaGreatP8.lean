/- Parts of the proof: an evaluator of the model, what it is sound for, and contracts of functions. No condition. -/
import Derived.Test.YtgkcodkgcnbdeaaGreatP7
import Derived.Test.YtgkcodkgcnbdeaaGreatP6
import Derived.Test.YtgkcodkgcnbdeaaGreatP5
import Derived.Test.YtgkcodkgcnbdeaaGreatP3
import Derived.Test.YtgkcodkgcnbdeaaGreatP2
import Derived.ChangeArms
import Derived.Carry
import Derived.RowKit
import Derived.OpenShut
set_option linter.all false
namespace Go.Proofs
open Go.Fs Ieee
theorem aj7 : fL Tryz.prog 37 dA := dW (by kernel_rfl)
theorem an3 : lI Tryz.prog 44 (.int .i64) := gR (z := .int .i64 0) (by kernel_rfl) rfl rfl
def xR (p : Int -> Bool) : List (Int × Int) -> Int × Int
  | [] => (0, 7)
  | x :: r => if p x.2 then (x.2, 0) else xR p r
def IS (xs : List Int) : Nat -> List (Int × Int)
  | 0 => []
  | i + 1 => ((i : Int), xs.getD i 0) :: IS xs i
def rR (p : Int -> Bool) (xs : List Int) : Nat -> Int
  | 0 => -1
  | i + 1 => if p (xs.getD i 0) = true then max (rR p xs i) (xs.getD i 0) else rR p xs i
def rB (xs : List Int) : Nat -> List Int
  | 0 => []
  | i + 1 => if xs.getD i 0 ∈ rB xs i then rB xs i else rB xs i ++ [xs.getD i 0]
theorem YF {xs : List Int} {i : Nat} : rB xs (i + 1) = if xs.getD i 0 ∈ rB xs i then rB xs i else rB xs i ++ [xs.getD i 0] := rfl
theorem M4 {xs : List Int} {x : Int} : ∀ {i : Nat}, x ∈ rB xs i ↔ ∃ j, j < i /\ xs.getD j 0 = x
  | 0 => by simp [rB]
  | i + 1 => by
    have ih := M4 (xs := xs) (x := x) (i := i)
    have key : x ∈ rB xs (i + 1) ↔ x ∈ rB xs i \/ xs.getD i 0 = x := by
      rw [YF]; by_cases h : xs.getD i 0 ∈ rB xs i
      . rw [if_pos h]; exact ⟨.inl, fun hh => hh.elim id fun e => e ▸ h⟩
      rw [if_neg h, List.mem_append, List.mem_singleton]; exact or_congr Iff.rfl eq_comm
    rw [key, ih]; constructor
    . rintro (⟨j, h1, h2⟩ | h)
      . exact ⟨j, by omega, h2⟩
      exact ⟨i, by omega, h⟩
    rintro ⟨j, h1, h2⟩; rcases Nat.lt_succ_iff_lt_or_eq.1 h1 with h | h
    . exact .inl ⟨j, h, h2⟩
    subst h; exact .inr h2
theorem J7 {xs : List Int} (hs : ∀ i, i + 1 < xs.length -> xs.getD i 0 <= xs.getD (i + 1) 0) {j : Nat} : ∀ {i : Nat}, j <= i -> i < xs.length -> xs.getD j 0 <= xs.getD i 0
  | 0, h, _ => by rw [show j = 0 by omega]; exact Int.le_refl _
  | i + 1, h, hi => by
    rcases Nat.lt_or_eq_of_le h with h1 | h1
    . exact Int.le_trans (J7 hs (by omega) (by omega)) (hs i hi)
    rw [h1]; exact Int.le_refl _
theorem US {xs : List Int} (hs : ∀ i, i + 1 < xs.length -> xs.getD i 0 <= xs.getD (i + 1) 0) : ∀ {i : Nat}, i <= xs.length -> fJ 0 xs i = rB xs i
  | 0, _ => rfl
  | i + 1, hi => by
    have e : (0 < i /\ xs.getD i 0 = xs.getD (i - 1) 0) ↔ xs.getD i 0 ∈ rB xs i := by
      rw [M4]; constructor
      . rintro ⟨h0, h⟩; exact ⟨i - 1, by omega, h.symm⟩
      rintro ⟨j, h1, h2⟩; have h3 := J7 hs (show j <= i - 1 by omega) (by omega); have h4 := J7 hs (show i - 1 <= i by omega) (by omega); exact ⟨by omega, by omega⟩
    unfold fJ rB; rw [US hs (by omega)]; by_cases h : xs.getD i 0 ∈ rB xs i
    . rw [if_pos (e.2 h), if_pos h]
    rw [if_neg (fun hh => h (e.1 hh)), if_neg h]
theorem M5 {xs : List Int} : ∀ {i : Nat}, i <= xs.length -> (fJ 0 xs i).Sublist (xs.take i)
  | 0, _ => by simp [fJ]
  | i + 1, hi => by
    have ih := M5 (xs := xs) (i := i) (by omega); rw [List.take_succ_eq_append_getElem (by omega)]; unfold fJ; split
    . exact ih.trans (List.sublist_append_left _ _)
    rw [eC _ _ (by omega)]; exact ih.append (List.Sublist.refl _)
theorem ac0 {xs : List Int} (hs : ∀ i, i + 1 < xs.length -> xs.getD i 0 <= xs.getD (i + 1) 0) : xs.Pairwise (· <= ·) := List.pairwise_iff_getElem.2 fun i j hi hj h => by
  have := J7 hs (Nat.le_of_lt h) hj
  rwa [eC _ _ hi, eC _ _ hj] at this
theorem UT {p : Int -> Bool} {xs : List Int} (hs : xs.Pairwise (· <= ·)) (h0 : ∀ x ∈ xs, 0 <= x) : ∀ {i : Nat}, i <= xs.length -> (rR p xs i = -1 /\ xR p (IS xs i) = (0, 7)) \/ (0 <= rR p xs i /\ xR p (IS xs i) = (rR p xs i, 0) /\ ∃ j, j < i /\ rR p xs i = xs.getD j 0)
  | 0, _ => .inl ⟨rfl, rfl⟩
  | i + 1, hi => by
    have ih := UT (p := p) hs h0 (i := i) (by omega)
    have hx0 : 0 <= xs.getD i 0 := by rw [eC _ _ hi]; exact h0 _ (List.getElem_mem _)
    unfold rR IS xR; by_cases h : p (xs.getD i 0) = true
    . have hm : max (rR p xs i) (xs.getD i 0) = xs.getD i 0 := by
        rcases ih with ⟨e, _⟩ | ⟨_, _, j, h1, h2⟩
        . rw [e]; omega
        have h3 := List.pairwise_iff_getElem.1 hs j i (by omega) hi h1; rw [<- eC _ 0 (by omega), <- eC _ 0 hi] at h3; omega
      simp only [if_pos h, hm]; exact .inr ⟨hx0, by trivial, i, by omega, by trivial⟩
    simp only [if_neg h]; rcases ih with h1 | ⟨h1, h2, j, h3, h4⟩
    . exact .inl h1
    exact .inr ⟨h1, h2, j, by omega, h4⟩
theorem aa2 {d : bM} {l : List Pc} (hz : ∀ k, k < l.length -> gN d l k = 0) : ∀ i, i + 1 < (D1 l).length -> (D1 l).getD i 0 <= (D1 l).getD (i + 1) 0 := fun i hi => by
  have hl : (D1 l).length = l.length := by simp [D1]
  have h1 := UJ (hz (i + 1) (by omega))
  have e : ∀ k, k < l.length -> (D1 l).getD k 0 = (b8 l k).1 := fun k hk => by rw [eC _ _ (by omega), <- dK hk]; simp [D1]
  rw [e i (by omega), e (i + 1) (by omega)]; unfold fQ at h1
  have e3 : 0 <= aO [] := by decide
  simp only [zF, e3, and_true] at h1; unfold cY at h1; simp only at h1; omega
def pS (d : bM) (l : List Pc) (now r : Int) : Bool := decide (cK d l r = []) && decide (r <= now)
def P8 (d : bM) (l : List Pc) (now : Int) : Int × Int := xR (pS d l now) (IS (lC l) (lC l).length)
def kR (d : bM) (l : List Pc) (now : Int) : Int × Int := if fX d l now ≠ 0 then (0, fX d l now) else P8 d l now
def BS (d : bM) (l : List Pc) (now : Int) : Int := rR (pS d l now) (lC l) (lC l).length
theorem ac1 {d : bM} {l : List Pc} {now : Int} (hs : aR d l = 0) : P8 d l now = if BS d l now < 0 then (0, 7) else (BS d l now, 0) := by
  obtain ⟨_, _, hz⟩ := cG hs; have h1 := ac0 (aa2 hz)
  have h2 : (lC l).Pairwise (· <= ·) := by
    have := M5 (xs := D1 l) (Nat.le_refl _); rw [List.take_length] at this; exact h1.sublist this
  have h3 : ∀ x ∈ lC l, 0 <= x := fun x hx => by
    have h4 := (M5 (xs := D1 l) (Nat.le_refl _)).subset hx; rw [List.take_length] at h4; obtain ⟨p, hp, rfl⟩ := List.mem_map.1 h4; obtain ⟨i, hi, rfl⟩ := List.getElem_of_mem hp; have h5 := (GR (mT (hz i hi))).1; rw [dK hi]; unfold kQ at h5; rw [bK] at h5; exact (fW.1 (h5 _ List.mem_cons_self)).1
  unfold P8 BS; rcases UT (p := pS d l now) h2 h3 (Nat.le_refl _) with ⟨e1, e2⟩ | ⟨e1, e2, _⟩
  . rw [e1, e2] <;> rfl
  rw [e2, if_neg (by omega)]
theorem ac2 {d : bM} {l : List Pc} (hs : aR d l = 0) : lC l = rB (D1 l) (D1 l).length := US (aa2 (cG hs).2.2) (Nat.le_refl _)
theorem ag1 {xs : List Int} {k : Nat} (h : 0 < k) (hk : k <= xs.length) {i : Int} (hi : i = (k : Int) - 1) (h' : i.toNat < xs.length) : (i, xs[i.toNat]) :: IS xs (k - 1) = IS xs k := by
  obtain ⟨q, rfl⟩ : ∃ q, k = q + 1 := ⟨k - 1, by omega⟩; subst hi; rw [IS, eC _ _ (show q < xs.length by omega)]; simp
theorem M6 {p : Int -> Bool} {x : Int × Int} {r : List (Int × Int)} (h : p x.2 = false) : xR p (x :: r) = xR p r := by rw [xR, h] <;> rfl
theorem ac3 {p : Int -> Bool} {x : Int × Int} {r : List (Int × Int)} (h : p x.2 = true) : xR p (x :: r) = (x.2, 0) := by rw [xR, h] <;> rfl
theorem M7 {d : bM} {l : List Pc} : (mU d l).2 = aR d l := by
  unfold mU; split
  . rfl
  rename_i h; exact (by simpa using h : aR d l = 0).symm
theorem ag2 {d : bM} {l : List Pc} (h : aR d l = 0) : (mU d l).1 = lC l := by rw [mU, if_neg (by simpa using h)]
def pT (d : bM) (l : List Pc) (n : Int) : Int × Sl × Int := if fX d l n ≠ 0 then (0, z3, fX d l n) else (((cK d l n).length : Nat), (cK d l n).headD z3, 0)
theorem YG {xs : List Int} (hn : xs.length < 1000000) : CQ Tryz.prog OA 62 [] [.p fK xs] (fun x : Int × Int => [I x.1, I x.2]) (IS xs xs.length) := by
  refine CQ.enter Tryz.func62 rfl rfl (fun _ => rfl) fun yv II EE γ hy hI => ?_; show U _ _ _ _ _ [(0, .raw yv), (1, .p fK xs)] γ _; refine U.seq (U.text ?_); refine J.r (.ld HS) ?_; refine J.r (.len dG) ?_; refine J.c (.sub rfl rfl (by omega)) (J.c (.assign rfl) ?_); refine J.go (U.block ?_); refine U.aW [(0, .raw yv), (1, .p fK xs), (3, I (((xs.length : Nat) : Int) - 1))] ⟨rfl, rfl, rfl, trivial⟩ ?_; refine U.loop (I := fun kk ff ss => ∃ (k : Nat), kk = k /\ ff = [(0, .raw yv), (1, .p fK xs), (3, I (((k : Nat) : Int) - 1))] /\ (k <= xs.length) /\ II (IS xs k) ss) ?_ _ _ _ ⟨xs.length, rfl, rfl, (by omega), (by exact hI)⟩; rintro kk ff ss ⟨k, iI, rfl, hk, hI⟩; refine U.seq (U.seq (U.text ?_)); refine J.c (.move rfl) (J.c (.geq) (J.go ?_)); refine U.aN rfl (fun c1 => ?_) (fun c1 => ?_)
  . have iI : 0 < k := by omega
    refine U.skip (U.seq (U.block (U.seq (U.text ?_)))); refine J.c (.move rfl) (J.c (.move rfl) ?_); refine J.r (.ld HS) ?_; refine J.c (.move rfl) (J.c (.WO (k := (((k : Nat) : Int) - 1)) rfl rfl dG (by omega) (by omega)) ?_); refine J.r (.ld bP) ?_; refine J.ZS rfl rfl (hy ((((k : Nat) : Int) - 1), xs[Int.toNat (((k : Nat) : Int) - 1)]) (IS xs (k - 1)) _ (by rw [ag1 iI hk rfl]; exact hI)) ?_; rintro _ ss (⟨rfl, hI⟩ | ⟨rfl, hE⟩)
    . refine J.c (.not) (J.go ?_); refine U.wR rfl ?_; refine U.skip (U.text ?_); refine J.c (.move rfl) (J.c (.sub rfl rfl (by omega)) (J.c (.assign rfl) ?_)); refine J.nil ?_; refine ⟨_, [(0, .raw yv), (1, .p fK xs), (3, I ((((k - 1) : Nat) : Int) - 1))], ?_, ⟨rfl, rfl, iK rfl (by omega), trivial⟩, (k - 1), rfl, rfl, (by omega), (by exact hI)⟩; omega
    refine J.c (.not) (J.go ?_); refine U.rI rfl ?_; refine U.ret ?_; exact ⟨rfl, .inr hE⟩
  refine U.exit ?_; exact ⟨rfl, .inl (by rw [show k = 0 by omega] at hI; exact hI)⟩
theorem ac4 {xs : List Int} : VF Tryz.prog OA 31 [.v fK xs] (.mF 62 [] [.p fK xs]) := by
  refine VF.enter Tryz.func31 rfl (fun _ _ => rfl) rfl ?_; show U _ _ _ _ _ [(0, .v fK xs)] [] _; refine U.seq (U.text ?_); refine J.new (.box) ?_; refine J.c (.assign rfl) ?_; refine J.go (U.seq (U.text ?_)); refine J.c (.func) (J.c (.assign rfl) (J.go ?_)); refine U.ret ?_; exact aS.one rfl bO rfl
theorem RF {d : Int × Int × Int × (List (ByteArray × Int))} {l : List (Int × ByteArray × Int × Int × (List Nat))} {n : Int} (hl : l.length < 100000) (hr : ∀ r ∈ l, r.2.2.2.2.length < 100000) : VF Tryz.prog OA 8 [.v dY d, .v dA l, I n] (.kL [I ((pT d l n).1), .v BG ((pT d l n).2.1), I ((pT d l n).2.2)]) := by
  refine VF.enter Tryz.func8 rfl (fun _ _ => rfl) rfl ?_; show U _ _ _ _ _ [(0, .v dY d), (1, .v dA l), (2, I n)] [] _; refine U.seq (U.text ?_); refine J.new (.box) ?_; refine J.c (.assign rfl) ?_; refine J.cell (.alloc F0) ?_; intro fV; refine J.c (.assign rfl) ?_; refine J.go (U.seq (U.seq (U.text ?_))); refine J.r (.ld lZ) ?_; refine J.c (.move rfl) ?_; refine J.call rfl rfl (VF.call (tH hl hr)) ?_; refine J.c (.move rfl) ?_; refine J.call rfl rfl (VF.call (AF )) ?_; refine J.new (.lit [aR d l, aM n 0 100000] k9) ?_; refine J.call rfl rfl (VF.call (fO (by first | assumption | omega | simp))) ?_; refine J.c (.assign rfl) ?_; refine J.go (U.seq (U.text ?_)); refine J.c (.move rfl) (J.c (.neq) (J.go ?_)); refine U.aN rfl (fun c2 => ?_) (fun c2 => ?_)
  . have hf : fX d l n ≠ 0 := c2; refine U.seq (U.text ?_); refine J.c (.build (ByteArray.empty, 0, 0) P4) (J.c (.move rfl) (J.c (.assign rfl) ?_)); refine J.iJ (cs' := [St ByteArray.empty, I 0, I 0]) kD .v ?_; refine J.c (.assign rfl) (J.go ?_); refine U.ret ?_; exact aS.three rfl bO (.cell (x := (ByteArray.empty, 0, 0)) rfl m0 kD .refl) bO (dF (by rw [pT, if_pos hf])) (eZ (by rw [pT, if_pos hf]; rfl)) (dF (by rw [pT, if_pos hf] <;> rfl))
  have hf : fX d l n = 0 := by simpa [fX] using c2
  refine U.skip (U.seq (U.text ?_)); refine J.r (.ld lZ) ?_; refine J.c (.move rfl) (J.c (.move rfl) ?_); refine J.call rfl rfl (VF.call (P7 (x8 hf).1 hl)) ?_; refine J.c (.move rfl) (J.c (.extract) (J.c (.extract) ?_)); refine J.cell (.alloc F0) ?_; intro pP; refine J.c (.assign rfl) ?_; refine J.iJ (cs' := [St (((cK d l n).headD z3).1), I (((cK d l n).headD z3).2.1), I (((cK d l n).headD z3).2.2)]) kD .v ?_; refine J.shut [(11, .p BG ((cK d l n).headD z3))] (.cons rfl (.var m0 .refl) .nil) ?_; refine J.go (U.seq (U.drawn ?_)); refine VD.c (.move rfl) ?_; refine VD.r [] (.ld kD) (.inl rfl) ?_; refine VD.c (.assign rfl) ?_; refine VD.rJ (cA.u7 (k := 0) kD .v (Nat.le_of_ble_eq_true rfl) (.inr ⟨rfl, rfl⟩) rfl rfl) ?_; rintro _ _ tl3 ⟨rfl, rfl⟩; refine VD.c (.assign rfl) (VD.go ?_); refine U.ret ?_; exact aS.three rfl bO (.cell (x := (cK d l n).headD z3) rfl m0 kD .refl) bO (dF (by rw [pT, if_neg (by simpa using hf)])) (eZ (by rw [pT, if_neg (by simpa using hf)])) (dF (by rw [pT, if_neg (by simpa using hf)]))
theorem UU {d : Int × Int × Int × (List (ByteArray × Int))} {l : List (Int × ByteArray × Int × Int × (List Nat))} {now : Int} (hl : l.length < 100000) (hr : ∀ r ∈ l, r.2.2.2.2.length < 100000) : VF Tryz.prog OA 11 [.v dY d, .v dA l, I now] (.kL [I ((kR d l now).1), I ((kR d l now).2)]) := by
  refine VF.enter Tryz.func11 rfl (fun _ _ => rfl) rfl ?_; show U _ _ _ _ _ [(0, .v dY d), (1, .v dA l), (2, I now)] [] _; refine U.seq (U.text ?_); refine J.new (.box) ?_; refine J.new (.box) ?_; refine J.new (.box) ?_; refine J.cell (.alloc zt3) ?_; intro IP; refine J.cell (.alloc an3) ?_; intro IQ; refine J.go (U.seq (U.text ?_)); refine J.r (.ld lZ) ?_; refine J.r (.ld aj7) ?_; refine J.call rfl rfl (VF.call (abZ hl hr)) ?_; refine J.c (.move rfl) (J.c (.extract) (J.c (.extract) (J.c (.assign rfl) ?_))); refine J.c (.assign rfl) ?_; refine J.go (U.seq (U.seq (U.text ?_))); refine J.c (.move rfl) ?_; refine J.r (.ld bP) ?_; refine J.call rfl rfl (VF.call (AF )) ?_; refine J.new (.lit [(mU d l).2, aM now 0 100000] k9) ?_; refine J.call rfl rfl (VF.call (fO (by first | assumption | omega | simp))) ?_; refine J.c (.assign rfl) ?_; refine J.go (U.seq (U.text ?_)); refine J.c (.move rfl) (J.c (.neq) (J.go ?_)); refine U.aN rfl (fun c3 => ?_) (fun c3 => ?_)
  . have hf : fX d l now ≠ 0 := by rw [fX, <- M7]; exact c3
    refine U.seq (U.text ?_); refine J.c (.move rfl) ?_; refine J.perm l9 ?_; refine J.iJ (cs' := [I (0 : Int)]) bP .v ?_; refine J.perm l9 ?_; refine J.iJ (cs' := [I (aO [(mU d l).2, aM now 0 100000])]) LP .v ?_; refine J.go ?_; refine U.ret ?_; exact aS.two rfl (.cell (x := (0 : Int)) rfl m1 bP .refl) (.cell (x := aO [(mU d l).2, aM now 0 100000]) rfl m0 LP .refl) (dF (by rw [kR, if_pos hf])) (dF (by rw [kR, if_pos hf]; rw [fX, M7]))
  have hf : fX d l now = 0 := by rw [fX, <- M7]; simpa using c3
  have bR := (x8 hf).1; have hru := ag2 bR; have CJ : (lC l).length < 100000 := Nat.lt_of_le_of_lt A8 (by rw [D1, List.length_map]; exact hl)
  have hle : P8 d l now = xR (pS d l now) (IS (mU d l).1 (mU d l).1.length) := by rw [hru] <;> rfl
  refine U.skip (U.seq (U.seq (U.text ?_))); refine J.c (.move rfl) ?_; refine J.call rfl rfl (VF.call (ac4 )) ?_; refine J.go (U.block ?_); refine U.aW [(3, .p dY d), (4, .p dA l), (5, .p (.int .i64) now), (6, .raw IP), (7, .raw IQ), (30, .mF 62 [] [.p fK ((mU d l).1)])] ⟨rfl, rfl, rfl, rfl, rfl, rfl, trivial⟩ ?_; refine U.rangeFunc rfl (YG (by rw [hru]; omega)) (fun _ => rfl) rfl rfl (fun rest ss => ss = [(IQ, .var [I (0 : Int)]), (IP, .var [I (0 : Int)])] /\ (P8 d l now = xR (pS d l now) rest)) (fun ee ss => (ee = .ret /\ ∃ (y : Int × Int), ss = [(IQ, .var [I (0 : Int)]), (IP, .var [I y.2])] /\ (P8 d l now = (y.2, 0)))) ⟨rfl, (by exact hle)⟩ ?_ ?_ ?_
  . rintro jj x rest _ ⟨rfl, hq⟩; show U _ _ _ _ _ [(32, I x.2), (31, I x.1), (3, .p dY d), (4, .p dA l), (5, .p (.int .i64) now), (6, .raw IP), (7, .raw IQ), (30, .mF 62 [] [.p fK ((mU d l).1)])] [(IQ, .var [I (0 : Int)]), (IP, .var [I (0 : Int)])] _; refine U.text ?_; refine J.c (.assign rfl) ?_; refine J.nil ?_; refine ⟨rfl, ?_⟩; refine U.block (U.seq (U.seq (U.text ?_))); refine J.c (.move rfl) ?_; refine J.r (.ld bP) ?_; refine J.c (.gtr) (J.go ?_); refine U.aN rfl (fun c7 => ?_) (fun c7 => ?_)
    . have M3 : pS d l now x.2 = false := by rw [pS, decide_eq_false (show ¬ x.2 <= now by omega), Bool.and_false]
      refine U.exit ?_; exact .inl ⟨rfl, rfl, (by rw [hq, M6 M3])⟩
    refine U.skip (U.seq (U.text ?_)); refine J.r (.ld lZ) ?_; refine J.r (.ld aj7) ?_; refine J.c (.move rfl) ?_; refine J.call rfl rfl (VF.call (P7 bR hl)) ?_; refine J.c (.move rfl) (J.c (.extract) (J.c (.extract) ?_)); refine J.cell (.alloc F0) ?_; intro ww6; refine J.c (.assign rfl) ?_; refine J.iJ (cs' := [St (((cK d l x.2).headD z3).1), I (((cK d l x.2).headD z3).2.1), I (((cK d l x.2).headD z3).2.2)]) kD .v ?_; refine J.shut [(14, .p BG ((cK d l x.2).headD z3))] (.cons rfl (.var m0 .refl) .nil) ?_; refine J.go (U.seq ?_); refine U.aW [(6, .raw IP), (7, .raw IQ), (12, I x.2), (13, I ((cK d l x.2).length : Nat))] ⟨rfl, rfl, rfl, rfl, trivial⟩ ?_; refine U.text ?_; refine J.c (.move rfl) (J.c (.eql) (J.go ?_)); refine U.aN rfl (fun c9 => ?_) (fun c9 => ?_)
    . have M3 : pS d l now x.2 = true := by rw [pS, decide_eq_true (show x.2 <= now by omega), decide_eq_true (List.eq_nil_of_length_eq_zero (by omega))] <;> rfl
      refine U.seq (U.text ?_); refine J.c (.move rfl) ?_; refine J.perm l9 ?_; refine J.iJ (cs' := [I x.2]) bP .v ?_; refine J.perm l9 ?_; refine J.iJ (cs' := [I (0 : Int)]) LP .v ?_; refine J.go ?_; refine U.ret ?_; exact .inr ⟨(by intro h; cases h), ⟨rfl, x, rfl, (by rw [hq, ac3 M3])⟩⟩
    have M3 : pS d l now x.2 = false := by rw [pS, decide_eq_false (fun e => c9 (by rw [e]; rfl)), Bool.false_and]
    refine U.skip ?_; exact .inl ⟨rfl, rfl, (by rw [hq, M6 M3])⟩
  . rintro _ ⟨rfl, hq⟩; refine U.seq (U.text ?_); refine J.perm l9 ?_; refine J.iJ (cs' := [I (0 : Int)]) bP .v ?_; refine J.perm l9 ?_; refine J.iJ (cs' := [I (7 : Int)]) LP .v ?_; refine J.go ?_; refine U.ret ?_; exact aS.two rfl (.cell (x := (0 : Int)) rfl m1 bP .refl) (.cell (x := (7 : Int)) rfl m0 LP .refl) (dF (by rw [kR, if_neg (by simpa using hf), hq]; rfl)) (dF (by rw [kR, if_neg (by simpa using hf), hq] <;> rfl))
  rintro _ _ _ (⟨rfl, y, rfl, he⟩)
  . exact aS.two rfl (.cell (x := y.2) rfl m1 bP .refl) (.cell (x := (0 : Int)) rfl m0 LP .refl) (dF (by rw [kR, if_neg (by simpa using hf), he])) (dF (by rw [kR, if_neg (by simpa using hf), he]))
def aa3 (d : bM) (l : List Pc) (now : Int) : Int := if BS d l now < 0 then 0 else BS d l now
def aa4 (d : bM) (l : List Pc) (now : Int) : Int := if BS d l now < 0 then 7 else 0
theorem akQ {d : bM} {l : List Pc} {n : Int} (h : fX d l n = 0) : pT d l n = ((((cK d l n).length : Nat) : Int), (cK d l n).headD z3, (0 : Int)) := if_neg (by simpa using h)
theorem ag3 {d : bM} {l : List Pc} {n : Int} (h : fX d l n = 0) : kR d l n = (aa3 d l n, aa4 d l n) := by
  rw [kR, if_neg (by simpa using h), ac1 (x8 h).1, aa3, aa4]; by_cases h2 : BS d l n < 0
  . rw [if_pos h2, if_pos h2, if_pos h2]
  rw [if_neg h2, if_neg h2, if_neg h2]
end Go.Proofs
namespace Go.Proofs
open Go.Fs Ieee
end Go.Proofs
namespace Go.Proofs
open Go.Fs
structure OkN (c : List Int × List Int) : Prop where
  len : c.2.length = c.1.length
  pos : 0 < c.1.length
  top : c.1.length <= 96
  ao6 : ∀ x ∈ c.1, -1048576 <= x /\ x <= 1048576
  ao7 : ∀ x ∈ c.2, -1048576 <= x /\ x <= 1048576
structure ao8 (l : List (List Int × List Int)) : Prop where
  pos : 0 < l.length
  top : l.length <= 64
  all : ∀ c ∈ l, OkN c
end Go.Proofs
namespace Go.Proofs
open Go.Fs
theorem F7 {α : Type} {l : List (List α)} (j : Nat) : (l.take j).flatten.length <= l.flatten.length := by
  have : l.flatten = (l.take j).flatten ++ (l.drop j).flatten := by rw [<- List.flatten_append, List.take_append_drop]
  rw [this, List.length_append]; omega
theorem mV {α : Type} {l : List (List α)} {j : Nat} (hj : j < l.length) : (l.take (j + 1)).flatten = (l.take j).flatten ++ l[j] := by
  rw [List.take_succ_eq_append_getElem hj, List.flatten_append]; simp
end Go.Proofs
namespace Go.Fs
variable {α : Type} {lt : α -> α -> Bool}
def o7 (lt : α -> α -> Bool) (xs : List α) : Prop := xs.Pairwise (fun x y => lt x y = true)
def p5 (lt : α -> α -> Bool) : List α -> List α -> List α
  | [], B => B
  | x :: A, [] => x :: A
  | x :: A, y :: B => if lt x y then x :: p5 lt A (y :: B) else if lt y x then y :: p5 lt (x :: A) B else x :: y :: p5 lt A B
termination_by A B => A.length + B.length
def oP (lt same : α -> α -> Bool) : List α -> List α -> Option (List α)
  | [], B => some B
  | x :: A, [] => some (x :: A)
  | x :: A, y :: B => if lt x y then (oP lt same A (y :: B)).map (x :: ·) else if lt y x then (oP lt same (x :: A) B).map (y :: ·) else if same x y then (oP lt same A B).map (x :: ·) else none
termination_by A B => A.length + B.length
def qN (lt same : α -> α -> Bool) : Option α -> List α -> Option (List α)
  | _, [] => some []
  | none, p :: r => (qN lt same (some p) r).map (p :: ·)
  | some q, p :: r => if eqv lt q p then (if same q p then qN lt same (some p) r else none) else (qN lt same (some p) r).map (p :: ·)
theorem dO.trans (W : dO lt) {a b c : α} (h1 : lt a b = true) (h2 : lt b c = true) : lt a c = true := by
  cases h : lt a c with
  | true => rfl
  | false =>
    have h3 := W.neg _ _ _ h (W.asym _ _ h2); rw [h1] at h3; cases h3
theorem dO.RG (W : dO lt) {a b c : α} (h1 : eqv lt a b = true) (h2 : lt b c = true) : lt a c = true := by
  obtain ⟨h3, h4⟩ := gU.1 h1
  cases h : lt a c with
  | true => rfl
  | false =>
    have h5 := W.neg _ _ _ h4 h; rw [h2] at h5; cases h5
theorem dO.ag4 (W : dO lt) {a b : α} (h : lt a b = true) : eqv lt a b = false := by
  cases h2 : eqv lt a b with
  | false => rfl
  | true => rw [(gU.1 h2).1] at h; cases h
theorem dO.RH (W : dO lt) {a b : α} (h : lt a b = true) : eqv lt b a = false := by
  cases h2 : eqv lt b a with
  | false => rfl
  | true => rw [(gU.1 h2).2] at h; cases h
theorem qO {z : α} : ∀ (A B : List α), z ∈ p5 lt A B ↔ z ∈ A \/ z ∈ B
  | [], B => by simp [p5]
  | x :: A, [] => by simp [p5]
  | x :: A, y :: B => by
    rw [p5]; split
    . rw [List.mem_cons, qO A (y :: B), List.mem_cons, List.mem_cons (a := z) (b := x)]; exact or_assoc.symm
    split
    . rw [List.mem_cons, qO (x :: A) B, List.mem_cons (a := z) (b := y)]; exact ⟨fun h => by rcases h with h | h | h <;> simp [h], fun h => by rcases h with h | h | h <;> simp [h]⟩
    rw [List.mem_cons, List.mem_cons, qO A B, List.mem_cons, List.mem_cons]; exact ⟨fun h => by rcases h with h | h | h | h <;> simp [h], fun h => by rcases h with (h | h) | h | h <;> simp [h]⟩
termination_by A B => A.length + B.length
theorem o7.head {x : α} {A : List α} (h : o7 lt (x :: A)) : ∀ a ∈ A, lt x a = true := (List.pairwise_cons.1 h).1
theorem o7.tail {x : α} {A : List α} (h : o7 lt (x :: A)) : o7 lt A := (List.pairwise_cons.1 h).2
theorem o7.IK (W : dO lt) {A : List α} (h : o7 lt A) : LK lt A := h.imp fun h => W.asym _ _ h
theorem AJ (W : dO lt) : ∀ (A B : List α), o7 lt A -> o7 lt B -> LK lt (p5 lt A B)
  | [], B, _, hb => by rw [p5]; exact hb.IK W
  | x :: A, [], ha, _ => by rw [p5]; exact ha.IK W
  | x :: A, y :: B, ha, hb => by
    rw [p5]; split
    . rename_i h; refine List.pairwise_cons.2 ⟨fun z hz => W.asym _ _ ?_, AJ W A (y :: B) ha.tail hb⟩; rcases (qO _ _).1 hz with h1 | h1
      . exact ha.head z h1
      rcases List.mem_cons.1 h1 with rfl | h1
      . exact h
      exact W.trans h (hb.head z h1)
    rename_i h0; split
    . rename_i h; refine List.pairwise_cons.2 ⟨fun z hz => W.asym _ _ ?_, AJ W (x :: A) B ha hb.tail⟩; rcases (qO _ _).1 hz with h1 | h1
      . rcases List.mem_cons.1 h1 with rfl | h1
        . exact h
        exact W.trans h (ha.head z h1)
      exact hb.head z h1
    rename_i h; have he : eqv lt x y = true := gU.2 ⟨by simpa using h0, by simpa using h⟩; have UR : eqv lt y x = true := gU.2 ⟨by simpa using h, by simpa using h0⟩; refine List.pairwise_cons.2 ⟨fun z hz => ?_, List.pairwise_cons.2 ⟨fun z hz => W.asym _ _ ?_, AJ W A B ha.tail hb.tail⟩⟩
    . rcases List.mem_cons.1 hz with rfl | hz
      . simpa using h
      refine W.asym _ _ ?_; rcases (qO _ _).1 hz with h1 | h1
      . exact ha.head z h1
      exact W.RG he (hb.head z h1)
    rcases (qO _ _).1 hz with h1 | h1
    . exact W.RG UR (ha.head z h1)
    exact hb.head z h1
termination_by A B => A.length + B.length
theorem xB (W : dO lt) : ∀ (A B : List α), o7 lt A -> o7 lt B -> bC lt (A ++ B) (p5 lt A B)
  | [], B, _, _ => by rw [p5]; exact bC.refl _
  | x :: A, [], _, _ => by rw [p5, List.append_nil]; exact bC.refl _
  | x :: A, y :: B, ha, hb => by
    rw [p5]; split
    . exact bC.append (xs := [x]) (ys := [x]) (bC.refl _) (xB W A (y :: B) ha.tail hb)
    rename_i h0; split
    . rename_i h
      have h1 : bC lt ([] ++ ((x :: A) ++ ([y] ++ B))) ([] ++ ([y] ++ ((x :: A) ++ B))) := bC.swap W fun a mI b sP => by
        obtain rfl := List.mem_singleton.1 sP; rcases List.mem_cons.1 mI with rfl | h2
        . exact W.RH h
        exact W.RH (W.trans h (ha.head _ h2))
      exact h1.trans (bC.append (xs := [y]) (ys := [y]) (bC.refl _) (xB W (x :: A) B ha hb.tail))
    rename_i h; have UR : eqv lt y x = true := gU.2 ⟨by simpa using h, by simpa using h0⟩
    have h1 : bC lt ([x] ++ (A ++ ([y] ++ B))) ([x] ++ ([y] ++ (A ++ B))) := bC.swap W fun a mI b sP => by
      obtain rfl := List.mem_singleton.1 sP; exact W.RH (W.RG UR (ha.head _ mI))
    exact h1.trans (bC.append (xs := [x, y]) (ys := [x, y]) (bC.refl _) (xB W A B ha.tail hb.tail))
termination_by A B => A.length + B.length
theorem ac5 (W : dO lt) {A B : List α} (ha : o7 lt A) (hb : o7 lt B) : lA lt (A ++ B) = p5 lt A B := GK W (AJ W A B ha hb) (xB W A B ha hb)
variable {same : α -> α -> Bool}
theorem uG (W : dO lt) : ∀ (B : List α) (q : Option α), o7 lt B -> (∀ p ∈ q, ∀ b ∈ B, lt p b = true) -> qN lt same q B = some B
  | [], q, _, _ => by cases q <;> rfl
  | y :: B, none, hb, _ => by rw [qN, uG W B (some y) hb.tail fun p hp => by obtain rfl := Option.some.inj hp; exact hb.head]; rfl
  | y :: B, some q, hb, hq => by
    rw [qN, W.ag4 (hq q rfl y List.mem_cons_self), uG W B (some y) hb.tail fun p hp => by obtain rfl := Option.some.inj hp; exact hb.head]; rfl
theorem GS (W : dO lt) {x : α} {r : List α} {q : Option α} (hq : ∀ p ∈ q, lt p x = true) : qN lt same q (x :: r) = (qN lt same (some x) r).map (x :: ·) := by
  cases q with
  | none => rfl
  | some q => rw [qN, W.ag4 (hq q rfl)]; rfl
theorem F8 (W : dO lt) : ∀ (A B : List α) (q : Option α), o7 lt A -> o7 lt B -> (∀ p ∈ q, ∀ a ∈ A, lt p a = true) -> (∀ p ∈ q, ∀ b ∈ B, lt p b = true) -> qN lt same q (p5 lt A B) = oP lt same A B
  | [], B, q, _, hb, _, hq => by rw [p5, oP, uG W B q hb hq]
  | x :: A, [], q, ha, _, hq, _ => by rw [p5, oP, uG W _ q ha hq]
  | x :: A, y :: B, q, ha, hb, hqa, hqb => by
    rw [p5, oP]; split
    . rename_i h
      rw [GS W fun p hp => hqa p hp x List.mem_cons_self, F8 W A (y :: B) (some x) ha.tail hb (fun p hp => by obtain rfl := Option.some.inj hp; exact ha.head) (fun p hp b sP => by
        obtain rfl := Option.some.inj hp; rcases List.mem_cons.1 sP with rfl | h1
        . exact h
        exact W.trans h (hb.head _ h1))]
    rename_i h0; split
    . rename_i h
      rw [GS W fun p hp => hqb p hp y List.mem_cons_self, F8 W (x :: A) B (some y) ha hb.tail (fun p hp a mI => by
        obtain rfl := Option.some.inj hp; rcases List.mem_cons.1 mI with rfl | h1
        . exact h
        exact W.trans h (ha.head _ h1)) (fun p hp => by obtain rfl := Option.some.inj hp; exact hb.head)]
    rename_i h; have he : eqv lt x y = true := gU.2 ⟨by simpa using h0, by simpa using h⟩; have UR : eqv lt y x = true := gU.2 ⟨by simpa using h, by simpa using h0⟩; rw [GS W fun p hp => hqa p hp x List.mem_cons_self, qN, he, if_pos rfl]; split
    . rw [F8 W A B (some y) ha.tail hb.tail (fun p hp a mI => by obtain rfl := Option.some.inj hp; exact W.RG UR (ha.head _ mI)) (fun p hp => by obtain rfl := Option.some.inj hp; exact hb.head)]
    rfl
termination_by A B => A.length + B.length
theorem ac6 (W : dO lt) {A B : List α} (ha : o7 lt A) (hb : o7 lt B) : qN lt same none (lA lt (A ++ B)) = oP lt same A B := by
  rw [ac5 W ha hb, F8 W A B none ha hb (fun p hp => by cases hp) (fun p hp => by cases hp)]
theorem F9 {β : Type} {lt' ag5 : β -> β -> Bool} (f : α -> β) : ∀ (A B : List α), (∀ a ∈ A, ∀ b ∈ B, lt' (f a) (f b) = lt a b /\ lt' (f b) (f a) = lt b a /\ ag5 (f a) (f b) = same a b) -> oP lt' ag5 (A.map f) (B.map f) = (oP lt same A B).map (List.map f)
  | [], B, _ => by simp [oP]
  | x :: A, [], _ => by simp [oP]
  | x :: A, y :: B, h => by
    obtain ⟨e1, e2, e3⟩ := h x List.mem_cons_self y List.mem_cons_self; rw [List.map_cons, List.map_cons, oP, oP, e1, e2, e3]; have h1 := F9 f A (y :: B) fun a ha b hb => h a (List.mem_cons_of_mem _ ha) b hb; have h2 := F9 f (x :: A) B fun a ha b hb => h a ha b (List.mem_cons_of_mem _ hb); have h3 := F9 f A B fun a ha b hb => h a (List.mem_cons_of_mem _ ha) b (List.mem_cons_of_mem _ hb); rw [List.map_cons] at h1 h2; rw [h1, h2, h3]; split
    . cases oP lt same A (y :: B) <;> rfl
    split
    . cases oP lt same (x :: A) B <;> rfl
    split
    . cases oP lt same A B <;> rfl
    rfl
termination_by A B => A.length + B.length
def v7 (d : α) (xs : List α) (i : Nat) : Option α := if i = 0 then none else some (xs.getD (i - 1) d)
def vW (lt : α -> α -> Bool) (d : α) (xs : List α) (i : Nat) : Bool := decide (0 < i) && eqv lt (xs.getD (i - 1) d) (xs.getD i d)
theorem M8 {d : α} {xs : List α} {i : Nat} (hi : i < xs.length) : xs.drop i = xs.getD i d :: xs.drop (i + 1) := by
  rw [List.drop_eq_getElem_cons hi, List.getD_eq_getElem?_getD, List.getElem?_eq_getElem hi]; rfl
theorem prev_next {d : α} {xs : List α} {i : Nat} : v7 d xs (i + 1) = some (xs.getD i d) := by rw [v7, if_neg (Nat.succ_ne_zero i)]; rfl
theorem RI {d : α} {xs : List α} {i : Nat} (hi : i < xs.length) (ht : vW lt d xs i = false) : qN lt same (v7 d xs i) (xs.drop i) = (qN lt same (v7 d xs (i + 1)) (xs.drop (i + 1))).map (xs.getD i d :: ·) := by
  rw [M8 hi (d := d), prev_next]; unfold v7; by_cases h : i = 0
  . rw [if_pos h]; rfl
  rw [if_neg h, qN]
  have : eqv lt (xs.getD (i - 1) d) (xs.getD i d) = false := by
    unfold vW at ht
    rwa [decide_eq_true (by omega), Bool.true_and] at ht
  rw [this]; rfl
theorem J8 {d : α} {xs : List α} {i : Nat} (hi : i < xs.length) (ht : vW lt d xs i = true) : qN lt same (v7 d xs i) (xs.drop i) = if same (xs.getD (i - 1) d) (xs.getD i d) then qN lt same (v7 d xs (i + 1)) (xs.drop (i + 1)) else none := by
  unfold vW at ht; rw [Bool.and_eq_true, decide_eq_true_eq] at ht; rw [M8 hi (d := d), prev_next]; unfold v7; rw [if_neg (by omega), qN, ht.2]; rfl
theorem ai4 {d : α} {xs : List α} {i : Nat} {q : Option α} (hi : xs.length <= i) : qN lt same q (xs.drop i) = some [] := by
  rw [List.drop_eq_nil_of_le hi]; cases q <;> rfl
theorem M9 {q : Option (List α)} {r : List α} {x : α} : (q.map (x :: ·)).map (r ++ ·) = q.map ((r ++ [x]) ++ ·) := by
  cases q with
  | none => rfl
  | some s => simp
end Go.Fs
namespace Go.Proofs
open Go.Fs Ieee
abbrev mW : Ty := (.sl (.sl (.pair (.pair (.int .i64) (.pair .str (.pair (.int .i64) (.pair (.int .i64) (.sl (.bQ .f32)))))) (.int .i64))))
theorem aa5 : fL Tryz.prog 83 tG := dW (by kernel_rfl)
theorem xC : eX Tryz.prog 125 83 tG := pG (by kernel_rfl)
theorem an4 : lI Tryz.prog 68 (.bQ .f32) := gR (z := .float .f32 0) (by kernel_rfl) rfl rfl
theorem YH {a b : Int} : jF a b = 0 ↔ a = b := by
  unfold jF; constructor
  . intro h; split at h
    . cases h
    split at h
    . cases h
    omega
  rintro rfl; simp
theorem P9 {a b : Pc × Int} : fQ a b = 0 ↔ eqv bZ a b = true := by
  have e3 : 0 <= aO [] := by decide
  have h1 : fQ a b = 0 ↔ a.1.1 = b.1.1 /\ a.2 = b.2 /\ a.1.2.2.1 = b.1.2.2.1 /\ a.1.2.2.2.1 = b.1.2.2.2.1 := by
    unfold fQ; rw [bK]; simp [YH]
  rw [h1, gU]; unfold bZ fQ; simp only [decide_eq_false_iff_not, Int.not_lt, afP, e3, and_true]; omega
def NM (x y : Pc × Int) : Bool := AG x.1.2.2.2.2 y.1.2.2.2.2
def dB (d : bM) (a b : List Pc) : List (Pc × Int) := lA bZ (a.map (cY d) ++ b.map (cY d))
def BT (d : bM) (a b : List Pc) : Int := aO [aR d a, aR d b]
def ag6 (o : Option (List Pc)) : List Pc × Int := match o with
  | none => ([], 30)
  | some r => if (4096 : Int) < r.length then ([], 5) else (r, 0)
def qA (d : bM) (a b : List Pc) : List Pc × Int := if BT d a b ≠ 0 then ([], BT d a b) else ag6 ((qN bZ NM none (dB d a b)).map (List.map (·.1)))
theorem YI {n : Nat} (h0 : 0 < n) (h1 : n <= 1000000) : gS Tryz.prog OA 52 [L0, I ((n : Nat) : Int)] [] (fun r g => ∃ w, r = .raw w /\ g = [(w, .cap 86 n cB [])]) := by
  refine gS.enter Tryz.func52 rfl (fun _ _ => rfl) rfl ?_; show U _ _ _ _ _ [(0, L0), (1, I ((n : Nat) : Int))] [] _; refine U.seq (U.text ?_); refine J.c (.assign rfl) ?_; refine J.go (U.seq (U.seq (U.text ?_))); refine J.c (.move rfl) (J.c (.lss) (J.go ?_)); refine U.aN rfl (fun c1 => ?_) (fun c1 => ?_)
  . exact absurd c1 (by omega)
  refine U.skip (U.seq (U.seq (U.text ?_))); refine J.c (.move rfl) (J.c (.move rfl) ?_); refine J.r (.aeF dZ) ?_; refine J.c (.move rfl) ?_; refine J.r (.O9 dZ) ?_; refine J.c (.sub rfl rfl (by decide)) (J.c (.sub rfl rfl (by omega)) (J.c (.assign rfl) ?_)); refine J.go (U.seq (U.text ?_)); refine J.c (.move rfl) (J.c (.gtr) (J.go ?_)); refine U.aN rfl (fun c4 => ?_) (fun c4 => ?_)
  . refine U.text ?_; refine J.c (.move rfl) (J.c (.move rfl) ?_); refine J.r (.aeF dZ) ?_; refine J.r (.am1 dZ rfl rfl) ?_; refine J.c (.move rfl) ?_; refine J.grow (k := n) rfl (congrArg (fun z : Int => some (PV.v (.int .i64) z)) (show (((n : Nat) : Int) - (((0 : Nat) : Int) - ((0 : Nat) : Int))) = ((n : Nat) : Int) by omega)) dZ (by kernel_rfl) (by omega) (by omega) ?_; intro bb1; refine J.c (.move rfl) ?_; refine J.r (.O9 dZ) ?_; refine J.r (.am2 dZ rfl rfl) ?_; refine J.c (.assign rfl) ?_; refine J.go (U.seq (U.text ?_)); refine J.c (.move rfl) (J.c (.assign rfl) (J.go ?_)); refine U.ret ?_; exact uW.cap rfl bO m0 ⟨(.slice (some ⟨bb1, 0, none⟩) 0 0), rfl, (by rfl)⟩
  exact absurd (by omega) c4
theorem NN {l : List (List ((Int × ByteArray × Int × Int × (List Nat)) × Int))} (hl : l.length < 100000) (h0 : 0 < l.flatten.length) (h1 : l.flatten.length <= 1000000) : gS Tryz.prog OA 24 [.v mW l] [] (fun r g => ∃ w, r = .raw w /\ g = [(w, .row 86 cB l.flatten)]) := by
  refine gS.enter Tryz.func24 rfl (fun _ _ => rfl) rfl ?_; show U _ _ _ _ _ [(0, .v mW l)] [] _; refine U.seq (U.text ?_); refine J.c (.assign rfl) ?_; refine J.go (U.seq (U.text ?_)); refine J.c (.assign rfl) ?_; refine J.go (U.seq (U.seq (U.text ?_))); refine J.c (.move rfl) ?_; refine J.r (.len xC) ?_; refine J.c (.move rfl) ?_; refine J.go (U.block ?_); refine U.aW [(0, .v mW l), (3, I (((l.take 0).flatten.length : Nat) : Int)), (9, .v mW l), (10, I ((l.length : Nat) : Int)), (11, I ((0 : Nat) : Int))] ⟨rfl, iK rfl (by rfl), rfl, rfl, rfl, trivial⟩ ?_; refine U.loop (I := fun kk ff ss => ∃ (j : Nat), kk = l.length - j /\ ff = [(0, .v mW l), (3, I (((l.take j).flatten.length : Nat) : Int)), (9, .v mW l), (10, I ((l.length : Nat) : Int)), (11, I ((j : Nat) : Int))] /\ ss = [] /\ (j <= l.length)) ?_ _ _ _ ⟨0, rfl, rfl, rfl, Nat.zero_le _⟩; rintro kk ff ss ⟨j, iI, rfl, rfl, hj⟩; refine U.seq (U.text ?_); refine J.c (.lss) ?_; refine J.go (U.seq ?_); refine U.aN rfl (fun c3 => ?_) (fun c3 => ?_)
  . refine U.skip (U.seq (U.block (U.seq (U.text ?_)))); refine J.c (.ix (j := j) rfl rfl xC (by omega)) ?_; refine J.r (.ld aa5) ?_; refine J.c (.assign rfl) ?_; refine J.go (U.seq (U.text ?_)); have hs := F7 (l := l) (j + 1); rw [mV (by omega), List.length_append] at hs; refine J.c (.move rfl) (J.c (.move rfl) ?_); refine J.r (.len dZ) ?_; refine J.c (.add rfl rfl (by omega)) (J.c (.assign rfl) ?_); refine J.go (U.seq (U.text ?_)); refine J.c (.move rfl) (J.c (.lss) (J.go ?_)); refine U.aN rfl (fun c6 => ?_) (fun c6 => ?_)
    . exact absurd c6 (by omega)
    refine U.skip (U.text ?_); refine J.c (.add rfl rfl (by omega)) (J.c (.move rfl) ?_); refine J.nil ?_; refine ⟨_, [(0, .v mW l), (3, I (((l.take (j + 1)).flatten.length : Nat) : Int)), (9, .v mW l), (10, I ((l.length : Nat) : Int)), (11, I (((j + 1) : Nat) : Int))], ?_, ⟨rfl, iK rfl (by rw [mV (by omega), List.length_append] <;> rfl), rfl, rfl, rfl, trivial⟩, (j + 1), rfl, rfl, rfl, (by omega)⟩; omega
  refine U.exit (U.seq (U.text ?_)); have N3 : l.take j = l := List.take_of_length_le (by omega); refine J.c (.move rfl) ?_; refine J.lV [] rfl rfl rfl (gS.call (YI (by rw [N3]; exact h0) (by rw [N3]; exact h1))) ?_; rintro _ _ ⟨pP, rfl, rfl⟩; show J _ _ _ _ _ _ [(pP, .cap 86 ((l.take j).flatten.length) cB [])] _; refine J.c (.assign rfl) ?_; refine J.go (U.seq (U.seq (U.text ?_))); refine J.c (.move rfl) ?_; refine J.r (.len xC) ?_; refine J.c (.move rfl) ?_; refine J.go (U.block ?_); refine U.aW [(6, .raw pP), (25, .v mW l), (26, I ((l.length : Nat) : Int)), (27, I ((0 : Nat) : Int))] ⟨rfl, rfl, rfl, rfl, trivial⟩ ?_; refine U.loop (I := fun kk ff ss => ∃ (i : Nat) (out : Value), kk = l.length - i /\ ff = [(6, .raw out), (25, .v mW l), (26, I ((l.length : Nat) : Int)), (27, I ((i : Nat) : Int))] /\ ss = [(out, .cap 86 ((l.take j).flatten.length) cB ((l.take i).flatten))] /\ (i <= l.length)) ?_ _ _ _ ⟨0, pP, rfl, rfl, rfl, Nat.zero_le _⟩; rintro kk ff ss ⟨i, out, nU, rfl, rfl, hi⟩; refine U.seq (U.text ?_); refine J.c (.lss) ?_; refine J.go (U.seq ?_); refine U.aN rfl (fun x5 => ?_) (fun x5 => ?_)
  . refine U.skip (U.seq (U.block (U.seq (U.text ?_)))); refine J.c (.ix (j := i) rfl rfl xC (by omega)) ?_; refine J.r (.ld aa5) ?_; refine J.c (.assign rfl) ?_; refine J.go (U.text ?_); have hs := F7 (l := l) (i + 1); rw [mV (by omega), List.length_append] at hs; refine J.c (.move rfl) (J.c (.move rfl) ?_); refine J.aeD rfl rfl dZ dZ (by rw [N3]; exact hs) (by rw [N3]; exact h1) ?_; intro pZ; refine J.c (.assign rfl) ?_; refine J.nil (U.text ?_); refine J.c (.add rfl rfl (by omega)) (J.c (.move rfl) ?_); refine J.nil ?_; refine ⟨_, [(6, .raw pZ), (25, .v mW l), (26, I ((l.length : Nat) : Int)), (27, I (((i + 1) : Nat) : Int))], ?_, ⟨rfl, rfl, rfl, rfl, trivial⟩, (i + 1), pZ, rfl, rfl, (by rw [mV (by omega)] <;> rfl), (by omega)⟩; omega
  refine U.exit (U.seq ?_); refine U.ahT (by rw [N3, List.take_of_length_le (by omega)]) ?_; refine U.text ?_; refine J.c (.move rfl) (J.c (.assign rfl) (J.go ?_)); refine U.ret ?_; exact uW.row rfl bO ⟨out, rfl, (by rw [List.take_of_length_le (by omega)])⟩
theorem UW {n : Nat} (h0 : n = 0) : VF Tryz.prog OA 52 [L0, I ((n : Nat) : Int)] (L0) := by
  refine VF.enter Tryz.func52 rfl (fun _ _ => rfl) rfl ?_; show U _ _ _ _ _ [(0, L0), (1, I ((n : Nat) : Int))] [] _; refine U.seq (U.text ?_); refine J.c (.assign rfl) ?_; refine J.go (U.seq (U.seq (U.text ?_))); refine J.c (.move rfl) (J.c (.lss) (J.go ?_)); refine U.aN rfl (fun c1 => ?_) (fun c1 => ?_)
  . exact absurd c1 (by omega)
  refine U.skip (U.seq (U.seq (U.text ?_))); refine J.c (.move rfl) (J.c (.move rfl) ?_); refine J.r (.aeF dZ) ?_; refine J.c (.move rfl) ?_; refine J.r (.O9 dZ) ?_; refine J.c (.sub rfl rfl (by decide)) (J.c (.sub rfl rfl (by omega)) (J.c (.assign rfl) ?_)); refine J.go (U.seq (U.text ?_)); refine J.c (.move rfl) (J.c (.gtr) (J.go ?_)); refine U.aN rfl (fun c4 => ?_) (fun c4 => ?_)
  . exact absurd c4 (by omega)
  refine U.skip (U.seq (U.text ?_)); refine J.c (.move rfl) (J.c (.assign rfl) (J.go ?_)); refine U.ret ?_; exact aS.one rfl bO rfl
theorem NO {l : List (List ((Int × ByteArray × Int × Int × (List Nat)) × Int))} (hl : l.length < 100000) (h0 : l.flatten.length = 0) : gS Tryz.prog OA 24 [.v mW l] [] (fun r g => ∃ w, r = .raw w /\ g = [(w, .row 86 cB l.flatten)]) := by
  refine gS.enter Tryz.func24 rfl (fun _ _ => rfl) rfl ?_; show U _ _ _ _ _ [(0, .v mW l)] [] _; refine U.seq (U.text ?_); refine J.c (.assign rfl) ?_; refine J.go (U.seq (U.text ?_)); refine J.c (.assign rfl) ?_; refine J.go (U.seq (U.seq (U.text ?_))); refine J.c (.move rfl) ?_; refine J.r (.len xC) ?_; refine J.c (.move rfl) ?_; refine J.go (U.block ?_); refine U.aW [(0, .v mW l), (3, I (((l.take 0).flatten.length : Nat) : Int)), (9, .v mW l), (10, I ((l.length : Nat) : Int)), (11, I ((0 : Nat) : Int))] ⟨rfl, iK rfl (by rfl), rfl, rfl, rfl, trivial⟩ ?_; refine U.loop (I := fun kk ff ss => ∃ (j : Nat), kk = l.length - j /\ ff = [(0, .v mW l), (3, I (((l.take j).flatten.length : Nat) : Int)), (9, .v mW l), (10, I ((l.length : Nat) : Int)), (11, I ((j : Nat) : Int))] /\ ss = [] /\ (j <= l.length)) ?_ _ _ _ ⟨0, rfl, rfl, rfl, Nat.zero_le _⟩; rintro kk ff ss ⟨j, iI, rfl, rfl, hj⟩; refine U.seq (U.text ?_); refine J.c (.lss) ?_; refine J.go (U.seq ?_); refine U.aN rfl (fun c3 => ?_) (fun c3 => ?_)
  . refine U.skip (U.seq (U.block (U.seq (U.text ?_)))); refine J.c (.ix (j := j) rfl rfl xC (by omega)) ?_; refine J.r (.ld aa5) ?_; refine J.c (.assign rfl) ?_; refine J.go (U.seq (U.text ?_)); have hs := F7 (l := l) (j + 1); rw [mV (by omega), List.length_append] at hs; refine J.c (.move rfl) (J.c (.move rfl) ?_); refine J.r (.len dZ) ?_; refine J.c (.add rfl rfl (by omega)) (J.c (.assign rfl) ?_); refine J.go (U.seq (U.text ?_)); refine J.c (.move rfl) (J.c (.lss) (J.go ?_)); refine U.aN rfl (fun c6 => ?_) (fun c6 => ?_)
    . exact absurd c6 (by omega)
    refine U.skip (U.text ?_); refine J.c (.add rfl rfl (by omega)) (J.c (.move rfl) ?_); refine J.nil ?_; refine ⟨_, [(0, .v mW l), (3, I (((l.take (j + 1)).flatten.length : Nat) : Int)), (9, .v mW l), (10, I ((l.length : Nat) : Int)), (11, I (((j + 1) : Nat) : Int))], ?_, ⟨rfl, iK rfl (by rw [mV (by omega), List.length_append] <;> rfl), rfl, rfl, rfl, trivial⟩, (j + 1), rfl, rfl, rfl, (by omega)⟩; omega
  refine U.exit (U.seq (U.text ?_)); have N3 : l.take j = l := List.take_of_length_le (by omega); refine J.c (.move rfl) ?_; refine J.call rfl rfl (VF.call (UW (by rw [N3]; exact h0))) ?_; refine J.c (.assign rfl) ?_; refine J.go (U.seq (U.seq (U.text ?_))); refine J.c (.move rfl) ?_; refine J.r (.len xC) ?_; refine J.c (.move rfl) ?_; refine J.go (U.block ?_); refine U.oG 86 cB ?_; refine U.aW [(6, .raw (.slice none 0 0)), (25, .v mW l), (26, I ((l.length : Nat) : Int)), (27, I ((0 : Nat) : Int))] ⟨rfl, rfl, rfl, rfl, trivial⟩ ?_; refine U.loop (I := fun kk ff ss => ∃ (i : Nat) (out : Value), kk = l.length - i /\ ff = [(6, .raw out), (25, .v mW l), (26, I ((l.length : Nat) : Int)), (27, I ((i : Nat) : Int))] /\ ss = [(out, .row 86 cB ((l.take i).flatten))] /\ (i <= l.length)) ?_ _ _ _ ⟨0, (.slice none 0 0), rfl, rfl, rfl, Nat.zero_le _⟩; rintro kk ff ss ⟨i, out, nU, rfl, rfl, hi⟩; refine U.seq (U.text ?_); refine J.c (.lss) ?_; refine J.go (U.seq ?_); refine U.aN rfl (fun x5 => ?_) (fun x5 => ?_)
  . refine U.skip (U.seq (U.block (U.seq (U.text ?_)))); refine J.c (.ix (j := i) rfl rfl xC (by omega)) ?_; refine J.r (.ld aa5) ?_; refine J.c (.assign rfl) ?_; refine J.go (U.text ?_); have hs := F7 (l := l) (i + 1); rw [mV (by omega), List.length_append] at hs; refine J.c (.move rfl) (J.c (.move rfl) ?_); refine J.app rfl rfl dZ dZ (by omega) ?_; intro IP; refine J.c (.assign rfl) ?_; refine J.nil (U.text ?_); refine J.c (.add rfl rfl (by omega)) (J.c (.move rfl) ?_); refine J.nil ?_; refine ⟨_, [(6, .raw IP), (25, .v mW l), (26, I ((l.length : Nat) : Int)), (27, I (((i + 1) : Nat) : Int))], ?_, ⟨rfl, rfl, rfl, rfl, trivial⟩, (i + 1), IP, rfl, rfl, (by rw [mV (by omega)] <;> rfl), (by omega)⟩; omega
  refine U.exit (U.seq (U.text ?_)); refine J.c (.move rfl) (J.c (.assign rfl) (J.go ?_)); refine U.ret ?_; exact uW.row rfl bO ⟨out, rfl, (by rw [List.take_of_length_le (by omega)])⟩
theorem RJ {l : List (List (Pc × Int))} (hl : l.length < 100000) (h1 : l.flatten.length <= 1000000) : gS Tryz.prog OA 24 [.v mW l] [] (fun r g => ∃ w, r = .raw w /\ g = [(w, .row 86 cB l.flatten)]) := by
  by_cases h : l.flatten.length = 0
  . exact NO hl h
  exact NN hl (Nat.pos_of_ne_zero h) h1
theorem ac7 {a : List Nat} {b : List Nat} (ha : a.length < 100000) : VF Tryz.prog OA 28 [.v iF a, .v iF b] (B (AG a b)) := by
  refine VF.enter Tryz.func28 rfl (fun _ _ => rfl) rfl ?_; show U _ _ _ _ _ [(0, .v iF a), (1, .v iF b)] [] _; refine U.seq (U.text ?_); refine J.c (.assign rfl) ?_; refine J.go (U.seq (U.seq (U.text ?_))); refine J.c (.move rfl) ?_; refine J.r (.len hD) ?_; refine J.c (.move rfl) ?_; refine J.r (.len hD) ?_; refine J.c (.neq) (J.go ?_); refine U.aN rfl (fun c1 => ?_) (fun c1 => ?_)
  . have cM : ¬ a.length = b.length := by omega
    refine U.seq (U.text ?_); refine J.c (.assign rfl) (J.go ?_); refine U.ret ?_; exact aS.one rfl bO (eZ (by exact (decide_eq_false fun hh => cM hh.1).symm))
  have hle : a.length = b.length := by omega
  refine U.skip (U.seq (U.seq (U.text ?_))); refine J.c (.move rfl) ?_; refine J.r (.len hD) ?_; refine J.c (.move rfl) ?_; refine J.go (U.block ?_); refine U.aW [(0, .v iF a), (1, .v iF b), (12, I ((a.length : Nat) : Int)), (13, I ((0 : Nat) : Int))] ⟨rfl, rfl, rfl, rfl, trivial⟩ ?_; refine U.loop (I := fun kk ff ss => ∃ (i : Nat), kk = a.length - i /\ ff = [(0, .v iF a), (1, .v iF b), (12, I ((a.length : Nat) : Int)), (13, I ((i : Nat) : Int))] /\ ss = [] /\ (i <= a.length) /\ (∀ j, j < i -> fC .neq .f32 (a.getD j 0) (b.getD j 0) = false)) ?_ _ _ _ ⟨0, rfl, rfl, rfl, Nat.zero_le _, (by intro j hj; omega)⟩; rintro kk ff ss ⟨i, iI, rfl, rfl, hi, hn⟩; refine U.seq (U.text ?_); refine J.c (.lss) ?_; refine J.go (U.seq ?_); refine U.aN rfl (fun c4 => ?_) (fun c4 => ?_)
  . have dI : i < a.length := by omega
    refine U.skip (U.seq (U.block (U.seq (U.text ?_)))); refine J.c (.move rfl) (J.c (.assign rfl) ?_); refine J.go (U.seq (U.drawn ?_)); refine VD.c (.move rfl) (VD.c (.move rfl) (VD.c (.ix (j := i) rfl rfl hD (by omega)) ?_)); refine VD.r [] (.ld BQ) (.inl rfl) ?_; refine VD.c (.move rfl) (VD.c (.move rfl) (VD.nw [] (VD.c (.ix (j := i) rfl rfl hD (by omega)) ?_))); refine VD.r [] (.ld BQ) (.inl rfl) ?_; refine VD.c (.ZK .neq) (VD.go ?_); refine U.eE rfl (fun c6 => ?_) (fun c6 => ?_)
    . have xV : fC .neq .f32 (a.getD i 0) (b.getD i 0) = true := by simpa [dI, show i < b.length by omega] using c6
      refine U.seq (U.text ?_); refine J.c (.assign rfl) (J.go ?_); refine U.ret ?_; exact aS.one rfl bO (eZ (by exact (decide_eq_false fun hh => by rw [hh.2 i dI] at xV; cases xV).symm))
    have xV : fC .neq .f32 (a.getD i 0) (b.getD i 0) = false := by simpa [dI, show i < b.length by omega] using c6
    refine U.skip (U.text ?_); refine J.c (.add rfl rfl (by omega)) (J.c (.move rfl) ?_); refine J.nil ?_; refine ⟨_, [(0, .v iF a), (1, .v iF b), (12, I ((a.length : Nat) : Int)), (13, I (((i + 1) : Nat) : Int))], ?_, ⟨rfl, rfl, rfl, rfl, trivial⟩, (i + 1), rfl, rfl, rfl, (by omega), (by intro j hj; rcases Nat.lt_succ_iff_lt_or_eq.1 hj with h | h; exact hn j h; subst h; exact xV)⟩; omega
  refine U.exit (U.seq (U.text ?_)); refine J.c (.assign rfl) (J.go ?_); refine U.ret ?_; exact aS.one rfl bO (eZ (by exact (decide_eq_true ⟨hle, fun j hj => hn j (by omega)⟩).symm))
theorem MA {p : Int × ByteArray × Int × Int × (List Nat)} (hl : p.2.2.2.2.length < 100000) : VF Tryz.prog OA 29 [.v kA p] (.v kA p) := by
  refine VF.enter Tryz.func29 rfl (fun _ _ => rfl) rfl ?_; show U _ _ _ _ _ [(0, .v kA p)] [] _; refine U.seq (U.text ?_); refine J.cell (.box (τ := kA) .v) ?_; intro IQ; refine J.cell (.alloc zE) ?_; intro ww6; refine J.go (U.seq (U.text ?_)); refine J.c (.T3 (k := 4) m1) ?_; refine J.r (.QM (k := 4) m1 nH) ?_; refine J.r (.len hD) ?_; refine J.cell (.make (k := p.2.2.2.2.length) rfl rfl hD an4 (by omega)) ?_; intro ww7; refine J.c (.assign rfl) ?_; refine J.go (U.seq (U.text ?_)); refine J.c (.move rfl) (J.c (.T3 (k := 4) m2) ?_); refine J.r (.QM (k := 4) m2 nH) ?_; refine J.copy rfl rfl hD (by simp) ?_; refine J.go (U.seq (U.text ?_)); refine J.c (.move rfl) (J.c (.T3 (k := 4) m2) ?_); refine J.perm aeC ?_; refine J.one m1 fun ho8 => ?_; refine J.u7 (cs' := [I p.1, St p.2.1, I p.2.2.1, I p.2.2.2.1, .raw ww7]) 4 nH (.raw rfl (LF ho8) ho8) ?_; refine J.go (U.seq ?_); refine U.perm l9 ?_; refine U.rK [(ww7, .row 68 (.bQ .f32) p.2.2.2.2), (IQ, .var [I p.1, St p.2.1, I p.2.2.1, I p.2.2.2.1, .raw ww7])] [(1, .p kA (p.1, p.2.1, p.2.2.1, p.2.2.2.1, p.2.2.2.2))] rfl (.cons rfl (.var m1 (.cons .same (.cons .same (.cons .same (.cons .same (.cons (.row m0) .nil)))))) .nil) ?_; refine U.text ?_; refine J.r (.ld kC) ?_; refine J.iJ (cs' := [I p.1, St p.2.1, I p.2.2.1, I p.2.2.2.1, .v iF p.2.2.2.2]) kC .v ?_; refine J.go ?_; refine U.ret ?_; exact aS.one rfl (.cell (x := (p.1, p.2.1, p.2.2.1, p.2.2.2.1, p.2.2.2.2)) rfl m0 kC .refl) (eZ (by first | rfl | simp))
theorem MB {d : bM} {a b : List Pc} (hb : BT d a b = 0) (h : qN bZ NM none (dB d a b) = none) : qA d a b = ([], 30) := by rw [qA, if_neg (by simpa using hb), h] <;> rfl
theorem xD {d : bM} {a b : List Pc} {o : List (Pc × Int)} (hb : BT d a b = 0) (h : qN bZ NM none (dB d a b) = some o) : qA d a b = if (4096 : Int) < ((o.map (·.1)).length : Nat) then ([], 5) else (o.map (·.1), 0) := by rw [qA, if_neg (by simpa using hb), h] <;> rfl
theorem MC {d : Int × Int × Int × (List (ByteArray × Int))} {a : List (Int × ByteArray × Int × Int × (List Nat))} {b : List (Int × ByteArray × Int × Int × (List Nat))} (hla : a.length < 100000) (hra : ∀ r ∈ a, r.2.2.2.2.length < 100000) (hlb : b.length < 100000) (G7 : ∀ r ∈ b, r.2.2.2.2.length < 100000) : VF Tryz.prog OA 10 [.v dY d, .v dA a, .v dA b] (.kL [.v dA ((qA d a b).1), I ((qA d a b).2)]) := by
  refine VF.enter Tryz.func10 rfl (fun _ _ => rfl) rfl ?_; show U _ _ _ _ _ [(0, .v dY d), (1, .v dA a), (2, .v dA b)] [] _; refine U.seq (U.text ?_)
  have hrp : ∀ x ∈ dB d a b, x.1.2.2.2.2.length < 100000 := fun x hx => by
    have h1 := (uA cC _).symm.mem cC hx; rcases List.mem_append.1 h1 with h2 | h2
    . obtain ⟨p, hp, rfl⟩ := List.mem_map.1 h2; exact hra p hp
    obtain ⟨p, hp, rfl⟩ := List.mem_map.1 h2; exact G7 p hp
  have hal : (dB d a b).length = a.length + b.length := by rw [dB, wV, List.length_append, List.length_map, List.length_map]
  refine J.new (.box) ?_; refine J.c (.assign rfl) (J.c (.assign rfl) ?_); refine J.go (U.seq (U.seq (U.drawn ?_))); refine VD.r [] (.ld lZ) (.inl rfl) ?_; refine VD.c (.move rfl) ?_; refine VD.call rfl rfl (VF.call (tH hla hra)) ?_; refine VD.r [] (.ld lZ) (.inl rfl) ?_; refine VD.c (.move rfl) ?_; refine VD.call rfl rfl (VF.call (tH hlb G7)) ?_; refine VD.nw [] ?_; refine VD.new (.lit [aR d a, aR d b] k9) ?_; refine VD.oH rfl rfl (VF.call (fO (by first | assumption | omega | simp))) ?_; refine VD.c (.assign rfl) ?_; refine VD.go (U.seq (U.text ?_)); refine J.c (.move rfl) (J.c (.neq) (J.go ?_)); refine U.aN rfl (fun c2 => ?_) (fun c2 => ?_)
  . have BU : BT d a b ≠ 0 := c2; refine U.seq (U.text ?_); refine J.c (.move rfl) (J.c (.assign rfl) (J.c (.assign rfl) (J.go ?_))); refine U.ret ?_; exact aS.two rfl (uV .nil) bO (eZ (by rw [qA, if_pos BU])) (dF (by rw [qA, if_pos BU] <;> rfl))
  have BU : BT d a b = 0 := by simpa [BT] using c2
  have s4 : aR d a = 0 /\ aR d b = 0 := by have h := BU; unfold BT at h; rw [bK] at h; exact ⟨h _ (by simp), h _ (by simp)⟩
  have hdl := (kH (cG s4.1).1).2.2.2.1; have hsa := (cG s4.1).2.1; have hsb := (cG s4.2).2.1; refine U.skip (U.seq (U.drawn ?_)); refine VD.r [] (.ld lZ) (.inl rfl) ?_; refine VD.c (.move rfl) ?_; refine VD.call rfl rfl (VF.call (RB hdl hla)) ?_; refine VD.r [] (.ld lZ) (.inl rfl) ?_; refine VD.c (.move rfl) ?_; refine VD.call rfl rfl (VF.call (RB hdl hlb)) ?_; refine VD.nw [29, 26] ?_; refine VD.new (.lit [a.map (cY d), b.map (cY d)] xC) ?_; refine VD.lV rfl rfl (gS.call (RJ (by simp) (by simp; omega))) ?_; rintro _ _ ⟨UX, rfl, rfl⟩; show VD _ _ _ _ _ _ _ _ [(UX, .row 86 cB ([a.map (cY d), b.map (cY d)].flatten))] _ _ _ _ _; refine VD.c (.assign rfl) ?_; refine VD.go (U.seq (U.text ?_)); rw [show [a.map (cY d), b.map (cY d)].flatten = a.map (cY d) ++ b.map (cY d) by simp]; refine J.c (.move rfl) ?_; refine J.lV [(UX, .row 86 cB (a.map (cY d) ++ b.map (cY d)))] rfl rfl rfl (gS.call (afT (by simp; omega) (fun _ _ => VF.call GN))) ?_; rintro _ _ ⟨rfl, rfl⟩; show J _ _ _ _ _ _ [(UX, .row 86 cB (lA bZ (a.map (cY d) ++ b.map (cY d))))] _; rw [show lA bZ (a.map (cY d) ++ b.map (cY d)) = dB d a b from rfl]; refine J.go (U.seq (U.text ?_)); refine J.c (.assign rfl) ?_; refine J.go (U.seq (U.seq ?_)); refine U.rK [(UX, .row 86 cB (dB d a b))] [(9, .v tG (dB d a b))] rfl (.cons rfl (.row m0) .nil) ?_; refine U.text ?_; refine J.c (.move rfl) ?_; refine J.r (.len dZ) ?_; refine J.c (.move rfl) ?_; refine J.go (U.block ?_); refine U.oG 41 kA ?_; refine U.aW [(9, .v tG (dB d a b)), (10, .raw (.slice none 0 0)), (34, .v tG (dB d a b)), (35, I (((dB d a b).length : Nat) : Int)), (36, I ((0 : Nat) : Int))] ⟨rfl, rfl, rfl, rfl, rfl, trivial⟩ ?_; refine U.loop (I := fun kk ff ss => ∃ (i : Nat) (o : List (Pc × Int)) (out : Value), kk = (dB d a b).length - i /\ ff = [(9, .v tG (dB d a b)), (10, .raw out), (34, .v tG (dB d a b)), (35, I (((dB d a b).length : Nat) : Int)), (36, I ((i : Nat) : Int))] /\ ss = [(out, .row 41 kA (o.map (·.1)))] /\ (i <= (dB d a b).length) /\ (o.length <= i) /\ (qN bZ NM none (dB d a b) = (qN bZ NM (v7 bD (dB d a b) i) ((dB d a b).drop i)).map (o ++ ·))) ?_ _ _ _ ⟨0, [], (.slice none 0 0), rfl, rfl, rfl, (by omega), (by simp), (by simp [v7])⟩; rintro kk ff ss ⟨i, o, out, iI, rfl, rfl, hi, ho, hq⟩; refine U.seq (U.text ?_); refine J.c (.lss) ?_; refine J.go (U.seq ?_); refine U.aN rfl (fun c8 => ?_) (fun c8 => ?_)
  . have dI : i < (dB d a b).length := by omega
    refine U.skip (U.seq (U.block (U.seq (U.text ?_)))); refine J.c (.move rfl) (J.c (.ix (j := i) rfl rfl dZ (by omega)) ?_); refine J.r (.ld hJ) ?_; refine J.cell (.alloc ZZ) ?_; intro aa6; refine J.c (.assign rfl) ?_; refine J.iJ (cs' := [I ((((dB d a b)[i]).1).1), St ((((dB d a b)[i]).1).2.1), I ((((dB d a b)[i]).1).2.2.1), I ((((dB d a b)[i]).1).2.2.2.1), .v iF ((((dB d a b)[i]).1).2.2.2.2), I (((dB d a b)[i]).2)]) hJ .v ?_; refine J.shut [(12, .p cB ((dB d a b)[i]))] (.cons rfl (.var m0 .refl) .nil) ?_; refine J.go (U.seq (U.seq (U.drawn ?_))); refine VD.c (.move rfl) (VD.c (.gtr) (VD.c (.move rfl) ?_)); refine VD.kE (x := 43) rfl (fun akR => ?_) (fun akR => ?_)
    . have e1 : (dB d a b).getD (i - 1) bD = (dB d a b)[(((i : Nat) : Int) - (1 : Int)).toNat]'(by omega) := by rw [eC _ _ (by omega)]; congr 1; omega
      have e2 : (dB d a b).getD i bD = (dB d a b)[i] := eC _ _ dI; refine VD.c (.move rfl) (VD.c (.move rfl) (VD.nw [] (VD.c (.sub rfl rfl (by omega)) ?_))); refine VD.c (.WO (k := (((i : Nat) : Int) - (1 : Int))) rfl rfl dZ (by omega) (by omega)) ?_; refine VD.r [] (.ld hJ) (.inl rfl) ?_; refine VD.r [] (.ld hJ) (.inl rfl) ?_; refine VD.call rfl rfl (VF.call (GN )) ?_; refine VD.c (.eql) (VD.c (.mN rfl rfl) (VD.go ?_)); refine U.aN rfl (fun RC => ?_) (fun RC => ?_)
      . have o8 : vW bZ bD (dB d a b) i = true := by unfold vW; rw [decide_eq_true (by omega), Bool.true_and, <- P9, e1, e2]; exact RC
        refine U.seq (U.seq (U.drawn ?_)); refine VD.c (.move rfl) (VD.c (.move rfl) (VD.c (.sub rfl rfl (by omega)) (VD.c (.WO (k := (((i : Nat) : Int) - (1 : Int))) rfl rfl dZ (by omega) (by omega)) ?_))); refine VD.c (.fa (.l .o)) (VD.c (.fa (.r (.r (.r (.r .o))))) (VD.nw [] ?_)); refine VD.r [] (.ld nH) (.inl rfl) ?_; refine VD.c (.fa (.l .o)) (VD.c (.fa (.r (.r (.r (.r .o))))) ?_); refine VD.r [] (.ld nH) (.inl rfl) ?_; refine VD.call rfl rfl (VF.call (ac7 (hrp _ (List.getElem_mem _)))) ?_; refine VD.c (.not) (VD.go ?_); refine U.eE rfl (fun x5 => ?_) (fun x5 => ?_)
        . try simp only [Bool.and_eq_true, Bool.or_eq_true, Bool.and_eq_false_iff, Bool.or_eq_false_iff, Bool.not_eq_true', Bool.not_eq_false', decide_eq_true_eq, decide_eq_false_iff_not] at x5
          have hsm : NM ((dB d a b).getD (i - 1) bD) ((dB d a b).getD i bD) = false := by rw [e1, e2]; exact x5
          have hpg : qN bZ NM none (dB d a b) = none := by rw [hq, J8 dI o8, if_neg (by rw [hsm]; exact Bool.false_ne_true)] <;> rfl
          refine U.seq (U.text ?_); refine J.c (.assign rfl) (J.c (.assign rfl) (J.go ?_)); refine U.ret ?_; exact aS.two rfl (uV .nil) bO (eZ (by rw [MB BU hpg])) (dF (by rw [MB BU hpg]))
        try simp only [Bool.and_eq_true, Bool.or_eq_true, Bool.and_eq_false_iff, Bool.or_eq_false_iff, Bool.not_eq_true', Bool.not_eq_false', decide_eq_true_eq, decide_eq_false_iff_not] at x5
        have hsm : NM ((dB d a b).getD (i - 1) bD) ((dB d a b).getD i bD) = true := by rw [e1, e2]; exact x5
        refine U.skip (U.exit (U.text ?_)); refine J.c (.add rfl rfl (by omega)) (J.c (.move rfl) ?_); refine J.nil ?_; refine ⟨_, [(9, .v tG (dB d a b)), (10, .raw out), (34, .v tG (dB d a b)), (35, I (((dB d a b).length : Nat) : Int)), (36, I (((i + 1) : Nat) : Int))], ?_, ⟨rfl, rfl, rfl, rfl, rfl, trivial⟩, (i + 1), (if vW bZ bD (dB d a b) i then o else o ++ [(dB d a b).getD i bD]), out, rfl, rfl, (by first | rw [if_pos o8] | (rw [if_neg (by rw [o8]; exact Bool.false_ne_true), List.map_append, eC _ _ dI]; rfl)), (by omega), (by split <;> (try rw [List.length_append, List.length_singleton]) <;> omega), (by first | (rw [if_pos o8, hq, J8 dI o8, if_pos hsm]) | (rw [if_neg (by rw [o8]; exact Bool.false_ne_true), hq, RI dI o8, M9]))⟩; omega
      have o8 : vW bZ bD (dB d a b) i = false := by unfold vW; rw [decide_eq_true (by omega), Bool.true_and, Bool.eq_false_iff]; intro hh; rw [<- P9, e1, e2] at hh; exact RC hh
      refine U.skip (U.text ?_); refine J.c (.move rfl) (J.c (.fa (.l .o)) ?_); refine J.r (.ld kC) ?_; refine J.call rfl rfl (VF.call (MA (hrp _ (List.getElem_mem _)))) ?_; refine J.new (.lit [(((dB d a b)[i]).1)] fA) ?_; refine J.app rfl rfl fA fA (by simp; omega) ?_; intro aj8; refine J.c (.assign rfl) ?_; refine J.nil (U.text ?_); refine J.c (.add rfl rfl (by omega)) (J.c (.move rfl) ?_); refine J.nil ?_; refine ⟨_, [(9, .v tG (dB d a b)), (10, .raw aj8), (34, .v tG (dB d a b)), (35, I (((dB d a b).length : Nat) : Int)), (36, I (((i + 1) : Nat) : Int))], ?_, ⟨rfl, rfl, rfl, rfl, rfl, trivial⟩, (i + 1), (if vW bZ bD (dB d a b) i then o else o ++ [(dB d a b).getD i bD]), aj8, rfl, rfl, (by first | rw [if_pos o8] | (rw [if_neg (by rw [o8]; exact Bool.false_ne_true), List.map_append, eC _ _ dI]; rfl)), (by omega), (by split <;> (try rw [List.length_append, List.length_singleton]) <;> omega), (by first | (rw [if_pos o8, hq, J8 dI o8, if_pos hsm]) | (rw [if_neg (by rw [o8]; exact Bool.false_ne_true), hq, RI dI o8, M9]))⟩; omega
    have o8 : vW bZ bD (dB d a b) i = false := by unfold vW; rw [decide_eq_false (by omega)] <;> rfl
    refine VD.skip (VD.skip (VD.nw [] (VD.skip ?_))); refine VD.skip (VD.skip (VD.skip (VD.skip ?_))); refine VD.skip (VD.c (.iD rfl rfl) (VD.go ?_)); refine U.wR rfl ?_; refine U.skip (U.text ?_); refine J.c (.move rfl) (J.c (.fa (.l .o)) ?_); refine J.r (.ld kC) ?_; refine J.call rfl rfl (VF.call (MA (hrp _ (List.getElem_mem _)))) ?_; refine J.new (.lit [(((dB d a b)[i]).1)] fA) ?_; refine J.app rfl rfl fA fA (by simp; omega) ?_; intro UY; refine J.c (.assign rfl) ?_; refine J.nil (U.text ?_); refine J.c (.add rfl rfl (by omega)) (J.c (.move rfl) ?_); refine J.nil ?_; refine ⟨_, [(9, .v tG (dB d a b)), (10, .raw UY), (34, .v tG (dB d a b)), (35, I (((dB d a b).length : Nat) : Int)), (36, I (((i + 1) : Nat) : Int))], ?_, ⟨rfl, rfl, rfl, rfl, rfl, trivial⟩, (i + 1), (if vW bZ bD (dB d a b) i then o else o ++ [(dB d a b).getD i bD]), UY, rfl, rfl, (by first | rw [if_pos o8] | (rw [if_neg (by rw [o8]; exact Bool.false_ne_true), List.map_append, eC _ _ dI]; rfl)), (by omega), (by split <;> (try rw [List.length_append, List.length_singleton]) <;> omega), (by first | (rw [if_pos o8, hq, J8 dI o8, if_pos hsm]) | (rw [if_neg (by rw [o8]; exact Bool.false_ne_true), hq, RI dI o8, M9]))⟩; omega
  refine U.exit (U.seq (U.seq (U.text ?_)))
  have rM : qN bZ NM none (dB d a b) = some o := by rw [hq, ai4 (d := bD) (by omega)]; simp
  refine J.c (.move rfl) ?_; refine J.r (.ZG m0 fA) ?_; refine J.c (.gtr) (J.go ?_); refine U.aN rfl (fun GM => ?_) (fun GM => ?_)
  . refine U.seq (U.text ?_); refine J.c (.assign rfl) (J.c (.assign rfl) (J.go ?_)); refine U.ret ?_; exact aS.two rfl (uV .nil) bO (eZ (by rw [xD BU rM, if_pos (by simpa using GM)])) (dF (by rw [xD BU rM, if_pos (by simpa using GM)]))
  refine U.skip (U.seq (U.text ?_)); refine J.c (.move rfl) (J.c (.assign rfl) (J.c (.assign rfl) (J.go ?_))); refine U.ret ?_; exact aS.two rfl (uV (.row m0)) bO (eZ (by rw [xD BU rM, if_neg (by simpa using GM)])) (dF (by rw [xD BU rM, if_neg (by simpa using GM)]))
end Go.Proofs
namespace Go.Proofs
open Go.Fs Ieee
def smL (a b : Pc) : Bool := AG a.2.2.2.2 b.2.2.2.2
end Go.Proofs
namespace Go.Proofs
open Go.Fs Ieee
theorem FA {d : bM} {a b : Pc} (hd : gG d = 0) (ha : lK d a = 0) (hb : lK d b = 0) : bZ (cY d a) (cY d b) = q8 d a b := by
  have h := LY hd ha hb; unfold bZ; by_cases h2 : 0 <= fQ (cY d a) (cY d b)
  . rw [decide_eq_true h2] at h; rw [decide_eq_false (by omega), <- Bool.not_not (q8 d a b), <- h] <;> rfl
  rw [decide_eq_false h2] at h; rw [decide_eq_true (by omega), <- Bool.not_not (q8 d a b), <- h] <;> rfl
theorem D2 {d : bM} {l : List Pc} (hs : aR d l = 0) : o7 bZ (l.map (cY d)) := by
  obtain ⟨hd, _, hz⟩ := cG hs; refine List.pairwise_iff_getElem.2 fun i j hi hj h => ?_; rw [List.length_map] at hi hj; rw [List.getElem_map, List.getElem_map, dK hi, dK hj]; have := F2 hz j h hj; unfold bZ; exact decide_eq_true (by omega)
theorem j5 {d : bM} {l : List Pc} (hs : aR d l = 0) : ∀ p ∈ l, lK d p = 0 := fun p hp => by
  obtain ⟨i, hi, rfl⟩ := List.getElem_of_mem hp; have := mT ((cG hs).2.2 i hi)
  rwa [<- dK hi] at this
theorem ac8 {d : bM} {a b : List Pc} (ha : aR d a = 0) (hb : aR d b = 0) : qN bZ NM none (dB d a b) = (oP (q8 d) smL a b).map (List.map (cY d)) := by
  have hd := (cG ha).1; unfold dB; rw [ac6 cC (D2 ha) (D2 hb)]; exact F9 (cY d) a b fun x hx y hy => ⟨FA hd (j5 ha x hx) (j5 hb y hy), FA hd (j5 hb y hy) (j5 ha x hx), rfl⟩
theorem ai5 {d : bM} (l : List Pc) : (l.map (cY d)).map (·.1) = l := by rw [List.map_map]; exact List.map_id' l
theorem ag7 {d : bM} {a b : List Pc} (ha : aR d a = 0) (hb : aR d b = 0) : qA d a b = ag6 (oP (q8 d) smL a b) := by
  have h0 : BT d a b = 0 := by unfold BT; rw [ha, hb] <;> rfl
  rw [qA, if_neg (by simpa using h0), ac8 ha hb]
  cases oP (q8 d) smL a b with
  | none => rfl
  | some o => show ag6 (some ((o.map (cY d)).map (·.1))) = _; rw [ai5]
theorem ac9 {d : bM} {l : List Pc} (hs : aR d l = 0) : ∀ p ∈ l, ∀ x ∈ p.2.2.2.2, kN x = 0 := fun p hp => (GR (j5 hs p hp)).2
end Go.Proofs
namespace Go.Proofs
open Go.Fs Ieee
theorem xE {d : bM} {l : List Pc} : aR d l = 0 ↔ gG d = 0 /\ l.length <= 4096 /\ (∀ p ∈ l, lK d p = 0) /\ o7 bZ (l.map (cY d)) := by
  constructor
  . intro h; exact ⟨(cG h).1, (cG h).2.1, j5 h, D2 h⟩
  rintro ⟨h1, h2, h3, h4⟩
  have h0 : mA d l = 0 := by
    unfold mA; rw [bK]; intro e he; rcases List.mem_cons.1 he with rfl | he
    . exact h1
    obtain rfl := List.mem_singleton.1 he; exact zC (by omega)
  unfold aR; rw [if_pos h0, bK]; intro e he; obtain ⟨i, hi, rfl⟩ := List.mem_map.1 he; have dI := List.mem_range.1 hi; unfold gN; rw [bK]; intro e he; rcases List.mem_cons.1 he with rfl | he
  . exact h3 _ (jC dI)
  obtain rfl := List.mem_singleton.1 he
  have hc : (decide (0 < i) && decide (0 <= fQ (cY d (b8 l (i - 1))) (cY d (b8 l i)))) = false := by
    rw [Bool.eq_false_iff, ne_eq, Bool.and_eq_true, decide_eq_true_iff, decide_eq_true_iff]; rintro ⟨h5, h6⟩; have := List.pairwise_iff_getElem.1 h4 (i - 1) i (by rw [List.length_map]; omega) (by rw [List.length_map]; exact dI) (by omega); rw [List.getElem_map, List.getElem_map, dK (by omega), dK dI] at this; unfold bZ at this; rw [decide_eq_true_iff] at this; omega
  rw [hc]; rfl
theorem tL {d : bM} {l k : List Pc} (hs : aR d l = 0) (h : k.Sublist l) : aR d k = 0 := by
  obtain ⟨h1, h2, h3, h4⟩ := xE.1 hs; exact xE.2 ⟨h1, Nat.le_trans h.length_le h2, fun p hp => h3 p (h.subset hp), List.Pairwise.sublist (h.map _) h4⟩
def o9 (l : List Pc) (S : List Nat) : List Pc := ((List.range l.length).filter fun i => decide (i ∈ S)).map (b8 l)
theorem FB (l : List Pc) : (List.range l.length).map (b8 l) = l := List.ext_getElem (by simp) fun i h1 h2 => by
  rw [List.getElem_map, List.getElem_range, <- dK]
theorem tM (l : List Pc) (S : List Nat) : (o9 l S).Sublist l := by
  have := (List.filter_sublist (l := List.range l.length) (p := fun i => decide (i ∈ S))).map (b8 l)
  rwa [FB] at this
theorem UZ {l : List Pc} {S : List Nat} (h : ∀ i, i < l.length -> i ∈ S) : o9 l S = l := by
  unfold o9; rw [List.filter_eq_self.2 fun i hi => decide_eq_true (h i (List.mem_range.1 hi)), FB]
theorem ag8 {l : List Pc} : o9 l [] = [] := by
  unfold o9; rw [List.filter_eq_nil_iff.2 fun i _ => by simp]; rfl
theorem ag9 {l : List Pc} {S : List Nat} (hn : S.Nodup) (h : ∀ i ∈ S, i < l.length) : (o9 l S).length = S.length := by
  unfold o9; rw [List.length_map]; refine List.Perm.length_eq ((List.perm_ext_iff_of_nodup (List.Pairwise.filter _ List.nodup_range) hn).2 fun i => ?_); rw [List.mem_filter, List.mem_range, decide_eq_true_iff]; exact ⟨fun h => h.2, fun hi => ⟨h i hi, hi⟩⟩
theorem acA {n i : Nat} (h : i < n) : ∃ r, List.range n = List.range i ++ i :: r /\ ∀ j ∈ r, i < j := by
  refine ⟨(List.range (n - (i + 1))).map (i + 1 + ·), ?_, fun j hj => ?_⟩
  . have := List.range_add (n := i + 1) (m := n - (i + 1)); rw [show i + 1 + (n - (i + 1)) = n by omega, List.range_succ, List.append_assoc] at this; exact this
  obtain ⟨k, _, rfl⟩ := List.mem_map.1 hj; omega
theorem aa7 {l : List Pc} {S : List Nat} {i : Nat} (h : i < l.length) (hS : i ∉ S) : ∃ A B, o9 l S = A ++ B /\ o9 l (i :: S) = A ++ b8 l i :: B /\ (∀ p ∈ A, ∃ j, j < i /\ p = b8 l j) /\ ∀ p ∈ B, ∃ j, i < j /\ j < l.length /\ p = b8 l j := by
  obtain ⟨r, h1, h2⟩ := acA h
  have hr : ∀ j ∈ r, j < l.length := fun j hj => by
    have : j ∈ List.range l.length := by rw [h1]; exact List.mem_append_right _ (List.mem_cons_of_mem _ hj)
    exact List.mem_range.1 this
  refine ⟨((List.range i).filter fun i => decide (i ∈ S)).map (b8 l), (r.filter fun i => decide (i ∈ S)).map (b8 l), ?_, ?_, ?_, ?_⟩
  . unfold o9; rw [h1, List.filter_append, List.filter_cons_of_neg (by simpa using hS), List.map_append]
  . unfold o9; rw [h1, List.filter_append, List.filter_cons_of_pos (by simp), List.map_append, List.map_cons]; congr 1
    . congr 1; refine List.filter_congr fun j hj => ?_; have := List.mem_range.1 hj; simp [show j ≠ i by omega]
    congr 2; refine List.filter_congr fun j hj => ?_; have := h2 j hj; simp [show j ≠ i by omega]
  . rintro p hp; obtain ⟨j, hj, rfl⟩ := List.mem_map.1 hp; exact ⟨j, List.mem_range.1 (List.mem_filter.1 hj).1, rfl⟩
  rintro p hp; obtain ⟨j, hj, rfl⟩ := List.mem_map.1 hp; have := (List.mem_filter.1 hj).1; exact ⟨j, h2 j this, hr j this, rfl⟩
section
variable {α : Type} {lt same : α -> α -> Bool}
theorem aa8 {x : α} : ∀ {A B : List α}, (∀ a ∈ A, lt a x = true) -> (∀ b ∈ B, lt x b = true /\ lt b x = false) -> oP lt same (A ++ B) [x] = some (A ++ x :: B)
  | [], [], _, _ => by simp [oP]
  | [], b :: B, _, hb => by
    obtain ⟨h1, h2⟩ := hb b List.mem_cons_self
    rw [List.nil_append, oP, if_neg (by rw [h2]; exact Bool.false_ne_true), if_pos h1, oP]; rfl
  | a :: A, B, ha, hb => by
    rw [List.cons_append, oP, if_pos (ha a List.mem_cons_self), aa8 (fun a h => ha a (List.mem_cons_of_mem _ h)) hb]; rfl
end
theorem RK {v : List Nat} (h : ∀ x ∈ v, kN x = 0) : AG v v = true := by
  refine decide_eq_true ⟨rfl, fun i hi => ?_⟩; have h1 := h _ (List.getElem_mem hi); have h2 := QZ h1; rw [eC _ _ hi, (EM h2.1 h2.1).2.1]; exact decide_eq_false (by simp)
theorem J9 {d : bM} {l : List Pc} (hs : aR d l = 0) {i j : Nat} (h : i < j) (hj : j < l.length) : q8 d (b8 l i) (b8 l j) = true /\ q8 d (b8 l j) (b8 l i) = false := by
  have hd := (cG hs).1; have e1 := FA hd (j5 hs _ (jC (show i < l.length by omega))) (j5 hs _ (jC hj)); have e2 := FA hd (j5 hs _ (jC hj)) (j5 hs _ (jC (show i < l.length by omega))); have h2 := F2 (cG hs).2.2 j h hj; have h3 : bZ (cY d (b8 l i)) (cY d (b8 l j)) = true := decide_eq_true (by omega); exact ⟨e1 ▸ h3, e2 ▸ cC.asym _ _ h3⟩
theorem V0 {d : bM} {a b r : List Pc} (ha : aR d a = 0) (hb : aR d b = 0) (h : oP (q8 d) smL a b = some r) (hr : r.length <= 4096) : qA d a b = (r, 0) := by
  rw [ag7 ha hb, h]; show (if (4096 : Int) < (r.length : Nat) then (([], 5) : List Pc × Int) else (r, 0)) = _; rw [if_neg (by omega)]
theorem MD {d : bM} {l : List Pc} (hs : aR d l = 0) {i : Nat} (hi : i < l.length) : aR d [b8 l i] = 0 := tL hs (List.singleton_sublist.2 (jC hi))
theorem acB {d : bM} {l : List Pc} (hs : aR d l = 0) {S : List Nat} {i : Nat} (hi : i < l.length) (hS : i ∉ S) : qA d (o9 l S) [b8 l i] = (o9 l (i :: S), 0) := by
  obtain ⟨A, B, h1, h2, h3, h4⟩ := aa7 hi hS; refine V0 (tL hs (tM l S)) (MD hs hi) ?_ (Nat.le_trans (tM l _).length_le (cG hs).2.1); rw [h1, h2]; refine aa8 (fun a ha => ?_) fun b hb => ?_
  . obtain ⟨j, h5, rfl⟩ := h3 a ha; exact (J9 hs h5 hi).1
  obtain ⟨j, h5, h6, rfl⟩ := h4 b hb; exact J9 hs h5 h6
theorem sF {l : List Pc} {r : Int} {s : Sl} : lost l r s = true ↔ ∀ p ∈ l, ¬ (p.1 = r /\ nN p = s) := by
  unfold lost HZ; rw [decide_eq_true_iff]; by_cases h : l.findIdx (xP r s) < l.length
  . rw [if_pos h]; refine ⟨fun hh => by omega, fun hh => ?_⟩; have h1 : xP r s l[l.findIdx (xP r s)] = true := List.findIdx_getElem (w := h); exact absurd (AH.1 h1) (hh _ (List.getElem_mem h))
  rw [if_neg h]; refine ⟨fun _ p hp hh => ?_, fun _ => by omega⟩; have h5 : l.findIdx (xP r s) = l.length := Nat.le_antisymm List.findIdx_le_length (by omega); have h4 := List.findIdx_eq_length.1 h5 _ hp; rw [AH.2 hh] at h4; cases h4
theorem I5 {α : Type} [DecidableEq α] {p : α -> Bool} {x : α} : ∀ {xs : List α}, xs.Nodup -> x ∈ xs -> p x = true -> (xs.filter p).length = (xs.filter fun y => p y && decide (y ≠ x)).length + 1
  | [], _, h, _ => by cases h
  | a :: xs, hn, h, hp => by
    obtain ⟨h1, h2⟩ := List.nodup_cons.1 hn; by_cases he : a = x
    . subst he; rw [List.filter_cons_of_pos hp, List.filter_cons_of_neg (by simp), List.length_cons]; congr 2; refine List.filter_congr fun y hy => ?_; have : y ≠ a := fun e => h1 (e ▸ hy); simp [this]
    have hx : x ∈ xs := (List.mem_cons.1 h).resolve_left fun e => he e.symm; have ih := I5 h2 hx hp
    cases ha : p a with
    | true => rw [List.filter_cons_of_pos ha, List.filter_cons_of_pos (by simp [ha, he]), List.length_cons, List.length_cons, ih]
    | false => rw [List.filter_cons_of_neg (by simp [ha]), List.filter_cons_of_neg (by simp [ha]), ih]
theorem kS {l : List Pc} {S : List Nat} {p : Pc} : p ∈ o9 l S ↔ ∃ j, j < l.length /\ j ∈ S /\ p = b8 l j := by
  unfold o9; rw [List.mem_map]; constructor
  . rintro ⟨j, hj, rfl⟩; obtain ⟨h1, h2⟩ := List.mem_filter.1 hj; exact ⟨j, List.mem_range.1 h1, of_decide_eq_true h2, rfl⟩
  rintro ⟨j, h1, h2, rfl⟩; exact ⟨j, List.mem_filter.2 ⟨List.mem_range.2 h1, decide_eq_true h2⟩, rfl⟩
theorem YJ {d : bM} {l : List Pc} (hs : aR d l = 0) {S : List Nat} {i : Nat} (hi : i < l.length) (hS : i ∉ S) : (cK d (o9 l S) (b8 l i).1).length = (cK d (o9 l (i :: S)) (b8 l i).1).length + 1 := by
  have hd := (cG hs).1; have hp := j5 hs _ (jC hi); have hx := UQ hd hp
  have akS : lost (o9 l S) (b8 l i).1 (nN (b8 l i)) = true := sF.2 fun p hp hh => by
    obtain ⟨j, h1, h2, rfl⟩ := kS.1 hp; have := CZ (cG hs).2.2 h1 hi hh.1 hh.2; subst this; exact hS h2
  have h1 := I5 (F5 hd) hx akS
  have h2 : ((iQ d).filter fun y => lost (o9 l S) (b8 l i).1 y && decide (y ≠ nN (b8 l i))) = (iQ d).filter (lost (o9 l (i :: S)) (b8 l i).1) := by
    refine List.filter_congr fun y _ => ?_; rw [Bool.eq_iff_iff, Bool.and_eq_true, sF, sF, decide_eq_true_iff]; constructor
    . rintro ⟨h3, h4⟩ p hp hh; obtain ⟨j, h5, h6, rfl⟩ := kS.1 hp; rcases List.mem_cons.1 h6 with rfl | h6
      . exact h4 hh.2.symm
      exact h3 _ (kS.2 ⟨j, h5, h6, rfl⟩) hh
    intro h3; refine ⟨fun p hp hh => ?_, fun e => ?_⟩
    . obtain ⟨j, h5, h6, rfl⟩ := kS.1 hp; exact h3 _ (kS.2 ⟨j, h5, List.mem_cons_of_mem _ h6, rfl⟩) hh
    exact h3 _ (kS.2 ⟨i, hi, List.mem_cons_self, rfl⟩) ⟨rfl, e.symm⟩
  rw [h2] at h1; exact h1
theorem ai6 {d : bM} {p : Pc} (h : lK d p = 0) : aM p.1 0 100000 = 0 := by
  have h5 := (GR h).1; unfold kQ at h5; rw [bK] at h5; exact h5 _ List.mem_cons_self
theorem s8 {d : bM} {l : List Pc} {n : Int} (h1 : aR d l = 0) (h2 : aM n 0 100000 = 0) : fX d l n = 0 := by rw [Y5, if_neg (by simpa using h1)]; exact h2
end Go.Proofs
namespace Go.Proofs
open Go.Fs Ieee
end Go.Proofs
namespace Go.Proofs
open Go.Fs Ieee
def lD (x : Int) : Int := (742938285 * x).tmod 2147483647
def drE : Nat -> Int -> List Int -> List Int
  | 0, _, o => o
  | 1, _, o => o
  | m + 2, x, o => drE (m + 1) (lD x) (swp o (m + 1) ((lD x).tmod ((m : Int) + 2)).toNat 0)
def xS (n i : Nat) : List Int := (List.range i).map (fun j : Nat => (j : Int)) ++ List.replicate (n - i) 0
def fY (key : Int) (n : Nat) : List Int := drE n key (xS n n)
theorem ME {n i : Nat} (h : i <= n) : (xS n i).length = n := by simp [xS]; omega
theorem agA {n i : Nat} (h : i < n) : (xS n i).set i (i : Int) = xS n (i + 1) := by
  unfold xS; obtain ⟨k, hk⟩ : ∃ k, n - i = k + 1 := ⟨n - i - 1, by omega⟩; rw [List.set_append_right _ _ (by simp), hk, show n - (i + 1) = k by omega]; simp [List.range_succ, List.replicate_succ]
theorem yG {x : Int} (h0 : 0 <= x) : 0 <= lD x /\ lD x < 2147483647 := by
  unfold lD; rw [Int.tmod_eq_emod_of_nonneg (by omega)]; omega
theorem V1 : ∀ (m : Nat) (x : Int) (o : List Int), m <= o.length -> 0 <= x -> (drE m x o).Perm o
  | 0, _, o, _, _ => List.Perm.refl _
  | 1, _, o, _, _ => List.Perm.refl _
  | m + 2, x, o, h, h0 => by
    rw [drE]; obtain ⟨h1, h2⟩ := yG h0
    have hk : ((lD x).tmod ((m : Int) + 2)).toNat < m + 2 := by
      rw [Int.tmod_eq_emod_of_nonneg h1]; have := Int.emod_lt_of_pos (lD x) (show (0 : Int) < (m : Int) + 2 by omega); have := Int.emod_nonneg (lD x) (show ((m : Int) + 2) ≠ 0 by omega); omega
    refine (V1 (m + 1) _ _ (by rw [tC]; omega) h1).trans ?_; unfold swp; rw [eC _ _ (by omega), eC _ _ (by omega)]; exact List.set_set_perm (by omega) (by omega)
theorem acC {key : Int} {n : Nat} (h0 : 0 <= key) (h1 : key < 4294967296) (hn : n <= 100000) : gS Tryz.prog OA 9 [I key, I ((n : Nat) : Int)] [] (fun r g => ∃ w, r = .raw w /\ g = [(w, .row 3 (.int .i64) (fY key n))]) := by
  refine gS.enter Tryz.func9 rfl (fun _ _ => rfl) rfl ?_; show U _ _ _ _ _ [(0, I key), (1, I ((n : Nat) : Int))] [] _; refine U.seq (U.text ?_); refine J.c (.assign rfl) ?_; refine J.go (U.seq (U.text ?_)); refine J.c (.move rfl) ?_; refine J.cell (.make (k := n) rfl rfl dG zt3 (by omega)) ?_; intro fV; refine J.c (.assign rfl) ?_; refine J.go (U.seq (U.seq (U.text ?_))); refine J.c (.assign rfl) ?_; refine J.go (U.block ?_); refine U.aW [(0, I key), (1, I ((n : Nat) : Int)), (5, .raw fV), (6, I ((0 : Nat) : Int))] ⟨rfl, rfl, rfl, rfl, trivial⟩ ?_; refine U.loop (I := fun kk ff ss => ∃ (i : Nat), kk = n - i /\ ff = [(0, I key), (1, I ((n : Nat) : Int)), (5, .raw fV), (6, I ((i : Nat) : Int))] /\ ss = [(fV, .row 3 (.int .i64) (xS n i))] /\ (i <= n)) ?_ _ _ _ ⟨0, rfl, rfl, (by rw [show xS n 0 = List.replicate n (0 : Int) by simp [xS]] <;> rfl), Nat.zero_le _⟩; rintro kk ff ss ⟨i, iI, rfl, rfl, hi⟩; have hl := ME hi; refine U.seq (U.seq (U.text ?_)); refine J.c (.move rfl) (J.c (.move rfl) (J.c (.lss) (J.go ?_))); refine U.aN rfl (fun c3 => ?_) (fun c3 => ?_)
  . refine U.skip (U.seq (U.block (U.text ?_))); refine J.c (.move rfl) (J.c (.move rfl) (J.c (.move rfl) (J.c (.oJ (j := i) rfl rfl m0 dG (by omega)) ?_))); refine J.u6 i rfl rfl bP (by omega) ?_; refine J.nil (U.text ?_); refine J.c (.move rfl) (J.c (.add rfl rfl (by omega)) (J.c (.assign rfl) ?_)); refine J.nil ?_; refine ⟨_, [(0, I key), (1, I ((n : Nat) : Int)), (5, .raw fV), (6, I (((i + 1) : Nat) : Int))], ?_, ⟨rfl, rfl, rfl, rfl, trivial⟩, (i + 1), rfl, rfl, (by rw [agA (show i < n by omega)]), (by omega)⟩; omega
  refine U.exit (U.seq (U.text ?_)); refine J.c (.move rfl) (J.c (.assign rfl) ?_); refine J.go (U.seq (U.seq (U.text ?_))); refine J.c (.move rfl) (J.c (.sub rfl rfl (by omega)) (J.c (.assign rfl) ?_)); refine J.go (U.block ?_); refine U.aW [(5, .raw fV), (7, I key), (8, I (((n : Nat) : Int) - 1))] ⟨rfl, rfl, rfl, trivial⟩ ?_; refine U.loop (I := fun kk ff ss => ∃ (m : Nat) (x : Int) (o : List Int), kk = m /\ ff = [(5, .raw fV), (7, I x), (8, I (((m : Nat) : Int) - 1))] /\ ss = [(fV, .row 3 (.int .i64) o)] /\ (m <= n) /\ (0 <= x /\ x < 4294967296) /\ (o.length = n) /\ (fY key n = drE m x o)) ?_ _ _ _ ⟨n, key, xS n n, rfl, rfl, (by rw [show i = n by omega]), (by omega), (by omega), (by exact ME (Nat.le_refl _)), (by rfl)⟩; rintro kk ff ss ⟨m, x, o, nU, rfl, rfl, hm, hx, ho, hd⟩; refine U.seq (U.seq (U.text ?_)); refine J.c (.move rfl) (J.c (.gtr) (J.go ?_)); refine U.aN rfl (fun c8 => ?_) (fun c8 => ?_)
  . have fS : 2 <= m := by omega
    have j6 := yG hx.1; refine U.skip (U.seq (U.block (U.seq (U.text ?_)))); refine J.c (.move rfl) ?_; rw [show ((m : Nat) : Int) - 1 = ((m - 1 : Nat) : Int) by omega]; refine J.c (.mul rfl rfl (by omega)) (J.c (.rem rfl rfl (by decide)) ?_); rw [show (742938285 * x).tmod 2147483647 = lD x from rfl]; refine J.c (.assign rfl) ?_; refine J.go (U.seq (U.text ?_)); refine J.c (.move rfl) (J.c (.move rfl) (J.c (.add rfl rfl (by omega)) (J.c (.rem rfl rfl (by omega)) ?_)))
    have hk : 0 <= (lD x).tmod (((m - 1 : Nat) : Int) + (1 : Int)) /\ (lD x).tmod (((m - 1 : Nat) : Int) + (1 : Int)) < m := by
      rw [Int.tmod_eq_emod_of_nonneg j6.1]; have := Int.emod_lt_of_pos (lD x) (show (0 : Int) < ((m - 1 : Nat) : Int) + 1 by omega); have := Int.emod_nonneg (lD x) (show (((m - 1 : Nat) : Int) + 1) ≠ 0 by omega); omega
    refine J.c (.assign rfl) ?_; refine J.go (U.drawn ?_); refine VD.c (.move rfl) (VD.c (.move rfl) (VD.c (.move rfl) (VD.c (.move rfl) ?_))); refine VD.c (.move rfl) (VD.c (.move rfl) (VD.nw [] ?_)); refine VD.co (.aiM (k := ((lD x).tmod (((m - 1 : Nat) : Int) + (1 : Int)))) rfl rfl m0 dG (by omega) (by omega)) ?_; refine VD.r [(fV, .row 3 (.int .i64) o)] (.q6 0 rfl m0 bP (by omega)) (.inr ⟨rfl, rfl⟩) ?_; refine VD.c (.move rfl) (VD.c (.move rfl) ?_); refine VD.co (.oJ (j := (m - 1)) rfl rfl m0 dG (by omega)) ?_; refine VD.r [(fV, .row 3 (.int .i64) o)] (.q6 0 rfl m0 bP (by omega)) (.inr ⟨rfl, rfl⟩) ?_; refine VD.co (.oJ (j := (m - 1)) rfl rfl m0 dG (by omega)) ?_; refine VD.nw [] ?_; refine VD.rJ (cA.u6 (j := (m - 1)) bP (by omega) rfl rfl) ?_; rintro _ _ tl2 ⟨rfl, rfl⟩; refine VD.co (.aiM (k := ((lD x).tmod (((m - 1 : Nat) : Int) + (1 : Int)))) rfl rfl m0 dG (by omega) (by simp; omega)) ?_; refine VD.rJ (cA.u6 (j := (Int.toNat ((lD x).tmod (((m - 1 : Nat) : Int) + (1 : Int))))) bP (by simp; omega) rfl rfl) ?_; rintro _ _ tl3 ⟨rfl, rfl⟩; refine VD.nil ?_; refine U.text ?_; refine J.c (.move rfl) (J.c (.sub rfl rfl (by omega)) (J.c (.assign rfl) ?_)); refine J.nil ?_; refine ⟨_, [(5, .raw fV), (7, I (lD x)), (8, I ((((m - 1) : Nat) : Int) - 1))], ?_, ⟨rfl, iK rfl (by first | rfl | simp | omega), iK rfl (by omega), trivial⟩, (m - 1), (lD x), (swp o (m - 1) ((lD x).tmod (((m - 1 : Nat) : Int) + (1 : Int))).toNat 0), rfl, rfl, (by rfl), (by omega), (by have := yG hx.1; omega), (by rw [tC]; exact ho), (by obtain ⟨q, rfl⟩ : ∃ q, m = q + 2 := ⟨m - 2, by omega⟩; rw [hd, drE, show q + 2 - 1 = q + 1 from rfl, show (((q + 1 : Nat) : Int)) + (1 : Int) = (q : Int) + 2 by omega])⟩; omega
  refine U.exit (U.seq (U.text ?_)); refine J.c (.move rfl) (J.c (.assign rfl) (J.go ?_)); refine U.ret ?_; exact uW.row rfl bO ⟨fV, rfl, (by rw [hd]; have h01 : m = 0 \/ m = 1 := (by omega); rcases h01 with h | h <;> subst h <;> rfl)⟩
theorem D3 {key : Int} {n : Nat} (h : 0 <= key) : (fY key n).Perm ((List.range n).map (fun j : Nat => (j : Int))) := by
  have := V1 n key (xS n n) (Nat.le_of_eq (ME (Nat.le_refl _)).symm) h; unfold fY; refine this.trans ?_; simp [xS]
theorem acD {key : Int} {n : Nat} (h : 0 <= key) : (fY key n).length = n := by rw [(D3 h).length_eq]; simp
def fR (key : Int) (n : Nat) : List Nat := (fY key n).map Int.toNat
theorem vX {key : Int} {n : Nat} (h : 0 <= key) : (fR key n).Perm (List.range n) := by
  have := (D3 (n := n) h).map Int.toNat; rw [List.map_map] at this; exact this.trans (by rw [show ((Int.toNat ∘ fun j => (j : Int)) : Nat -> Nat) = id from funext fun j => by simp, List.map_id])
theorem xF {key : Int} {n : Nat} (h : 0 <= key) : (fR key n).Nodup := (vX h).nodup_iff.2 List.nodup_range
theorem acE {key : Int} {n : Nat} (h : 0 <= key) {x : Int} (hx : x ∈ fY key n) : 0 <= x /\ x < n := by
  obtain ⟨j, hj, rfl⟩ := List.mem_map.1 ((D3 h).mem_iff.1 hx); have := List.mem_range.1 hj; omega
end Go.Proofs
namespace Go.Proofs
open Go.Fs Ieee
theorem ZO {p q r : Nat} (h : Ieee.single.sub p q = some r) : OH .sub .f32 p q = some r := h
def stK (l : List Pc) (K : Int) (k : Nat) : List Pc := o9 l ((fR K l.length).take k)
structure anR (d : bM) (l : List Pc) (K : Int) (k i : Nat) : Prop where
  lt : i < l.length
  at_ : (fY K l.length).getD k 0 = (i : Int)
  more : qA d (stK l K k) [b8 l i] = (stK l K (k + 1), 0)
  again : qA d [b8 l i] (stK l K (k + 1)) = (stK l K (k + 1), 0)
  ao9 : (cK d (stK l K k) (b8 l i).1).length = (cK d (stK l K (k + 1)) (b8 l i).1).length + 1
  run : aM (b8 l i).1 0 100000 = 0
end Go.Proofs
namespace Go.Proofs
open Go.Fs Ieee
set_option maxHeartbeats 1000000
def uH (p : Pc) : Pc := (p.1 + 1, p.2)
def MF (l : List Pc) (p : Pc) : Bool := decide (p.1 = (b8 l 0).1) && decide (p.1 < 100000)
def dM (l : List Pc) (i : Nat) : List Pc := (l.take i).filter (MF l)
def jI (l : List Pc) (i : Nat) : List Pc := (dM l i).map uH
def aD (l : List Pc) : List Pc := dM l l.length ++ jI l l.length
theorem agB {l : List Pc} {i : Nat} (hi : i < l.length) (h : MF l l[i] = true) : dM l (i + 1) = dM l i ++ [l[i]] := by
  unfold dM; rw [List.take_succ_eq_append_getElem hi, List.filter_append]; simp [h]
theorem YK {l : List Pc} {i : Nat} (hi : i < l.length) (h : MF l l[i] = false) : dM l (i + 1) = dM l i := by
  unfold dM; rw [List.take_succ_eq_append_getElem hi, List.filter_append]; simp [h]
theorem akT {l : List Pc} {i : Nat} (hi : i < l.length) (h : MF l l[i] = true) : jI l (i + 1) = jI l i ++ [uH l[i]] := by
  unfold jI; rw [agB hi h, List.map_append]; rfl
theorem agC {l : List Pc} {i : Nat} (hi : i < l.length) (h : MF l l[i] = false) : jI l (i + 1) = jI l i := by unfold jI; rw [YK hi h]
theorem MG {l : List Pc} {i : Nat} (hi : i <= l.length) : (dM l i).length <= i := by
  have := List.length_filter_le (MF l) (l.take i); unfold dM; rw [List.length_take] at this; omega
theorem FC {l : List Pc} {i : Nat} : (jI l i).length = (dM l i).length := List.length_map ..
theorem oA {l : List Pc} {i : Nat} {p : Pc} (h : p ∈ dM l i) : p.1 = (b8 l 0).1 /\ p.1 < 100000 := by
  have := (List.mem_filter.1 h).2; unfold MF at this; rw [Bool.and_eq_true, decide_eq_true_eq, decide_eq_true_eq] at this; exact this
theorem FD {l : List Pc} {i : Nat} : (dM l i).Sublist l := List.filter_sublist.trans (List.take_sublist _ _)
theorem GU {d : bM} {l : List Pc} (hs : aR d l = 0) {i : Nat} : aR d (dM l i) = 0 := tL hs FD
theorem MH {d : bM} {p : Pc} (h : lK d p = 0) : 0 <= p.1 /\ p.1 <= 100000 := by
  have := ai6 h; unfold aM at this; split at this
  . cases this
  omega
theorem acF {d : bM} {p : Pc} (h : lK d p = 0) (h1 : p.1 < 100000) : lK d (uH p) = 0 := by
  have hr := MH h
  have e : kQ d (uH p) = kQ d p := by
    unfold kQ uH
    have e1 : aM (p.1 + 1) 0 100000 = aM p.1 0 100000 := by
      unfold aM; rw [if_neg (by omega), if_neg (by omega)]
    simp only [e1]
  unfold lK at h ⊢; rw [e]; exact h
theorem acG {d : bM} {p q : Pc} : fQ (cY d (uH p)) (cY d (uH q)) = fQ (cY d p) (cY d q) := by
  unfold fQ
  have : jF (p.1 + 1) (q.1 + 1) = jF p.1 q.1 := by
    unfold jF; by_cases h1 : p.1 < q.1
    . rw [if_pos h1, if_pos (by omega)]
    by_cases h2 : q.1 < p.1
    . rw [if_neg h1, if_neg (by omega), if_pos h2, if_pos (by omega)]
    rw [if_neg h1, if_neg (by omega), if_neg h2, if_neg (by omega)]
  show aO [jF (p.1 + 1) (q.1 + 1), _, _, _] = _; rw [this]; rfl
theorem YL {d : bM} {p q : Pc} (h : p.1 < q.1) : fQ (cY d p) (cY d q) = -1 := by
  unfold fQ; have : jF (cY d p).1.1 (cY d q).1.1 = -1 := UA h; rw [this]; rfl
theorem V2 {d : bM} {l : List Pc} (hs : aR d l = 0) (h60 : l.length <= 60) : aR d (aD l) = 0 := by
  obtain ⟨h1, h2, h3, h4⟩ := xE.1 (GU hs (i := l.length)); have hl := MG (l := l) (i := l.length) (Nat.le_refl _); refine xE.2 ⟨h1, ?_, fun p hp => ?_, ?_⟩
  . unfold aD; rw [List.length_append, FC]; omega
  . rcases List.mem_append.1 hp with h | h
    . exact h3 p h
    obtain ⟨q, hq, rfl⟩ := List.mem_map.1 h; exact acF (h3 q hq) (oA hq).2
  unfold aD o7; rw [List.map_append, List.pairwise_append]; refine ⟨h4, ?_, fun a ha b hb => ?_⟩
  . unfold jI; rw [List.map_map, List.pairwise_map]; have h5 := List.pairwise_map.1 h4; refine h5.imp fun {a b} h => ?_; unfold bZ at h ⊢; rw [decide_eq_true_eq] at h ⊢; show fQ (cY d (uH a)) (cY d (uH b)) < 0; rw [acG]; exact h
  obtain ⟨p, hp, rfl⟩ := List.mem_map.1 ha; obtain ⟨q, hq, rfl⟩ := List.mem_map.1 hb; obtain ⟨r, hr, rfl⟩ := List.mem_map.1 hq; have e1 := (oA hp).1; have e2 := (oA hr).1; unfold bZ; rw [decide_eq_true_eq, YL (by show p.1 < r.1 + 1; omega)]; decide
section
variable {d : bM} {l : List Pc}
def b9 (l : List Pc) : Nat := (dM l l.length).length
theorem eY : (aD l).length = 2 * b9 l := by unfold aD b9; rw [List.length_append, FC]; omega
theorem zG {i : Nat} (h : i < b9 l) : b8 (aD l) i = b8 (dM l l.length) i := by
  have h2 := eY (l := l); rw [<- dK (show i < (aD l).length by omega), <- dK (show i < (dM l l.length).length from h)]; simp only [aD]; rw [List.getElem_append_left]
theorem zH {i : Nat} (h : i < b9 l) : b8 (aD l) (b9 l + i) = uH (b8 (dM l l.length) i) := by
  have h2 := eY (l := l); rw [<- dK (show b9 l + i < (aD l).length by omega), <- dK (show i < (dM l l.length).length from h)]; simp only [aD]; rw [List.getElem_append_right (by unfold b9; omega)]; simp only [jI, List.getElem_map]; congr 1; congr 1; unfold b9; omega
theorem xG {i : Nat} (h : i < b9 l) : (b8 (aD l) i).1 = (b8 l 0).1 := by
  rw [zG h]; exact (oA (jC h)).1
theorem xH {i : Nat} (h : i < b9 l) : (b8 (aD l) (b9 l + i)).1 = (b8 l 0).1 + 1 := by
  rw [zH h]; show (b8 (dM l l.length) i).1 + 1 = _; rw [(oA (jC (l := dM l l.length) h)).1]
def vY (m : Nat) (o : List Nat) (k : Nat) : List Nat := ((o.take k).map (m + ·)).reverse ++ List.range m
def jJ (l : List Pc) (o : List Nat) (k : Nat) : List Pc := o9 (aD l) (vY (b9 l) o k)
theorem PA {m k : Nat} {o : List Nat} (h : k < o.length) : vY m o (k + 1) = (m + o[k]) :: vY m o k := by
  unfold vY; rw [List.take_succ_eq_append_getElem h, List.map_append, List.reverse_append]; rfl
theorem xI {m : Nat} {o : List Nat} (ho : o.Nodup) (k : Nat) : (vY m o k).Nodup := by
  unfold vY; rw [List.nodup_append]; refine ⟨?_, List.nodup_range, fun a ha b hb => ?_⟩
  . exact List.pairwise_reverse.2 (List.Pairwise.map (R := fun a b => a ≠ b) _ (fun a b h => by omega) (ho.sublist (List.take_sublist _ _)))
  rw [List.mem_reverse, List.mem_map] at ha; obtain ⟨x, _, rfl⟩ := ha; rw [List.mem_range] at hb; omega
theorem MI {m k : Nat} {o : List Nat} (ho : ∀ x ∈ o, x < m) : ∀ i ∈ vY m o k, i < 2 * m := fun i hi => by
  unfold vY at hi; rcases List.mem_append.1 hi with h | h
  . rw [List.mem_reverse, List.mem_map] at h; obtain ⟨x, hx, rfl⟩ := h; have := ho x (List.mem_of_mem_take hx); omega
  rw [List.mem_range] at h; omega
theorem agD {m k : Nat} {o : List Nat} (hk : k <= o.length) : (vY m o k).length = m + k := by
  unfold vY; rw [List.length_append, List.length_reverse, List.length_map, List.length_take, List.length_range]; omega
theorem YM : o9 (aD l) (List.range (b9 l)) = dM l l.length := by
  have h2 := eY (l := l); unfold o9
  have e : (List.range (aD l).length).filter (fun i => decide (i ∈ List.range (b9 l))) = List.range (b9 l) := by
    have h3 : (aD l).length = b9 l + b9 l := by omega
    rw [h3, List.range_add, List.filter_append]; rw [List.filter_eq_self.2 (fun a ha => decide_eq_true ha), List.filter_eq_nil_iff.2, List.append_nil]; intro a ha; obtain ⟨x, _, rfl⟩ := List.mem_map.1 ha; rw [decide_eq_true_eq, List.mem_range]; omega
  rw [e]; have e2 : (List.range (b9 l)).map (b8 (aD l)) = (List.range (b9 l)).map (b8 (dM l l.length)) := List.map_congr_left fun i hi => zG (List.mem_range.1 hi); rw [e2]; exact FB _
theorem PB {o : List Nat} : jJ l o 0 = dM l l.length := by
  unfold jJ vY; rw [List.take_zero]; exact YM
theorem agE {o : List Nat} (hn : o.Nodup) (ho : ∀ x ∈ o, x < b9 l) {k : Nat} (hk : k <= o.length) : (jJ l o k).length = b9 l + k := by
  unfold jJ; rw [ag9 (xI hn k) (fun i hi => by rw [eY]; exact MI ho i hi), agD hk]
theorem V3 {o : List Nat} (hp : o.Perm (List.range (b9 l))) : jJ l o o.length = aD l := by
  refine UZ fun i hi => ?_; rw [eY] at hi; unfold vY; rw [List.take_length]; rcases Nat.lt_or_ge i (b9 l) with h | h
  . exact List.mem_append_right _ (List.mem_range.2 h)
  refine List.mem_append_left _ (List.mem_reverse.2 (List.mem_map.2 ⟨i - b9 l, hp.mem_iff.2 (List.mem_range.2 (by omega)), by omega⟩))
theorem acH (hs : aR d (aD l) = 0) {o : List Nat} (hn : o.Nodup) (ho : ∀ x ∈ o, x < b9 l) {k : Nat} (hk : k < o.length) : qA d (jJ l o k) [b8 (aD l) (b9 l + o[k])] = (jJ l o (k + 1), 0) := by
  unfold jJ; rw [PA hk]; have h1 := ho o[k] (List.getElem_mem hk); have h2 := xI (m := b9 l) hn (k + 1); rw [PA hk, List.nodup_cons] at h2; exact acB hs (by rw [eY]; omega) h2.1
theorem MJ (hs : aR d (aD l) = 0) {o : List Nat} {k : Nat} : aR d (jJ l o k) = 0 := tL hs (tM _ _)
theorem aa9 {α : Type} {lt same : α -> α -> Bool} {x : α} : ∀ {A B : List α}, (∀ a ∈ A, lt a x = true /\ lt x a = false) -> (∀ b ∈ B, lt x b = true) -> oP lt same [x] (A ++ B) = some (A ++ x :: B)
  | [], [], _, _ => by simp [oP]
  | [], b :: B, _, hb => by
    have h1 := hb b List.mem_cons_self
    rw [List.nil_append, oP, if_pos h1, oP]; rfl
  | a :: A, B, ha, hb => by
    obtain ⟨h3, h4⟩ := ha a List.mem_cons_self; rw [List.cons_append, oP, if_neg (by rw [h4]; exact Bool.false_ne_true), if_pos h3, aa9 (fun a h => ha a (List.mem_cons_of_mem _ h)) hb]; rfl
theorem agF {d : bM} {l : List Pc} (hs : aR d l = 0) {S : List Nat} {i : Nat} (hi : i < l.length) (hS : i ∉ S) : qA d [b8 l i] (o9 l S) = (o9 l (i :: S), 0) := by
  obtain ⟨A, B, h1, h2, h3, h4⟩ := aa7 hi hS; refine V0 (MD hs hi) (tL hs (tM l S)) ?_ (Nat.le_trans (tM l _).length_le (cG hs).2.1); rw [h1, h2]; refine aa9 (fun a ha => ?_) fun b hb => ?_
  . obtain ⟨j, h5, rfl⟩ := h3 a ha; exact J9 hs h5 hi
  obtain ⟨j, h5, h6, rfl⟩ := h4 b hb; exact (J9 hs h5 h6).1
def RL (m j : Nat) : List Nat := (List.range' (m - j) j) ++ (List.range m).map (m + ·)
def MK (l : List Pc) (j : Nat) : List Pc := o9 (aD l) (RL (b9 l) j)
theorem acI {m j : Nat} (h : j < m) : RL m (j + 1) = (m - 1 - j) :: RL m j := by
  unfold RL; rw [List.range'_succ, show m - (j + 1) + 1 = m - j by omega, show m - (j + 1) = m - 1 - j by omega]; rfl
theorem agG {m j : Nat} (h : j < m) : m - 1 - j ∉ RL m j := by
  unfold RL; intro hm; rcases List.mem_append.1 hm with h1 | h1
  . rw [List.mem_range'_1] at h1; omega
  obtain ⟨x, _, hx⟩ := List.mem_map.1 h1; omega
theorem acJ : MK l 0 = jI l l.length := by
  have h2 := eY (l := l); unfold MK o9 RL
  have e : (List.range (aD l).length).filter (fun i => decide (i ∈ List.range' (b9 l - 0) 0 ++ (List.range (b9 l)).map (b9 l + ·))) = (List.range (b9 l)).map (b9 l + ·) := by
    have h3 : (aD l).length = b9 l + b9 l := by omega
    rw [h3, List.range_add, List.filter_append]; rw [List.filter_eq_nil_iff.2, List.nil_append, List.filter_eq_self.2]
    . intro a ha; exact decide_eq_true (List.mem_append_right _ ha)
    intro a ha; rw [decide_eq_true_eq]; intro h; rcases List.mem_append.1 h with h | h
    . rw [List.mem_range'_1] at h; omega
    obtain ⟨x, _, rfl⟩ := List.mem_map.1 h; rw [List.mem_range] at ha; omega
  rw [e, List.map_map]; have e2 : (List.range (b9 l)).map (b8 (aD l) ∘ (b9 l + ·)) = (List.range (b9 l)).map (uH ∘ b8 (dM l l.length)) := List.map_congr_left fun i hi => zH (List.mem_range.1 hi); rw [e2, <- List.map_map]; unfold jI; congr 1; exact FB _
theorem agH : MK l (b9 l) = aD l := by
  refine UZ fun i hi => ?_; rw [eY] at hi; unfold RL; rcases Nat.lt_or_ge i (b9 l) with h | h
  . exact List.mem_append_left _ (List.mem_range'_1.2 (by omega))
  exact List.mem_append_right _ (List.mem_map.2 ⟨i - b9 l, List.mem_range.2 (by omega), by omega⟩)
theorem acK (hs : aR d (aD l) = 0) {j : Nat} (hj : j < b9 l) : qA d [b8 (aD l) (b9 l - 1 - j)] (MK l j) = (MK l (j + 1), 0) := by
  unfold MK; rw [acI hj]; exact agF hs (by rw [eY]; omega) (agG hj)
end
end Go.Proofs
namespace Go.Proofs
open Go.Fs Ieee
set_option maxHeartbeats 1000000
theorem YN {d : bM} {n : Int} : cK d [] n = iQ d := List.filter_eq_self.2 fun s _ => sF.2 fun p hp => by cases hp
theorem V4 {d : bM} {l : List Pc} {S : List Nat} {i : Nat} {n : Int} (h : (b8 l i).1 ≠ n) : cK d (o9 l (i :: S)) n = cK d (o9 l S) n := by
  refine List.filter_congr fun y _ => ?_; rw [Bool.eq_iff_iff, sF, sF]; constructor
  . intro h1 p hp; obtain ⟨j, h2, h3, rfl⟩ := kS.1 hp; exact h1 _ (kS.2 ⟨j, h2, List.mem_cons_of_mem _ h3, rfl⟩)
  intro h1 p hp; obtain ⟨j, h2, h3, rfl⟩ := kS.1 hp; rcases List.mem_cons.1 h3 with rfl | h3
  . exact fun hh => h hh.1
  exact h1 _ (kS.2 ⟨j, h2, h3, rfl⟩)
theorem zI {d : bM} {l : List Pc} (hs : aR d l = 0) {n : Int} : ∀ {S : List Nat}, S.Nodup -> (∀ i ∈ S, i < l.length) -> (cK d (o9 l S) n).length + (S.filter fun i => decide ((b8 l i).1 = n)).length = (iQ d).length
  | [], _, _ => by rw [ag8, YN]; rfl
  | i :: S, hn, hl => by
    obtain ⟨h1, h2⟩ := List.nodup_cons.1 hn; have ih := zI hs (n := n) h2 fun j hj => hl j (List.mem_cons_of_mem _ hj); have hi := hl i List.mem_cons_self; by_cases h : (b8 l i).1 = n
    . rw [List.filter_cons_of_pos (by simp [h]), List.length_cons]; have := YJ hs hi h1; rw [h] at this; omega
    rw [List.filter_cons_of_neg (by simp [h]), V4 h]; exact ih
section
variable {d : bM} {l : List Pc} {o : List Nat}
theorem YO {k : Nat} (ho : ∀ x ∈ o, x < b9 l) : ((vY (b9 l) o k).filter fun i => decide ((b8 (aD l) i).1 = (b8 l 0).1)).length = b9 l := by
  unfold vY; rw [List.filter_append, List.filter_eq_nil_iff.2, List.nil_append, List.filter_eq_self.2, List.length_range]
  . intro a ha; exact decide_eq_true (xG (List.mem_range.1 ha))
  intro a ha; rw [List.mem_reverse, List.mem_map] at ha; obtain ⟨x, hx, rfl⟩ := ha; rw [decide_eq_true_eq, xH (ho x (List.mem_of_mem_take hx))]; omega
theorem YP {k : Nat} (ho : ∀ x ∈ o, x < b9 l) (hk : k <= o.length) : ((vY (b9 l) o k).filter fun i => decide ((b8 (aD l) i).1 = (b8 l 0).1 + 1)).length = k := by
  unfold vY; rw [List.filter_append, List.filter_eq_self.2, List.filter_eq_nil_iff.2, List.append_nil, List.length_reverse, List.length_map, List.length_take]
  . omega
  . intro a ha; rw [decide_eq_true_eq, xG (List.mem_range.1 ha)]; omega
  intro a ha; rw [List.mem_reverse, List.mem_map] at ha; obtain ⟨x, hx, rfl⟩ := ha; exact decide_eq_true (xH (ho x (List.mem_of_mem_take hx)))
theorem zJ (hs : aR d (aD l) = 0) (hn : o.Nodup) (ho : ∀ x ∈ o, x < b9 l) {k : Nat} : (cK d (jJ l o k) (b8 l 0).1).length + b9 l = (iQ d).length := by
  have := zI hs (n := (b8 l 0).1) (xI (m := b9 l) hn k) fun i hi => by rw [eY]; exact MI ho i hi
  rw [YO ho] at this; exact this
theorem I6 (hs : aR d (aD l) = 0) (hn : o.Nodup) (ho : ∀ x ∈ o, x < b9 l) {k : Nat} (hk : k <= o.length) : (cK d (jJ l o k) ((b8 l 0).1 + 1)).length + k = (iQ d).length := by
  have := zI hs (n := (b8 l 0).1 + 1) (xI (m := b9 l) hn k) fun i hi => by rw [eY]; exact MI ho i hi
  rw [YP ho hk] at this; exact this
end
theorem V5 {p : Int -> Bool} {xs : List Int} : ∀ {i j : Nat}, j < i -> p (xs.getD j 0) = true -> xs.getD j 0 <= rR p xs i
  | 0, j, h, _ => by omega
  | i + 1, j, h, hp => by
    unfold rR; rcases Nat.lt_or_ge j i with h1 | h1
    . have ih := V5 h1 hp; split
      . omega
      exact ih
    obtain rfl : j = i := by omega
    rw [if_pos hp]; omega
theorem V6 {p : Int -> Bool} {xs : List Int} (i : Nat) : rR p xs i = -1 \/ (p (rR p xs i) = true /\ ∃ j, j < i /\ rR p xs i = xs.getD j 0) := by
  induction i with
  | zero => exact .inl rfl
  | succ i ih =>
    unfold rR; by_cases hp : p (xs.getD i 0) = true
    . rw [if_pos hp]; rcases Int.le_total (rR p xs i) (xs.getD i 0) with h3 | h3
      . rw [Int.max_eq_right h3]; exact .inr ⟨hp, i, by omega, rfl⟩
      rw [Int.max_eq_left h3]; rcases ih with h4 | ⟨h4, j, h5, h6⟩
      . exact .inl h4
      exact .inr ⟨h4, j, by omega, h6⟩
    rw [if_neg hp]; rcases ih with h4 | ⟨h4, j, h5, h6⟩
    . exact .inl h4
    exact .inr ⟨h4, j, by omega, h6⟩
theorem GV {d : bM} {l : List Pc} (hs : aR d l = 0) {x : Int} : (∃ j, j < (lC l).length /\ (lC l).getD j 0 = x) ↔ ∃ p ∈ l, p.1 = x := by
  have h1 : (∃ j, j < (lC l).length /\ (lC l).getD j 0 = x) ↔ x ∈ lC l := by
    rw [List.mem_iff_getElem]; constructor
    . rintro ⟨j, h, e⟩; exact ⟨j, h, by rw [<- e, eC _ _ h]⟩
    rintro ⟨j, h, e⟩; exact ⟨j, h, by rw [eC _ _ h, e]⟩
  rw [h1, ac2 hs, M4]; unfold D1; constructor
  . rintro ⟨j, h, e⟩; rw [eC _ _ h, List.getElem_map] at e; exact ⟨_, List.getElem_mem _, e⟩
  rintro ⟨p, hp, rfl⟩; obtain ⟨j, h, rfl⟩ := List.mem_iff_getElem.1 hp; exact ⟨j, by rw [List.length_map]; exact h, by rw [eC _ _ (by rw [List.length_map]; exact h), List.getElem_map]⟩
theorem aaA {d : bM} {l : List Pc} {now r : Int} (hs : aR d l = 0) (hn : aM now 0 100000 = 0) (h0 : 0 <= r) (hr : ∃ p ∈ l, p.1 = r) (hp : pS d l now r = true) (hm : ∀ p ∈ l, pS d l now p.1 = true -> p.1 <= r) : kR d l now = (r, 0) := by
  obtain ⟨j, h1, h2⟩ := (GV hs).2 hr; have h3 := V5 (p := pS d l now) h1 (by rw [h2]; exact hp); rw [h2] at h3
  have h4 : BS d l now = r := by
    rcases V6 (p := pS d l now) (xs := lC l) (lC l).length with h | ⟨h4, k, h5, h6⟩
    . omega
    obtain ⟨q, hq, h7⟩ := (GV hs).1 ⟨k, h5, rfl⟩; have := hm q hq (by rw [h7, <- h6]; exact h4); unfold BS; omega
  rw [ag3 (s8 hs hn), aa3, aa4, h4, if_neg (by omega), if_neg (by omega)]
theorem acL {d : bM} {l : List Pc} {now : Int} (hs : aR d l = 0) (hn : aM now 0 100000 = 0) (hm : ∀ p ∈ l, pS d l now p.1 = false) : kR d l now = (0, 7) := by
  have h4 : BS d l now = -1 := by
    rcases V6 (p := pS d l now) (xs := lC l) (lC l).length with h | ⟨h4, k, h5, h6⟩
    . exact h
    obtain ⟨q, hq, h7⟩ := (GV hs).1 ⟨k, h5, rfl⟩; have := hm q hq; rw [h7, <- h6, h4] at this; cases this
  rw [ag3 (s8 hs hn), aa3, aa4, h4]; rfl
theorem zT {n : Int} (h : 0 <= n) (h1 : n <= 100000) : aM n 0 100000 = 0 := by unfold aM; rw [if_neg (by omega)]
section
variable {d : bM} {l : List Pc} {o : List Nat}
theorem ML {k : Nat} {p : Pc} (h : p ∈ jJ l o k) : p.1 = (b8 l 0).1 \/ p.1 = (b8 l 0).1 + 1 := by
  obtain ⟨j, h1, _, rfl⟩ := kS.1 h; rw [eY] at h1; rcases Nat.lt_or_ge j (b9 l) with h2 | h2
  . exact .inl (xG h2)
  have := xH (l := l) (i := j - b9 l) (by omega); rw [show b9 l + (j - b9 l) = j by omega] at this; exact .inr this
theorem MM (hs : aR d l = 0) (hm : 0 < b9 l) : 0 <= (b8 l 0).1 /\ (b8 l 0).1 < 100000 := by
  have h1 : b8 (dM l l.length) 0 ∈ dM l l.length := jC hm; have h2 := oA h1; have h3 := MH (j5 (GU hs (i := l.length)) _ h1); omega
theorem YQ {k : Nat} (hm : 0 < b9 l) : ∃ p ∈ jJ l o k, p.1 = (b8 l 0).1 := by
  refine ⟨b8 (aD l) 0, kS.2 ⟨0, by rw [eY]; omega, ?_, rfl⟩, xG hm⟩; unfold vY; exact List.mem_append_right _ (List.mem_range.2 hm)
theorem YR {k : Nat} (ho : ∀ x ∈ o, x < b9 l) (iI : 0 < k) (hk : k <= o.length) : ∃ p ∈ jJ l o k, p.1 = (b8 l 0).1 + 1 := by
  have h1 := ho o[0] (List.getElem_mem _); refine ⟨b8 (aD l) (b9 l + o[0]), kS.2 ⟨b9 l + o[0], by rw [eY]; omega, ?_, rfl⟩, xH h1⟩; unfold vY; refine List.mem_append_left _ (List.mem_reverse.2 (List.mem_map.2 ⟨o[0], ?_, rfl⟩)); have : (o.take k)[0]'(by rw [List.length_take]; omega) = o[0] := List.getElem_take; rw [<- this]; exact List.getElem_mem _
theorem ai7 (hs : aR d l = 0) (hb : aR d (aD l) = 0) (hn : o.Nodup) (ho : ∀ x ∈ o, x < b9 l) (SD : o.length = b9 l) {k : Nat} (iI : 0 < k) (hk : k <= o.length) :
    kR d (jJ l o k) 100000 = if b9 l < (iQ d).length then (0, 7) else if k = b9 l then ((b8 l 0).1 + 1, 0) else ((b8 l 0).1, 0) := by
  have bR := MJ hb (o := o) (k := k)
  have hm : 0 < b9 l := by omega
  have hr := MM hs hm
  have TL : aM 100000 0 100000 = 0 := by decide
  have h1 := zJ hb hn ho (k := k); have h2 := I6 hb hn ho hk
  have lp : ∀ r, r <= 100000 -> (pS d (jJ l o k) 100000 r = true ↔ (cK d (jJ l o k) r).length = 0) := fun r h => by
    unfold pS; rw [Bool.and_eq_true, decide_eq_true_eq, decide_eq_true_eq, List.length_eq_zero_iff]; exact ⟨fun h => h.1, fun h2 => ⟨h2, h⟩⟩
  split
  . refine acL bR TL fun p hp => ?_; rw [Bool.eq_false_iff]; intro hh; rcases ML hp with e | e
    . rw [e, lp _ (by omega)] at hh; omega
    rw [e, lp _ (by omega)] at hh; omega
  split
  . refine aaA bR TL (by omega) (YR ho iI hk) ((lp _ (by omega)).2 (by omega)) fun p hp _ => ?_; rcases ML hp with e | e <;> omega
  refine aaA bR TL (by omega) (YQ hm) ((lp _ (by omega)).2 (by omega)) fun p hp hh => ?_; rcases ML hp with e | e
  . omega
  rw [e, lp _ (by omega)] at hh; omega
end
theorem FE {d : bM} {l : List Pc} (hs : aR d l = 0) {n : Int} {k : Sl} {p : Pc} : bX (runM l n l.length) k = some p ↔ p ∈ l /\ p.1 = n /\ nN p = k := by
  constructor
  . intro h; obtain ⟨j, h1, rfl, h2, h3⟩ := lB _ h; exact ⟨jC h1, h2, h3⟩
  rintro ⟨hp, h1, h2⟩; obtain ⟨j, hj, e⟩ := List.mem_iff_getElem.1 hp; rw [dK hj] at e; subst e
  cases h : bX (runM l n l.length) k with
  | none => exact absurd h2 (x7 _ h j hj h1)
  | some q =>
    obtain ⟨i, h3, rfl, h4, h5⟩ := lB _ h; have := CZ (cG hs).2.2 h3 hj (h4.trans h1.symm) (h5.trans h2.symm); subst this; rfl
section
variable {d : bM} {l : List Pc}
theorem YS {p : Pc} (h : p ∈ aD l) (hr : p.1 = (b8 l 0).1) : uH p ∈ aD l := by
  unfold aD at h ⊢; rcases List.mem_append.1 h with h | h
  . exact List.mem_append_right _ (List.mem_map.2 ⟨p, h, rfl⟩)
  obtain ⟨q, hq, rfl⟩ := List.mem_map.1 h; have := (oA hq).1; have e : q.1 + 1 = (b8 l 0).1 := hr; omega
theorem YT {p : Pc} (h : p ∈ aD l) (hr : p.1 = (b8 l 0).1 + 1) : ∃ q ∈ aD l, q.1 = (b8 l 0).1 /\ p = uH q := by
  unfold aD at h ⊢; rcases List.mem_append.1 h with h | h
  . have := (oA h).1; omega
  obtain ⟨q, hq, rfl⟩ := List.mem_map.1 h; exact ⟨q, List.mem_append_left _ hq, (oA hq).1, rfl⟩
theorem acM (hs : aR d (aD l) = 0) (x : ByteArray) (t : Int) (r : Nat) : pR (runM (aD l) (b8 l 0).1 (aD l).length) x t r = pR (runM (aD l) ((b8 l 0).1 + 1) (aD l).length) x t r := by
  unfold pR
  cases h : bX (runM (aD l) (b8 l 0).1 (aD l).length) (x, t, (r : Int)) with
  | some p =>
    obtain ⟨h1, h2, h3⟩ := (FE hs).1 h; have : bX (runM (aD l) ((b8 l 0).1 + 1) (aD l).length) (x, t, (r : Int)) = some (uH p) := (FE hs).2 ⟨YS h1 h2, by show p.1 + 1 = _; omega, h3⟩
    rw [this]; rfl
  | none =>
    cases h2 : bX (runM (aD l) ((b8 l 0).1 + 1) (aD l).length) (x, t, (r : Int)) with
    | none => rfl
    | some p =>
      obtain ⟨h1, h3, h4⟩ := (FE hs).1 h2; obtain ⟨q, h5, h6, rfl⟩ := YT h1 h3; have := (FE hs).2 ⟨h5, h6, h4⟩; rw [h] at this; cases this
theorem agI (hs : aR d (aD l) = 0) {p : Int × Int} {tr : Tf} {k : Nat} : x9 d (aD l) (b8 l 0).1 p tr k = x9 d (aD l) ((b8 l 0).1 + 1) p tr k := by
  unfold x9 vU oZ; have e : ∀ (x : ByteArray) (t : Int), pR (runM (aD l) (b8 l 0).1 (aD l).length) x t = pR (runM (aD l) ((b8 l 0).1 + 1) (aD l).length) x t := fun x t => funext fun r => acM hs x t r; simp only [e]
abbrev NP : Tf := ([2, -1], 1, 0)
theorem YU (hd : gG d = 0) : I3 d (0, 0) NP = 0 := by
  obtain ⟨h1, h2, h3, h4, _⟩ := kH hd
  have e1 : uC (0, 0) d.1 d.2.1 = 0 := by
    unfold uC; rw [bK]; intro x hx; simp only [List.mem_cons, List.not_mem_nil, or_false] at hx; rcases hx with rfl | rfl <;> (unfold aM; rw [if_neg (by omega)])
  unfold I3; rw [e1]; decide
theorem PC {o : List Nat} (hs : aR d l = 0) (hb : aR d (aD l) = 0) (hp : o.Perm (List.range (b9 l))) (hm : 0 < b9 l) {n : Int} (hn : n = (b8 l 0).1 \/ n = (b8 l 0).1 + 1) :
    uE d (aD l) n (0, 0) NP = if b9 l < (iQ d).length then ([], 7) else (x9 d (aD l) (b8 l 0).1 (0, 0) NP d.2.2.2.length, 0) := by
  have hr := MM hs hm; have hd := (cG hs).1; have jT : o.Nodup := hp.nodup_iff.2 List.nodup_range; have ho : ∀ x ∈ o, x < b9 l := fun x hx => List.mem_range.1 (hp.mem_iff.1 hx)
  have SD : o.length = b9 l := by rw [hp.length_eq, List.length_range]
  have h1 := zJ hb jT ho (k := o.length); have h2 := I6 hb jT ho (Nat.le_refl _); rw [V3 hp] at h1 h2
  have hlen : (cK d (aD l) n).length + b9 l = (iQ d).length := by
    rcases hn with rfl | rfl
    . exact h1
    rw [SD] at h2; exact h2
  have gW : x9 d (aD l) n (0, 0) NP d.2.2.2.length = x9 d (aD l) (b8 l 0).1 (0, 0) NP d.2.2.2.length := by
    rcases hn with rfl | rfl
    . rfl
    exact (agI hb).symm
  unfold uE; rw [if_neg (by rw [s8 hb (zT (by omega) (by omega))]; simp), if_neg (by rw [YU hd]; simp), UM hb]; split
  . have cM : ¬ cK d (aD l) n = [] := fun h => by
      rw [h] at hlen; simp at hlen; omega
    rw [decide_eq_false cM]; rfl
  rw [decide_eq_true (List.eq_nil_of_length_eq_zero (by omega)), gW]; rfl
end
end Go.Proofs
namespace Go.Fs
variable {P : Program} {h : aA} {S : List Nat} {σ : aX} {t : Tr} {fl : VL} {x : Operand} {T e : TypeId} {τ : Ty}
end Go.Fs
namespace Go.Fs
variable {P : Program} {σ : aX} {fl : VL} {x y : Operand} {T T' : TypeId} {p q : Bool}
end Go.Fs
namespace Go.Fs
variable {P : Program} {orc : FuncId -> List Value -> aA -> Option (Value × aA)} {σ : aX} {fl : VL} {ops : Array Oper} {n : Nat} {l : List Oper} {K : VL -> aX -> Prop} {d : Tmp} {ty : TypeId} {pos : String} {after : Array Edge} {g : Option (Nat × Bool)} {x : Operand} {T e : TypeId} {τ : Ty}
end Go.Fs
namespace Go.Fs
variable {P : Program} {fl : VL} {e : TypeId} {τ : Ty}
end Go.Fs
namespace Go.Fs
variable {P : Program} {orc : FuncId -> List Value -> aA -> Option (Value × aA)} {b7 : Option Nat} {h h' h0 h1 h2 hs : aA} {S S' S0 B G : List Nat} {σ aQ : aX} {t t' : Tr} {ms : List Nat} {fl : VL} {ops : Array Oper} {n i mem : Nat} {l : List Oper} {K : VL -> aX -> Prop} {Q : Ex -> VL -> aX -> Prop}
  {d d1 d2 : Tmp} {ty ty1 ty2 : TypeId} {pos aoA aoB : String} {after anI anJ : Array Edge} {op : Op} {v v1 : PV} {g g1 g2 : Option (Nat × Bool)} {bs nw : List Nat} {segs : List (Nat × Nat × Nat)} {tail so : Bool}
section
variable (P orc)
end
theorem D4 {m b : Nat} : ∀ (segs : List (Nat × Nat × Nat)) (aB : List (Nat × bB)), (∀ s ∈ segs, m.testBit s.1 = false -> ¬(s.2.1 <= b /\ b < s.2.2)) -> look (mask m segs aB) b = look aB b
  | [], _, _ => rfl
  | (k, lo, hi) :: segs, aB, h => by
    simp only [mask]; rw [D4 segs _ fun s hs => h s (List.mem_cons_of_mem _ hs)]
    cases hk : m.testBit k with
    | true => rfl
    | false =>
      have := h (k, lo, hi) List.mem_cons_self hk; simp only [Bool.false_eq_true, if_false]; refine n5 (fun o => ?_) aB; unfold outside; simp only [Bool.not_eq_true', Bool.and_eq_false_iff, decide_eq_false_iff_not]; exact Decidable.not_and_iff_not_or_not.1 this
end Go.Fs
namespace Go.Fs
variable {P : Program} {orc : FuncId -> List Value -> aA -> Option (Value × aA)} {b7 : Option Nat} {h h' h0 h1 h2 : aA} {S S' S0 B G : List Nat} {σ aQ oI : aX} {t t' : Tr} {ms : List Nat} {fl : VL} {ops : Array Oper} {n i mem : Nat} {l : List Oper} {K : VL -> aX -> Prop} {Q : Ex -> VL -> aX -> Prop}
  {d : Tmp} {ty : TypeId} {pos : String} {after : Array Edge} {op : Op} {v pv : PV} {g : Option (Nat × Bool)} {x y z : Operand} {T T' e : TypeId} {τ τ' : Ty} {bs nw : List Nat} {segs : List (Nat × Nat × Nat)} {tail so : Bool} {w w' : Value} {c c' : Cell}
theorem gZ.akU (hT : eX P T e τ) : gZ P fl (.buildSlice T 0 #[]) (.tP e 0 []) :=
  ⟨rfl, fun h S t hs bW hS => ⟨fun k => .slice (some ⟨k, 0, none⟩) 0 0, .row e [] true false, fun _ => rfl, fun S' hN hm => .inr ⟨h.next, [], false, rfl, hm, by rw [aA.bN, if_pos rfl], rfl, rfl, fun _ => rfl⟩, OE hT⟩⟩
theorem IT {xv u : Value} (hT : eX P T e τ) (sY : eX P T' e τ) (hf : dQ P #[T, T'] (.slice none 0 0) xv h = some (u, h')) : h.low <= h'.low := by
  obtain ⟨i, z, nZ, lU, EB, vJ, wT, _⟩ := hT.sl.info; unfold dQ at hf; simp only [List.getElem?_toArray, List.getElem?_cons_zero, List.getElem?_cons_succ, hT.sl.sl, sY.sl.sl, nZ, wT] at hf; split at hf
  . rename_i m news _; obtain ⟨_, hf⟩ := aT hf; unfold kX at hf
    cases hm : Nat.beq m 0 with
    | true =>
      simp only [hm, cond_true, Option.some.injEq, Prod.mk.injEq] at hf
      rw [<- hf.2]; exact Nat.le_refl _
    | false =>
      simp only [hm, cond_false] at hf; obtain ⟨_, hf⟩ := aT hf; unfold grown at hf; simp only [Option.some.injEq, Prod.mk.injEq] at hf; rw [<- hf.2]; exact Nat.le_refl _
  cases hf
theorem agJ {w : Value} (hc : bS h S w (.tP e 0 [])) : bS h S w (.row e τ []) := by
  rcases hc with ⟨h1, _, _⟩ | ⟨b, rs, m, h1, h2, h3, h4, h5, h6⟩
  . exact .inl ⟨h1, rfl⟩
  obtain rfl : rs = [] := h4; exact .inr ⟨b, [], m, h1, h2, h3, cE.nil⟩
theorem acN (L : Lc S0 h ((w, .tP e 0 []) :: σ) t fl) : Lc S0 h ((w, .row e τ []) :: σ) t fl where
  ok := L.ok
  s0 := L.s0
  cells := fun c hc => by
    rcases List.mem_cons.1 hc with rfl | hc
    . exact agJ (L.cells _ List.mem_cons_self)
    exact L.cells c (List.mem_cons_of_mem _ hc)
  sep := L.sep
  apart := L.apart
  aH := L.aH
theorem cA.agK {ys : List τ.den} (hT : eX P T e τ) (sY : eX P T' e τ) (hx : aY fl x = some (.raw w)) (hy : aY fl y = some (.v (.sl τ) ys)) (dJ : ys.length <= 1000000) :
    cA P fl ((w, .tP e 0 []) :: σ) (.call { callee := .builtin .append, args := #[x, y], argTypes := #[T, T'] }) fun v aQ => ∃ w', v = .raw w' /\ aQ = (w', .row e τ ys) :: σ :=
  ⟨rfl, fun S0 h t L => by
    obtain ⟨u, h', v, aQ, ⟨w', e1, e2⟩, e3, e4, e5⟩ := (cA.app (σ := σ) (xs := []) hT sY hx hy (by simpa using dJ)).2 S0 h t (acN L)
    exact ⟨u, h', v, aQ, ⟨w', e1, e2⟩, ⟨e3.gC, e3.new, e3.apart, e3.cells⟩, e4, e5⟩⟩
end Go.Fs
namespace Go.Fs
variable {P : Program} {fl : VL} {σ : aX} {T : TypeId} {τ : Ty} {h : aA} {S : List Nat}
inductive YV : PV -> List PV -> Prop where
  | v {τ : Ty} {x : τ.den} : YV (.v τ x) (jB τ x)
  | w {w : Value} (ho : aU w = true) : YV (.raw w) [.raw w]
inductive agL (pl : List (Nat × Nat)) : List PV -> List Nat -> List PV -> List PV -> Prop where
  | nil {L L' : List PV} (h : L = L') : agL pl L [] [] L'
  | cons {L L' : List PV} {i o : Nat} {is : List Nat} {p : PV} {ps qs : List PV} (hp : YV p qs) (hpl : pl[i]? = some (o, qs.length)) (ho : Nat.ble (o + qs.length) L.length = true) (r : agL pl (GD L o qs) is ps L') : agL pl L (i :: is) (p :: ps) L'
end Go.Fs
namespace Go.Fs
variable {P : Program} {fl : VL} {σ : aX} {T T' : TypeId} {x y : Operand} {p q : Int}
end Go.Fs
namespace Go.Fs
variable {P : Program} {orc : FuncId -> List Value -> aA -> Option (Value × aA)} {h : aA} {σ ρ : aX} {fl : VL} {ops : Array Oper} {n i mem : Nat} {l : List Oper} {K : VL -> aX -> Prop} {nw bs : List Nat} {tl : Bool} {hr : aA} {S0 A : List Nat} {t : Tr} {rd chg : List Nat}
def FF : VL -> List Nat -> List Nat
  | [], nw => nw
  | (k, _) :: r, nw => k :: FF r nw
theorem I7 : ∀ {nl : VL} {nw : List Nat} {k : Nat}, l8 (FF nl nw) k = false -> (∀ pv, jG (nl ++ fl) k = some pv -> jG fl k = some pv) /\ l8 nw k = false
  | [], nw, k, h => ⟨fun _ h => h, h⟩
  | (j, v) :: r, nw, k, h => by
    simp only [FF, l8] at h
    cases hb : Nat.beq j k with
    | true => rw [hb] at h; cases h
    | false =>
      rw [hb] at h; obtain ⟨h1, h2⟩ := I7 (nl := r) h; refine ⟨fun pv hp => h1 pv ?_, h2⟩; simp only [List.cons_append, jG, hb, cond_false] at hp; exact hp
theorem qK.shut {c : Value × Cell} (nl : VL) (hs : O7 fl c nl) (hk : qK P orc ops n l i (nl ++ fl) (FF nl nw) σ ρ bs mem tl K) (hf : ∃ mO, σ = mO ++ ρ) : qK P orc ops n l i fl nw (c :: σ) ρ bs mem tl K := fun hr h0 G S0 A t h ms rd chg segs tail ht I L =>
  have ho : own (c :: σ) = cW c.1 ++ own σ := rfl
  hk hr h0 G S0 A t h ms rd chg segs tail ht (I.shut hs) { L with
    kB := fun b o hg hb => by
      obtain ⟨g1, g2⟩ := L.kB b o hg hb; refine ⟨g1, fun hm => g2 ?_⟩; rw [ho]; rcases List.mem_append.1 hm with hm | hm
      . exact List.mem_append_left _ (List.mem_append_right _ hm)
      exact List.mem_append_right _ hm
    aH := fun k pv hp hn => by
      obtain ⟨h1, h2⟩ := I7 (fl := fl) hn; exact L.aH k pv (h1 pv hp) h2
    suf := hf
    new := fun b hb => L.new b (by rw [ho]; exact List.mem_append_right _ hb) }
end Go.Fs
namespace Go.Fs
variable {P : Program} {orc : FuncId -> List Value -> aA -> Option (Value × aA)} {b7 : Option Nat} {h h' h0 h1 h2 hr : aA} {S S' S0 B G A : List Nat} {σ aQ oI ρ : aX} {t t' : Tr} {ms : List Nat} {fl : VL} {ops : Array Oper} {n i mem : Nat} {l : List Oper} {K : VL -> aX -> Prop}
  {d : Tmp} {ty : TypeId} {pos : String} {after : Array Edge} {op : Op} {v pv : PV} {g : Option (Nat × Bool)} {x y z : Operand} {T T' e : TypeId} {τ τ' : Ty} {bs nw rd chg : List Nat} {segs : List (Nat × Nat × Nat)} {tail tl : Bool} {w w' : Value}
theorem qK.akV {c : Cell} {b : Nat} (hs : gZ P fl op c) (hk : ∀ w, qK P orc ops n l (i + 1) ((d, .raw w) :: fl) (fM false d nw) ((w, c) :: σ) ρ (bs ++ [b]) (mem ||| 2 ^ i) false K)
    (hb : aP bs ⟨some d, op, ty, pos, after, g⟩ = b := by rfl) (Q6 : vK op = false := by rfl) (hw : cX ops fl g = some true := by rfl) (hn : (Nat.blt d n && Nat.ble n 4000) = true := by rfl) :
    qK P orc ops n (⟨some d, op, ty, pos, after, g⟩ :: l) i fl nw σ ρ bs mem false K := fun hr h0 G S0 A t h ms rd chg segs tail ht I L => by
  obtain ⟨n1, n2⟩ := fits hn; obtain rfl := ht rfl; obtain ⟨mk, o, e0, e1, e2⟩ := hs.2 h _ t I.aH.r8 I.ok I.lc.lt; have hm : Made S0 h (h.push o) σ ((mk h.next, c) :: σ) := Made.cons I.lc (cO.push h o []) (fun b hb => by rw [e0] at hb; simp at hb; subst hb; exact Nat.le_refl _) (by rw [e0]; simp) fun hN => e1 _ hN (by rw [bE, e0]; simp); have sL : bJ ops t ⟨some d, op, ty, pos, after, g⟩ = some true := cH I.aH hw
  have hf : eV P hr (fH P) ops n ⟨some d, op, ty, pos, after, g⟩ i (⟨t, h, bs, segs, mem, false⟩, rd, chg) = some (⟨t.set depth d (mk h.next), h.push o, bs ++ [b], (i, h.next, h.next + 1) :: segs, mem ||| 2 ^ i, false⟩, rd, chg) := by
    have hMs : ∀ b' o', look (bif Nat.beq (mem &&& b) mem then h.aB else mask b segs h.aB) b' = some o' -> look h.aB b' = some o' := fun b' o' => by
      cases Nat.beq (mem &&& b) mem with
      | true => exact fun h => h
      | false => exact qH segs h.aB
    unfold eV; simp only [sL, hs.1, Bool.false_eq_true, if_false, A5 Q6]; unfold nP; simp only [hb, Bool.false_and, cond_false]; rw [e2]; have bL : Nat.blt (h.next + 1) h.next = false := l6 (Nat.le_succ _); have e1 : ∀ L : List (Nat × bB), (∀ b' o', look L b' = some o' -> look h.aB b' = some o') -> bH h.next (h.next + 1) ((h.next, o) :: L) = [(h.next, o)] := fun L hL => yO fun b' o' hg => I.ok b' o' (hL b' o' hg); simp only [aA.push, bL, cond_false, bV n1, qI, cond_true]; rw [e1 _ hMs]; rfl
  have GG : ∃ mO, ((mk h.next, c) :: σ : aX) = mO ++ ρ := by
    obtain ⟨mO, agM⟩ := L.suf; exact ⟨(mk h.next, c) :: mO, by rw [agM]; rfl⟩
  exact BC.WY hf (hk (mk h.next) hr h0 G S0 A _ _ ms rd _ _ false ht ((I.made hm).set (show aJ _ _ (.raw (mk h.next)) (mk h.next) from rfl) n2) ((L.made I hm GG).set (old := false) n2 fun e => by cases e))
end Go.Fs
namespace Go.Fs
variable {P : Program} {orc : FuncId -> List Value -> aA -> Option (Value × aA)} {b7 : Option Nat} {h h' h0 h1 h2 hr : aA} {S S' S0 B G A : List Nat} {σ aQ oI ρ : aX} {t t' : Tr} {ms : List Nat} {fl : VL} {ops : Array Oper} {n i mem : Nat} {l : List Oper} {K : VL -> aX -> Prop} {Q : Ex -> VL -> aX -> Prop}
  {d : Tmp} {ty : TypeId} {pos : String} {after : Array Edge} {op : Op} {v pv : PV} {g : Option (Nat × Bool)} {x y z : Operand} {T T' e : TypeId} {τ τ' : Ty} {bs nw rd chg : List Nat} {segs : List (Nat × Nat × Nat)} {w w' : Value} {lt : Option (Value × Nat)}
def an5 (hr h : aA) (segs : List (Nat × Nat × Nat)) : Prop := ∀ s ∈ segs, hr.next <= s.2.1 /\ s.2.2 <= h.next
def akW (segs : List (Nat × Nat × Nat)) : Option (Value × Nat) -> Prop
  | none => True
  | some (w, j) => ∀ b ∈ cW w, ∀ s ∈ segs, s.1 ≠ j -> ¬ (s.2.1 <= b /\ b < s.2.2)
section
variable (P orc)
def oB (ops : Array Oper) (n : Nat) (l : List Oper) (i : Nat) (fl : VL) (nw : List Nat) (σ ρ : aX) (bs : List Nat) (mem : Nat) (lt : Option (Value × Nat)) (K : VL -> aX -> Prop) : Prop :=
  ∀ (hr h0 : aA) (G S0 A : List Nat) (t : Tr) (h : aA) (ms rd chg : List Nat) (segs : List (Nat × Nat × Nat)), an5 hr h segs -> akW segs lt -> Iv h0 G S0 h σ t ms fl -> tA hr h S0 A σ ρ t fl nw rd chg ->
    BC P orc hr ops n l i (⟨t, h, bs, segs, mem, false⟩, rd, chg) fun x => IW x = true /\ ∃ eQ aQ, Iv h0 G S0 x.1.h aQ x.1.t ms eQ /\ K eQ aQ
end
theorem oB.of (hx : qK P orc ops n l i fl nw σ ρ bs mem false K) : oB P orc ops n l i fl nw σ ρ bs mem lt K := fun hr h0 G S0 A t h ms rd chg segs _ _ I L => hx hr h0 G S0 A t h ms rd chg segs false (fun _ => rfl) I L
theorem U.akX {id : Nat} {ops : Array Oper} (ρ : aX) (hs : ∃ mO, σ = mO ++ ρ) (hx : oB P orc ops n ops.toList 0 fl [] σ ρ [] 0 none fun eQ aQ => Q .normal eQ aQ) (hl : BX ops = true := by kernel_rfl) : U P orc b7 (.region id ops true) n fl σ Q := fun h0 G S0 t h ms I => by
  refine gM.late hl ?_
  have an6 : ∀ b ∈ own ρ, b ∈ own σ := fun b hb => by
    obtain ⟨mO, rfl⟩ := hs; rw [dE]; exact List.mem_append_right _ hb
  obtain ⟨m, x, h1, ha, eQ, aQ, h2, h3⟩ := hx h h0 G S0 (own σ) t h ms [] [] [] (fun _ hm => by cases hm) trivial I
    { ok := I.ok, lt := I.aH.1.slt I.ok I.lc.lt, next := Nat.le_refl _, kB := fun b o hg hb => ⟨hg, hb⟩, aH := fun k pv hk _ => I.aH k pv hk, suf := hs,
      cells := fun c hc => I.cells c (by obtain ⟨mO, rfl⟩ := hs; exact List.mem_append_right _ hc), fix := an6, new := fun b hb => .inl hb, rd := fun b hb => (by cases hb), chg := fun k hk => (by cases hk) }
  exact ⟨m, x, h1, ha, rfl, eQ, aQ, h2, h3⟩
theorem oB.nws {L5 : List Nat} (T6 : List Nat) (hk : oB P orc ops n l i fl T6 σ ρ bs mem lt K) (he : L5 = T6 := by rfl) : oB P orc ops n l i fl L5 σ ρ bs mem lt K := he ▸ hk
theorem oB.c {b : Nat} (hc : aI P fl [] op v) (hk : oB P orc ops n l (i + 1) ((d, v) :: fl) (fM (GC nw op || v.iP) d nw) σ ρ (bs ++ [b]) mem lt K)
    (hb : aP bs ⟨some d, op, ty, pos, after, g⟩ = b := by rfl) (hw : cX ops fl g = some true := by rfl) (hn : (Nat.blt d n && Nat.ble n 4000) = true := by rfl) :
    oB P orc ops n (⟨some d, op, ty, pos, after, g⟩ :: l) i fl nw σ ρ bs mem lt K := fun hr h0 G S0 A t h ms rd chg segs KK bL I L => by
  obtain ⟨n1, n2⟩ := fits hn; obtain ⟨u, e1, e2⟩ := hc.2 h (own σ ++ S0) t I.aH.r8 (fun _ hc => by cases hc); refine BC.WY (x' := (⟨t.set depth d u, h, bs ++ [b], segs, mem, false⟩, rd, chg)) ?_ (hk hr h0 G S0 A _ h ms rd chg segs KK bL (I.set e1 n2) (L.set n2 fun hold => ?_))
  . unfold eV; have sL : bJ ops t ⟨some d, op, ty, pos, after, g⟩ = some true := cH I.aH hw; simp only [sL, hc.1, if_true, e2, Nat.beq_refl, cond_true, bV n1, Option.map_some, hb]
  rcases Bool.or_eq_true_iff.1 hold with hold | hold
  . obtain ⟨u', f1, f2⟩ := hc.2 hr (A ++ S0) t (zZ L.aH hold) (fun _ hc => by cases hc)
    have : u' = u := by
      have g1 := e2 none 0 "" #[] none h; rw [f2 none 0 "" #[] none h] at g1; simpa using g1
    rw [<- this]; exact f1
  exact (aJ.iP hold e1).2 _ _
theorem oB.q {b : Nat} {dx : τ.den} (hx : aY fl x = some (.p τ dx)) (hc : dC P fl [] (.load T x) v) (hk : oB P orc ops n l (i + 1) ((d, v) :: fl) (fM true d nw) σ ρ (bs ++ [b]) mem lt K)
    (hb : aP bs ⟨some d, .load T x, ty, pos, after, g⟩ = b := by rfl) (hold : E8 nw x = true := by rfl) (hw : cX ops fl g = some true := by rfl) (hn : (Nat.blt d n && Nat.ble n 4000) = true := by rfl) :
    oB P orc ops n (⟨some d, .load T x, ty, pos, after, g⟩ :: l) i fl nw σ ρ bs mem lt K := fun hr h0 G S0 A t h ms rd chg segs KK adE I L => by
  obtain ⟨n1, n2⟩ := fits hn; obtain ⟨b0, o0, e', rs, am0, more, h1, h2, h3, h4⟩ := (vH L.aH hx hold : nY hr (A ++ S0) τ (aC t x) dx)
  obtain ⟨u, e1, e2⟩ := hc.2 hr (A ++ S0) t (fun z hz pv hp => by
    obtain rfl : z = x := by simpa [Op.operands] using hz
    exact vH L.aH hp hold) (fun _ hc => by cases hc)
  have bR := e2 hr (fun _ _ hg => hg) none 0 "" #[] none
  have hv : eU P T (.pointer (some ⟨b0, o0, none⟩)) hr = some u := by
    have h5 : (eU P T (aC t x) hr).map (fun v => (v, hr)) = some (u, hr) := bR; obtain ⟨v', h6, h7⟩ := Option.map_eq_some_iff.1 h5; simp only [Prod.mk.injEq, and_true] at h7; rw [<- h1, h6, h7]
  have bL := L.ok b0 _ h3; refine BC.WY (TC h1 h3 bL hv hb (cH I.aH hw) n1) (hk hr h0 G S0 A _ h ms _ chg segs KK adE (I.set (e1.nx L.kB) n2) ((L.set (old := true) n2 fun _ => e1).read ⟨bL, .inr fun hm => h2 (List.mem_append_left _ hm)⟩))
theorem oB.OF {c : Cell} {b : Nat} (hs : gZ P fl op c) (hk : ∀ w, oB P orc ops n l (i + 1) ((d, .raw w) :: fl) (fM false d nw) ((w, c) :: σ) ρ (bs ++ [b]) (mem ||| 2 ^ i) (some (w, i)) K)
    (hb : aP bs ⟨some d, op, ty, pos, after, g⟩ = b := by rfl) (Q6 : vK op = false := by rfl) (hw : cX ops fl g = some true := by rfl) (hn : (Nat.blt d n && Nat.ble n 4000) = true := by rfl) :
    oB P orc ops n (⟨some d, op, ty, pos, after, g⟩ :: l) i fl nw σ ρ bs mem lt K := fun hr h0 G S0 A t h ms rd chg segs KK _ I L => by
  obtain ⟨n1, n2⟩ := fits hn; obtain ⟨mk, o, e0, e1, e2⟩ := hs.2 h _ t I.aH.r8 I.ok I.lc.lt; have hm : Made S0 h (h.push o) σ ((mk h.next, c) :: σ) := Made.cons I.lc (cO.push h o []) (fun b hb => by rw [e0] at hb; simp at hb; subst hb; exact Nat.le_refl _) (by rw [e0]; simp) fun hN => e1 _ hN (by rw [bE, e0]; simp); have sL : bJ ops t ⟨some d, op, ty, pos, after, g⟩ = some true := cH I.aH hw
  have hf : eV P hr (fH P) ops n ⟨some d, op, ty, pos, after, g⟩ i (⟨t, h, bs, segs, mem, false⟩, rd, chg) = some (⟨t.set depth d (mk h.next), h.push o, bs ++ [b], (i, h.next, h.next + 1) :: segs, mem ||| 2 ^ i, false⟩, rd, chg) := by
    have hMs : ∀ b' o', look (bif Nat.beq (mem &&& b) mem then h.aB else mask b segs h.aB) b' = some o' -> look h.aB b' = some o' := fun b' o' => by
      cases Nat.beq (mem &&& b) mem with
      | true => exact fun h => h
      | false => exact qH segs h.aB
    unfold eV; simp only [sL, hs.1, Bool.false_eq_true, if_false, A5 Q6]; unfold nP; simp only [hb, Bool.false_and, cond_false]; rw [e2]; have bL : Nat.blt (h.next + 1) h.next = false := l6 (Nat.le_succ _); have e1 : ∀ L : List (Nat × bB), (∀ b' o', look L b' = some o' -> look h.aB b' = some o') -> bH h.next (h.next + 1) ((h.next, o) :: L) = [(h.next, o)] := fun L hL => yO fun b' o' hg => I.ok b' o' (hL b' o' hg); simp only [aA.push, bL, cond_false, bV n1, qI, cond_true]; rw [e1 _ hMs]; rfl
  have GG : ∃ mO, ((mk h.next, c) :: σ : aX) = mO ++ ρ := by
    obtain ⟨mO, agM⟩ := L.suf; exact ⟨(mk h.next, c) :: mO, by rw [agM]; rfl⟩
  have j6 := L.next; refine BC.WY hf (hk (mk h.next) hr h0 G S0 A _ _ ms rd _ _ (fun s hs => ?_) (fun k hk s hs cM hh => ?_) ((I.made hm).set (show aJ _ _ (.raw (mk h.next)) (mk h.next) from rfl) n2) ((L.made I hm GG).set (old := false) n2 fun e => by cases e))
  . rcases List.mem_cons.1 hs with rfl | hs
    . exact ⟨j6, Nat.le_refl _⟩
    have := KK s hs; exact ⟨this.1, Nat.le_succ_of_le this.2⟩
  rw [e0] at hk
  obtain rfl : k = h.next := by simpa using hk
  rcases List.mem_cons.1 hs with rfl | hs
  . exact cM rfl
  have := KK s hs; omega
theorem oB.agK {b j : Nat} {dx dy : Tmp} {ys : List τ.den} (hT : eX P T e τ) (sY : eX P T' e τ) (hx : aY fl (.tmp dx) = some (.raw w)) (hy : aY fl (.tmp dy) = some (.v (.sl τ) ys)) (dJ : ys.length <= 1000000) (hρ : ∃ mO, σ = mO ++ ρ)
    (hk : ∀ w', oB P orc ops n l (i + 1) ((d, .raw w') :: fl) (fM false d nw) ((w', .row e τ ys) :: σ) ρ (bs ++ [b]) (mem ||| 2 ^ i) none K)
    (hb : aP bs ⟨some d, .call { callee := .builtin .append, args := #[.tmp dx, .tmp dy], argTypes := #[T, T'] }, ty, pos, after, g⟩ = b := by rfl) (hyo : E8 nw (.tmp dy) = true := by rfl) (hj : b.testBit j = true := by rfl) (hw : cX ops fl g = some true := by rfl) (hn : (Nat.blt d n && Nat.ble n 4000) = true := by rfl) :
    oB P orc ops n (⟨some d, .call { callee := .builtin .append, args := #[.tmp dx, .tmp dy], argTypes := #[T, T'] }, ty, pos, after, g⟩ :: l) i fl nw ((w, .tP e 0 []) :: σ) ρ bs mem (some (w, j)) K := fun hr h0 G S0 A t h ms rd chg segs KK bL I L => by
  obtain ⟨n1, n2⟩ := fits hn; have j6 := L.next
  let H : aA := { next := h.next, low := h.next, aB := bif Nat.beq (mem &&& b) mem then h.aB else mask b segs h.aB }
  have aj9 : ∀ k o, H.get k = some o -> h.get k = some o := fun k o => by
    show look (bif Nat.beq (mem &&& b) mem then h.aB else mask b segs h.aB) k = some o -> look h.aB k = some o
    cases Nat.beq (mem &&& b) mem with
    | true => exact fun h => h
    | false => exact qH segs h.aB
  have hold : ∀ k, k < hr.next -> H.get k = h.get k := fun k hk => by
    show look (bif Nat.beq (mem &&& b) mem then h.aB else mask b segs h.aB) k = look h.aB k
    cases Nat.beq (mem &&& b) mem with
    | true => rfl
    | false => exact D4 segs h.aB fun s hs _ hh => by have := KK s hs; omega
  have ajA : ∀ k ∈ cW w, H.get k = h.get k := fun k hk => by
    show look (bif Nat.beq (mem &&& b) mem then h.aB else mask b segs h.aB) k = look h.aB k
    cases Nat.beq (mem &&& b) mem with
    | true => rfl
    | false => exact D4 segs h.aB fun s hs htb hh => bL k hk s hs (fun e => by rw [e, hj] at htb; cases htb) hh
  have aaB : ∀ (w1 : Value) (c : Cell), own [(w1, c)] ++ (own σ ++ S0) = own ((w1, c) :: σ) ++ S0 := fun w1 c => by simp [own, List.append_assoc]
  have cM : Nat.beq dx dy = false := by
    cases hd : Nat.beq dx dy with
    | false => rfl
    | true =>
      obtain rfl := bU hd; rw [hx] at hy; cases hy
  have cw : bS h (own ((w, .tP e 0 []) :: σ) ++ S0) w (.tP e 0 []) := I.cells _ List.mem_cons_self
  have cwH : bS H (own ((w, .tP e 0 []) :: σ) ++ S0) w (.tP e 0 []) := by
    rcases cw with z | ⟨b0, rs, m, z1, z2, z3, z4, z5, z6⟩
    . exact .inl z
    exact .inr ⟨b0, rs, m, z1, z2, by rw [ajA b0 (by rw [z1]; simp [cW])]; exact z3, z4, z5, z6⟩
  have n9 := I.apart; rw [bE] at n9; have n9 := List.nodup_append.1 n9
  have LH : Lc (own σ ++ S0) H [(w, .tP e 0 [])] t [(dx, .raw w), (dy, .v (.sl τ) ys)] := {
    ok := fun k o hg => I.ok k o (aj9 k o hg)
    s0 := fun k hk => I.lc.lt k (by rw [bE, List.append_assoc]; exact List.mem_append_right _ hk)
    cells := fun c hc => by
      rw [List.mem_singleton.1 hc, aaB]; exact cwH
    sep := fun k hk hm => by
      have hk : k ∈ cW w := by simpa [own] using hk
      rcases List.mem_append.1 hm with hm | hm
      . exact n9.2.2 k hk k hm rfl
      exact I.lc.sep k (by rw [bE]; exact List.mem_append_left _ hk) hm
    apart := by simpa [own] using n9.1
    aH := ⟨by rw [aaB]; exact I.aH.1.via L.lt fun k o hk hg => by rw [hold k hk]; exact hg, fun k pv hk => by
      simp only [jG] at hk
      cases hdx : Nat.beq dx k with
      | true =>
        rw [hdx] at hk; simp only [cond_true, Option.some.injEq] at hk; obtain rfl := bU hdx; subst hk
        exact (I.aH _ _ hx : t.get dx = w)
      | false =>
        rw [hdx] at hk; simp only [cond_false] at hk
        cases hdy : Nat.beq dy k with
        | true =>
          rw [hdy] at hk; simp only [cond_true, Option.some.injEq] at hk; obtain rfl := bU hdy; subst hk; have h5 : aJ hr (A ++ S0) (.v (.sl τ) ys) (t.get dy) := L.aH dy _ hy (by simpa [E8] using hyo)
          exact h5.nx fun k o hg rD => ⟨by rw [hold k (L.ok k o hg)]; exact (L.kB k o hg rD).1, by rw [aaB]; exact (L.kB k o hg rD).2⟩
        | false => (rw [hdy] at hk; cases hk)⟩ }
  obtain ⟨u, H', v2, R4, ⟨w', e0, e1⟩, e2, e3, e4⟩ := (cA.agK (P := P) (σ := []) (x := .tmp dx) (y := .tmp dy) hT sY (by simp [aY, jG]) (by simp [aY, jG, cM]) dJ).2 (own σ ++ S0) H t LH; subst e0 e1; have bR : dQ P #[T, T'] (aC t (.tmp dx)) (aC t (.tmp dy)) H = some (u, H') := e4 (some d) ty pos after g; have hxw : aC t (.tmp dx) = w := (I.aH _ _ hx : t.get dx = w)
  have dV : h.next <= H'.low := by
    rw [hxw] at bR; rcases cwH with ⟨z1, _, _⟩ | ⟨b0, rs, m, z1, z2, z3, z4, z5, z6⟩
    . have z1 : w = .slice none 0 0 := z1; rw [z1] at bR; exact IT (h := H) hT sY bR
    have z1 : w = .slice (some ⟨b0, 0, none⟩) 0 0 := z1; obtain rfl : rs = [] := z4; obtain rfl : m = false := z6 rfl; rw [z1] at bR; exact IM (h := H) hT sY z3 bR
  have hnH : h.next <= H'.next := e2.gC.next; have ajB : mZ H' := e2.gC.ok LH.ok
  let h2 : aA := { next := H'.next, low := h.low, aB := bH h.next H'.next H'.aB ++ h.aB }
  have g1 : ∀ k, k < h.next -> h2.get k = h.get k := fun k hk => HG hk
  have g0 : ∀ k, k < h.next -> H'.get k = H.get k := fun k hk => by
    rcases e2.gC.chg k hk with h3 | h3
    . exact h3
    exact absurd dV (by have : H'.low <= k := h3; omega)
  have g2 : ∀ k, h.next <= k -> h2.get k = H'.get k := fun k hk => by
    show look (bH h.next H'.next H'.aB ++ h.aB) k = look H'.aB k; rw [iN]
    have pV : look h.aB k = none := by
      cases lS : look h.aB k with
      | none => rfl
      | some o => exact absurd (I.ok k o lS) (by omega)
    rw [pV, Option.or_none]
    cases lS : look H'.aB k with
    | some o =>
      have : k < H'.next := ajB k o lS
      rw [zW _ _ hk this, lS]
    | none =>
      cases hl3 : look (bH h.next H'.next H'.aB) k with
      | none => rfl
      | some o => rw [(eO _ _ _ hl3).2] at lS; cases lS
  have hf : eV P hr (fH P) ops n ⟨some d, .call { callee := .builtin .append, args := #[.tmp dx, .tmp dy], argTypes := #[T, T'] }, ty, pos, after, g⟩ i (⟨t, h, bs, segs, mem, false⟩, rd, chg) = some (⟨t.set depth d u, h2, bs ++ [b], (i, h.next, H'.next) :: segs, mem ||| 2 ^ i, false⟩, rd, chg) := by
    have sL : bJ ops t ⟨some d, .call { callee := .builtin .append, args := #[.tmp dx, .tmp dy], argTypes := #[T, T'] }, ty, pos, after, g⟩ = some true := cH I.aH hw; unfold eV; simp only [sL, show calm (.call { callee := .builtin .append, args := #[.tmp dx, .tmp dy], argTypes := #[T, T'] }) = false from rfl, Bool.false_eq_true, if_false, A5 (show vK (.call { callee := .builtin .append, args := #[.tmp dx, .tmp dy], argTypes := #[T, T'] }) = false from rfl)]; unfold nP; simp only [hb, Bool.false_and, cond_false]; rw [show fH P ⟨some d, .call { callee := .builtin .append, args := #[.tmp dx, .tmp dy], argTypes := #[T, T'] }, ty, pos, after, g⟩ (aC t) { next := h.next, low := h.next, aB := bif Nat.beq (mem &&& b) mem then h.aB else mask b segs h.aB } = some (u, H') from e4 (some d) ty pos after g]; have q1 : Nat.blt H'.next h.next = false := l6 hnH
    have q2 : Nat.ble h.next H'.low = true := by rw [Nat.ble_eq]; exact dV
    simp only [q1, cond_false, bV n1, q2, cond_true]; rfl
  have jQ : ∀ k ∈ cW w', k ∈ cW w \/ h.next <= k := fun k hk => by
    rcases e2.new k (by simpa [own] using hk) with h3 | h3
    . exact .inl (by simpa [own] using h3)
    exact .inr h3
  have agN : ∀ k ∈ own σ, k < h.next := fun k hk => I.lc.lt k (by rw [bE, List.append_assoc]; exact List.mem_append_right _ (List.mem_append_left _ hk)); have aoC : ∀ k ∈ cW w, k < h.next := fun k hk => I.lc.lt k (by rw [bE, List.append_assoc]; exact List.mem_append_left _ hk)
  have m2 : Made S0 h h2 ((w, .tP e 0 []) :: σ) ((w', .row e τ ys) :: σ) := {
    gC := ⟨hnH, fun k hk _ => g1 k hk, fun _ k o hg => by
      rcases Nat.lt_or_ge k h.next with hk | hk
      . exact Nat.lt_of_lt_of_le hk hnH
      rw [g2 k hk] at hg; exact ajB k o hg, fun _ h3 _ _ => h3, fun k hk => .inl (g1 k hk), Nat.le_refl _⟩
    new := fun k hk => by
      rw [bE] at hk; rcases List.mem_append.1 hk with hk | hk
      . rcases jQ k hk with h3 | h3
        . exact .inl (by rw [bE]; exact List.mem_append_left _ h3)
        exact .inr h3
      exact .inl (by rw [bE]; exact List.mem_append_right _ hk)
    apart := by
      rw [bE]; refine List.nodup_append.2 ⟨by simpa [own] using e2.apart, n9.2.1, fun k hk k2 nU yN => ?_⟩; subst yN; rcases jQ k hk with h3 | h3
      . exact n9.2.2 k h3 k nU rfl
      have := agN k nU; omega
    cells := fun c hc => by
      rcases List.mem_cons.1 hc with rfl | hc
      . have h3 : bS H' (own ((w', .row e τ ys) :: σ) ++ S0) w' (.row e τ ys) := by
          have := e2.cells _ List.mem_cons_self; rw [aaB] at this; exact this
        refine h3.aW (fun k hk => ?_) (fun k o hg rD => ⟨?_, rD⟩) fun k hk => by rw [bE, List.append_assoc]; exact List.mem_append_left _ hk
        . rcases Nat.lt_or_ge k h.next with h4 | h4
          . rcases jQ k hk with h5 | h5
            . rw [g1 k h4, g0 k h4, ajA k h5]
            omega
          exact g2 k h4
        rcases Nat.lt_or_ge k h.next with h4 | h4
        . rw [g1 k h4]; exact aj9 k o (by rw [<- g0 k h4]; exact hg)
        rw [g2 k h4]; exact hg
      have h3 := I.cells c (List.mem_cons_of_mem _ hc); have vC : ∀ k ∈ cW c.1, k ∈ own σ := fun k hk => List.mem_flatMap.2 ⟨c, hc, hk⟩; refine h3.aW (fun k hk => g1 k (agN k (vC k hk))) (fun k o hg rD => ⟨by rw [g1 k (I.ok k o hg)]; exact hg, fun hm => ?_⟩) fun k hk => List.mem_append_left _ (by rw [bE]; exact List.mem_append_right _ (vC k hk)); rw [bE, List.append_assoc] at hm; rcases List.mem_append.1 hm with hm | hm
      . rcases jQ k hm with h5 | h5
        . exact rD (by rw [bE, List.append_assoc]; exact List.mem_append_left _ h5)
        have := I.ok k o hg; omega
      exact rD (by rw [bE, List.append_assoc]; exact List.mem_append_right _ hm) }
  have GG : ∃ mO, ((w', .row e τ ys) :: σ : aX) = mO ++ ρ := by
    obtain ⟨mO, rfl⟩ := hρ; exact ⟨_ :: mO, rfl⟩
  refine BC.WY hf (hk w' hr h0 G S0 A _ _ ms rd chg _ (fun s hs => ?_) trivial ((I.made m2).set (show aJ _ _ (.raw w') u from (e3 : u = w')) n2) ((L.made I m2 GG).set (old := false) n2 fun e => by cases e)); rcases List.mem_cons.1 hs with rfl | hs
  . exact ⟨j6, Nat.le_refl _⟩
  have := KK s hs; exact ⟨this.1, Nat.le_trans this.2 hnH⟩
end Go.Fs
namespace Go.Fs
variable {P : Program} {orc : FuncId -> List Value -> aA -> Option (Value × aA)} {b7 : Option Nat} {h h' h0 h1 h2 : aA} {S S' S0 B G : List Nat} {σ aQ : aX} {t t' : Tr} {ms : List Nat} {fl : VL} {ops : Array Oper} {n i mem : Nat} {l : List Oper} {K : VL -> aX -> Prop} {Q : Ex -> VL -> aX -> Prop}
  {d : Tmp} {ty : TypeId} {pos : String} {after : Array Edge} {op : Op} {v pv : PV} {g : Option (Nat × Bool)} {bs nw : List Nat} {segs : List (Nat × Nat × Nat)} {so : Bool}
end Go.Fs
namespace Go.Fs
open Go.RowKit (Below)
variable {P : Program} {H : Type} {enc : TypeId × Value -> H} {w : World} {base : Nat} {sp : Nat -> Bool} {held : Bool}
def fsB (P : Program) (ty : TypeId -> Ty -> Bool) : List Field -> Nat -> Ty -> Bool
  | [f], off, .pair a .unit => Nat.beq f.offset off && Nat.beq (P.cellsOf f.type) a.size && ty f.type a
  | [f], off, τ => Nat.beq f.offset off && Nat.beq (P.cellsOf f.type) τ.size && ty f.type τ
  | f :: fs, off, .pair a b => Nat.beq f.offset off && Nat.beq (P.cellsOf f.type) a.size && ty f.type a && fsB P ty fs (off + a.size) b
  | _, _, _ => false
def agO (P : Program) (m : Nat) (e : TypeId) : List Field := (List.range m).map fun i => { name := "", type := e, offset := i * P.cellsOf e, embedded := false, tag := "", pkgPath := "", byteOffset := 0 }
def xW (P : Program) : Nat -> TypeId -> Ty -> Bool
  | 0, _, _ => false
  | n + 1, t, τ =>
    match P.underlying t, τ with
    | some (.int k), .int k' => decide (k = k')
    | some .bool, .bool => true
    | some .string, .str => true
    | some (.float k), .bQ k' => decide (k = k')
    | some (.slice te), .sl e => Nat.beq (P.cellsOf te) e.size && Nat.blt 0 e.size && xW P n te e
    | some (.struct fs), .pair a b => Nat.beq (P.cellsOf t) (Ty.pair a b).size && fsB P (xW P n) fs.toList 0 (.pair a b)
    | some (.array m e), .pair a b => Nat.beq (P.cellsOf t) (Ty.pair a b).size && fsB P (xW P n) (agO P m e) 0 (.pair a b)
    | _, _ => false
def Wf : (τ : Ty) -> τ.den -> Prop
  | .int k, n => (Lit.int k n).wf = true
  | .bool, _ => True
  | .str, s => s.size <= maxLen
  | .bQ k, n => (Lit.float k n).wf = true
  | .sl e, xs => List.length xs <= maxLen /\ ∀ x ∈ (xs : List e.den), Wf e x
  | .pair a b, x => Wf a x.1 /\ Wf b x.2
  | .unit, _ => True
  | .mp _ _, _ => True
  | .fn, _ => True
  | .jT, _ => True
structure v8 (P : Program) (w : World) (ρ : Ren) (S : Nat -> Prop) (h : aA) (bT : Ren) (S' : Nat -> Prop) (h' : aA) : Prop where
  hr : HR P bT S' w.heap.size (wz w) h' w
  agree : ∀ b, S b -> S' b /\ bT b = ρ b
  gC : eW h h'
theorem v8.refl {ρ : Ren} {S : Nat -> Prop} {h : aA} (hr : HR P ρ S w.heap.size (wz w) h w) : v8 P w ρ S h ρ S h := ⟨hr, fun _ hb => ⟨hb, rfl⟩, eW.refl h⟩
theorem v8.trans {ρ cS iZ : Ren} {S S1 S2 : Nat -> Prop} {h h1 h2 : aA} (a : v8 P w ρ S h cS S1 h1) (b : v8 P w cS S1 h1 iZ S2 h2) : v8 P w ρ S h iZ S2 h2 :=
  ⟨b.hr, fun i hi => let ⟨h3, h4⟩ := a.agree i hi; let ⟨h5, h6⟩ := b.agree i h3; ⟨h5, h6.trans h4⟩, a.gC.trans b.gC⟩
theorem v8.ok {ρ cS : Ren} {S S1 : Nat -> Prop} {h h1 : aA} (a : v8 P w ρ S h cS S1 h1) : mZ h1 := fun b o hg => (a.hr.ids b (a.hr.aB b o hg).1).1
theorem ai8 {ρ : Ren} {S : Nat -> Prop} {h : aA} (hr : HR P ρ S w.heap.size (wz w) h w) : mZ h := fun b o hg => (hr.ids b (hr.aB b o hg).1).1
theorem v8.row {ρ : Ren} {S : Nat -> Prop} {h : aA} (hr : HR P ρ S w.heap.size (wz w) h w) {te : TypeId} {cs : List Value} {a : Addr} (ha : a.block < w.heap.size) (hc : ∀ i, i < cs.length -> ∃ v, w.cell? ⟨a.block, a.off + i, none⟩ = some v /\ VR ρ S (cs.getD i undef) v) :
    v8 P w ρ S h (fun b => if b = h.next then (.clean a.block a.off 0 (P.cellsOf te)) else ρ b) (fun b => S b \/ b = h.next) (h.push (.row te cs false false)) := by
  have fI : ∀ b, S b -> (S b \/ b = h.next) /\ (fun b => if b = h.next then (Loc.clean a.block a.off 0 (P.cellsOf te)) else ρ b) b = ρ b := fun b hb => by
    have := (hr.ids b hb).1; exact ⟨.inl hb, by simp only; rw [if_neg (by omega)]⟩
  have hold : ∀ i o, (h.push (.row te cs false false)).get i = some o -> (i = h.next /\ o = .row te cs false false) \/ (i ≠ h.next /\ h.get i = some o) := fun i o hg => by
    rw [aA.bN] at hg; by_cases hi : i = h.next
    . rw [if_pos hi] at hg; exact .inl ⟨hi, (Option.some.inj hg).symm⟩
    rw [if_neg hi] at hg; exact .inr ⟨hi, hg⟩
  refine ⟨⟨fun i o hg => ?_, fun i j oi oj hi hj oi1 oj1 he => ?_, fun i o hg ho => ?_, fun i o hg ho => ?_, fun b hb => ?_, Nat.succ_pos _, JK (Below.refl _ _), Nat.zero_le _, Nat.le_refl _⟩, fI, eW.push h _⟩
  . rcases hold i o hg with ⟨rfl, rfl⟩ | ⟨hi, gX⟩
    . refine ⟨.inr rfl, ?_⟩; simp only [if_true]; refine ⟨rfl, fun i hi => ?_, fun hx => by cases hx⟩; obtain ⟨v, h1, h2⟩ := hc i hi; exact ⟨v, h1, h2.mono fI⟩
    obtain ⟨h1, h2⟩ := hr.aB i o gX; refine ⟨.inl h1, ?_⟩; simp only [if_neg hi]; exact h2.mono fI
  . rcases hold i oi hi with ⟨rfl, rfl⟩ | ⟨dI, hgi⟩
    . cases oi1
    rcases hold j oj hj with ⟨rfl, rfl⟩ | ⟨y6, hgj⟩
    . cases oj1
    simp only [if_neg dI, if_neg y6] at he; exact hr.inj i j oi oj hgi hgj oi1 oj1 he
  . rcases hold i o hg with ⟨rfl, rfl⟩ | ⟨hi, gX⟩
    . cases ho
    simp only [if_neg hi]; exact hr.base i o gX ho
  . rcases hold i o hg with ⟨rfl, rfl⟩ | ⟨hi, gX⟩
    . simp only [if_true]; exact ha
    simp only [if_neg hi]; exact hr.ro i o gX ho
  have hn : (h.push (.row te cs false false)).next = h.next + 1 := rfl; rw [hn]; rcases hb with hb | rfl
  . have := hr.ids b hb; exact ⟨by omega, this.2⟩
  have := hr.pos; exact ⟨by omega, by omega⟩
theorem V7 {fuel : Nat} {t : TypeId} {cs : List Value} {x : DataW H × List MemPlace} {k : FloatKind} (ht : P.underlying t = some (.float k)) (h : DataW.trod enc P w base sp held fuel t cs = some x) : ∃ n, cs = [.float k n] /\ (Lit.float k n).wf = true := by
  cases fuel with
  | zero => simp [DataW.trod] at h
  | succ n =>
    unfold DataW.trod at h; rw [ht] at h; split at h <;> simp_all
theorem PD {α β : Type} (f : α -> Option β) : ∀ (l : List α) (r : List β), l.mapM f = some r -> l.length = r.length /\ ∀ i (hi : i < l.length) (hr : i < r.length), f l[i] = some r[i]
  | [], r, h => by
    simp only [List.mapM_nil] at h; obtain rfl := Option.some.inj h
    exact ⟨rfl, fun i hi => absurd hi (by simp)⟩
  | a :: l, r, h => by
    rw [List.mapM_cons] at h
    cases hf : f a with
    | none => rw [hf] at h; cases h
    | some b =>
      rw [hf] at h
      cases hl : l.mapM f with
      | none => rw [hl] at h; cases h
      | some bs =>
        rw [hl] at h; obtain rfl := Option.some.inj h; obtain ⟨h1, h2⟩ := PD f l bs hl; refine ⟨by simp [h1], fun i hi hr => ?_⟩
        cases i with
        | zero => exact hf
        | succ i => exact h2 i (by simpa using hi) (by simpa using hr)
theorem V8 {a : Addr} {n : Nat} {cs : List Value} (h : w.cells? base a n = some cs) : cs.length = n /\ ∀ i, i < n -> w.cell? (a.add i) = some (cs.getD i undef) := by
  unfold World.cells? at h; split at h
  . obtain ⟨h1, h2⟩ := PD _ _ _ h; rw [List.length_range] at h1; refine ⟨h1.symm, fun i hi => ?_⟩; have := h2 i (by simpa using hi) (by omega); rw [List.getElem_range] at this; rw [this]; simp [List.getD, show i < cs.length by omega]
  cases h
theorem YW {a : Addr} {v : Value} (h : w.cell? a = some v) : a.spot = none /\ a.block < w.heap.size := by
  unfold World.cell? at h; split at h
  . rename_i c _ _ hb; refine ⟨?_, (Array.getElem?_eq_some_iff.1 hb).1⟩
    cases hs : a.spot with
    | none => rfl
    | some s => rw [hs] at h; cases h
  cases h
def GW (P : Program) (w : World) (τ : Ty) (cs : List Value) : Prop := ∀ (ρ : Ren) (S : Nat -> Prop) (h : aA), HR P ρ S w.heap.size (wz w) h w ->
  ∃ bT S' h' cs' x, v8 P w ρ S h bT S' h' /\ LR bT S' cs' cs /\ cR h' [] τ cs' x /\ Wf τ x
theorem LR.one {ρ : Ren} {S : Nat -> Prop} {v v' : Value} (h : VR ρ S v v') : LR ρ S [v] [v'] := LR.cons h LR.nil
theorem RM {e : Ty} (a : Addr) (len : Nat) (gW : ∀ i, i < len -> ∃ cs, (∀ j, j < e.size -> w.cell? (a.add (i * e.size + j)) = some (cs.getD j undef)) /\ cs.length = e.size /\ GW P w e cs) :
    ∀ (ρ : Ren) (S : Nat -> Prop) (h : aA), HR P ρ S w.heap.size (wz w) h w -> ∃ bT S' h' rs xs, v8 P w ρ S h bT S' h' /\ rs.length = len * e.size /\ List.length xs = len /\ (∀ i, i < len * e.size -> ∃ v, w.cell? (a.add i) = some v /\ VR bT S' (rs.getD i undef) v) /\
      cE h' [] e rs xs /\ ∀ x ∈ (xs : List e.den), Wf e x := by
  induction len with
  | zero =>
    intro ρ S h hr
    exact ⟨ρ, S, h, [], [], v8.refl hr, by simp, rfl, fun i hi => by omega, cE.nil, fun x hx => by cases hx⟩
  | succ n ih =>
    intro ρ S h hr; obtain ⟨cS, S1, h1, rs, xs, g1, l1, l2, c1, e1, w1⟩ := ih (fun i hi => gW i (by omega)) ρ S h hr; obtain ⟨cs, k1, k2, k3⟩ := gW n (by omega); obtain ⟨iZ, S2, h2, cs', x, g2, lr, rc, wf⟩ := k3 cS S1 h1 g1.hr; have hN : cV h1 [] h2 [] := g2.gC.nx g1.ok; have hl : cs'.length = e.size := rc.len
    have CL : cE h2 [] e cs' [x] := by
      refine ⟨by simpa using hl, fun i hi => ?_⟩
      obtain rfl : i = 0 := by simpa using hi
      simp only [Nat.zero_mul, List.drop_zero, List.getElem_cons_zero]; rw [List.take_of_length_le (by omega)]; exact rc
    refine ⟨iZ, S2, h2, rs ++ cs', xs ++ [x], g1.trans g2, by rw [List.length_append, l1, hl, Nat.add_mul]; omega, by simp [l2], fun i hi => ?_, (e1.nx hN).append CL, fun y hy => ?_⟩
    . rw [Nat.add_mul, Nat.one_mul] at hi; by_cases vC : i < n * e.size
      . obtain ⟨v, WE, hv2⟩ := c1 i vC; refine ⟨v, WE, ?_⟩; rw [List.getD_eq_getElem?_getD, List.getElem?_append_left (by omega), <- List.getD_eq_getElem?_getD]; exact hv2.mono g2.agree
      have hj : i - n * e.size < e.size := by omega
      refine ⟨cs.getD (i - n * e.size) undef, ?_, ?_⟩
      . have := k1 (i - n * e.size) hj
        rwa [show n * e.size + (i - n * e.size) = i by omega] at this
      rw [List.getD_eq_getElem?_getD, List.getElem?_append_right (by omega), l1, <- List.getD_eq_getElem?_getD]; exact lr.getD _
    rcases List.mem_append.1 hy with hy | hy
    . exact w1 y hy
    obtain rfl := List.mem_singleton.1 hy; exact wf
theorem Addr.acO {a : Addr} (h : a.spot = none) (n : Nat) : a.add n = ⟨a.block, a.off + n, none⟩ := by
  obtain ⟨b, o, s⟩ := a; simp only at h; subst h; unfold Addr.add; by_cases hn : n = 0
  . subst hn; simp
  simp [hn]
theorem BV {n : Nat} (ih : ∀ (t : TypeId) (τ : Ty), xW P n t τ = true -> ∀ (fuel : Nat) (cs : List Value) (x : DataW H × List MemPlace), DataW.trod enc P w base sp held fuel t cs = some x -> GW P w τ cs) :
    ∀ (fs : List Field) (off : Nat) (τ : Ty) (cs : List Value) (m : Nat), fsB P (xW P n) fs off τ = true -> cs.length = off + τ.size -> (∀ f ∈ fs, ∃ x, DataW.trod enc P w base sp held m f.type ((cs.drop f.offset).take (P.cellsOf f.type)) = some x) -> GW P w τ (cs.drop off) := by
  have one : ∀ (f : Field) (off : Nat) (τ : Ty) (cs : List Value) (m : Nat), f.offset = off -> P.cellsOf f.type = τ.size -> xW P n f.type τ = true -> off + τ.size <= cs.length -> (∃ x, DataW.trod enc P w base sp held m f.type ((cs.drop f.offset).take (P.cellsOf f.type)) = some x) -> GW P w τ ((cs.drop off).take τ.size) := by
    intro f off τ cs m h1 h2 h3 h4 ⟨x, hx⟩; rw [h1, h2] at hx; exact ih f.type τ h3 m _ x hx
  intro fs
  induction fs with
  | nil => intro off τ cs m hb; cases hb
  | cons f fs ihf =>
    intro off τ cs m hb hl jA; have hf := jA f List.mem_cons_self
    cases fs with
    | nil =>
      by_cases hs : ∃ a, τ = .pair a .unit
      . obtain ⟨a, rfl⟩ := hs; have sP : (Nat.beq f.offset off && Nat.beq (P.cellsOf f.type) a.size && xW P n f.type a) = true := hb; obtain ⟨sP, h3⟩ := b6 sP; obtain ⟨h1, h2⟩ := b6 sP
        have hs : (Ty.pair a .unit).size = a.size := by simp [Ty.size]
        rw [hs] at hl; have := one f off a cs m (bU h1) (bU h2) h3 (by omega) hf; intro ρ S h hr; obtain ⟨bT, S', h', cs', x, g, lr, rc, wf⟩ := this ρ S h hr; have e1 : (cs.drop off).take a.size = cs.drop off := List.take_of_length_le (by rw [List.length_drop]; omega); rw [e1] at lr; have wD := rc.len; exact ⟨bT, S', h', cs', (x, ()), g, lr, ⟨by rw [List.take_of_length_le (by omega)]; exact rc, by rw [List.drop_eq_nil_of_le (by omega)]; rfl⟩, wf, trivial⟩
      have sP : (Nat.beq f.offset off && Nat.beq (P.cellsOf f.type) τ.size && xW P n f.type τ) = true := by
        cases τ with
        | pair a b =>
          cases b with
          | unit => exact absurd ⟨a, rfl⟩ hs
          | _ => exact hb
        | _ => exact hb
      obtain ⟨sP, h3⟩ := b6 sP; obtain ⟨h1, h2⟩ := b6 sP; have := one f off τ cs m (bU h1) (bU h2) h3 (by omega) hf; have e1 : (cs.drop off).take τ.size = cs.drop off := List.take_of_length_le (by rw [List.length_drop]; omega)
      rwa [e1] at this
    | cons g fs =>
      cases τ with
      | pair a b =>
        have sP : (Nat.beq f.offset off && Nat.beq (P.cellsOf f.type) a.size && xW P n f.type a && fsB P (xW P n) (g :: fs) (off + a.size) b) = true := hb; obtain ⟨sP, h4⟩ := b6 sP; obtain ⟨sP, h3⟩ := b6 sP; obtain ⟨h1, h2⟩ := b6 sP; have hs : (Ty.pair a b).size = a.size + b.size := rfl; rw [hs] at hl; have ha := one f off a cs m (bU h1) (bU h2) h3 (by omega) hf; have WG := ihf (off + a.size) b cs m h4 (by omega) (fun g hg => jA g (List.mem_cons_of_mem _ hg)); intro ρ S h hr; obtain ⟨cS, S1, nR, cs1, x1, g1, lr1, rc1, wf1⟩ := ha ρ S h hr; obtain ⟨iZ, S2, IE, cs2, x2, g2, lr2, rc2, wf2⟩ := WG cS S1 nR g1.hr; have hN : cV nR [] IE [] := g2.gC.nx g1.ok; have wJ := rc1.len; refine ⟨iZ, S2, IE, cs1 ++ cs2, (x1, x2), g1.trans g2, ?_, ⟨?_, ?_⟩, wf1, wf2⟩
        . have := (lr1.mono g2.agree).append lr2
          rwa [show (cs.drop off).take a.size ++ cs.drop (off + a.size) = cs.drop off from by rw [<- List.drop_drop, List.take_append_drop]] at this
        . rw [List.take_left' wJ]; exact rc1.nx hN
        rw [List.drop_left' wJ]; exact rc2
      | _ => cases hb
theorem akY : ∀ (n : Nat) (t : TypeId) (τ : Ty), xW P n t τ = true -> ∀ (fuel : Nat) (cs : List Value) (x : DataW H × List MemPlace), DataW.trod enc P w base sp held fuel t cs = some x -> GW P w τ cs := by
  intro n
  induction n with
  | zero => intro t τ h; cases h
  | succ n ih =>
    intro t τ hb fuel cs x hx; unfold xW at hb; split at hb
    . rename_i k k' hu; obtain rfl : k = k' := of_decide_eq_true hb; obtain ⟨m, rfl, _, hwf⟩ := DataW.trod_int hu hx; exact fun ρ S h hr => ⟨ρ, S, h, _, m, v8.refl hr, LR.one (.lit rfl), rfl, hwf⟩
    . rename_i hu; obtain ⟨b, rfl, _⟩ := DataW.trod_bool hu hx; exact fun ρ S h hr => ⟨ρ, S, h, _, b, v8.refl hr, LR.one (.lit rfl), rfl, trivial⟩
    . rename_i hu; obtain ⟨s, rfl, _, hs⟩ := DataW.trod_string hu hx; exact fun ρ S h hr => ⟨ρ, S, h, _, s, v8.refl hr, LR.one (.lit rfl), rfl, hs⟩
    . rename_i k k' hu; obtain rfl : k = k' := of_decide_eq_true hb; obtain ⟨m, rfl, hwf⟩ := V7 hu hx; exact fun ρ S h hr => ⟨ρ, S, h, _, m, v8.refl hr, LR.one (.lit rfl), rfl, hwf⟩
    . rename_i te e hu; obtain ⟨hb, h3⟩ := b6 hb; obtain ⟨h1, h2⟩ := b6 hb; have hce := bU h1; have nF := jP h2; rcases DataW.trod_slice hu hx with ⟨rfl, _⟩ | ⟨a, len, cap, elems, rest, m, _, rfl, _, hba, hlc, nS, hlen, CL, _⟩
      . exact fun ρ S h hr => ⟨ρ, S, h, [.slice none 0 0], [], v8.refl hr, LR.one (.lit rfl), ⟨_, rfl, .inl ⟨rfl, rfl⟩⟩, Nat.zero_le _, fun x hx => by cases hx⟩
      by_cases h0 : len = 0
      . subst h0; exact fun ρ S h hr => ⟨ρ, S, h, [.slice (some ⟨0, 0, none⟩) 0 2], [], v8.refl hr, LR.one (.slice 0 0 0 2 cap a (Nat.zero_le _) (fun h => by cases h) (fun _ => rfl) (fun h => absurd rfl h)), ⟨_, rfl, .inr ⟨0, 0, 2, rfl, .inl rfl⟩⟩, Nat.zero_le _, fun x hx => by cases hx⟩
      have gW : ∀ i, i < len -> ∃ cs, (∀ j, j < e.size -> w.cell? (a.add (i * e.size + j)) = some (cs.getD j undef)) /\ cs.length = e.size /\ GW P w e cs := by
        intro i hi; have := CL i hi; rw [List.getElem?_eq_getElem (by omega)] at this; rw [hce] at this
        cases hc : w.cells? base (a.add (i * e.size)) e.size with
        | none => rw [hc] at this; cases this
        | some cs =>
          rw [hc] at this; obtain ⟨k1, k2⟩ := V8 hc; refine ⟨cs, fun j hj => ?_, k1, ih te e h3 m cs _ this⟩; rw [<- k2 j hj]; congr 1; obtain ⟨b, o, s⟩ := a; unfold Addr.add; by_cases QS : i * e.size = 0
          . simp [QS]
          by_cases yC : j = 0
          . subst yC; simp [QS]
          simp [QS, yC, Nat.add_assoc]
      have wL : a.spot = none /\ a.block < w.heap.size := by
        obtain ⟨cs, k1, _⟩ := gW 0 (by omega); have := k1 0 nF; rw [Nat.zero_mul, Nat.zero_add] at this; have h4 := YW this; simpa [Addr.add] using h4
      intro ρ S h hr; obtain ⟨cS, S1, nR, rs, xs, g1, l1, l2, c1, e1, w1⟩ := RM (P := P) a len gW ρ S h hr
      have rN := v8.row (te := te) g1.hr (cs := rs) (a := a) wL.2 (fun i hi => by
        have := c1 i (by omega)
        rwa [Addr.acO wL.1] at this)
      have E7 : mL (nR.push (.row te rs false false)) [] e (.slice (some ⟨nR.next, 0, none⟩) (List.length xs) 2) xs := (e1.nx (rN.gC.nx g1.ok)).slv (by rw [aA.bN, if_pos rfl]) (by simp); refine ⟨_, _, _, [.slice (some ⟨nR.next, 0, none⟩) (List.length xs) 2], xs, g1.trans rN, ?_, ⟨_, rfl, E7⟩, by omega, w1⟩; rw [l2]; refine LR.one (.slice nR.next 0 len 2 cap a hlc (fun h => by cases h) (fun h5 => by have := g1.hr.pos; omega) fun _ => ⟨.inr rfl, ?_, fun h => by cases h⟩); simp only [if_true, Loc.at, Nat.add_zero]; obtain ⟨b, o, s⟩ := a; simp only at wL; rw [wL.1]
    . rename_i fs a b hu; obtain ⟨h1, h2⟩ := b6 hb; obtain ⟨xs, m, _, _, hl, dJ, jA⟩ := DataW.trod_struct hu hx
      have wD : cs.length = (Ty.pair a b).size := by rw [hl, bU h1]
      have := BV ih fs.toList 0 (.pair a b) cs m h2 (by omega) (fun f hf => by
        obtain ⟨i, hi, rfl⟩ := List.getElem_of_mem hf
        have dI : i < fs.size := by simpa using hi
        have := jA i fs[i] (by simp [dI]); rw [List.getElem?_eq_getElem (by omega)] at this
        exact ⟨_, by simpa using this⟩)
      simpa using this
    . rename_i m e a b hu; obtain ⟨h1, h2⟩ := b6 hb; obtain ⟨xs, m', _, _, hl, dJ, jA⟩ := DataW.trod_array hu hx
      have wD : cs.length = (Ty.pair a b).size := by rw [hl, bU h1]
      have := BV ih (agO P m e) 0 (.pair a b) cs m' h2 (by omega) (fun f hf => by
        obtain ⟨i, hi, rfl⟩ := List.mem_map.1 hf; have dI : i < m := List.mem_range.1 hi; have := jA i dI; rw [List.getElem?_eq_getElem (by omega)] at this
        exact ⟨_, this⟩)
      simpa using this
    cases hb
theorem V9 {n : Nat} {r : Reach} {b0 : Nat} {t : TypeId} {τ : Ty} {v : Value} (hb : xW P n t τ = true) (jD : Value.okWide P w r b0 t v) : gI v = τ.agg := by
  cases n with
  | zero => cases hb
  | succ n =>
    unfold xW at hb; unfold Value.okWide at jD; split at hb
    . rename_i k k' hu; rw [hu] at jD; simp only [Cell.okWide, hu, Cell.ok] at jD; cases v <;> simp_all [gI, Ty.agg]
    . rename_i hu; rw [hu] at jD; simp only [Cell.okWide, hu, Cell.ok] at jD; cases v <;> simp_all [gI, Ty.agg]
    . rename_i hu; rw [hu] at jD; simp only [Cell.okWide, hu, Cell.ok] at jD; cases v <;> simp_all [gI, Ty.agg]
    . rename_i k k' hu; rw [hu] at jD; simp only [Cell.okWide, hu, Cell.ok] at jD; cases v <;> simp_all [gI, Ty.agg]
    . rename_i te e hu; rw [hu] at jD; simp only [Cell.okWide, hu, Cell.ok] at jD; cases v <;> simp_all [gI, Ty.agg]
    . rename_i fs a b hu; rw [hu] at jD; obtain ⟨cs, rfl, _⟩ := jD; rfl
    . rename_i m e a b hu; rw [hu] at jD; obtain ⟨cs, rfl, _⟩ := jD; rfl
    cases hb
theorem GX {ρ : Ren} {S : Nat -> Prop} {h : aA} (hr : HR P ρ S w.heap.size (wz w) h w) {n : Nat} {r : Reach} {b0 : Nat} {t : TypeId} {τ : Ty} {v : Value} {d : DataW H} {ps : List MemPlace} (hb : xW P n t τ = true) (jD : Value.okWide P w r b0 t v) (hd : DataW.Trod enc P w base sp held t v d ps) :
    ∃ bT S' h' v' x, v8 P w ρ S h bT S' h' /\ VR bT S' v' v /\ aG h' [] τ v' x /\ Wf τ x := by
  have fI := V9 hb jD; obtain ⟨fuel, hf⟩ := hd; obtain ⟨bT, S', h', cs', x, g, lr, rc, wf⟩ := akY n t τ hb fuel _ _ hf ρ S h hr
  cases IJ : τ.agg with
  | true =>
    rw [IJ] at fI
    cases v with
    | agg cs =>
      refine ⟨bT, S', h', .agg cs'.toArray, x, g, VR.RX (by simpa [Value.cells] using lr), ⟨IJ.symm, by simpa [Value.cells] using rc⟩, wf⟩
    | _ => cases fI
  | false =>
    rw [IJ] at fI; rw [cells_one fI] at lr; obtain ⟨u, rfl, hu⟩ := rc.one IJ; have := lr.2 0 (by simp); exact ⟨bT, S', h', u, x, g, by simpa using this, hu, wf⟩
theorem acP (hw : 0 <= w.heap.size) : HR P (fun _ => Loc.clean 0 0 0 0) (fun _ => False) w.heap.size (wz w) ⟨1, 1, []⟩ w where
  aB := fun i o h => by cases h
  inj := fun i j oi oj h => by cases h
  base := fun i o h => by cases h
  ro := fun i o h => by cases h
  ids := fun b hb => hb.elim
  pos := Nat.one_pos
  below := JK (Below.refl _ _)
  drawn := Nat.zero_le _
  size := Nat.le_refl _
section
open Go.WideElems Go.ChangeShapes
theorem zK (hl : laidOutB P = true) {W W' : World} (hb : Below W.heap.size W W') : ∀ {ts : List TypeId} {vs : List Value} {ds : List (DataW H)} {ps : List MemPlace}, (ts.all fun t => P.readableRec t && decide (t < P.types.size)) = true ->
    DataW.TrodAll enc P W 0 (fun _ => true) true ts vs ds ps -> (∀ x ∈ ps, x.block < W.heap.size) -> DataW.TrodAll enc P W' 0 (fun b => decide (b < W.heap.size)) true ts vs ds ps
  | [], [], [], _, _, h, _ => h
  | [], _ :: _, _, _, _, h, _ => h.elim
  | [], [], _ :: _, _, _, h, _ => h.elim
  | _ :: _, [], _, _, _, h, _ => h.elim
  | _ :: _, _ :: _, [], _, _, h, _ => h.elim
  | t :: ts, v :: vs, d :: ds, ps, ha, h, hp => by
    obtain ⟨p, q, h1, h2, rfl⟩ := h; simp only [List.all_cons, Bool.and_eq_true, decide_eq_true_eq] at ha; exact ⟨p, q, Go.RowKit.Below.trod hl ha.1.1 ha.1.2 h1 hb (fun x hx => hp x (List.mem_append_left _ hx)), zK hl hb (by simpa using ha.2) h2 (fun x hx => hp x (List.mem_append_right _ hx)), rfl⟩
theorem aaW {f : Func} {s : ChangeSpec} {tb : TypeId} (hl : laidOutB P = true) (W2 : (f.params.toList.all fun t => P.readableRec t && decide (t < P.types.size)) = true) (BK : f.resultTypes = #[tb]) (htb : P.underlying tb = some .bool) (agP : s.vars = []) {W W' : World} {args : Array Value} {ds gs : List (DataW H)}
    {before : List MemPlace} (hW : DataW.Whole enc P f.params.toList s.vars false W args.toList ds gs before) (hr : (s.fn H (ds ++ gs)).results = [.lit (.bool true)]) (ha : (s.fn H (ds ++ gs)).args = ds) (hv : (s.fn H (ds ++ gs)).vars = []) (hb : Below W.heap.size W W') :
    s.post enc P f false true false false W args (.bool true) W' := by
  have bL := hW.lt; have hW' := hW; obtain ⟨p, q, hA, hV, rfl, _, _⟩ := hW; rw [agP] at hV; have hV' : gs = [] /\ q = [] := trodVars_none hV; obtain ⟨rfl, rfl⟩ := hV'; refine ⟨ds, [], p ++ [], [], p, [], hW', ?_, ?_, ?_, hb.frame _, fun h => by cases h⟩
  . rw [hr, BK]; exact trodAll_mk1 (Go.RowKit.shut_bool htb _)
  . rw [ha]; exact zK hl hb W2 hA fun x hx => bL x (List.mem_append_left _ hx)
  rw [agP, hv]; exact rfl
end
theorem SN (hP : lW P) {orc : FuncId -> List Value -> aA -> Option (Value × aA)} {W : World} (o4 : eN P W.heap.size (wz W) orc) {ρz : Ren} {Sz : Nat -> Prop} {hz : aA} (hrz : HR P ρz Sz W.heap.size (wz W) hz W) (hGz : GT hz []) {f : FuncId} (hen : Enters P f) {fn : Func} {n : Nat} {t0 t1 t2 : TypeId} {τ0 τ1 τ2 : Ty} (hp : fn.params = #[t0, t1, t2]) (iY : xW P n t0 τ0 = true) (s4 : xW P n t1 τ1 = true) (rD : xW P n t2 τ2 = true)
    (hE : ∀ (h : aA) (v0 v1 v2 : Value) (x0 : τ0.den) (x1 : τ1.den) (x2 : τ2.den), adW h -> aG h [] τ0 v0 x0 -> aG h [] τ1 v1 x1 -> aG h [] τ2 v2 x2 -> Wf τ0 x0 -> Wf τ1 x1 -> Wf τ2 x2 -> rC P orc f [v0, v1, v2] h fun r h' => r = .bool true /\ h' = h)
    {args : Array Value} {ds : List (DataW H)} {ps : List MemPlace} (jD : ∀ (j : Nat) t v, fn.params[j]? = some t -> args[j]? = some v -> Value.okWide P W .any base t v) (hA : DataW.TrodAll enc P W 0 sp held fn.params.toList args.toList ds ps) :
    Calls P f args W fun | .returned v', w' => v' = .bool true /\ Below W.heap.size W w' | _, _ => False := by
  rw [hp] at hA jD; obtain ⟨v0, Q8, d0, ds0, p0, q0, ha, rfl, rfl, k0, r0⟩ := Go.ChangeShapes.trodAll_cons hA; obtain ⟨v1, vs1, d1, ds1, p1, q1, rfl, rfl, rfl, k1, r1⟩ := Go.ChangeShapes.trodAll_cons r0; obtain ⟨v2, vs2, d2, ds2, p2, q2, rfl, rfl, rfl, k2, r2⟩ := Go.ChangeShapes.trodAll_cons r1; obtain ⟨rfl, rfl, rfl⟩ := Go.ChangeShapes.trodAll_nil r2
  obtain rfl : args = #[v0, v1, v2] := by cases args; simp_all
  obtain ⟨ρ0, S0, h0, u0, x0, g0, c0, e0, w0⟩ := GX hrz iY (jD 0 t0 v0 rfl rfl) k0; obtain ⟨cS, S1, h1, u1, x1, g1, c1, e1, w1⟩ := GX g0.hr s4 (jD 1 t1 v1 rfl rfl) k1; obtain ⟨iZ, S2, h2, u2, x2, g2, c2, e2, w2⟩ := GX g1.hr rD (jD 2 t2 v2 rfl rfl) k2; have hR := hE h2 u0 u1 u2 x0 x1 x2 ⟨g2.ok, ((hGz.nx (g0.gC.nx (ai8 hrz))).nx (g1.gC.nx g0.ok)).nx (g2.gC.nx g1.ok)⟩ ((e0.nx (g1.gC.nx g0.ok)).nx (g2.gC.nx g1.ok)) (e1.nx (g2.gC.nx g1.ok)) e2 w0 w1 w2; refine (aeG (args' := [v0, v1, v2]) hP o4 hen g2.hr (LR.cons ((c0.mono g1.agree).mono g2.agree) (LR.cons (c1.mono g2.agree) (LR.one c2))) (rC.mono hR fun v h' h => h.1) rfl).mono fun e w' he => ?_
  cases e with
  | returned v => exact ⟨he.1, RY he.2⟩
  | panicked c => exact he
  | outgrown => exact he
end Go.Fs
