/- Parts of the proof: an evaluator of the model, what it is sound for, and contracts of functions. No condition. -/
import Derived.Test.YtgkcodkgcnbdeaaGreatP8
import Derived.Test.YtgkcodkgcnbdeaaGreatP5
import Derived.Test.YtgkcodkgcnbdeaaGreatP2
import Derived.Test.YtgkcodkgcnbdeaaGreatP6
import Derived.Test.YtgkcodkgcnbdeaaGreatChecked
import Derived.KernelRfl
import Derived.Test.YtgkcodkgcnbdeaaGreatRows
import Derived.WalkKit
import Derived.ProofKit
import Derived.LaidMore
import Derived.Deep.DeepHandedRow
import Derived.Lib.LaidTab
import Derived.Stop.LaidErr
set_option linter.all false
namespace Go.Proofs
open Go.Fs Ieee
set_option maxHeartbeats 4000000
theorem ajU {n : Int} (h : (Lit.int .u16 n).wf = true) : 0 <= n /\ n < 65536 := by
  have h1 : (decide (IntKind.u16.min <= n) && decide (n <= IntKind.u16.max)) = true := h; obtain ⟨h2, h3⟩ := b6 h1; have h4 : (0 : Int) <= n := of_decide_eq_true h2; have h5 : n <= (65535 : Int) := of_decide_eq_true h3; exact ⟨h4, by omega⟩
theorem wfL {e : Ty} {xs : List e.den} (h : Wf (.sl e) xs) : xs.length <= 9223372036854775807 := Nat.le_trans h.1 (by decide)
section
variable {d : bM} {l : List Pc}
theorem acQ {i : Nat} (h : i < b9 l) (h2 : i < (dM l l.length).length) : (dM l l.length)[i] = b8 (aD l) i := by rw [zG h, dK h2]
theorem acR {i : Nat} (h : i < b9 l) (h2 : i < (jI l l.length).length) : (jI l l.length)[i] = b8 (aD l) (b9 l + i) := by
  rw [zH h, <- dK (show i < (dM l l.length).length from h)]; simp only [jI, List.getElem_map]
theorem FG {K : Int} {n : Nat} (hK : 0 <= K) : ∀ x ∈ fR K n, x < n := fun x hx => List.mem_range.1 ((vX hK).mem_iff.1 hx)
theorem zL {K : Int} {n : Nat} (hK : 0 <= K) : (fR K n).length = n := by rw [(vX hK).length_eq, List.length_range]
theorem YX {K : Int} (hb : aR d (aD l) = 0) (hK : 0 <= K) {k : Nat} (hk : k < b9 l) (h2 : k < (fY K (b9 l)).length) :
    ∃ iw : Nat, iw < b9 l /\ (fY K (b9 l))[k] = (iw : Int) /\ qA d (jJ l (fR K (b9 l)) k) [b8 (aD l) (b9 l + iw)] = (jJ l (fR K (b9 l)) (k + 1), 0) := by
  have uL := zL (n := b9 l) hK
  have hko : k < (fR K (b9 l)).length := by omega
  have hd := acE hK (List.getElem_mem h2)
  have e : (fR K (b9 l))[k] = ((fY K (b9 l))[k]).toNat := by simp only [fR, List.getElem_map]
  refine ⟨(fR K (b9 l))[k], FG hK _ (List.getElem_mem hko), by rw [e]; omega, acH hb (xF hK) (FG hK) hko⟩
theorem aaC {K : Int} (hK : 0 <= K) {k : Nat} (hk : k <= b9 l) : (jJ l (fR K (b9 l)) k).length = b9 l + k := agE (xF hK) (FG hK) (by rw [zL hK]; exact hk)
theorem acS {h9 : ∀ p ∈ l, p.2.2.2.2.length < 100000} : ∀ p ∈ aD l, p.2.2.2.2.length < 100000 := fun p hp => by
  unfold aD at hp; rcases List.mem_append.1 hp with h | h
  . exact h9 p (FD.subset h)
  obtain ⟨q, hq, rfl⟩ := List.mem_map.1 h; exact h9 q (FD.subset hq)
theorem MN {S : List Nat} (h9 : ∀ p ∈ l, p.2.2.2.2.length < 100000) : ∀ p ∈ o9 l S, p.2.2.2.2.length < 100000 := fun p hp => h9 p ((tM l S).subset hp)
theorem akZ {l : List Pc} {j : Nat} (hj : j < l.length) (h0 : 0 < l.length) (h : ¬ l[j].1 ≠ l[0].1 /\ ¬ 100000 <= l[j].1) : MF l l[j] = true := by
  unfold MF; rw [<- dK h0, Bool.and_eq_true, decide_eq_true_eq, decide_eq_true_eq]; exact ⟨Classical.not_not.1 h.1, by omega⟩
theorem agQ {l : List Pc} {j : Nat} (hj : j < l.length) (h0 : 0 < l.length) (h : l[j].1 ≠ l[0].1 \/ 100000 <= l[j].1) : MF l l[j] = false := by
  unfold MF; rw [<- dK h0, Bool.eq_false_iff, Ne, Bool.and_eq_true, decide_eq_true_eq, decide_eq_true_eq]; rintro ⟨h1, h2⟩; rcases h with h | h
  . exact h h1
  omega
end
theorem acT {l : List Pc} {K : Int} {k v : Nat} (hK : 0 <= K) (hk : k = b9 l) (hv : v = b9 l) : jJ l (fR K (b9 l)) k = aD l /\ MK l v = aD l := by
  subst hk hv; refine ⟨?_, agH⟩; have := V3 (l := l) (vX (n := b9 l) hK); rw [zL hK] at this; exact this
theorem ai9 {l : List Pc} {v : Nat} (hv : v < b9 l) (h : ((b9 l : Nat) - (1 : Int) - (v : Int)).toNat < (dM l l.length).length) : (dM l l.length)[((b9 l : Nat) - (1 : Int) - (v : Int)).toNat] = b8 (aD l) (b9 l - 1 - v) := by
  have e : ((b9 l : Nat) - (1 : Int) - (v : Int)).toNat = b9 l - 1 - v := by omega
  rw [<- acQ (by omega) (by rw [<- e]; exact h)]; simp only [e]
theorem aiA {l : List Pc} {j : Nat} : (MK l j).length <= 2 * b9 l := by rw [<- eY]; exact (tM _ _).length_le
def bG (d : bM) (l : List Pc) : List (Int × List Int) × Int := if b9 l < (iQ d).length then ([], 7) else (x9 d (aD l) (b8 l 0).1 (0, 0) NP d.2.2.2.length, 0)
theorem al0 {d : bM} {l : List Pc} (hX : bG d l = (x9 d (aD l) (b8 l 0).1 (0, 0) NP d.2.2.2.length, 0)) {z : Nat} (h96 : d.2.2.1 <= 96) (hz : z < (bG d l).1.length) (hd : z < d.2.2.2.length) : ((bG d l).1[z]).1 = (d.2.2.2[z]).2 /\ ((bG d l).1[z]).2.length < 1000000 := by
  have e : (bG d l).1 = x9 d (aD l) (b8 l 0).1 (0, 0) NP d.2.2.2.length := by rw [hX]
  have key : ∀ (L : List (Int × List Int)), L = x9 d (aD l) (b8 l 0).1 (0, 0) NP d.2.2.2.length -> ∀ hz : z < L.length, (L[z]).1 = (d.2.2.2[z]).2 /\ (L[z]).2.length <= d.2.2.1.toNat := fun L hL hz => by
    subst hL; simp only [x9, List.getElem_map, List.getElem_range]; refine ⟨(EU hd).symm, ?_⟩; unfold AD vU; simp
  have := key _ e hz; exact ⟨this.1, Nat.lt_of_le_of_lt this.2 (by omega)⟩
abbrev y35 : Ty := (.pair .str (.int .i64))
theorem agR : fL Tryz.prog 35 y35 := dW (by kernel_rfl)
theorem ajC : lI Tryz.prog 33 dY := gR (z := .agg #[.int .i64 0, .int .i64 0, .int .i64 0, .slice none 0 0]) (by kernel_rfl) rfl rfl
theorem an7 : lI Tryz.prog 35 y35 := gR (z := .agg #[.string ByteArray.empty, .int .i64 0]) (by kernel_rfl) rfl rfl
theorem an8 : lI Tryz.prog 40 BF := gR (z := .agg #[.int .i64 0, .string ByteArray.empty, .int .i64 0, .int .i64 0, .slice none 0 0]) (by kernel_rfl) rfl rfl
theorem an9 : lI Tryz.prog 58 BD := gR (z := .agg #[.int .i64 0, .int .i64 0]) (by kernel_rfl) rfl rfl
theorem anA : lI Tryz.prog 60 tR := gR (z := .agg #[.slice none 0 0, .int .i64 0, .int .i64 0]) (by kernel_rfl) rfl rfl
theorem anB : yQ Tryz.prog 33 dY [(0, 1), (1, 1), (2, 1), (3, 1)] := r9 ajC rfl (by kernel_rfl)
theorem anC : yQ Tryz.prog 41 kA [(0, 1), (1, 1), (2, 1), (3, 1), (4, 1)] := r9 zE rfl (by kernel_rfl)
theorem ajD : yQ Tryz.prog 58 BD [(0, 1), (1, 1)] := r9 an9 rfl (by kernel_rfl)
theorem ajE : yQ Tryz.prog 60 tR [(0, 1), (1, 1), (2, 1)] := r9 anA rfl (by kernel_rfl)
theorem aaU {d : Int × Int × Int × (List (ByteArray × Int))} {l : List (Int × ByteArray × Int × Int × (List Nat))} {key : Int} (FU : d.2.2.2.length <= 9223372036854775807) (rF : l.length <= 9223372036854775807) (C1 : 0 <= key /\ key < 65536) : VF Tryz.prog OA 3 [.v fT d, .v nM l, .v (.int .u16) key] (B true) := by
  refine VF.enter Tryz.func3 rfl (fun _ _ => rfl) rfl ?_; show U _ _ _ _ _ [(0, .v fT d), (1, .v nM l), (2, .v (.int .u16) key)] [] _; refine U.seq (U.text ?_); refine J.new (.box) ?_; refine J.c (.assign rfl) ?_; refine J.go (U.seq (U.seq (U.text ?_))); refine J.r (.ld HY) ?_; refine J.call rfl rfl (VF.call (UH FU)) ?_; refine J.c (.not) (J.c (.move rfl) ?_); refine J.cg (r := (!(mB d))) (w := false) [] trivial (fun _ => (.move rfl)) ?_; refine J.L3 (r0 := (!(mB d))) (w := false) [(45, .v nM l)] ⟨rfl, trivial⟩ rfl rfl .same .refl rfl (fun _ => VF.call (UI rF)) ?_; refine J.cg (r := (!(mB d))) (w := false) [(46, B (qX l (60 : Int)))] ⟨rfl, trivial⟩ (fun _ => (.not)) ?_; refine J.c (.or) (J.c (.move rfl) ?_); refine J.rg (r := ((!(mB d)) || (!(qX l (60 : Int))))) (w := false) [] trivial (fun _ => (.ld HY)) ?_; refine J.cg (r := ((!(mB d)) || (!(qX l (60 : Int))))) (w := false) [] trivial (fun _ => (.move rfl)) ?_; refine J.L3 (r0 := ((!(mB d)) || (!(qX l (60 : Int))))) (w := false) [(50, .v fT d), (51, .v nM l)] ⟨rfl, rfl, trivial⟩ rfl rfl .same .refl rfl (fun jU => have ajF : ((!(mB d)) || (!(qX l (60 : Int)))) = false := (by simpa using jU); VF.call (Y2 (by have h := ajF; simp only [Bool.and_eq_true, Bool.not_eq_true', Bool.or_eq_false_iff, Bool.not_eq_false'] at h; have hss := of_decide_eq_true h.2; have := hss.1; omega) (fun p m => by have h := ajF; simp only [Bool.and_eq_true, Bool.not_eq_true', Bool.or_eq_false_iff, Bool.not_eq_false'] at h; have hss := of_decide_eq_true h.2; obtain ⟨i, hi, rfl⟩ := List.getElem_of_mem m; have := (hss.2 i hi).2; rw [<- dK hi] at this; omega))) ?_; refine J.cg (r := ((!(mB d)) || (!(qX l (60 : Int))))) (w := false) [(52, I (aR d l))] ⟨rfl, trivial⟩ (fun _ => (.neq)) ?_; refine J.c (.or) (J.c (.move rfl) ?_); refine J.cg (r := (((!(mB d)) || (!(qX l (60 : Int)))) || (decide (aR d l ≠ (0 : Int))))) (w := false) [] trivial (fun _ => (.move rfl)) ?_; refine J.rg (r := (((!(mB d)) || (!(qX l (60 : Int)))) || (decide (aR d l ≠ (0 : Int))))) (w := false) [(56, .v nM l)] ⟨rfl, trivial⟩ (fun _ => (.len uD)) ?_; refine J.cg (r := (((!(mB d)) || (!(qX l (60 : Int)))) || (decide (aR d l ≠ (0 : Int))))) (w := false) [(57, I ((l.length : Nat) : Int))] ⟨rfl, trivial⟩ (fun _ => (.eql)) ?_; refine J.c (.or) (J.go ?_); refine U.eE rfl (fun c1 => ?_) (fun c1 => ?_)
  . try simp only [Bool.and_eq_true, Bool.or_eq_true, Bool.and_eq_false_iff, Bool.or_eq_false_iff, Bool.not_eq_true', Bool.not_eq_false', decide_eq_true_eq, decide_eq_false_iff_not] at c1
    refine U.seq (U.text ?_); refine J.call rfl rfl (VF.call (AE )) ?_; refine J.c (.assign rfl) (J.go ?_); refine U.ret ?_; exact aS.one rfl bO (eZ (by rfl))
  try simp only [Bool.and_eq_true, Bool.or_eq_true, Bool.and_eq_false_iff, Bool.or_eq_false_iff, Bool.not_eq_true', Bool.not_eq_false', decide_eq_true_eq, decide_eq_false_iff_not] at c1
  have hsd := of_decide_eq_true c1.1.1.1; have hss := of_decide_eq_true c1.1.1.2; have hs : aR d l = 0 := Classical.not_not.1 c1.1.2
  have h60 : l.length <= 60 := by have := hss.1; have := (cG hs).2.1; omega
  have hr : ∀ p ∈ l, p.2.2.2.2.length < 100000 := fun p m => by obtain ⟨i, hi, rfl⟩ := List.getElem_of_mem m; have := (hss.2 i hi).2; rw [<- dK hi] at this; omega
  have hd := (cG hs).1; have hdk := kH hd; have hb := V2 hs h60; have hfs := GU hs (i := l.length)
  have rY : 0 < l.length := by omega
  have hfl := MG (l := l) (i := l.length) (Nat.le_refl _)
  have hK : 0 <= 1 + key := by omega
  have G7 := acS (l := l) (h9 := hr); have hrf : ∀ p ∈ dM l l.length, p.2.2.2.2.length < 100000 := fun p hp => hr p (FD.subset hp); refine U.skip (U.seq (U.text ?_)); refine J.c (.fa (.l .o)) ?_; refine J.r (.ld bP) ?_; refine J.c (.fa (.r (.l .o))) ?_; refine J.r (.ld bP) ?_; refine J.c (.fa (.r (.r (.l .o)))) ?_; refine J.r (.ld bP) ?_; refine J.c (.ahO (cs := [I d.1, I d.2.1, I d.2.2.1, L0]) anB rfl) ?_; refine J.cell (.alloc ajC) ?_; intro fV; refine J.iJ (cs' := [I d.1, I d.2.1, I d.2.2.1, L0]) lZ (.aiO rfl rfl) ?_; refine J.go (U.seq (U.seq (U.text ?_))); refine J.c (.fa (.r (.r (.r .o)))) ?_; refine J.r (.ld rA) ?_; refine J.r (.len q7) ?_; refine J.c (.move rfl) ?_; refine J.go (U.block ?_); refine U.oG 36 x3 ?_; refine U.aW [(1, .v nM l), (2, .v (.int .u16) key), (3, .p fT d), (7, .raw fV), (69, .v RD d.2.2.2), (70, I ((d.2.2.2.length : Nat) : Int)), (71, I ((0 : Nat) : Int))] ⟨rfl, rfl, rfl, rfl, rfl, rfl, rfl, trivial⟩ ?_; refine U.loop (I := fun kk ff ss => ∃ (i : Nat) (w : Value), kk = d.2.2.2.length - i /\ ff = [(1, .v nM l), (2, .v (.int .u16) key), (3, .p fT d), (7, .raw fV), (69, .v RD d.2.2.2), (70, I ((d.2.2.2.length : Nat) : Int)), (71, I ((i : Nat) : Int))] /\ ss = [(w, .row 36 x3 (d.2.2.2.take i)), (fV, .var [I d.1, I d.2.1, I d.2.2.1, .raw w])] /\ (i <= d.2.2.2.length)) ?_ _ _ _ ⟨0, (.slice none 0 0), rfl, rfl, rfl, Nat.zero_le _⟩; rintro kk ff ss ⟨i, w, iI, rfl, rfl, hi⟩; refine U.seq (U.text ?_); refine J.c (.lss) ?_; refine J.go (U.seq ?_); refine U.aN rfl (fun c5 => ?_) (fun c5 => ?_)
  . refine U.skip (U.seq (U.block (U.seq (U.text ?_)))); refine J.c (.ix (j := i) rfl rfl q7 (by omega)) ?_; refine J.r (.ld agR) ?_; refine J.cell (.alloc an7) ?_; intro pP; refine J.iJ (cs' := [St ((d.2.2.2[i]).1), I ((d.2.2.2[i]).2)]) agR .v ?_; refine J.shut [(9, .p y35 (d.2.2.2[i]))] (.cons rfl (.var m0 .refl) .nil) ?_; refine J.go (U.text ?_); refine J.c (.T3 (k := 3) m1) ?_; refine J.r (.QM (k := 3) m1 BR) ?_; refine J.r (.ld agR) ?_; refine J.new (.lit [d.2.2.2[i]] tE) ?_; refine J.app rfl rfl tE tE (by simp; have := hdk.2.2.2.1; omega) ?_; intro pZ; refine J.c (.T3 (k := 3) m1) ?_; refine J.perm l9 ?_; refine J.one m1 fun ho4 => ?_; refine J.u7 (cs' := [I d.1, I d.2.1, I d.2.2.1, .raw pZ]) 3 BR (.raw rfl (LF ho4) ho4) ?_; refine J.nil (U.text ?_); refine J.c (.add rfl rfl (by omega)) (J.c (.move rfl) ?_); refine J.perm l9 ?_; refine J.nil ?_; refine ⟨_, [(1, .v nM l), (2, .v (.int .u16) key), (3, .p fT d), (7, .raw fV), (69, .v RD d.2.2.2), (70, I ((d.2.2.2.length : Nat) : Int)), (71, I (((i + 1) : Nat) : Int))], ?_, ⟨rfl, rfl, rfl, rfl, rfl, rfl, rfl, trivial⟩, (i + 1), pZ, rfl, rfl, (by rw [List.take_succ_eq_append_getElem (by omega)] <;> rfl), (by omega)⟩; omega
  refine U.exit (U.seq ?_); refine U.rK [(w, .row 36 x3 (d.2.2.2.take i)), (fV, .var [I d.1, I d.2.1, I d.2.2.1, .raw w])] [(7, .p dY (d.1, d.2.1, d.2.2.1, (d.2.2.2.take i)))] rfl (.cons rfl (.var m1 (.cons .same (.cons .same (.cons .same (.cons (.row m0) .nil))))) .nil) ?_; refine U.text ?_; have hdi : d.2.2.2.take i = d.2.2.2 := List.take_of_length_le (by omega); refine J.c (.assign rfl) ?_; rw [hdi]; refine J.c (.assign rfl) ?_; refine J.go (U.seq (U.seq (U.text ?_))); refine J.c (.move rfl) ?_; refine J.r (.len uD) ?_; refine J.c (.move rfl) ?_; refine J.go (U.block ?_); refine U.oG 41 kA ?_; refine U.oG 41 kA ?_; refine U.aW [(1, .v nM l), (2, .v (.int .u16) key), (3, .p fT d), (7, .p dY d), (10, .raw (.slice none 0 0)), (11, .raw (.slice none 0 0)), (82, .v nM l), (83, I ((l.length : Nat) : Int)), (84, I ((0 : Nat) : Int))] ⟨rfl, rfl, rfl, rfl, rfl, rfl, rfl, rfl, rfl, trivial⟩ ?_; refine U.loop (I := fun kk ff ss => ∃ (j : Nat) (lo : Value) (fo : Value), kk = l.length - j /\ ff = [(1, .v nM l), (2, .v (.int .u16) key), (3, .p fT d), (7, .p dY d), (10, .raw fo), (11, .raw lo), (82, .v nM l), (83, I ((l.length : Nat) : Int)), (84, I ((j : Nat) : Int))] /\ ss = [(lo, .row 41 kA (jI l j)), (fo, .row 41 kA (dM l j))] /\ (j <= l.length)) ?_ _ _ _ ⟨0, (.slice none 0 0), (.slice none 0 0), rfl, rfl, rfl, Nat.zero_le _⟩; rintro kk ff ss ⟨j, lo, fo, nU, rfl, rfl, hj⟩; refine U.seq (U.text ?_); refine J.c (.lss) ?_; refine J.go (U.seq ?_); refine U.aN rfl (fun x5 => ?_) (fun x5 => ?_)
  . refine U.skip (U.seq (U.block (U.seq (U.text ?_)))); refine J.c (.ix (j := j) rfl rfl uD (by omega)) ?_; refine J.r (.ld U8) ?_; refine J.cell (.alloc an8) ?_; intro IQ; refine J.iJ (cs' := [I ((l[j]).1), St ((l[j]).2.1), I ((l[j]).2.2.1), I ((l[j]).2.2.2.1), .v iF ((l[j]).2.2.2.2)]) U8 .v ?_; refine J.shut [(13, .p BF (l[j]))] (.cons rfl (.var m0 .refl) .nil) ?_; refine J.go (U.seq (U.seq (U.drawn ?_))); refine VD.c (.fa (.l .o)) ?_; refine VD.r [] (.ld bP) (.inl rfl) ?_; refine VD.c (.move rfl) (VD.c (.ix (j := 0) rfl rfl uD (by omega)) (VD.c (.fa (.l .o)) ?_)); refine VD.r [] (.ld bP) (.inl rfl) ?_; refine VD.nw [] (VD.c (.neq) (VD.c (.move rfl) ?_)); refine VD.kE (x := 95) rfl (fun YY => ?_) (fun YY => ?_)
    . have iY := agQ (by omega) (by omega) (.inl YY); have hg := YK (l := l) (by omega) iY; have uR := agC (l := l) (by omega) iY; refine VD.skip (VD.skip (VD.skip (VD.c (.mN rfl rfl) ?_))); refine VD.go ?_; refine U.rI rfl ?_; refine U.exit (U.text ?_); refine J.c (.add rfl rfl (by omega)) (J.c (.move rfl) ?_); refine J.nil ?_; refine ⟨_, [(1, .v nM l), (2, .v (.int .u16) key), (3, .p fT d), (7, .p dY d), (10, .raw fo), (11, .raw lo), (82, .v nM l), (83, I ((l.length : Nat) : Int)), (84, I (((j + 1) : Nat) : Int))], ?_, ⟨rfl, rfl, rfl, rfl, rfl, rfl, rfl, rfl, rfl, trivial⟩, (j + 1), lo, fo, rfl, rfl, (by first | (rw [hg, uR]; done) | (rw [hg, uR]; rfl)), (by omega)⟩; omega
    refine VD.c (.fa (.l .o)) ?_; refine VD.r [] (.ld bP) (.inl rfl) ?_; refine VD.c (.geq) (VD.c (.iD rfl rfl) (VD.go ?_)); refine U.aN rfl (fun c13 => ?_) (fun c13 => ?_)
    . have iY := agQ (by omega) (by omega) (.inr c13); have hg := YK (l := l) (by omega) iY; have uR := agC (l := l) (by omega) iY; refine U.exit (U.text ?_); refine J.c (.add rfl rfl (by omega)) (J.c (.move rfl) ?_); refine J.nil ?_; refine ⟨_, [(1, .v nM l), (2, .v (.int .u16) key), (3, .p fT d), (7, .p dY d), (10, .raw fo), (11, .raw lo), (82, .v nM l), (83, I ((l.length : Nat) : Int)), (84, I (((j + 1) : Nat) : Int))], ?_, ⟨rfl, rfl, rfl, rfl, rfl, rfl, rfl, rfl, rfl, trivial⟩, (j + 1), lo, fo, rfl, rfl, (by first | (rw [hg, uR]; done) | (rw [hg, uR]; rfl)), (by omega)⟩; omega
    have iY := akZ (by omega) (by omega) ⟨YY, c13⟩; have hg := agB (l := l) (by omega) iY; have uR := akT (l := l) (by omega) iY; have hpl := hr _ (List.getElem_mem (show j < l.length by omega)); have hfj := MG (l := l) (i := j) hj; have hlj := FC (l := l) (i := j); refine U.skip (U.seq ?_); refine U.akX [(lo, .row 41 kA (jI l j)), (fo, .row 41 kA (dM l j))] ⟨[], rfl⟩ ?_; refine oB.c (.fa (.l .o)) ?_; refine oB.q rfl (.ld bP) ?_; refine oB.c (.fa (.r (.l .o))) ?_; refine oB.q rfl (.ld uY) ?_; refine oB.c (.fa (.r (.r (.l .o)))) ?_; refine oB.q rfl (.ld bP) ?_; refine oB.nws [] ?_; refine oB.c (.fa (.r (.r (.r (.l .o))))) ?_; refine oB.q rfl (.ld bP) ?_; refine oB.OF (.akU hD) ?_; intro ww6; refine oB.c (.fa (.r (.r (.r (.r .o))))) ?_; refine oB.q rfl (.ld nH) ?_; refine oB.agK hD hD rfl rfl (by omega) ⟨[], rfl⟩ ?_; intro ww7; refine oB.of ?_; refine qK.shut [(111, .v iF ((l[j]).2.2.2.2))] (.cons rfl (.row m0) .nil) ?_ ⟨[], rfl⟩; refine qK.c (.build ((l[j]).1, (l[j]).2.1, (l[j]).2.2.1, (l[j]).2.2.2.1, (l[j]).2.2.2.2) anC) ?_; refine qK.nws [112, 111, 111, 108] ?_; refine qK.akV (.alloc zE) ?_; intro ww8; refine qK.rJ (cA.u7 (k := 0) kC .v (Nat.le_of_ble_eq_true rfl) (.inr ⟨rfl, rfl⟩) rfl rfl) (QT.store rfl (.inl rfl)) ⟨[], rfl⟩ ?_; rintro _ _ ⟨rfl, rfl⟩; refine ⟨⟨[(ww8, .var [I ((l[j]).1), St ((l[j]).2.1), I ((l[j]).2.2.1), I ((l[j]).2.2.2.1), .v iF ((l[j]).2.2.2.2)])], rfl⟩, ?_⟩; refine qK.go ?_; refine U.seq (U.text ?_); refine J.c (.move rfl) ?_; refine J.r (.N8 (dx := ((l[j]).1, (l[j]).2.1, (l[j]).2.2.1, (l[j]).2.2.2.1, (l[j]).2.2.2.2)) m0 kC) ?_; refine J.new (.lit [((l[j]).1, (l[j]).2.1, (l[j]).2.2.1, (l[j]).2.2.2.1, (l[j]).2.2.2.2)] fA) ?_; refine J.perm aeC ?_; refine J.app rfl rfl fA fA (by simp; omega) ?_; intro UX; refine J.c (.assign rfl) ?_; refine J.go (U.seq ?_); refine U.aW [(1, .v nM l), (2, .v (.int .u16) key), (3, .p fT d), (7, .p dY d), (10, .raw UX), (11, .raw lo), (13, .p BF (l[j])), (14, .raw ww8), (82, .v nM l), (83, I ((l.length : Nat) : Int)), (84, I ((j : Nat) : Int))] ⟨rfl, rfl, rfl, rfl, rfl, rfl, rfl, rfl, rfl, rfl, rfl, trivial⟩ ?_; refine U.text ?_; refine J.c (.T3 (k := 0) m1) ?_; refine J.r (.QM (k := 0) m1 bP) ?_; refine J.c (.add rfl rfl (by have := MH (j5 hs _ (List.getElem_mem (show j < l.length by omega))); omega)) (J.c (.T3 (k := 0) m1) ?_); refine J.perm l9 ?_; refine J.u7 (cs' := [I ((l[j]).1 + (1 : Int)), St ((l[j]).2.1), I ((l[j]).2.2.1), I ((l[j]).2.2.2.1), .v iF ((l[j]).2.2.2.2)]) 0 bP .v ?_; refine J.go (U.seq (U.text ?_)); refine J.cell (.OF hD) ?_; intro aoD; refine J.c (.fa (.r (.r (.r (.r .o))))) ?_; refine J.r (.ld nH) ?_; refine J.app rfl rfl hD hD (by simp; omega) ?_; intro aa6; refine J.c (.T3 (k := 4) m1) ?_; refine J.perm l9 ?_; refine J.one m1 fun ajG => ?_; refine J.u7 (cs' := [I ((l[j]).1 + (1 : Int)), St ((l[j]).2.1), I ((l[j]).2.2.1), I ((l[j]).2.2.2.1), .raw aa6]) 4 nH (.raw rfl (LF ajG) ajG) ?_; refine J.go ?_; refine U.perm l9 ?_; refine U.rK [(aa6, .row 68 (.bQ .f32) ((l[j]).2.2.2.2)), (ww8, .var [I ((l[j]).1 + (1 : Int)), St ((l[j]).2.1), I ((l[j]).2.2.1), I ((l[j]).2.2.2.1), .raw aa6])] [(14, .p kA (((l[j]).1 + (1 : Int)), (l[j]).2.1, (l[j]).2.2.1, (l[j]).2.2.2.1, (l[j]).2.2.2.2))] rfl (.cons rfl (.var m1 (.cons .same (.cons .same (.cons .same (.cons .same (.cons (.row m0) .nil)))))) .nil) ?_; refine U.text ?_; refine J.c (.move rfl) ?_; refine J.r (.ld kC) ?_; refine J.new (.lit [(((l[j]).1 + (1 : Int)), (l[j]).2.1, (l[j]).2.2.1, (l[j]).2.2.2.1, (l[j]).2.2.2.2)] fA) ?_; refine J.perm l9 ?_; refine J.app rfl rfl fA fA (by simp; omega) ?_; intro UY; refine J.c (.assign rfl) ?_; refine J.nil (U.text ?_); refine J.c (.add rfl rfl (by omega)) (J.c (.move rfl) ?_); refine J.nil ?_; refine ⟨_, [(1, .v nM l), (2, .v (.int .u16) key), (3, .p fT d), (7, .p dY d), (10, .raw UX), (11, .raw UY), (82, .v nM l), (83, I ((l.length : Nat) : Int)), (84, I (((j + 1) : Nat) : Int))], ?_, ⟨rfl, rfl, rfl, rfl, rfl, rfl, rfl, rfl, rfl, trivial⟩, (j + 1), UY, UX, rfl, rfl, (by first | (rw [hg, uR]; done) | (rw [hg, uR]; rfl)), (by omega)⟩; omega
  refine U.exit (U.seq (U.seq ?_)); refine U.perm l9 ?_; refine U.rK [(fo, .row 41 kA (dM l j))] [(10, .v dA (dM l j))] rfl (.cons rfl (.row m0) .nil) ?_; refine U.rK [(lo, .row 41 kA (jI l j))] [(11, .v dA (jI l j))] rfl (.cons rfl (.row m0) .nil) ?_; refine U.text ?_
  have N3 : j = l.length := by omega
  refine J.c (.move rfl) ?_; rw [N3]; refine J.r (.len fA) ?_; refine J.c (.eql) (J.go ?_); refine U.aN rfl (fun c20 => ?_) (fun c20 => ?_)
  . refine U.seq (U.text ?_); refine J.call rfl rfl (VF.call (AE )) ?_; refine J.c (.assign rfl) (J.go ?_); refine U.ret ?_; exact aS.one rfl bO (eZ (by first | rfl | simp))
  have hm : 0 < b9 l := by have h : ¬ (((dM l l.length).length : Nat) : Int) = 0 := c20; unfold b9; omega
  have hmf : (dM l l.length).length = b9 l := rfl; have hml : (jI l l.length).length = b9 l := FC
  have aoE : b9 l <= 60 := by omega
  have hrr := MM hs hm; have hrg := zT hrr.1 (by omega); have hmv := akQ (s8 hfs hrg); have anD := zJ (o := fR (1 + key) (b9 l)) hb (xF hK) (FG hK) (k := 0); rw [PB] at anD; have E7 := xA hd; have hp1 : 0 <= d.1 * d.2.2.1 /\ d.1 * d.2.2.1 <= 8 * 96 := ⟨Int.mul_nonneg (by omega) (by omega), Int.mul_le_mul hdk.1.2 hdk.2.2.1.2 (by omega) (by omega)⟩; have X2 : 0 <= d.1 * d.2.2.1 * (d.2.2.2.length : Int) /\ d.1 * d.2.2.1 * (d.2.2.2.length : Int) <= 8 * 96 * 16 := ⟨Int.mul_nonneg hp1.1 (by omega), Int.mul_le_mul hp1.2 (by have := hdk.2.2.2.1; omega) (by omega) (by omega)⟩
  have hp3 : (iQ d).length = d.1 * d.2.2.1 * (d.2.2.2.length : Int) := by rw [E7, Int.mul_comm d.1 d.2.2.1, Int.mul_assoc (d.2.2.2.length : Int), Int.mul_comm (d.2.2.2.length : Int)]
  have hor := vX (n := b9 l) hK; have hdl := acD (n := b9 l) hK; have Q5 := eY (l := l); have hf1 : uE d (aD l) (b8 l 0).1 (0, 0) ([2, -1], 1, 0) = bG d l := PC hs hb hor hm (.inl rfl); have dU : uE d (aD l) ((b8 l 0).1 + 1) (0, 0) ([2, -1], 1, 0) = bG d l := PC hs hb hor hm (.inr rfl); refine U.skip (U.seq (U.text ?_)); refine J.c (.move rfl) (J.c (.ix (j := 0) rfl rfl fA (by omega)) (J.c (.fa (.l .o)) ?_)); refine J.r (.ld bP) ?_; rw [show ((dM l l.length)[0]'(by omega)).1 = (b8 l 0).1 from (oA (List.getElem_mem _)).1]; refine J.c (.assign rfl) ?_; refine J.go (U.seq (U.text ?_)); refine J.r (.ld lZ) ?_; refine J.c (.move rfl) (J.c (.move rfl) ?_); refine J.call rfl rfl (VF.call (RF (by omega) hrf)) ?_; refine J.c (.move rfl) (J.c (.extract) (J.c (.extract) (J.c (.extract) ?_))); refine J.cell (.alloc F0) ?_; intro aoF; refine J.c (.assign rfl) ?_; refine J.iJ (cs' := [St (((pT d (dM l l.length) ((b8 l 0).1)).2.1).1), I (((pT d (dM l l.length) ((b8 l 0).1)).2.1).2.1), I (((pT d (dM l l.length) ((b8 l 0).1)).2.1).2.2)]) kD .v ?_; refine J.shut [(17, .p BG ((pT d (dM l l.length) ((b8 l 0).1)).2.1))] (.cons rfl (.var m0 .refl) .nil) ?_; refine J.c (.assign rfl) ?_; simp only [hmv]; refine J.go (U.seq (U.seq (U.text ?_))); refine J.c (.move rfl) (J.c (.neq) (J.c (.move rfl) ?_)); refine J.cg (r := decide (0 ≠ (0 : Int))) (w := false) [] trivial (fun _ => (.move rfl)) ?_; refine J.cg (r := decide (0 ≠ (0 : Int))) (w := false) [] trivial (fun _ => (.fa (.l .o))) ?_; refine J.rg (r := decide (0 ≠ (0 : Int))) (w := false) [(151, .p (.int .i64) d.1)] ⟨rfl, trivial⟩ (fun _ => (.ld bP)) ?_; refine J.cg (r := decide (0 ≠ (0 : Int))) (w := false) [] trivial (fun _ => (.fa (.r (.r (.l .o))))) ?_; refine J.rg (r := decide (0 ≠ (0 : Int))) (w := false) [(153, .p (.int .i64) d.2.2.1)] ⟨rfl, trivial⟩ (fun _ => (.ld bP)) ?_; refine J.cg (r := decide (0 ≠ (0 : Int))) (w := false) [(152, I d.1), (154, I d.2.2.1)] ⟨rfl, rfl, trivial⟩ (fun jU => have agS : ¬ (0 ≠ (0 : Int)) := (by simpa using jU); (.mul rfl rfl (by omega))) ?_; refine J.cg (r := decide (0 ≠ (0 : Int))) (w := false) [] trivial (fun _ => (.fa (.r (.r (.r (k := 0) .o))))) ?_; refine J.rg (r := decide (0 ≠ (0 : Int))) (w := false) [(156, .p RD d.2.2.2)] ⟨rfl, trivial⟩ (fun _ => (.ld rA)) ?_; refine J.rg (r := decide (0 ≠ (0 : Int))) (w := false) [(157, .v RD d.2.2.2)] ⟨rfl, trivial⟩ (fun _ => (.len q7)) ?_; refine J.cg (r := decide (0 ≠ (0 : Int))) (w := false) [(155, I (d.1 * d.2.2.1)), (158, I ((d.2.2.2.length : Nat) : Int))] ⟨rfl, rfl, trivial⟩ (fun jU => have agS : ¬ (0 ≠ (0 : Int)) := (by simpa using jU); (.mul rfl rfl (by omega))) ?_; refine J.cg (r := decide (0 ≠ (0 : Int))) (w := false) [] trivial (fun _ => (.move rfl)) ?_; refine J.rg (r := decide (0 ≠ (0 : Int))) (w := false) [(160, .v dA (dM l l.length))] ⟨rfl, trivial⟩ (fun _ => (.len fA)) ?_; refine J.cg (r := decide (0 ≠ (0 : Int))) (w := false) [(159, I ((d.1 * d.2.2.1) * ((d.2.2.2.length : Nat) : Int))), (161, I (((dM l l.length).length : Nat) : Int))] ⟨rfl, rfl, trivial⟩ (fun jU => have agS : ¬ (0 ≠ (0 : Int)) := (by simpa using jU); (.sub rfl rfl (by omega))) ?_; refine J.cg (r := decide (0 ≠ (0 : Int))) (w := false) [(150, I (((cK d (dM l l.length) (b8 l 0).1).length : Nat) : Int)), (162, I (((d.1 * d.2.2.1) * ((d.2.2.2.length : Nat) : Int)) - (((dM l l.length).length : Nat) : Int)))] ⟨rfl, rfl, trivial⟩ (fun _ => (.neq)) ?_; refine J.c (.or) (J.go ?_); refine U.eE rfl (fun c24 => ?_) (fun c24 => ?_)
  . try simp only [Bool.and_eq_true, Bool.or_eq_true, Bool.and_eq_false_iff, Bool.or_eq_false_iff, Bool.not_eq_true', Bool.not_eq_false', decide_eq_true_eq, decide_eq_false_iff_not] at c24
    exact absurd c24 (by omega)
  try simp only [Bool.and_eq_true, Bool.or_eq_true, Bool.and_eq_false_iff, Bool.or_eq_false_iff, Bool.not_eq_true', Bool.not_eq_false', decide_eq_true_eq, decide_eq_false_iff_not] at c24
  refine U.skip (U.seq (U.text ?_)); refine J.cell (.OF fA) ?_; intro aoG; refine J.c (.move rfl) ?_; refine J.app rfl rfl fA fA (by simp; omega) ?_; intro anE; refine J.c (.assign rfl) ?_; refine J.go (U.seq (U.text ?_)); refine J.cell (.OF fA) ?_; intro aoH; refine J.c (.move rfl) ?_; refine J.app rfl rfl fA fA (by simp; omega) ?_; intro anF; refine J.c (.assign rfl) ?_; refine J.go (U.seq ?_); refine U.perm l9 ?_; refine U.rK [(anE, .row 41 kA (dM l l.length))] [(19, .v dA (dM l l.length))] rfl (.cons rfl (.row m0) .nil) ?_; refine U.rK [(anF, .row 41 kA (jI l l.length))] [(20, .v dA (jI l l.length))] rfl (.cons rfl (.row m0) .nil) ?_; refine U.aW [(2, .v (.int .u16) key), (3, .p fT d), (7, .p dY d), (10, .v dA (dM l l.length)), (11, .v dA (jI l l.length)), (15, I ((b8 l 0).1)), (16, I (((cK d (dM l l.length) (b8 l 0).1).length : Nat) : Int)), (19, .v dA (dM l l.length)), (20, .v dA (jI l l.length))] ⟨rfl, rfl, rfl, rfl, rfl, rfl, rfl, rfl, rfl, trivial⟩ ?_; refine U.text ?_; refine J.c (.move rfl) (J.c (.wS rfl .i64 (by exact wrap64 (by omega) (by omega))) (J.c (.add rfl rfl (by omega)) (J.c (.move rfl) ?_))); refine J.r (.len fA) ?_; refine J.lV [] rfl rfl rfl (gS.call (acC (by omega) (by omega) (by omega))) ?_; rintro _ _ ⟨ajH, rfl, rfl⟩; show J _ _ _ _ _ _ [(ajH, .row 3 (.int .i64) (fY ((1 : Int) + key) ((jI l l.length).length)))] _; refine J.c (.assign rfl) ?_; refine J.go (U.seq (U.seq ?_)); refine U.rK [(ajH, .row 3 (.int .i64) (fY ((1 : Int) + key) ((jI l l.length).length)))] [(21, .v fK (fY ((1 : Int) + key) ((jI l l.length).length)))] rfl (.cons rfl (.row m0) .nil) ?_; refine U.text ?_; refine J.c (.move rfl) ?_; rw [hml]; refine J.r (.len dG) ?_; refine J.c (.move rfl) ?_; refine J.go (U.block ?_); refine U.aW [(3, .p fT d), (7, .p dY d), (10, .v dA (dM l l.length)), (11, .v dA (jI l l.length)), (15, I ((b8 l 0).1)), (16, I (((cK d (dM l l.length) (b8 l 0).1).length : Nat) : Int)), (19, .v dA (jJ l (fR (1 + key) (b9 l)) 0)), (20, .v dA (jI l l.length)), (21, .v fK (fY (1 + key) (b9 l))), (177, .v fK (fY (1 + key) (b9 l))), (178, I (((fY (1 + key) (b9 l)).length : Nat) : Int)), (179, I ((0 : Nat) : Int))] ⟨rfl, rfl, rfl, rfl, rfl, rfl, s6 rfl (by exact PB.symm), rfl, rfl, rfl, rfl, rfl, trivial⟩ ?_; refine U.loop (I := fun kk ff ss => ∃ (k : Nat), kk = b9 l - k /\ ff = [(3, .p fT d), (7, .p dY d), (10, .v dA (dM l l.length)), (11, .v dA (jI l l.length)), (15, I ((b8 l 0).1)), (16, I (((cK d (dM l l.length) (b8 l 0).1).length : Nat) : Int)), (19, .v dA (jJ l (fR (1 + key) (b9 l)) k)), (20, .v dA (jI l l.length)), (21, .v fK (fY (1 + key) (b9 l))), (177, .v fK (fY (1 + key) (b9 l))), (178, I (((fY (1 + key) (b9 l)).length : Nat) : Int)), (179, I ((k : Nat) : Int))] /\ ss = [] /\ (k <= b9 l)) ?_ _ _ _ ⟨0, rfl, rfl, rfl, (by omega)⟩; rintro kk ff ss ⟨k, hk4, rfl, rfl, hk⟩; refine U.seq (U.text ?_); refine J.c (.lss) ?_; refine J.go (U.seq ?_); refine U.aN rfl (fun c30 => ?_) (fun c30 => ?_)
  . have hkd : k < b9 l := by omega
    obtain ⟨iw, hiw, hdr, EL⟩ := YX (l := l) hb hK hkd (by omega); have hla := acR hiw (by omega); have bR := MJ hb (o := fR (1 + key) (b9 l)) (k := k + 1); have hln := aaC (l := l) hK (show k + 1 <= b9 l by omega); have aoI := aaC (l := l) hK (show k <= b9 l by omega)
    have jO : ∀ p ∈ [b8 (aD l) (b9 l + iw)], p.2.2.2.2.length < 100000 := fun p hp => by rw [List.mem_singleton.1 hp]; exact G7 _ (jC (by rw [eY]; omega))
    have bL := ai7 hs hb (xF (n := b9 l) hK) (FG hK) (zL hK) (k := k + 1) (by omega) (by rw [zL hK]; omega); have hrk := MN (l := aD l) (S := vY (b9 l) (fR (1 + key) (b9 l)) k) G7; have anG := MN (l := aD l) (S := vY (b9 l) (fR (1 + key) (b9 l)) (k + 1)) G7; refine U.skip (U.seq (U.block (U.seq (U.text ?_)))); refine J.c (.move rfl) (J.c (.ix (j := k) rfl rfl dG (by omega)) ?_); refine J.r (.ld bP) ?_; rw [hdr]; refine J.c (.assign rfl) (J.c (.assign rfl) ?_); refine J.go (U.seq (U.drawn ?_)); refine VD.r [] (.ld lZ) (.inl rfl) ?_; refine VD.c (.move rfl) (VD.c (.move rfl) (VD.c (.move rfl) (VD.c (.ix (j := iw) rfl rfl fA (by omega)) ?_))); refine VD.r [] (.ld kC) (.inl rfl) ?_; rw [hla]; refine VD.nw [] ?_; refine VD.new (.lit [b8 (aD l) (b9 l + iw)] fA) ?_; refine VD.oH rfl rfl (VF.call (MC (by omega) hrk (by simp) jO)) ?_; refine VD.c (.move rfl) (VD.c (.extract) (VD.c (.extract) (VD.c (.assign rfl) ?_))); refine VD.c (.assign rfl) ?_; simp only [EL]; refine VD.go (U.seq (U.seq (U.text ?_))); refine J.c (.move rfl) (J.c (.neq) (J.c (.move rfl) ?_)); refine J.cg (r := decide (0 ≠ (0 : Int))) (w := false) [] trivial (fun _ => (.move rfl)) ?_; refine J.rg (r := decide (0 ≠ (0 : Int))) (w := false) [(198, .v dA (jJ l (fR (1 + key) (b9 l)) (k + 1)))] ⟨rfl, trivial⟩ (fun _ => (.len fA)) ?_; refine J.cg (r := decide (0 ≠ (0 : Int))) (w := false) [] trivial (fun _ => (.move rfl)) ?_; refine J.rg (r := decide (0 ≠ (0 : Int))) (w := false) [(200, .v dA (dM l l.length))] ⟨rfl, trivial⟩ (fun _ => (.len fA)) ?_; refine J.cg (r := decide (0 ≠ (0 : Int))) (w := false) [] trivial (fun _ => (.move rfl)) ?_; refine J.cg (r := decide (0 ≠ (0 : Int))) (w := false) [(201, I (((dM l l.length).length : Nat) : Int)), (202, I ((k : Nat) : Int))] ⟨rfl, rfl, trivial⟩ (fun jU => have al1 : ¬ (0 ≠ (0 : Int)) := (by simpa using jU); (.add rfl rfl (by omega))) ?_; refine J.cg (r := decide (0 ≠ (0 : Int))) (w := false) [(203, I ((((dM l l.length).length : Nat) : Int) + ((k : Nat) : Int)))] ⟨rfl, trivial⟩ (fun jU => have al1 : ¬ (0 ≠ (0 : Int)) := (by simpa using jU); (.add rfl rfl (by omega))) ?_; refine J.cg (r := decide (0 ≠ (0 : Int))) (w := false) [(199, I (((jJ l (fR (1 + key) (b9 l)) (k + 1)).length : Nat) : Int)), (204, I (((((dM l l.length).length : Nat) : Int) + ((k : Nat) : Int)) + (1 : Int)))] ⟨rfl, rfl, trivial⟩ (fun _ => (.neq)) ?_; refine J.c (.or) (J.go ?_); refine U.eE rfl (fun c33 => ?_) (fun c33 => ?_)
    . try simp only [Bool.and_eq_true, Bool.or_eq_true, Bool.and_eq_false_iff, Bool.or_eq_false_iff, Bool.not_eq_true', Bool.not_eq_false', decide_eq_true_eq, decide_eq_false_iff_not] at c33
      exact absurd c33 (by omega)
    try simp only [Bool.and_eq_true, Bool.or_eq_true, Bool.and_eq_false_iff, Bool.or_eq_false_iff, Bool.not_eq_true', Bool.not_eq_false', decide_eq_true_eq, decide_eq_false_iff_not] at c33
    refine U.skip (U.seq (U.text ?_)); refine J.c (.move rfl) (J.c (.assign rfl) ?_); refine J.go (U.seq (U.text ?_)); refine J.r (.ld lZ) ?_; refine J.c (.move rfl) ?_; refine J.call rfl rfl (VF.call (UU (by omega) anG)) ?_; refine J.c (.move rfl) (J.c (.extract) (J.c (.extract) (J.c (.assign rfl) ?_))); refine J.c (.assign rfl) ?_; refine J.go (U.seq ?_); refine U.aW [(3, .p fT d), (7, .p dY d), (10, .v dA (dM l l.length)), (11, .v dA (jI l l.length)), (15, I ((b8 l 0).1)), (16, I (((cK d (dM l l.length) (b8 l 0).1).length : Nat) : Int)), (19, .v dA (jJ l (fR (1 + key) (b9 l)) (k + 1))), (20, .v dA (jI l l.length)), (21, .v fK (fY (1 + key) (b9 l))), (22, I ((k : Nat) : Int)), (26, I ((kR d (jJ l (fR (1 + key) (b9 l)) (k + 1)) (100000 : Int)).1)), (27, I ((kR d (jJ l (fR (1 + key) (b9 l)) (k + 1)) (100000 : Int)).2)), (177, .v fK (fY (1 + key) (b9 l))), (178, I (((fY (1 + key) (b9 l)).length : Nat) : Int)), (179, I ((k : Nat) : Int))] ⟨rfl, rfl, rfl, rfl, rfl, rfl, rfl, rfl, rfl, rfl, rfl, rfl, rfl, rfl, rfl, trivial⟩ ?_; refine U.text ?_; refine J.c (.move rfl) (J.c (.assign rfl) (J.c (.assign rfl) ?_)); refine J.go (U.seq (U.seq (U.text ?_))); refine J.c (.move rfl) (J.c (.gtr) (J.go ?_)); refine U.join [(3, .p fT d), (7, .p dY d), (10, .v dA (dM l l.length)), (11, .v dA (jI l l.length)), (15, I ((b8 l 0).1)), (16, I (((cK d (dM l l.length) (b8 l 0).1).length : Nat) : Int)), (19, .v dA (jJ l (fR (1 + key) (b9 l)) (k + 1))), (20, .v dA (jI l l.length)), (21, .v fK (fY (1 + key) (b9 l))), (26, I ((kR d (jJ l (fR (1 + key) (b9 l)) (k + 1)) (100000 : Int)).1)), (27, I ((kR d (jJ l (fR (1 + key) (b9 l)) (k + 1)) (100000 : Int)).2)), (28, I ((kR d (jJ l (fR (1 + key) (b9 l)) (k + 1)) 100000).1)), (29, I ((kR d (jJ l (fR (1 + key) (b9 l)) (k + 1)) 100000).2)), (177, .v fK (fY (1 + key) (b9 l))), (178, I (((fY (1 + key) (b9 l)).length : Nat) : Int)), (179, I ((k : Nat) : Int))] [] ?_ ?_; refine U.aN rfl (fun c38 => ?_) (fun c38 => ?_)
    . refine U.text ?_; refine J.c (.assign rfl) (J.c (.assign rfl) ?_); refine J.nil ?_; exact ⟨⟨rfl, rfl, rfl, rfl, rfl, rfl, rfl, rfl, rfl, rfl, rfl, iK rfl (by first | (rw [bL, if_pos (by omega)]) | (rw [bL, if_neg (by omega), if_pos (by omega)]) | (rw [bL, if_neg (by omega), if_neg (by omega)])), iK rfl (by first | (rw [bL, if_pos (by omega)]) | (rw [bL, if_neg (by omega), if_pos (by omega)]) | (rw [bL, if_neg (by omega), if_neg (by omega)])), rfl, rfl, rfl, trivial⟩, rfl⟩
    . refine U.seq (U.text ?_); refine J.c (.move rfl) (J.c (.move rfl) ?_); refine J.r (.len dG) ?_; refine J.c (.sub rfl rfl (by omega)) (J.c (.eql) (J.go ?_)); refine U.aN rfl (fun c40 => ?_) (fun c40 => ?_)
      . refine U.text ?_; refine J.c (.move rfl) (J.c (.add rfl rfl (by omega)) (J.c (.assign rfl) ?_)); refine J.nil ?_; exact ⟨⟨rfl, rfl, rfl, rfl, rfl, rfl, rfl, rfl, rfl, rfl, rfl, iK rfl (by first | (rw [bL, if_pos (by omega)]) | (rw [bL, if_neg (by omega), if_pos (by omega)]) | (rw [bL, if_neg (by omega), if_neg (by omega)])), iK rfl (by first | (rw [bL, if_pos (by omega)]) | (rw [bL, if_neg (by omega), if_pos (by omega)]) | (rw [bL, if_neg (by omega), if_neg (by omega)])), rfl, rfl, rfl, trivial⟩, rfl⟩
      refine U.skip ?_; exact ⟨⟨rfl, rfl, rfl, rfl, rfl, rfl, rfl, rfl, rfl, rfl, rfl, iK rfl (by first | (rw [bL, if_pos (by omega)]) | (rw [bL, if_neg (by omega), if_pos (by omega)]) | (rw [bL, if_neg (by omega), if_neg (by omega)])), iK rfl (by first | (rw [bL, if_pos (by omega)]) | (rw [bL, if_neg (by omega), if_pos (by omega)]) | (rw [bL, if_neg (by omega), if_neg (by omega)])), rfl, rfl, rfl, trivial⟩, rfl⟩
    refine U.seq (U.text ?_); refine J.c (.move rfl) (J.c (.move rfl) (J.c (.neq) (J.c (.move rfl) ?_))); refine J.cg (r := decide ((kR d (jJ l (fR (1 + key) (b9 l)) (k + 1)) (100000 : Int)).1 ≠ (kR d (jJ l (fR (1 + key) (b9 l)) (k + 1)) 100000).1)) (w := false) [] trivial (fun _ => (.move rfl)) ?_; refine J.cg (r := decide ((kR d (jJ l (fR (1 + key) (b9 l)) (k + 1)) (100000 : Int)).1 ≠ (kR d (jJ l (fR (1 + key) (b9 l)) (k + 1)) 100000).1)) (w := false) [] trivial (fun _ => (.move rfl)) ?_; refine J.cg (r := decide ((kR d (jJ l (fR (1 + key) (b9 l)) (k + 1)) (100000 : Int)).1 ≠ (kR d (jJ l (fR (1 + key) (b9 l)) (k + 1)) 100000).1)) (w := false) [(228, I ((kR d (jJ l (fR (1 + key) (b9 l)) (k + 1)) (100000 : Int)).2)), (229, I ((kR d (jJ l (fR (1 + key) (b9 l)) (k + 1)) 100000).2))] ⟨rfl, rfl, trivial⟩ (fun _ => (.neq)) ?_; refine J.c (.or) (J.go ?_); refine U.eE rfl (fun c42 => ?_) (fun c42 => ?_)
    . try simp only [Bool.and_eq_true, Bool.or_eq_true, Bool.and_eq_false_iff, Bool.or_eq_false_iff, Bool.not_eq_true', Bool.not_eq_false', decide_eq_true_eq, decide_eq_false_iff_not] at c42
      exact absurd c42 (by simp)
    try simp only [Bool.and_eq_true, Bool.or_eq_true, Bool.and_eq_false_iff, Bool.or_eq_false_iff, Bool.not_eq_true', Bool.not_eq_false', decide_eq_true_eq, decide_eq_false_iff_not] at c42
    refine U.skip (U.text ?_); refine J.c (.add rfl rfl (by omega)) (J.c (.move rfl) ?_); refine J.nil ?_; refine ⟨_, [(3, .p fT d), (7, .p dY d), (10, .v dA (dM l l.length)), (11, .v dA (jI l l.length)), (15, I ((b8 l 0).1)), (16, I (((cK d (dM l l.length) (b8 l 0).1).length : Nat) : Int)), (19, .v dA (jJ l (fR (1 + key) (b9 l)) (k + 1))), (20, .v dA (jI l l.length)), (21, .v fK (fY (1 + key) (b9 l))), (177, .v fK (fY (1 + key) (b9 l))), (178, I (((fY (1 + key) (b9 l)).length : Nat) : Int)), (179, I (((k + 1) : Nat) : Int))], ?_, ⟨rfl, rfl, rfl, rfl, rfl, rfl, s6 rfl (by first | rfl | simp | omega), rfl, rfl, rfl, rfl, rfl, trivial⟩, (k + 1), rfl, rfl, rfl, (by omega)⟩; omega
  refine U.exit (U.seq (U.seq (U.text ?_))); refine J.c (.move rfl) ?_; refine J.r (.len fA) ?_; refine J.c (.sub rfl rfl (by omega)) (J.c (.assign rfl) ?_); refine J.go (U.block ?_); refine U.aW [(3, .p fT d), (7, .p dY d), (10, .v dA (dM l l.length)), (11, .v dA (jI l l.length)), (15, I ((b8 l 0).1)), (16, I (((cK d (dM l l.length) (b8 l 0).1).length : Nat) : Int)), (19, .v dA (jJ l (fR (1 + key) (b9 l)) k)), (20, .v dA (MK l 0)), (30, I ((b9 l : Nat) - (1 : Int) - (0 : Int)))] ⟨rfl, rfl, rfl, rfl, rfl, rfl, rfl, s6 rfl (by exact acJ.symm), iK rfl (by omega), trivial⟩ ?_; refine U.loop (I := fun kk ff ss => ∃ (v : Nat), kk = b9 l - v /\ ff = [(3, .p fT d), (7, .p dY d), (10, .v dA (dM l l.length)), (11, .v dA (jI l l.length)), (15, I ((b8 l 0).1)), (16, I (((cK d (dM l l.length) (b8 l 0).1).length : Nat) : Int)), (19, .v dA (jJ l (fR (1 + key) (b9 l)) k)), (20, .v dA (MK l v)), (30, I ((b9 l : Nat) - (1 : Int) - (v : Int)))] /\ ss = [] /\ (v <= b9 l)) ?_ _ _ _ ⟨0, rfl, rfl, rfl, (by omega)⟩; rintro kk ff ss ⟨v, hk6, rfl, rfl, hv⟩; refine U.seq (U.seq (U.text ?_)); refine J.c (.move rfl) (J.c (.geq) (J.go ?_)); refine U.aN rfl (fun c46 => ?_) (fun c46 => ?_)
  . have hvd : v < b9 l := by omega
    have hrx := ai9 hvd (by omega); have hmr := acK hb hvd; have aoJ := aiA (l := l) (j := v); have anH := MN (l := aD l) (S := RL (b9 l) v) G7
    have jO : ∀ p ∈ [b8 (aD l) (b9 l - 1 - v)], p.2.2.2.2.length < 100000 := fun p hp => by rw [List.mem_singleton.1 hp]; exact G7 _ (jC (by rw [eY]; omega))
    refine U.skip (U.seq (U.block (U.seq (U.drawn ?_)))); refine VD.r [] (.ld lZ) (.inl rfl) ?_; refine VD.c (.move rfl) (VD.c (.move rfl) (VD.c (.WO (k := ((b9 l : Nat) - (1 : Int) - (v : Int))) rfl rfl fA (by omega) (by omega)) ?_)); refine VD.r [] (.ld kC) (.inl rfl) ?_; rw [hrx]; refine VD.new (.lit [b8 (aD l) (b9 l - 1 - v)] fA) ?_; refine VD.nw [246] (VD.c (.move rfl) ?_); refine VD.oH rfl rfl (VF.call (MC (by simp) jO (by omega) anH)) ?_; refine VD.c (.move rfl) (VD.c (.extract) (VD.c (.extract) (VD.c (.assign rfl) ?_))); refine VD.c (.assign rfl) ?_; simp only [hmr]; refine VD.go (U.seq (U.seq (U.text ?_))); refine J.c (.move rfl) (J.c (.neq) (J.go ?_)); refine U.aN rfl (fun c49 => ?_) (fun c49 => ?_)
    . exact absurd rfl c49
    refine U.skip (U.text ?_); refine J.c (.move rfl) (J.c (.assign rfl) ?_); refine J.nil (U.text ?_); refine J.c (.move rfl) (J.c (.sub rfl rfl (by omega)) (J.c (.assign rfl) ?_)); refine J.nil ?_; refine ⟨_, [(3, .p fT d), (7, .p dY d), (10, .v dA (dM l l.length)), (11, .v dA (jI l l.length)), (15, I ((b8 l 0).1)), (16, I (((cK d (dM l l.length) (b8 l 0).1).length : Nat) : Int)), (19, .v dA (jJ l (fR (1 + key) (b9 l)) k)), (20, .v dA (MK l (v + 1))), (30, I ((b9 l : Nat) - (1 : Int) - ((v + 1) : Int)))], ?_, ⟨rfl, rfl, rfl, rfl, rfl, rfl, rfl, s6 rfl (by first | rfl | simp | omega), iK rfl (by first | rfl | simp | omega), trivial⟩, (v + 1), rfl, rfl, rfl, (by omega)⟩; omega
  refine U.exit (U.seq (U.seq (U.text ?_))); have rM := acT (l := l) (k := k) (v := v) hK (by omega) (by omega); refine J.c (.move rfl) ?_; rw [rM.1, rM.2]; refine J.r (.len fA) ?_; refine J.c (.move rfl) ?_; refine J.r (.len fA) ?_; refine J.c (.move rfl) ?_; refine J.r (.len fA) ?_; refine J.c (.add rfl rfl (by omega)) (J.c (.neq) (J.c (.move rfl) ?_)); refine J.cg (r := decide ((((aD l).length : Nat) : Int) ≠ ((((dM l l.length).length : Nat) : Int) + (((jI l l.length).length : Nat) : Int)))) (w := false) [] trivial (fun _ => (.move rfl)) ?_; refine J.rg (r := decide ((((aD l).length : Nat) : Int) ≠ ((((dM l l.length).length : Nat) : Int) + (((jI l l.length).length : Nat) : Int)))) (w := false) [(263, .v dA (aD l))] ⟨rfl, trivial⟩ (fun _ => (.len fA)) ?_; refine J.cg (r := decide ((((aD l).length : Nat) : Int) ≠ ((((dM l l.length).length : Nat) : Int) + (((jI l l.length).length : Nat) : Int)))) (w := false) [] trivial (fun _ => (.move rfl)) ?_; refine J.rg (r := decide ((((aD l).length : Nat) : Int) ≠ ((((dM l l.length).length : Nat) : Int) + (((jI l l.length).length : Nat) : Int)))) (w := false) [(265, .v dA (aD l))] ⟨rfl, trivial⟩ (fun _ => (.len fA)) ?_; refine J.cg (r := decide ((((aD l).length : Nat) : Int) ≠ ((((dM l l.length).length : Nat) : Int) + (((jI l l.length).length : Nat) : Int)))) (w := false) [(264, I (((aD l).length : Nat) : Int)), (266, I (((aD l).length : Nat) : Int))] ⟨rfl, rfl, trivial⟩ (fun _ => (.neq)) ?_; refine J.c (.or) (J.go ?_); refine U.eE rfl (fun c52 => ?_) (fun c52 => ?_)
  . try simp only [Bool.and_eq_true, Bool.or_eq_true, Bool.and_eq_false_iff, Bool.or_eq_false_iff, Bool.not_eq_true', Bool.not_eq_false', decide_eq_true_eq, decide_eq_false_iff_not] at c52
    exact absurd c52 (by have := eY (l := l); omega)
  try simp only [Bool.and_eq_true, Bool.or_eq_true, Bool.and_eq_false_iff, Bool.or_eq_false_iff, Bool.not_eq_true', Bool.not_eq_false', decide_eq_true_eq, decide_eq_false_iff_not] at c52
  refine U.skip (U.seq (U.seq (U.text ?_))); refine J.c (.move rfl) ?_; refine J.r (.len fA) ?_; refine J.c (.move rfl) ?_; refine J.go (U.block ?_); refine U.aW [(3, .p fT d), (7, .p dY d), (15, I ((b8 l 0).1)), (16, I (((cK d (dM l l.length) (b8 l 0).1).length : Nat) : Int)), (19, .v dA (aD l)), (20, .v dA (aD l)), (269, .v dA (aD l)), (270, I (((aD l).length : Nat) : Int)), (271, I ((0 : Nat) : Int))] ⟨rfl, rfl, rfl, rfl, rfl, rfl, rfl, rfl, rfl, trivial⟩ ?_; refine U.loop (I := fun kk ff ss => ∃ (w : Nat), kk = (aD l).length - w /\ ff = [(3, .p fT d), (7, .p dY d), (15, I ((b8 l 0).1)), (16, I (((cK d (dM l l.length) (b8 l 0).1).length : Nat) : Int)), (19, .v dA (aD l)), (20, .v dA (aD l)), (269, .v dA (aD l)), (270, I (((aD l).length : Nat) : Int)), (271, I ((w : Nat) : Int))] /\ ss = [] /\ (w <= (aD l).length)) ?_ _ _ _ ⟨0, rfl, rfl, rfl, (by omega)⟩; rintro kk ff ss ⟨w, hk8, rfl, rfl, hw⟩; refine U.seq (U.text ?_); refine J.c (.lss) ?_; refine J.go (U.seq ?_); refine U.aN rfl (fun c55 => ?_) (fun c55 => ?_)
  . have hwl : w < (aD l).length := by omega
    have al2 := RK (ac9 hb _ (List.getElem_mem hwl)); have tQ := G7 _ (List.getElem_mem hwl); refine U.skip (U.seq (U.block (U.seq (U.text ?_)))); refine J.c (.move rfl) (J.c (.ix (j := w) rfl rfl fA (by omega)) ?_); refine J.r (.ld kC) ?_; refine J.cell (.alloc zE) ?_; intro aoK; refine J.c (.assign rfl) ?_; refine J.iJ (cs' := [I (((aD l)[w]).1), St (((aD l)[w]).2.1), I (((aD l)[w]).2.2.1), I (((aD l)[w]).2.2.2.1), .v iF (((aD l)[w]).2.2.2.2)]) kC .v ?_; refine J.shut [(34, .p kA ((aD l)[w]))] (.cons rfl (.var m0 .refl) .nil) ?_; refine J.go (U.seq (U.text ?_)); refine J.c (.move rfl) (J.c (.move rfl) (J.c (.ix (j := w) rfl rfl fA (by omega)) ?_)); refine J.r (.ld kC) ?_; refine J.cell (.alloc zE) ?_; intro aoL; refine J.iJ (cs' := [I (((aD l)[w]).1), St (((aD l)[w]).2.1), I (((aD l)[w]).2.2.1), I (((aD l)[w]).2.2.2.1), .v iF (((aD l)[w]).2.2.2.2)]) kC .v ?_; refine J.shut [(35, .p kA ((aD l)[w]))] (.cons rfl (.var m0 .refl) .nil) ?_; refine J.go (U.seq (U.text ?_)); refine J.c (.fa (.l .o)) ?_; refine J.r (.ld bP) ?_; refine J.c (.fa (.l .o)) ?_; refine J.r (.ld bP) ?_; refine J.c (.neq) (J.c (.move rfl) ?_); refine J.cg (r := decide (((aD l)[w]).1 ≠ ((aD l)[w]).1)) (w := false) [] trivial (fun _ => (.fa (.r (.l .o)))) ?_; refine J.rg (r := decide (((aD l)[w]).1 ≠ ((aD l)[w]).1)) (w := false) [(286, .p .str (((aD l)[w]).2.1))] ⟨rfl, trivial⟩ (fun _ => (.ld uY)) ?_; refine J.cg (r := decide (((aD l)[w]).1 ≠ ((aD l)[w]).1)) (w := false) [] trivial (fun _ => (.fa (.r (.l .o)))) ?_; refine J.rg (r := decide (((aD l)[w]).1 ≠ ((aD l)[w]).1)) (w := false) [(288, .p .str (((aD l)[w]).2.1))] ⟨rfl, trivial⟩ (fun _ => (.ld uY)) ?_; refine J.cg (r := decide (((aD l)[w]).1 ≠ ((aD l)[w]).1)) (w := false) [(287, St (((aD l)[w]).2.1)), (289, St (((aD l)[w]).2.1))] ⟨rfl, rfl, trivial⟩ (fun _ => (.aiT)) ?_; refine J.c (.or) (J.c (.move rfl) ?_); refine J.cg (r := ((decide (((aD l)[w]).1 ≠ ((aD l)[w]).1)) || (decide (((aD l)[w]).2.1 ≠ ((aD l)[w]).2.1)))) (w := false) [] trivial (fun _ => (.fa (.r (.r (.l .o))))) ?_; refine J.rg (r := ((decide (((aD l)[w]).1 ≠ ((aD l)[w]).1)) || (decide (((aD l)[w]).2.1 ≠ ((aD l)[w]).2.1)))) (w := false) [(293, .p (.int .i64) (((aD l)[w]).2.2.1))] ⟨rfl, trivial⟩ (fun _ => (.ld bP)) ?_; refine J.cg (r := ((decide (((aD l)[w]).1 ≠ ((aD l)[w]).1)) || (decide (((aD l)[w]).2.1 ≠ ((aD l)[w]).2.1)))) (w := false) [] trivial (fun _ => (.fa (.r (.r (.l .o))))) ?_; refine J.rg (r := ((decide (((aD l)[w]).1 ≠ ((aD l)[w]).1)) || (decide (((aD l)[w]).2.1 ≠ ((aD l)[w]).2.1)))) (w := false) [(295, .p (.int .i64) (((aD l)[w]).2.2.1))] ⟨rfl, trivial⟩ (fun _ => (.ld bP)) ?_; refine J.cg (r := ((decide (((aD l)[w]).1 ≠ ((aD l)[w]).1)) || (decide (((aD l)[w]).2.1 ≠ ((aD l)[w]).2.1)))) (w := false) [(294, I (((aD l)[w]).2.2.1)), (296, I (((aD l)[w]).2.2.1))] ⟨rfl, rfl, trivial⟩ (fun _ => (.neq)) ?_; refine J.c (.or) (J.c (.move rfl) ?_); refine J.cg (r := (((decide (((aD l)[w]).1 ≠ ((aD l)[w]).1)) || (decide (((aD l)[w]).2.1 ≠ ((aD l)[w]).2.1))) || (decide (((aD l)[w]).2.2.1 ≠ ((aD l)[w]).2.2.1)))) (w := false) [] trivial (fun _ => (.fa (.r (.r (.r (.l .o)))))) ?_; refine J.rg (r := (((decide (((aD l)[w]).1 ≠ ((aD l)[w]).1)) || (decide (((aD l)[w]).2.1 ≠ ((aD l)[w]).2.1))) || (decide (((aD l)[w]).2.2.1 ≠ ((aD l)[w]).2.2.1)))) (w := false) [(300, .p (.int .i64) (((aD l)[w]).2.2.2.1))] ⟨rfl, trivial⟩ (fun _ => (.ld bP)) ?_; refine J.cg (r := (((decide (((aD l)[w]).1 ≠ ((aD l)[w]).1)) || (decide (((aD l)[w]).2.1 ≠ ((aD l)[w]).2.1))) || (decide (((aD l)[w]).2.2.1 ≠ ((aD l)[w]).2.2.1)))) (w := false) [] trivial (fun _ => (.fa (.r (.r (.r (.l .o)))))) ?_; refine J.rg (r := (((decide (((aD l)[w]).1 ≠ ((aD l)[w]).1)) || (decide (((aD l)[w]).2.1 ≠ ((aD l)[w]).2.1))) || (decide (((aD l)[w]).2.2.1 ≠ ((aD l)[w]).2.2.1)))) (w := false) [(302, .p (.int .i64) (((aD l)[w]).2.2.2.1))] ⟨rfl, trivial⟩ (fun _ => (.ld bP)) ?_; refine J.cg (r := (((decide (((aD l)[w]).1 ≠ ((aD l)[w]).1)) || (decide (((aD l)[w]).2.1 ≠ ((aD l)[w]).2.1))) || (decide (((aD l)[w]).2.2.1 ≠ ((aD l)[w]).2.2.1)))) (w := false) [(301, I (((aD l)[w]).2.2.2.1)), (303, I (((aD l)[w]).2.2.2.1))] ⟨rfl, rfl, trivial⟩ (fun _ => (.neq)) ?_; refine J.c (.or) (J.c (.move rfl) ?_); refine J.cg (r := ((((decide (((aD l)[w]).1 ≠ ((aD l)[w]).1)) || (decide (((aD l)[w]).2.1 ≠ ((aD l)[w]).2.1))) || (decide (((aD l)[w]).2.2.1 ≠ ((aD l)[w]).2.2.1))) || (decide (((aD l)[w]).2.2.2.1 ≠ ((aD l)[w]).2.2.2.1)))) (w := false) [] trivial (fun _ => (.fa (.r (.r (.r (.r (k := 0) .o)))))) ?_; refine J.rg (r := ((((decide (((aD l)[w]).1 ≠ ((aD l)[w]).1)) || (decide (((aD l)[w]).2.1 ≠ ((aD l)[w]).2.1))) || (decide (((aD l)[w]).2.2.1 ≠ ((aD l)[w]).2.2.1))) || (decide (((aD l)[w]).2.2.2.1 ≠ ((aD l)[w]).2.2.2.1)))) (w := false) [(307, .p iF (((aD l)[w]).2.2.2.2))] ⟨rfl, trivial⟩ (fun _ => (.ld nH)) ?_; refine J.cg (r := ((((decide (((aD l)[w]).1 ≠ ((aD l)[w]).1)) || (decide (((aD l)[w]).2.1 ≠ ((aD l)[w]).2.1))) || (decide (((aD l)[w]).2.2.1 ≠ ((aD l)[w]).2.2.1))) || (decide (((aD l)[w]).2.2.2.1 ≠ ((aD l)[w]).2.2.2.1)))) (w := false) [] trivial (fun _ => (.fa (.r (.r (.r (.r (k := 0) .o)))))) ?_; refine J.rg (r := ((((decide (((aD l)[w]).1 ≠ ((aD l)[w]).1)) || (decide (((aD l)[w]).2.1 ≠ ((aD l)[w]).2.1))) || (decide (((aD l)[w]).2.2.1 ≠ ((aD l)[w]).2.2.1))) || (decide (((aD l)[w]).2.2.2.1 ≠ ((aD l)[w]).2.2.2.1)))) (w := false) [(309, .p iF (((aD l)[w]).2.2.2.2))] ⟨rfl, trivial⟩ (fun _ => (.ld nH)) ?_; refine J.L3 (r0 := ((((decide (((aD l)[w]).1 ≠ ((aD l)[w]).1)) || (decide (((aD l)[w]).2.1 ≠ ((aD l)[w]).2.1))) || (decide (((aD l)[w]).2.2.1 ≠ ((aD l)[w]).2.2.1))) || (decide (((aD l)[w]).2.2.2.1 ≠ ((aD l)[w]).2.2.2.1)))) (w := false) [(308, .v iF (((aD l)[w]).2.2.2.2)), (310, .v iF (((aD l)[w]).2.2.2.2))] ⟨rfl, rfl, trivial⟩ rfl rfl .same .refl rfl (fun _ => VF.call (UG tQ)) ?_; refine J.cg (r := ((((decide (((aD l)[w]).1 ≠ ((aD l)[w]).1)) || (decide (((aD l)[w]).2.1 ≠ ((aD l)[w]).2.1))) || (decide (((aD l)[w]).2.2.1 ≠ ((aD l)[w]).2.2.1))) || (decide (((aD l)[w]).2.2.2.1 ≠ ((aD l)[w]).2.2.2.1)))) (w := false) [(311, B (AG (((aD l)[w]).2.2.2.2) (((aD l)[w]).2.2.2.2)))] ⟨rfl, trivial⟩ (fun _ => (.not)) ?_; refine J.c (.or) (J.go ?_); refine U.eE rfl (fun c58 => ?_) (fun c58 => ?_)
    . try simp only [Bool.and_eq_true, Bool.or_eq_true, Bool.and_eq_false_iff, Bool.or_eq_false_iff, Bool.not_eq_true', Bool.not_eq_false', decide_eq_true_eq, decide_eq_false_iff_not] at c58
      exact absurd c58 (by simp [al2])
    try simp only [Bool.and_eq_true, Bool.or_eq_true, Bool.and_eq_false_iff, Bool.or_eq_false_iff, Bool.not_eq_true', Bool.not_eq_false', decide_eq_true_eq, decide_eq_false_iff_not] at c58
    refine U.skip (U.text ?_); refine J.c (.add rfl rfl (by omega)) (J.c (.move rfl) ?_); refine J.nil ?_; refine ⟨_, [(3, .p fT d), (7, .p dY d), (15, I ((b8 l 0).1)), (16, I (((cK d (dM l l.length) (b8 l 0).1).length : Nat) : Int)), (19, .v dA (aD l)), (20, .v dA (aD l)), (269, .v dA (aD l)), (270, I (((aD l).length : Nat) : Int)), (271, I (((w + 1) : Nat) : Int))], ?_, ⟨rfl, rfl, rfl, rfl, rfl, rfl, rfl, rfl, rfl, trivial⟩, (w + 1), rfl, rfl, rfl, (by omega)⟩; omega
  refine U.exit (U.seq (U.text ?_)); refine J.r (.ld lZ) ?_; refine J.c (.move rfl) (J.c (.move rfl) (J.c (.build (0, 0) ajD) ?_)); refine J.new (.lit [(2 : Int), (-1 : Int)] dG) ?_; refine J.c (.build ([(2 : Int), (-1 : Int)], (1 : Int), 0) ajE) ?_; refine J.call rfl rfl (VF.call (I4 (by omega) G7 (by simp))) ?_; refine J.c (.move rfl) (J.c (.extract) (J.c (.extract) (J.c (.assign rfl) ?_))); refine J.c (.assign rfl) ?_; rw [hf1]; refine J.go (U.seq (U.text ?_)); refine J.r (.ld lZ) ?_; refine J.c (.move rfl) (J.c (.move rfl) (J.c (.add rfl rfl (by omega)) (J.c (.build (0, 0) ajD) ?_))); refine J.new (.lit [(2 : Int), (-1 : Int)] dG) ?_; refine J.c (.build ([(2 : Int), (-1 : Int)], (1 : Int), 0) ajE) ?_; refine J.call rfl rfl (VF.call (I4 (by omega) G7 (by simp))) ?_; refine J.c (.move rfl) (J.c (.extract) (J.c (.extract) (J.c (.assign rfl) ?_))); refine J.c (.assign rfl) ?_; rw [dU]; refine J.go (U.seq (U.seq (U.text ?_))); refine J.c (.move rfl) (J.c (.gtr) (J.go ?_)); refine U.aN rfl (fun c63 => ?_) (fun c63 => ?_)
  . have hX : bG d l = ([], 7) := if_pos (by omega); refine U.seq (U.text ?_); refine J.c (.move rfl) (J.c (.eql) (J.c (.move rfl) ?_)); refine J.cg (r := decide ((bG d l).2 = (7 : Int))) (w := true) [] trivial (fun _ => (.move rfl)) ?_; refine J.cg (r := decide ((bG d l).2 = (7 : Int))) (w := true) [(341, I ((bG d l).2))] ⟨rfl, trivial⟩ (fun _ => (.eql)) ?_; refine J.c (.and) (J.c (.move rfl) ?_); refine J.L3 (r0 := ((decide ((bG d l).2 = (7 : Int))) && (decide ((bG d l).2 = (7 : Int))))) (w := true) [] trivial rfl rfl .same .refl rfl (fun _ => VF.call (AE )) ?_; refine J.c (.and) (J.c (.assign rfl) (J.go ?_)); refine U.ret ?_; exact aS.one rfl bO (eZ (by simp [hX]))
  have hX : bG d l = (x9 d (aD l) (b8 l 0).1 (0, 0) NP d.2.2.2.length, 0) := if_neg (by omega)
  have M3 : (bG d l).1.length = d.2.2.2.length := by rw [hX]; simp [x9]
  have yC : (bG d l).2 = 0 := by rw [hX]
  refine U.skip (U.seq (U.seq (U.text ?_))); refine J.c (.move rfl) (J.c (.neq) (J.c (.move rfl) ?_)); refine J.cg (r := decide ((bG d l).2 ≠ (0 : Int))) (w := false) [] trivial (fun _ => (.move rfl)) ?_; refine J.cg (r := decide ((bG d l).2 ≠ (0 : Int))) (w := false) [(350, I ((bG d l).2))] ⟨rfl, trivial⟩ (fun _ => (.neq)) ?_; refine J.c (.or) (J.c (.move rfl) ?_); refine J.cg (r := ((decide ((bG d l).2 ≠ (0 : Int))) || (decide ((bG d l).2 ≠ (0 : Int))))) (w := false) [] trivial (fun _ => (.move rfl)) ?_; refine J.rg (r := ((decide ((bG d l).2 ≠ (0 : Int))) || (decide ((bG d l).2 ≠ (0 : Int))))) (w := false) [(354, .v F4 ((bG d l).1))] ⟨rfl, trivial⟩ (fun _ => (.len xQ)) ?_; refine J.cg (r := ((decide ((bG d l).2 ≠ (0 : Int))) || (decide ((bG d l).2 ≠ (0 : Int))))) (w := false) [] trivial (fun _ => (.fa (.r (.r (.r (k := 0) .o))))) ?_; refine J.rg (r := ((decide ((bG d l).2 ≠ (0 : Int))) || (decide ((bG d l).2 ≠ (0 : Int))))) (w := false) [(356, .p RD d.2.2.2)] ⟨rfl, trivial⟩ (fun _ => (.ld rA)) ?_; refine J.rg (r := ((decide ((bG d l).2 ≠ (0 : Int))) || (decide ((bG d l).2 ≠ (0 : Int))))) (w := false) [(357, .v RD d.2.2.2)] ⟨rfl, trivial⟩ (fun _ => (.len q7)) ?_; refine J.cg (r := ((decide ((bG d l).2 ≠ (0 : Int))) || (decide ((bG d l).2 ≠ (0 : Int))))) (w := false) [(355, I ((((bG d l).1).length : Nat) : Int)), (358, I ((d.2.2.2.length : Nat) : Int))] ⟨rfl, rfl, trivial⟩ (fun _ => (.neq)) ?_; refine J.c (.or) (J.c (.move rfl) ?_); refine J.cg (r := (((decide ((bG d l).2 ≠ (0 : Int))) || (decide ((bG d l).2 ≠ (0 : Int)))) || (decide (((((bG d l).1).length : Nat) : Int) ≠ ((d.2.2.2.length : Nat) : Int))))) (w := false) [] trivial (fun _ => (.move rfl)) ?_; refine J.rg (r := (((decide ((bG d l).2 ≠ (0 : Int))) || (decide ((bG d l).2 ≠ (0 : Int)))) || (decide (((((bG d l).1).length : Nat) : Int) ≠ ((d.2.2.2.length : Nat) : Int))))) (w := false) [(362, .v F4 ((bG d l).1))] ⟨rfl, trivial⟩ (fun _ => (.len xQ)) ?_; refine J.cg (r := (((decide ((bG d l).2 ≠ (0 : Int))) || (decide ((bG d l).2 ≠ (0 : Int)))) || (decide (((((bG d l).1).length : Nat) : Int) ≠ ((d.2.2.2.length : Nat) : Int))))) (w := false) [] trivial (fun _ => (.move rfl)) ?_; refine J.rg (r := (((decide ((bG d l).2 ≠ (0 : Int))) || (decide ((bG d l).2 ≠ (0 : Int)))) || (decide (((((bG d l).1).length : Nat) : Int) ≠ ((d.2.2.2.length : Nat) : Int))))) (w := false) [(364, .v F4 ((bG d l).1))] ⟨rfl, trivial⟩ (fun _ => (.len xQ)) ?_; refine J.cg (r := (((decide ((bG d l).2 ≠ (0 : Int))) || (decide ((bG d l).2 ≠ (0 : Int)))) || (decide (((((bG d l).1).length : Nat) : Int) ≠ ((d.2.2.2.length : Nat) : Int))))) (w := false) [(363, I ((((bG d l).1).length : Nat) : Int)), (365, I ((((bG d l).1).length : Nat) : Int))] ⟨rfl, rfl, trivial⟩ (fun _ => (.neq)) ?_; refine J.c (.or) (J.go ?_); refine U.eE rfl (fun c65 => ?_) (fun c65 => ?_)
  . try simp only [Bool.and_eq_true, Bool.or_eq_true, Bool.and_eq_false_iff, Bool.or_eq_false_iff, Bool.not_eq_true', Bool.not_eq_false', decide_eq_true_eq, decide_eq_false_iff_not] at c65
    exact absurd c65 (by simp [yC, M3])
  try simp only [Bool.and_eq_true, Bool.or_eq_true, Bool.and_eq_false_iff, Bool.or_eq_false_iff, Bool.not_eq_true', Bool.not_eq_false', decide_eq_true_eq, decide_eq_false_iff_not] at c65
  refine U.skip (U.seq (U.seq ?_)); refine U.aW [(3, .p fT d), (36, .v F4 ((bG d l).1)), (38, .v F4 ((bG d l).1))] ⟨rfl, rfl, rfl, trivial⟩ ?_; refine U.text ?_; refine J.c (.move rfl) ?_; refine J.r (.len xQ) ?_; refine J.c (.move rfl) ?_; refine J.go (U.block ?_); refine U.aW [(3, .p fT d), (36, .v F4 ((bG d l).1)), (38, .v F4 ((bG d l).1)), (369, I ((((bG d l).1).length : Nat) : Int)), (370, I ((0 : Nat) : Int))] ⟨rfl, rfl, rfl, rfl, rfl, trivial⟩ ?_; refine U.loop (I := fun kk ff ss => ∃ (z : Nat), kk = (bG d l).1.length - z /\ ff = [(3, .p fT d), (36, .v F4 ((bG d l).1)), (38, .v F4 ((bG d l).1)), (369, I ((((bG d l).1).length : Nat) : Int)), (370, I ((z : Nat) : Int))] /\ ss = [] /\ (z <= (bG d l).1.length)) ?_ _ _ _ ⟨0, rfl, rfl, rfl, (by omega)⟩; rintro kk ff ss ⟨z, aoM, rfl, rfl, hz⟩; refine U.seq (U.text ?_); refine J.c (.lss) ?_; refine J.go (U.seq ?_); refine U.aN rfl (fun c68 => ?_) (fun c68 => ?_)
  . have XM : z < (bG d l).1.length := by omega
    have hzd : z < d.2.2.2.length := by omega
    have hcw := al0 hX (by omega) XM hzd; refine U.skip (U.seq (U.block (U.seq (U.text ?_)))); refine J.c (.move rfl) (J.c (.assign rfl) ?_); refine J.go (U.seq (U.drawn ?_)); refine VD.c (.move rfl) (VD.c (.move rfl) (VD.c (.ix (j := z) rfl rfl xQ (by omega)) (VD.c (.fa (.l .o)) ?_))); refine VD.r [] (.ld bP) (.inl rfl) ?_; refine VD.c (.fa (.r (.r (.r .o)))) (VD.nw [] ?_); refine VD.r [] (.ld rA) (.inl rfl) ?_; refine VD.c (.move rfl) (VD.c (.ix (j := z) rfl rfl q7 (by omega)) (VD.c (.fa (.r .o)) ?_)); refine VD.r [] (.ld bP) (.inl rfl) ?_; refine VD.c (.neq) (VD.c (.move rfl) (VD.nw [] ?_)); refine VD.kE (x := 385) rfl (fun aaD => ?_) (fun aaD => ?_)
    . exact absurd hcw.1 aaD
    refine VD.c (.move rfl) (VD.c (.move rfl) (VD.c (.ix (j := z) rfl rfl xQ (by omega)) (VD.c (.fa (.l .o)) ?_))); refine VD.r [] (.ld bP) (.inl rfl) ?_; refine VD.c (.move rfl) (VD.nw [] (VD.c (.move rfl) (VD.c (.ix (j := z) rfl rfl xQ (by omega)) ?_))); refine VD.c (.fa (.l .o)) ?_; refine VD.r [] (.ld bP) (.inl rfl) ?_; refine VD.c (.neq) (VD.c (.iD rfl rfl) (VD.c (.move rfl) (VD.nw [] ?_))); refine VD.kE (x := 398) rfl (fun aaE => ?_) (fun aaE => ?_)
    . exact absurd rfl aaE
    refine VD.c (.move rfl) (VD.c (.move rfl) (VD.c (.ix (j := z) rfl rfl xQ (by omega)) (VD.c (.fa (.r .o)) ?_))); refine VD.r [] (.ld HS) (.inl rfl) ?_; refine VD.c (.move rfl) (VD.nw [] (VD.c (.move rfl) (VD.c (.ix (j := z) rfl rfl xQ (by omega)) ?_))); refine VD.c (.fa (.r .o)) ?_; refine VD.r [] (.ld HS) (.inl rfl) ?_; refine VD.call rfl rfl (VF.call (NK hcw.2)) ?_; refine VD.c (.not) (VD.c (.iD rfl rfl) (VD.go ?_)); refine U.eE rfl (fun c70 => ?_) (fun c70 => ?_)
    . try simp only [Bool.and_eq_true, Bool.or_eq_true, Bool.and_eq_false_iff, Bool.or_eq_false_iff, Bool.not_eq_true', Bool.not_eq_false', decide_eq_true_eq, decide_eq_false_iff_not] at c70
      exact absurd c70 (by simp [hcw.1])
    try simp only [Bool.and_eq_true, Bool.or_eq_true, Bool.and_eq_false_iff, Bool.or_eq_false_iff, Bool.not_eq_true', Bool.not_eq_false', decide_eq_true_eq, decide_eq_false_iff_not] at c70
    refine U.skip ?_; refine U.aW [(3, .p fT d), (36, .v F4 ((bG d l).1)), (38, .v F4 ((bG d l).1)), (369, I ((((bG d l).1).length : Nat) : Int)), (370, I ((z : Nat) : Int))] ⟨rfl, rfl, rfl, rfl, rfl, trivial⟩ ?_; refine U.text ?_; refine J.c (.add rfl rfl (by omega)) (J.c (.move rfl) ?_); refine J.nil ?_; refine ⟨_, [(3, .p fT d), (36, .v F4 ((bG d l).1)), (38, .v F4 ((bG d l).1)), (369, I ((((bG d l).1).length : Nat) : Int)), (370, I (((z + 1) : Nat) : Int))], ?_, ⟨rfl, rfl, rfl, rfl, rfl, trivial⟩, (z + 1), rfl, rfl, rfl, (by omega)⟩; omega
  refine U.exit (U.seq (U.text ?_)); refine J.call rfl rfl (VF.call (AE )) ?_; refine J.c (.assign rfl) (J.go ?_); refine U.ret ?_; exact aS.one rfl bO (eZ (by first | rfl | simp))
end Go.Proofs
namespace Go.Fs
open Go.RowKit (Below)
variable {P : Program}
end Go.Fs
namespace Go.Fs
open Go.RowKit (Below)
variable {P : Program} {ops : Array Oper} {n : Nat}
def RN : Value -> Value -> Bool
  | .int k a, .int k' b => decide (k = k') && decide (a = b)
  | .bool a, .bool b => decide (a = b)
  | _, _ => false
theorem acU {a b : Value} (h : RN a b = true) : a = b := by
  unfold RN at h; split at h
  . obtain ⟨h1, h2⟩ := b6 h; rw [of_decide_eq_true h1, of_decide_eq_true h2]
  . rw [of_decide_eq_true h]
  cases h
def RO : List Value -> List Value -> Bool
  | [], [] => true
  | a :: r, b :: q => RN a b && RO r q
  | _, _ => false
theorem PE : ∀ {a b : List Value}, RO a b = true -> a = b
  | [], [], _ => rfl
  | [], _ :: _, h => by cases h
  | _ :: _, [], h => by cases h
  | a :: r, b :: q, h => by
    obtain ⟨h1, h2⟩ := b6 (h : (RN a b && RO r q) = true); rw [acU h1, PE h2]
def YZ : bB -> bB -> Bool
  | .row e cs o m, .row e' cs' o' m' => Nat.beq e e' && RO cs cs' && decide (o = o') && decide (m = m')
  | _, _ => false
theorem acV {a b : bB} (h : YZ a b = true) : a = b := by
  unfold YZ at h; split at h
  . obtain ⟨h, h1⟩ := b6 h; obtain ⟨h, h2⟩ := b6 h; obtain ⟨h, h3⟩ := b6 h; rw [bU h, PE h3, of_decide_eq_true h2, of_decide_eq_true h1]
  cases h
def VA (rd : List (Nat × bB)) (h : aA) : Bool := rd.all fun p => match h.get p.1 with
  | some ob => YZ ob p.2
  | none => false
theorem zM {b : Nat} {ob : bB} : ∀ {l : List (Nat × bB)}, look l b = some ob -> (b, ob) ∈ l
  | [], h => by cases h
  | (c, oc) :: r, h => by
    simp only [look] at h
    cases hc : Nat.beq c b with
    | true =>
      rw [hc] at h; simp only [cond_true, Option.some.injEq] at h
      rw [bU hc, h]; exact List.mem_cons_self
    | false =>
      rw [hc] at h; simp only [cond_false] at h; exact List.mem_cons_of_mem _ (zM h)
theorem acW {rd : List (Nat × bB)} {h : aA} (hk : VA rd h = true) {b : Nat} {ob : bB} (hl : look rd b = some ob) : h.get b = some ob := by
  have := List.all_eq_true.1 hk _ (zM hl); simp only at this; split at this
  . rename_i o2 hg; rw [hg, acV this]
  cases this
def RP (P : Program) (rd : List (Nat × bB)) (ops : Array Oper) (n : Nat) (o : Oper) (s : dS) : Option dS :=
  match bJ ops s.t o, o.op with
  | some true, .load T a =>
    match aC s.t a with
    | .pointer (some p) =>
      match look rd p.block with
      | some ob =>
        match eU P T (aC s.t a) { next := s.h.next, low := s.h.next, aB := [(p.block, ob)] } with
        | some v => (put n s.t o.dst v).map fun t => { s with t, bs := s.bs ++ [aP s.bs o] }
        | none => none
      | none => none
    | _ => none
  | _, _ => none
def qP (P : Program) (rd : List (Nat × bB)) (step : Oper -> (Operand -> Value) -> aA -> Option (Value × aA)) (ops : Array Oper) (n : Nat) : List Oper -> Nat -> dS -> Option dS
  | [], _, s => bif VA rd s.h then some s else none
  | o :: r, i, s => bif VA rd s.h then
      match gH step ops n o i s with
      | some s' => qP P rd step ops n r (i + 1) s'
      | none => match RP P rd ops n o s with
        | some s' => qP P rd step ops n r (i + 1) s'
        | none => none
    else none
def MO (P : Program) (h0 : aA) (step : Oper -> (Operand -> Value) -> aA -> Option (Value × aA)) (ops : Array Oper) (n : Nat) : List Oper -> Nat -> dS -> List (Nat × bB) -> List (Nat × bB)
  | [], _, _, l => l
  | o :: r, i, s, l => match gH step ops n o i s with
    | some s' => MO P h0 step ops n r (i + 1) s' l
    | none => match IY P h0 ops n o s with
      | some (s', b) => match h0.get (b - 1) with
        | some ob => MO P h0 step ops n r (i + 1) s' ((b - 1, ob) :: l)
        | none => l
      | none => l
def JA (P : Program) (h0 : aA) (step : Oper -> (Operand -> Value) -> aA -> Option (Value × aA)) (ops : Array Oper) (n : Nat) (s : dS) (rd : List (Nat × bB)) : Option dS :=
  bif rd.all fun p => Nat.blt p.1 h0.next then qP P rd step ops n ops.toList 0 s else none
theorem Z0 {call : FuncId -> List Value -> aA -> Option (Value × aA)} {yield : Nat -> List Value -> aA -> Option (Value × aA)} {X : Nat -> bB -> Prop} {rd : List (Nat × bB)} {o : Oper} {i : Nat} {s s' : dS}
    (hf : RP P rd ops n o s = some s') (hX : ∀ c ob, look rd c = some ob -> X c ob) :
    s'.bs = s.bs ++ [aP s.bs o] /\ AM (cQ P call yield) ops n X o i s s' := by
  unfold RP at hf; split at hf
  . rename_i T a hw dT; split at hf
    . rename_i p bY; split at hf
      . rename_i ob hg; split at hf
        . rename_i v hv; obtain ⟨t, h3, h4⟩ := Option.map_eq_some_iff.1 hf; subst h4; refine ⟨rfl, .still hw v [(p.block, ob)] (fun c oc hc => ?_) ?_ h3 rfl rfl rfl rfl⟩
          . simp only [look] at hc
            cases C5 : Nat.beq p.block c with
            | true =>
              rw [C5] at hc; simp only [cond_true, Option.some.injEq] at hc; obtain rfl := bU C5; subst hc
              exact hX _ _ hg
            | false => rw [C5] at hc; cases hc
          unfold cQ; rw [dT]; simp only [hv, Option.map_some]
        cases hf
      cases hf
    cases hf
  cases hf
theorem BW {call : FuncId -> List Value -> aA -> Option (Value × aA)} {yield : Nat -> List Value -> aA -> Option (Value × aA)} {rd : List (Nat × bB)} : ∀ (l : List Oper) (i : Nat) (s s' : dS), qP P rd (cQ P call yield) ops n l i s = some s' ->
    ∃ st : Nat -> dS, st i = s /\ st (i + l.length) = s' /\ (∀ q, i <= q -> q <= i + l.length -> VA rd (st q).h = true) /\
    ∀ j o, l[j]? = some o -> ∀ X : Nat -> bB -> Prop, (∀ c ob, look rd c = some ob -> X c ob) -> (st (i + j + 1)).bs = (st (i + j)).bs ++ [aP (st (i + j)).bs o] /\ AM (cQ P call yield) ops n X o (i + j) (st (i + j)) (st (i + j + 1))
  | [], i, s, s', h => by
    simp only [qP] at h; obtain ⟨h1, h2⟩ := aT h; simp only [Option.some.injEq] at h2; subst h2
    exact ⟨fun _ => s, rfl, rfl, fun _ _ _ => h1, fun j o hj => by simp at hj⟩
  | o :: l, i, s, s', h => by
    simp only [qP] at h; obtain ⟨bW, h⟩ := aT h
    have key : ∀ s1, qP P rd (cQ P call yield) ops n l (i + 1) s1 = some s' ->
        (∀ X : Nat -> bB -> Prop, (∀ c ob, look rd c = some ob -> X c ob) -> s1.bs = s.bs ++ [aP s.bs o] /\ AM (cQ P call yield) ops n X o i s s1) ->
      ∃ st : Nat -> dS, st i = s /\ st (i + (o :: l).length) = s' /\ (∀ q, i <= q -> q <= i + (o :: l).length -> VA rd (st q).h = true) /\
        ∀ j o', (o :: l)[j]? = some o' -> ∀ X : Nat -> bB -> Prop, (∀ c ob, look rd c = some ob -> X c ob) -> (st (i + j + 1)).bs = (st (i + j)).bs ++ [aP (st (i + j)).bs o'] /\ AM (cQ P call yield) ops n X o' (i + j) (st (i + j)) (st (i + j + 1)) := fun s1 hr hd => by
      obtain ⟨st, h1, h2, hq, h3⟩ := BW l (i + 1) s1 s' hr; refine ⟨fun k => if k = i then s else st k, by simp, ?_, fun q hq1 wE => ?_, fun j o' hj X hX => ?_⟩
      . simp only [List.length_cons]; rw [if_neg (by omega), <- h2]; congr 1; omega
      . rw [List.length_cons] at wE; by_cases e : q = i
        . subst e; simpa using bW
        simp only [if_neg e]; exact hq q (by omega) (by omega)
      cases j with
      | zero =>
        simp at hj; subst hj
        simpa [h1] using hd X hX
      | succ j =>
        simp only [List.getElem?_cons_succ] at hj; have := h3 j o' hj X hX; rw [show i + 1 + j = i + (j + 1) by omega] at this; simp only; rw [if_neg (by omega), if_neg (by omega)]; exact this
    split at h
    . rename_i s1 DK; exact key s1 h fun X _ => PW DK
    split at h
    . rename_i s1 DK; exact key s1 h fun X hX => Z0 DK hX
    cases h
theorem Z1 {call : FuncId -> List Value -> aA -> Option (Value × aA)} {yield : Nat -> List Value -> aA -> Option (Value × aA)} {t0 : Tr} {h0 : aA} {s : dS} {rd : List (Nat × bB)} (h : JA P h0 (cQ P call yield) ops n ⟨t0, h0, [], [], 0, false⟩ rd = some s) : ∃ st, Trace (cQ P call yield) ops n st t0 h0 /\ st ops.size = s := by
  unfold JA at h; obtain ⟨hb, h⟩ := aT h; obtain ⟨st, h1, h2, hq, h3⟩ := BW _ _ _ _ h
  have IE : st ops.size = s := by simpa using h2
  refine ⟨st, ⟨h1, fun i o ho => ?_⟩, IE⟩; have := h3 i o (by simpa using ho) (fun b ob => h0.get b = some ob /\ b < h0.next /\ (b < (st ops.size).h.low \/ ∀ q, q <= ops.size -> (st q).h.get b = some ob)) (fun c ob hc => ?_)
  . simpa only [Nat.zero_add] using this
  have jA : ∀ q, q <= ops.size -> (st q).h.get c = some ob := fun q wE => acW (hq q (Nat.zero_le _) (by simpa using wE)) hc; have h0 := jA 0 (Nat.zero_le _); rw [h1] at h0; exact ⟨h0, jP (List.all_eq_true.1 hb _ (zM hc)), .inr jA⟩
variable {B : Nat} {w0 : World} {S : Nat -> Prop} {ρ0 : Ren} {call : FuncId -> List Value -> aA -> Option (Value × aA)} {yield : Nat -> List Value -> aA -> Option (Value × aA)} {t0 : Tr} {h0 : aA}
theorem Z2 (gW : lG P B w0 call) (pX : gD P B w0 yield) (bW : oQ ops = true) {s : dS} {rd : List (Nat × bB)} (hf : JA P h0 (cQ P call yield) ops n ⟨t0, h0, [], [], 0, false⟩ rd = some s)
    {w : World} {a : Act} (hr : HR P ρ0 S B w0 h0 w) (ht : lF ρ0 S t0 n a.tmps) {r : Option Nat} {nn : Nat} {Q : Exit -> Act -> World -> Prop}
    (k : ∀ bT w' a', aZ P B w0 ρ0 bT S h0 s.h w w' -> lF bT (Ext S h0 s.h) s.t n a'.tmps -> a'.defers = a.defers -> Q .normal a' w') (t : Nat) :
    wpOpsIn (q5 r) nn P ops Q (Region.schedule true ops t) a w := wO gW pX bW (Z1 hf) hr ht k t
end Go.Fs
namespace Go.Fs
open Go.RowKit (Below)
variable {P : Program} {B : Nat} {w0 : World}
def MP (P : Program) (orc : FuncId -> List Value -> aA -> Option (Value × aA)) (rec : Rec) : Rec := fun b7 c fr h =>
  match c with
  | .region _ ops true => match IZ P { next := h.next, low := h.next, aB := h.aB } (cQ P (eG P orc rec) (eJ rec)) ops fr.n ⟨fr.t, { next := h.next, low := h.next, aB := h.aB }, [], [], 0, false⟩ with
    | some s => some (.normal, { t := s.t, n := fr.n, marks := fr.marks }, { next := s.h.next, low := min h.low s.h.low, aB := s.h.aB })
    | none => match JA P { next := h.next, low := h.next, aB := h.aB } (cQ P (eG P orc rec) (eJ rec)) ops fr.n ⟨fr.t, { next := h.next, low := h.next, aB := h.aB }, [], [], 0, false⟩ (MO P { next := h.next, low := h.next, aB := h.aB } (cQ P (eG P orc rec) (eJ rec)) ops fr.n ops.toList 0 ⟨fr.t, { next := h.next, low := h.next, aB := h.aB }, [], [], 0, false⟩ []) with
      | some s => some (.normal, { t := s.t, n := fr.n, marks := fr.marks }, { next := s.h.next, low := min h.low s.h.low, aB := s.h.aB })
      | none => bF P orc rec b7 c fr h
  | c => bF P orc rec b7 c fr h
def vZ (P : Program) (orc : FuncId -> List Value -> aA -> Option (Value × aA)) : Nat -> Rec
  | 0 => fun _ _ _ _ => none
  | n + 1 => MP P orc (vZ P orc n)
theorem HR.low {ρ : Ren} {S : Nat -> Prop} {h : aA} {w : World} (hr : HR P ρ S B w0 h w) (l : Nat) : HR P ρ S B w0 { next := h.next, low := l, aB := h.aB } w :=
  { aB := hr.aB, inj := hr.inj, base := hr.base, ro := hr.ro, ids := hr.ids, pos := hr.pos, below := hr.below, drawn := hr.drawn, size := hr.size }
theorem aZ.VB {ρ bT : Ren} {S : Nat -> Prop} {h h' : aA} {w w' : World} {l : Nat} (m : aZ P B w0 ρ bT S { next := h.next, low := l, aB := h.aB } h' w w') :
    aZ P B w0 ρ bT S h { next := h'.next, low := min h.low h'.low, aB := h'.aB } w w' where
  agree := m.agree
  next := m.next
  hr := m.hr.low _
  frame := ⟨m.frame.os, m.frame.tape, m.frame.output, m.frame.size, m.frame.block⟩
  low := Nat.min_le_left _ _
  aW := fun i hi hl => m.aW i hi (Nat.lt_of_lt_of_le hl (Nat.min_le_right _ _))
  old := m.old
  fresh := fun i o ho hi => by
    obtain ⟨h1, h2⟩ := m.fresh i o ho hi; refine ⟨h1, ?_⟩; rcases h2 with h2 | ⟨j, oj, h3, h4, h5, h6, h7⟩
    . exact .inl h2
    exact .inr ⟨j, oj, h3, h4, h5, Nat.le_trans (Nat.min_le_right _ _) h6, h7⟩
theorem RQ (hP : lW P) {orc : FuncId -> List Value -> aA -> Option (Value × aA)} (o4 : eN P B w0 orc) {m : Nat} {rec : Rec} (jS : pF P B w0 m rec) : pF P B w0 (m + 1) (MP P orc rec) := by
  have gW : lG P B w0 (eG P orc rec) := yT hP o4 jS; have pX : gD P B w0 (eJ rec) := E0 jS; have hold := HI hP o4 jS; intro b7 c fr h e lE h' bW hf
  cases c with
  | region id ops draw =>
    cases draw with
    | false => exact hold b7 _ fr h e lE h' bW hf
    | true =>
      intro ρ S w a nn Q hr ht hm hs k; simp only [MP] at hf; split at hf
      . rename_i s eK; simp only [Option.some.injEq, Prod.mk.injEq] at hf; obtain ⟨rfl, rfl, rfl⟩ := hf; refine wpIn_region_draw fun t => ?_; rw [hP.mixed]; exact WA (h0 := { next := h.next, low := h.next, aB := h.aB }) (call := eG P orc rec) (yield := eJ rec) gW pX bW eK ((hr.drew _).low _) ht (fun cS w1 a1 m1 DP FU => k _ _ _ ⟨(aZ.wH m1).VB, DP, by rw [FU]; exact hm.mono fun b hb => ⟨.inl hb, m1.agree b hb⟩⟩) t
      split at hf
      . rename_i s eK; simp only [Option.some.injEq, Prod.mk.injEq] at hf; obtain ⟨rfl, rfl, rfl⟩ := hf; refine wpIn_region_draw fun t => ?_; rw [hP.mixed]; exact Z2 (h0 := { next := h.next, low := h.next, aB := h.aB }) (call := eG P orc rec) (yield := eJ rec) gW pX bW eK ((hr.drew _).low _) ht (fun cS w1 a1 m1 DP FU => k _ _ _ ⟨(aZ.wH m1).VB, DP, by rw [FU]; exact hm.mono fun b hb => ⟨.inl hb, m1.agree b hb⟩⟩) t
      exact hold b7 _ fr h e lE h' bW hf ρ S w a nn Q hr ht hm hs k
  | _ => exact hold b7 _ fr h e lE h' bW hf
theorem FH (hP : lW P) {orc : FuncId -> List Value -> aA -> Option (Value × aA)} (o4 : eN P B w0 orc) : ∀ m, pF P B w0 m (vZ P orc m)
  | 0 => fun b7 c fr h e lE h' _ hf => by cases hf
  | m + 1 => RQ hP o4 (FH hP o4 m)
theorem Z3 (hP : lW P) {orc : FuncId -> List Value -> aA -> Option (Value × aA)} (o4 : eN P B w0 orc) (m : Nat) : eN P B w0 (p8 P (vZ P orc m)) := DZ hP (FH hP o4 m)
theorem VE (hP : lW P) {w : World} {orc : FuncId -> List Value -> aA -> Option (Value × aA)} (o4 : eN P w.heap.size (wz w) orc) {m : Nat} {f : FuncId} {args : List Value} {v : Value} (ha : args.all af = true)
    (hf : (p8 P (vZ P orc m) f args ⟨1, 1, []⟩).map (·.1) = some v) (hv : af v = true) :
    Calls P f args.toArray w fun | .returned v', w' => v' = v /\ Below w.heap.size w w' | _, _ => False := by
  obtain ⟨⟨v0, h0⟩, h1, h2⟩ := Option.map_eq_some_iff.1 hf; simp only at h2; subst h2
  have hr : HR P (fun _ => Loc.clean 0 0 0 0) (fun _ => False) w.heap.size (wz w) ⟨1, 1, []⟩ w :=
    { aB := fun i o hi => (by cases hi), inj := fun i j oi oj hi => (by cases hi), base := fun i o hi => (by cases hi), ro := fun i o hi => (by cases hi), ids := fun b hb => hb.elim, pos := by decide,
      below := JK (Below.refl _ _), drawn := Nat.zero_le _, size := Nat.le_refl _ }
  have hc := ((Z3 hP o4 m) f args _ _ _ h1).2 _ _ w args hr ⟨rfl, fun i hi => .mJ (List.all_eq_true.1 ha _ (oS hi))⟩ 0; refine Calls.mono (callsIn_wide.1 hc) fun e w' he => ?_
  cases e with
  | returned v' =>
    obtain ⟨bT, m1, WE⟩ := he
    exact ⟨WE.dR hv, RY m1.hr.below⟩
  | panicked c => exact he.elim
  | outgrown => exact he.elim
theorem NQ (hP : lW P) {B : Nat} {w0 : World} {O : FuncId -> List Value -> aA -> Option (Value × aA)} {fa : FuncId} (hS : ∀ w, Below B w0 w -> eN P w.heap.size (wz w) O) {m : Nat}
    (eK : (p8 P (vZ P O m) fa [] ⟨1, 1, []⟩).map (·.1) = some (.bool true)) (w : World) (hw : Below B w0 w) :
    Calls P fa #[] w fun | .returned v', w' => v' = .bool true /\ Below w.heap.size w w' | _, _ => False :=
  VE hP (hS w hw) (args := []) rfl eK rfl
end Go.Fs
namespace Go.Fs
variable {P : Program} {orc : FuncId -> List Value -> aA -> Option (Value × aA)}
end Go.Fs
namespace Go.Proofs
open Go.Fs
open Go.RowKit (Below)
theorem agT : (Tryz.prog.funcs.toList.all fun fn => match fn.body with | some c => codeOk c && !(fn.name == "runtime.NumGoroutine") | none => true) = true := by kernel_rfl
theorem agU : Tryz.prog.follows .mixedOrders = true := by kernel_rfl
theorem aiI : lW Tryz.prog where
  mixed := agU
  name := fun f fn hf hb => by
    have := List.all_eq_true.1 agT fn (by rw [Array.mem_toList_iff]; exact Array.mem_of_getElem? hf)
    cases hx : fn.body with
    | none => rw [hx] at hb; cases hb
    | some c => rw [hx] at this; simpa using (b6 this).2
  code := fun f fn c hf hb => by
    have := List.all_eq_true.1 agT fn (by rw [Array.mem_toList_iff]; exact Array.mem_of_getElem? hf); rw [hb] at this; exact (b6 this).1
theorem acX : Fs.Enters Tryz.prog 7 := ⟨_, Tryz.func7, rfl, by kernel_rfl⟩
abbrev OB := aeY
end Go.Proofs
namespace Go.Proofs
open Go.Fs
theorem al3 : (p8 Tryz.prog (vZ Tryz.prog OB 100000) 7 [] ⟨1, 1, []⟩).map (·.1) = some (.bool true) := by kernel_rfl
end Go.Proofs
namespace Go.Proofs.YtgkcodkgcnbdeaaGreat
open Go.ChangeShapes Go.WideShapes Go.ChangeAt Go.RowKit Go.Fs
theorem own : ownKnob Tryz.prog.godebug = none := by kernel_rfl
theorem laidOut : laidOutB Tryz.prog = true := by kernel_rfl
theorem alK : GT (⟨1, 1, []⟩ : aA) [] := fun v hv => by cases hv
theorem ah5 {W : World} : HR Tryz.prog (fun _ => Loc.clean 0 0 0 0) (fun _ => False) W.heap.size (Go.Fs.wz W) ⟨1, 1, []⟩ W := acP (Nat.zero_le _)
/-- The oracle is sound everywhere. -/
theorem ajV {W : World} : eN Tryz.prog W.heap.size (Go.Fs.wz W) OA :=
  TV rfl HQ acX fun w hw => NQ aiI (fun w' hw' => HQ) al3 w hw
noncomputable def CH (os : Os) : World := World.doorLaid Tryz.prog 24 os
end Go.Proofs.YtgkcodkgcnbdeaaGreat
