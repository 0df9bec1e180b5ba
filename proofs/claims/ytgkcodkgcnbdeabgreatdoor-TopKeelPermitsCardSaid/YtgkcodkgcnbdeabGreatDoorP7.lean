/- Parts of the proof: an evaluator of the model, what it is sound for, and contracts of functions. No condition. -/
import Derived.Test.YtgkcodkgcnbdeabGreatDoorP6
import Derived.Sort.Walk0
import Derived.Test.YtgkcodkgcnbdeabGreatDoorP5
import Derived.Test.YtgkcodkgcnbdeabGreatDoorP3
import Derived.ChangeArms
import Derived.Carry
import Derived.RowKit
import Derived.OpenShut
import Derived.Test.YtgkcodkgcnbdeabGreatDoorP2
import Derived.Shelf.Small.Bits
import Derived.Shelf.Strconv.Itoa0
import Derived.Shelf.Sort.Plain
import Derived.Shelf.Slices.Turned
import Derived.Shelf.Slices.CompactS
import Derived.Ground.Names2Prog
import Derived.Shelf.Slices.Cells
import Derived.Shelf.Slices.In.SortNone
import Derived.Test.YtgkcodkgcnbdeabGreatDoorProg
import Derived.Test.YtgkcodkgcnbdeabGreatDoorChecked
import Derived.KernelRfl
set_option linter.all false
namespace Go.Proofs
open Go.Fs
set_option maxHeartbeats 1000000
theorem ltS_lt {a b : ByteArray} : ltS a b = decide (a.data.toList < b.data.toList) := by
  unfold ltS; rw [bytesLess_eq, Lib.toList_data, Lib.toList_data]
theorem sortB_sorted (l : List ByteArray) : (sortB l).Pairwise fun a b => ltS b a = false := by
  unfold sortB; rw [List.pairwise_map]; have := List.pairwise_mergeSort (le := fun x y : List UInt8 => decide (x ≤ y)) (fun a b c h1 h2 => by simp at *; exact List.le_trans h1 h2) (fun a b => by simp; exact List.le_total a b) (l.map fun s => s.data.toList); refine this.imp fun {a b} h => ?_; have h := of_decide_eq_true h; rw [ltS_lt]; exact decide_eq_false fun hlt => (List.not_lt.2 h) hlt
theorem mem_sortB {l : List ByteArray} {x : ByteArray} : x ∈ sortB l ↔ x ∈ l := by
  unfold sortB; rw [List.mem_map]; constructor
  · rintro ⟨d, hd, rfl⟩; obtain ⟨y, hy, rfl⟩ := List.mem_map.1 (List.mem_mergeSort.1 hd); exact hy
  exact fun h => ⟨x.data.toList, List.mem_mergeSort.2 (List.mem_map.2 ⟨x, h, rfl⟩), rfl⟩
theorem cpt_mem {xs : List ByteArray} {x : ByteArray} : ∀ {i : Nat}, i ≤ xs.length → (x ∈ cptA ByteArray.empty xs i ↔ x ∈ xs.take i)
  | 0, _ => by simp [cptA]
  | i + 1, hi => by
    have ih := cpt_mem (xs := xs) (x := x) (i := i) (by omega); rw [List.take_succ_eq_append_getElem (by omega), List.mem_append, List.mem_singleton]; unfold cptA; split
    · rename_i h; rw [ih]; constructor
      · exact .inl
      rintro (h1 | h1)
      · exact h1
      subst h1; rw [getDg _ _ (by omega), getDg _ _ (by omega)] at h; rw [h.2]; exact List.mem_take_iff_getElem.2 ⟨i - 1, by omega, rfl⟩
    rw [List.mem_append, ih, List.mem_singleton, getDg _ _ (by omega)]
theorem cpt_asc {xs : List ByteArray} (hs : xs.Pairwise fun a b => ltS b a = false) : ∀ {i : Nat}, i ≤ xs.length → Asc (cptA ByteArray.empty xs i)
  | 0, _ => by simp [cptA, Asc]
  | i + 1, hi => by
    have ih := cpt_asc hs (i := i) (by omega); unfold cptA; split
    · exact ih
    rename_i h; refine List.pairwise_append.2 ⟨ih, List.pairwise_singleton _ _, fun a ha b hb => ?_⟩; rw [List.mem_singleton] at hb; subst hb; rw [cpt_mem (by omega)] at ha; obtain ⟨j, hj, rfl⟩ := List.mem_take_iff_getElem.1 ha; rw [getDg _ _ (by omega)]
    have hj1 : j < i := by omega
    have hle : ∀ p q (hp : p < xs.length) (hq : q < xs.length), p < q → ltS xs[q] xs[p] = false := fun p q hp hq hpq => List.pairwise_iff_getElem.1 hs p q hp hq hpq; have hlast : ltS xs[i] xs[i - 1] = false := hle (i - 1) i (by omega) (by omega) (by omega); have hne : ¬ xs[i - 1] = xs[i] := fun e => h ⟨by omega, by rw [getDg _ _ (by omega), getDg _ _ (by omega), e]⟩; have e1 := leS_eq (p := xs[i - 1]) (q := xs[i]); rw [hlast, decide_eq_false hne, Bool.or_false] at e1
    have h1 : ltS xs[i - 1] xs[i] = true := by simpa using e1
    by_cases hji : j = i - 1
    · subst hji; exact h1
    have h2 := hle j (i - 1) (by omega) (by omega) (by omega); have e2 := leS_eq (p := xs[j]) (q := xs[i - 1]); rw [h2] at e2; rcases Bool.or_eq_true_iff.1 (by simpa using e2 : (ltS xs[j] xs[i - 1] || decide (xs[j] = xs[i - 1])) = true) with h3 | h3
    · exact ltS_trans h3 h1
    rw [of_decide_eq_true h3]; exact h1
theorem cpt_set (l : List ByteArray) : cptA ByteArray.empty (sortB l) (sortB l).length = setE l :=
  setE_eq (cpt_asc (sortB_sorted l) (Nat.le_refl _)) fun x => by rw [cpt_mem (Nat.le_refl _), List.take_length]; exact mem_sortB
theorem zSort_ok {w_l : Value} {l : List ByteArray} (hl : l.length ≤ 1000000) : VFG Tryz.prog OA 87 [.raw w_l] [(w_l, .row 9 .str l)] (fun r g => r = .tup [] ∧ g = [(w_l, .row 9 .str (sortB l))]) := VFG.sortS (O := orcW 6 orcN) hl fun _ _ => rfl
theorem zCompact_ok {w_xs : Value} {xs : List ByteArray} (hn : xs.length < 1000000) : VFG Tryz.prog OA 88 [.raw w_xs] [(w_xs, .row 9 .str xs)] (fun r' g => r' = (.v (.sl .str) (cptA ByteArray.empty xs xs.length)) ∧ g = []) := by
  refine VFG.enterC Tryz.func88 rfl (fun _ _ => rfl) rfl ?_; show VC _ _ _ _ _ [(0, .raw w_xs)] [(w_xs, .row 9 .str xs)] _; refine VC.seq (VC.text ?_); refine VO.c (.assign rfl) ?_; refine VO.go (VC.seq (VC.seq (VC.text ?_))); refine VO.c (.move rfl) ?_; refine VO.r (.lenO m0 el27) ?_; refine VO.c (.lss) (VO.go ?_); refine VC.condD rfl (fun c1 => ?_) (fun c1 => ?_)
  · refine VC.seq (VC.text ?_); refine VO.c (.move rfl) (VO.c (.assign rfl) (VO.go ?_)); refine VC.ret ?_; exact VEnd.one rfl (evC (.row m0)) (pvE (by (have h1 : xs.length < 2 := by omega); rw [cptA_all (Nat.le_refl _) (fun j h2 h3 => by omega), List.take_length]))
  refine VC.skip (VC.seq (VC.seq (VC.text ?_))); refine VO.c (.assign rfl) ?_; refine VO.go (VC.block ?_); refine VC.keep [(0, .raw w_xs), (3, I ((1 : Nat) : Int))] ⟨rfl, rfl, trivial⟩ ?_; refine VC.loop (I := fun kk ff ss => ∃ (k : Nat), kk = xs.length - k ∧ ff = [(0, .raw w_xs), (3, I ((k : Nat) : Int))] ∧ ss = [(w_xs, .row 9 .str xs)] ∧ (1 ≤ k ∧ k ≤ xs.length) ∧ (∀ j, 0 < j → j < k → xs.getD j ByteArray.empty ≠ xs.getD (j - 1) ByteArray.empty)) ?_ _ _ _ ⟨1, rfl, rfl, rfl, (by omega), (by intro j h1 h2; omega)⟩; rintro kk ff ss ⟨k, hk0, rfl, rfl, hk, hall⟩; refine VC.seq (VC.seq (VC.text ?_)); refine VO.c (.move rfl) (VO.c (.move rfl) ?_); refine VO.r (.lenO m0 el27) ?_; refine VO.c (.lss) (VO.go ?_); refine VC.condD rfl (fun c4 => ?_) (fun c4 => ?_)
  · have hk2 : k < xs.length := by omega
    refine VC.skip (VC.seq (VC.block (VC.seq (VC.drawn ?_)))); refine VD.c (.move rfl) (VD.c (.move rfl) ?_); refine VD.co (.ixO (j := k) rfl rfl m0 el27 (by omega)) ?_; refine VD.r [(w_xs, .row 9 .str xs)] (.ldO rfl m0 vt9 (by omega)) (.inr ⟨rfl, rfl⟩) ?_; refine VD.c (.move rfl) (VD.c (.move rfl) (VD.nw [] (VD.c (.sub rfl rfl (by omega)) ?_))); refine VD.co (.ixO (j := k - 1) rfl (congrArg (fun z : Int => some (PV.v (.int .i64) z)) (show (((k : Nat) : Int) - (1 : Int)) = ((k - 1 : Nat) : Int) by omega)) m0 el27 (by omega)) ?_; refine VD.r [(w_xs, .row 9 .str xs)] (.ldO rfl m0 vt9 (by omega)) (.inr ⟨rfl, rfl⟩) ?_; refine VD.c (.seql) (VD.go ?_); refine VC.condD rfl (fun c6 => ?_) (fun c6 => ?_)
    · have c6' : xs.getD k ByteArray.empty = xs.getD (k - 1) ByteArray.empty := by rw [getDg _ _ hk2, getDg _ _ (by omega)]; exact c6
      have hs0 : cptR ByteArray.empty xs (k + 1) = xs := by rw [cptR_eq (by omega) c6', cptR_start (by omega) hall]
      have hc0 : (cptA ByteArray.empty xs (k + 1)).length = k := by rw [cptA_eq (by omega) c6', cptA_all (by omega) hall, List.length_take]; omega
      refine VC.seq (VC.text ?_); refine VO.c (.move rfl) (VO.c (.move rfl) ?_); refine VO.r (.restO (k := k) rfl rfl m0 el27 (by omega) (by omega)) ?_; refine VO.c (.assign rfl) ?_; refine VO.go (VC.seq (VC.seq (VC.text ?_))); refine VO.c (.assign rfl) ?_; refine VO.go (VC.block ?_); refine VC.keep [(0, .raw w_xs), (3, I (((cptA ByteArray.empty xs (k + 1)).length : Nat) : Int)), (4, .raw (rowFrom w_xs 1 k)), (5, I ((1 : Nat) : Int))] ⟨rfl, slI rfl (by rw [hc0]), rfl, rfl, trivial⟩ ?_; refine VC.loop (I := fun kk ff ss => ∃ (m : Nat), kk = xs.length - k - m ∧ ff = [(0, .raw w_xs), (3, I (((cptA ByteArray.empty xs (k + m)).length : Nat) : Int)), (4, .raw (rowFrom w_xs 1 k)), (5, I ((m : Nat) : Int))] ∧ ss = [(w_xs, .row 9 .str (cptR ByteArray.empty xs (k + m)))] ∧ (1 ≤ m ∧ k + m ≤ xs.length) ∧ ((cptA ByteArray.empty xs (k + m)).length + 1 ≤ k + m)) ?_ _ _ _ ⟨1, rfl, rfl, (by rw [hs0]), (by omega), (by rw [hc0]; omega)⟩; rintro kk ff ss ⟨m, hk2, rfl, rfl, hm, hc⟩; have hR : (cptR ByteArray.empty xs (k + m)).length = xs.length := cptR_len hm.2; refine VC.seq (VC.seq (VC.text ?_)); refine VO.c (.move rfl) (VO.c (.move rfl) ?_); refine VO.r (.lenF (k := k) m0 el27 (by omega)) ?_; refine VO.c (.lss) (VO.go ?_); refine VC.condD rfl (fun c9 => ?_) (fun c9 => ?_)
      · have hm' : k + m < xs.length := by omega
        have he : (cptR ByteArray.empty xs (k + m))[k + m]'(by omega) = xs.getD (k + m) ByteArray.empty := by rw [← getDg _ ByteArray.empty (by omega), cptR_at (by omega)]
        have he2 : (cptR ByteArray.empty xs (k + m))[k + Int.toNat (((m : Nat) : Int) - (1 : Int))]'(by omega) = xs.getD (k + m - 1) ByteArray.empty := by rw [← getDg _ ByteArray.empty (by omega), cptR_at (by omega)]; congr 1; omega
        refine VC.skip (VC.seq (VC.block (VC.seq (VC.drawn ?_)))); refine VD.c (.move rfl) (VD.c (.move rfl) ?_); refine VD.co (.ixF (j := m) (k := k) rfl rfl m0 el27 (by omega)) ?_; refine VD.r [(w_xs, .row 9 .str (cptR ByteArray.empty xs (k + m)))] (.ldO rfl m0 vt9 (by omega)) (.inr ⟨rfl, rfl⟩) ?_; refine VD.c (.move rfl) (VD.c (.move rfl) (VD.nw [] (VD.c (.sub rfl rfl (by omega)) ?_))); refine VD.co (.ixFZ (z := (((m : Nat) : Int) - (1 : Int))) (k := k) rfl rfl m0 el27 (by omega) (by omega)) ?_; refine VD.r [(w_xs, .row 9 .str (cptR ByteArray.empty xs (k + m)))] (.ldO rfl m0 vt9 (by omega)) (.inr ⟨rfl, rfl⟩) ?_; refine VD.c (.sneq) (VD.go ?_); refine VC.condD rfl (fun c11 => ?_) (fun c11 => ?_)
        · have c11' : xs.getD (k + m) ByteArray.empty ≠ xs.getD (k + m - 1) ByteArray.empty := by rw [← he, ← he2]; exact c11
          refine VC.seq (VC.text ?_); refine VO.c (.move rfl) (VO.c (.move rfl) (VO.c (.move rfl) (VO.c (.move rfl) ?_))); refine VO.c (.ixF (j := m) (k := k) rfl rfl m0 el27 (by omega)) ?_; refine VO.r (.ldO rfl m0 vt9 (by omega)) ?_; refine VO.c (.ixO (j := ((cptA ByteArray.empty xs (k + m)).length)) rfl rfl m0 el27 (by omega)) ?_; refine VO.setE ((cptA ByteArray.empty xs (k + m)).length) rfl rfl vt9 (by omega) ?_; refine VO.go (VC.text ?_); refine VO.c (.move rfl) (VO.c (.add rfl rfl (by omega)) (VO.c (.assign rfl) ?_)); refine VO.nil (VC.text ?_); refine VO.c (.move rfl) (VO.c (.add rfl rfl (by omega)) (VO.c (.assign rfl) ?_)); refine VO.nil ?_; refine ⟨_, [(0, .raw w_xs), (3, I (((cptA ByteArray.empty xs (k + (m + 1))).length : Nat) : Int)), (4, .raw (rowFrom w_xs 1 k)), (5, I (((m + 1) : Nat) : Int))], ?_, ⟨rfl, slI rfl (by first | (rw [← Nat.add_assoc, cptA_ne c11', List.length_append]; rfl) | rw [← Nat.add_assoc, cptA_eq (by omega) c11']), rfl, rfl, trivial⟩, (m + 1), rfl, rfl, (by first | (rw [← Nat.add_assoc, cptR_ne (by omega) c11', he]) | rw [← Nat.add_assoc, cptR_eq (by omega) c11']), (by omega), (by first | (rw [← Nat.add_assoc, cptA_ne c11', List.length_append, List.length_singleton]; omega) | (rw [← Nat.add_assoc, cptA_eq (by omega) c11']; omega))⟩; omega
        have c11' : xs.getD (k + m) ByteArray.empty = xs.getD (k + m - 1) ByteArray.empty := by rw [← he, ← he2]; simpa using c11
        refine VC.skip (VC.text ?_); refine VO.c (.move rfl) (VO.c (.add rfl rfl (by omega)) (VO.c (.assign rfl) ?_)); refine VO.nil ?_; refine ⟨_, [(0, .raw w_xs), (3, I (((cptA ByteArray.empty xs (k + (m + 1))).length : Nat) : Int)), (4, .raw (rowFrom w_xs 1 k)), (5, I (((m + 1) : Nat) : Int))], ?_, ⟨rfl, slI rfl (by first | (rw [← Nat.add_assoc, cptA_ne c11', List.length_append]; rfl) | rw [← Nat.add_assoc, cptA_eq (by omega) c11']), rfl, rfl, trivial⟩, (m + 1), rfl, rfl, (by first | (rw [← Nat.add_assoc, cptR_ne (by omega) c11', he]) | rw [← Nat.add_assoc, cptR_eq (by omega) c11']), (by omega), (by first | (rw [← Nat.add_assoc, cptA_ne c11', List.length_append, List.length_singleton]; omega) | (rw [← Nat.add_assoc, cptA_eq (by omega) c11']; omega))⟩; omega
      refine VC.exit (VC.seq (VC.text ?_)); refine VO.c (.move rfl) (VO.c (.move rfl) ?_); refine VO.r (.restO (k := ((cptA ByteArray.empty xs (k + m)).length)) rfl rfl m0 el27 (by omega) (by omega)) ?_; refine VO.clear0 (k := ((cptA ByteArray.empty xs (k + m)).length)) el27 zt9 (by omega) (by omega) ?_; refine VO.go (VC.seq (VC.text ?_)); refine VO.c (.move rfl) (VO.c (.move rfl) ?_); refine VO.shut [(0, .v (.sl .str) ((cptR ByteArray.empty xs (k + m)).take ((cptA ByteArray.empty xs (k + m)).length) ++ List.replicate ((cptR ByteArray.empty xs (k + m)).length - ((cptA ByteArray.empty xs (k + m)).length)) ByteArray.empty)), (54, .v (.sl .str) ((cptR ByteArray.empty xs (k + m)).take ((cptA ByteArray.empty xs (k + m)).length) ++ List.replicate ((cptR ByteArray.empty xs (k + m)).length - ((cptA ByteArray.empty xs (k + m)).length)) ByteArray.empty)), (57, .v (.sl .str) ((cptR ByteArray.empty xs (k + m)).take ((cptA ByteArray.empty xs (k + m)).length) ++ List.replicate ((cptR ByteArray.empty xs (k + m)).length - ((cptA ByteArray.empty xs (k + m)).length)) ByteArray.empty))] (.cons rfl (.row m0) (.cons rfl (.row m0) (.cons rfl (.row m0) .nil))) ?_; refine VO.r (.cutH rfl rfl el27 (by simp; omega)) ?_; refine VO.c (.assign rfl) (VO.go ?_); refine VC.ret ?_; exact VEnd.one rfl evT (pvE (by rw [Int.toNat_natCast, show k + m = xs.length by omega, cptR_take, List.take_left]))
    have c6' : xs.getD k ByteArray.empty ≠ xs.getD (k - 1) ByteArray.empty := by rw [getDg _ _ hk2, getDg _ _ (by omega)]; exact c6
    refine VC.skip (VC.text ?_); refine VO.c (.move rfl) (VO.c (.add rfl rfl (by omega)) (VO.c (.assign rfl) ?_)); refine VO.nil ?_; refine ⟨_, [(0, .raw w_xs), (3, I (((k + 1) : Nat) : Int))], ?_, ⟨rfl, rfl, trivial⟩, (k + 1), rfl, rfl, rfl, (by omega), (by intro j h1 h2; rcases Nat.lt_succ_iff_lt_or_eq.1 h2 with h | h; exact hall j h1 h; subst h; exact c6')⟩; omega
  refine VC.exit (VC.seq (VC.text ?_)); refine VO.c (.move rfl) (VO.c (.assign rfl) (VO.go ?_)); refine VC.ret ?_; exact VEnd.one rfl (evC (.row m0)) (pvE (by rw [cptA_all (Nat.le_refl _) (fun j h1 h2 => hall j h1 (by omega)), List.take_length]))
theorem sDistinct_ok {w_l : Value} {l : List ByteArray} (hn : l.length < 1000000) : VFG Tryz.prog OA 42 [.raw w_l] [(w_l, .row 9 .str l)] (fun r' g => r' = (.v (.sl .str) (setE l)) ∧ g = []) := by
  refine VFG.enterC Tryz.func42 rfl (fun _ _ => rfl) rfl ?_; show VC _ _ _ _ _ [(0, .raw w_l)] [(w_l, .row 9 .str l)] _; refine VC.seq (VC.text ?_); refine VO.c (.assign rfl) ?_; refine VO.go (VC.seq (VC.text ?_)); refine VO.c (.move rfl) ?_; refine VO.callG [(w_l, .row 9 .str l)] rfl rfl rfl (VFG.call (zSort_ok (by omega))) ?_; rintro _ _ ⟨rfl, rfl⟩; show VO _ _ _ _ _ _ [(w_l, .row 9 .str (sortB l))] _; refine VO.go (VC.seq (VC.text ?_)); refine VO.c (.move rfl) ?_; refine VO.callG [(w_l, .row 9 .str (sortB l))] rfl rfl rfl (VFG.call (zCompact_ok (by rw [sortB_length]; omega))) ?_; rintro _ _ ⟨rfl, rfl⟩; show VO _ _ _ _ _ _ [] _; refine VO.c (.assign rfl) (VO.go ?_); refine VC.ret ?_; exact VEnd.one rfl evT (pvE (by exact cpt_set l))
end Go.Proofs
namespace Go.Proofs
open Go.Fs
set_option maxHeartbeats 1000000
theorem vt26 : ValT Tryz.prog 26 y26 := valT_of (by kernel_rfl)
theorem vt46 : ValT Tryz.prog 46 y46 := valT_of (by kernel_rfl)
theorem zt27 : ZerT Tryz.prog 27 (.sl .str) := zerT_of (z := .slice none 0 0) (by kernel_rfl) rfl rfl
theorem atE_cons {l : List Permit} {t : Int} {i : Nat} (h : i < l.length) : atE (l.drop i) t = if hasT l[i].2.2.2.2 t = true then l[i] :: atE (l.drop (i + 1)) t else atE (l.drop (i + 1)) t := by
  unfold atE; rw [List.drop_eq_getElem_cons h, List.filter_cons]
theorem atE_end {l : List Permit} {t : Int} {i : Nat} (h : l.length ≤ i) : atE (l.drop i) t = [] := by rw [List.drop_eq_nil_of_le h] <;> rfl
theorem sAt1_ok {l : List (ByteArray × ByteArray × ByteArray × (List ByteArray) × (Int × Int))} {t : Int} (hn : l.length < 1000000) : IterC Tryz.prog OA 85 [] [.p y26 l, .p (.int .i64) t] (fun x : Permit => [.v y32 x]) (atE l t) := by
  refine IterC.enter Tryz.func85 rfl rfl (fun _ => rfl) fun yv II EE γ hy hI => ?_; show VC _ _ _ _ _ [(0, .raw yv), (1, .p y26 l), (2, .p (.int .i64) t)] γ _; refine VC.seq (VC.text ?_); refine VO.r (.ld vt26) ?_; refine VO.r (.len el26) ?_; refine VO.c (.move rfl) ?_; refine VO.go (VC.block ?_); refine VC.keep [(0, .raw yv), (2, .p (.int .i64) t), (6, .v y26 l), (7, I ((l.length : Nat) : Int)), (8, I ((0 : Nat) : Int))] ⟨rfl, rfl, rfl, rfl, rfl, trivial⟩ ?_; refine VC.loop (I := fun kk ff ss => ∃ (i : Nat), kk = l.length - i ∧ ff = [(0, .raw yv), (2, .p (.int .i64) t), (6, .v y26 l), (7, I ((l.length : Nat) : Int)), (8, I ((i : Nat) : Int))] ∧ (i ≤ l.length) ∧ II (atE (l.drop i) t) ss) ?_ _ _ _ ⟨0, rfl, rfl, Nat.zero_le _, (by exact hI)⟩; rintro kk ff ss ⟨i, hk0, rfl, hi, hI⟩; refine VC.seq (VC.text ?_); refine VO.c (.lss) ?_; refine VO.go (VC.seq ?_); refine VC.condD rfl (fun c1 => ?_) (fun c1 => ?_)
  · have hi' : i < l.length := by omega
    refine VC.skip (VC.seq (VC.block (VC.seq (VC.text ?_)))); refine VO.c (.ix (j := i) rfl rfl el26 (by omega)) ?_; refine VO.r (.ld vt32) ?_; refine VO.cell (.alloc zt32) ?_; intro ww1; refine VO.setV (cs' := [St ((l[i]).1), St ((l[i]).2.1), St ((l[i]).2.2.1), .v (.sl .str) ((l[i]).2.2.2.1), I (((l[i]).2.2.2.2).1), I (((l[i]).2.2.2.2).2)]) vt32 .v ?_; refine VO.shut [(5, .p y32 (l[i]))] (.cons rfl (.var m0 .refl) .nil) ?_; refine VO.go (VC.seq (VC.text ?_)); refine VO.c (.fa (.r (.r (.r (.r .o))))) ?_; refine VO.r (.ld vt29) ?_; refine VO.r (.ld vt3) ?_; refine VO.call rfl rfl (VF.call (sHas_ok )) ?_; refine VO.c (.move rfl) ?_; refine VO.splitB (x := 16) rfl (fun g3_4 => ?_) (fun g3_4 => ?_)
    · refine VO.c (.move rfl) ?_; refine VO.r (.ld vt32) ?_; refine VO.callY0 rfl rfl (hy (l[i]) (atE (l.drop (i + 1)) t) _ (by rw [atE_cons hi', if_pos g3_4] at hI; exact hI)) ?_; rintro _ ss (⟨rfl, hI⟩ | ⟨rfl, hE⟩)
      · refine VO.c (.not) (VO.c (.pickT rfl rfl) (VO.go ?_)); refine VC.condF rfl ?_; refine VC.skip (VC.text ?_); refine VO.c (.add rfl rfl (by omega)) (VO.c (.move rfl) ?_); refine VO.nil ?_; refine ⟨_, [(0, .raw yv), (2, .p (.int .i64) t), (6, .v y26 l), (7, I ((l.length : Nat) : Int)), (8, I (((i + 1) : Nat) : Int))], ?_, ⟨rfl, rfl, rfl, rfl, rfl, trivial⟩, (i + 1), rfl, rfl, (by omega), (by first | exact hI | (rw [atE_cons hi', if_neg (by rw [g3_4]; decide)] at hI; exact hI))⟩; omega
      refine VO.c (.not) (VO.c (.pickT rfl rfl) (VO.go ?_)); refine VC.condT rfl ?_; refine VC.ret ?_; exact ⟨rfl, .inr hE⟩
    refine VO.skip (VO.skip (VO.skip (VO.skip ?_))); refine VO.c (.pickF rfl rfl) (VO.go ?_); refine VC.condF rfl ?_; refine VC.skip (VC.text ?_); refine VO.c (.add rfl rfl (by omega)) (VO.c (.move rfl) ?_); refine VO.nil ?_; refine ⟨_, [(0, .raw yv), (2, .p (.int .i64) t), (6, .v y26 l), (7, I ((l.length : Nat) : Int)), (8, I (((i + 1) : Nat) : Int))], ?_, ⟨rfl, rfl, rfl, rfl, rfl, trivial⟩, (i + 1), rfl, rfl, (by omega), (by first | exact hI | (rw [atE_cons hi', if_neg (by rw [g3_4]; decide)] at hI; exact hI))⟩; omega
  refine VC.exit ?_; exact ⟨rfl, .inl (by rw [atE_end (by omega)] at hI; exact hI)⟩
theorem sAt_ok {l : List (ByteArray × ByteArray × ByteArray × (List ByteArray) × (Int × Int))} {t : Int} : VF Tryz.prog OA 41 [.v y26 l, I t] (.clo 85 [] [.p y26 l, .p (.int .i64) t]) := by
  refine VF.enter Tryz.func41 rfl (fun _ _ => rfl) rfl ?_; show VC _ _ _ _ _ [(0, .v y26 l), (1, I t)] [] _; refine VC.seq (VC.text ?_); refine VO.new (.box) ?_; refine VO.new (.box) ?_; refine VO.c (.assign rfl) ?_; refine VO.go (VC.seq (VC.text ?_)); refine VO.c (.func) (VO.c (.assign rfl) (VO.go ?_)); refine VC.ret ?_; exact VEnd.one rfl evT rfl
def gateE (p : Permit) : ByteArray := p.2.2.1
theorem outE_eq {l : List Permit} {t : Int} {gs : List ByteArray} (h : gs ++ ([] : List Permit).map gateE = (atE l t).map gateE) : setE gs = outE l t := by
  rw [List.map_nil, List.append_nil] at h; rw [h] <;> rfl
theorem gates_len {l : List Permit} {t : Int} {gs : List ByteArray} {rest : List Permit} (h : gs ++ rest.map gateE = (atE l t).map gateE) : gs.length + rest.length ≤ l.length := by
  have h1 := congrArg List.length h; rw [List.length_append, List.length_map, List.length_map] at h1; have h2 : (atE l t).length ≤ l.length := List.length_filter_le _ _; omega
theorem sOut_ok {l : List (ByteArray × ByteArray × ByteArray × (List ByteArray) × (Int × Int))} {t : Int} (hn : l.length < 100000) : VF Tryz.prog OA 22 [.v y26 l, I t] (.v (.sl .str) (outE l t)) := by
  refine VF.enter Tryz.func22 rfl (fun _ _ => rfl) rfl ?_; show VC _ _ _ _ _ [(0, .v y26 l), (1, I t)] [] _; refine VC.seq (VC.text ?_); refine VO.c (.assign rfl) ?_; refine VO.go (VC.seq (VC.text ?_)); refine VO.cell (.alloc0 zt27) ?_; intro ww2; refine VO.go (VC.seq (VC.seq ?_)); refine VC.nilRow 9 .str ?_; refine VC.text ?_; refine VO.c (.move rfl) (VO.c (.move rfl) ?_); refine VO.call rfl rfl (VF.call (sAt_ok )) ?_; refine VO.go (VC.block ?_); refine VC.keep [(5, .raw ww2), (9, .clo 85 [] [.p y26 l, .p (.int .i64) t])] ⟨rfl, rfl, trivial⟩ ?_; refine VC.rangeFunc rfl (sAt1_ok (by omega)) (fun _ => rfl) rfl rfl (fun rest ss => ∃ (gs : List ByteArray), ∃ (wg : Value), ss = [(wg, .row 9 .str gs), (ww2, .var [.raw wg])] ∧ (gs ++ rest.map gateE = (atE l t).map gateE)) (fun ee ss => False) ⟨[], (.slice none 0 0), rfl, (by rfl)⟩ ?_ ?_ ?_
  · rintro jj x rest _ ⟨gs, wg, rfl, hg⟩; show VC _ _ _ _ _ [(10, .v y32 x), (5, .raw ww2), (9, .clo 85 [] [.p y26 l, .p (.int .i64) t])] [(wg, .row 9 .str gs), (ww2, .var [.raw wg])] _; refine VC.text ?_; refine VO.cell (.alloc zt32) ?_; intro ww3; refine VO.setV (cs' := [St x.1, St x.2.1, St x.2.2.1, .v (.sl .str) x.2.2.2.1, I x.2.2.2.2.1, I x.2.2.2.2.2]) vt32 .v ?_; refine VO.shut [(6, .p y32 x)] (.cons rfl (.var m0 .refl) .nil) ?_; refine VO.nil ?_; refine ⟨rfl, ?_⟩; refine VC.block (VC.text ?_); refine VO.r (.ldV m1 vt27) ?_; refine VO.c (.fa (.r (.r (.l .o)))) ?_; refine VO.r (.ld vt9) ?_; refine VO.new (.lit [x.2.2.1] el27) ?_; refine VO.app rfl rfl el27 el27 (by have := gates_len hg; simp; omega) ?_; intro ww4; refine VO.perm swap1 ?_; refine VO.one m1 fun ho5 => ?_; refine VO.setV (cs' := [.raw ww4]) vt27 (.raw rfl (agg_one ho5) ho5) ?_; refine VO.perm swap1 ?_; refine VO.nil ?_; exact .inl ⟨rfl, gs ++ [x.2.2.1], ww4, rfl, (by rw [List.append_assoc]; exact hg)⟩
  · rintro _ ⟨gs, wg, rfl, hg⟩; refine VC.seq (VC.text ?_); refine VO.r (.ldV m1 vt27) ?_; refine VO.callG [(wg, .row 9 .str gs)] rfl rfl rfl (VFG.call (sDistinct_ok (by have := gates_len hg; omega))) ?_; rintro _ _ ⟨rfl, rfl⟩; show VO _ _ _ _ _ _ [(ww2, .var [.raw wg])] _; refine VO.c (.assign rfl) (VO.go ?_); refine VC.ret ?_; exact VEnd.one rfl evT (pvE (by exact outE_eq hg))
  rintro _ _ _ ⟨⟩
theorem zIndexFI_ok {F : Int → Bool} {l : List Int} {f : PV} (hl : l.length < 1000000) (hf : ∀ x ∈ l, VCall Tryz.prog OA f [I x] (B (F x))) : VF Tryz.prog OA 137 [.v y54 l, f] (I (idxG F l 0)) := by
  refine VF.enter Tryz.func137 rfl (fun _ _ => rfl) rfl ?_; show VC _ _ _ _ _ [(0, .v y54 l), (1, f)] [] _; refine VC.seq (VC.text ?_); refine VO.c (.assign rfl) ?_; refine VO.go (VC.seq (VC.seq (VC.text ?_))); refine VO.c (.move rfl) ?_; refine VO.r (.len el54) ?_; refine VO.c (.move rfl) ?_; refine VO.go (VC.block ?_); refine VC.keep [(0, .v y54 l), (1, f), (7, I ((l.length : Nat) : Int)), (8, I ((0 : Nat) : Int))] ⟨rfl, rfl, rfl, rfl, trivial⟩ ?_; refine VC.loop (I := fun kk ff ss => ∃ (j : Nat), kk = l.length - j ∧ ff = [(0, .v y54 l), (1, f), (7, I ((l.length : Nat) : Int)), (8, I ((j : Nat) : Int))] ∧ ss = [] ∧ (j ≤ l.length) ∧ (idxG F l 0 = idxG F (l.drop j) (j : Nat))) ?_ _ _ _ ⟨0, rfl, rfl, rfl, Nat.zero_le _, (by rfl)⟩; rintro kk ff ss ⟨j, hk0, rfl, rfl, hj, hi⟩; refine VC.seq (VC.text ?_); refine VO.c (.lss) ?_; refine VO.go (VC.seq ?_); refine VC.condD rfl (fun c2 => ?_) (fun c2 => ?_)
  · refine VC.skip (VC.seq (VC.block (VC.seq (VC.text ?_)))); refine VO.c (.move rfl) (VO.c (.assign rfl) ?_); refine VO.go (VC.seq (VC.text ?_)); refine VO.c (.move rfl) (VO.c (.move rfl) (VO.c (.move rfl) (VO.c (.ix (j := j) rfl rfl el54 (by omega)) ?_))); refine VO.r (.ld vt3) ?_; refine VO.call rfl rfl ((hf _ (List.getElem_mem _)) ) ?_; refine VO.go ?_; refine VC.condB rfl (fun c4 => ?_) (fun c4 => ?_)
    · refine VC.seq (VC.text ?_); refine VO.c (.move rfl) (VO.c (.assign rfl) (VO.go ?_)); refine VC.ret ?_; exact VEnd.one rfl evT (pvI (by rw [hi, idxG_drop (by omega), if_pos c4]))
    refine VC.skip (VC.text ?_); refine VO.c (.add rfl rfl (by omega)) (VO.c (.move rfl) ?_); refine VO.nil ?_; refine ⟨_, [(0, .v y54 l), (1, f), (7, I ((l.length : Nat) : Int)), (8, I (((j + 1) : Nat) : Int))], ?_, ⟨rfl, rfl, rfl, rfl, trivial⟩, (j + 1), rfl, rfl, rfl, (by omega), (by rw [hi, idxG_drop (by omega), if_neg (by rw [c4]; decide)])⟩; omega
  refine VC.exit (VC.seq (VC.text ?_)); refine VO.c (.assign rfl) (VO.go ?_); refine VC.ret ?_; exact VEnd.one rfl evT (pvI (by rw [hi, idxG_end (by omega)]))
theorem zContainsFI_ok {F : Int → Bool} {l : List Int} {f : PV} (hl : l.length < 1000000) (hf : ∀ x ∈ l, VCall Tryz.prog OA f [I x] (B (F x))) : VF Tryz.prog OA 106 [.v y54 l, f] (B (l.any F)) := by
  refine VF.enter Tryz.func106 rfl (fun _ _ => rfl) rfl ?_; show VC _ _ _ _ _ [(0, .v y54 l), (1, f)] [] _; refine VC.seq (VC.text ?_); refine VO.c (.assign rfl) ?_; refine VO.go (VC.seq (VC.text ?_)); refine VO.c (.move rfl) (VO.c (.move rfl) ?_); refine VO.call rfl rfl (VF.call (zIndexFI_ok (F := F) hl hf)) ?_; refine VO.c (.geq) (VO.c (.assign rfl) (VO.go ?_)); refine VC.ret ?_; exact VEnd.one rfl evT (pvE (by have h9 := idxG_any (F := F) (l := l) (k := 0) (by omega); cases h8 : l.any F <;> simp_all))
theorem sOver_ok {tick : Int} {s : Int × Int} {l : List (ByteArray × ByteArray × ByteArray × (List ByteArray) × (Int × Int))} {sn : List ((Int × Int) × Int)} (hl : l.length < 100000) (hs : sn.length < 100000) : VF Tryz.prog OA 104 [I tick, .p y29 s, .p y26 l, .p y46 sn] (B (hasT s tick && overE l sn tick)) := by
  refine VF.enter Tryz.func104 rfl (fun _ _ => rfl) rfl ?_; show VC _ _ _ _ _ [(0, I tick), (1, .p y29 s), (2, .p y26 l), (3, .p y46 sn)] [] _; refine VC.seq (VC.text ?_); refine VO.c (.assign rfl) ?_; refine VO.go (VC.seq (VC.drawn ?_)); refine VD.r [] (.ld vt29) (.inl rfl) ?_; refine VD.c (.move rfl) ?_; refine VD.call rfl rfl (VF.call (sHas_ok )) ?_; refine VD.c (.move rfl) ?_; refine VD.splitB (x := 9) rfl (fun g1_3 => ?_) (fun g1_3 => ?_)
  · refine VD.r [] (.ld vt26) (.inl rfl) ?_; refine VD.nw [] (VD.c (.move rfl) ?_); refine VD.call rfl rfl (VF.call (sOut_ok (by first | assumption | omega | simp))) ?_; refine VD.ro (.len el27) ?_; refine VD.r [] (.ld vt46) (.inl rfl) ?_; refine VD.c (.move rfl) ?_; refine VD.call rfl rfl (VF.call (sPermitted_ok (by first | assumption | omega | simp))) ?_; refine VD.c (.gtr) (VD.nw [12] (VD.c (.pickT rfl rfl) (VD.c (.assign rfl) ?_))); refine VD.go ?_; refine VC.ret ?_; exact VEnd.one rfl evT (pvE (by first | (rw [g1_3]; rfl) | (rw [show hasT s tick = false from by simpa using g1_3]; rfl)))
  refine VD.skip (VD.nw [] (VD.skip (VD.skip ?_))); refine VD.skip (VD.skip (VD.skip (VD.skip ?_))); refine VD.skip (VD.nw [] (VD.c (.pickF rfl rfl) (VD.c (.assign rfl) ?_))); refine VD.go ?_; refine VC.ret ?_; exact VEnd.one rfl evT (pvE (by first | (rw [g1_3]; rfl) | (rw [show hasT s tick = false from by simpa using g1_3]; rfl)))
def fromL (l : List Permit) : List Int := l.map fun p => p.2.2.2.2.1
def limL (ss : List Season) : List Int := ss.flatMap fun x => [x.1.1, x.1.2]
theorem fromL_take {l : List Permit} {i : Nat} (h : i < l.length) : fromL (l.take (i + 1)) = fromL (l.take i) ++ [l[i].2.2.2.2.1] := by
  unfold fromL; rw [List.take_succ_eq_append_getElem h, List.map_append] <;> rfl
theorem limL_take {l : List Season} {i : Nat} (h : i < l.length) : limL (l.take (i + 1)) = limL (l.take i) ++ [l[i].1.1, l[i].1.2] := by
  unfold limL; rw [List.take_succ_eq_append_getElem h, List.flatMap_append]; simp
theorem limL_len {l : List Season} : (limL l).length = 2 * l.length := by
  unfold limL
  induction l with
  | nil => rfl
  | cons x l ih => rw [List.flatMap_cons, List.length_append, ih]; simp; omega
theorem fromL_len {l : List Permit} : (fromL l).length = l.length := List.length_map ..
theorem sCrowded_ok {l : List (ByteArray × ByteArray × ByteArray × (List ByteArray) × (Int × Int))} {sn : List ((Int × Int) × Int)} {s : Int × Int} (hl : l.length < 10000) (hs : sn.length < 10000) : VF Tryz.prog OA 58 [.v y26 l, .v y46 sn, .v y29 s] (B (crowdedE l sn s)) := by
  refine VF.enter Tryz.func58 rfl (fun _ _ => rfl) rfl ?_; show VC _ _ _ _ _ [(0, .v y26 l), (1, .v y46 sn), (2, .v y29 s)] [] _; refine VC.seq (VC.text ?_); refine VO.new (.box) ?_; refine VO.new (.box) ?_; refine VO.new (.box) ?_; refine VO.c (.assign rfl) ?_; refine VO.go (VC.seq (VC.text ?_)); refine VO.c (.fa (.l .o)) ?_; refine VO.r (.ld vt3) ?_; refine VO.cell (.lit [s.1] el54) ?_; intro ww7; refine VO.c (.assign rfl) ?_; refine VO.go (VC.seq (VC.seq (VC.text ?_))); refine VO.r (.ld vt26) ?_; refine VO.r (.len el26) ?_; refine VO.c (.move rfl) ?_; refine VO.go (VC.block ?_); refine VC.keep [(3, .p y26 l), (4, .p y46 sn), (5, .p y29 s), (7, .raw ww7), (17, .v y26 l), (18, I ((l.length : Nat) : Int)), (19, I ((0 : Nat) : Int))] ⟨rfl, rfl, rfl, rfl, rfl, rfl, rfl, trivial⟩ ?_; refine VC.loop (I := fun kk ff ss => ∃ (i : Nat) (w0 : Value), kk = l.length - i ∧ ff = [(3, .p y26 l), (4, .p y46 sn), (5, .p y29 s), (7, .raw w0), (17, .v y26 l), (18, I ((l.length : Nat) : Int)), (19, I ((i : Nat) : Int))] ∧ ss = [(w0, .row 3 (.int .i64) (s.1 :: fromL (l.take i)))] ∧ (i ≤ l.length)) ?_ _ _ _ ⟨0, ww7, rfl, rfl, rfl, Nat.zero_le _⟩; rintro kk ff ss ⟨i, w0, hk0, rfl, rfl, hi⟩; refine VC.seq (VC.text ?_); refine VO.c (.lss) ?_; refine VO.go (VC.seq ?_); refine VC.condD rfl (fun c3 => ?_) (fun c3 => ?_)
  · refine VC.skip (VC.seq (VC.block (VC.seq (VC.text ?_)))); refine VO.c (.ix (j := i) rfl rfl el26 (by omega)) ?_; refine VO.r (.ld vt32) ?_; refine VO.cell (.alloc zt32) ?_; intro ww8; refine VO.setV (cs' := [St ((l[i]).1), St ((l[i]).2.1), St ((l[i]).2.2.1), .v (.sl .str) ((l[i]).2.2.2.1), I (((l[i]).2.2.2.2).1), I (((l[i]).2.2.2.2).2)]) vt32 .v ?_; refine VO.shut [(9, .p y32 (l[i]))] (.cons rfl (.var m0 .refl) .nil) ?_; refine VO.go (VC.text ?_); refine VO.c (.move rfl) (VO.c (.fa (.r (.r (.r (.r .o))))) (VO.c (.fa (.l .o)) ?_)); refine VO.r (.ld vt3) ?_; refine VO.new (.lit [((l[i]).2.2.2.2).1] el54) ?_; refine VO.app rfl rfl el54 el54 (by simp [fromL_len]; omega) ?_; intro ww9; refine VO.c (.assign rfl) ?_; refine VO.nil (VC.text ?_); refine VO.c (.add rfl rfl (by omega)) (VO.c (.move rfl) ?_); refine VO.nil ?_; refine ⟨_, [(3, .p y26 l), (4, .p y46 sn), (5, .p y29 s), (7, .raw ww9), (17, .v y26 l), (18, I ((l.length : Nat) : Int)), (19, I (((i + 1) : Nat) : Int))], ?_, ⟨rfl, rfl, rfl, rfl, rfl, rfl, rfl, trivial⟩, (i + 1), ww9, rfl, rfl, (by rw [fromL_take (by omega)] <;> rfl), (by omega)⟩; omega
  refine VC.exit (VC.seq (VC.seq (VC.text ?_))); refine VO.r (.ld vt46) ?_; refine VO.r (.len el46) ?_; refine VO.c (.move rfl) ?_; refine VO.go (VC.block ?_); refine VC.keep [(3, .p y26 l), (4, .p y46 sn), (5, .p y29 s), (7, .raw w0), (30, .v y46 sn), (31, I ((sn.length : Nat) : Int)), (32, I ((0 : Nat) : Int))] ⟨rfl, rfl, rfl, rfl, rfl, rfl, rfl, trivial⟩ ?_; refine VC.loop (I := fun kk ff ss => ∃ (j : Nat) (w1 : Value), kk = sn.length - j ∧ ff = [(3, .p y26 l), (4, .p y46 sn), (5, .p y29 s), (7, .raw w1), (30, .v y46 sn), (31, I ((sn.length : Nat) : Int)), (32, I ((j : Nat) : Int))] ∧ ss = [(w1, .row 3 (.int .i64) ((s.1 :: fromL l) ++ limL (sn.take j)))] ∧ (j ≤ sn.length)) ?_ _ _ _ ⟨0, w0, rfl, rfl, (by rw [show i = l.length by omega, List.take_length, show limL (sn.take 0) = [] from rfl, List.append_nil]), Nat.zero_le _⟩; rintro kk ff ss ⟨j, w1, hk2, rfl, rfl, hj⟩; refine VC.seq (VC.text ?_); refine VO.c (.lss) ?_; refine VO.go (VC.seq ?_); refine VC.condD rfl (fun c8 => ?_) (fun c8 => ?_)
  · refine VC.skip (VC.seq (VC.block (VC.seq (VC.text ?_)))); refine VO.c (.ix (j := j) rfl rfl el46 (by omega)) ?_; refine VO.r (.ld vt45) ?_; refine VO.cell (.alloc zt45) ?_; intro ww10; refine VO.setV (cs' := [I (((sn[j]).1).1), I (((sn[j]).1).2), I ((sn[j]).2)]) vt45 .v ?_; refine VO.shut [(11, .p y45 (sn[j]))] (.cons rfl (.var m0 .refl) .nil) ?_; refine VO.go (VC.seq (VC.text ?_)); refine VO.c (.fa (.l .o)) ?_; refine VO.r (.ld vt29) ?_; refine VO.call rfl rfl (VF.call (sEnds_ok )) ?_; refine VO.cell (.alloc zt173) ?_; intro ww11; refine VO.setV (cs' := [I (((sn[j]).1).1), I (((sn[j]).1).2)]) vt173 .v ?_; refine VO.shut [(12, .p y173 ((sn[j]).1))] (.cons rfl (.var m0 .refl) .nil) ?_; refine VO.go (VC.text ?_); refine VO.c (.move rfl) ?_; refine VO.r (.arr2 3) ?_; refine VO.app rfl rfl el54 el54 (by simp [fromL_len, limL_len]; omega) ?_; intro ww12; refine VO.c (.assign rfl) ?_; refine VO.nil (VC.text ?_); refine VO.c (.add rfl rfl (by omega)) (VO.c (.move rfl) ?_); refine VO.nil ?_; refine ⟨_, [(3, .p y26 l), (4, .p y46 sn), (5, .p y29 s), (7, .raw ww12), (30, .v y46 sn), (31, I ((sn.length : Nat) : Int)), (32, I (((j + 1) : Nat) : Int))], ?_, ⟨rfl, rfl, rfl, rfl, rfl, rfl, rfl, trivial⟩, (j + 1), ww12, rfl, rfl, (by rw [limL_take (by omega), List.append_assoc]), (by omega)⟩; omega
  refine VC.exit (VC.seq (VC.text ?_)); refine VO.c (.func) (VO.c (.assign rfl) ?_); refine VO.go (VC.seq (VC.text ?_)); refine VO.c (.move rfl) (VO.c (.move rfl) ?_); refine VO.callC rfl rfl .same (.cons (.row m0) (.cons .same .nil)) rfl (VF.call (zContainsFI_ok (F := fun t => hasT s t && overE l sn t) (by simp [fromL_len, limL_len]; omega) (fun _ _ => VF.clo (sOver_ok (by omega) (by omega))))) ?_; refine VO.c (.assign rfl) (VO.go ?_); refine VC.ret ?_; exact VEnd.one rfl evT (pvE (by rw [List.take_of_length_le (by omega)] <;> rfl))
end Go.Proofs
namespace Go.Proofs
open Go.Fs
set_option maxHeartbeats 1000000
theorem shortPs_ok {l : List Permit} (h : shortPs l = true) : l.length ≤ 65 ∧ ∀ p ∈ l, p.2.2.2.1.length ≤ 9 := by
  unfold shortPs at h; rw [Bool.and_eq_true] at h; obtain ⟨h1, h2⟩ := h; have h1 := of_decide_eq_true h1; refine ⟨by omega, fun p hp => ?_⟩; have h3 := List.all_eq_true.1 h2 p hp; unfold shortP at h3; simp only [Bool.and_eq_true, Bool.not_eq_true', Bool.or_eq_false_iff, decide_eq_false_iff_not] at h3; omega
theorem awake_ok : VF Tryz.prog OA 6 [] (B true) := VF.oracle (fun _ => rfl) fun _ _ => ⟨rfl, rfl⟩
theorem firstE_all {l : List Int} : firstE l = 0 ↔ ∀ x ∈ l, x = 0 := by
  induction l with
  | nil => simp [firstE]
  | cons x l ih => by_cases h : x = 0 <;> simp [firstE, h, ih]
theorem perm_span {p : Permit} (h : permE p = 0) : spanE p.2.2.2.2 = 0 := by
  unfold permE at h; rw [firstE_all] at h; exact h _ (by simp)
end Go.Proofs
namespace Go.Fs
variable {P : Program} {σ : Sto} {fl : VL} {x y : Operand} {T T' : TypeId} {p q : Bool}
theorem equal_bool (hT : P.underlying T = some .bool) : runPure P (Op.equal T (.bool p) (.bool q)) = some (p == q) := by
  unfold Op.equal; rw [show Op.maxDepth = 9999 + 1 from rfl, Op.equalIn]; simp only [runPure_bind, runPure_underlying hT, Option.bind_some, runPure_pure]
theorem CalmV.bneq (hT : P.underlying T = some .bool := by kernel_rfl) (hx : evV fl x = some (.v .bool p) := by rfl) (hy : evV fl y = some (.v .bool q) := by rfl) : CalmV P fl σ (.binOp .neq T x y T') (.v .bool (p != q)) :=
  .bin hx hy fun h S a c ha hc => by
    obtain rfl := RepV.bool ha; obtain rfl := RepV.bool hc; refine ⟨.bool (p != q), RepV.ofBool _, rfl, ?_⟩
    have h1 : runPure P (Op.equal T (.bool p) (.bool q) >>= fun b => pure (Value.bool !b)) = some (.bool (p != q)) := by
      rw [runPure_bind, equal_bool hT]; rfl
    unfold purely; show (runPure P (Op.equal T (.bool p) (.bool q) >>= fun b => pure (Value.bool !b))).bind _ = _; rw [h1]; rfl
end Go.Fs
namespace Go.Fs
variable {P : Program} {orc : FuncId → List Value → Heap → Option (Value × Heap)} {σ : Sto} {fl : VL} {ops : Array Oper} {n : Nat} {l : List Oper} {K : VL → Sto → Prop} {d : Tmp} {ty : TypeId} {pos : String} {after : Array Edge} {g : Option (Nat × Bool)} {x : Operand} {T e : TypeId} {τ : Ty}
end Go.Fs
namespace Go.Fs
variable {P : Program} {fl : VL} {e : TypeId} {τ : Ty}
end Go.Fs
namespace Go.Fs
variable {P : Program} {orc : FuncId → List Value → Heap → Option (Value × Heap)} {rnd : Option Nat} {h h' h0 h1 h2 hs : Heap} {S S' S0 B G : List Nat} {σ σ' : Sto} {t t' : Tr} {ms : List Nat} {fl : VL} {ops : Array Oper} {n i mem : Nat} {l : List Oper} {K : VL → Sto → Prop} {Q : Ex → VL → Sto → Prop}
  {d d1 d2 : Tmp} {ty ty1 ty2 : TypeId} {pos pos1 pos2 : String} {after after1 after2 : Array Edge} {op : Op} {v v1 : PV} {g g1 g2 : Option (Nat × Bool)} {bs nw : List Nat} {segs : List (Nat × Nat × Nat)} {tail so : Bool}
section
variable (P orc)
end
theorem mask_keep {m b : Nat} : ∀ (segs : List (Nat × Nat × Nat)) (objs : List (Nat × AObj)), (∀ s ∈ segs, m.testBit s.1 = false → ¬(s.2.1 ≤ b ∧ b < s.2.2)) → look (mask m segs objs) b = look objs b
  | [], _, _ => rfl
  | (k, lo, hi) :: segs, objs, h => by
    simp only [mask]; rw [mask_keep segs _ fun s hs => h s (List.mem_cons_of_mem _ hs)]
    cases hk : m.testBit k with
    | true => rfl
    | false =>
      have := h (k, lo, hi) List.mem_cons_self hk; simp only [Bool.false_eq_true, if_false]; refine look_filter_all (fun o => ?_) objs; unfold outside; simp only [Bool.not_eq_true', Bool.and_eq_false_iff, decide_eq_false_iff_not]; exact Decidable.not_and_iff_not_or_not.1 this
end Go.Fs
namespace Go.Fs
variable {P : Program} {orc : FuncId → List Value → Heap → Option (Value × Heap)} {rnd : Option Nat} {h h' h0 h1 h2 : Heap} {S S' S0 B G : List Nat} {σ σ' σr : Sto} {t t' : Tr} {ms : List Nat} {fl : VL} {ops : Array Oper} {n i mem : Nat} {l : List Oper} {K : VL → Sto → Prop} {Q : Ex → VL → Sto → Prop}
  {d : Tmp} {ty : TypeId} {pos : String} {after : Array Edge} {op : Op} {v pv : PV} {g : Option (Nat × Bool)} {x y z : Operand} {T T' e : TypeId} {τ τ' : Ty} {bs nw : List Nat} {segs : List (Nat × Nat × Nat)} {tail so : Bool} {w w' : Value} {c c' : Cell}
theorem FreshO.lit0C (hT : ElT P T e τ) : FreshO P fl (.buildSlice T 0 #[]) (.cel e 0 []) :=
  ⟨rfl, fun h S t hs hok hS => ⟨fun k => .slice (some ⟨k, 0, none⟩) 0 0, .row e [] true false, fun _ => rfl, fun S' hN hm => .inr ⟨h.next, [], false, rfl, hm, by rw [Heap.get_push, if_pos rfl], rfl, rfl, fun _ => rfl⟩, lit0_run hT⟩⟩
theorem append_nil_low {xv u : Value} (hT : ElT P T e τ) (hT' : ElT P T' e τ) (hf : fsAppend P #[T, T'] (.slice none 0 0) xv h = some (u, h')) : h.low ≤ h'.low := by
  obtain ⟨i, z, hi1, hi2, hi3, hi3', hi4, _⟩ := hT.sl.info; unfold fsAppend at hf; simp only [List.getElem?_toArray, List.getElem?_cons_zero, List.getElem?_cons_succ, hT.sl.sl, hT'.sl.sl, hi1, hi4] at hf; split at hf
  · rename_i m news _; obtain ⟨_, hf⟩ := bif_some hf; unfold fsGrow at hf
    cases hm : Nat.beq m 0 with
    | true =>
      simp only [hm, cond_true, Option.some.injEq, Prod.mk.injEq] at hf
      rw [← hf.2]; exact Nat.le_refl _
    | false =>
      simp only [hm, cond_false] at hf; obtain ⟨_, hf⟩ := bif_some hf; unfold grown at hf; simp only [Option.some.injEq, Prod.mk.injEq] at hf; rw [← hf.2]; exact Nat.le_refl _
  cases hf
theorem cel_row {w : Value} (hc : CellR h S w (.cel e 0 [])) : CellR h S w (.row e τ []) := by
  rcases hc with ⟨h1, _, _⟩ | ⟨b, rs, m, h1, h2, h3, h4, h5, h6⟩
  · exact .inl ⟨h1, rfl⟩
  obtain rfl : rs = [] := h4; exact .inr ⟨b, [], m, h1, h2, h3, Elems.nil⟩
theorem cel_rowL (L : Lc S0 h ((w, .cel e 0 []) :: σ) t fl) : Lc S0 h ((w, .row e τ []) :: σ) t fl where
  ok := L.ok
  s0 := L.s0
  cells := fun c hc => by
    rcases List.mem_cons.1 hc with rfl | hc
    · exact cel_row (L.cells _ List.mem_cons_self)
    exact L.cells c (List.mem_cons_of_mem _ hc)
  sep := L.sep
  apart := L.apart
  slots := L.slots
theorem MakeV.app0 {ys : List τ.den} (hT : ElT P T e τ) (hT' : ElT P T' e τ) (hx : evV fl x = some (.raw w)) (hy : evV fl y = some (.v (.sl τ) ys)) (hsz : ys.length ≤ 1000000) :
    MakeV P fl ((w, .cel e 0 []) :: σ) (.call { callee := .builtin .append, args := #[x, y], argTypes := #[T, T'] }) fun v σ' => ∃ w', v = .raw w' ∧ σ' = (w', .row e τ ys) :: σ :=
  ⟨rfl, fun S0 h t L => by
    obtain ⟨u, h', v, σ', ⟨w', e1, e2⟩, e3, e4, e5⟩ := (MakeV.app (σ := σ) (xs := []) hT hT' hx hy (by simpa using hsz)).2 S0 h t (cel_rowL L)
    exact ⟨u, h', v, σ', ⟨w', e1, e2⟩, ⟨e3.aft, e3.new, e3.apart, e3.cells⟩, e4, e5⟩⟩
end Go.Fs
namespace Go.Fs
variable {P : Program} {fl : VL} {σ : Sto} {T : TypeId} {τ : Ty} {h : Heap} {S : List Nat}
inductive PartP : PV → List PV → Prop where
  | v {τ : Ty} {x : τ.den} : PartP (.v τ x) (cellsPV τ x)
  | w {w : Value} (ho : oneCell w = true) : PartP (.raw w) [.raw w]
theorem one_cells {w : Value} (ho : oneCell w = true) : w.cells.toList = [w] := by
  cases w with
  | agg cs => cases ho
  | _ => rfl
theorem PartP.ok {p : PV} {qs : List PV} {u : Value} (hp : PartP p qs) (hu : RepPV h S p u) : RepL h S qs u.cells.toList ∧ u.cells.toList.all oneCell = true ∧ u.cells.toList.length = qs.length := by
  cases hp with
  | v => 
    have hv : RepV h S _ u _ := hu; have h1 := cells_repC hv.2
    exact ⟨h1, hv.2.allOne, h1.len⟩
  | w ho =>
    obtain rfl : u = _ := hu; rw [one_cells ho]; exact ⟨⟨_, [], rfl, rfl, rfl⟩, by rw [List.all_cons, ho]; rfl, rfl⟩
inductive BldR (pl : List (Nat × Nat)) : List PV → List Nat → List PV → List PV → Prop where
  | nil {L L' : List PV} (h : L = L') : BldR pl L [] [] L'
  | cons {L L' : List PV} {i o : Nat} {is : List Nat} {p : PV} {ps qs : List PV} (hp : PartP p qs) (hpl : pl[i]? = some (o, qs.length)) (ho : Nat.ble (o + qs.length) L.length = true) (r : BldR pl (spl L o qs) is ps L') : BldR pl L (i :: is) (p :: ps) L'
theorem BldR.fill {pl : List (Nat × Nat)} : ∀ {is : List Nat} {ps : List PV} {us : List Value} {L L' : List PV} {cs : List Value}, BldR pl L is ps L' → RepL h S ps us → RepL h S L cs → cs.all oneCell = true →
    ∃ cs', Instr.fill (pl[·]?) cs.toArray (is.zip us) = some cs'.toArray ∧ RepL h S L' cs' ∧ us.all (fun u => u.cells.toList.all oneCell) = true ∧ is.length = us.length
  | [], [], us, L, L', cs, .nil e, hp, hL, ho => by
    obtain rfl : us = [] := hp; subst e
    exact ⟨cs, rfl, hL, rfl, rfl⟩
  | i :: is, p :: ps, us, L, L', cs, .cons (o := o) (qs := qs) hp hpl hle0 hr, ⟨u, r, h1, h2, h3⟩, hL, ho => by
    subst h1; have hlen := hL.len; have hle := nble hle0; obtain ⟨g1, g2, hul⟩ := hp.ok h2
    have hus : u.cells.size = qs.length := by simpa using hul
    obtain ⟨cs', f1, f2, f3, f4⟩ := BldR.fill hr h3 (hL.spl o g1) (allOne_spl o ho g2); refine ⟨cs', ?_, f2, by rw [List.all_cons, g2, f3]; rfl, by simp [f4]⟩; simp only [List.zip_cons_cons, Instr.fill, hpl]
    have h9 : (u.cells.size ≠ qs.length || o + u.cells.size > cs.toArray.size) = false := by simp [hus]; omega
    rw [h9]; simp only [Bool.false_eq_true, if_false]
    have hsp : u.cells.zipIdx.foldl (fun (cs : Array Value) (p : Value × Nat) => cs.setIfInBounds (o + p.2) p.1) cs.toArray = (splice cs o u.cells.toList).toArray := by
      have e0 : cs = cs.take o ++ ((cs.drop o).take qs.length) ++ cs.drop (o + qs.length) := by
        rw [← List.drop_drop, List.append_assoc, List.take_append_drop, List.take_append_drop]
      have := fill_at qs.length o u (cs.take o) ((cs.drop o).take qs.length) (cs.drop (o + qs.length)) (by rw [List.length_take]; omega) (by rw [List.length_take, List.length_drop]; omega) hus; rw [← e0] at this; rw [this]; unfold splice; rw [hul]
    rw [hsp]; exact f1
theorem CalmV.buildR {pl : List (Nat × Nat)} {parts : Array (Nat × Operand)} {zs : List Value} {ps cs : List PV} (hT : BldT P T τ pl) (hz : zeroC τ = zs) (hps : evVs fl (parts.toList.map (·.2)) = some ps) (hb : BldR pl (zs.map .raw) (parts.toList.map (·.1)) ps cs) : CalmV P fl σ (.build T parts) (.agg cs) :=
  ⟨rfl, fun h S t hs _ => by
    obtain ⟨z, z1, z2, z3⟩ := hT.zer.zero; obtain ⟨y1, y2⟩ := zero_rep h S τ; have hr : RepL h S ps ((parts.toList.map (·.2)).map (evalO t)) := sees_list (fun x hx => hs x (by simpa [Op.operands] using hx)) hps; obtain ⟨cs', f1, f2, f3, f4⟩ := hb.fill hr (show RepL h S (zs.map .raw) (zeroC τ) from by rw [hz]; exact repL_raw zs) (af0_one y2); refine ⟨.agg cs'.toArray, ⟨cs', rfl, f2⟩, fun _ _ _ _ _ H => ?_⟩; show (bif (parts.toList.all fun p => (evalO t p.2).cells.toList.all oneCell) && ((((P.info? T).bind (·.zero)).map fun z => z.cells.toList.all af0) == some true) then (runPure P (Instr.build T (parts.map fun p => (p.1, evalO t p.2)))).map fun v => (v, H) else none) = _
    have c1 : (parts.toList.all fun p => (evalO t p.2).cells.toList.all oneCell) = true := by
      rw [List.map_map, List.all_map] at f3; exact f3
    have c2 : ((((P.info? T).bind (·.zero)).map fun z => z.cells.toList.all af0) == some true) = true := by
      rw [z1]
      have e : z.cells.toList.all af0 = true := by rw [z2]; exact y2
      simp only [Option.map_some, e]; rfl
    have hrun := hT.run z (parts.map fun p => (p.1, evalO t p.2)) cs'.toArray z1 (by
      rw [← f1, Array.toList_map, ← zip_map, List.map_map]; congr 1
      rw [← z2])
    rw [c1, c2, hrun]
    rfl⟩
theorem allC {p : PV} {l : List PV} (h : p.one = true) (r : l.all PV.one = true) : (p :: l).all PV.one = true := by rw [List.all_cons, h, r]; rfl
end Go.Fs
namespace Go.Fs
variable {P : Program} {fl : VL} {σ : Sto} {T T' : TypeId} {x y : Operand} {p q : Int}
end Go.Fs
namespace Go.Fs
variable {P : Program} {orc : FuncId → List Value → Heap → Option (Value × Heap)} {h : Heap} {σ ρ : Sto} {fl : VL} {ops : Array Oper} {n i mem : Nat} {l : List Oper} {K : VL → Sto → Prop} {nw bs : List Nat} {tl : Bool} {hr : Heap} {S0 A : List Nat} {t : Tr} {rd chg : List Nat}
theorem VLt.one {w : Value} {e : TypeId} {τ : Ty} {xs : List τ.den} (hm : (w, Cell.row e τ xs) ∈ σ) (hk : oneCell w = true → VLt P orc ops n l i fl nw σ ρ bs mem tl K) : VLt P orc ops n l i fl nw σ ρ bs mem tl K := fun hr h0 G S0 A t h ms rd chg segs tail ht I L => hk (row_one (I.cells _ hm)) hr h0 G S0 A t h ms rd chg segs tail ht I L
end Go.Fs
namespace Go.Fs
variable {P : Program} {orc : FuncId → List Value → Heap → Option (Value × Heap)} {rnd : Option Nat} {h h' h0 h1 h2 hr : Heap} {S S' S0 B G A : List Nat} {σ σ' σr ρ : Sto} {t t' : Tr} {ms : List Nat} {fl : VL} {ops : Array Oper} {n i mem : Nat} {l : List Oper} {K : VL → Sto → Prop}
  {d : Tmp} {ty : TypeId} {pos : String} {after : Array Edge} {op : Op} {v pv : PV} {g : Option (Nat × Bool)} {x y z : Operand} {T T' e : TypeId} {τ τ' : Ty} {bs nw rd chg : List Nat} {segs : List (Nat × Nat × Nat)} {tail tl : Bool} {w w' : Value}
theorem VLt.cR {b : Nat} {q : Value} (hc : CalmV P fl σ op (.raw q)) (hk : VLt P orc ops n l (i + 1) ((d, .raw q) :: fl) (nwSet true d nw) σ ρ (bs ++ [b]) mem tl K)
    (hb : beforeOf bs ⟨some d, op, ty, pos, after, g⟩ = b := by rfl) (hw : wantV ops fl g = some true := by rfl) (hn : (Nat.blt d n && Nat.ble n 4000) = true := by rfl) :
    VLt P orc ops n (⟨some d, op, ty, pos, after, g⟩ :: l) i fl nw σ ρ bs mem tl K := fun hr h0 G S0 A t h ms rd chg segs tail ht I L => by
  obtain ⟨n1, n2⟩ := fits hn; obtain ⟨u, e1, e2⟩ := hc.2 h (own σ ++ S0) t I.slots.sees I.cells; refine EvL.opr (x' := (⟨t.set depth d u, h, bs ++ [b], segs, mem, tail⟩, rd, chg)) ?_ (hk hr h0 G S0 A _ h ms rd chg segs tail ht (I.set e1 n2) (L.set n2 fun _ => (e1 : u = q))); unfold lateDraw; have hwt : fsWanted ops t ⟨some d, op, ty, pos, after, g⟩ = some true := want_ok I.slots hw; simp only [hwt, hc.1, if_true, e2, Nat.beq_refl, cond_true, put_fits n1, Option.map_some, hb]
end Go.Fs
namespace Go.Proofs
open Go.Fs
set_option maxHeartbeats 1000000
theorem sIssue1_ok {o : ByteArray × ByteArray × ByteArray × (List ByteArray) × (Int × Int)} {p : ByteArray × ByteArray × ByteArray × (List ByteArray) × (Int × Int)} (ho : o.2.2.2.1.length < 1000000) (hp : p.2.2.2.1.length < 1000000) : VF Tryz.prog OA 56 [.v y32 o, .p y32 p] (I ((reasonR (reasonIx o p)).2.2)) := by
  refine VF.enter Tryz.func56 rfl (fun _ _ => rfl) rfl ?_; show VC _ _ _ _ _ [(0, .v y32 o), (1, .p y32 p)] [] _; refine VC.seq (VC.text ?_); refine VO.new (.box) ?_; refine VO.c (.assign rfl) ?_; refine VO.go (VC.seq (VC.text ?_)); refine VO.r (.ld vt32) ?_; refine VO.r (.ld vt32) ?_; refine VO.call rfl rfl (VF.call (sExcl_ok (by first | assumption | omega | simp) (by first | assumption | omega | simp))) ?_; refine VO.c (.fld (.r (.r .o))) (VO.c (.assign rfl) (VO.go ?_)); refine VC.ret ?_; exact VEnd.one rfl evT (pvI (by rfl))
theorem issueE_w {l : List Permit} {ss : List Season} {p : Permit} (h : ¬ clashE l p ≠ 0) : whenE (crowdedE (l ++ [p]) ss p.2.2.2.2) 21 = issueE l ss p := by
  unfold issueE whenE; rw [if_neg h]; cases crowdedE (l ++ [p]) ss p.2.2.2.2 <;> rfl
theorem sIssue_ok {l : List (ByteArray × ByteArray × ByteArray × (List ByteArray) × (Int × Int))} {sn : List ((Int × Int) × Int)} {p : ByteArray × ByteArray × ByteArray × (List ByteArray) × (Int × Int)} (hl : l.length < 5000) (hs : sn.length < 5000) (hk : PermOk l) (hq : p.2.2.2.1.length < 1000000) : VF Tryz.prog OA 28 [.v y26 l, .v y46 sn, .v y32 p] (I (issueE l sn p)) := by
  refine VF.enter Tryz.func28 rfl (fun _ _ => rfl) rfl ?_; show VC _ _ _ _ _ [(0, .v y26 l), (1, .v y46 sn), (2, .v y32 p)] [] _; refine VC.seq (VC.text ?_); refine VO.new (.box) ?_; refine VO.c (.assign rfl) ?_; refine VO.go (VC.seq (VC.text ?_)); refine VO.c (.func) (VO.c (.assign rfl) ?_); refine VO.go (VC.seq (VC.seq (VC.text ?_))); refine VO.c (.move rfl) (VO.c (.move rfl) ?_); refine VO.call rfl rfl (VF.call (sWorstP_ok (F := fun o => (reasonR (reasonIx o p)).2.2) (by omega) (fun o ho => VF.clo (sIssue1_ok (hk o ho) hq)))) ?_; refine VO.c (.assign rfl) ?_; refine VO.go (VC.seq (VC.text ?_)); refine VO.c (.move rfl) (VO.c (.neq) (VO.go ?_)); refine VC.condD rfl (fun c3 => ?_) (fun c3 => ?_)
  · refine VC.seq (VC.text ?_); refine VO.c (.move rfl) (VO.c (.assign rfl) (VO.go ?_)); refine VC.ret ?_; exact VEnd.one rfl evT (pvI (by exact (if_pos (show clashE l p ≠ 0 from c3)).symm))
  refine VC.skip (VC.seq (VC.text ?_)); refine VO.c (.move rfl) ?_; refine VO.r (.len el26) ?_; refine VO.c (.move rfl) ?_; refine VO.r (.len el26) ?_; refine VO.c (.add rfl rfl (by omega)) ?_; refine VO.cell (.makeC (k := l.length) (r := l.length + 1) rfl (congrArg (fun z : Int => some (PV.v (.int .i64) z)) (show (((l.length : Nat) : Int) + (1 : Int)) = ((l.length + 1 : Nat) : Int) by omega)) el26 zt32 (by omega) (by omega)) ?_; intro ww1; refine VO.c (.assign rfl) ?_; refine VO.go (VC.seq (VC.text ?_)); refine VO.c (.move rfl) (VO.c (.move rfl) ?_); refine VO.copyC rfl rfl el26 (by simp) ?_; refine VO.go (VC.seq ?_); refine VC.late [] ⟨[(ww1, .cap 32 (l.length + 1) y32 l)], rfl⟩ ?_; refine VLt.cR (.move rfl) ?_; refine VLt.q rfl (.ld vt32) ?_; refine VLt.new (.lit [p] el26) ?_; refine VLt.mk (MakeV.appC el26 el26 rfl rfl (by simp) (by omega)) (TurnV.appC rfl) ⟨[], rfl⟩ ?_; rintro _ _ ⟨ww2, rfl, rfl⟩; refine ⟨⟨[(ww2, .cap 32 (l.length + 1) y32 (l ++ [p]))], rfl⟩, ?_⟩; refine VLt.c (.move rfl) ?_; refine VLt.c (.fa (.r (.r (.r (.r .o))))) ?_; refine VLt.nws [29, 28] ?_; refine VLt.q rfl (.ld vt29) ?_; refine VLt.callC rfl rfl .same (.cons (.cap m0) (.cons .same (.cons .same .nil))) rfl (VF.call (sCrowded_ok (by simp; omega) (by omega))) ?_; refine VLt.callO rfl rfl (VF.call (sWhen_ok )) ?_; refine VLt.c (.assign rfl) ?_; refine VLt.go ?_; refine VC.ret ?_; exact VEnd.one rfl evT (pvI (by exact issueE_w c3))
theorem sCheckIssue_ok {l : List (ByteArray × ByteArray × ByteArray × (List ByteArray) × (Int × Int))} {sn : List ((Int × Int) × Int)} {p : ByteArray × ByteArray × ByteArray × (List ByteArray) × (Int × Int)} (hl : l.length < 5000) (hs : sn.length < 5000) (hk : PermOk l) (hq : p.2.2.2.1.length < 1000000) : VF Tryz.prog OA 27 [.v y26 l, .v y46 sn, .v y32 p] (I (firstE [permsE l, seasE sn, permE p, whenE (decide ((l.length : Int) = 64)) 5])) := by
  refine VF.enter Tryz.func27 rfl (fun _ _ => rfl) rfl ?_; show VC _ _ _ _ _ [(0, .v y26 l), (1, .v y46 sn), (2, .v y32 p)] [] _; refine VC.seq (VC.text ?_); refine VO.new (.box) ?_; refine VO.c (.assign rfl) ?_; refine VO.go (VC.seq (VC.drawn ?_)); refine VD.c (.move rfl) ?_; refine VD.call rfl rfl (VF.call (sPermits_ok (by first | assumption | omega | simp) (by first | assumption | omega | simp))) ?_; refine VD.c (.move rfl) ?_; refine VD.call rfl rfl (VF.call (sSeas_ok (by first | assumption | omega | simp))) ?_; refine VD.r [] (.ld vt32) (.inl rfl) ?_; refine VD.call rfl rfl (VF.call (sPermit_ok (by first | assumption | omega | simp))) ?_; refine VD.nw [] (VD.c (.move rfl) ?_); refine VD.r [] (.len el26) (.inl rfl) ?_; refine VD.c (.eql) ?_; refine VD.call rfl rfl (VF.call (sWhen_ok )) ?_; refine VD.new (.lit [permsE l, seasE sn, permE p, whenE (decide (((l.length : Nat) : Int) = (64 : Int))) (5 : Int)] el118) ?_; refine VD.callO rfl rfl (VF.call (sFirst_ok (by first | assumption | omega | simp))) ?_; refine VD.c (.assign rfl) (VD.go ?_); refine VC.ret ?_; exact VEnd.one rfl evT (pvI (by rfl))
def sIssueE (l : List Permit) (ss : List Season) (p : Permit) : Int := if firstE [permsE l, seasE ss, permE p, whenE (decide ((l.length : Int) = 64)) 5] ≠ 0 then firstE [permsE l, seasE ss, permE p, whenE (decide ((l.length : Int) = 64)) 5] else issueE l ss p
theorem sIssueT_ok {l : List (ByteArray × ByteArray × ByteArray × (List ByteArray) × (Int × Int))} {sn : List ((Int × Int) × Int)} {p : ByteArray × ByteArray × ByteArray × (List ByteArray) × (Int × Int)} (hl : l.length < 5000) (hs : sn.length < 5000) (hk : PermOk l) (hq : p.2.2.2.1.length < 1000000) : VF Tryz.prog OA 13 [.v y26 l, .v y46 sn, .v y32 p] (I (sIssueE l sn p)) := by
  refine VF.enter Tryz.func13 rfl (fun _ _ => rfl) rfl ?_; show VC _ _ _ _ _ [(0, .v y26 l), (1, .v y46 sn), (2, .v y32 p)] [] _; refine VC.seq (VC.text ?_); refine VO.new (.box) ?_; refine VO.c (.assign rfl) ?_; refine VO.go (VC.seq (VC.seq (VC.text ?_))); refine VO.c (.move rfl) (VO.c (.move rfl) ?_); refine VO.r (.ld vt32) ?_; refine VO.call rfl rfl (VF.call (sCheckIssue_ok (by first | assumption | omega | simp) (by first | assumption | omega | simp) (by first | assumption | omega | simp) (by first | assumption | omega | simp))) ?_; refine VO.c (.assign rfl) ?_; refine VO.go (VC.seq (VC.text ?_)); refine VO.c (.move rfl) (VO.c (.neq) (VO.go ?_)); refine VC.condD rfl (fun c2 => ?_) (fun c2 => ?_)
  · refine VC.seq (VC.text ?_); refine VO.c (.move rfl) (VO.c (.assign rfl) (VO.go ?_)); refine VC.ret ?_; exact VEnd.one rfl evT (pvI (by exact (if_pos c2).symm))
  refine VC.skip (VC.seq (VC.text ?_)); refine VO.c (.move rfl) (VO.c (.move rfl) ?_); refine VO.r (.ld vt32) ?_; refine VO.call rfl rfl (VF.call (sIssue_ok (by first | assumption | omega | simp) (by first | assumption | omega | simp) (by first | assumption | omega | simp) (by first | assumption | omega | simp))) ?_; refine VO.c (.assign rfl) (VO.go ?_); refine VC.ret ?_; exact VEnd.one rfl evT (pvI (by exact (if_neg c2).symm))
end Go.Proofs
namespace Go.Proofs
open Go.Fs
set_option maxHeartbeats 2000000
theorem sCheckAt_ok {l : List (ByteArray × ByteArray × ByteArray × (List ByteArray) × (Int × Int))} {t : Int} (hl : l.length < 5000) (hk : PermOk l) : VF Tryz.prog OA 21 [.v y26 l, I t] (I (firstE [permsE l, rangeE t 0 100000])) := by
  refine VF.enter Tryz.func21 rfl (fun _ _ => rfl) rfl ?_; show VC _ _ _ _ _ [(0, .v y26 l), (1, I t)] [] _; refine VC.seq (VC.text ?_); refine VO.c (.assign rfl) ?_; refine VO.go (VC.seq (VC.text ?_)); refine VO.c (.move rfl) ?_; refine VO.call rfl rfl (VF.call (sPermits_ok (by first | assumption | omega | simp) (by first | assumption | omega | simp))) ?_; refine VO.c (.move rfl) ?_; refine VO.call rfl rfl (VF.call (sWithin_ok )) ?_; refine VO.new (.lit [permsE l, rangeE t (0 : Int) (100000 : Int)] el118) ?_; refine VO.call rfl rfl (VF.call (sFirst_ok (by first | assumption | omega | simp))) ?_; refine VO.c (.assign rfl) (VO.go ?_); refine VC.ret ?_; exact VEnd.one rfl evT (pvI (by rfl))
theorem sOutT_ok {l : List (ByteArray × ByteArray × ByteArray × (List ByteArray) × (Int × Int))} {t : Int} (hl : l.length < 5000) (hk : PermOk l) : VF Tryz.prog OA 8 [.v y26 l, I t] (.tup [.v (.sl .str) (if firstE [permsE l, rangeE t 0 100000] = 0 then outE l t else []), I (firstE [permsE l, rangeE t 0 100000])]) := by
  refine VF.enter Tryz.func8 rfl (fun _ _ => rfl) rfl ?_; show VC _ _ _ _ _ [(0, .v y26 l), (1, I t)] [] _; refine VC.seq (VC.text ?_); refine VO.c (.assign rfl) (VO.c (.assign rfl) ?_); refine VO.go (VC.seq (VC.seq (VC.text ?_))); refine VO.c (.move rfl) (VO.c (.move rfl) ?_); refine VO.call rfl rfl (VF.call (sCheckAt_ok (by first | assumption | omega | simp) (by first | assumption | omega | simp))) ?_; refine VO.c (.assign rfl) ?_; refine VO.go (VC.seq (VC.text ?_)); refine VO.c (.move rfl) (VO.c (.neq) (VO.go ?_)); refine VC.condD rfl (fun c2 => ?_) (fun c2 => ?_)
  · refine VC.seq (VC.text ?_); refine VO.c (.move rfl) (VO.c (.assign rfl) (VO.c (.assign rfl) (VO.go ?_))); refine VC.ret ?_; exact VEnd.two rfl (evC .nil) evT (pvE (by rw [if_neg c2])) (pvI (by rfl))
  refine VC.skip (VC.seq (VC.text ?_)); refine VO.c (.move rfl) (VO.c (.move rfl) ?_); refine VO.call rfl rfl (VF.call (sOut_ok (by first | assumption | omega | simp))) ?_; refine VO.c (.assign rfl) (VO.c (.assign rfl) (VO.go ?_)); refine VC.ret ?_; exact VEnd.two rfl evT evT (pvE (by rw [if_pos (Classical.not_not.1 c2)])) (pvI (by exact (Classical.not_not.1 c2).symm))
end Go.Proofs
namespace Go.Fs
variable {P : Program} {orc : FuncId → List Value → Heap → Option (Value × Heap)} {rnd : Option Nat} {h h' h0 h1 h2 hr : Heap} {S S' S0 B G A : List Nat} {σ σ' σr ρ : Sto} {t t' : Tr} {ms : List Nat} {fl : VL} {ops : Array Oper} {n i mem : Nat} {l : List Oper} {K : VL → Sto → Prop} {Q : Ex → VL → Sto → Prop}
  {d : Tmp} {ty : TypeId} {pos : String} {after : Array Edge} {op : Op} {v pv : PV} {g : Option (Nat × Bool)} {x y z : Operand} {T T' e : TypeId} {τ τ' : Ty} {bs nw rd chg : List Nat} {segs : List (Nat × Nat × Nat)} {w w' : Value} {lt : Option (Value × Nat)}
def SegL (hr h : Heap) (segs : List (Nat × Nat × Nat)) : Prop := ∀ s ∈ segs, hr.next ≤ s.2.1 ∧ s.2.2 ≤ h.next
def LitAt (segs : List (Nat × Nat × Nat)) : Option (Value × Nat) → Prop
  | none => True
  | some (w, j) => ∀ b ∈ blk w, ∀ s ∈ segs, s.1 ≠ j → ¬ (s.2.1 ≤ b ∧ b < s.2.2)
section
variable (P orc)
def VLs (ops : Array Oper) (n : Nat) (l : List Oper) (i : Nat) (fl : VL) (nw : List Nat) (σ ρ : Sto) (bs : List Nat) (mem : Nat) (lt : Option (Value × Nat)) (K : VL → Sto → Prop) : Prop :=
  ∀ (hr h0 : Heap) (G S0 A : List Nat) (t : Tr) (h : Heap) (ms rd chg : List Nat) (segs : List (Nat × Nat × Nat)), SegL hr h segs → LitAt segs lt → Iv h0 G S0 h σ t ms fl → Late hr h S0 A σ ρ t fl nw rd chg →
    EvL P orc hr ops n l i (⟨t, h, bs, segs, mem, false⟩, rd, chg) fun x => apartB x = true ∧ ∃ fl' σ', Iv h0 G S0 x.1.h σ' x.1.t ms fl' ∧ K fl' σ'
end
theorem VLs.of (hx : VLt P orc ops n l i fl nw σ ρ bs mem false K) : VLs P orc ops n l i fl nw σ ρ bs mem lt K := fun hr h0 G S0 A t h ms rd chg segs _ _ I L => hx hr h0 G S0 A t h ms rd chg segs false (fun _ => rfl) I L
theorem VC.lateS {id : Nat} {ops : Array Oper} (ρ : Sto) (hs : ∃ σ1, σ = σ1 ++ ρ) (hx : VLs P orc ops n ops.toList 0 fl [] σ ρ [] 0 none fun fl' σ' => Q .normal fl' σ') (hl : lateB ops = true := by kernel_rfl) : VC P orc rnd (.region id ops true) n fl σ Q := fun h0 G S0 t h ms I => by
  refine EvC.late hl ?_
  have hfix : ∀ b ∈ own ρ, b ∈ own σ := fun b hb => by
    obtain ⟨σ1, rfl⟩ := hs; rw [own_app]; exact List.mem_append_right _ hb
  obtain ⟨m, x, h1, ha, fl', σ', h2, h3⟩ := hx h h0 G S0 (own σ) t h ms [] [] [] (fun _ hm => by cases hm) trivial I
    { ok := I.ok, lt := I.slots.1.slt I.ok I.lc.lt, next := Nat.le_refl _, goes := fun b o hg hb => ⟨hg, hb⟩, slots := fun k pv hk _ => I.slots k pv hk, suf := hs,
      cells := fun c hc => I.cells c (by obtain ⟨σ1, rfl⟩ := hs; exact List.mem_append_right _ hc), fix := hfix, new := fun b hb => .inl hb, rd := fun b hb => (by cases hb), chg := fun k hk => (by cases hk) }
  exact ⟨m, x, h1, ha, rfl, fl', σ', h2, h3⟩
theorem VLs.nws {nw0 : List Nat} (nw1 : List Nat) (hk : VLs P orc ops n l i fl nw1 σ ρ bs mem lt K) (he : nw0 = nw1 := by rfl) : VLs P orc ops n l i fl nw0 σ ρ bs mem lt K := he ▸ hk
theorem VLs.c {b : Nat} (hc : CalmV P fl [] op v) (hk : VLs P orc ops n l (i + 1) ((d, v) :: fl) (nwSet (oldOp nw op || v.flat0) d nw) σ ρ (bs ++ [b]) mem lt K)
    (hb : beforeOf bs ⟨some d, op, ty, pos, after, g⟩ = b := by rfl) (hw : wantV ops fl g = some true := by rfl) (hn : (Nat.blt d n && Nat.ble n 4000) = true := by rfl) :
    VLs P orc ops n (⟨some d, op, ty, pos, after, g⟩ :: l) i fl nw σ ρ bs mem lt K := fun hr h0 G S0 A t h ms rd chg segs hsg hlt I L => by
  obtain ⟨n1, n2⟩ := fits hn; obtain ⟨u, e1, e2⟩ := hc.2 h (own σ ++ S0) t I.slots.sees (fun _ hc => by cases hc); refine EvL.opr (x' := (⟨t.set depth d u, h, bs ++ [b], segs, mem, false⟩, rd, chg)) ?_ (hk hr h0 G S0 A _ h ms rd chg segs hsg hlt (I.set e1 n2) (L.set n2 fun hold => ?_))
  · unfold lateDraw; have hwt : fsWanted ops t ⟨some d, op, ty, pos, after, g⟩ = some true := want_ok I.slots hw; simp only [hwt, hc.1, if_true, e2, Nat.beq_refl, cond_true, put_fits n1, Option.map_some, hb]
  rcases Bool.or_eq_true_iff.1 hold with hold | hold
  · obtain ⟨u', f1, f2⟩ := hc.2 hr (A ++ S0) t (old_op L.slots hold) (fun _ hc => by cases hc)
    have : u' = u := by
      have g1 := e2 none 0 "" #[] none h; rw [f2 none 0 "" #[] none h] at g1; simpa using g1
    rw [← this]; exact f1
  exact (RepPV.flat0 hold e1).2 _ _
theorem VLs.q {b : Nat} {dx : τ.den} (hx : evV fl x = some (.p τ dx)) (hc : ReadV P fl [] (.load T x) v) (hk : VLs P orc ops n l (i + 1) ((d, v) :: fl) (nwSet true d nw) σ ρ (bs ++ [b]) mem lt K)
    (hb : beforeOf bs ⟨some d, .load T x, ty, pos, after, g⟩ = b := by rfl) (hold : oldX nw x = true := by rfl) (hw : wantV ops fl g = some true := by rfl) (hn : (Nat.blt d n && Nat.ble n 4000) = true := by rfl) :
    VLs P orc ops n (⟨some d, .load T x, ty, pos, after, g⟩ :: l) i fl nw σ ρ bs mem lt K := fun hr h0 G S0 A t h ms rd chg segs hsg hlt0 I L => by
  obtain ⟨n1, n2⟩ := fits hn; obtain ⟨b0, o0, e', rs, own', more, h1, h2, h3, h4⟩ := (old_sees L.slots hx hold : RepP hr (A ++ S0) τ (evalO t x) dx)
  obtain ⟨u, e1, e2⟩ := hc.2 hr (A ++ S0) t (fun z hz pv hp => by
    obtain rfl : z = x := by simpa [Op.operands] using hz
    exact old_sees L.slots hp hold) (fun _ hc => by cases hc)
  have hst := e2 hr (fun _ _ hg => hg) none 0 "" #[] none
  have hv : fsLoad P T (.pointer (some ⟨b0, o0, none⟩)) hr = some u := by
    have h5 : (fsLoad P T (evalO t x) hr).map (fun v => (v, hr)) = some (u, hr) := hst; obtain ⟨v', h6, h7⟩ := Option.map_eq_some_iff.1 h5; simp only [Prod.mk.injEq, and_true] at h7; rw [← h1, h6, h7]
  have hlt := L.ok b0 _ h3; refine EvL.opr (late_quiet h1 h3 hlt hv hb (want_ok I.slots hw) n1) (hk hr h0 G S0 A _ h ms _ chg segs hsg hlt0 (I.set (e1.nx L.goes) n2) ((L.set (old := true) n2 fun _ => e1).read ⟨hlt, .inr fun hm => h2 (List.mem_append_left _ hm)⟩))
theorem VLs.lit0 {c : Cell} {b : Nat} (hs : FreshO P fl op c) (hk : ∀ w, VLs P orc ops n l (i + 1) ((d, .raw w) :: fl) (nwSet false d nw) ((w, c) :: σ) ρ (bs ++ [b]) (mem ||| 2 ^ i) (some (w, i)) K)
    (hb : beforeOf bs ⟨some d, op, ty, pos, after, g⟩ = b := by rfl) (hqo : quietOp op = false := by rfl) (hw : wantV ops fl g = some true := by rfl) (hn : (Nat.blt d n && Nat.ble n 4000) = true := by rfl) :
    VLs P orc ops n (⟨some d, op, ty, pos, after, g⟩ :: l) i fl nw σ ρ bs mem lt K := fun hr h0 G S0 A t h ms rd chg segs hsg _ I L => by
  obtain ⟨n1, n2⟩ := fits hn; obtain ⟨mk, o, e0, e1, e2⟩ := hs.2 h _ t I.slots.sees I.ok I.lc.lt; have hm : Made S0 h (h.push o) σ ((mk h.next, c) :: σ) := Made.cons I.lc (Aft.push h o []) (fun b hb => by rw [e0] at hb; simp at hb; subst hb; exact Nat.le_refl _) (by rw [e0]; simp) fun hN => e1 _ hN (by rw [own_cons, e0]; simp); have hwt : fsWanted ops t ⟨some d, op, ty, pos, after, g⟩ = some true := want_ok I.slots hw
  have hf : lateDraw P hr (stepO P) ops n ⟨some d, op, ty, pos, after, g⟩ i (⟨t, h, bs, segs, mem, false⟩, rd, chg) = some (⟨t.set depth d (mk h.next), h.push o, bs ++ [b], (i, h.next, h.next + 1) :: segs, mem ||| 2 ^ i, false⟩, rd, chg) := by
    have hMs : ∀ b' o', look (bif Nat.beq (mem &&& b) mem then h.objs else mask b segs h.objs) b' = some o' → look h.objs b' = some o' := fun b' o' => by
      cases Nat.beq (mem &&& b) mem with
      | true => exact fun h => h
      | false => exact mask_sees segs h.objs
    unfold lateDraw; simp only [hwt, hs.1, Bool.false_eq_true, if_false, quiet_no hqo]; unfold lateMem; simp only [hb, Bool.false_and, cond_false]; rw [e2]; have hlt : Nat.blt (h.next + 1) h.next = false := blt_of_le (Nat.le_succ _); have e1 : ∀ L : List (Nat × AObj), (∀ b' o', look L b' = some o' → look h.objs b' = some o') → newer h.next (h.next + 1) ((h.next, o) :: L) = [(h.next, o)] := fun L hL => newer_push fun b' o' hg => I.ok b' o' (hL b' o' hg); simp only [Heap.push, hlt, cond_false, put_fits n1, ble_refl', cond_true]; rw [e1 _ hMs]; rfl
  have hσ : ∃ σ1, ((mk h.next, c) :: σ : Sto) = σ1 ++ ρ := by
    obtain ⟨σ1, hσ1⟩ := L.suf; exact ⟨(mk h.next, c) :: σ1, by rw [hσ1]; rfl⟩
  have hnx := L.next; refine EvL.opr hf (hk (mk h.next) hr h0 G S0 A _ _ ms rd _ _ (fun s hs => ?_) (fun k hk s hs hne hh => ?_) ((I.made hm).set (show RepPV _ _ (.raw (mk h.next)) (mk h.next) from rfl) n2) ((L.made I hm hσ).set (old := false) n2 fun e => by cases e))
  · rcases List.mem_cons.1 hs with rfl | hs
    · exact ⟨hnx, Nat.le_refl _⟩
    have := hsg s hs; exact ⟨this.1, Nat.le_succ_of_le this.2⟩
  rw [e0] at hk
  obtain rfl : k = h.next := by simpa using hk
  rcases List.mem_cons.1 hs with rfl | hs
  · exact hne rfl
  have := hsg s hs; omega
theorem VLs.app0 {b j : Nat} {dx dy : Tmp} {ys : List τ.den} (hT : ElT P T e τ) (hT' : ElT P T' e τ) (hx : evV fl (.tmp dx) = some (.raw w)) (hy : evV fl (.tmp dy) = some (.v (.sl τ) ys)) (hsz : ys.length ≤ 1000000) (hρ : ∃ σ1, σ = σ1 ++ ρ)
    (hk : ∀ w', VLs P orc ops n l (i + 1) ((d, .raw w') :: fl) (nwSet false d nw) ((w', .row e τ ys) :: σ) ρ (bs ++ [b]) (mem ||| 2 ^ i) none K)
    (hb : beforeOf bs ⟨some d, .call { callee := .builtin .append, args := #[.tmp dx, .tmp dy], argTypes := #[T, T'] }, ty, pos, after, g⟩ = b := by rfl) (hyo : oldX nw (.tmp dy) = true := by rfl) (hj : b.testBit j = true := by rfl) (hw : wantV ops fl g = some true := by rfl) (hn : (Nat.blt d n && Nat.ble n 4000) = true := by rfl) :
    VLs P orc ops n (⟨some d, .call { callee := .builtin .append, args := #[.tmp dx, .tmp dy], argTypes := #[T, T'] }, ty, pos, after, g⟩ :: l) i fl nw ((w, .cel e 0 []) :: σ) ρ bs mem (some (w, j)) K := fun hr h0 G S0 A t h ms rd chg segs hsg hlt I L => by
  obtain ⟨n1, n2⟩ := fits hn; have hnx := L.next
  let H : Heap := { next := h.next, low := h.next, objs := bif Nat.beq (mem &&& b) mem then h.objs else mask b segs h.objs }
  have hsee : ∀ k o, H.get k = some o → h.get k = some o := fun k o => by
    show look (bif Nat.beq (mem &&& b) mem then h.objs else mask b segs h.objs) k = some o → look h.objs k = some o
    cases Nat.beq (mem &&& b) mem with
    | true => exact fun h => h
    | false => exact mask_sees segs h.objs
  have hold : ∀ k, k < hr.next → H.get k = h.get k := fun k hk => by
    show look (bif Nat.beq (mem &&& b) mem then h.objs else mask b segs h.objs) k = look h.objs k
    cases Nat.beq (mem &&& b) mem with
    | true => rfl
    | false => exact mask_keep segs h.objs fun s hs _ hh => by have := hsg s hs; omega
  have hlit : ∀ k ∈ blk w, H.get k = h.get k := fun k hk => by
    show look (bif Nat.beq (mem &&& b) mem then h.objs else mask b segs h.objs) k = look h.objs k
    cases Nat.beq (mem &&& b) mem with
    | true => rfl
    | false => exact mask_keep segs h.objs fun s hs htb hh => hlt k hk s hs (fun e => by rw [e, hj] at htb; cases htb) hh
  have eown : ∀ (w1 : Value) (c : Cell), own [(w1, c)] ++ (own σ ++ S0) = own ((w1, c) :: σ) ++ S0 := fun w1 c => by simp [own, List.append_assoc]
  have hne : Nat.beq dx dy = false := by
    cases hd : Nat.beq dx dy with
    | false => rfl
    | true =>
      obtain rfl := nbeq hd; rw [hx] at hy; cases hy
  have cw : CellR h (own ((w, .cel e 0 []) :: σ) ++ S0) w (.cel e 0 []) := I.cells _ List.mem_cons_self
  have cwH : CellR H (own ((w, .cel e 0 []) :: σ) ++ S0) w (.cel e 0 []) := by
    rcases cw with z | ⟨b0, rs, m, z1, z2, z3, z4, z5, z6⟩
    · exact .inl z
    exact .inr ⟨b0, rs, m, z1, z2, by rw [hlit b0 (by rw [z1]; simp [blk])]; exact z3, z4, z5, z6⟩
  have hap := I.apart; rw [own_cons] at hap; have hap := List.nodup_append.1 hap
  have LH : Lc (own σ ++ S0) H [(w, .cel e 0 [])] t [(dx, .raw w), (dy, .v (.sl τ) ys)] := {
    ok := fun k o hg => I.ok k o (hsee k o hg)
    s0 := fun k hk => I.lc.lt k (by rw [own_cons, List.append_assoc]; exact List.mem_append_right _ hk)
    cells := fun c hc => by
      rw [List.mem_singleton.1 hc, eown]; exact cwH
    sep := fun k hk hm => by
      have hk : k ∈ blk w := by simpa [own] using hk
      rcases List.mem_append.1 hm with hm | hm
      · exact hap.2.2 k hk k hm rfl
      exact I.lc.sep k (by rw [own_cons]; exact List.mem_append_left _ hk) hm
    apart := by simpa [own] using hap.1
    slots := ⟨by rw [eown]; exact I.slots.1.via L.lt fun k o hk hg => by rw [hold k hk]; exact hg, fun k pv hk => by
      simp only [lkV] at hk
      cases hdx : Nat.beq dx k with
      | true =>
        rw [hdx] at hk; simp only [cond_true, Option.some.injEq] at hk; obtain rfl := nbeq hdx; subst hk
        exact (I.slots _ _ hx : t.get dx = w)
      | false =>
        rw [hdx] at hk; simp only [cond_false] at hk
        cases hdy : Nat.beq dy k with
        | true =>
          rw [hdy] at hk; simp only [cond_true, Option.some.injEq] at hk; obtain rfl := nbeq hdy; subst hk; have h5 : RepPV hr (A ++ S0) (.v (.sl τ) ys) (t.get dy) := L.slots dy _ hy (by simpa [oldX] using hyo)
          exact h5.nx fun k o hg hb2 => ⟨by rw [hold k (L.ok k o hg)]; exact (L.goes k o hg hb2).1, by rw [eown]; exact (L.goes k o hg hb2).2⟩
        | false => (rw [hdy] at hk; cases hk)⟩ }
  obtain ⟨u, H', v2, σ2, ⟨w', e0, e1⟩, e2, e3, e4⟩ := (MakeV.app0 (P := P) (σ := []) (x := .tmp dx) (y := .tmp dy) hT hT' (by simp [evV, lkV]) (by simp [evV, lkV, hne]) hsz).2 (own σ ++ S0) H t LH; subst e0 e1; have hst : fsAppend P #[T, T'] (evalO t (.tmp dx)) (evalO t (.tmp dy)) H = some (u, H') := e4 (some d) ty pos after g; have hxw : evalO t (.tmp dx) = w := (I.slots _ _ hx : t.get dx = w)
  have hlow : h.next ≤ H'.low := by
    rw [hxw] at hst; rcases cwH with ⟨z1, _, _⟩ | ⟨b0, rs, m, z1, z2, z3, z4, z5, z6⟩
    · have z1 : w = .slice none 0 0 := z1; rw [z1] at hst; exact append_nil_low (h := H) hT hT' hst
    have z1 : w = .slice (some ⟨b0, 0, none⟩) 0 0 := z1; obtain rfl : rs = [] := z4; obtain rfl : m = false := z6 rfl; rw [z1] at hst; exact append_lit_low (h := H) hT hT' z3 hst
  have hnH : h.next ≤ H'.next := e2.aft.next; have hokH : HOk H' := e2.aft.ok LH.ok
  let h2 : Heap := { next := H'.next, low := h.low, objs := newer h.next H'.next H'.objs ++ h.objs }
  have g1 : ∀ k, k < h.next → h2.get k = h.get k := fun k hk => newer_keep hk
  have g0 : ∀ k, k < h.next → H'.get k = H.get k := fun k hk => by
    rcases e2.aft.chg k hk with h3 | h3
    · exact h3
    exact absurd hlow (by have : H'.low ≤ k := h3; omega)
  have g2 : ∀ k, h.next ≤ k → h2.get k = H'.get k := fun k hk => by
    show look (newer h.next H'.next H'.objs ++ h.objs) k = look H'.objs k; rw [look_append]
    have hno : look h.objs k = none := by
      cases hl2 : look h.objs k with
      | none => rfl
      | some o => exact absurd (I.ok k o hl2) (by omega)
    rw [hno, Option.or_none]
    cases hl2 : look H'.objs k with
    | some o =>
      have : k < H'.next := hokH k o hl2
      rw [newer_in _ _ hk this, hl2]
    | none =>
      cases hl3 : look (newer h.next H'.next H'.objs) k with
      | none => rfl
      | some o => rw [(newer_some _ _ _ hl3).2] at hl2; cases hl2
  have hf : lateDraw P hr (stepO P) ops n ⟨some d, .call { callee := .builtin .append, args := #[.tmp dx, .tmp dy], argTypes := #[T, T'] }, ty, pos, after, g⟩ i (⟨t, h, bs, segs, mem, false⟩, rd, chg) = some (⟨t.set depth d u, h2, bs ++ [b], (i, h.next, H'.next) :: segs, mem ||| 2 ^ i, false⟩, rd, chg) := by
    have hwt : fsWanted ops t ⟨some d, .call { callee := .builtin .append, args := #[.tmp dx, .tmp dy], argTypes := #[T, T'] }, ty, pos, after, g⟩ = some true := want_ok I.slots hw; unfold lateDraw; simp only [hwt, show calm (.call { callee := .builtin .append, args := #[.tmp dx, .tmp dy], argTypes := #[T, T'] }) = false from rfl, Bool.false_eq_true, if_false, quiet_no (show quietOp (.call { callee := .builtin .append, args := #[.tmp dx, .tmp dy], argTypes := #[T, T'] }) = false from rfl)]; unfold lateMem; simp only [hb, Bool.false_and, cond_false]; rw [show stepO P ⟨some d, .call { callee := .builtin .append, args := #[.tmp dx, .tmp dy], argTypes := #[T, T'] }, ty, pos, after, g⟩ (evalO t) { next := h.next, low := h.next, objs := bif Nat.beq (mem &&& b) mem then h.objs else mask b segs h.objs } = some (u, H') from e4 (some d) ty pos after g]; have q1 : Nat.blt H'.next h.next = false := blt_of_le hnH
    have q2 : Nat.ble h.next H'.low = true := by rw [Nat.ble_eq]; exact hlow
    simp only [q1, cond_false, put_fits n1, q2, cond_true]; rfl
  have hnew : ∀ k ∈ blk w', k ∈ blk w ∨ h.next ≤ k := fun k hk => by
    rcases e2.new k (by simpa [own] using hk) with h3 | h3
    · exact .inl (by simpa [own] using h3)
    exact .inr h3
  have hltσ : ∀ k ∈ own σ, k < h.next := fun k hk => I.lc.lt k (by rw [own_cons, List.append_assoc]; exact List.mem_append_right _ (List.mem_append_left _ hk)); have hltw : ∀ k ∈ blk w, k < h.next := fun k hk => I.lc.lt k (by rw [own_cons, List.append_assoc]; exact List.mem_append_left _ hk)
  have m2 : Made S0 h h2 ((w, .cel e 0 []) :: σ) ((w', .row e τ ys) :: σ) := {
    aft := ⟨hnH, fun k hk _ => g1 k hk, fun _ k o hg => by
      rcases Nat.lt_or_ge k h.next with hk | hk
      · exact Nat.lt_of_lt_of_le hk hnH
      rw [g2 k hk] at hg; exact hokH k o hg, fun _ h3 _ _ => h3, fun k hk => .inl (g1 k hk), Nat.le_refl _⟩
    new := fun k hk => by
      rw [own_cons] at hk; rcases List.mem_append.1 hk with hk | hk
      · rcases hnew k hk with h3 | h3
        · exact .inl (by rw [own_cons]; exact List.mem_append_left _ h3)
        exact .inr h3
      exact .inl (by rw [own_cons]; exact List.mem_append_right _ hk)
    apart := by
      rw [own_cons]; refine List.nodup_append.2 ⟨by simpa [own] using e2.apart, hap.2.1, fun k hk k2 hk2 hkk => ?_⟩; subst hkk; rcases hnew k hk with h3 | h3
      · exact hap.2.2 k h3 k hk2 rfl
      have := hltσ k hk2; omega
    cells := fun c hc => by
      rcases List.mem_cons.1 hc with rfl | hc
      · have h3 : CellR H' (own ((w', .row e τ ys) :: σ) ++ S0) w' (.row e τ ys) := by
          have := e2.cells _ List.mem_cons_self; rw [eown] at this; exact this
        refine h3.keep (fun k hk => ?_) (fun k o hg hb2 => ⟨?_, hb2⟩) fun k hk => by rw [own_cons, List.append_assoc]; exact List.mem_append_left _ hk
        · rcases Nat.lt_or_ge k h.next with h4 | h4
          · rcases hnew k hk with h5 | h5
            · rw [g1 k h4, g0 k h4, hlit k h5]
            omega
          exact g2 k h4
        rcases Nat.lt_or_ge k h.next with h4 | h4
        · rw [g1 k h4]; exact hsee k o (by rw [← g0 k h4]; exact hg)
        rw [g2 k h4]; exact hg
      have h3 := I.cells c (List.mem_cons_of_mem _ hc); have hin : ∀ k ∈ blk c.1, k ∈ own σ := fun k hk => List.mem_flatMap.2 ⟨c, hc, hk⟩; refine h3.keep (fun k hk => g1 k (hltσ k (hin k hk))) (fun k o hg hb2 => ⟨by rw [g1 k (I.ok k o hg)]; exact hg, fun hm => ?_⟩) fun k hk => List.mem_append_left _ (by rw [own_cons]; exact List.mem_append_right _ (hin k hk)); rw [own_cons, List.append_assoc] at hm; rcases List.mem_append.1 hm with hm | hm
      · rcases hnew k hm with h5 | h5
        · exact hb2 (by rw [own_cons, List.append_assoc]; exact List.mem_append_left _ h5)
        have := I.ok k o hg; omega
      exact hb2 (by rw [own_cons, List.append_assoc]; exact List.mem_append_right _ hm) }
  have hσ : ∃ σ1, ((w', .row e τ ys) :: σ : Sto) = σ1 ++ ρ := by
    obtain ⟨σ1, rfl⟩ := hρ; exact ⟨_ :: σ1, rfl⟩
  refine EvL.opr hf (hk w' hr h0 G S0 A _ _ ms rd chg _ (fun s hs => ?_) trivial ((I.made m2).set (show RepPV _ _ (.raw w') u from (e3 : u = w')) n2) ((L.made I m2 hσ).set (old := false) n2 fun e => by cases e)); rcases List.mem_cons.1 hs with rfl | hs
  · exact ⟨hnx, Nat.le_refl _⟩
  have := hsg s hs; exact ⟨this.1, Nat.le_trans this.2 hnH⟩
end Go.Fs
namespace Go.Fs
variable {P : Program} {orc : FuncId → List Value → Heap → Option (Value × Heap)} {h h' : Heap} {S S' : List Nat} {σ : Sto}
end Go.Fs
namespace Go.Fs
variable {P : Program} {fl : VL} {σ : Sto} {x y : Operand} {T T' : TypeId} {p q : Int}
end Go.Fs
namespace Go.Proofs
open Go.Fs
set_option maxHeartbeats 2000000
theorem bt32 : BldT Tryz.prog 32 y32 [(0, 1), (1, 1), (2, 1), (3, 1), (4, 2)] := bldT_of zt32 rfl (by kernel_rfl)
theorem ex_end {L : List (Int × Int)} {at_ : Int} {j : Nat} : ∀ (n k : Nat), L.length - k = n → j ≤ k → k ≤ L.length → (∀ e ∈ (L.drop j).take (k - j), e.1 = at_) → ∃ k', j ≤ k' ∧ k' ≤ L.length ∧ (∀ e ∈ (L.drop j).take (k' - j), e.1 = at_) ∧ (¬ (0 : Int) < ((L.drop k').length : Nat) ∨ ¬ ((L.drop k').getD 0 (0, 0)).1 = at_)
  | 0, k, hn, h1, h2, hg => ⟨k, h1, h2, hg, .inl (by rw [List.length_drop, hn]; decide)⟩
  | n + 1, k, hn, h1, h2, hg => by
    by_cases hc : ((L.drop k).getD 0 (0, 0)).1 = at_
    · have hk : k < L.length := by omega
      refine ex_end n (k + 1) (by omega) (by omega) (by omega) fun e he => ?_; rw [Sp.take_more h1 hk] at he; rcases List.mem_append.1 he with h | h
      · exact hg e h
      obtain rfl := List.mem_singleton.1 h; rw [List.getD_eq_getElem?_getD, List.getElem?_drop, Nat.add_zero, List.getElem?_eq_getElem hk] at hc; exact hc
    exact ⟨k, h1, h2, hg, .inr hc⟩
theorem comb_few {a b : List (Int × Int)} {L : List (Int × Int)} {ch : Int → Bool} (E : Sp.EdgesOf a b L) (h0 : ch 0 = false) {n : Nat} (hn : 100001 ≤ n) : ∀ (m j : Nat) {st fr : Int} {o : List (Int × Int)} {v : Nat}, L.length - j = m → j ≤ L.length → Sp.CombI ch L (L.drop j) st fr o v → v ≤ 100001 → o.length ≤ j → (Sp.scanE (fun t => ch (Sp.markE a b t)) n).2.length ≤ L.length := by
  intro m
  induction m using Nat.strongRecOn with
  | _ m ih =>
    intro j st fr o v hm hj I hv ho; rcases Nat.lt_or_ge j L.length with hjl | hjl
    · have hd : 0 < (L.drop j).length := by rw [List.length_drop]; omega
      obtain ⟨k, h1, h2, h3, h4⟩ := ex_end (L := L) (at_ := (L.drop j)[0].1) (j := j) (L.length - j) j rfl (Nat.le_refl _) hj (by simp); obtain ⟨g1, g2, g3, g4, g5, g6⟩ := E.step I h0 hd rfl ⟨h1, h2⟩ h3 h4 rfl; refine ih (L.length - k) (by omega) k rfl h2 g2 (by omega) ?_; split
      · rw [List.length_append]; show o.length + 1 ≤ k; omega
      omega
    rw [← E.last (n := n) I h0 hjl (by omega)]; omega
theorem comb_short {ch : Bool × Bool × Bool × Bool} {a b : List (Int × Int)} (h : badE a b = 0) (h0 : ch.1 = false) : (combE ch a b).length ≤ 2 * a.length + 2 * b.length := by
  rw [combE_of h, ← edges_len]; have E := edges_of h; exact comb_few (ch := sel4 ch) E h0 (n := mT) (Nat.le_of_eq mT_eq.symm) _ 0 rfl (Nat.zero_le _) (Sp.CombI.init (fr := 0) h0 fun e he => (E.bnd e he).1) (by omega) (Nat.le_refl _)
theorem spans_of {l : List (Int × Int)} (h : Sp.Canon 100000 l) (hn : l.length ≤ 2048) : spansE l = 0 := by
  unfold spansE; rw [if_neg (by omega)]; unfold firstR; rw [firstE_zero]; intro x hx; obtain ⟨j, hj, rfl⟩ := List.mem_map.1 hx; rw [List.mem_range'_1] at hj
  have hjl : j < l.length := by omega
  unfold spanAt; rw [firstE_zero]; intro y hy; simp only [List.mem_cons, List.not_mem_nil, or_false] at hy; rcases hy with rfl | rfl
  · rw [spX_eq hjl]; exact spanE_zero.2 (h.1 _ (List.getElem_mem hjl))
  rw [whenE_zero (by decide)]; rcases Nat.eq_zero_or_pos j with h1 | h1
  · subst h1; rfl
  rw [decide_eq_true (show (0 : Int) < (j : Int) by omega), Bool.true_and, decide_eq_false_iff_not, spX_eq hjl, spX_eq (show j - 1 < l.length by omega)]; have := List.pairwise_iff_getElem.1 h.2 (j - 1) j (by omega) hjl (by omega); omega
theorem comb_canon {ch : Bool × Bool × Bool × Bool} {a b : List (Int × Int)} (h : badE a b = 0) : Sp.Canon 100000 (combE ch a b) := by
  rw [combE_of h]; have h1 := (Sp.scan_canon (p := fun t => sel4 ch (Sp.markE a b t)) (n := mT)).1; rw [mT_eq] at h1 ⊢; exact h1
theorem comb_check {ch : Bool × Bool × Bool × Bool} {a b : List (Int × Int)} (h : badE a b = 0) (h0 : ch.1 = false) (hs : a.length + b.length ≤ 1000) : spansE (combE ch a b) = 0 :=
  spans_of (comb_canon h) (by have := comb_short (ch := ch) h h0; omega)
theorem inL_out {l : List (Int × Int)} (h : Sp.Canon 100000 l) {t : Int} (ht : t < 0 ∨ 100000 ≤ t) : Sp.inL l t = false := by
  unfold Sp.inL; rw [List.any_eq_false]; intro s hs; have := h.1 s hs; simp; omega
theorem mark_out {a b : List (Int × Int)} (ha : Sp.Canon 100000 a) (hb : Sp.Canon 100000 b) {t : Int} (ht : t < 0 ∨ 100000 ≤ t) : Sp.markE a b t = 0 := by
  unfold Sp.markE; rw [inL_out ha ht, inL_out hb ht] <;> rfl
theorem comb_has {ch : Bool × Bool × Bool × Bool} {a b : List (Int × Int)} (h : badE a b = 0) (h0 : ch.1 = false) (t : Int) : Sp.inL (combE ch a b) t = sel4 ch (Sp.markE a b t) := by
  have ha := (spans_canon (badE_zero.1 h).1).1; have hb := (spans_canon (badE_zero.1 h).2).1; by_cases ht : t < 0 ∨ 100000 ≤ t
  · rw [inL_out (comb_canon h) ht, mark_out ha hb ht]; exact h0.symm
  have e : mT = 100000 + 1 := mT_eq; rw [combE_of h, e, Bool.eq_iff_iff, Sp.scan_has (by show sel4 ch (Sp.markE a b _) = false; rw [mark_out ha hb (.inr (by omega))]; exact h0) (by omega)]; exact ⟨fun h => h.2, fun h => ⟨by omega, h⟩⟩
theorem has_join {a b : List (Int × Int)} (h : badE a b = 0) (t : Int) : (Sp.inL (combE (false, true, true, true) a b) t != (Sp.inL a t || Sp.inL b t)) = false := by
  rw [comb_has h rfl]; unfold Sp.markE; cases Sp.inL a t <;> cases Sp.inL b t <;> rfl
theorem has_meet {a b : List (Int × Int)} (h : badE a b = 0) (t : Int) : (Sp.inL (combE (false, false, false, true) a b) t != (Sp.inL a t && Sp.inL b t)) = false := by
  rw [comb_has h rfl]; unfold Sp.markE; cases Sp.inL a t <;> cases Sp.inL b t <;> rfl
theorem kPermit_ok {p : ByteArray × ByteArray × ByteArray × (List ByteArray) × (Int × Int)} (hl : p.2.2.2.1.length < 1000000) : VF Tryz.prog OA 7 [.v y31 p] (.v y32 p) := by
  refine VF.enter Tryz.func7 rfl (fun _ _ => rfl) rfl ?_; show VC _ _ _ _ _ [(0, .v y31 p)] [] _; refine VC.seq (VC.text ?_); refine VO.new (.box) ?_; refine VO.cell (.alloc zt32) ?_; intro ww1; refine VO.go (VC.seq ?_); refine VC.lateS [] ⟨[(ww1, .var [St ByteArray.empty, St ByteArray.empty, St ByteArray.empty, .v (.sl .str) [], I (0 : Int), I (0 : Int)])], rfl⟩ ?_; refine VLs.c (.fa (.l .o)) ?_; refine VLs.q rfl (.ld vt9) ?_; refine VLs.c (.fa (.r (.l .o))) ?_; refine VLs.q rfl (.ld vt9) ?_; refine VLs.c (.fa (.r (.r (.l .o)))) ?_; refine VLs.q rfl (.ld vt9) ?_; refine VLs.nws [] ?_; refine VLs.lit0 (.lit0C el27) ?_; intro ww2; refine VLs.c (.fa (.r (.r (.r (.l .o))))) ?_; refine VLs.q rfl (.ld vt27) ?_; refine VLs.app0 el27 el27 rfl rfl (by omega) ⟨[(ww1, .var [St ByteArray.empty, St ByteArray.empty, St ByteArray.empty, .v (.sl .str) [], I (0 : Int), I (0 : Int)])], rfl⟩ ?_; intro ww3; refine VLs.c (.fa (.r (.r (.r (.r .o))))) ?_; refine VLs.q rfl (.ld vt29) ?_; refine VLs.of ?_; refine VLt.one m0 fun ho4 => ?_; refine VLt.c (.buildR (cs := [St p.1, St p.2.1, St p.2.2.1, .raw ww3, I p.2.2.2.2.1, I p.2.2.2.2.2]) bt32 rfl rfl (.cons (.v) rfl rfl (.cons (.v) rfl rfl (.cons (.v) rfl rfl (.cons (.w ho4) rfl rfl (.cons (.v) rfl rfl (.nil rfl))))))) ?_; refine VLt.nws [15, 12, 9] ?_; refine VLt.perm swap1 ⟨[(ww1, .var [St ByteArray.empty, St ByteArray.empty, St ByteArray.empty, .v (.sl .str) [], I (0 : Int), I (0 : Int)]), (ww3, .row 9 .str p.2.2.2.1)], rfl⟩ ?_; refine VLt.mk0 (MakeV.setF (k := 0) vt32 (.aggs rfl (allC rfl (allC rfl (allC rfl (allC (p := .raw ww3) ho4 (allC rfl (allC rfl rfl))))))) (Nat.le_of_ble_eq_true rfl) (.inr ⟨rfl, rfl⟩) rfl rfl) (TurnV.store rfl (.inl rfl)) ⟨[(ww3, .row 9 .str p.2.2.2.1)], rfl⟩ ?_; rintro _ _ ⟨rfl, rfl⟩; refine ⟨⟨[(ww1, .var [St p.1, St p.2.1, St p.2.2.1, .raw ww3, I p.2.2.2.2.1, I p.2.2.2.2.2]), (ww3, .row 9 .str p.2.2.2.1)], rfl⟩, ?_⟩; refine VLt.go ?_; refine VC.ret ?_; exact VEnd.one rfl (.cell (x := (p.1, p.2.1, p.2.2.1, p.2.2.2.1, (p.2.2.2.2.1, p.2.2.2.2.2))) rfl m0 vt32 (.cons .same (.cons .same (.cons .same (.cons (.row m1) (.cons .same (.cons .same .nil))))))) (pvE (by rfl))
noncomputable def joinS (g : ByteArray) (a : List (Int × Int)) (o : Permit) : List (Int × Int) := if o.2.2.1 = g then combE (false, true, true, true) a [o.2.2.2.2] else a
noncomputable def spOf (l : List Permit) (g : ByteArray) (i : Nat) : List (Int × Int) := (l.take i).foldl (joinS g) []
theorem spOf_succ {l : List Permit} {g : ByteArray} {i : Nat} (hi : i < l.length) : spOf l g (i + 1) = joinS g (spOf l g i) l[i] := by
  unfold spOf; rw [List.take_succ_eq_append_getElem hi, List.foldl_append] <;> rfl
theorem spOf_t {l : List Permit} {g : ByteArray} {i : Nat} (hi : i < l.length) (h : l[i].2.2.1 = g) : spOf l g (i + 1) = combE (false, true, true, true) (spOf l g i) [l[i].2.2.2.2] := by
  rw [spOf_succ hi]; exact if_pos h
theorem spOf_f {l : List Permit} {g : ByteArray} {i : Nat} (hi : i < l.length) (h : ¬ l[i].2.2.1 = g) : spOf l g (i + 1) = spOf l g i := by
  rw [spOf_succ hi]; exact if_neg h
theorem one_ok {s : Int × Int} (h : spanE s = 0) : spansE [s] = 0 := by
  have h1 := spanE_zero.1 h; refine spans_of ⟨fun x hx => ?_, List.pairwise_singleton _ _⟩ (by simp); obtain rfl := List.mem_singleton.1 hx; exact h1
theorem bad_one {a : List (Int × Int)} {s : Int × Int} (ha : spansE a = 0) (hs : spanE s = 0) : badE a [s] = 0 := badE_zero.2 ⟨ha, one_ok hs⟩
theorem inL_hasT {s : Int × Int} {t : Int} : Sp.inL [s] t = hasT s t := by
  unfold Sp.inL hasT; simp
theorem spOf_I {l : List Permit} {g : ByteArray} (hv : ∀ o ∈ l, spanE o.2.2.2.2 = 0) : ∀ i, i ≤ l.length → i ≤ 5 → spansE (spOf l g i) = 0 ∧ (spOf l g i).length + 2 ≤ 2 ^ (i + 1) ∧ ∀ t, Sp.inL (spOf l g i) t = (l.take i).any fun o => decide (o.2.2.1 = g) && hasT o.2.2.2.2 t
  | 0, _, _ => ⟨(by show spansE (List.foldl (joinS g) [] (l.take 0)) = 0; rw [List.take_zero, List.foldl_nil]; decide), by unfold spOf; simp, fun t => by unfold spOf Sp.inL; simp⟩
  | i + 1, hi, h5 => by
    obtain ⟨h1, h2, h3⟩ := spOf_I (g := g) hv i (by omega) (by omega)
    have hi' : i < l.length := by omega
    have hs := hv l[i] (List.getElem_mem hi'); have hp : 2 ^ (i + 1) ≤ 2 ^ 5 := Nat.pow_le_pow_right (by decide) (by omega)
    have hp2 : 2 ^ (i + 1 + 1) = 2 * 2 ^ (i + 1) := by rw [Nat.pow_succ]; omega
    by_cases hg : l[i].2.2.1 = g
    · rw [spOf_t hi' hg]; have hb := bad_one h1 hs; have hl := comb_short (ch := (false, true, true, true)) hb rfl; have hl2 : ([l[i].2.2.2.2] : List (Int × Int)).length = 1 := rfl; refine ⟨comb_check hb rfl (by rw [hl2]; omega), by rw [hp2]; rw [hl2] at hl; omega, fun t => ?_⟩; have := has_join hb t; rw [bne_eq_false_iff_eq] at this; rw [this, h3, List.take_succ_eq_append_getElem hi', List.any_append, inL_hasT]; simp [hg]
    rw [spOf_f hi' hg]; refine ⟨h1, by omega, fun t => ?_⟩; rw [h3, List.take_succ_eq_append_getElem hi', List.any_append]; simp [hg]
theorem canon_some {l : List (Int × Int)} (h : Sp.Canon 100000 l) : 0 < l.length ↔ ∃ t, Sp.inL l t = true := by
  constructor
  · intro hl
    match l, hl with
    | s :: r, _ =>
      have := h.1 s List.mem_cons_self; refine ⟨s.1, ?_⟩; unfold Sp.inL; rw [List.any_eq_true]; refine ⟨s, List.mem_cons_self, ?_⟩
      simp; omega
  intro ⟨t, ht⟩
  cases l with
  | nil => simp [Sp.inL] at ht
  | cons s r => simp
theorem meet_some {a b : List (Int × Int)} (h : badE a b = 0) : 0 < (combE (false, false, false, true) a b).length ↔ ∃ t, Sp.inL a t = true ∧ Sp.inL b t = true := by
  rw [canon_some (comb_canon h)]; refine exists_congr fun t => ?_; have := has_meet h t; rw [bne_eq_false_iff_eq] at this; rw [this, Bool.and_eq_true]
theorem out_has {l : List Permit} {t : Int} {g : ByteArray} : hasB (outE l t) g = true ↔ ∃ o ∈ l, o.2.2.1 = g ∧ hasT o.2.2.2.2 t = true := by
  rw [hasB_mem]; unfold outE atE; rw [mem_setE, List.mem_map]; constructor
  · rintro ⟨o, ho, rfl⟩; obtain ⟨h1, h2⟩ := List.mem_filter.1 ho; exact ⟨o, h1, rfl, h2⟩
  rintro ⟨o, ho, rfl, h2⟩; exact ⟨o, List.mem_filter.2 ⟨ho, h2⟩, rfl⟩
theorem here_out {l : List Permit} {g : ByteArray} {t : Int} (hv : ∀ o ∈ l, spanE o.2.2.2.2 = 0) (h5 : l.length ≤ 5) (ht : 0 ≤ t ∧ t < 200) : badE (spOf l g l.length) [(t, t + 1)] = 0 ∧ ((0 < (combE (false, false, false, true) (spOf l g l.length) [(t, t + 1)]).length) ↔ hasB (outE l t) g = true) := by
  obtain ⟨h1, h2, h3⟩ := spOf_I (g := g) hv l.length (Nat.le_refl _) h5; have hb : badE (spOf l g l.length) [(t, t + 1)] = 0 := bad_one h1 (spanE_zero.2 (by constructor <;> simp <;> omega)); refine ⟨hb, ?_⟩; rw [meet_some hb, out_has]; constructor
  · rintro ⟨u, h4, h5⟩; rw [inL_hasT, hasT_iff] at h5
    obtain rfl : u = t := by simp at h5; omega
    rw [h3, List.take_length, List.any_eq_true] at h4; obtain ⟨o, ho, h6⟩ := h4; rw [Bool.and_eq_true, decide_eq_true_eq] at h6; exact ⟨o, ho, h6⟩
  rintro ⟨o, ho, h6⟩; refine ⟨t, ?_, by rw [inL_hasT, hasT_iff]; simp; omega⟩; rw [h3, List.take_length, List.any_eq_true]; exact ⟨o, ho, by rw [Bool.and_eq_true, decide_eq_true_eq]; exact h6⟩
theorem meetB_some {a b : Int × Int} (ha : spanE a = 0) (hb : spanE b = 0) : meetB a b = true ↔ ∃ t, Sp.inL [a] t = true ∧ Sp.inL [b] t = true := by
  have h1 := spanE_zero.1 ha; have h2 := spanE_zero.1 hb; rw [meetB_ok ha hb]; constructor
  · intro h; simp only [Bool.not_eq_true', Bool.or_eq_false_iff, decide_eq_false_iff_not] at h; refine ⟨max a.1 b.1, ?_, ?_⟩ <;> rw [inL_hasT, hasT_iff] <;> omega
  rintro ⟨t, h3, h4⟩; rw [inL_hasT, hasT_iff] at h3 h4; simp only [Bool.not_eq_true', Bool.or_eq_false_iff, decide_eq_false_iff_not]; omega
theorem name_none {k : Nat} : nameR k = ByteArray.empty ↔ 4 ≤ k := by
  rcases k with _ | _ | _ | _ | k
  · exact ⟨fun h => absurd h (by decide), fun h => by omega⟩
  · exact ⟨fun h => absurd h (by decide), fun h => by omega⟩
  · exact ⟨fun h => absurd h (by decide), fun h => by omega⟩
  · exact ⟨fun h => absurd h (by decide), fun h => by omega⟩
  exact ⟨fun _ => by omega, fun _ => rfl⟩
theorem excl_meet {p o : Permit} (hp : spanE p.2.2.2.2 = 0) (ho : spanE o.2.2.2.2 = 0) (hn : ¬ p.1 = o.1) (hr : ¬ nameR (reasonIx p o) = ByteArray.empty) : 0 < (combE (false, false, false, true) [p.2.2.2.2] [o.2.2.2.2]).length := by
  rw [meet_some (badE_zero.2 ⟨one_ok hp, one_ok ho⟩), ← meetB_some hp ho]; rw [name_none] at hr
  cases hm : meetB p.2.2.2.2 o.2.2.2.2 with
  | true => rfl
  | false =>
    refine absurd ?_ hr; unfold reasonIx; rw [decide_eq_false hn, hm]; simp
theorem excl_crew {p o : Permit} (hp : spanE p.2.2.2.2 = 0) (ho : spanE o.2.2.2.2 = 0) (hn : ¬ p.1 = o.1) (hc : p.2.1 = o.2.1) : (¬ nameR (reasonIx p o) = ByteArray.empty) ↔ 0 < (combE (false, false, false, true) [p.2.2.2.2] [o.2.2.2.2]).length := by
  refine ⟨excl_meet hp ho hn, fun h => ?_⟩; rw [meet_some (badE_zero.2 ⟨one_ok hp, one_ok ho⟩), ← meetB_some hp ho] at h; rw [name_none]; unfold reasonIx; rw [decide_eq_false hn, h, decide_eq_true hc]; simp
def nextP (p : Permit) : Permit := (⟨#[110, 101, 120, 116]⟩, p.2.1, p.2.2.1, p.2.2.2.1, p.2.2.2.2.2, p.2.2.2.2.2 + 3)
theorem next_perm {p : Permit} (h : permE p = 0) (h2 : p.2.2.2.2.2 ≤ 200) : permE (nextP p) = 0 := by
  unfold permE at h ⊢; have h := firstE_all.1 h; simp only [List.mem_cons, List.not_mem_nil, or_false] at h; have hs := spanE_zero.1 (h (spanE p.2.2.2.2) (by simp)); rw [firstE_all]; intro x hx; simp only [List.mem_cons, List.not_mem_nil, or_false] at hx; rcases hx with rfl | rfl | rfl | rfl | rfl | rfl
  · show whenE (!nameB ⟨#[110, 101, 120, 116]⟩) 8 = 0; decide
  · exact h _ (.inr (.inl rfl))
  · exact h _ (.inr (.inr (.inl rfl)))
  · exact h _ (.inr (.inr (.inr (.inl rfl))))
  · exact h _ (.inr (.inr (.inr (.inr (.inl rfl)))))
  refine spanE_zero.2 ?_; show 0 ≤ p.2.2.2.2.2 ∧ p.2.2.2.2.2 < p.2.2.2.2.2 + 3 ∧ p.2.2.2.2.2 + 3 ≤ 100000; omega
theorem next_issue {p : Permit} (h : permE p = 0) (h2 : p.2.2.2.2.2 ≤ 200) (hn : ¬ p.1 = ⟨#[110, 101, 120, 116]⟩) : sIssueE [p] [((0, 300), 1)] (nextP p) = 0 := by
  have hsp := spanE_zero.1 (perm_span h); unfold sIssueE; rw [if_neg, issueE]
  · have hm : meetB p.2.2.2.2 (nextP p).2.2.2.2 = false := by
      rw [meetB_ok (perm_span h) (perm_span (next_perm h h2))]; have : p.2.2.2.2.2 ≤ (nextP p).2.2.2.2.1 := Int.le_refl _; rw [decide_eq_true this] <;> rfl
    have hx : reasonIx p (nextP p) = 4 := by
      unfold reasonIx; rw [decide_eq_false (show ¬ p.1 = (nextP p).1 from hn), hm]; simp
    have hc : clashE [p] (nextP p) = 0 := by
      unfold clashE; rw [List.map_cons, hx] <;> rfl
    rw [if_neg (by rw [hc]; simp), if_neg]; rw [crowded_iff]; rintro ⟨t, h3, h4, h5⟩; have h3 : p.2.2.2.2.2 ≤ t := h3; have h4 : t < p.2.2.2.2.2 + 3 := h4; unfold overE at h5; have h5 := of_decide_eq_true h5
    have hat : atE ([p] ++ [nextP p]) t = [nextP p] := by
      unfold atE
      have e1 : hasT p.2.2.2.2 t = false := by
        rw [Bool.eq_false_iff, Ne, hasT_iff]; omega
      have e2 : hasT (nextP p).2.2.2.2 t = true := hasT_iff.2 ⟨h3, h4⟩; simp [List.filter_cons, e1, e2]
    have hpm : permittedE [((0, 300), 1)] t = 1 := by
      unfold permittedE; have : hasT (0, 300) t = true := hasT_iff.2 ⟨by show (0 : Int) ≤ t; omega, by show t < (300 : Int); omega⟩; simp [this]
    unfold outE at h5; rw [hat, hpm] at h5; have := setE_len ([nextP p].map fun p => p.2.2.1); simp only [List.map_cons, List.map_nil, List.length_cons, List.length_nil] at this h5; omega
  rw [Classical.not_not, firstE_all]; intro x hx; simp only [List.mem_cons, List.not_mem_nil, or_false] at hx; rcases hx with rfl | rfl | rfl | rfl
  · unfold permsE; rw [if_neg (by simp)]; show firstE [permE p] = 0; rw [h] <;> rfl
  · decide
  · exact next_perm h h2
  rfl
end Go.Proofs
namespace Go.Fs
open Go.RowKit (Below)
variable {P : Program} {H : Type} {enc : TypeId × Value → H} {w : World} {base : Nat} {sp : Nat → Bool} {held : Bool}
def fsB (P : Program) (ty : TypeId → Ty → Bool) : List Field → Nat → Ty → Bool
  | [f], off, .pair a .unit => Nat.beq f.offset off && Nat.beq (P.cellsOf f.type) a.size && ty f.type a
  | [f], off, τ => Nat.beq f.offset off && Nat.beq (P.cellsOf f.type) τ.size && ty f.type τ
  | f :: fs, off, .pair a b => Nat.beq f.offset off && Nat.beq (P.cellsOf f.type) a.size && ty f.type a && fsB P ty fs (off + a.size) b
  | _, _, _ => false
def arrFs (P : Program) (m : Nat) (e : TypeId) : List Field := (List.range m).map fun i => { name := "", type := e, offset := i * P.cellsOf e, embedded := false, tag := "", pkgPath := "", byteOffset := 0 }
def tyB (P : Program) : Nat → TypeId → Ty → Bool
  | 0, _, _ => false
  | n + 1, t, τ =>
    match P.underlying t, τ with
    | some (.int k), .int k' => decide (k = k')
    | some .bool, .bool => true
    | some .string, .str => true
    | some (.float k), .flt k' => decide (k = k')
    | some (.slice te), .sl e => Nat.beq (P.cellsOf te) e.size && Nat.blt 0 e.size && tyB P n te e
    | some (.struct fs), .pair a b => Nat.beq (P.cellsOf t) (Ty.pair a b).size && fsB P (tyB P n) fs.toList 0 (.pair a b)
    | some (.array m e), .pair a b => Nat.beq (P.cellsOf t) (Ty.pair a b).size && fsB P (tyB P n) (arrFs P m e) 0 (.pair a b)
    | _, _ => false
def Wf : (τ : Ty) → τ.den → Prop
  | .int k, n => (Lit.int k n).wf = true
  | .bool, _ => True
  | .str, s => s.size ≤ maxLen
  | .flt k, n => (Lit.float k n).wf = true
  | .sl e, xs => List.length xs ≤ maxLen ∧ ∀ x ∈ (xs : List e.den), Wf e x
  | .pair a b, x => Wf a x.1 ∧ Wf b x.2
  | .unit, _ => True
  | .mp _ _, _ => True
  | .fn, _ => True
  | .hnd, _ => True
structure Got (P : Program) (w : World) (ρ : Ren) (S : Nat → Prop) (h : Heap) (ρ' : Ren) (S' : Nat → Prop) (h' : Heap) : Prop where
  hr : HR P ρ' S' w.heap.size (wz w) h' w
  agree : ∀ b, S b → S' b ∧ ρ' b = ρ b
  aft : After h h'
theorem Got.refl {ρ : Ren} {S : Nat → Prop} {h : Heap} (hr : HR P ρ S w.heap.size (wz w) h w) : Got P w ρ S h ρ S h := ⟨hr, fun _ hb => ⟨hb, rfl⟩, After.refl h⟩
theorem Got.trans {ρ ρ1 ρ2 : Ren} {S S1 S2 : Nat → Prop} {h h1 h2 : Heap} (a : Got P w ρ S h ρ1 S1 h1) (b : Got P w ρ1 S1 h1 ρ2 S2 h2) : Got P w ρ S h ρ2 S2 h2 :=
  ⟨b.hr, fun i hi => let ⟨h3, h4⟩ := a.agree i hi; let ⟨h5, h6⟩ := b.agree i h3; ⟨h5, h6.trans h4⟩, a.aft.trans b.aft⟩
theorem Got.ok {ρ ρ1 : Ren} {S S1 : Nat → Prop} {h h1 : Heap} (a : Got P w ρ S h ρ1 S1 h1) : HOk h1 := fun b o hg => (a.hr.ids b (a.hr.objs b o hg).1).1
theorem hok_of {ρ : Ren} {S : Nat → Prop} {h : Heap} (hr : HR P ρ S w.heap.size (wz w) h w) : HOk h := fun b o hg => (hr.ids b (hr.objs b o hg).1).1
theorem Got.row {ρ : Ren} {S : Nat → Prop} {h : Heap} (hr : HR P ρ S w.heap.size (wz w) h w) {te : TypeId} {cs : List Value} {a : Addr} (ha : a.block < w.heap.size) (hc : ∀ i, i < cs.length → ∃ v, w.cell? ⟨a.block, a.off + i, none⟩ = some v ∧ VR ρ S (cs.getD i undef) v) :
    Got P w ρ S h (fun b => if b = h.next then (.clean a.block a.off 0 (P.cellsOf te)) else ρ b) (fun b => S b ∨ b = h.next) (h.push (.row te cs false false)) := by
  have hag : ∀ b, S b → (S b ∨ b = h.next) ∧ (fun b => if b = h.next then (Loc.clean a.block a.off 0 (P.cellsOf te)) else ρ b) b = ρ b := fun b hb => by
    have := (hr.ids b hb).1; exact ⟨.inl hb, by simp only; rw [if_neg (by omega)]⟩
  have hold : ∀ i o, (h.push (.row te cs false false)).get i = some o → (i = h.next ∧ o = .row te cs false false) ∨ (i ≠ h.next ∧ h.get i = some o) := fun i o hg => by
    rw [Heap.get_push] at hg; by_cases hi : i = h.next
    · rw [if_pos hi] at hg; exact .inl ⟨hi, (Option.some.inj hg).symm⟩
    rw [if_neg hi] at hg; exact .inr ⟨hi, hg⟩
  refine ⟨⟨fun i o hg => ?_, fun i j oi oj hi hj oi1 oj1 he => ?_, fun i o hg ho => ?_, fun i o hg ho => ?_, fun b hb => ?_, Nat.succ_pos _, z_below (Below.refl _ _), Nat.zero_le _, Nat.le_refl _⟩, hag, After.push h _⟩
  · rcases hold i o hg with ⟨rfl, rfl⟩ | ⟨hi, hg'⟩
    · refine ⟨.inr rfl, ?_⟩; simp only [if_true]; refine ⟨rfl, fun i hi => ?_, fun hx => by cases hx⟩; obtain ⟨v, h1, h2⟩ := hc i hi; exact ⟨v, h1, h2.mono hag⟩
    obtain ⟨h1, h2⟩ := hr.objs i o hg'; refine ⟨.inl h1, ?_⟩; simp only [if_neg hi]; exact h2.mono hag
  · rcases hold i oi hi with ⟨rfl, rfl⟩ | ⟨hi', hgi⟩
    · cases oi1
    rcases hold j oj hj with ⟨rfl, rfl⟩ | ⟨hj', hgj⟩
    · cases oj1
    simp only [if_neg hi', if_neg hj'] at he; exact hr.inj i j oi oj hgi hgj oi1 oj1 he
  · rcases hold i o hg with ⟨rfl, rfl⟩ | ⟨hi, hg'⟩
    · cases ho
    simp only [if_neg hi]; exact hr.base i o hg' ho
  · rcases hold i o hg with ⟨rfl, rfl⟩ | ⟨hi, hg'⟩
    · simp only [if_true]; exact ha
    simp only [if_neg hi]; exact hr.ro i o hg' ho
  have hn : (h.push (.row te cs false false)).next = h.next + 1 := rfl; rw [hn]; rcases hb with hb | rfl
  · have := hr.ids b hb; exact ⟨by omega, this.2⟩
  have := hr.pos; exact ⟨by omega, by omega⟩
theorem trod_float {fuel : Nat} {t : TypeId} {cs : List Value} {x : DataW H × List MemPlace} {k : FloatKind} (ht : P.underlying t = some (.float k)) (h : DataW.trod enc P w base sp held fuel t cs = some x) : ∃ n, cs = [.float k n] ∧ (Lit.float k n).wf = true := by
  cases fuel with
  | zero => simp [DataW.trod] at h
  | succ n =>
    unfold DataW.trod at h; rw [ht] at h; split at h <;> simp_all
theorem mapM_all {α β : Type} (f : α → Option β) : ∀ (l : List α) (r : List β), l.mapM f = some r → l.length = r.length ∧ ∀ i (hi : i < l.length) (hr : i < r.length), f l[i] = some r[i]
  | [], r, h => by
    simp only [List.mapM_nil] at h; obtain rfl := Option.some.inj h
    exact ⟨rfl, fun i hi => absurd hi (by simp)⟩
  | a :: l, r, h => by
    rw [List.mapM_cons] at h
    cases hf : f a with
    | none => rw [hf] at h; cases h
    | some b =>
      rw [hf] at h
      cases hl : l.mapM f with
      | none => rw [hl] at h; cases h
      | some bs =>
        rw [hl] at h; obtain rfl := Option.some.inj h; obtain ⟨h1, h2⟩ := mapM_all f l bs hl; refine ⟨by simp [h1], fun i hi hr => ?_⟩
        cases i with
        | zero => exact hf
        | succ i => exact h2 i (by simpa using hi) (by simpa using hr)
theorem cells_some {a : Addr} {n : Nat} {cs : List Value} (h : w.cells? base a n = some cs) : cs.length = n ∧ ∀ i, i < n → w.cell? (a.add i) = some (cs.getD i undef) := by
  unfold World.cells? at h; split at h
  · obtain ⟨h1, h2⟩ := mapM_all _ _ _ h; rw [List.length_range] at h1; refine ⟨h1.symm, fun i hi => ?_⟩; have := h2 i (by simpa using hi) (by omega); rw [List.getElem_range] at this; rw [this]; simp [List.getD, show i < cs.length by omega]
  cases h
theorem cell_some {a : Addr} {v : Value} (h : w.cell? a = some v) : a.spot = none ∧ a.block < w.heap.size := by
  unfold World.cell? at h; split at h
  · rename_i c _ _ hb; refine ⟨?_, (Array.getElem?_eq_some_iff.1 hb).1⟩
    cases hs : a.spot with
    | none => rfl
    | some s => rw [hs] at h; cases h
  cases h
def Tells (P : Program) (w : World) (τ : Ty) (cs : List Value) : Prop := ∀ (ρ : Ren) (S : Nat → Prop) (h : Heap), HR P ρ S w.heap.size (wz w) h w →
  ∃ ρ' S' h' cs' x, Got P w ρ S h ρ' S' h' ∧ LR ρ' S' cs' cs ∧ RepC h' [] τ cs' x ∧ Wf τ x
theorem LR.one {ρ : Ren} {S : Nat → Prop} {v v' : Value} (h : VR ρ S v v') : LR ρ S [v] [v'] := LR.cons h LR.nil
theorem tells_elems {e : Ty} (a : Addr) (len : Nat) (hcs : ∀ i, i < len → ∃ cs, (∀ j, j < e.size → w.cell? (a.add (i * e.size + j)) = some (cs.getD j undef)) ∧ cs.length = e.size ∧ Tells P w e cs) :
    ∀ (ρ : Ren) (S : Nat → Prop) (h : Heap), HR P ρ S w.heap.size (wz w) h w → ∃ ρ' S' h' rs xs, Got P w ρ S h ρ' S' h' ∧ rs.length = len * e.size ∧ List.length xs = len ∧ (∀ i, i < len * e.size → ∃ v, w.cell? (a.add i) = some v ∧ VR ρ' S' (rs.getD i undef) v) ∧
      Elems h' [] e rs xs ∧ ∀ x ∈ (xs : List e.den), Wf e x := by
  induction len with
  | zero =>
    intro ρ S h hr
    exact ⟨ρ, S, h, [], [], Got.refl hr, by simp, rfl, fun i hi => by omega, Elems.nil, fun x hx => by cases hx⟩
  | succ n ih =>
    intro ρ S h hr; obtain ⟨ρ1, S1, h1, rs, xs, g1, l1, l2, c1, e1, w1⟩ := ih (fun i hi => hcs i (by omega)) ρ S h hr; obtain ⟨cs, k1, k2, k3⟩ := hcs n (by omega); obtain ⟨ρ2, S2, h2, cs', x, g2, lr, rc, wf⟩ := k3 ρ1 S1 h1 g1.hr; have hN : Goes h1 [] h2 [] := g2.aft.nx g1.ok; have hl : cs'.length = e.size := rc.len
    have hel : Elems h2 [] e cs' [x] := by
      refine ⟨by simpa using hl, fun i hi => ?_⟩
      obtain rfl : i = 0 := by simpa using hi
      simp only [Nat.zero_mul, List.drop_zero, List.getElem_cons_zero]; rw [List.take_of_length_le (by omega)]; exact rc
    refine ⟨ρ2, S2, h2, rs ++ cs', xs ++ [x], g1.trans g2, by rw [List.length_append, l1, hl, Nat.add_mul]; omega, by simp [l2], fun i hi => ?_, (e1.nx hN).append hel, fun y hy => ?_⟩
    · rw [Nat.add_mul, Nat.one_mul] at hi; by_cases hin : i < n * e.size
      · obtain ⟨v, hv1, hv2⟩ := c1 i hin; refine ⟨v, hv1, ?_⟩; rw [List.getD_eq_getElem?_getD, List.getElem?_append_left (by omega), ← List.getD_eq_getElem?_getD]; exact hv2.mono g2.agree
      have hj : i - n * e.size < e.size := by omega
      refine ⟨cs.getD (i - n * e.size) undef, ?_, ?_⟩
      · have := k1 (i - n * e.size) hj
        rwa [show n * e.size + (i - n * e.size) = i by omega] at this
      rw [List.getD_eq_getElem?_getD, List.getElem?_append_right (by omega), l1, ← List.getD_eq_getElem?_getD]; exact lr.getD _
    rcases List.mem_append.1 hy with hy | hy
    · exact w1 y hy
    obtain rfl := List.mem_singleton.1 hy; exact wf
theorem Addr.add_spot {a : Addr} (h : a.spot = none) (n : Nat) : a.add n = ⟨a.block, a.off + n, none⟩ := by
  obtain ⟨b, o, s⟩ := a; simp only at h; subst h; unfold Addr.add; by_cases hn : n = 0
  · subst hn; simp
  simp [hn]
theorem tells_fields {n : Nat} (ih : ∀ (t : TypeId) (τ : Ty), tyB P n t τ = true → ∀ (fuel : Nat) (cs : List Value) (x : DataW H × List MemPlace), DataW.trod enc P w base sp held fuel t cs = some x → Tells P w τ cs) :
    ∀ (fs : List Field) (off : Nat) (τ : Ty) (cs : List Value) (m : Nat), fsB P (tyB P n) fs off τ = true → cs.length = off + τ.size → (∀ f ∈ fs, ∃ x, DataW.trod enc P w base sp held m f.type ((cs.drop f.offset).take (P.cellsOf f.type)) = some x) → Tells P w τ (cs.drop off) := by
  have one : ∀ (f : Field) (off : Nat) (τ : Ty) (cs : List Value) (m : Nat), f.offset = off → P.cellsOf f.type = τ.size → tyB P n f.type τ = true → off + τ.size ≤ cs.length → (∃ x, DataW.trod enc P w base sp held m f.type ((cs.drop f.offset).take (P.cellsOf f.type)) = some x) → Tells P w τ ((cs.drop off).take τ.size) := by
    intro f off τ cs m h1 h2 h3 h4 ⟨x, hx⟩; rw [h1, h2] at hx; exact ih f.type τ h3 m _ x hx
  intro fs
  induction fs with
  | nil => intro off τ cs m hb; cases hb
  | cons f fs ihf =>
    intro off τ cs m hb hl hall; have hf := hall f List.mem_cons_self
    cases fs with
    | nil =>
      by_cases hs : ∃ a, τ = .pair a .unit
      · obtain ⟨a, rfl⟩ := hs; have hb' : (Nat.beq f.offset off && Nat.beq (P.cellsOf f.type) a.size && tyB P n f.type a) = true := hb; obtain ⟨hb', h3⟩ := band hb'; obtain ⟨h1, h2⟩ := band hb'
        have hs : (Ty.pair a .unit).size = a.size := by simp [Ty.size]
        rw [hs] at hl; have := one f off a cs m (nbeq h1) (nbeq h2) h3 (by omega) hf; intro ρ S h hr; obtain ⟨ρ', S', h', cs', x, g, lr, rc, wf⟩ := this ρ S h hr; have e1 : (cs.drop off).take a.size = cs.drop off := List.take_of_length_le (by rw [List.length_drop]; omega); rw [e1] at lr; have hcl := rc.len; exact ⟨ρ', S', h', cs', (x, ()), g, lr, ⟨by rw [List.take_of_length_le (by omega)]; exact rc, by rw [List.drop_eq_nil_of_le (by omega)]; rfl⟩, wf, trivial⟩
      have hb' : (Nat.beq f.offset off && Nat.beq (P.cellsOf f.type) τ.size && tyB P n f.type τ) = true := by
        cases τ with
        | pair a b =>
          cases b with
          | unit => exact absurd ⟨a, rfl⟩ hs
          | _ => exact hb
        | _ => exact hb
      obtain ⟨hb', h3⟩ := band hb'; obtain ⟨h1, h2⟩ := band hb'; have := one f off τ cs m (nbeq h1) (nbeq h2) h3 (by omega) hf; have e1 : (cs.drop off).take τ.size = cs.drop off := List.take_of_length_le (by rw [List.length_drop]; omega)
      rwa [e1] at this
    | cons g fs =>
      cases τ with
      | pair a b =>
        have hb' : (Nat.beq f.offset off && Nat.beq (P.cellsOf f.type) a.size && tyB P n f.type a && fsB P (tyB P n) (g :: fs) (off + a.size) b) = true := hb; obtain ⟨hb', h4⟩ := band hb'; obtain ⟨hb', h3⟩ := band hb'; obtain ⟨h1, h2⟩ := band hb'; have hs : (Ty.pair a b).size = a.size + b.size := rfl; rw [hs] at hl; have ha := one f off a cs m (nbeq h1) (nbeq h2) h3 (by omega) hf; have hrest := ihf (off + a.size) b cs m h4 (by omega) (fun g hg => hall g (List.mem_cons_of_mem _ hg)); intro ρ S h hr; obtain ⟨ρ1, S1, h1', cs1, x1, g1, lr1, rc1, wf1⟩ := ha ρ S h hr; obtain ⟨ρ2, S2, h2', cs2, x2, g2, lr2, rc2, wf2⟩ := hrest ρ1 S1 h1' g1.hr; have hN : Goes h1' [] h2' [] := g2.aft.nx g1.ok; have hc1 := rc1.len; refine ⟨ρ2, S2, h2', cs1 ++ cs2, (x1, x2), g1.trans g2, ?_, ⟨?_, ?_⟩, wf1, wf2⟩
        · have := (lr1.mono g2.agree).append lr2
          rwa [show (cs.drop off).take a.size ++ cs.drop (off + a.size) = cs.drop off from by rw [← List.drop_drop, List.take_append_drop]] at this
        · rw [List.take_left' hc1]; exact rc1.nx hN
        rw [List.drop_left' hc1]; exact rc2
      | _ => cases hb
theorem tells : ∀ (n : Nat) (t : TypeId) (τ : Ty), tyB P n t τ = true → ∀ (fuel : Nat) (cs : List Value) (x : DataW H × List MemPlace), DataW.trod enc P w base sp held fuel t cs = some x → Tells P w τ cs := by
  intro n
  induction n with
  | zero => intro t τ h; cases h
  | succ n ih =>
    intro t τ hb fuel cs x hx; unfold tyB at hb; split at hb
    · rename_i k k' hu; obtain rfl : k = k' := of_decide_eq_true hb; obtain ⟨m, rfl, _, hwf⟩ := DataW.trod_int hu hx; exact fun ρ S h hr => ⟨ρ, S, h, _, m, Got.refl hr, LR.one (.lit rfl), rfl, hwf⟩
    · rename_i hu; obtain ⟨b, rfl, _⟩ := DataW.trod_bool hu hx; exact fun ρ S h hr => ⟨ρ, S, h, _, b, Got.refl hr, LR.one (.lit rfl), rfl, trivial⟩
    · rename_i hu; obtain ⟨s, rfl, _, hs⟩ := DataW.trod_string hu hx; exact fun ρ S h hr => ⟨ρ, S, h, _, s, Got.refl hr, LR.one (.lit rfl), rfl, hs⟩
    · rename_i k k' hu; obtain rfl : k = k' := of_decide_eq_true hb; obtain ⟨m, rfl, hwf⟩ := trod_float hu hx; exact fun ρ S h hr => ⟨ρ, S, h, _, m, Got.refl hr, LR.one (.lit rfl), rfl, hwf⟩
    · rename_i te e hu; obtain ⟨hb, h3⟩ := band hb; obtain ⟨h1, h2⟩ := band hb; have hce := nbeq h1; have hpos := nblt h2; rcases DataW.trod_slice hu hx with ⟨rfl, _⟩ | ⟨a, len, cap, elems, rest, m, _, rfl, _, hba, hlc, hcap, hlen, hel, _⟩
      · exact fun ρ S h hr => ⟨ρ, S, h, [.slice none 0 0], [], Got.refl hr, LR.one (.lit rfl), ⟨_, rfl, .inl ⟨rfl, rfl⟩⟩, Nat.zero_le _, fun x hx => by cases hx⟩
      by_cases h0 : len = 0
      · subst h0; exact fun ρ S h hr => ⟨ρ, S, h, [.slice (some ⟨0, 0, none⟩) 0 2], [], Got.refl hr, LR.one (.slice 0 0 0 2 cap a (Nat.zero_le _) (fun h => by cases h) (fun _ => rfl) (fun h => absurd rfl h)), ⟨_, rfl, .inr ⟨0, 0, 2, rfl, .inl rfl⟩⟩, Nat.zero_le _, fun x hx => by cases hx⟩
      have hcs : ∀ i, i < len → ∃ cs, (∀ j, j < e.size → w.cell? (a.add (i * e.size + j)) = some (cs.getD j undef)) ∧ cs.length = e.size ∧ Tells P w e cs := by
        intro i hi; have := hel i hi; rw [List.getElem?_eq_getElem (by omega)] at this; rw [hce] at this
        cases hc : w.cells? base (a.add (i * e.size)) e.size with
        | none => rw [hc] at this; cases this
        | some cs =>
          rw [hc] at this; obtain ⟨k1, k2⟩ := cells_some hc; refine ⟨cs, fun j hj => ?_, k1, ih te e h3 m cs _ this⟩; rw [← k2 j hj]; congr 1; obtain ⟨b, o, s⟩ := a; unfold Addr.add; by_cases hx1 : i * e.size = 0
          · simp [hx1]
          by_cases hx2 : j = 0
          · subst hx2; simp [hx1]
          simp [hx1, hx2, Nat.add_assoc]
      have hfirst : a.spot = none ∧ a.block < w.heap.size := by
        obtain ⟨cs, k1, _⟩ := hcs 0 (by omega); have := k1 0 hpos; rw [Nat.zero_mul, Nat.zero_add] at this; have h4 := cell_some this; simpa [Addr.add] using h4
      intro ρ S h hr; obtain ⟨ρ1, S1, h1', rs, xs, g1, l1, l2, c1, e1, w1⟩ := tells_elems (P := P) a len hcs ρ S h hr
      have hrow := Got.row (te := te) g1.hr (cs := rs) (a := a) hfirst.2 (fun i hi => by
        have := c1 i (by omega)
        rwa [Addr.add_spot hfirst.1] at this)
      have hsl : SlV (h1'.push (.row te rs false false)) [] e (.slice (some ⟨h1'.next, 0, none⟩) (List.length xs) 2) xs := (e1.nx (hrow.aft.nx g1.ok)).slv (by rw [Heap.get_push, if_pos rfl]) (by simp); refine ⟨_, _, _, [.slice (some ⟨h1'.next, 0, none⟩) (List.length xs) 2], xs, g1.trans hrow, ?_, ⟨_, rfl, hsl⟩, by omega, w1⟩; rw [l2]; refine LR.one (.slice h1'.next 0 len 2 cap a hlc (fun h => by cases h) (fun h5 => by have := g1.hr.pos; omega) fun _ => ⟨.inr rfl, ?_, fun h => by cases h⟩); simp only [if_true, Loc.at, Nat.add_zero]; obtain ⟨b, o, s⟩ := a; simp only at hfirst; rw [hfirst.1]
    · rename_i fs a b hu; obtain ⟨h1, h2⟩ := band hb; obtain ⟨xs, m, _, _, hl, hsz, hall⟩ := DataW.trod_struct hu hx
      have hcl : cs.length = (Ty.pair a b).size := by rw [hl, nbeq h1]
      have := tells_fields ih fs.toList 0 (.pair a b) cs m h2 (by omega) (fun f hf => by
        obtain ⟨i, hi, rfl⟩ := List.getElem_of_mem hf
        have hi' : i < fs.size := by simpa using hi
        have := hall i fs[i] (by simp [hi']); rw [List.getElem?_eq_getElem (by omega)] at this
        exact ⟨_, by simpa using this⟩)
      simpa using this
    · rename_i m e a b hu; obtain ⟨h1, h2⟩ := band hb; obtain ⟨xs, m', _, _, hl, hsz, hall⟩ := DataW.trod_array hu hx
      have hcl : cs.length = (Ty.pair a b).size := by rw [hl, nbeq h1]
      have := tells_fields ih (arrFs P m e) 0 (.pair a b) cs m' h2 (by omega) (fun f hf => by
        obtain ⟨i, hi, rfl⟩ := List.mem_map.1 hf; have hi' : i < m := List.mem_range.1 hi; have := hall i hi'; rw [List.getElem?_eq_getElem (by omega)] at this
        exact ⟨_, this⟩)
      simpa using this
    cases hb
theorem okWide_agg {n : Nat} {r : Reach} {b0 : Nat} {t : TypeId} {τ : Ty} {v : Value} (hb : tyB P n t τ = true) (hval : Value.okWide P w r b0 t v) : isAggV v = τ.agg := by
  cases n with
  | zero => cases hb
  | succ n =>
    unfold tyB at hb; unfold Value.okWide at hval; split at hb
    · rename_i k k' hu; rw [hu] at hval; simp only [Cell.okWide, hu, Cell.ok] at hval; cases v <;> simp_all [isAggV, Ty.agg]
    · rename_i hu; rw [hu] at hval; simp only [Cell.okWide, hu, Cell.ok] at hval; cases v <;> simp_all [isAggV, Ty.agg]
    · rename_i hu; rw [hu] at hval; simp only [Cell.okWide, hu, Cell.ok] at hval; cases v <;> simp_all [isAggV, Ty.agg]
    · rename_i k k' hu; rw [hu] at hval; simp only [Cell.okWide, hu, Cell.ok] at hval; cases v <;> simp_all [isAggV, Ty.agg]
    · rename_i te e hu; rw [hu] at hval; simp only [Cell.okWide, hu, Cell.ok] at hval; cases v <;> simp_all [isAggV, Ty.agg]
    · rename_i fs a b hu; rw [hu] at hval; obtain ⟨cs, rfl, _⟩ := hval; rfl
    · rename_i m e a b hu; rw [hu] at hval; obtain ⟨cs, rfl, _⟩ := hval; rfl
    cases hb
theorem tell_arg {ρ : Ren} {S : Nat → Prop} {h : Heap} (hr : HR P ρ S w.heap.size (wz w) h w) {n : Nat} {r : Reach} {b0 : Nat} {t : TypeId} {τ : Ty} {v : Value} {d : DataW H} {ps : List MemPlace} (hb : tyB P n t τ = true) (hval : Value.okWide P w r b0 t v) (hd : DataW.Trod enc P w base sp held t v d ps) :
    ∃ ρ' S' h' v' x, Got P w ρ S h ρ' S' h' ∧ VR ρ' S' v' v ∧ RepV h' [] τ v' x ∧ Wf τ x := by
  have hag := okWide_agg hb hval; obtain ⟨fuel, hf⟩ := hd; obtain ⟨ρ', S', h', cs', x, g, lr, rc, wf⟩ := tells n t τ hb fuel _ _ hf ρ S h hr
  cases hτ : τ.agg with
  | true =>
    rw [hτ] at hag
    cases v with
    | agg cs =>
      refine ⟨ρ', S', h', .agg cs'.toArray, x, g, VR.agg' (by simpa [Value.cells] using lr), ⟨hτ.symm, by simpa [Value.cells] using rc⟩, wf⟩
    | _ => cases hag
  | false =>
    rw [hτ] at hag; rw [cells_one hag] at lr; obtain ⟨u, rfl, hu⟩ := rc.one hτ; have := lr.2 0 (by simp); exact ⟨ρ', S', h', u, x, g, by simpa using this, hu, wf⟩
theorem hr_empty (hw : 0 ≤ w.heap.size) : HR P (fun _ => Loc.clean 0 0 0 0) (fun _ => False) w.heap.size (wz w) ⟨1, 1, []⟩ w where
  objs := fun i o h => by cases h
  inj := fun i j oi oj h => by cases h
  base := fun i o h => by cases h
  ro := fun i o h => by cases h
  ids := fun b hb => hb.elim
  pos := Nat.one_pos
  below := z_below (Below.refl _ _)
  drawn := Nat.zero_le _
  size := Nat.le_refl _
section
open Go.WideElems Go.ChangeShapes
theorem trodAll_below (hl : laidOutB P = true) {W W' : World} (hb : Below W.heap.size W W') : ∀ {ts : List TypeId} {vs : List Value} {ds : List (DataW H)} {ps : List MemPlace}, (ts.all fun t => P.readableRec t && decide (t < P.types.size)) = true →
    DataW.TrodAll enc P W 0 (fun _ => true) true ts vs ds ps → (∀ x ∈ ps, x.block < W.heap.size) → DataW.TrodAll enc P W' 0 (fun b => decide (b < W.heap.size)) true ts vs ds ps
  | [], [], [], _, _, h, _ => h
  | [], _ :: _, _, _, _, h, _ => h.elim
  | [], [], _ :: _, _, _, h, _ => h.elim
  | _ :: _, [], _, _, _, h, _ => h.elim
  | _ :: _, _ :: _, [], _, _, h, _ => h.elim
  | t :: ts, v :: vs, d :: ds, ps, ha, h, hp => by
    obtain ⟨p, q, h1, h2, rfl⟩ := h; simp only [List.all_cons, Bool.and_eq_true, decide_eq_true_eq] at ha; exact ⟨p, q, Go.RowKit.Below.trod hl ha.1.1 ha.1.2 h1 hb (fun x hx => hp x (List.mem_append_left _ hx)), trodAll_below hl hb (by simpa using ha.2) h2 (fun x hx => hp x (List.mem_append_right _ hx)), rfl⟩
theorem law_post {f : Func} {s : ChangeSpec} {tb : TypeId} (hl : laidOutB P = true) (hrd : (f.params.toList.all fun t => P.readableRec t && decide (t < P.types.size)) = true) (hres : f.resultTypes = #[tb]) (htb : P.underlying tb = some .bool) (hvars : s.vars = []) {W W' : World} {args : Array Value} {ds gs : List (DataW H)}
    {before : List MemPlace} (hW : DataW.Whole enc P f.params.toList s.vars false W args.toList ds gs before) (hr : (s.fn H (ds ++ gs)).results = [.lit (.bool true)]) (ha : (s.fn H (ds ++ gs)).args = ds) (hv : (s.fn H (ds ++ gs)).vars = []) (hb : Below W.heap.size W W') :
    s.post enc P f false true false false W args (.bool true) W' := by
  have hlt := hW.lt; have hW' := hW; obtain ⟨p, q, hA, hV, rfl, _, _⟩ := hW; rw [hvars] at hV; have hV' : gs = [] ∧ q = [] := trodVars_none hV; obtain ⟨rfl, rfl⟩ := hV'; refine ⟨ds, [], p ++ [], [], p, [], hW', ?_, ?_, ?_, hb.frame _, fun h => by cases h⟩
  · rw [hr, hres]; exact trodAll_mk1 (Go.RowKit.shut_bool htb _)
  · rw [ha]; exact trodAll_below hl hb hrd hA fun x hx => hlt x (List.mem_append_left _ hx)
  rw [hvars, hv]; exact rfl
end
theorem law_calls2 (hP : ProgOk P) {orc : FuncId → List Value → Heap → Option (Value × Heap)} {W : World} (horc : CallSound P W.heap.size (wz W) orc) {ρz : Ren} {Sz : Nat → Prop} {hz : Heap} (hrz : HR P ρz Sz W.heap.size (wz W) hz W) (hGz : GT hz []) {f : FuncId} (hen : Enters P f) {fn : Func} {n : Nat} {t0 t1 : TypeId} {τ0 τ1 : Ty} (hp : fn.params = #[t0, t1]) (hb0 : tyB P n t0 τ0 = true) (hb1 : tyB P n t1 τ1 = true)
    (hE : ∀ (h : Heap) (v0 v1 : Value) (x0 : τ0.den) (x1 : τ1.den), HOkG h → RepV h [] τ0 v0 x0 → RepV h [] τ1 v1 x1 → Wf τ0 x0 → Wf τ1 x1 → EvF P orc f [v0, v1] h fun r h' => r = .bool true ∧ h' = h)
    {args : Array Value} {ds : List (DataW H)} {ps : List MemPlace} (hval : ∀ (j : Nat) t v, fn.params[j]? = some t → args[j]? = some v → Value.okWide P W .any base t v) (hA : DataW.TrodAll enc P W 0 sp held fn.params.toList args.toList ds ps) :
    Calls P f args W fun | .returned v', w' => v' = .bool true ∧ Below W.heap.size W w' | _, _ => False := by
  rw [hp] at hA hval; obtain ⟨v0, vs0, d0, ds0, p0, q0, ha, rfl, rfl, k0, r0⟩ := Go.ChangeShapes.trodAll_cons hA; obtain ⟨v1, vs1, d1, ds1, p1, q1, rfl, rfl, rfl, k1, r1⟩ := Go.ChangeShapes.trodAll_cons r0; obtain ⟨rfl, rfl, rfl⟩ := Go.ChangeShapes.trodAll_nil r1
  obtain rfl : args = #[v0, v1] := by cases args; simp_all
  obtain ⟨ρ0, S0, h0, u0, x0, g0, c0, e0, w0⟩ := tell_arg hrz hb0 (hval 0 t0 v0 rfl rfl) k0; obtain ⟨ρ1, S1, h1, u1, x1, g1, c1, e1, w1⟩ := tell_arg g0.hr hb1 (hval 1 t1 v1 rfl rfl) k1; have hR := hE h1 u0 u1 x0 x1 ⟨g1.ok, (hGz.nx (g0.aft.nx (hok_of hrz))).nx (g1.aft.nx g0.ok)⟩ (e0.nx (g1.aft.nx g0.ok)) e1 w0 w1; refine (fs_open (args' := [v0, v1]) hP horc hen g1.hr (LR.cons (c0.mono g1.agree) (LR.one c1)) (EvF.mono hR fun v h' h => h.1) rfl).mono fun e w' he => ?_
  cases e with
  | returned v => exact ⟨he.1, below_z he.2⟩
  | panicked c => exact he
  | outgrown => exact he
end Go.Fs
namespace Go.Proofs
open Go.Fs
set_option maxHeartbeats 4000000
theorem bt45 : BldT Tryz.prog 45 y45 [(0, 2), (2, 1)] := bldT_of zt45 rfl (by kernel_rfl)
theorem wf8u {n : Int} (h : (Lit.int .u8 n).wf = true) : 0 ≤ n ∧ n < 256 := by
  have h1 : (decide (IntKind.u8.min ≤ n) && decide (n ≤ IntKind.u8.max)) = true := h; obtain ⟨h2, h3⟩ := band h1; have h4 : (0 : Int) ≤ n := of_decide_eq_true h2; have h5 : n ≤ (255 : Int) := of_decide_eq_true h3; exact ⟨h4, by omega⟩
theorem permsE_all {l : List Permit} (h : permsE l = 0) : ∀ p ∈ l, permE p = 0 := by
  unfold permsE at h; split at h
  · cases h
  intro p hp; exact firstE_all.1 h _ (List.mem_map.2 ⟨p, hp, rfl⟩)
theorem pow_six {i : Nat} (h : i ≤ 5) : 2 ^ (i + 1) ≤ 64 := by
  have : 2 ^ (i + 1) ≤ 2 ^ 6 := Nat.pow_le_pow_right (by decide) (by omega); omega
theorem mod_tick {n : Int} (h : 0 ≤ n) : 0 ≤ n.tmod 200 ∧ n.tmod 200 < 200 := ⟨Int.tmod_nonneg _ h, Int.tmod_lt_of_pos _ (by decide)⟩
theorem out_zero {l : List Permit} {t : Int} (h : permsE l = 0) (ht : 0 ≤ t ∧ t < 200) : firstE [permsE l, rangeE t 0 100000] = 0 := by
  rw [h]
  have : rangeE t 0 100000 = 0 := by unfold rangeE; rw [if_neg (by omega)]
  rw [this] <;> rfl
theorem one_lt {α : Type} {x : α} {n : Nat} (h : 1 < n) : [x].length < n := h
theorem sp_ok {l : List Permit} {g : ByteArray} (hv : ∀ o ∈ l, spanE o.2.2.2.2 = 0) (h5 : l.length ≤ 5) {k : Nat} (hk : k ≤ l.length) : spansE (spOf l g k) = 0 ∧ (spOf l g k).length < 64 := by
  have h := spOf_I (g := g) hv k hk (by omega); have := pow_six (show k ≤ 5 by omega); exact ⟨h.1, by omega⟩
theorem here_no {l : List Permit} {g : ByteArray} {t : Int} {k : Nat} (hv : ∀ o ∈ l, spanE o.2.2.2.2 = 0) (h5 : l.length ≤ 5) (ht : 0 ≤ t ∧ t < 200) (hk : k = l.length)
    (h : badE (spOf l g k) [(t, t + 1)] ≠ 0 ∨ (decide ((0 : Int) < ((combE (false, false, false, true) (spOf l g k) [(t, t + 1)]).length : Nat)) != hasB (outE l t) g) = true) : False := by
  subst hk; have hh := here_out (g := g) hv h5 ht; rcases h with h | h
  · exact h hh.1
  rw [bne_iff_ne] at h; refine h ?_; rw [Bool.eq_iff_iff, decide_eq_true_eq, ← hh.2]; omega
theorem no_meet {p o : Permit} (hp : spanE p.2.2.2.2 = 0) (ho : spanE o.2.2.2.2 = 0) (h : (p.1 ≠ o.1 ∧ nameR (reasonIx p o) ≠ ⟨#[]⟩) ∧ (((combE (false, false, false, true) [p.2.2.2.2] [o.2.2.2.2]).length : Nat) : Int) = 0) : False := by
  have := excl_meet hp ho h.1.1 h.1.2; omega
theorem no_crew {p o : Permit} (hp : spanE p.2.2.2.2 = 0) (ho : spanE o.2.2.2.2 = 0) (h : (p.1 ≠ o.1 ∧ p.2.1 = o.2.1) ∧ (decide (nameR (reasonIx p o) ≠ ByteArray.empty) != decide ((0 : Int) < (((combE (false, false, false, true) [p.2.2.2.2] [o.2.2.2.2]).length : Nat) : Int))) = true) : False := by
  have h1 := excl_crew hp ho h.1.1 h.1.2; have h2 := h.2; rw [bne_iff_ne] at h2; refine h2 (decide_eq_decide.2 (h1.trans ?_)); omega
theorem lawKP_ok {l : List (ByteArray × ByteArray × ByteArray × (List ByteArray) × (Int × Int))} {n : Int} (hn : 0 ≤ n ∧ n < 256) : VF Tryz.prog OA 3 [.v y22 l, .v (.int .u8) n] (B true) := by
  refine VF.enter Tryz.func3 rfl (fun _ _ => rfl) rfl ?_; show VC _ _ _ _ _ [(0, .v y22 l), (1, .v (.int .u8) n)] [] _; refine VC.seq (VC.text ?_); refine VO.c (.assign rfl) ?_; refine VO.go (VC.seq (VC.seq (VC.text ?_))); refine VO.c (.move rfl) ?_; refine VO.r (.len el22) ?_; refine VO.c (.gtr) (VO.c (.move rfl) ?_); refine VO.cg (r := decide ((5 : Int) < ((l.length : Nat) : Int))) (w := false) [] trivial (fun _ => (.move rfl)) ?_; refine VO.callg (r0 := decide ((5 : Int) < ((l.length : Nat) : Int))) (w := false) [(31, .v y22 l)] ⟨rfl, trivial⟩ rfl rfl .same .refl rfl (fun _ => VF.call (rShortP_ok )) ?_; refine VO.cg (r := decide ((5 : Int) < ((l.length : Nat) : Int))) (w := false) [(32, B (shortPs l))] ⟨rfl, trivial⟩ (fun _ => (.not)) ?_; refine VO.c (.or) (VO.c (.move rfl) ?_); refine VO.cg (r := ((decide ((5 : Int) < ((l.length : Nat) : Int))) || (!(shortPs l)))) (w := false) [] trivial (fun _ => (.move rfl)) ?_; refine VO.callg (r0 := ((decide ((5 : Int) < ((l.length : Nat) : Int))) || (!(shortPs l)))) (w := false) [(36, .v y22 l)] ⟨rfl, trivial⟩ rfl rfl .same .refl rfl (fun hgd => have g1_8 : ((decide ((5 : Int) < ((l.length : Nat) : Int))) || (!(shortPs l))) = false := (by simpa using hgd); VF.call (rPermits_ok (by have := (shortPs_ok (l := l) (by have := g1_8; simp at this; exact this.2)).1; omega) (fun p hp => by have := (shortPs_ok (l := l) (by have := g1_8; simp at this; exact this.2)).2 p hp; omega))) ?_; refine VO.cg (r := ((decide ((5 : Int) < ((l.length : Nat) : Int))) || (!(shortPs l)))) (w := false) [(37, I (permsE l))] ⟨rfl, trivial⟩ (fun _ => (.neq)) ?_; refine VO.c (.or) (VO.go ?_); refine VC.condB rfl (fun c1 => ?_) (fun c1 => ?_)
  · try simp only [Bool.and_eq_true, Bool.or_eq_true, Bool.and_eq_false_iff, Bool.or_eq_false_iff, Bool.not_eq_true', Bool.not_eq_false', decide_eq_true_eq, decide_eq_false_iff_not] at c1
    refine VC.seq (VC.text ?_); refine VO.call rfl rfl (VF.call (awake_ok )) ?_; refine VO.c (.assign rfl) (VO.go ?_); refine VC.ret ?_; exact VEnd.one rfl evT (pvE (by first | rfl | simp))
  try simp only [Bool.and_eq_true, Bool.or_eq_true, Bool.and_eq_false_iff, Bool.or_eq_false_iff, Bool.not_eq_true', Bool.not_eq_false', decide_eq_true_eq, decide_eq_false_iff_not] at c1
  have hx := c1
  have h5 : l.length ≤ 5 := by omega
  have hsh := (shortPs_ok (l := l) hx.1.2).2; have hz : permsE l = 0 := Classical.not_not.1 hx.2
  have hk : PermOk l := fun p hp => by have := hsh p hp; omega
  have hpe := permsE_all hz; have hsp : ∀ o ∈ l, spanE o.2.2.2.2 = 0 := fun o ho => perm_span (hpe o ho); have htk := mod_tick hn.1; have hoz := out_zero hz htk; refine VC.skip (VC.seq (VC.text ?_)); refine VO.c (.move rfl) (VO.c (.convI rfl .i64 (by exact wrap64 (by omega) (by omega))) (VO.c (.rem rfl rfl (by omega)) (VO.c (.assign rfl) ?_))); refine VO.go (VC.seq (VC.text ?_)); refine VO.c (.assign rfl) ?_; refine VO.go (VC.seq (VC.seq (VC.text ?_))); refine VO.c (.move rfl) ?_; refine VO.r (.len el22) ?_; refine VO.c (.move rfl) ?_; refine VO.go (VC.block ?_); refine VC.cell0 32 y32 ?_; refine VC.keep [(0, .v y22 l), (5, I (n.tmod (200 : Int))), (6, .raw (.slice none 0 0)), (44, .v y22 l), (45, I ((l.length : Nat) : Int)), (46, I ((0 : Nat) : Int))] ⟨rfl, rfl, rfl, rfl, rfl, rfl, trivial⟩ ?_; refine VC.loop (I := fun kk ff ss => ∃ (i : Nat) (out : Value), kk = l.length - i ∧ ff = [(0, .v y22 l), (5, I (n.tmod (200 : Int))), (6, .raw out), (44, .v y22 l), (45, I ((l.length : Nat) : Int)), (46, I ((i : Nat) : Int))] ∧ ss = [(out, .row 32 y32 (l.take i))] ∧ (i ≤ l.length) ∧ (∀ o ∈ l.take i, o.2.2.2.2.2 ≤ 200)) ?_ _ _ _ ⟨0, (.slice none 0 0), rfl, rfl, rfl, Nat.zero_le _, (by simp)⟩; rintro kk ff ss ⟨i, out, hk0, rfl, rfl, hi, hs⟩; refine VC.seq (VC.text ?_); refine VO.c (.lss) ?_; refine VO.go (VC.seq ?_); refine VC.condD rfl (fun c6 => ?_) (fun c6 => ?_)
  · refine VC.skip (VC.seq (VC.block (VC.seq (VC.text ?_)))); refine VO.c (.ix (j := i) rfl rfl el22 (by omega)) ?_; refine VO.r (.ld vt31) ?_; refine VO.cell (.alloc zt31) ?_; intro ww1; refine VO.setV (cs' := [St ((l[i]).1), St ((l[i]).2.1), St ((l[i]).2.2.1), .v (.sl .str) ((l[i]).2.2.2.1), I (((l[i]).2.2.2.2).1), I (((l[i]).2.2.2.2).2)]) vt31 .v ?_; refine VO.shut [(8, .p y31 (l[i]))] (.cons rfl (.var m0 .refl) .nil) ?_; refine VO.go (VC.seq (VC.seq (VC.text ?_))); refine VO.c (.fa (.r (.r (.r (.r .o))))) (VO.c (.fa (.r .o)) ?_); refine VO.r (.ld vt3) ?_; refine VO.c (.gtr) (VO.go ?_); refine VC.condD rfl (fun c8 => ?_) (fun c8 => ?_)
    · refine VC.seq (VC.text ?_); refine VO.call rfl rfl (VF.call (awake_ok )) ?_; refine VO.c (.assign rfl) (VO.go ?_); refine VC.ret ?_; exact VEnd.one rfl evT (pvE (by first | rfl | simp))
    refine VC.skip (VC.text ?_); refine VO.c (.move rfl) ?_; refine VO.r (.ld vt31) ?_; refine VO.call rfl rfl (VF.call (kPermit_ok (hk _ (List.getElem_mem _)))) ?_; refine VO.new (.lit [(l[i])] el26) ?_; refine VO.app rfl rfl el26 el26 (by simp; omega) ?_; intro ww2; refine VO.c (.assign rfl) ?_; refine VO.nil (VC.text ?_); refine VO.c (.add rfl rfl (by omega)) (VO.c (.move rfl) ?_); refine VO.nil ?_; refine ⟨_, [(0, .v y22 l), (5, I (n.tmod (200 : Int))), (6, .raw ww2), (44, .v y22 l), (45, I ((l.length : Nat) : Int)), (46, I (((i + 1) : Nat) : Int))], ?_, ⟨rfl, rfl, rfl, rfl, rfl, rfl, trivial⟩, (i + 1), ww2, rfl, rfl, (by rw [List.take_succ_eq_append_getElem (by omega)] <;> rfl), (by omega), (by intro o ho; rw [List.take_succ_eq_append_getElem (by omega)] at ho; exact (List.mem_append.1 ho).elim (fun h => hs o h) (fun h => by obtain rfl := List.mem_singleton.1 h; omega))⟩; omega
  refine VC.exit (VC.seq ?_); refine VC.shutL [(out, .row 32 y32 (l.take i))] [(6, .v y26 (l.take i))] rfl (.cons rfl (.row m0) .nil) ?_; refine VC.text ?_; have hie : l.take i = l := List.take_of_length_le (by omega); refine VO.cell (.lit0 el26) ?_; intro ww3; refine VO.c (.move rfl) ?_; refine VO.app rfl rfl el26 el26 (by simp; omega) ?_; intro ww4; refine VO.c (.move rfl) ?_; refine VO.shut [(64, .v y26 (l.take i))] (.cons rfl (.row m0) .nil) ?_; refine VO.call rfl rfl (VF.call (sOutT_ok (by simp; omega) (fun p hp => hk p (List.mem_of_mem_take hp)))) ?_; refine VO.c (.move rfl) (VO.c (.extract) (VO.c (.extract) (VO.c (.assign rfl) ?_))); refine VO.c (.assign rfl) ?_; rw [hie, if_pos hoz, hoz]; refine VO.go (VC.seq (VC.seq (VC.text ?_))); refine VO.c (.move rfl) (VO.c (.neq) (VO.go ?_)); refine VC.condD rfl (fun c13 => ?_) (fun c13 => ?_)
  · exact absurd rfl c13
  refine VC.skip (VC.seq (VC.seq (VC.text ?_))); refine VO.c (.move rfl) ?_; refine VO.r (.len el22) ?_; refine VO.c (.move rfl) ?_; refine VO.go (VC.block ?_); refine VC.keep [(0, .v y22 l), (5, I (n.tmod (200 : Int))), (9, .v (.sl .str) (outE l (n.tmod 200))), (71, .v y22 l), (72, I ((l.length : Nat) : Int)), (73, I ((0 : Nat) : Int))] ⟨rfl, rfl, rfl, rfl, rfl, rfl, trivial⟩ ?_; refine VC.loop (I := fun kk ff ss => ∃ (j : Nat), kk = l.length - j ∧ ff = [(0, .v y22 l), (5, I (n.tmod (200 : Int))), (9, .v (.sl .str) (outE l (n.tmod 200))), (71, .v y22 l), (72, I ((l.length : Nat) : Int)), (73, I ((j : Nat) : Int))] ∧ ss = [] ∧ (j ≤ l.length)) ?_ _ _ _ ⟨0, rfl, rfl, rfl, Nat.zero_le _⟩; rintro kk ff ss ⟨j, hk2, rfl, rfl, hj⟩; refine VC.seq (VC.text ?_); refine VO.c (.lss) ?_; refine VO.go (VC.seq ?_); refine VC.condD rfl (fun c16 => ?_) (fun c16 => ?_)
  · refine VC.skip (VC.seq (VC.block (VC.seq (VC.text ?_)))); refine VO.c (.ix (j := j) rfl rfl el22 (by omega)) ?_; refine VO.r (.ld vt31) ?_; refine VO.cell (.alloc zt31) ?_; intro ww5; refine VO.setV (cs' := [St ((l[j]).1), St ((l[j]).2.1), St ((l[j]).2.2.1), .v (.sl .str) ((l[j]).2.2.2.1), I (((l[j]).2.2.2.2).1), I (((l[j]).2.2.2.2).2)]) vt31 .v ?_; refine VO.shut [(12, .p y31 (l[j]))] (.cons rfl (.var m0 .refl) .nil) ?_; refine VO.go (VC.seq (VC.text ?_)); refine VO.c (.assign rfl) ?_; refine VO.go (VC.seq (VC.seq ?_)); refine VC.nilD 13 y29 rfl ?_; refine VC.text ?_; refine VO.c (.move rfl) ?_; refine VO.r (.len el22) ?_; refine VO.c (.move rfl) ?_; refine VO.go (VC.block ?_); refine VC.keep [(0, .v y22 l), (5, I (n.tmod (200 : Int))), (9, .v (.sl .str) (outE l (n.tmod 200))), (12, .p y31 (l[j])), (13, .v y37 (spOf l l[j].2.2.1 0)), (71, .v y22 l), (72, I ((l.length : Nat) : Int)), (73, I ((j : Nat) : Int)), (77, .v y22 l), (78, I ((l.length : Nat) : Int)), (79, I ((0 : Nat) : Int))] ⟨rfl, rfl, rfl, rfl, rfl, rfl, rfl, rfl, rfl, rfl, rfl, trivial⟩ ?_; refine VC.loop (I := fun kk ff ss => ∃ (k : Nat), kk = l.length - k ∧ ff = [(0, .v y22 l), (5, I (n.tmod (200 : Int))), (9, .v (.sl .str) (outE l (n.tmod 200))), (12, .p y31 (l[j])), (13, .v y37 (spOf l l[j].2.2.1 k)), (71, .v y22 l), (72, I ((l.length : Nat) : Int)), (73, I ((j : Nat) : Int)), (77, .v y22 l), (78, I ((l.length : Nat) : Int)), (79, I ((k : Nat) : Int))] ∧ ss = [] ∧ (k ≤ l.length)) ?_ _ _ _ ⟨0, rfl, rfl, rfl, Nat.zero_le _⟩; rintro kk ff ss ⟨k, hk4, rfl, rfl, hkk⟩; refine VC.seq (VC.text ?_); refine VO.c (.lss) ?_; refine VO.go (VC.seq ?_); refine VC.condD rfl (fun c20 => ?_) (fun c20 => ?_)
    · refine VC.skip (VC.seq (VC.block (VC.seq (VC.text ?_)))); refine VO.c (.ix (j := k) rfl rfl el22 (by omega)) ?_; refine VO.r (.ld vt31) ?_; refine VO.cell (.alloc zt31) ?_; intro ww6; refine VO.setV (cs' := [St ((l[k]).1), St ((l[k]).2.1), St ((l[k]).2.2.1), .v (.sl .str) ((l[k]).2.2.2.1), I (((l[k]).2.2.2.2).1), I (((l[k]).2.2.2.2).2)]) vt31 .v ?_; refine VO.shut [(15, .p y31 (l[k]))] (.cons rfl (.var m0 .refl) .nil) ?_; refine VO.go (VC.seq (VC.text ?_)); refine VO.c (.fa (.r (.r (.l .o)))) ?_; refine VO.r (.ld vt9) ?_; refine VO.c (.fa (.r (.r (.l .o)))) ?_; refine VO.r (.ld vt9) ?_; refine VO.c (.seql) (VO.go ?_); refine VC.condD rfl (fun c22 => ?_) (fun c22 => ?_)
      · have hI := spOf_I (g := l[j].2.2.1) hsp k (by omega) (by omega); have hp6 := pow_six (show k ≤ 5 by omega); have hb := bad_one hI.1 (hsp l[k] (List.getElem_mem _)); refine VC.seq (VC.text ?_); refine VO.c (.move rfl) (VO.c (.fa (.r (.r (.r (.r .o))))) ?_); refine VO.r (.ld vt29) ?_; refine VO.new (.lit [(l[k]).2.2.2.2] el37) ?_; refine VO.call rfl rfl (VF.call (gJoin_ok (by omega) (by simp) (fun _ => by simp; omega))) ?_; refine VO.c (.move rfl) (VO.c (.extract) (VO.c (.extract) (VO.c (.assign rfl) ?_))); refine VO.c (.assign rfl) ?_; refine VO.go (VC.seq (VC.seq (VC.text ?_))); refine VO.c (.move rfl) (VO.c (.neq) (VO.go ?_)); refine VC.condD rfl (fun c24 => ?_) (fun c24 => ?_)
        · exact absurd hb c24
        refine VC.skip (VC.text ?_); refine VO.c (.move rfl) (VO.c (.assign rfl) ?_); refine VO.nil (VC.text ?_); refine VO.c (.add rfl rfl (by omega)) (VO.c (.move rfl) ?_); refine VO.nil ?_; refine ⟨_, [(0, .v y22 l), (5, I (n.tmod (200 : Int))), (9, .v (.sl .str) (outE l (n.tmod 200))), (12, .p y31 (l[j])), (13, .v y37 (spOf l l[j].2.2.1 (k + 1))), (71, .v y22 l), (72, I ((l.length : Nat) : Int)), (73, I ((j : Nat) : Int)), (77, .v y22 l), (78, I ((l.length : Nat) : Int)), (79, I (((k + 1) : Nat) : Int))], ?_, ⟨rfl, rfl, rfl, rfl, slE rfl (by first | exact (spOf_t (by omega) c22).symm | exact (spOf_f (by omega) c22).symm), rfl, rfl, rfl, rfl, rfl, rfl, trivial⟩, (k + 1), rfl, rfl, rfl, (by omega)⟩; omega
      refine VC.skip (VC.text ?_); refine VO.c (.add rfl rfl (by omega)) (VO.c (.move rfl) ?_); refine VO.nil ?_; refine ⟨_, [(0, .v y22 l), (5, I (n.tmod (200 : Int))), (9, .v (.sl .str) (outE l (n.tmod 200))), (12, .p y31 (l[j])), (13, .v y37 (spOf l l[j].2.2.1 (k + 1))), (71, .v y22 l), (72, I ((l.length : Nat) : Int)), (73, I ((j : Nat) : Int)), (77, .v y22 l), (78, I ((l.length : Nat) : Int)), (79, I (((k + 1) : Nat) : Int))], ?_, ⟨rfl, rfl, rfl, rfl, slE rfl (by first | exact (spOf_t (by omega) c22).symm | exact (spOf_f (by omega) c22).symm), rfl, rfl, rfl, rfl, rfl, rfl, trivial⟩, (k + 1), rfl, rfl, rfl, (by omega)⟩; omega
    refine VC.exit (VC.seq (VC.text ?_)); have hI := sp_ok (g := l[j].2.2.1) hsp h5 hkk; refine VO.c (.move rfl) (VO.c (.move rfl) (VO.c (.move rfl) (VO.c (.add rfl rfl (by omega)) ?_))); refine VO.c (.build ((n.tmod (200 : Int)), ((n.tmod (200 : Int)) + (1 : Int))) bt29) ?_; refine VO.new (.lit [((n.tmod (200 : Int)), ((n.tmod (200 : Int)) + (1 : Int)))] el37) ?_; refine VO.call rfl rfl (VF.call (gMeet_ok (by omega) (by simp) (fun _ => by simp; omega))) ?_; refine VO.c (.move rfl) (VO.c (.extract) (VO.c (.extract) (VO.c (.assign rfl) ?_))); refine VO.c (.assign rfl) ?_; refine VO.go (VC.seq (VC.seq (VC.text ?_))); refine VO.c (.move rfl) (VO.c (.neq) (VO.c (.move rfl) ?_)); refine VO.cg (r := decide (badE (spOf l l[j].2.2.1 k) [((n.tmod (200 : Int)), ((n.tmod (200 : Int)) + (1 : Int)))] ≠ (0 : Int))) (w := false) [] trivial (fun _ => (.move rfl)) ?_; refine VO.rg (r := decide (badE (spOf l l[j].2.2.1 k) [((n.tmod (200 : Int)), ((n.tmod (200 : Int)) + (1 : Int)))] ≠ (0 : Int))) (w := false) [(113, .v y37 (combE (false, false, false, true) (spOf l l[j].2.2.1 k) [((n.tmod (200 : Int)), ((n.tmod (200 : Int)) + (1 : Int)))]))] ⟨rfl, trivial⟩ (fun _ => (.len el37)) ?_; refine VO.cg (r := decide (badE (spOf l l[j].2.2.1 k) [((n.tmod (200 : Int)), ((n.tmod (200 : Int)) + (1 : Int)))] ≠ (0 : Int))) (w := false) [(114, I (((combE (false, false, false, true) (spOf l l[j].2.2.1 k) [((n.tmod (200 : Int)), ((n.tmod (200 : Int)) + (1 : Int)))]).length : Nat) : Int))] ⟨rfl, trivial⟩ (fun _ => (.gtr)) ?_; refine VO.cg (r := decide (badE (spOf l l[j].2.2.1 k) [((n.tmod (200 : Int)), ((n.tmod (200 : Int)) + (1 : Int)))] ≠ (0 : Int))) (w := false) [] trivial (fun _ => (.move rfl)) ?_; refine VO.cg (r := decide (badE (spOf l l[j].2.2.1 k) [((n.tmod (200 : Int)), ((n.tmod (200 : Int)) + (1 : Int)))] ≠ (0 : Int))) (w := false) [] trivial (fun _ => (.fa (.r (.r (.l .o))))) ?_; refine VO.rg (r := decide (badE (spOf l l[j].2.2.1 k) [((n.tmod (200 : Int)), ((n.tmod (200 : Int)) + (1 : Int)))] ≠ (0 : Int))) (w := false) [(117, .p .str ((l[j]).2.2.1))] ⟨rfl, trivial⟩ (fun _ => (.ld vt9)) ?_; refine VO.callg (r0 := decide (badE (spOf l l[j].2.2.1 k) [((n.tmod (200 : Int)), ((n.tmod (200 : Int)) + (1 : Int)))] ≠ (0 : Int))) (w := false) [(116, .v (.sl .str) (outE l (n.tmod 200))), (118, St ((l[j]).2.2.1))] ⟨rfl, rfl, trivial⟩ rfl rfl .same .refl rfl (fun hgd => have g29_2 : ¬ (badE (spOf l l[j].2.2.1 k) [((n.tmod (200 : Int)), ((n.tmod (200 : Int)) + (1 : Int)))] ≠ (0 : Int)) := (by simpa using hgd); VF.call (rHas_ok (by have := outE_len (l := l) (t := n.tmod (200 : Int)); omega))) ?_; refine VO.cg (r := decide (badE (spOf l l[j].2.2.1 k) [((n.tmod (200 : Int)), ((n.tmod (200 : Int)) + (1 : Int)))] ≠ (0 : Int))) (w := false) [(115, D ((0 : Int) < (((combE (false, false, false, true) (spOf l l[j].2.2.1 k) [((n.tmod (200 : Int)), ((n.tmod (200 : Int)) + (1 : Int)))]).length : Nat) : Int))), (119, B (hasB (outE l (n.tmod 200)) ((l[j]).2.2.1)))] ⟨rfl, rfl, trivial⟩ (fun _ => (.bneq)) ?_; refine VO.c (.or) (VO.go ?_); refine VC.condB rfl (fun c29 => ?_) (fun c29 => ?_)
    · try simp only [Bool.and_eq_true, Bool.or_eq_true, Bool.and_eq_false_iff, Bool.or_eq_false_iff, Bool.not_eq_true', Bool.not_eq_false', decide_eq_true_eq, decide_eq_false_iff_not] at c29
      exact (here_no hsp h5 htk (by omega) c29).elim
    try simp only [Bool.and_eq_true, Bool.or_eq_true, Bool.and_eq_false_iff, Bool.or_eq_false_iff, Bool.not_eq_true', Bool.not_eq_false', decide_eq_true_eq, decide_eq_false_iff_not] at c29
    refine VC.skip (VC.seq (VC.seq (VC.text ?_))); refine VO.c (.move rfl) ?_; refine VO.r (.len el22) ?_; refine VO.c (.move rfl) ?_; refine VO.go (VC.block ?_); refine VC.keep [(0, .v y22 l), (5, I (n.tmod (200 : Int))), (9, .v (.sl .str) (outE l (n.tmod 200))), (12, .p y31 (l[j])), (71, .v y22 l), (72, I ((l.length : Nat) : Int)), (73, I ((j : Nat) : Int)), (122, .v y22 l), (123, I ((l.length : Nat) : Int)), (124, I ((0 : Nat) : Int))] ⟨rfl, rfl, rfl, rfl, rfl, rfl, rfl, rfl, rfl, rfl, trivial⟩ ?_; refine VC.loop (I := fun kk ff ss => ∃ (m : Nat), kk = l.length - m ∧ ff = [(0, .v y22 l), (5, I (n.tmod (200 : Int))), (9, .v (.sl .str) (outE l (n.tmod 200))), (12, .p y31 (l[j])), (71, .v y22 l), (72, I ((l.length : Nat) : Int)), (73, I ((j : Nat) : Int)), (122, .v y22 l), (123, I ((l.length : Nat) : Int)), (124, I ((m : Nat) : Int))] ∧ ss = [] ∧ (m ≤ l.length)) ?_ _ _ _ ⟨0, rfl, rfl, rfl, Nat.zero_le _⟩; rintro kk ff ss ⟨m, hk6, rfl, rfl, hm⟩; refine VC.seq (VC.text ?_); refine VO.c (.lss) ?_; refine VO.go (VC.seq ?_); refine VC.condD rfl (fun c32 => ?_) (fun c32 => ?_)
    · have hez : firstE [permE l[j], permE l[m]] = 0 := by rw [hpe _ (List.getElem_mem _), hpe _ (List.getElem_mem _)] <;> rfl
      have hbb : badE [l[j].2.2.2.2] [l[m].2.2.2.2] = 0 := bad_one (one_ok (hsp _ (List.getElem_mem _))) (hsp _ (List.getElem_mem _)); refine VC.skip (VC.seq (VC.block (VC.seq (VC.text ?_)))); refine VO.c (.ix (j := m) rfl rfl el22 (by omega)) ?_; refine VO.r (.ld vt31) ?_; refine VO.cell (.alloc zt31) ?_; intro ww7; refine VO.setV (cs' := [St ((l[m]).1), St ((l[m]).2.1), St ((l[m]).2.2.1), .v (.sl .str) ((l[m]).2.2.2.1), I (((l[m]).2.2.2.2).1), I (((l[m]).2.2.2.2).2)]) vt31 .v ?_; refine VO.shut [(21, .p y31 (l[m]))] (.cons rfl (.var m0 .refl) .nil) ?_; refine VO.go (VC.seq (VC.drawn ?_)); refine VD.r [] (.ld vt31) (.inl rfl) ?_; refine VD.call rfl rfl (VF.call (kPermit_ok (hk _ (List.getElem_mem _)))) ?_; refine VD.r [] (.ld vt31) (.inl rfl) ?_; refine VD.call rfl rfl (VF.call (kPermit_ok (hk _ (List.getElem_mem _)))) ?_; refine VD.callO rfl rfl (VF.call (sExclude_ok (hk _ (List.getElem_mem _)) (hk _ (List.getElem_mem _)))) ?_; refine VD.c (.move rfl) (VD.nw [132, 130] (VD.c (.extract) (VD.c (.extract) ?_))); refine VD.c (.assign rfl) (VD.c (.assign rfl) ?_); rw [hez, if_pos rfl]; refine VD.go (VC.seq (VC.text ?_)); refine VO.c (.fa (.r (.r (.r (.r .o))))) ?_; refine VO.r (.ld vt29) ?_; refine VO.new (.lit [(l[j]).2.2.2.2] el37) ?_; refine VO.c (.fa (.r (.r (.r (.r .o))))) ?_; refine VO.r (.ld vt29) ?_; refine VO.new (.lit [(l[m]).2.2.2.2] el37) ?_; refine VO.call rfl rfl (VF.call (gMeet_ok (one_lt (by decide)) (one_lt (by decide)) (fun _ => Nat.le_of_ble_eq_true rfl))) ?_; refine VO.c (.move rfl) (VO.c (.extract) (VO.c (.extract) (VO.c (.assign rfl) ?_))); refine VO.c (.assign rfl) ?_; rw [hbb]; refine VO.go (VC.seq (VC.text ?_)); refine VO.c (.move rfl) (VO.c (.neq) (VO.c (.move rfl) ?_)); refine VO.cg (r := decide (0 ≠ (0 : Int))) (w := false) [] trivial (fun _ => (.move rfl)) ?_; refine VO.cg (r := decide (0 ≠ (0 : Int))) (w := false) [(149, I 0)] ⟨rfl, trivial⟩ (fun _ => (.neq)) ?_; refine VO.c (.or) (VO.c (.move rfl) ?_); refine VO.splitB (x := 152) rfl (fun g36_6 => ?_) (fun g36_6 => ?_)
      · try simp only [Bool.and_eq_true, Bool.or_eq_true, Bool.and_eq_false_iff, Bool.or_eq_false_iff, Bool.not_eq_true', Bool.not_eq_false', decide_eq_true_eq, decide_eq_false_iff_not] at g36_6
        exact absurd g36_6 (by simp)
      try simp only [Bool.and_eq_true, Bool.or_eq_true, Bool.and_eq_false_iff, Bool.or_eq_false_iff, Bool.not_eq_true', Bool.not_eq_false', decide_eq_true_eq, decide_eq_false_iff_not] at g36_6
      refine VO.c (.fa (.l .o)) ?_; refine VO.r (.ld vt9) ?_; refine VO.c (.fa (.l .o)) ?_; refine VO.r (.ld vt9) ?_; refine VO.c (.sneq) (VO.c (.move rfl) ?_); refine VO.cg (r := decide ((l[j]).1 ≠ (l[m]).1)) (w := true) [] trivial (fun _ => (.move rfl)) ?_; refine VO.cg (r := decide ((l[j]).1 ≠ (l[m]).1)) (w := true) [(159, St (nameR (reasonIx l[j] l[m])))] ⟨rfl, trivial⟩ (fun _ => (.sneq)) ?_; refine VO.c (.and) (VO.c (.move rfl) ?_); refine VO.cg (r := ((decide ((l[j]).1 ≠ (l[m]).1)) && (decide (nameR (reasonIx l[j] l[m]) ≠ ByteArray.empty)))) (w := true) [] trivial (fun _ => (.move rfl)) ?_; refine VO.rg (r := ((decide ((l[j]).1 ≠ (l[m]).1)) && (decide (nameR (reasonIx l[j] l[m]) ≠ ByteArray.empty)))) (w := true) [(163, .v y37 (combE (false, false, false, true) [(l[j]).2.2.2.2] [(l[m]).2.2.2.2]))] ⟨rfl, trivial⟩ (fun _ => (.len el37)) ?_; refine VO.cg (r := ((decide ((l[j]).1 ≠ (l[m]).1)) && (decide (nameR (reasonIx l[j] l[m]) ≠ ByteArray.empty)))) (w := true) [(164, I (((combE (false, false, false, true) [(l[j]).2.2.2.2] [(l[m]).2.2.2.2]).length : Nat) : Int))] ⟨rfl, trivial⟩ (fun _ => (.eql)) ?_; refine VO.c (.and) (VO.c (.pickF rfl rfl) (VO.c (.move rfl) ?_)); refine VO.splitB (x := 168) rfl (fun g36_22 => ?_) (fun g36_22 => ?_)
      · try simp only [Bool.and_eq_true, Bool.or_eq_true, Bool.and_eq_false_iff, Bool.or_eq_false_iff, Bool.not_eq_true', Bool.not_eq_false', decide_eq_true_eq, decide_eq_false_iff_not] at g36_22
        exact (no_meet (hsp _ (List.getElem_mem _)) (hsp _ (List.getElem_mem _)) g36_22).elim
      try simp only [Bool.and_eq_true, Bool.or_eq_true, Bool.and_eq_false_iff, Bool.or_eq_false_iff, Bool.not_eq_true', Bool.not_eq_false', decide_eq_true_eq, decide_eq_false_iff_not] at g36_22
      refine VO.c (.fa (.l .o)) ?_; refine VO.r (.ld vt9) ?_; refine VO.c (.fa (.l .o)) ?_; refine VO.r (.ld vt9) ?_; refine VO.c (.sneq) (VO.c (.move rfl) ?_); refine VO.cg (r := decide ((l[j]).1 ≠ (l[m]).1)) (w := true) [] trivial (fun _ => (.fa (.r (.l .o)))) ?_; refine VO.rg (r := decide ((l[j]).1 ≠ (l[m]).1)) (w := true) [(175, .p .str ((l[j]).2.1))] ⟨rfl, trivial⟩ (fun _ => (.ld vt9)) ?_; refine VO.cg (r := decide ((l[j]).1 ≠ (l[m]).1)) (w := true) [] trivial (fun _ => (.fa (.r (.l .o)))) ?_; refine VO.rg (r := decide ((l[j]).1 ≠ (l[m]).1)) (w := true) [(177, .p .str ((l[m]).2.1))] ⟨rfl, trivial⟩ (fun _ => (.ld vt9)) ?_; refine VO.cg (r := decide ((l[j]).1 ≠ (l[m]).1)) (w := true) [(176, St ((l[j]).2.1)), (178, St ((l[m]).2.1))] ⟨rfl, rfl, trivial⟩ (fun _ => (.seql)) ?_; refine VO.c (.and) (VO.c (.move rfl) ?_); refine VO.cg (r := ((decide ((l[j]).1 ≠ (l[m]).1)) && (decide ((l[j]).2.1 = (l[m]).2.1)))) (w := true) [] trivial (fun _ => (.move rfl)) ?_; refine VO.cg (r := ((decide ((l[j]).1 ≠ (l[m]).1)) && (decide ((l[j]).2.1 = (l[m]).2.1)))) (w := true) [(182, St (nameR (reasonIx l[j] l[m])))] ⟨rfl, trivial⟩ (fun _ => (.sneq)) ?_; refine VO.cg (r := ((decide ((l[j]).1 ≠ (l[m]).1)) && (decide ((l[j]).2.1 = (l[m]).2.1)))) (w := true) [] trivial (fun _ => (.move rfl)) ?_; refine VO.rg (r := ((decide ((l[j]).1 ≠ (l[m]).1)) && (decide ((l[j]).2.1 = (l[m]).2.1)))) (w := true) [(184, .v y37 (combE (false, false, false, true) [(l[j]).2.2.2.2] [(l[m]).2.2.2.2]))] ⟨rfl, trivial⟩ (fun _ => (.len el37)) ?_; refine VO.cg (r := ((decide ((l[j]).1 ≠ (l[m]).1)) && (decide ((l[j]).2.1 = (l[m]).2.1)))) (w := true) [(185, I (((combE (false, false, false, true) [(l[j]).2.2.2.2] [(l[m]).2.2.2.2]).length : Nat) : Int))] ⟨rfl, trivial⟩ (fun _ => (.gtr)) ?_; refine VO.cg (r := ((decide ((l[j]).1 ≠ (l[m]).1)) && (decide ((l[j]).2.1 = (l[m]).2.1)))) (w := true) [(183, D (nameR (reasonIx l[j] l[m]) ≠ ByteArray.empty)), (186, D ((0 : Int) < (((combE (false, false, false, true) [(l[j]).2.2.2.2] [(l[m]).2.2.2.2]).length : Nat) : Int)))] ⟨rfl, rfl, trivial⟩ (fun _ => (.bneq)) ?_; refine VO.c (.and) (VO.c (.pickF rfl rfl) (VO.go ?_)); refine VC.condB rfl (fun c36 => ?_) (fun c36 => ?_)
      · try simp only [Bool.and_eq_true, Bool.or_eq_true, Bool.and_eq_false_iff, Bool.or_eq_false_iff, Bool.not_eq_true', Bool.not_eq_false', decide_eq_true_eq, decide_eq_false_iff_not] at c36
        exact (no_crew (hsp _ (List.getElem_mem _)) (hsp _ (List.getElem_mem _)) c36).elim
      try simp only [Bool.and_eq_true, Bool.or_eq_true, Bool.and_eq_false_iff, Bool.or_eq_false_iff, Bool.not_eq_true', Bool.not_eq_false', decide_eq_true_eq, decide_eq_false_iff_not] at c36
      refine VC.skip ?_; refine VC.keep [(0, .v y22 l), (5, I (n.tmod (200 : Int))), (9, .v (.sl .str) (outE l (n.tmod 200))), (12, .p y31 (l[j])), (71, .v y22 l), (72, I ((l.length : Nat) : Int)), (73, I ((j : Nat) : Int)), (122, .v y22 l), (123, I ((l.length : Nat) : Int)), (124, I ((m : Nat) : Int))] ⟨rfl, rfl, rfl, rfl, rfl, rfl, rfl, rfl, rfl, rfl, trivial⟩ ?_; refine VC.text ?_; refine VO.c (.add rfl rfl (by omega)) (VO.c (.move rfl) ?_); refine VO.nil ?_; refine ⟨_, [(0, .v y22 l), (5, I (n.tmod (200 : Int))), (9, .v (.sl .str) (outE l (n.tmod 200))), (12, .p y31 (l[j])), (71, .v y22 l), (72, I ((l.length : Nat) : Int)), (73, I ((j : Nat) : Int)), (122, .v y22 l), (123, I ((l.length : Nat) : Int)), (124, I (((m + 1) : Nat) : Int))], ?_, ⟨rfl, rfl, rfl, rfl, rfl, rfl, rfl, rfl, rfl, rfl, trivial⟩, (m + 1), rfl, rfl, rfl, (by omega)⟩; omega
    refine VC.exit (VC.seq (VC.text ?_)); refine VO.r (.ld vt31) ?_; refine VO.call rfl rfl (VF.call (kPermit_ok (hk _ (List.getElem_mem _)))) ?_; refine VO.cell (.alloc zt32) ?_; intro ww8; refine VO.setV (cs' := [St ((l[j]).1), St ((l[j]).2.1), St ((l[j]).2.2.1), .v (.sl .str) ((l[j]).2.2.2.1), I (((l[j]).2.2.2.2).1), I (((l[j]).2.2.2.2).2)]) vt32 .v ?_; refine VO.go (VC.seq ?_); refine VC.late [] ⟨[(ww8, .var [St ((l[j]).1), St ((l[j]).2.1), St ((l[j]).2.2.1), .v (.sl .str) ((l[j]).2.2.2.1), I (((l[j]).2.2.2.2).1), I (((l[j]).2.2.2.2).2)])], rfl⟩ ?_; refine VLt.c (.fa (.r (.r (.r (.r .o))))) ?_; refine VLt.c (.fa (.r .o)) ?_; refine VLt.q rfl (.ld vt3) ?_; refine VLt.c (.fa (.r (.r (.r (.r .o))))) ?_; refine VLt.c (.fa (.r .o)) ?_; refine VLt.q rfl (.ld vt3) ?_; refine VLt.nws [] ?_; refine VLt.c (.add rfl rfl (by have := hs l[j] (by rw [hie]; exact List.getElem_mem _); have := spanE_zero.1 (hsp l[j] (List.getElem_mem _)); omega)) ?_; refine VLt.c (.build (((l[j]).2.2.2.2).2, (((l[j]).2.2.2.2).2 + (3 : Int))) bt29) ?_; refine VLt.cR (.faO (k := 0) m0) ?_; refine VLt.mk0 (MakeV.setF (k := 0) vt9 .v (Nat.le_of_ble_eq_true rfl) (.inl rfl) rfl rfl) (TurnV.store rfl (.inr ⟨_, rfl⟩)) ⟨[], rfl⟩ ?_; rintro _ _ ⟨rfl, rfl⟩; refine ⟨⟨[(ww8, .var [St (⟨#[110, 101, 120, 116]⟩), St ((l[j]).2.1), St ((l[j]).2.2.1), .v (.sl .str) ((l[j]).2.2.2.1), I (((l[j]).2.2.2.2).1), I (((l[j]).2.2.2.2).2)])], rfl⟩, ?_⟩; refine VLt.cR (.faO (k := 4) m0) ?_; refine VLt.mk0 (MakeV.setF (k := 4) vt29 .v (Nat.le_of_ble_eq_true rfl) (.inl rfl) rfl rfl) (TurnV.store rfl (.inr ⟨_, rfl⟩)) ⟨[], rfl⟩ ?_; rintro _ _ ⟨rfl, rfl⟩; refine ⟨⟨[(ww8, .var [St (⟨#[110, 101, 120, 116]⟩), St ((l[j]).2.1), St ((l[j]).2.2.1), .v (.sl .str) ((l[j]).2.2.2.1), I (((l[j]).2.2.2.2).2), I (((l[j]).2.2.2.2).2 + (3 : Int))])], rfl⟩, ?_⟩; refine VLt.go ?_; refine VC.seq (VC.drawn ?_); refine VD.c (.fa (.l .o)) ?_; refine VD.r [] (.ld vt9) (.inl rfl) ?_; refine VD.c (.sneq) (VD.c (.move rfl) ?_); refine VD.splitD (x := 206) rfl (fun g41_3 => ?_) (fun g41_3 => ?_)
    · refine VD.r [] (.ld vt31) (.inl rfl) ?_; refine VD.nw [] ?_; refine VD.call rfl rfl (VF.call (kPermit_ok (hk _ (List.getElem_mem _)))) ?_; refine VD.new (.lit [(l[j])] el26) ?_; refine VD.c (.build ((0 : Int), (300 : Int)) bt29) (VD.c (.build (((0 : Int), (300 : Int)), (1 : Int)) bt45) ?_); refine VD.new (.lit [(((0 : Int), (300 : Int)), (1 : Int))] el46) ?_; refine VD.r [(ww8, .var [St (⟨#[110, 101, 120, 116]⟩), St ((l[j]).2.1), St ((l[j]).2.2.1), .v (.sl .str) ((l[j]).2.2.2.1), I (((l[j]).2.2.2.2).2), I (((l[j]).2.2.2.2).2 + (3 : Int))])] (.ldA (dx := (⟨#[110, 101, 120, 116]⟩, (l[j]).2.1, (l[j]).2.2.1, (l[j]).2.2.2.1, (((l[j]).2.2.2.2).2, (((l[j]).2.2.2.2).2 + (3 : Int))))) m0 vt32) (.inr ⟨rfl, rfl⟩) ?_; refine VD.callO rfl rfl (VF.call (sIssueT_ok (by simp) (by simp) (fun p hp => by obtain rfl := List.mem_singleton.1 hp; exact hk _ (List.getElem_mem _)) (show l[j].2.2.2.1.length < 1000000 from hk _ (List.getElem_mem _)))) ?_; refine VD.nw [212, 209, 208] (VD.c (.neq) (VD.c (.pickT rfl rfl) (VD.go ?_))); refine VC.condD rfl (fun c41 => ?_) (fun c41 => ?_)
      · exact absurd (next_issue (hpe l[j] (List.getElem_mem _)) (hs l[j] (by rw [hie]; exact List.getElem_mem _)) g41_3) c41
      refine VC.skip (VC.text ?_); refine VO.c (.add rfl rfl (by omega)) (VO.c (.move rfl) ?_); refine VO.forget ?_; refine VO.nil ?_; refine ⟨_, [(0, .v y22 l), (5, I (n.tmod (200 : Int))), (9, .v (.sl .str) (outE l (n.tmod 200))), (71, .v y22 l), (72, I ((l.length : Nat) : Int)), (73, I (((j + 1) : Nat) : Int))], ?_, ⟨rfl, rfl, rfl, rfl, rfl, rfl, trivial⟩, (j + 1), rfl, rfl, rfl, (by omega)⟩; omega
    refine VD.skip (VD.nw [] (VD.skip (VD.skip ?_))); refine VD.skip (VD.skip (VD.skip (VD.skip ?_))); refine VD.skip (VD.nw [] (VD.skip (VD.c (.pickF rfl rfl) ?_))); refine VD.go ?_; refine VC.condF rfl ?_; refine VC.skip (VC.text ?_); refine VO.c (.add rfl rfl (by omega)) (VO.c (.move rfl) ?_); refine VO.forget ?_; refine VO.nil ?_; refine ⟨_, [(0, .v y22 l), (5, I (n.tmod (200 : Int))), (9, .v (.sl .str) (outE l (n.tmod 200))), (71, .v y22 l), (72, I ((l.length : Nat) : Int)), (73, I (((j + 1) : Nat) : Int))], ?_, ⟨rfl, rfl, rfl, rfl, rfl, rfl, trivial⟩, (j + 1), rfl, rfl, rfl, (by omega)⟩; omega
  refine VC.exit (VC.seq (VC.text ?_)); refine VO.call rfl rfl (VF.call (awake_ok )) ?_; refine VO.c (.assign rfl) (VO.go ?_); refine VC.ret ?_; exact VEnd.one rfl evT (pvE (by first | rfl | simp))
end Go.Proofs
namespace Go.Fs
open Go.RowKit (Below)
variable {P : Program}
end Go.Fs
namespace Go.Fs
open Go.RowKit (Below)
variable {P : Program} {ops : Array Oper} {n : Nat}
def sameV : Value → Value → Bool
  | .int k a, .int k' b => decide (k = k') && decide (a = b)
  | .bool a, .bool b => decide (a = b)
  | _, _ => false
theorem sameV_eq {a b : Value} (h : sameV a b = true) : a = b := by
  unfold sameV at h; split at h
  · obtain ⟨h1, h2⟩ := band h; rw [of_decide_eq_true h1, of_decide_eq_true h2]
  · rw [of_decide_eq_true h]
  cases h
def sameL : List Value → List Value → Bool
  | [], [] => true
  | a :: r, b :: q => sameV a b && sameL r q
  | _, _ => false
theorem sameL_eq : ∀ {a b : List Value}, sameL a b = true → a = b
  | [], [], _ => rfl
  | [], _ :: _, h => by cases h
  | _ :: _, [], h => by cases h
  | a :: r, b :: q, h => by
    obtain ⟨h1, h2⟩ := band (h : (sameV a b && sameL r q) = true); rw [sameV_eq h1, sameL_eq h2]
def sameO : AObj → AObj → Bool
  | .row e cs o m, .row e' cs' o' m' => Nat.beq e e' && sameL cs cs' && decide (o = o') && decide (m = m')
  | _, _ => false
theorem sameO_eq {a b : AObj} (h : sameO a b = true) : a = b := by
  unfold sameO at h; split at h
  · obtain ⟨h, h1⟩ := band h; obtain ⟨h, h2⟩ := band h; obtain ⟨h, h3⟩ := band h; rw [nbeq h, sameL_eq h3, of_decide_eq_true h2, of_decide_eq_true h1]
  cases h
def okRd (rd : List (Nat × AObj)) (h : Heap) : Bool := rd.all fun p => match h.get p.1 with
  | some ob => sameO ob p.2
  | none => false
theorem stLook_mem {b : Nat} {ob : AObj} : ∀ {l : List (Nat × AObj)}, look l b = some ob → (b, ob) ∈ l
  | [], h => by cases h
  | (c, oc) :: r, h => by
    simp only [look] at h
    cases hc : Nat.beq c b with
    | true =>
      rw [hc] at h; simp only [cond_true, Option.some.injEq] at h
      rw [nbeq hc, h]; exact List.mem_cons_self
    | false =>
      rw [hc] at h; simp only [cond_false] at h; exact List.mem_cons_of_mem _ (stLook_mem h)
theorem okRd_get {rd : List (Nat × AObj)} {h : Heap} (hk : okRd rd h = true) {b : Nat} {ob : AObj} (hl : look rd b = some ob) : h.get b = some ob := by
  have := List.all_eq_true.1 hk _ (stLook_mem hl); simp only at this; split at this
  · rename_i o2 hg; rw [hg, sameO_eq this]
  cases this
def stillR (P : Program) (rd : List (Nat × AObj)) (ops : Array Oper) (n : Nat) (o : Oper) (s : DSt) : Option DSt :=
  match fsWanted ops s.t o, o.op with
  | some true, .load T a =>
    match evalO s.t a with
    | .pointer (some p) =>
      match look rd p.block with
      | some ob =>
        match fsLoad P T (evalO s.t a) { next := s.h.next, low := s.h.next, objs := [(p.block, ob)] } with
        | some v => (put n s.t o.dst v).map fun t => { s with t, bs := s.bs ++ [beforeOf s.bs o] }
        | none => none
      | none => none
    | _ => none
  | _, _ => none
def fsDrawnY (P : Program) (rd : List (Nat × AObj)) (step : Oper → (Operand → Value) → Heap → Option (Value × Heap)) (ops : Array Oper) (n : Nat) : List Oper → Nat → DSt → Option DSt
  | [], _, s => bif okRd rd s.h then some s else none
  | o :: r, i, s => bif okRd rd s.h then
      match fsDraw step ops n o i s with
      | some s' => fsDrawnY P rd step ops n r (i + 1) s'
      | none => match stillR P rd ops n o s with
        | some s' => fsDrawnY P rd step ops n r (i + 1) s'
        | none => none
    else none
def fsReads (P : Program) (h0 : Heap) (step : Oper → (Operand → Value) → Heap → Option (Value × Heap)) (ops : Array Oper) (n : Nat) : List Oper → Nat → DSt → List (Nat × AObj) → List (Nat × AObj)
  | [], _, _, l => l
  | o :: r, i, s, l => match fsDraw step ops n o i s with
    | some s' => fsReads P h0 step ops n r (i + 1) s' l
    | none => match stillO P h0 ops n o s with
      | some (s', b) => match h0.get (b - 1) with
        | some ob => fsReads P h0 step ops n r (i + 1) s' ((b - 1, ob) :: l)
        | none => l
      | none => l
def drawnY (P : Program) (h0 : Heap) (step : Oper → (Operand → Value) → Heap → Option (Value × Heap)) (ops : Array Oper) (n : Nat) (s : DSt) (rd : List (Nat × AObj)) : Option DSt :=
  bif rd.all fun p => Nat.blt p.1 h0.next then fsDrawnY P rd step ops n ops.toList 0 s else none
theorem stillR_of {call : FuncId → List Value → Heap → Option (Value × Heap)} {yield : Nat → List Value → Heap → Option (Value × Heap)} {X : Nat → AObj → Prop} {rd : List (Nat × AObj)} {o : Oper} {i : Nat} {s s' : DSt}
    (hf : stillR P rd ops n o s = some s') (hX : ∀ c ob, look rd c = some ob → X c ob) :
    s'.bs = s.bs ++ [beforeOf s.bs o] ∧ Did (fsOp P call yield) ops n X o i s s' := by
  unfold stillR at hf; split at hf
  · rename_i T a hw hop; split at hf
    · rename_i p hev; split at hf
      · rename_i ob hg; split at hf
        · rename_i v hv; obtain ⟨t, h3, h4⟩ := Option.map_eq_some_iff.1 hf; subst h4; refine ⟨rfl, .still hw v [(p.block, ob)] (fun c oc hc => ?_) ?_ h3 rfl rfl rfl rfl⟩
          · simp only [look] at hc
            cases hbc : Nat.beq p.block c with
            | true =>
              rw [hbc] at hc; simp only [cond_true, Option.some.injEq] at hc; obtain rfl := nbeq hbc; subst hc
              exact hX _ _ hg
            | false => rw [hbc] at hc; cases hc
          unfold fsOp; rw [hop]; simp only [hv, Option.map_some]
        cases hf
      cases hf
    cases hf
  cases hf
theorem drawnY_trace {call : FuncId → List Value → Heap → Option (Value × Heap)} {yield : Nat → List Value → Heap → Option (Value × Heap)} {rd : List (Nat × AObj)} : ∀ (l : List Oper) (i : Nat) (s s' : DSt), fsDrawnY P rd (fsOp P call yield) ops n l i s = some s' →
    ∃ st : Nat → DSt, st i = s ∧ st (i + l.length) = s' ∧ (∀ q, i ≤ q → q ≤ i + l.length → okRd rd (st q).h = true) ∧
    ∀ j o, l[j]? = some o → ∀ X : Nat → AObj → Prop, (∀ c ob, look rd c = some ob → X c ob) → (st (i + j + 1)).bs = (st (i + j)).bs ++ [beforeOf (st (i + j)).bs o] ∧ Did (fsOp P call yield) ops n X o (i + j) (st (i + j)) (st (i + j + 1))
  | [], i, s, s', h => by
    simp only [fsDrawnY] at h; obtain ⟨h1, h2⟩ := bif_some h; simp only [Option.some.injEq] at h2; subst h2
    exact ⟨fun _ => s, rfl, rfl, fun _ _ _ => h1, fun j o hj => by simp at hj⟩
  | o :: l, i, s, s', h => by
    simp only [fsDrawnY] at h; obtain ⟨hok, h⟩ := bif_some h
    have key : ∀ s1, fsDrawnY P rd (fsOp P call yield) ops n l (i + 1) s1 = some s' →
        (∀ X : Nat → AObj → Prop, (∀ c ob, look rd c = some ob → X c ob) → s1.bs = s.bs ++ [beforeOf s.bs o] ∧ Did (fsOp P call yield) ops n X o i s s1) →
      ∃ st : Nat → DSt, st i = s ∧ st (i + (o :: l).length) = s' ∧ (∀ q, i ≤ q → q ≤ i + (o :: l).length → okRd rd (st q).h = true) ∧
        ∀ j o', (o :: l)[j]? = some o' → ∀ X : Nat → AObj → Prop, (∀ c ob, look rd c = some ob → X c ob) → (st (i + j + 1)).bs = (st (i + j)).bs ++ [beforeOf (st (i + j)).bs o'] ∧ Did (fsOp P call yield) ops n X o' (i + j) (st (i + j)) (st (i + j + 1)) := fun s1 hr hd => by
      obtain ⟨st, h1, h2, hq, h3⟩ := drawnY_trace l (i + 1) s1 s' hr; refine ⟨fun k => if k = i then s else st k, by simp, ?_, fun q hq1 hq2 => ?_, fun j o' hj X hX => ?_⟩
      · simp only [List.length_cons]; rw [if_neg (by omega), ← h2]; congr 1; omega
      · rw [List.length_cons] at hq2; by_cases e : q = i
        · subst e; simpa using hok
        simp only [if_neg e]; exact hq q (by omega) (by omega)
      cases j with
      | zero =>
        simp at hj; subst hj
        simpa [h1] using hd X hX
      | succ j =>
        simp only [List.getElem?_cons_succ] at hj; have := h3 j o' hj X hX; rw [show i + 1 + j = i + (j + 1) by omega] at this; simp only; rw [if_neg (by omega), if_neg (by omega)]; exact this
    split at h
    · rename_i s1 hs1; exact key s1 h fun X _ => did_of hs1
    split at h
    · rename_i s1 hs1; exact key s1 h fun X hX => stillR_of hs1 hX
    cases h
theorem traceY_of {call : FuncId → List Value → Heap → Option (Value × Heap)} {yield : Nat → List Value → Heap → Option (Value × Heap)} {t0 : Tr} {h0 : Heap} {s : DSt} {rd : List (Nat × AObj)} (h : drawnY P h0 (fsOp P call yield) ops n ⟨t0, h0, [], [], 0, false⟩ rd = some s) : ∃ st, Trace (fsOp P call yield) ops n st t0 h0 ∧ st ops.size = s := by
  unfold drawnY at h; obtain ⟨hb, h⟩ := bif_some h; obtain ⟨st, h1, h2, hq, h3⟩ := drawnY_trace _ _ _ _ h
  have h2' : st ops.size = s := by simpa using h2
  refine ⟨st, ⟨h1, fun i o ho => ?_⟩, h2'⟩; have := h3 i o (by simpa using ho) (fun b ob => h0.get b = some ob ∧ b < h0.next ∧ (b < (st ops.size).h.low ∨ ∀ q, q ≤ ops.size → (st q).h.get b = some ob)) (fun c ob hc => ?_)
  · simpa only [Nat.zero_add] using this
  have hall : ∀ q, q ≤ ops.size → (st q).h.get c = some ob := fun q hq2 => okRd_get (hq q (Nat.zero_le _) (by simpa using hq2)) hc; have h0 := hall 0 (Nat.zero_le _); rw [h1] at h0; exact ⟨h0, nblt (List.all_eq_true.1 hb _ (stLook_mem hc)), .inr hall⟩
variable {B : Nat} {w0 : World} {S : Nat → Prop} {ρ0 : Ren} {call : FuncId → List Value → Heap → Option (Value × Heap)} {yield : Nat → List Value → Heap → Option (Value × Heap)} {t0 : Tr} {h0 : Heap}
theorem drawn_wpY (hcs : CallSnd P B w0 call) (hys : YieldSound P B w0 yield) (hok : regionOk ops = true) {s : DSt} {rd : List (Nat × AObj)} (hf : drawnY P h0 (fsOp P call yield) ops n ⟨t0, h0, [], [], 0, false⟩ rd = some s)
    {w : World} {a : Act} (hr : HR P ρ0 S B w0 h0 w) (ht : TrR ρ0 S t0 n a.tmps) {r : Option Nat} {nn : Nat} {Q : Exit → Act → World → Prop}
    (k : ∀ ρ' w' a', Moved P B w0 ρ0 ρ' S h0 s.h w w' → TrR ρ' (Ext S h0 s.h) s.t n a'.tmps → a'.defers = a.defers → Q .normal a' w') (t : Nat) :
    wpOpsIn (Wide r) nn P ops Q (Region.schedule true ops t) a w := drawn_wpT hcs hys hok (traceY_of hf) hr ht k t
end Go.Fs
namespace Go.Fs
open Go.RowKit (Below)
variable {P : Program} {B : Nat} {w0 : World}
def fsStepX (P : Program) (orc : FuncId → List Value → Heap → Option (Value × Heap)) (rec : Rec) : Rec := fun rnd c fr h =>
  match c with
  | .region _ ops true => match drawnX P { next := h.next, low := h.next, objs := h.objs } (fsOp P (callOf P orc rec) (fsYield rec)) ops fr.n ⟨fr.t, { next := h.next, low := h.next, objs := h.objs }, [], [], 0, false⟩ with
    | some s => some (.normal, { t := s.t, n := fr.n, marks := fr.marks }, { next := s.h.next, low := min h.low s.h.low, objs := s.h.objs })
    | none => match drawnY P { next := h.next, low := h.next, objs := h.objs } (fsOp P (callOf P orc rec) (fsYield rec)) ops fr.n ⟨fr.t, { next := h.next, low := h.next, objs := h.objs }, [], [], 0, false⟩ (fsReads P { next := h.next, low := h.next, objs := h.objs } (fsOp P (callOf P orc rec) (fsYield rec)) ops fr.n ops.toList 0 ⟨fr.t, { next := h.next, low := h.next, objs := h.objs }, [], [], 0, false⟩ []) with
      | some s => some (.normal, { t := s.t, n := fr.n, marks := fr.marks }, { next := s.h.next, low := min h.low s.h.low, objs := s.h.objs })
      | none => fsStep P orc rec rnd c fr h
  | c => fsStep P orc rec rnd c fr h
def fsCodeX (P : Program) (orc : FuncId → List Value → Heap → Option (Value × Heap)) : Nat → Rec
  | 0 => fun _ _ _ _ => none
  | n + 1 => fsStepX P orc (fsCodeX P orc n)
theorem HR.low {ρ : Ren} {S : Nat → Prop} {h : Heap} {w : World} (hr : HR P ρ S B w0 h w) (l : Nat) : HR P ρ S B w0 { next := h.next, low := l, objs := h.objs } w :=
  { objs := hr.objs, inj := hr.inj, base := hr.base, ro := hr.ro, ids := hr.ids, pos := hr.pos, below := hr.below, drawn := hr.drawn, size := hr.size }
theorem Moved.lowered {ρ ρ' : Ren} {S : Nat → Prop} {h h' : Heap} {w w' : World} {l : Nat} (m : Moved P B w0 ρ ρ' S { next := h.next, low := l, objs := h.objs } h' w w') :
    Moved P B w0 ρ ρ' S h { next := h'.next, low := min h.low h'.low, objs := h'.objs } w w' where
  agree := m.agree
  next := m.next
  hr := m.hr.low _
  frame := ⟨m.frame.os, m.frame.tape, m.frame.output, m.frame.size, m.frame.block⟩
  low := Nat.min_le_left _ _
  keep := fun i hi hl => m.keep i hi (Nat.lt_of_lt_of_le hl (Nat.min_le_right _ _))
  old := m.old
  fresh := fun i o ho hi => by
    obtain ⟨h1, h2⟩ := m.fresh i o ho hi; refine ⟨h1, ?_⟩; rcases h2 with h2 | ⟨j, oj, h3, h4, h5, h6, h7⟩
    · exact .inl h2
    exact .inr ⟨j, oj, h3, h4, h5, Nat.le_trans (Nat.min_le_right _ _) h6, h7⟩
theorem stepX_sound (hP : ProgOk P) {orc : FuncId → List Value → Heap → Option (Value × Heap)} (horc : CallSound P B w0 orc) {m : Nat} {rec : Rec} (hrec : SoundR P B w0 m rec) : SoundR P B w0 (m + 1) (fsStepX P orc rec) := by
  have hcs : CallSnd P B w0 (callOf P orc rec) := call_sound hP horc hrec; have hys : YieldSound P B w0 (fsYield rec) := yield_sound hrec; have hold := step_sound hP horc hrec; intro rnd c fr h e fr' h' hok hf
  cases c with
  | region id ops draw =>
    cases draw with
    | false => exact hold rnd _ fr h e fr' h' hok hf
    | true =>
      intro ρ S w a nn Q hr ht hm hs k; simp only [fsStepX] at hf; split at hf
      · rename_i s hrun; simp only [Option.some.injEq, Prod.mk.injEq] at hf; obtain ⟨rfl, rfl, rfl⟩ := hf; refine wpIn_region_draw fun t => ?_; rw [hP.mixed]; exact drawn_wpX (h0 := { next := h.next, low := h.next, objs := h.objs }) (call := callOf P orc rec) (yield := fsYield rec) hcs hys hok hrun ((hr.drew _).low _) ht (fun ρ1 w1 a1 m1 ht1 hd1 => k _ _ _ ⟨(Moved.ofDrew m1).lowered, ht1, by rw [hd1]; exact hm.mono fun b hb => ⟨.inl hb, m1.agree b hb⟩⟩) t
      split at hf
      · rename_i s hrun; simp only [Option.some.injEq, Prod.mk.injEq] at hf; obtain ⟨rfl, rfl, rfl⟩ := hf; refine wpIn_region_draw fun t => ?_; rw [hP.mixed]; exact drawn_wpY (h0 := { next := h.next, low := h.next, objs := h.objs }) (call := callOf P orc rec) (yield := fsYield rec) hcs hys hok hrun ((hr.drew _).low _) ht (fun ρ1 w1 a1 m1 ht1 hd1 => k _ _ _ ⟨(Moved.ofDrew m1).lowered, ht1, by rw [hd1]; exact hm.mono fun b hb => ⟨.inl hb, m1.agree b hb⟩⟩) t
      exact hold rnd _ fr h e fr' h' hok hf ρ S w a nn Q hr ht hm hs k
  | _ => exact hold rnd _ fr h e fr' h' hok hf
theorem codeX_sound (hP : ProgOk P) {orc : FuncId → List Value → Heap → Option (Value × Heap)} (horc : CallSound P B w0 orc) : ∀ m, SoundR P B w0 m (fsCodeX P orc m)
  | 0 => fun rnd c fr h e fr' h' _ hf => by cases hf
  | m + 1 => stepX_sound hP horc (codeX_sound hP horc m)
theorem fsX_calls (hP : ProgOk P) {orc : FuncId → List Value → Heap → Option (Value × Heap)} (horc : CallSound P B w0 orc) (m : Nat) : CallSound P B w0 (fsEnter P (fsCodeX P orc m)) := enter_sound hP (codeX_sound hP horc m)
theorem fsX_closed (hP : ProgOk P) {w : World} {orc : FuncId → List Value → Heap → Option (Value × Heap)} (horc : CallSound P w.heap.size (wz w) orc) {m : Nat} {f : FuncId} {args : List Value} {v : Value} (ha : args.all af = true)
    (hf : (fsEnter P (fsCodeX P orc m) f args ⟨1, 1, []⟩).map (·.1) = some v) (hv : af v = true) :
    Calls P f args.toArray w fun | .returned v', w' => v' = v ∧ Below w.heap.size w w' | _, _ => False := by
  obtain ⟨⟨v0, h0⟩, h1, h2⟩ := Option.map_eq_some_iff.1 hf; simp only at h2; subst h2
  have hr : HR P (fun _ => Loc.clean 0 0 0 0) (fun _ => False) w.heap.size (wz w) ⟨1, 1, []⟩ w :=
    { objs := fun i o hi => (by cases hi), inj := fun i j oi oj hi => (by cases hi), base := fun i o hi => (by cases hi), ro := fun i o hi => (by cases hi), ids := fun b hb => hb.elim, pos := by decide,
      below := z_below (Below.refl _ _), drawn := Nat.zero_le _, size := Nat.le_refl _ }
  have hc := ((fsX_calls hP horc m) f args _ _ _ h1).2 _ _ w args hr ⟨rfl, fun i hi => .of_af (List.all_eq_true.1 ha _ (mem_getD hi))⟩ 0; refine Calls.mono (callsIn_wide.1 hc) fun e w' he => ?_
  cases e with
  | returned v' =>
    obtain ⟨ρ', m1, hv1⟩ := he
    exact ⟨hv1.eq_of_af hv, below_z m1.hr.below⟩
  | panicked c => exact he.elim
  | outgrown => exact he.elim
end Go.Fs
namespace Go.Fs
variable {P : Program} {orc : FuncId → List Value → Heap → Option (Value × Heap)}
end Go.Fs
namespace Go.Fs
open Go.RowKit (Below)
variable {P : Program}
def gv : Value → Bool
  | .func (.func _) ⟨[]⟩ ⟨[]⟩ => true
  | v => af0 v
theorem VR.of_gv {ρ : Ren} {S : Nat → Prop} {v : Value} (h : gv v = true) : VR ρ S v v := by
  unfold gv at h; split at h
  · exact .func _ _ _ _ _ rfl (fun i h => absurd h (by simp)) rfl (fun i h => absurd h (by simp))
  exact .lit h
def gHeap (n : Nat) (L : List (Nat × TypeId × List Value)) : Heap := ⟨n, n, L.map fun x => (x.1 + 1, .row x.2.1 x.2.2 false true)⟩
def globR (P : Program) : Ren := fun b => Loc.clean (b - 1) 0 0 (P.cellsOf (((P.globals[b - 1]?).map (·.type)).getD 0))
structure GlobW (P : Program) (B : Nat) (w : World) (x : Nat × TypeId × List Value) : Prop where
  type : (P.globals[x.1]?).map (·.type) = some x.2.1
  only : ∀ (g : Nat) gl, P.globals[g]? = some gl → gl.type = x.2.1 → g = x.1
  block : x.1 < B
  cells : ∀ i, i < x.2.2.length → w.cell? ⟨x.1, i, none⟩ = some (x.2.2.getD i undef)
  vals : x.2.2.all gv = true
theorem GlobW.below {B : Nat} {w w' : World} {x : Nat × TypeId × List Value} (h : GlobW P B w x) (hb : Below B w w') : GlobW P B w' x :=
  ⟨h.type, h.only, h.block, fun i hi => (World.cell?_of_block (a := ⟨x.1, i, none⟩) (hb.block _ h.block)).trans (h.cells i hi), h.vals⟩
theorem gHeap_get {n : Nat} : ∀ {L : List (Nat × TypeId × List Value)} {i : Nat} {o : AObj}, (gHeap n L).get i = some o → ∃ x ∈ L, i = x.1 + 1 ∧ o = .row x.2.1 x.2.2 false true
  | [], i, o, h => by cases h
  | x :: L, i, o, h => by
    simp only [gHeap, Heap.get, List.map_cons, look] at h
    cases hb : Nat.beq (x.1 + 1) i with
    | true =>
      rw [hb] at h
      exact ⟨x, List.mem_cons_self, (nbeq hb).symm, (Option.some.inj h).symm⟩
    | false =>
      rw [hb] at h; obtain ⟨y, hy, h1, h2⟩ := gHeap_get (n := n) (L := L) (i := i) (o := o) h; exact ⟨y, List.mem_cons_of_mem _ hy, h1, h2⟩
theorem gHeap_hr {w : World} {n : Nat} {L : List (Nat × TypeId × List Value)} (hn : ∀ x ∈ L, x.1 + 1 < n) (hp : 0 < n) (hL : ∀ x ∈ L, GlobW P w.heap.size w x) :
    HR P (globR P) (fun b => ∃ x ∈ L, b = x.1 + 1) w.heap.size (wz w) (gHeap n L) w where
  objs := fun i o hi => by
    obtain ⟨x, hx, rfl, rfl⟩ := gHeap_get hi; have h := hL x hx; refine ⟨⟨x, hx, rfl⟩, ?_, fun j hj => ?_, fun _ g gl h1 h2 => ?_⟩
    · show P.cellsOf (((P.globals[x.1 + 1 - 1]?).map (·.type)).getD 0) = _; rw [Nat.add_sub_cancel, h.type]; rfl
    · refine ⟨x.2.2.getD j undef, ?_, .of_gv (List.all_eq_true.1 h.vals _ (mem_getD hj))⟩; show w.cell? ⟨x.1 + 1 - 1, 0 + j, none⟩ = _; rw [Nat.add_sub_cancel, Nat.zero_add]; exact h.cells j hj
    exact ⟨(h.only g gl h1 h2).symm, rfl⟩
  inj := fun i j oi oj hi _ ho => by
    obtain ⟨x, hx, rfl, rfl⟩ := gHeap_get hi; cases ho
  base := fun i o hi ho => by
    obtain ⟨x, hx, rfl, rfl⟩ := gHeap_get hi; cases ho
  ro := fun i o hi _ => by
    obtain ⟨x, hx, rfl, rfl⟩ := gHeap_get hi; exact (hL x hx).block
  ids := fun b ⟨x, hx, hb⟩ => by
    subst hb; exact ⟨hn x hx, Nat.succ_ne_zero _⟩
  pos := hp
  below := z_below (Below.refl _ _)
  drawn := Nat.zero_le _
  size := Nat.le_refl _
theorem fsG_closed (hP : ProgOk P) {w : World} {orc : FuncId → List Value → Heap → Option (Value × Heap)} (horc : CallSound P w.heap.size (wz w) orc) {ρ : Ren} {S : Nat → Prop} {h0 : Heap} (hr : HR P ρ S w.heap.size (wz w) h0 w) {m : Nat} {f : FuncId} {args : List Value} {v : Value} (ha : args.all af = true)
    (hf : (fsEnter P (fsCodeX P orc m) f args h0).map (·.1) = some v) (hv : af v = true) :
    Calls P f args.toArray w fun | .returned v', w' => v' = v ∧ Below w.heap.size w w' | _, _ => False := by
  obtain ⟨⟨v0, h1⟩, h2, h3⟩ := Option.map_eq_some_iff.1 hf; simp only at h3; subst h3; have hc := ((fsX_calls hP horc m) f args _ _ _ h2).2 _ _ w args hr ⟨rfl, fun i hi => .of_af (List.all_eq_true.1 ha _ (mem_getD hi))⟩ 0; refine Calls.mono (callsIn_wide.1 hc) fun e w' he => ?_
  cases e with
  | returned v' =>
    obtain ⟨ρ', m1, hv1⟩ := he
    exact ⟨hv1.eq_of_af hv, below_z m1.hr.below⟩
  | panicked c => exact he.elim
  | outgrown => exact he.elim
theorem awakeG_calls (hP : ProgOk P) {B : Nat} {w0 : World} {O : FuncId → List Value → Heap → Option (Value × Heap)} {fa : FuncId} {n : Nat} {L : List (Nat × TypeId × List Value)} (hn : ∀ x ∈ L, x.1 + 1 < n) (hp : 0 < n) (hL : ∀ x ∈ L, GlobW P B w0 x) (hB : ∀ w, Below B w0 w → B ≤ w.heap.size) (hS : ∀ w, Below B w0 w → CallSound P w.heap.size (wz w) O) {m : Nat}
    (hrun : (fsEnter P (fsCodeX P O m) fa [] (gHeap n L)).map (·.1) = some (.bool true)) (w : World) (hw : Below B w0 w) :
    Calls P fa #[] w fun | .returned v', w' => v' = .bool true ∧ Below w.heap.size w w' | _, _ => False :=
  fsG_closed hP (hS w hw) (gHeap_hr hn hp fun x hx => let h := (hL x hx).below hw; ⟨h.type, h.only, Nat.lt_of_lt_of_le h.block (hB w hw), h.cells, h.vals⟩) (args := []) rfl hrun rfl
end Go.Fs
namespace Go.Fs
open Go.RowKit (Below)
variable {P : Program} {ρ ρ' : Ren} {S S' : Nat → Prop} {B : Nat} {w0 w w' w1 w2 : World} {h h' h1 h2 : Heap}
end Go.Fs
namespace Go.Proofs
open Go.Shelf
def Tryz.lays190_ren : Go.Shelf.Ren := ⟨fun | 190 => 87 | 125 => 93 | 258 => 122 | 128 => 131 | 129 => 132 | 302 => 154 | 303 => 155 | 304 => 156 | 305 => 157 | 306 => 158 | 307 => 159 | 308 => 160 | 309 => 161 | 310 => 162 | 333 => 177 | 329 => 164 | 330 => 165 | 334 => 178 | 335 => 179 | 336 => 180 | 344 => 185 | n => n, fun | 31 => 27 | 9 => 9 | 3 => 3 | 46 => 170 | 0 => 0 | 51 => 195 | 53 => 197 | 4 => 4 | 183 => 188 | 182 => 187 | 131 => 192 | 5 => 5 | 218 => 215 | 222 => 219 | 228 => 235 | 229 => 236 | n => n, fun | n => n⟩
theorem Tryz.lays190 : Go.Proofs.Lays.n190 Tryz.prog Tryz.lays190_ren := {
  mixed := by kernel_rfl
  f125 := Tryz.func93.trans (congrArg some (by kernel_rfl))
  f128 := Tryz.func131.trans (congrArg some (by kernel_rfl))
  f129 := Tryz.func132.trans (congrArg some (by kernel_rfl))
  f190 := Tryz.func87.trans (congrArg some (by kernel_rfl))
  f258 := Tryz.func122.trans (congrArg some (by kernel_rfl))
  f302 := Tryz.func154.trans (congrArg some (by kernel_rfl))
  f303 := Tryz.func155.trans (congrArg some (by kernel_rfl))
  f304 := Tryz.func156.trans (congrArg some (by kernel_rfl))
  f305 := Tryz.func157.trans (congrArg some (by kernel_rfl))
  f306 := Tryz.func158.trans (congrArg some (by kernel_rfl))
  f307 := Tryz.func159.trans (congrArg some (by kernel_rfl))
  f308 := Tryz.func160.trans (congrArg some (by kernel_rfl))
  f309 := Tryz.func161.trans (congrArg some (by kernel_rfl))
  f310 := Tryz.func162.trans (congrArg some (by kernel_rfl))
  f329 := Tryz.func164.trans (congrArg some (by kernel_rfl))
  f330 := Tryz.func165.trans (congrArg some (by kernel_rfl))
  f333 := Tryz.func177.trans (congrArg some (by kernel_rfl))
  f334 := Tryz.func178.trans (congrArg some (by kernel_rfl))
  f335 := Tryz.func179.trans (congrArg some (by kernel_rfl))
  f336 := Tryz.func180.trans (congrArg some (by kernel_rfl))
  f344 := Tryz.func185.trans (congrArg some (by kernel_rfl))
  t0 := Tryz.underlying0
  a0 := Tryz.isAgg0
  z0 := Tryz.sizeOf0
  v0 := Tryz.zeroValue0
  t3 := Tryz.underlying3
  a3 := Tryz.isAgg3
  z3 := Tryz.sizeOf3
  v3 := Tryz.zeroValue3
  t4 := Tryz.underlying4
  a4 := Tryz.isAgg4
  z4 := Tryz.sizeOf4
  v4 := Tryz.zeroValue4
  t5 := Tryz.underlying5
  a5 := Tryz.isAgg5
  z5 := Tryz.sizeOf5
  v5 := Tryz.zeroValue5
  t9 := Tryz.underlying9
  a9 := Tryz.isAgg9
  z9 := Tryz.sizeOf9
  v9 := Tryz.zeroValue9
  t31 := Tryz.underlying27
  a31 := Tryz.isAgg27
  z31 := Tryz.sizeOf27
  v31 := Tryz.zeroValue27
  t46 := Tryz.underlying170
  a46 := Tryz.isAgg170
  z46 := Tryz.sizeOf170
  v46 := Tryz.zeroValue170
  t51 := Tryz.underlying195
  a51 := Tryz.isAgg195
  z51 := Tryz.sizeOf195
  v51 := Tryz.zeroValue195
  t53 := Tryz.underlying197
  a53 := Tryz.isAgg197
  z53 := Tryz.sizeOf197
  v53 := Tryz.zeroValue197
  t131 := Tryz.underlying192
  a131 := Tryz.isAgg192
  z131 := Tryz.sizeOf192
  v131 := Tryz.zeroValue192
  t182 := Tryz.underlying187
  a182 := Tryz.isAgg187
  z182 := Tryz.sizeOf187
  v182 := Tryz.zeroValue187
  t183 := Tryz.underlying188
  a183 := Tryz.isAgg188
  z183 := Tryz.sizeOf188
  v183 := Tryz.zeroValue188
  t218 := Tryz.underlying215
  a218 := Tryz.isAgg215
  z218 := Tryz.sizeOf215
  v218 := Tryz.zeroValue215
  t222 := Tryz.underlying219
  a222 := Tryz.isAgg219
  z222 := Tryz.sizeOf219
  v222 := Tryz.zeroValue219
  t228 := Tryz.underlying235
  a228 := Tryz.isAgg235
  z228 := Tryz.sizeOf235
  v228 := Tryz.zeroValue235
  t229 := Tryz.underlying236
  a229 := Tryz.isAgg236
  z229 := Tryz.sizeOf236
  v229 := Tryz.zeroValue236 }
open Go.Sort Go.RowKit in
theorem Tryz.slices_Sort_string (blk off cap : Nat) (ss : List (List UInt8)) (w : World) (hH : Holds encStr w blk off ss.toArray) (hblk : blk < w.heap.size) (hsz : ss.length < 4611686018427387904) :
    Calls Tryz.prog 87 #[.slice (some ⟨blk, off, none⟩) ss.length cap] w fun e w' =>
      e = .returned (.tuple #[]) ∧ ∃ n os, w' = grow (putRow encStr (Sort.ahead w n) blk off (ss.mergeSort fun x y => decide (x ≤ y)).toArray) os := Any.slices_Sort_string Tryz.lays190 blk off cap ss w hH hblk hsz
open Go.RowKit Go.Sort in
/-- .. and plain. (LAID: no walk: one application.) -/
theorem Tryz.slices_Sort_string_none (p : Option Addr) (cap : Nat) (w : World) :
    Calls Tryz.prog 87 #[.slice p 0 cap] w fun e w' => e = .returned (.tuple #[]) ∧ w' = w := Any.slices_Sort_string_none Tryz.lays190 p cap w
end Go.Proofs
namespace Go.Proofs
open Go.Fs
open Go.Shelf
open Go.RowKit (Below)
theorem tzAll : (Tryz.prog.funcs.toList.all fun fn => match fn.body with | some c => codeOk c && !(fn.name == "runtime.NumGoroutine") | none => true) = true := by kernel_rfl
theorem tzMixed : Tryz.prog.follows .mixedOrders = true := by kernel_rfl
theorem tzOk : ProgOk Tryz.prog where
  mixed := tzMixed
  name := fun f fn hf hb => by
    have := List.all_eq_true.1 tzAll fn (by rw [Array.mem_toList_iff]; exact Array.mem_of_getElem? hf)
    cases hx : fn.body with
    | none => rw [hx] at hb; cases hb
    | some c => rw [hx] at this; simpa using (band this).2
  code := fun f fn c hf hb => by
    have := List.all_eq_true.1 tzAll fn (by rw [Array.mem_toList_iff]; exact Array.mem_of_getElem? hf); rw [hb] at this; exact (band this).1
theorem tzAwakeE : Fs.Enters Tryz.prog 6 := ⟨_, Tryz.func6, rfl, by kernel_rfl⟩
/-- The one package variable that is read: the places of single bits. -/
def tzG : List (Nat × TypeId × List Value) := [(1, 223, [0, 1, 56, 2, 57, 49, 28, 3, 61, 58, 42, 50, 38, 29, 17, 4, 62, 47, 59, 36, 45, 43, 51, 22, 53, 39, 33, 30, 24, 18, 12, 5, 63, 55, 48, 27, 60, 41, 37, 16, 46, 35, 44, 21, 52, 32, 23, 11, 54, 26, 40, 15, 34, 20, 31, 10, 25, 14, 19, 9, 13, 8, 7, 6].map fun n => .int .u8 n)]
abbrev OB := orcN
end Go.Proofs
namespace Go.Proofs
open Go.Fs
theorem tzRun : (fsEnter Tryz.prog (fsCodeX Tryz.prog OB 100000) 6 [] (gHeap 3 tzG)).map (·.1) = some (.bool true) := by kernel_rfl
end Go.Proofs
namespace Go.Fs
variable {P : Program} {orc : FuncId → List Value → Heap → Option (Value × Heap)} {rnd : Option Nat} {h h' h0 h1 h2 : Heap} {S S' S0 G : List Nat} {σ σ' σr γ γ' : Sto} {t t' : Tr} {ms : List Nat} {fl nw : VL} {ops : Array Oper} {n i mem : Nat} {l : List Oper} {K : VL → Sto → Prop} {Q : Ex → VL → Sto → Prop}
  {d : Tmp} {ty : TypeId} {pos : String} {after : Array Edge} {op : Op} {v pv : PV} {g : Option (Nat × Bool)} {bs nw0 : List Nat} {tail so : Bool} {x y z : Operand} {T T' e : TypeId} {τ τ' : Ty} {w w' : Value}
end Go.Fs
namespace Go.Fs
variable {P : Program} {orc : FuncId → List Value → Heap → Option (Value × Heap)} {rnd : Option Nat} {h h' h0 h1 h2 : Heap} {S S' S0 G : List Nat} {σ σ' σr γ γ' : Sto} {t t' : Tr} {ms : List Nat} {fl nw : VL} {ops : Array Oper} {n i mem : Nat} {l : List Oper} {K : VL → Sto → Prop} {Q : Ex → VL → Sto → Prop}
  {d : Tmp} {ty : TypeId} {pos : String} {after : Array Edge} {op : Op} {v pv : PV} {g : Option (Nat × Bool)} {bs nw0 : List Nat} {tail so : Bool} {x y z : Operand} {T T' e : TypeId} {τ τ' : Ty} {w w' : Value}
end Go.Fs
namespace Go.Fs
variable {P : Program} {orc : FuncId → List Value → Heap → Option (Value × Heap)} {h h' h0 h1 h2 : Heap} {S S' S0 G : List Nat} {σ σ' γ γ' : Sto} {t t' : Tr} {ms : List Nat} {fl : VL} {τ : Ty}
end Go.Fs
namespace Go.Fs
variable {P : Program} {orc : FuncId → List Value → Heap → Option (Value × Heap)} {h h' h0 h1 h2 : Heap} {S S' S0 G : List Nat} {σ σ' : Sto} {t t' : Tr} {ms : List Nat} {fl : VL} {ops : Array Oper} {n i mem : Nat} {l : List Oper} {K : VL → Sto → Prop}
  {d : Tmp} {ty : TypeId} {pos : String} {after : Array Edge} {g : Option (Nat × Bool)} {bs nw : List Nat} {tail so : Bool} {e : TypeId} {τ : Ty}
end Go.Fs
namespace Go.Proofs.Cmp
open Go.Fs
set_option maxHeartbeats 1000000
abbrev y113FZ : Ty := (.pair (.int .i64) (.int .i64))
theorem vt3FZ : ValT Tryz.prog 3 (.int .i64) := valT_of (by kernel_rfl)
theorem nNaN_ok {x : Int} : VF Tryz.prog orcN 133 [I x] (B false) := by
  refine VF.enter Tryz.func133 rfl (fun _ _ => rfl) rfl ?_; show VC _ _ _ _ _ [(0, I x)] [] _; refine VC.seq (VC.text ?_); refine VO.c (.assign rfl) ?_; refine VO.go (VC.seq (VC.text ?_)); refine VO.c (.move rfl) (VO.c (.move rfl) (VO.c (.neq) (VO.c (.assign rfl) ?_))); refine VO.go ?_; refine VC.ret ?_; exact VEnd.one rfl evT (pvE (by simp))
theorem nCompare_ok {x : Int} {y : Int} : VF Tryz.prog orcN 94 [I x, I y] (I (Lib.compareInt x y)) := by
  refine VF.enter Tryz.func94 rfl (fun _ _ => rfl) rfl ?_; show VC _ _ _ _ _ [(0, I x), (1, I y)] [] _; refine VC.seq (VC.text ?_); refine VO.c (.assign rfl) ?_; refine VO.go (VC.seq (VC.text ?_)); refine VO.c (.move rfl) ?_; refine VO.call rfl rfl (VF.call (nNaN_ok )) ?_; refine VO.c (.assign rfl) ?_; refine VO.go (VC.seq (VC.text ?_)); refine VO.c (.move rfl) ?_; refine VO.call rfl rfl (VF.call (nNaN_ok )) ?_; refine VO.c (.assign rfl) ?_; refine VO.go (VC.seq (VC.seq (VC.text ?_))); refine VO.c (.move rfl) (VO.go ?_); refine VC.condF rfl ?_; refine VC.skip (VC.seq (VC.seq (VC.text ?_))); refine VO.c (.move rfl) (VO.go ?_); refine VC.condF rfl ?_; refine VC.skip (VC.seq (VC.seq (VC.text ?_))); refine VO.c (.move rfl) (VO.c (.move rfl) (VO.c (.lss) (VO.go ?_))); refine VC.condD rfl (fun c9 => ?_) (fun c9 => ?_)
  · refine VC.seq (VC.text ?_); refine VO.c (.assign rfl) (VO.go ?_); refine VC.ret ?_; exact VEnd.one rfl evT (pvI (by unfold Lib.compareInt; simp [*]))
  refine VC.skip (VC.seq (VC.seq (VC.text ?_))); refine VO.c (.move rfl) (VO.c (.move rfl) (VO.c (.gtr) (VO.go ?_))); refine VC.condD rfl (fun c11 => ?_) (fun c11 => ?_)
  · refine VC.seq (VC.text ?_); refine VO.c (.assign rfl) (VO.go ?_); refine VC.ret ?_; exact VEnd.one rfl evT (pvI (by unfold Lib.compareInt; simp [*]))
  refine VC.skip (VC.seq (VC.text ?_)); refine VO.c (.assign rfl) (VO.go ?_); refine VC.ret ?_; exact VEnd.one rfl evT (pvI (by unfold Lib.compareInt; simp [*]))
theorem nEdge_ok {x : Int × Int} {y : Int × Int} : VF Tryz.prog orcN 48 [.v y113FZ x, .v y113FZ y] (I (Lib.compareInt x.1 y.1)) := by
  refine VF.enter Tryz.func48 rfl (fun _ _ => rfl) rfl ?_; show VC _ _ _ _ _ [(0, .v y113FZ x), (1, .v y113FZ y)] [] _; refine VC.seq (VC.text ?_); refine VO.new (.box) ?_; refine VO.new (.box) ?_; refine VO.c (.assign rfl) ?_; refine VO.go (VC.seq (VC.text ?_)); refine VO.c (.fa (.l .o)) ?_; refine VO.r (.ld vt3FZ) ?_; refine VO.c (.fa (.l .o)) ?_; refine VO.r (.ld vt3FZ) ?_; refine VO.call rfl rfl (VF.call (nCompare_ok )) ?_; refine VO.c (.assign rfl) (VO.go ?_); refine VC.ret ?_; exact VEnd.one rfl evT (pvI (by rfl))
end Go.Proofs.Cmp
