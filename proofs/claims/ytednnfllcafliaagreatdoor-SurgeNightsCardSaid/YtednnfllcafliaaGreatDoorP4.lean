/- Slices whose room is known: slices.Grow, appends that stay in their row. No condition. -/
import Derived.Test.YtednnfllcafliaaGreatDoorP3
set_option linter.all false
namespace Go.Proofs
open Go.Fs
set_option linter.unusedVariables false
theorem vt41 : ValT Tryz.prog 41 (.pair (.int .i64) (.int .i64)) := valT_of (by kernel_rfl)
theorem vt89 : ValT Tryz.prog 89 (.pair (.int .i64) (.sl (.int .i64))) := valT_of (by kernel_rfl)
theorem el54 : ElT Tryz.prog 54 72 (.pair (.int .i64) (.sl (.int .i64))) := elT_of (by kernel_rfl)
theorem el64 : ElT Tryz.prog 64 89 (.pair (.int .i64) (.sl (.int .i64))) := elT_of (by kernel_rfl)
theorem firstE_map_drop {α : Type} {f : α → Int} {l : List α} {j : Nat} (hj : j < l.length) : firstE ((l.drop j).map f) = if f l[j] = 0 then firstE ((l.drop (j + 1)).map f) else f l[j] := by
  rw [List.drop_eq_getElem_cons hj]; rfl
theorem firstE_map_end {α : Type} {f : α → Int} {l : List α} {j : Nat} (hj : l.length ≤ j) : firstE ((l.drop j).map f) = 0 := by rw [List.drop_eq_nil_of_le hj]; rfl
theorem all_take {α : Type} {p : α → Prop} {l : List α} {j : Nat} (hj : j < l.length) (h : ∀ x ∈ l.take j, p x) (hx : p l[j]) : ∀ x ∈ l.take (j + 1), p x := by
  intro x hm
  rw [List.take_succ_eq_append_getElem hj] at hm
  rcases List.mem_append.1 hm with hm | hm
  · exact h x hm
  · rw [List.mem_singleton.1 hm]; exact hx
theorem foldl_take {α β : Type} (f : β → α → β) (b : β) {l : List α} {j : Nat} (hj : j < l.length) : (l.take (j + 1)).foldl f b = f ((l.take j).foldl f b) l[j] := by
  rw [List.take_succ_eq_append_getElem hj, List.foldl_append]; rfl
/-! ## Least and greatest numbers -/
def minE (l : List Int) : Int := l.foldl min (l.headD 0)
def maxE (l : List Int) : Int := l.foldl max (l.headD 0)
theorem headD_eq {l : List Int} (h : 0 < l.length) : l.headD 0 = l[0] := by
  cases l with
  | nil => simp at h
  | cons x l => rfl
theorem min_first {l : List Int} (h : 0 < l.length) : l[0] = (l.take 1).foldl min (l.headD 0) := by
  cases l with
  | nil => simp at h
  | cons x l => simp
theorem max_first {l : List Int} (h : 0 < l.length) : l[0] = (l.take 1).foldl max (l.headD 0) := by
  cases l with
  | nil => simp at h
  | cons x l => simp
theorem zMin_ok {h : Heap} {S : List Nat} {v0 : Value} {l : List Int} (hok : HOk h) (hS : ∀ b ∈ S, b < h.next) (ha0 : SlV h S (.int .i64) v0 l) (hp : 0 < l.length) (hl : l.length < 1000000) : EvF Tryz.prog OA 157 [v0] h fun r h' => r = .int .i64 (minE l) ∧ h' = h := by
  refine XF.enter Tryz.func157 rfl rfl rfl ?_
  have hok : HOk (entry h) := hok
  have hA := After.refl (entry h)
  replace ha0 := ha0.entry
  show XC Tryz.prog OA none _ _ [] [(0, v0)] (entry h) _
  refine XC.seq ?_
  refine XC.text ?_
  refine XO.c (.assign rfl) rfl rfl ?_
  refine XO.nil (thenC.go ?_)
  refine XC.seq ?_
  refine XC.seq ?_
  refine XC.text ?_
  refine XO.c (.move rfl) rfl rfl ?_
  refine XO.a (.len rfl (ha0.len el22)) rfl rfl ?_
  refine XO.c (.lss rfl rfl) rfl rfl ?_
  refine XO.nil (thenC.go ?_)
  refine XC.condD rfl (fun c1 => ?_) (fun c1 => ?_)
  · exact absurd c1 (by omega)
  · refine XC.skip (thenC.go ?_)
    refine XC.seq ?_
    refine XC.text ?_
    refine XO.c (.move rfl) rfl rfl ?_
    refine XO.c (.indexAddr rfl rfl rfl (ha0.ix (j := 0) el22 (by omega))) rfl rfl ?_
    refine XO.r (.load rfl (((ha0.at (j := 0) (by omega))).ldInt vt3)) rfl rfl ?_
    refine XO.c (.assign rfl) rfl rfl ?_
    refine XO.nil (thenC.go ?_)
    refine XC.seq ?_
    refine XC.seq ?_
    refine XC.text ?_
    refine XO.c (.assign rfl) rfl rfl ?_
    refine XO.nil (thenC.go ?_)
    refine XC.block ?_
    have hAL101 := hA
    have hkL101 := hA.ok hok
    have hSL101 := (hA.inS hS)
    refine XC.keep [(0, v0), (3, .int .i64 ((l.take 1).foldl min (l.headD 0))), (4, .int .i64 ((1 : Nat) : Int))] ⟨rfl, (congrArg (fun z => some z) (by exact congrArg _ (min_first hp))), rfl, trivial⟩ ?_
    refine XC.loopI (I := fun (kk : Nat) (ff : FL) (hh : Heap) => ∃ (j : Nat), kk = l.length - j ∧ ff = [(0, v0), (3, .int .i64 ((l.take j).foldl min (l.headD 0))), (4, .int .i64 ((j : Nat) : Int))] ∧ After (entry h) hh ∧ After (entry h) hh ∧ Goes (entry h) S hh S ∧ (j ≤ l.length)) ?_ _ _ _ ⟨1, rfl, rfl, hA, After.refl _, Goes.refl, (by omega)⟩
    clear hA
    rintro kk ff hh101 ⟨j, hk101, rfl, hA, aL101, nL101, hj⟩
    replace ha0 := ha0.nx nL101
    refine XC.seq ?_
    refine XC.seq ?_
    refine XC.text ?_
    refine XO.c (.move rfl) rfl rfl ?_
    refine XO.c (.move rfl) rfl rfl ?_
    refine XO.a (.len rfl (ha0.len el22)) rfl rfl ?_
    refine XO.c (.lss rfl rfl) rfl rfl ?_
    refine XO.nil (thenC.go ?_)
    refine XC.condD rfl (fun c5 => ?_) (fun c5 => ?_)
    · refine XC.skip (thenC.go ?_)
      refine XC.seq ?_
      refine XC.block ?_
      refine XC.text ?_
      refine XO.c (.move rfl) rfl rfl ?_
      refine XO.c (.move rfl) rfl rfl ?_
      refine XO.c (.move rfl) rfl rfl ?_
      refine XO.c (.indexAddr rfl rfl rfl (ha0.ix (j := j) el22 (by omega))) rfl rfl ?_
      refine XO.r (.load rfl (((ha0.at (j := j) (by omega))).ldInt vt3)) rfl rfl ?_
      refine XO.a (.min rfl rfl) rfl rfl ?_
      refine XO.c (.assign rfl) rfl rfl ?_
      refine XO.nil ?_
      intro tf htf
      refine inBlock_nrm ?_
      refine thenC.go ?_ tf htf
      refine XC.text ?_
      refine XO.c (.move rfl) rfl rfl ?_
      refine XO.c (.add rfl rfl (by omega)) rfl rfl ?_
      refine XO.c (.assign rfl) rfl rfl ?_
      refine XO.nil ?_
      intro tf htf
      refine ⟨rfl, rfl, _, [(0, v0), (3, .int .i64 ((l.take (j + 1)).foldl min (l.headD 0))), (4, .int .i64 (((j + 1) : Nat) : Int))], ?_, htf.keep _ ⟨rfl, (congrArg (fun z => some z) (by rw [foldl_take min _ (by omega : j < l.length)])), rfl, trivial⟩, (j + 1), rfl, rfl, hA, aL101, nL101, (by omega)⟩
      omega
    · refine XC.exit ?_
      intro tf htf
      refine thenC_exit ?_
      refine loopQ_exit ?_
      refine inBlock_eq ?_
      refine thenC.go ?_ tf htf
      refine XC.seq ?_
      refine XC.text ?_
      refine XO.c (.move rfl) rfl rfl ?_
      refine XO.c (.assign rfl) rfl rfl ?_
      refine XO.nil (thenC.go ?_)
      refine XC.ret fun tf htf => ?_
      refine endF.one rfl rfl (htf 2 _ rfl) ?_
      exact ⟨congrArg (Value.int .i64) (by rw [minE, List.take_of_length_le (by omega)]), hA.leftAf rfl⟩
theorem zMax_ok {h : Heap} {S : List Nat} {v0 : Value} {l : List Int} (hok : HOk h) (hS : ∀ b ∈ S, b < h.next) (ha0 : SlV h S (.int .i64) v0 l) (hp : 0 < l.length) (hl : l.length < 1000000) : EvF Tryz.prog OA 158 [v0] h fun r h' => r = .int .i64 (maxE l) ∧ h' = h := by
  refine XF.enter Tryz.func158 rfl rfl rfl ?_
  have hok : HOk (entry h) := hok
  have hA := After.refl (entry h)
  replace ha0 := ha0.entry
  show XC Tryz.prog OA none _ _ [] [(0, v0)] (entry h) _
  refine XC.seq ?_
  refine XC.text ?_
  refine XO.c (.assign rfl) rfl rfl ?_
  refine XO.nil (thenC.go ?_)
  refine XC.seq ?_
  refine XC.seq ?_
  refine XC.text ?_
  refine XO.c (.move rfl) rfl rfl ?_
  refine XO.a (.len rfl (ha0.len el22)) rfl rfl ?_
  refine XO.c (.lss rfl rfl) rfl rfl ?_
  refine XO.nil (thenC.go ?_)
  refine XC.condD rfl (fun c1 => ?_) (fun c1 => ?_)
  · exact absurd c1 (by omega)
  · refine XC.skip (thenC.go ?_)
    refine XC.seq ?_
    refine XC.text ?_
    refine XO.c (.move rfl) rfl rfl ?_
    refine XO.c (.indexAddr rfl rfl rfl (ha0.ix (j := 0) el22 (by omega))) rfl rfl ?_
    refine XO.r (.load rfl (((ha0.at (j := 0) (by omega))).ldInt vt3)) rfl rfl ?_
    refine XO.c (.assign rfl) rfl rfl ?_
    refine XO.nil (thenC.go ?_)
    refine XC.seq ?_
    refine XC.seq ?_
    refine XC.text ?_
    refine XO.c (.assign rfl) rfl rfl ?_
    refine XO.nil (thenC.go ?_)
    refine XC.block ?_
    have hAL102 := hA
    have hkL102 := hA.ok hok
    have hSL102 := (hA.inS hS)
    refine XC.keep [(0, v0), (3, .int .i64 ((l.take 1).foldl max (l.headD 0))), (4, .int .i64 ((1 : Nat) : Int))] ⟨rfl, (congrArg (fun z => some z) (by exact congrArg _ (max_first hp))), rfl, trivial⟩ ?_
    refine XC.loopI (I := fun (kk : Nat) (ff : FL) (hh : Heap) => ∃ (j : Nat), kk = l.length - j ∧ ff = [(0, v0), (3, .int .i64 ((l.take j).foldl max (l.headD 0))), (4, .int .i64 ((j : Nat) : Int))] ∧ After (entry h) hh ∧ After (entry h) hh ∧ Goes (entry h) S hh S ∧ (j ≤ l.length)) ?_ _ _ _ ⟨1, rfl, rfl, hA, After.refl _, Goes.refl, (by omega)⟩
    clear hA
    rintro kk ff hh102 ⟨j, hk102, rfl, hA, aL102, nL102, hj⟩
    replace ha0 := ha0.nx nL102
    refine XC.seq ?_
    refine XC.seq ?_
    refine XC.text ?_
    refine XO.c (.move rfl) rfl rfl ?_
    refine XO.c (.move rfl) rfl rfl ?_
    refine XO.a (.len rfl (ha0.len el22)) rfl rfl ?_
    refine XO.c (.lss rfl rfl) rfl rfl ?_
    refine XO.nil (thenC.go ?_)
    refine XC.condD rfl (fun c5 => ?_) (fun c5 => ?_)
    · refine XC.skip (thenC.go ?_)
      refine XC.seq ?_
      refine XC.block ?_
      refine XC.text ?_
      refine XO.c (.move rfl) rfl rfl ?_
      refine XO.c (.move rfl) rfl rfl ?_
      refine XO.c (.move rfl) rfl rfl ?_
      refine XO.c (.indexAddr rfl rfl rfl (ha0.ix (j := j) el22 (by omega))) rfl rfl ?_
      refine XO.r (.load rfl (((ha0.at (j := j) (by omega))).ldInt vt3)) rfl rfl ?_
      refine XO.a (.max rfl rfl) rfl rfl ?_
      refine XO.c (.assign rfl) rfl rfl ?_
      refine XO.nil ?_
      intro tf htf
      refine inBlock_nrm ?_
      refine thenC.go ?_ tf htf
      refine XC.text ?_
      refine XO.c (.move rfl) rfl rfl ?_
      refine XO.c (.add rfl rfl (by omega)) rfl rfl ?_
      refine XO.c (.assign rfl) rfl rfl ?_
      refine XO.nil ?_
      intro tf htf
      refine ⟨rfl, rfl, _, [(0, v0), (3, .int .i64 ((l.take (j + 1)).foldl max (l.headD 0))), (4, .int .i64 (((j + 1) : Nat) : Int))], ?_, htf.keep _ ⟨rfl, (congrArg (fun z => some z) (by rw [foldl_take max _ (by omega : j < l.length)])), rfl, trivial⟩, (j + 1), rfl, rfl, hA, aL102, nL102, (by omega)⟩
      omega
    · refine XC.exit ?_
      intro tf htf
      refine thenC_exit ?_
      refine loopQ_exit ?_
      refine inBlock_eq ?_
      refine thenC.go ?_ tf htf
      refine XC.seq ?_
      refine XC.text ?_
      refine XO.c (.move rfl) rfl rfl ?_
      refine XO.c (.assign rfl) rfl rfl ?_
      refine XO.nil (thenC.go ?_)
      refine XC.ret fun tf htf => ?_
      refine endF.one rfl rfl (htf 2 _ rfl) ?_
      exact ⟨congrArg (Value.int .i64) (by rw [maxE, List.take_of_length_le (by omega)]), hA.leftAf rfl⟩
def hullE (l : List Int) : Int × Int := (minE l, maxE l)
theorem sHull_ok {h : Heap} {S : List Nat} {v0 : Value} {l : List Int} (hok : HOk h) (hS : ∀ b ∈ S, b < h.next) (ha0 : SlV h S (.int .i64) v0 l) (hp : 0 < l.length) (hl : l.length < 1000000) : EvF Tryz.prog OA 102 [v0] h fun r h' => r = .agg #[.int .i64 ((hullE l).1), .int .i64 ((hullE l).2)] ∧ h' = h := by
  refine XF.enter Tryz.func102 rfl rfl rfl ?_
  have hok : HOk (entry h) := hok
  have hA := After.refl (entry h)
  replace ha0 := ha0.entry
  show XC Tryz.prog OA none _ _ [] [(0, v0)] (entry h) _
  refine XC.seq ?_
  refine XC.text ?_
  refine XO.allocB (z := .agg #[.int .i64 0, .int .i64 0]) (by kernel_rfl) rfl rfl hA hok rfl rfl ?_
  intro p103 h103 b103 a103 gs103
  have ok104 := hA.ok hok
  have gg104 : Goes (entry h) S h103 (ownP p103 ++ S) := gs103 _
  replace hA := hA.trans a103
  replace ha0 := ha0.nx gg104
  refine XO.nil (thenC.go ?_)
  refine XC.seq ?_
  refine XC.text ?_
  refine XO.c (.move rfl) rfl rfl ?_
  refine XO.call rfl rfl rfl rfl ?_
  refine EvF.mono (zMin_ok (hA.ok hok) (b103.inS (hA.ok hok) (hA.inS hS)) ha0 (by first | assumption | omega) (by first | assumption | omega)) ?_
  rintro _ _ ⟨rfl, hh⟩
  obtain rfl := hh.symm
  clear hh
  refine XO.c (.move rfl) rfl rfl ?_
  refine XO.call rfl rfl rfl rfl ?_
  refine EvF.mono (zMax_ok (hA.ok hok) (b103.inS (hA.ok hok) (hA.inS hS)) ha0 (by first | assumption | omega) (by first | assumption | omega)) ?_
  rintro _ _ ⟨rfl, hh⟩
  obtain rfl := hh.symm
  clear hh
  refine XO.c (.buildS (vs := [.int .i64 (minE l), .int .i64 (maxE l)]) ⟨⟨rfl, rfl⟩, ⟨⟨rfl, rfl⟩, trivial⟩⟩ (by kernel_rfl) rfl) rfl rfl ?_
  obtain ⟨h107, e107, b107, a107, n107, nn107, fr107, lw107⟩ := b103.st0 (S := S) (h0 := entry h) (u := .agg #[.int .i64 (minE l), .int .i64 (maxE l)]) vt41 rfl rfl (by decide) (One.oneAll ⟨⟨rfl, rfl⟩, ⟨⟨rfl, rfl⟩, trivial⟩⟩) hA (show HOk h103 from hA.ok hok)
  refine XO.st rfl rfl e107 ?_
  have ok108 := hA.ok hok
  have gg108 : Goes h103 (ownP p103 ++ S) h107 (ownP p103 ++ S) := n107
  replace hA := a107
  replace ha0 := ha0.nx gg108
  refine XO.nil (thenC.go ?_)
  refine XC.ret fun tf htf => ?_
  refine endF.cell rfl rfl (htf 2 _ rfl) (b107.ldA vt41 rfl rfl) ?_
  refine ⟨?_, hA.leftAf rfl⟩
  rfl
/-! ## Intervals, ensembles -/
def boundsE (b : Int × Int) : Int := firstE [rangeE b.1 (-1048576) 1048576, rangeE b.2 (-1048576) 1048576, whenE (decide (b.2 < b.1)) 11]
theorem sBounds_ok {h : Heap} {S : List Nat} {b : Int × Int} (hok : HOk h) (hS : ∀ b ∈ S, b < h.next) : EvF Tryz.prog OA 106 [.agg #[.int .i64 b.1, .int .i64 b.2]] h fun r h' => r = .int .i64 (boundsE b) ∧ h' = h := by
  refine XF.enter Tryz.func106 rfl rfl rfl ?_
  have hok : HOk (entry h) := hok
  have hA := After.refl (entry h)
  show XC Tryz.prog OA none _ _ [] [(0, .agg #[.int .i64 b.1, .int .i64 b.2])] (entry h) _
  refine XC.seq ?_
  refine XC.text ?_
  refine XO.boxR rfl (RepV.mk2 (a := (.int .i64)) (b := (.int .i64)) (x := b) (RepV.ofInt .i64 _) (RepV.ofInt .i64 _) rfl rfl) (hA.ok hok) (hA.inS hS) rfl rfl ?_
  intro p109 h109 b109 a109
  have ok110 := hA.ok hok
  have gg110 : Goes (entry h) S h109 S := a109.nx ok110
  replace hA := hA.trans a109
  refine XO.c (.assign rfl) rfl rfl ?_
  refine XO.nil (thenC.go ?_)
  refine XC.seq ?_
  refine XC.drawn ?_
  have hkr111 := hA.ok hok
  have hSr111 := (hA.inS hS)
  refine XD.c (b := 0) (.fieldAddr rfl ((b109).fa (f := 0) (k := 0) (by kernel_rfl))) rfl rfl rfl ?_
  refine XD.ld (b := 1) (After.refl _) SegsOk.nil hkr111 rfl (((b109).base.fst').ldInt vt3) rfl rfl rfl rfl ?_
  refine XD.callV (bb := 3) (After.refl _) (SegsOk.cons ((After.refl _)).next SegsOk.nil) rfl rfl rfl rfl rfl rfl ?_
  intro M112 aM112 oM112
  refine EvF.mono (sHeight_ok (aM112.ok hkr111) (aM112.inS hSr111)  ) ?_
  rintro _ _ ⟨rfl, hh⟩
  refine ⟨hh, ?_⟩
  clear hh
  refine XD.c (b := 0) (.fieldAddr rfl ((b109).fa (f := 1) (k := 1) (by kernel_rfl))) rfl rfl rfl ?_
  refine XD.ld (b := 8) (After.refl _) (SegsOk.cons ((After.refl _)).next (SegsOk.cons ((After.refl _)).next SegsOk.nil)) hkr111 rfl ((((b109).base.snd' (m := 1) rfl (b109).isP)).ldInt vt3) rfl rfl rfl rfl ?_
  refine XD.callV (bb := 31) (After.refl _) (SegsOk.cons ((After.refl _)).next (SegsOk.cons ((After.refl _)).next (SegsOk.cons ((After.refl _)).next SegsOk.nil))) rfl rfl rfl rfl rfl rfl ?_
  intro M113 aM113 oM113
  refine EvF.mono (sHeight_ok (aM113.ok hkr111) (aM113.inS hSr111)  ) ?_
  rintro _ _ ⟨rfl, hh⟩
  refine ⟨hh, ?_⟩
  clear hh
  refine XD.c (b := 0) (.fieldAddr rfl ((b109).fa (f := 1) (k := 1) (by kernel_rfl))) rfl rfl rfl ?_
  refine XD.ld (b := 64) (After.refl _) (SegsOk.cons ((After.refl _)).next (SegsOk.cons ((After.refl _)).next (SegsOk.cons ((After.refl _)).next (SegsOk.cons ((After.refl _)).next SegsOk.nil)))) hkr111 rfl ((((b109).base.snd' (m := 1) rfl (b109).isP)).ldInt vt3) rfl rfl rfl rfl ?_
  refine XD.c (b := 0) (.fieldAddr rfl ((b109).fa (f := 0) (k := 0) (by kernel_rfl))) rfl rfl rfl ?_
  refine XD.ld (b := 256) (After.refl _) (SegsOk.cons ((After.refl _)).next (SegsOk.cons ((After.refl _)).next (SegsOk.cons ((After.refl _)).next (SegsOk.cons ((After.refl _)).next (SegsOk.cons ((After.refl _)).next SegsOk.nil))))) hkr111 rfl (((b109).base.fst').ldInt vt3) rfl rfl rfl rfl ?_
  refine XD.c (b := 960) (.lss rfl rfl) rfl rfl rfl ?_
  refine XD.callV (bb := 2047) (After.refl _) (SegsOk.cons ((After.refl _)).next (SegsOk.cons ((After.refl _)).next (SegsOk.cons ((After.refl _)).next (SegsOk.cons ((After.refl _)).next (SegsOk.cons ((After.refl _)).next (SegsOk.cons ((After.refl _)).next SegsOk.nil)))))) rfl rfl rfl rfl rfl rfl ?_
  intro M114 aM114 oM114
  refine EvF.mono (sWhen_ok (aM114.ok hkr111) (aM114.inS hSr111)  ) ?_
  rintro _ _ ⟨rfl, hh⟩
  refine ⟨hh, ?_⟩
  clear hh
  refine XD.lit (b := 4095) (h := h109) (S := S) (τ := (.int .i64)) (vsC (RepV.ofInt .i64 _) (vsC (RepV.ofInt .i64 _) (vs1 (RepV.ofInt .i64 _)))) el179 rfl rfl rfl (by simp) (by simp) (by decide) (hA.ok hok) (hA.inS hS) rfl rfl rfl rfl ?_
  intro w115 h115 s115 a115
  have b109o := b109
  have rg111 : Goes h109 S h109 S := Goes.refl
  have ra111 := After.refl h109
  have ok116 := hA.ok hok
  have gg116 : Goes h109 S h115 S := a115.nx ok116
  replace hA := hA.trans a115
  replace b109 := b109.nx gg116
  replace rg111 := rg111.trans gg116
  have ra111_115 := ra111.trans a115
  refine XD.callV (bb := 8191) ra111_115 (SegsOk.cons (ra111).next (SegsOk.cons ((After.refl _)).next (SegsOk.cons ((After.refl _)).next (SegsOk.cons ((After.refl _)).next (SegsOk.cons ((After.refl _)).next (SegsOk.cons ((After.refl _)).next (SegsOk.cons ((After.refl _)).next (SegsOk.cons ((After.refl _)).next SegsOk.nil)))))))) rfl rfl rfl rfl rfl rfl ?_
  intro M117 aM117 oM117
  obtain rfl := oM117 rfl
  refine EvF.mono (sFirst_ok (hA.ok hok) (hA.inS hS) (s115).entry (by simp)) ?_
  rintro _ _ ⟨rfl, hh⟩
  refine ⟨hh, ?_⟩
  clear hh
  refine XD.c (b := 16383) (.assign rfl) rfl rfl rfl ?_
  refine XD.nil (thenC.go ?_)
  refine XC.ret fun tf htf => ?_
  refine endF.one rfl rfl (htf 2 _ rfl) ?_
  exact ⟨congrArg (Value.int .i64) (by rfl), hA.leftAf rfl⟩
theorem rInterval_ok {h : Heap} {S : List Nat} {b : Int × Int} (hok : HOk h) (hS : ∀ b ∈ S, b < h.next) : EvF Tryz.prog OA 31 [.agg #[.int .i64 b.1, .int .i64 b.2]] h fun r h' => r = .int .i64 (boundsE b) ∧ h' = h := by
  refine XF.enter Tryz.func31 rfl rfl rfl ?_
  have hok : HOk (entry h) := hok
  have hA := After.refl (entry h)
  show XC Tryz.prog OA none _ _ [] [(0, .agg #[.int .i64 b.1, .int .i64 b.2])] (entry h) _
  refine XC.seq ?_
  refine XC.text ?_
  refine XO.boxR rfl (RepV.mk2 (a := (.int .i64)) (b := (.int .i64)) (x := b) (RepV.ofInt .i64 _) (RepV.ofInt .i64 _) rfl rfl) (hA.ok hok) (hA.inS hS) rfl rfl ?_
  intro p118 h118 b118 a118
  have ok119 := hA.ok hok
  have gg119 : Goes (entry h) S h118 S := a118.nx ok119
  replace hA := hA.trans a118
  refine XO.c (.assign rfl) rfl rfl ?_
  refine XO.nil (thenC.go ?_)
  refine XC.seq ?_
  refine XC.seq ?_
  refine XC.drawn ?_
  have hkr120 := hA.ok hok
  have hSr120 := (hA.inS hS)
  refine XD.c (b := 0) (.fieldAddr rfl ((b118).fa (f := 0) (k := 0) (by kernel_rfl))) rfl rfl rfl ?_
  refine XD.ld (b := 1) (After.refl _) SegsOk.nil hkr120 rfl (((b118).base.fst').ldInt vt3) rfl rfl rfl rfl ?_
  refine XD.callV (bb := 3) (After.refl _) (SegsOk.cons ((After.refl _)).next SegsOk.nil) rfl rfl rfl rfl rfl rfl ?_
  intro M121 aM121 oM121
  refine EvF.mono (rCheckRange_ok (aM121.ok hkr120) (aM121.inS hSr120)  ) ?_
  rintro _ _ ⟨rfl, hh⟩
  refine ⟨hh, ?_⟩
  clear hh
  refine XD.c (b := 0) (.fieldAddr rfl ((b118).fa (f := 1) (k := 1) (by kernel_rfl))) rfl rfl rfl ?_
  refine XD.ld (b := 8) (After.refl _) (SegsOk.cons ((After.refl _)).next (SegsOk.cons ((After.refl _)).next SegsOk.nil)) hkr120 rfl ((((b118).base.snd' (m := 1) rfl (b118).isP)).ldInt vt3) rfl rfl rfl rfl ?_
  refine XD.callV (bb := 31) (After.refl _) (SegsOk.cons ((After.refl _)).next (SegsOk.cons ((After.refl _)).next (SegsOk.cons ((After.refl _)).next SegsOk.nil))) rfl rfl rfl rfl rfl rfl ?_
  intro M122 aM122 oM122
  refine EvF.mono (rCheckRange_ok (aM122.ok hkr120) (aM122.inS hSr120)  ) ?_
  rintro _ _ ⟨rfl, hh⟩
  refine ⟨hh, ?_⟩
  clear hh
  refine XD.lit (b := 63) (h := h118) (S := S) (τ := (.int .i64)) (vsC (RepV.ofInt .i64 _) (vs1 (RepV.ofInt .i64 _))) el22 rfl rfl rfl (by simp) (by simp) (by decide) (hA.ok hok) (hA.inS hS) rfl rfl rfl rfl ?_
  intro w123 h123 s123 a123
  have b118o := b118
  have rg120 : Goes h118 S h118 S := Goes.refl
  have ra120 := After.refl h118
  have ok124 := hA.ok hok
  have gg124 : Goes h118 S h123 S := a123.nx ok124
  replace hA := hA.trans a123
  replace b118 := b118.nx gg124
  replace rg120 := rg120.trans gg124
  have ra120_123 := ra120.trans a123
  refine XD.callV (bb := 127) ra120_123 (SegsOk.cons (ra120).next (SegsOk.cons ((After.refl _)).next (SegsOk.cons ((After.refl _)).next (SegsOk.cons ((After.refl _)).next (SegsOk.cons ((After.refl _)).next SegsOk.nil))))) rfl rfl rfl rfl rfl rfl ?_
  intro M125 aM125 oM125
  obtain rfl := oM125 rfl
  refine EvF.mono (rFirst_ok (hA.ok hok) (hA.inS hS) (s123).entry (by simp)) ?_
  rintro _ _ ⟨rfl, hh⟩
  refine ⟨hh, ?_⟩
  clear hh
  refine XD.c (b := 255) (.assign rfl) rfl rfl rfl ?_
  refine XD.nil (thenC.go ?_)
  refine XC.seq ?_
  refine XC.text ?_
  refine XO.c (.move rfl) rfl rfl ?_
  refine XO.c (.neq rfl rfl) rfl rfl ?_
  refine XO.nil (thenC.go ?_)
  refine XC.condD rfl (fun c2 => ?_) (fun c2 => ?_)
  · refine XC.seq ?_
    refine XC.text ?_
    refine XO.c (.move rfl) rfl rfl ?_
    refine XO.c (.assign rfl) rfl rfl ?_
    refine XO.nil (thenC.go ?_)
    refine XC.ret fun tf htf => ?_
    refine thenC_ret ?_
    refine endF.one rfl rfl (htf 2 _ rfl) ?_
    exact ⟨congrArg (Value.int .i64) (by revert c2; simp only [boundsE, firstE]; split <;> simp_all), hA.leftAf rfl⟩
  · have d2 : rangeE b.1 (-1048576) 1048576 = 0 ∧ rangeE b.2 (-1048576) 1048576 = 0 := by
      have := firstE_zero.1 (Decidable.not_not.1 c2)
      exact ⟨this _ (by simp), this _ (by simp)⟩
    refine XC.skip (thenC.go ?_)
    refine XC.seq ?_
    refine XC.seq ?_
    refine XC.text ?_
    refine XO.c (.fieldAddr rfl ((b118).fa (f := 1) (k := 1) (by kernel_rfl))) rfl rfl ?_
    refine XO.r (.load rfl ((((b118).base.snd' (m := 1) rfl (b118).isP)).ldInt vt3)) rfl rfl ?_
    refine XO.c (.fieldAddr rfl ((b118).fa (f := 0) (k := 0) (by kernel_rfl))) rfl rfl ?_
    refine XO.r (.load rfl (((b118).base.fst').ldInt vt3)) rfl rfl ?_
    refine XO.c (.lss rfl rfl) rfl rfl ?_
    refine XO.nil (thenC.go ?_)
    refine XC.condD rfl (fun c4 => ?_) (fun c4 => ?_)
    · refine XC.seq ?_
      refine XC.text ?_
      refine XO.c (.assign rfl) rfl rfl ?_
      refine XO.nil (thenC.go ?_)
      refine XC.ret fun tf htf => ?_
      refine thenC_ret ?_
      refine endF.one rfl rfl (htf 2 _ rfl) ?_
      exact ⟨congrArg (Value.int .i64) (by simp only [boundsE, firstE, d2.1, d2.2, if_true, whenE_t c4]; rfl), hA.leftAf rfl⟩
    · refine XC.skip (thenC.go ?_)
      refine XC.seq ?_
      refine XC.text ?_
      refine XO.c (.assign rfl) rfl rfl ?_
      refine XO.nil (thenC.go ?_)
      refine XC.ret fun tf htf => ?_
      refine endF.one rfl rfl (htf 2 _ rfl) ?_
      exact ⟨congrArg (Value.int .i64) (by simp only [boundsE, firstE, d2.1, d2.2, if_true, whenE_f c4]), hA.leftAf rfl⟩
def len0 (l : List (Int × List Int)) : Nat := (l.map fun c => c.2.length).headD 0
theorem len0_eq {l : List (Int × List Int)} (h : 0 < l.length) : l[0].2.length = len0 l := by
  cases l with
  | nil => simp at h
  | cons x l => rfl
def courseE (n : Nat) (c : Int × List Int) : Int := firstE [rangeE c.1 1 1000, whenE (decide ((c.2.length : Int) = 0)) 12, whenE (decide ((96 : Int) < c.2.length)) 5, whenE (decide ((c.2.length : Int) ≠ n)) 2, heightsE c.2]
def ensembleE (l : List (Int × List Int)) : Int := if (l.length : Int) = 0 then 12 else if (16 : Int) < l.length then 5 else firstE (l.map (courseE (len0 l)))
theorem ens_pre {n : Int} : firstE [whenE (decide (n = 0)) 12, whenE (decide ((16 : Int) < n)) 5] = if n = 0 then 12 else if 16 < n then 5 else 0 := by
  by_cases h1 : n = 0
  · rw [whenE_t h1, if_pos h1]; simp [firstE]
  · rw [whenE_f h1, if_neg h1]
    by_cases h2 : 16 < n
    · rw [whenE_t h2, if_pos h2]; simp [firstE]
    · rw [whenE_f h2, if_neg h2]; simp [firstE]
theorem sEnsemble_ok {h : Heap} {S : List Nat} {v0 : Value} {l : List (Int × (List Int))} (hok : HOk h) (hS : ∀ b ∈ S, b < h.next) (ha0 : SlV h S (.pair (.int .i64) (.sl (.int .i64))) v0 l) (hl : ∀ c ∈ l, c.2.length < 100000) : EvF Tryz.prog OA 46 [v0] h fun r h' => r = .int .i64 (ensembleE l) ∧ h' = h := by
  refine XF.enter Tryz.func46 rfl rfl rfl ?_
  have hok : HOk (entry h) := hok
  have hA := After.refl (entry h)
  replace ha0 := ha0.entry
  show XC Tryz.prog OA none _ _ [] [(0, v0)] (entry h) _
  refine XC.seq ?_
  refine XC.text ?_
  refine XO.c (.assign rfl) rfl rfl ?_
  refine XO.nil (thenC.go ?_)
  refine XC.seq ?_
  refine XC.seq ?_
  refine XC.text ?_
  refine XO.c (.move rfl) rfl rfl ?_
  refine XO.a (.len rfl (ha0.len el64)) rfl rfl ?_
  refine XO.c (.eql rfl rfl) rfl rfl ?_
  refine XO.call rfl rfl rfl rfl ?_
  refine EvF.mono (sWhen_ok (hA.ok hok) (hA.inS hS)  ) ?_
  rintro _ _ ⟨rfl, hh⟩
  obtain rfl := hh.symm
  clear hh
  refine XO.c (.move rfl) rfl rfl ?_
  refine XO.a (.len rfl (ha0.len el64)) rfl rfl ?_
  refine XO.c (.gtr rfl rfl) rfl rfl ?_
  refine XO.call rfl rfl rfl rfl ?_
  refine EvF.mono (sWhen_ok (hA.ok hok) (hA.inS hS)  ) ?_
  rintro _ _ ⟨rfl, hh⟩
  obtain rfl := hh.symm
  clear hh
  refine XO.lit (h := (entry h)) (S := S) (τ := (.int .i64)) (vsC (RepV.ofInt .i64 _) (vs1 (RepV.ofInt .i64 _))) el179 rfl rfl rfl (by simp) (by simp) (by decide) (hA.ok hok) (hA.inS hS) rfl rfl ?_
  intro w128 h128 s128 a128
  have ok129 := hA.ok hok
  have gg129 : Goes (entry h) S h128 S := a128.nx ok129
  replace hA := hA.trans a128
  replace ha0 := ha0.nx gg129
  refine XO.call rfl rfl rfl rfl ?_
  refine EvF.mono (sFirst_ok (hA.ok hok) (hA.inS hS) s128 (by simp)) ?_
  rintro _ _ ⟨rfl, hh⟩
  obtain rfl := hh.symm
  clear hh
  refine XO.c (.assign rfl) rfl rfl ?_
  refine XO.nil (thenC.go ?_)
  refine XC.seq ?_
  refine XC.text ?_
  refine XO.c (.move rfl) rfl rfl ?_
  refine XO.c (.neq rfl rfl) rfl rfl ?_
  refine XO.nil (thenC.go ?_)
  refine XC.condD rfl (fun c2 => ?_) (fun c2 => ?_)
  · refine XC.seq ?_
    refine XC.text ?_
    refine XO.c (.move rfl) rfl rfl ?_
    refine XO.c (.assign rfl) rfl rfl ?_
    refine XO.nil (thenC.go ?_)
    refine XC.ret fun tf htf => ?_
    refine thenC_ret ?_
    refine endF.one rfl rfl (htf 2 _ rfl) ?_
    exact ⟨congrArg (Value.int .i64) (by rw [ens_pre] at c2 ⊢; rw [ensembleE]; split <;> simp_all), hA.leftAf rfl⟩
  · rw [ens_pre] at c2
    have d1 : ¬ (l.length : Int) = 0 := fun h => by simp [h] at c2
    have d2 : ¬ (16 : Int) < l.length := fun h => by simp [h] at c2; omega
    have e0 := len0_eq (l := l) (by omega)
    refine XC.skip (thenC.go ?_)
    refine XC.seq ?_
    refine XC.seq ?_
    refine XC.text ?_
    refine XO.c (.move rfl) rfl rfl ?_
    refine XO.a (.len rfl (ha0.len el64)) rfl rfl ?_
    refine XO.c (.move rfl) rfl rfl ?_
    refine XO.nil (thenC.go ?_)
    refine XC.block ?_
    have hAL131 := hA
    have hkL131 := hA.ok hok
    have hSL131 := (hA.inS hS)
    refine XC.keep [(0, v0), (20, v0), (21, .int .i64 ((l.length : Nat) : Int)), (22, .int .i64 ((0 : Nat) : Int))] ⟨rfl, rfl, rfl, rfl, trivial⟩ ?_
    refine XC.loopI (I := fun (kk : Nat) (ff : FL) (hh : Heap) => ∃ (j : Nat), kk = l.length - j ∧ ff = [(0, v0), (20, v0), (21, .int .i64 ((l.length : Nat) : Int)), (22, .int .i64 ((j : Nat) : Int))] ∧ After (entry h) hh ∧ After h128 hh ∧ Goes h128 S hh S ∧ (j ≤ l.length) ∧ (firstE (l.map (courseE (len0 l))) = firstE ((l.drop j).map (courseE (len0 l))))) ?_ _ _ _ ⟨0, rfl, rfl, hA, After.refl _, Goes.refl, (by omega), (by rfl)⟩
    clear hA
    rintro kk ff hh131 ⟨j, hk131, rfl, hA, aL131, nL131, hj, hf⟩
    replace ha0 := ha0.nx nL131
    replace s128 := s128.nx nL131
    refine XC.seq ?_
    refine XC.text ?_
    refine XO.c (.lss rfl rfl) rfl rfl ?_
    refine XO.nil (thenC.go ?_)
    refine XC.seq ?_
    refine XC.condD rfl (fun c5 => ?_) (fun c5 => ?_)
    · refine XC.skip (thenC.go ?_)
      refine XC.seq ?_
      refine XC.block ?_
      refine XC.seq ?_
      refine XC.text ?_
      refine XO.c (.indexAddr rfl rfl rfl (ha0.ix (j := j) el64 (by omega))) rfl rfl ?_
      obtain ⟨u132, e132, r132⟩ := ((ha0.at (j := j) (by omega))).ldV vt89
      obtain ⟨c133_0, c133_1, rfl, r133_0, r133_1⟩ := r132.st2 rfl rfl
      obtain rfl := r133_0.int
      replace r133_1 := r133_1.sl
      refine XO.r (.load rfl (e132)) rfl rfl ?_
      refine XO.allocP (S := S) (z := .agg #[.int .i64 0, .slice none 0 0]) (by kernel_rfl) rfl rfl aL131 hkL131 (hA.inS hS) rfl rfl ?_
      intro p134 h134 b134 a134 gs134
      have ok135 := hA.ok hok
      have gg135 : Goes hh131 S h134 (ownP p134 ++ S) := gs134
      replace hA := hA.trans a134
      replace aL131 := aL131.trans a134
      replace nL131 := nL131.trans gg135
      replace ha0 := ha0.nx gg135
      replace s128 := s128.nx gg135
      replace r133_1 := r133_1.nx gg135
      refine XO.stP (S := S) (h0 := h128) (τ := (.pair (.int .i64) (.sl (.int .i64)))) rfl rfl b134 (RepV.mk2 (a := (.int .i64)) (b := (.sl (.int .i64))) (x := l[j]) (RepV.ofInt .i64 _) (r133_1).rep rfl rfl) vt89 aL131 ?_
      intro h136 b136 a136 gs136 nx136 fr136
      have ok137 := hA.ok hok
      have gg137 : Goes h134 (ownP p134 ++ S) h136 S := gs136
      replace hA := hAL131.trans a136
      replace aL131 := a136
      replace nL131 := nL131.trans gg137
      replace ha0 := ha0.nx gg137
      replace s128 := s128.nx gg137
      replace r133_1 := r133_1.nx gg137
      refine XO.nil (thenC.go ?_)
      refine XC.seq ?_
      refine XC.drawn ?_
      have hkr138 := hA.ok hok
      have hSr138 := (hA.inS hS)
      have hlj := hl _ (List.getElem_mem (show j < l.length by omega))
      refine XD.c (b := 0) (.fieldAddr rfl ((b136).fa (f := 0) (k := 0) (by kernel_rfl))) rfl rfl rfl ?_
      refine XD.ld (b := 1) (After.refl _) SegsOk.nil hkr138 rfl (((b136).base.fst').ldInt vt3) rfl rfl rfl rfl ?_
      refine XD.callV (bb := 3) (After.refl _) (SegsOk.cons ((After.refl _)).next SegsOk.nil) rfl rfl rfl rfl rfl rfl ?_
      intro M139 aM139 oM139
      refine EvF.mono (sWithin_ok (aM139.ok hkr138) (aM139.inS hSr138)  ) ?_
      rintro _ _ ⟨rfl, hh⟩
      refine ⟨hh, ?_⟩
      clear hh
      refine XD.c (b := 0) (.fieldAddr rfl ((b136).fa (f := 1) (k := 1) (by kernel_rfl))) rfl rfl rfl ?_
      obtain ⟨u140, e140, s140⟩ := (((b136).base.snd' (m := 1) rfl (b136).isP)).ldSl vt22
      refine XD.ld (b := 8) (After.refl _) (SegsOk.cons ((After.refl _)).next (SegsOk.cons ((After.refl _)).next SegsOk.nil)) hkr138 rfl (e140) rfl rfl rfl rfl ?_
      refine XD.a (b := 24) rfl (.len rfl (s140.len el22)) rfl rfl rfl rfl ?_
      refine XD.c (b := 56) (.eql rfl rfl) rfl rfl rfl ?_
      refine XD.callV (bb := 127) (After.refl _) (SegsOk.cons ((After.refl _)).next (SegsOk.cons ((After.refl _)).next (SegsOk.cons ((After.refl _)).next (SegsOk.cons ((After.refl _)).next SegsOk.nil)))) rfl rfl rfl rfl rfl rfl ?_
      intro M141 aM141 oM141
      refine EvF.mono (sWhen_ok (aM141.ok hkr138) (aM141.inS hSr138)  ) ?_
      rintro _ _ ⟨rfl, hh⟩
      refine ⟨hh, ?_⟩
      clear hh
      refine XD.c (b := 0) (.fieldAddr rfl ((b136).fa (f := 1) (k := 1) (by kernel_rfl))) rfl rfl rfl ?_
      obtain ⟨u142, e142, s142⟩ := (((b136).base.snd' (m := 1) rfl (b136).isP)).ldSl vt22
      refine XD.ld (b := 256) (After.refl _) (SegsOk.cons ((After.refl _)).next (SegsOk.cons ((After.refl _)).next (SegsOk.cons ((After.refl _)).next (SegsOk.cons ((After.refl _)).next (SegsOk.cons ((After.refl _)).next SegsOk.nil))))) hkr138 rfl (e142) rfl rfl rfl rfl ?_
      refine XD.a (b := 768) rfl (.len rfl (s142.len el22)) rfl rfl rfl rfl ?_
      refine XD.c (b := 1792) (.gtr rfl rfl) rfl rfl rfl ?_
      refine XD.callV (bb := 4095) (After.refl _) (SegsOk.cons ((After.refl _)).next (SegsOk.cons ((After.refl _)).next (SegsOk.cons ((After.refl _)).next (SegsOk.cons ((After.refl _)).next (SegsOk.cons ((After.refl _)).next (SegsOk.cons ((After.refl _)).next (SegsOk.cons ((After.refl _)).next SegsOk.nil))))))) rfl rfl rfl rfl rfl rfl ?_
      intro M143 aM143 oM143
      refine EvF.mono (sWhen_ok (aM143.ok hkr138) (aM143.inS hSr138)  ) ?_
      rintro _ _ ⟨rfl, hh⟩
      refine ⟨hh, ?_⟩
      clear hh
      refine XD.c (b := 0) (.fieldAddr rfl ((b136).fa (f := 1) (k := 1) (by kernel_rfl))) rfl rfl rfl ?_
      obtain ⟨u144, e144, s144⟩ := (((b136).base.snd' (m := 1) rfl (b136).isP)).ldSl vt22
      refine XD.ld (b := 8192) (After.refl _) (SegsOk.cons ((After.refl _)).next (SegsOk.cons ((After.refl _)).next (SegsOk.cons ((After.refl _)).next (SegsOk.cons ((After.refl _)).next (SegsOk.cons ((After.refl _)).next (SegsOk.cons ((After.refl _)).next (SegsOk.cons ((After.refl _)).next (SegsOk.cons ((After.refl _)).next SegsOk.nil)))))))) hkr138 rfl (e144) rfl rfl rfl rfl ?_
      refine XD.a (b := 24576) rfl (.len rfl (s144.len el22)) rfl rfl rfl rfl ?_
      refine XD.c (b := 0) (.move rfl) rfl rfl rfl ?_
      refine XD.c (b := 65536) (.indexAddr rfl rfl rfl (ha0.ix (j := 0) el64 (by omega))) rfl rfl rfl ?_
      refine XD.c (b := 196608) (.fieldAddr rfl (((ha0.at (j := 0) (by omega))).fa (f := 1) (k := 1) (by kernel_rfl))) rfl rfl rfl ?_
      obtain ⟨u145, e145, s145⟩ := ((((ha0.at (j := 0) (by omega))).base.snd' (m := 1) rfl ((ha0.at (j := 0) (by omega))).isP)).ldSl vt22
      refine XD.ld (b := 458752) (After.refl _) (SegsOk.cons ((After.refl _)).next (SegsOk.cons ((After.refl _)).next (SegsOk.cons ((After.refl _)).next (SegsOk.cons ((After.refl _)).next (SegsOk.cons ((After.refl _)).next (SegsOk.cons ((After.refl _)).next (SegsOk.cons ((After.refl _)).next (SegsOk.cons ((After.refl _)).next (SegsOk.cons ((After.refl _)).next (SegsOk.cons ((After.refl _)).next SegsOk.nil)))))))))) hkr138 rfl (e145) rfl rfl rfl rfl ?_
      refine XD.a (b := 983040) rfl (.len rfl (s145.len el22)) rfl rfl rfl rfl ?_
      refine XD.c (b := 2088960) (.neq rfl rfl) rfl rfl rfl ?_
      refine XD.callV (bb := 4194303) (After.refl _) (SegsOk.cons ((After.refl _)).next (SegsOk.cons ((After.refl _)).next (SegsOk.cons ((After.refl _)).next (SegsOk.cons ((After.refl _)).next (SegsOk.cons ((After.refl _)).next (SegsOk.cons ((After.refl _)).next (SegsOk.cons ((After.refl _)).next (SegsOk.cons ((After.refl _)).next (SegsOk.cons ((After.refl _)).next (SegsOk.cons ((After.refl _)).next (SegsOk.cons ((After.refl _)).next (SegsOk.cons ((After.refl _)).next SegsOk.nil)))))))))))) rfl rfl rfl rfl rfl rfl ?_
      intro M146 aM146 oM146
      refine EvF.mono (sWhen_ok (aM146.ok hkr138) (aM146.inS hSr138)  ) ?_
      rintro _ _ ⟨rfl, hh⟩
      refine ⟨hh, ?_⟩
      clear hh
      refine XD.c (b := 0) (.fieldAddr rfl ((b136).fa (f := 1) (k := 1) (by kernel_rfl))) rfl rfl rfl ?_
      obtain ⟨u147, e147, s147⟩ := (((b136).base.snd' (m := 1) rfl (b136).isP)).ldSl vt22
      refine XD.ld (b := 8388608) (After.refl _) (SegsOk.cons ((After.refl _)).next (SegsOk.cons ((After.refl _)).next (SegsOk.cons ((After.refl _)).next (SegsOk.cons ((After.refl _)).next (SegsOk.cons ((After.refl _)).next (SegsOk.cons ((After.refl _)).next (SegsOk.cons ((After.refl _)).next (SegsOk.cons ((After.refl _)).next (SegsOk.cons ((After.refl _)).next (SegsOk.cons ((After.refl _)).next (SegsOk.cons ((After.refl _)).next (SegsOk.cons ((After.refl _)).next (SegsOk.cons ((After.refl _)).next SegsOk.nil))))))))))))) hkr138 rfl (e147) rfl rfl rfl rfl ?_
      refine XD.callV (bb := 33554431) (After.refl _) (SegsOk.cons ((After.refl _)).next (SegsOk.cons ((After.refl _)).next (SegsOk.cons ((After.refl _)).next (SegsOk.cons ((After.refl _)).next (SegsOk.cons ((After.refl _)).next (SegsOk.cons ((After.refl _)).next (SegsOk.cons ((After.refl _)).next (SegsOk.cons ((After.refl _)).next (SegsOk.cons ((After.refl _)).next (SegsOk.cons ((After.refl _)).next (SegsOk.cons ((After.refl _)).next (SegsOk.cons ((After.refl _)).next (SegsOk.cons ((After.refl _)).next (SegsOk.cons ((After.refl _)).next SegsOk.nil)))))))))))))) rfl rfl rfl rfl rfl rfl ?_
      intro M148 aM148 oM148
      refine EvF.mono (sHeights_ok (aM148.ok hkr138) (aM148.inS hSr138) (s147.nx (aM148.nx hkr138)) (by first | assumption | omega)) ?_
      rintro _ _ ⟨rfl, hh⟩
      refine ⟨hh, ?_⟩
      clear hh
      refine XD.lit (b := 67108863) (h := h136) (S := S) (τ := (.int .i64)) (vsC (RepV.ofInt .i64 _) (vsC (RepV.ofInt .i64 _) (vsC (RepV.ofInt .i64 _) (vsC (RepV.ofInt .i64 _) (vs1 (RepV.ofInt .i64 _)))))) el179 rfl rfl rfl (by simp) (by simp) (by decide) (hA.ok hok) (hA.inS hS) rfl rfl rfl rfl ?_
      intro w149 h149 s149 a149
      have ha0o := ha0
      have s128o := s128
      have r133_1o := r133_1
      have b136o := b136
      have s140o := s140
      have s142o := s142
      have s144o := s144
      have s145o := s145
      have s147o := s147
      have rg138 : Goes h136 S h136 S := Goes.refl
      have ra138 := After.refl h136
      have ok150 := hA.ok hok
      have gg150 : Goes h136 S h149 S := a149.nx ok150
      replace hA := hA.trans a149
      replace aL131 := aL131.trans a149
      replace nL131 := nL131.trans gg150
      replace ha0 := ha0.nx gg150
      replace s128 := s128.nx gg150
      replace r133_1 := r133_1.nx gg150
      replace b136 := b136.nx gg150
      replace s140 := s140.nx gg150
      replace s142 := s142.nx gg150
      replace s144 := s144.nx gg150
      replace s145 := s145.nx gg150
      replace s147 := s147.nx gg150
      replace rg138 := rg138.trans gg150
      have ra138_149 := ra138.trans a149
      refine XD.callV (bb := 134217727) ra138_149 (SegsOk.cons (ra138).next (SegsOk.cons ((After.refl _)).next (SegsOk.cons ((After.refl _)).next (SegsOk.cons ((After.refl _)).next (SegsOk.cons ((After.refl _)).next (SegsOk.cons ((After.refl _)).next (SegsOk.cons ((After.refl _)).next (SegsOk.cons ((After.refl _)).next (SegsOk.cons ((After.refl _)).next (SegsOk.cons ((After.refl _)).next (SegsOk.cons ((After.refl _)).next (SegsOk.cons ((After.refl _)).next (SegsOk.cons ((After.refl _)).next (SegsOk.cons ((After.refl _)).next (SegsOk.cons ((After.refl _)).next (SegsOk.cons ((After.refl _)).next SegsOk.nil)))))))))))))))) rfl rfl rfl rfl rfl rfl ?_
      intro M151 aM151 oM151
      obtain rfl := oM151 rfl
      refine EvF.mono (sFirst_ok (hA.ok hok) (hA.inS hS) (s149).entry (by simp)) ?_
      rintro _ _ ⟨rfl, hh⟩
      refine ⟨hh, ?_⟩
      clear hh
      refine XD.c (b := 268435455) (.assign rfl) rfl rfl rfl ?_
      refine XD.nil (thenC.go ?_)
      refine XC.seq ?_
      refine XC.text ?_
      refine XO.c (.move rfl) rfl rfl ?_
      refine XO.c (.neq rfl rfl) rfl rfl ?_
      refine XO.nil (thenC.go ?_)
      refine XC.condD rfl (fun c8 => ?_) (fun c8 => ?_)
      · refine XC.seq ?_
        refine XC.text ?_
        refine XO.c (.move rfl) rfl rfl ?_
        refine XO.c (.assign rfl) rfl rfl ?_
        refine XO.nil (thenC.go ?_)
        refine XC.ret fun tf htf => ?_
        refine inBlock_ret ?_
        refine thenC_ret ?_
        refine loopQ_ret ?_
        refine inBlock_ret ?_
        refine thenC_ret ?_
        refine endF.one rfl rfl (htf 2 _ rfl) ?_
        exact ⟨congrArg (Value.int .i64) (by rw [ensembleE, if_neg d1, if_neg d2, hf, firstE_map_drop (by omega), if_neg (by rw [courseE, ← e0]; exact c8), courseE, ← e0]), hA.leftAf rfl⟩
      · refine XC.skip ?_
        intro tf htf
        refine inBlock_nrm ?_
        refine thenC.go ?_ tf htf
        refine XC.text ?_
        refine XO.c (.add rfl rfl (by omega)) rfl rfl ?_
        refine XO.c (.move rfl) rfl rfl ?_
        refine XO.nil ?_
        intro tf htf
        refine ⟨rfl, rfl, _, [(0, v0), (20, v0), (21, .int .i64 ((l.length : Nat) : Int)), (22, .int .i64 (((j + 1) : Nat) : Int))], ?_, htf.keep _ ⟨rfl, rfl, rfl, rfl, trivial⟩, (j + 1), rfl, rfl, hA, aL131, nL131, (by omega), (by rw [hf, firstE_map_drop (by omega), if_pos (by rw [courseE, ← e0]; simpa using c8)])⟩
        omega
    · refine XC.exit ?_
      intro tf htf
      refine thenC_exit ?_
      refine loopQ_exit ?_
      refine inBlock_eq ?_
      refine thenC.go ?_ tf htf
      refine XC.seq ?_
      refine XC.text ?_
      refine XO.c (.assign rfl) rfl rfl ?_
      refine XO.nil (thenC.go ?_)
      refine XC.ret fun tf htf => ?_
      refine endF.one rfl rfl (htf 2 _ rfl) ?_
      exact ⟨congrArg (Value.int .i64) (by rw [ensembleE, if_neg d1, if_neg d2, hf, firstE_map_end (by omega)]), hA.leftAf rfl⟩
theorem rEnsemble_ok {h : Heap} {S : List Nat} {v0 : Value} {l : List (Int × (List Int))} (hok : HOk h) (hS : ∀ b ∈ S, b < h.next) (ha0 : SlV h S (.pair (.int .i64) (.sl (.int .i64))) v0 l) (hl : ∀ c ∈ l, c.2.length < 100000) : EvF Tryz.prog OA 39 [v0] h fun r h' => r = .int .i64 (ensembleE l) ∧ h' = h := by
  refine XF.enter Tryz.func39 rfl rfl rfl ?_
  have hok : HOk (entry h) := hok
  have hA := After.refl (entry h)
  replace ha0 := ha0.entry
  show XC Tryz.prog OA none _ _ [] [(0, v0)] (entry h) _
  refine XC.seq ?_
  refine XC.text ?_
  refine XO.c (.assign rfl) rfl rfl ?_
  refine XO.nil (thenC.go ?_)
  refine XC.seq ?_
  refine XC.seq ?_
  refine XC.text ?_
  refine XO.c (.move rfl) rfl rfl ?_
  refine XO.a (.len rfl (ha0.len el54)) rfl rfl ?_
  refine XO.c (.eql rfl rfl) rfl rfl ?_
  refine XO.nil (thenC.go ?_)
  refine XC.condD rfl (fun c1 => ?_) (fun c1 => ?_)
  · refine XC.seq ?_
    refine XC.text ?_
    refine XO.c (.assign rfl) rfl rfl ?_
    refine XO.nil (thenC.go ?_)
    refine XC.ret fun tf htf => ?_
    refine thenC_ret ?_
    refine endF.one rfl rfl (htf 2 _ rfl) ?_
    exact ⟨congrArg (Value.int .i64) (by rw [ensembleE, if_pos c1]), hA.leftAf rfl⟩
  · refine XC.skip (thenC.go ?_)
    refine XC.seq ?_
    refine XC.seq ?_
    refine XC.text ?_
    refine XO.c (.move rfl) rfl rfl ?_
    refine XO.a (.len rfl (ha0.len el54)) rfl rfl ?_
    refine XO.c (.gtr rfl rfl) rfl rfl ?_
    refine XO.nil (thenC.go ?_)
    refine XC.condD rfl (fun c3 => ?_) (fun c3 => ?_)
    · refine XC.seq ?_
      refine XC.text ?_
      refine XO.c (.assign rfl) rfl rfl ?_
      refine XO.nil (thenC.go ?_)
      refine XC.ret fun tf htf => ?_
      refine thenC_ret ?_
      refine endF.one rfl rfl (htf 2 _ rfl) ?_
      exact ⟨congrArg (Value.int .i64) (by rw [ensembleE, if_neg c1, if_pos c3]), hA.leftAf rfl⟩
    · refine XC.skip (thenC.go ?_)
      refine XC.seq ?_
      refine XC.seq ?_
      refine XC.text ?_
      refine XO.c (.assign rfl) rfl rfl ?_
      refine XO.nil (thenC.go ?_)
      refine XC.block ?_
      have hAL152 := hA
      have hkL152 := hA.ok hok
      have hSL152 := (hA.inS hS)
      refine XC.keep [(0, v0), (3, .int .i64 ((0 : Nat) : Int))] ⟨rfl, rfl, trivial⟩ ?_
      refine XC.loopI (I := fun (kk : Nat) (ff : FL) (hh : Heap) => ∃ (j : Nat), kk = l.length - j ∧ ff = [(0, v0), (3, .int .i64 ((j : Nat) : Int))] ∧ After (entry h) hh ∧ After (entry h) hh ∧ Goes (entry h) S hh S ∧ (j ≤ l.length) ∧ (firstE (l.map (courseE (len0 l))) = firstE ((l.drop j).map (courseE (len0 l))))) ?_ _ _ _ ⟨0, rfl, rfl, hA, After.refl _, Goes.refl, (by omega), (by rfl)⟩
      clear hA
      rintro kk ff hh152 ⟨j, hk152, rfl, hA, aL152, nL152, hj, hf⟩
      replace ha0 := ha0.nx nL152
      refine XC.seq ?_
      refine XC.seq ?_
      refine XC.text ?_
      refine XO.c (.move rfl) rfl rfl ?_
      refine XO.c (.move rfl) rfl rfl ?_
      refine XO.a (.len rfl (ha0.len el54)) rfl rfl ?_
      refine XO.c (.lss rfl rfl) rfl rfl ?_
      refine XO.nil (thenC.go ?_)
      refine XC.condD rfl (fun c6 => ?_) (fun c6 => ?_)
      · refine XC.skip (thenC.go ?_)
        refine XC.seq ?_
        refine XC.block ?_
        refine XC.seq ?_
        refine XC.seq ?_
        refine XC.text ?_
        have e0 := len0_eq (l := l) (by omega)
        have hlj := hl _ (List.getElem_mem (show j < l.length by omega))
        refine XO.c (.move rfl) rfl rfl ?_
        refine XO.c (.move rfl) rfl rfl ?_
        refine XO.c (.indexAddr rfl rfl rfl (ha0.ix (j := j) el54 (by omega))) rfl rfl ?_
        refine XO.c (.fieldAddr rfl (((ha0.at (j := j) (by omega))).fa (f := 0) (k := 0) (by kernel_rfl))) rfl rfl ?_
        refine XO.r (.load rfl ((((ha0.at (j := j) (by omega))).base.fst').ldInt vt3)) rfl rfl ?_
        refine XO.call rfl rfl rfl rfl ?_
        refine EvF.mono (rCheckRange_ok (hA.ok hok) (hA.inS hS)  ) ?_
        rintro _ _ ⟨rfl, hh⟩
        obtain rfl := hh.symm
        clear hh
        refine XO.c (.assign rfl) rfl rfl ?_
        refine XO.nil (thenC.go ?_)
        refine XC.seq ?_
        refine XC.text ?_
        refine XO.c (.move rfl) rfl rfl ?_
        refine XO.c (.neq rfl rfl) rfl rfl ?_
        refine XO.nil (thenC.go ?_)
        refine XC.condD rfl (fun c9 => ?_) (fun c9 => ?_)
        · refine XC.seq ?_
          refine XC.text ?_
          refine XO.c (.move rfl) rfl rfl ?_
          refine XO.c (.assign rfl) rfl rfl ?_
          refine XO.nil (thenC.go ?_)
          refine XC.ret fun tf htf => ?_
          refine thenC_ret ?_
          refine inBlock_ret ?_
          refine thenC_ret ?_
          refine loopQ_ret ?_
          refine inBlock_ret ?_
          refine thenC_ret ?_
          refine endF.one rfl rfl (htf 2 _ rfl) ?_
          exact ⟨congrArg (Value.int .i64) (by rw [ensembleE, if_neg c1, if_neg c3, hf, firstE_map_drop (by omega)]; simp [courseE, firstE, c9]), hA.leftAf rfl⟩
        · refine XC.skip (thenC.go ?_)
          refine XC.seq ?_
          refine XC.seq ?_
          refine XC.text ?_
          refine XO.c (.move rfl) rfl rfl ?_
          refine XO.c (.move rfl) rfl rfl ?_
          refine XO.c (.indexAddr rfl rfl rfl (ha0.ix (j := j) el54 (by omega))) rfl rfl ?_
          refine XO.c (.fieldAddr rfl (((ha0.at (j := j) (by omega))).fa (f := 1) (k := 1) (by kernel_rfl))) rfl rfl ?_
          obtain ⟨u154, e154, s154⟩ := ((((ha0.at (j := j) (by omega))).base.snd' (m := 1) rfl ((ha0.at (j := j) (by omega))).isP)).ldSl vt22
          refine XO.r (.load rfl (e154)) rfl rfl ?_
          refine XO.a (.len rfl (s154.len el22)) rfl rfl ?_
          refine XO.c (.eql rfl rfl) rfl rfl ?_
          refine XO.nil (thenC.go ?_)
          refine XC.condD rfl (fun c11 => ?_) (fun c11 => ?_)
          · refine XC.seq ?_
            refine XC.text ?_
            refine XO.c (.assign rfl) rfl rfl ?_
            refine XO.nil (thenC.go ?_)
            refine XC.ret fun tf htf => ?_
            refine thenC_ret ?_
            refine inBlock_ret ?_
            refine thenC_ret ?_
            refine loopQ_ret ?_
            refine inBlock_ret ?_
            refine thenC_ret ?_
            refine endF.one rfl rfl (htf 2 _ rfl) ?_
            exact ⟨congrArg (Value.int .i64) (by rw [ensembleE, if_neg c1, if_neg c3, hf, firstE_map_drop (by omega)]; simp only [courseE, firstE, Decidable.not_not.1 c9, whenE_t c11, if_true]; rfl), hA.leftAf rfl⟩
          · refine XC.skip (thenC.go ?_)
            refine XC.seq ?_
            refine XC.seq ?_
            refine XC.text ?_
            refine XO.c (.move rfl) rfl rfl ?_
            refine XO.c (.move rfl) rfl rfl ?_
            refine XO.c (.indexAddr rfl rfl rfl (ha0.ix (j := j) el54 (by omega))) rfl rfl ?_
            refine XO.c (.fieldAddr rfl (((ha0.at (j := j) (by omega))).fa (f := 1) (k := 1) (by kernel_rfl))) rfl rfl ?_
            obtain ⟨u155, e155, s155⟩ := ((((ha0.at (j := j) (by omega))).base.snd' (m := 1) rfl ((ha0.at (j := j) (by omega))).isP)).ldSl vt22
            refine XO.r (.load rfl (e155)) rfl rfl ?_
            refine XO.a (.len rfl (s155.len el22)) rfl rfl ?_
            refine XO.c (.gtr rfl rfl) rfl rfl ?_
            refine XO.nil (thenC.go ?_)
            refine XC.condD rfl (fun c13 => ?_) (fun c13 => ?_)
            · refine XC.seq ?_
              refine XC.text ?_
              refine XO.c (.assign rfl) rfl rfl ?_
              refine XO.nil (thenC.go ?_)
              refine XC.ret fun tf htf => ?_
              refine thenC_ret ?_
              refine inBlock_ret ?_
              refine thenC_ret ?_
              refine loopQ_ret ?_
              refine inBlock_ret ?_
              refine thenC_ret ?_
              refine endF.one rfl rfl (htf 2 _ rfl) ?_
              exact ⟨congrArg (Value.int .i64) (by rw [ensembleE, if_neg c1, if_neg c3, hf, firstE_map_drop (by omega)]; simp only [courseE, firstE, Decidable.not_not.1 c9, whenE_f c11, whenE_t c13, if_true]; rfl), hA.leftAf rfl⟩
            · refine XC.skip (thenC.go ?_)
              refine XC.seq ?_
              refine XC.seq ?_
              refine XC.drawn ?_
              have hkr156 := hA.ok hok
              have hSr156 := (hA.inS hS)
              refine XD.c (b := 0) (.move rfl) rfl rfl rfl ?_
              refine XD.c (b := 0) (.move rfl) rfl rfl rfl ?_
              refine XD.c (b := 3) (.indexAddr rfl rfl rfl (ha0.ix (j := j) el54 (by omega))) rfl rfl rfl ?_
              refine XD.c (b := 7) (.fieldAddr rfl (((ha0.at (j := j) (by omega))).fa (f := 1) (k := 1) (by kernel_rfl))) rfl rfl rfl ?_
              obtain ⟨u157, e157, s157⟩ := ((((ha0.at (j := j) (by omega))).base.snd' (m := 1) rfl ((ha0.at (j := j) (by omega))).isP)).ldSl vt22
              refine XD.ld (b := 15) (After.refl _) SegsOk.nil hkr156 rfl (e157) rfl rfl rfl rfl ?_
              refine XD.a (b := 31) rfl (.len rfl (s157.len el22)) rfl rfl rfl rfl ?_
              refine XD.c (b := 0) (.move rfl) rfl rfl rfl ?_
              refine XD.c (b := 64) (.indexAddr rfl rfl rfl (ha0.ix (j := 0) el54 (by omega))) rfl rfl rfl ?_
              refine XD.c (b := 192) (.fieldAddr rfl (((ha0.at (j := 0) (by omega))).fa (f := 1) (k := 1) (by kernel_rfl))) rfl rfl rfl ?_
              obtain ⟨u158, e158, s158⟩ := ((((ha0.at (j := 0) (by omega))).base.snd' (m := 1) rfl ((ha0.at (j := 0) (by omega))).isP)).ldSl vt22
              refine XD.ld (b := 448) (After.refl _) (SegsOk.cons ((After.refl _)).next (SegsOk.cons ((After.refl _)).next SegsOk.nil)) hkr156 rfl (e158) rfl rfl rfl rfl ?_
              refine XD.a (b := 960) rfl (.len rfl (s158.len el22)) rfl rfl rfl rfl ?_
              refine XD.c (b := 2047) (.neq rfl rfl) rfl rfl rfl ?_
              refine XD.nil (thenC.go ?_)
              refine XC.condD rfl (fun c15 => ?_) (fun c15 => ?_)
              · refine XC.seq ?_
                refine XC.text ?_
                refine XO.c (.assign rfl) rfl rfl ?_
                refine XO.nil (thenC.go ?_)
                refine XC.ret fun tf htf => ?_
                refine thenC_ret ?_
                refine inBlock_ret ?_
                refine thenC_ret ?_
                refine loopQ_ret ?_
                refine inBlock_ret ?_
                refine thenC_ret ?_
                refine endF.one rfl rfl (htf 2 _ rfl) ?_
                exact ⟨congrArg (Value.int .i64) (by rw [ensembleE, if_neg c1, if_neg c3, hf, firstE_map_drop (by omega)]; simp only [courseE, ← e0, firstE, Decidable.not_not.1 c9, whenE_f c11, whenE_f c13, whenE_t c15, if_true]; rfl), hA.leftAf rfl⟩
              · refine XC.skip (thenC.go ?_)
                refine XC.seq ?_
                refine XC.text ?_
                refine XO.c (.move rfl) rfl rfl ?_
                refine XO.c (.move rfl) rfl rfl ?_
                refine XO.c (.indexAddr rfl rfl rfl (ha0.ix (j := j) el54 (by omega))) rfl rfl ?_
                refine XO.c (.fieldAddr rfl (((ha0.at (j := j) (by omega))).fa (f := 1) (k := 1) (by kernel_rfl))) rfl rfl ?_
                obtain ⟨u159, e159, s159⟩ := ((((ha0.at (j := j) (by omega))).base.snd' (m := 1) rfl ((ha0.at (j := j) (by omega))).isP)).ldSl vt22
                refine XO.r (.load rfl (e159)) rfl rfl ?_
                refine XO.call rfl rfl rfl rfl ?_
                refine EvF.mono (rHeights_ok (hA.ok hok) (hA.inS hS) s159 (by first | assumption | omega)) ?_
                rintro _ _ ⟨rfl, hh⟩
                obtain rfl := hh.symm
                clear hh
                refine XO.c (.assign rfl) rfl rfl ?_
                refine XO.nil (thenC.go ?_)
                refine XC.seq ?_
                refine XC.text ?_
                refine XO.c (.move rfl) rfl rfl ?_
                refine XO.c (.neq rfl rfl) rfl rfl ?_
                refine XO.nil (thenC.go ?_)
                refine XC.condD rfl (fun c18 => ?_) (fun c18 => ?_)
                · refine XC.seq ?_
                  refine XC.text ?_
                  refine XO.c (.move rfl) rfl rfl ?_
                  refine XO.c (.assign rfl) rfl rfl ?_
                  refine XO.nil (thenC.go ?_)
                  refine XC.ret fun tf htf => ?_
                  refine inBlock_ret ?_
                  refine thenC_ret ?_
                  refine loopQ_ret ?_
                  refine inBlock_ret ?_
                  refine thenC_ret ?_
                  refine endF.one rfl rfl (htf 2 _ rfl) ?_
                  exact ⟨congrArg (Value.int .i64) (by rw [ensembleE, if_neg c1, if_neg c3, hf, firstE_map_drop (by omega)]; simp only [courseE, ← e0, firstE, Decidable.not_not.1 c9, whenE_f c11, whenE_f c13, whenE_f c15, if_true, if_neg c18]), hA.leftAf rfl⟩
                · refine XC.skip ?_
                  intro tf htf
                  refine inBlock_nrm ?_
                  refine thenC.go ?_ tf htf
                  refine XC.text ?_
                  refine XO.c (.move rfl) rfl rfl ?_
                  refine XO.c (.add rfl rfl (by omega)) rfl rfl ?_
                  refine XO.c (.assign rfl) rfl rfl ?_
                  refine XO.nil ?_
                  intro tf htf
                  refine ⟨rfl, rfl, _, [(0, v0), (3, .int .i64 (((j + 1) : Nat) : Int))], ?_, htf.keep _ ⟨rfl, rfl, trivial⟩, (j + 1), rfl, rfl, hA, aL152, nL152, (by omega), (by rw [hf, firstE_map_drop (by omega), if_pos (by simp only [courseE, ← e0, firstE, Decidable.not_not.1 c9, whenE_f c11, whenE_f c13, whenE_f c15, Decidable.not_not.1 c18, if_true])])⟩
                  omega
      · refine XC.exit ?_
        intro tf htf
        refine thenC_exit ?_
        refine loopQ_exit ?_
        refine inBlock_eq ?_
        refine thenC.go ?_ tf htf
        refine XC.seq ?_
        refine XC.text ?_
        refine XO.c (.assign rfl) rfl rfl ?_
        refine XO.nil (thenC.go ?_)
        refine XC.ret fun tf htf => ?_
        refine endF.one rfl rfl (htf 2 _ rfl) ?_
        exact ⟨congrArg (Value.int .i64) (by rw [ensembleE, if_neg c1, if_neg c3, hf, firstE_map_end (by omega)]), hA.leftAf rfl⟩
end Go.Proofs
namespace Go.Proofs
open Go.Fs
set_option linter.unusedVariables false
theorem el81 : ElT Tryz.prog 81 41 (.pair (.int .i64) (.int .i64)) := elT_of (by kernel_rfl)
structure OkC (n : Nat) (c : Int × List Int) : Prop where
  w : 1 ≤ c.1 ∧ c.1 ≤ 1000
  len : c.2.length = n
  pos : 0 < n
  top : n ≤ 96
  all : ∀ x ∈ c.2, -1048576 ≤ x ∧ x ≤ 1048576
structure OkE (l : List (Int × List Int)) : Prop where
  pos : 0 < l.length
  top : l.length ≤ 16
  all : ∀ c ∈ l, OkC (len0 l) c
structure OkB (b : Int × Int) : Prop where
  lo : -1048576 ≤ b.1 ∧ b.1 ≤ 1048576
  hi : -1048576 ≤ b.2 ∧ b.2 ≤ 1048576
  le : b.1 ≤ b.2
theorem whenE_zero {p : Prop} {inst : Decidable p} {e : Int} (he : e ≠ 0) (h : whenE (@decide p inst) e = 0) : ¬ p := fun hp => he (by rw [whenE_t hp] at h; exact h)
theorem boundsE_ok {b : Int × Int} (h : boundsE b = 0) : OkB b := by
  rw [boundsE, firstE_zero] at h
  have h1 := h _ (by simp : rangeE b.1 (-1048576) 1048576 ∈ _)
  have h2 := h _ (by simp : rangeE b.2 (-1048576) 1048576 ∈ _)
  have h3 := whenE_zero (by decide) (h _ (by simp : whenE (decide (b.2 < b.1)) 11 ∈ _))
  exact ⟨rangeE_zero.1 h1, rangeE_zero.1 h2, by omega⟩
theorem courseE_ok {n : Nat} {c : Int × List Int} (h : courseE n c = 0) : OkC n c := by
  rw [courseE, firstE_zero] at h
  have h1 := rangeE_zero.1 (h _ (by simp : rangeE c.1 1 1000 ∈ _))
  have h2 := whenE_zero (by decide) (h _ (by simp : whenE (decide ((c.2.length : Int) = 0)) 12 ∈ _))
  have h3 := whenE_zero (by decide) (h _ (by simp : whenE (decide ((96 : Int) < c.2.length)) 5 ∈ _))
  have h4 := whenE_zero (by decide) (h _ (by simp : whenE (decide ((c.2.length : Int) ≠ n)) 2 ∈ _))
  have h5 := h _ (by simp : heightsE c.2 ∈ _)
  exact ⟨h1, by omega, by omega, by omega, heightsE_ok h5⟩
theorem ensembleE_ok {l : List (Int × List Int)} (h : ensembleE l = 0) : OkE l := by
  unfold ensembleE at h
  by_cases h1 : (l.length : Int) = 0
  · rw [if_pos h1] at h; simp at h
  · rw [if_neg h1] at h
    by_cases h2 : (16 : Int) < l.length
    · rw [if_pos h2] at h; simp at h
    · rw [if_neg h2, firstE_zero] at h
      exact ⟨by omega, by omega, fun c hc => courseE_ok (h _ (List.mem_map_of_mem hc))⟩
theorem sMapCI_ok {h : Heap} {S : List Nat} {v0 : Value} {l : List (Int × (List Int))} {f_f : FuncId} {f_a f_b : Array Value} {F : Int × List Int → Int} (hok : HOk h) (hS : ∀ b ∈ S, b < h.next) (ha0 : SlV h S (.pair (.int .i64) (.sl (.int .i64))) v0 l) (hl : l.length < 100000) (hf : ∀ {h2 : Heap} {S2 : List Nat} {v : Value} {x : Int × List Int}, HOk h2 → (∀ b ∈ S2, b < h2.next) → RepV h2 S2 (.pair (.int .i64) (.sl (.int .i64))) v x → After h h2 → x ∈ l → EvF Tryz.prog OA f_f (f_a.toList ++ [v] ++ f_b.toList) h2 fun r h' => r = .int .i64 (F x) ∧ h' = h2) : EvF Tryz.prog OA 117 [v0, .func (.func f_f) f_a f_b] h fun r h' => After h h' ∧ SlV h' S (.int .i64) r (l.map F) := by
  refine XF.enter Tryz.func117 rfl rfl rfl ?_
  have hok : HOk (entry h) := hok
  have hA := After.refl (entry h)
  replace ha0 := ha0.entry
  show XC Tryz.prog OA none _ _ [] [(0, v0), (1, .func (.func f_f) f_a f_b)] (entry h) _
  refine XC.seq ?_
  refine XC.text ?_
  refine XO.c (.assign rfl) rfl rfl ?_
  refine XO.nil (thenC.go ?_)
  refine XC.seq ?_
  refine XC.text ?_
  refine XO.c (.assign rfl) rfl rfl ?_
  refine XO.nil (thenC.go ?_)
  refine XC.seq ?_
  refine XC.seq ?_
  refine XC.text ?_
  refine XO.c (.move rfl) rfl rfl ?_
  refine XO.a (.len rfl (ha0.len el64)) rfl rfl ?_
  refine XO.c (.move rfl) rfl rfl ?_
  refine XO.nil (thenC.go ?_)
  refine XC.block ?_
  have hAL101 := hA
  have hkL101 := hA.ok hok
  have hSL101 := (hA.inS hS)
  refine XC.keep [(1, .func (.func f_f) f_a f_b), (5, .slice none 0 0), (8, v0), (9, .int .i64 ((l.length : Nat) : Int)), (10, .int .i64 ((0 : Nat) : Int))] ⟨rfl, rfl, rfl, rfl, rfl, trivial⟩ ?_
  refine XC.loopI (I := fun (kk : Nat) (ff : FL) (hh : Heap) => ∃ (j : Nat) (out : Value), kk = l.length - j ∧ ff = [(1, .func (.func f_f) f_a f_b), (5, out), (8, v0), (9, .int .i64 ((l.length : Nat) : Int)), (10, .int .i64 ((j : Nat) : Int))] ∧ After (entry h) hh ∧ After (entry h) hh ∧ Goes (entry h) S hh (ownB out ++ S) ∧ GrowR hh (ownB out ++ S) (entry h).next 3 true (.int .i64) out ((l.take j).map F) ∧ (j ≤ l.length)) ?_ _ _ _ ⟨0, .slice none 0 0, rfl, rfl, hA, After.refl _, Goes.refl, (GrowR.nil), (by omega)⟩
  clear hA
  rintro kk ff hh101 ⟨j, out, hk101, rfl, hA, aL101, nL101, g_out101, hj⟩
  replace ha0 := ha0.nx nL101
  refine XC.seq ?_
  refine XC.text ?_
  refine XO.c (.lss rfl rfl) rfl rfl ?_
  refine XO.nil (thenC.go ?_)
  refine XC.seq ?_
  refine XC.condD rfl (fun c3 => ?_) (fun c3 => ?_)
  · refine XC.skip (thenC.go ?_)
    refine XC.seq ?_
    refine XC.block ?_
    refine XC.seq ?_
    refine XC.text ?_
    refine XO.c (.indexAddr rfl rfl rfl (ha0.ix (j := j) el64 (by omega))) rfl rfl ?_
    obtain ⟨u102, e102, r102⟩ := ((ha0.at (j := j) (by omega))).ldV vt89
    obtain ⟨c103_0, c103_1, rfl, r103_0, r103_1⟩ := r102.st2 rfl rfl
    obtain rfl := r103_0.int
    replace r103_1 := r103_1.sl
    refine XO.r (.load rfl (e102)) rfl rfl ?_
    refine XO.allocP (S := (ownB out ++ S)) (z := .agg #[.int .i64 0, .slice none 0 0]) (by kernel_rfl) rfl rfl aL101 hkL101 (g_out101.inS (hA.ok hok) (hA.inS hS)) rfl rfl ?_
    intro p104 h104 b104 a104 gs104
    have ok105 := hA.ok hok
    have gg105 : Goes hh101 (ownB out ++ S) h104 (ownP p104 ++ (ownB out ++ S)) := gs104
    replace hA := hA.trans a104
    replace aL101 := aL101.trans a104
    replace nL101 := nL101.trans gg105
    replace ha0 := ha0.nx gg105
    replace r103_1 := r103_1.nx gg105
    replace g_out101 := g_out101.up a104 ok105 gg105 (fun b hb => by simp [hb])
    refine XO.stP (S := (ownB out ++ S)) (h0 := (entry h)) (τ := (.pair (.int .i64) (.sl (.int .i64)))) rfl rfl b104 (RepV.mk2 (a := (.int .i64)) (b := (.sl (.int .i64))) (x := l[j]) (RepV.ofInt .i64 _) (r103_1).rep rfl rfl) vt89 aL101 ?_
    intro h106 b106 a106 gs106 nx106 fr106
    have ok107 := hA.ok hok
    have gg107 : Goes h104 (ownP p104 ++ (ownB out ++ S)) h106 (ownB out ++ S) := gs106
    replace hA := hAL101.trans a106
    replace aL101 := a106
    replace nL101 := nL101.trans gg107
    replace ha0 := ha0.nx gg107
    replace r103_1 := r103_1.nx gg107
    replace g_out101 := g_out101.chg (fun b hb => fr106 b (by simp [hb])) gg107 (fun b hb => by simp [hb])
    refine XO.nil (thenC.go ?_)
    refine XC.text ?_
    refine XO.c (.move rfl) rfl rfl ?_
    refine XO.c (.move rfl) rfl rfl ?_
    obtain ⟨u108, e108, r108⟩ := (b106).ldV vt89
    obtain ⟨c109_0, c109_1, rfl, r109_0, r109_1⟩ := r108.st2 rfl rfl
    obtain rfl := r109_0.int
    replace r109_1 := r109_1.sl
    refine XO.r (.load rfl (e108)) rfl rfl ?_
    refine XO.call rfl rfl rfl rfl ?_
    refine EvF.mono (hf (hA.ok hok) (g_out101.inS (hA.ok hok) (hA.inS hS)) (RepV.mk2 (a := (.int .i64)) (b := (.sl (.int .i64))) (x := l[j]) (RepV.ofInt .i64 _) (r109_1).rep rfl rfl) hA.ofEntry (List.getElem_mem _)) ?_
    rintro _ _ ⟨rfl, hh⟩
    obtain rfl := hh.symm
    clear hh
    refine XO.pushR (S0 := S) (h0 := (entry h)) el22 el22 rfl rfl g_out101 (RepV.ofInt .i64 _) aL101 hkL101 (hA.inS hS) (by simp; omega) (by decide) rfl rfl rfl ?_
    intro out111 h111 g111 a111 n111 l111
    have ok112 := hA.ok hok
    have gg112 : Goes h106 (ownB out ++ S) h111 (ownB out111 ++ S) := n111
    replace hA := hAL101.trans a111
    replace aL101 := a111
    replace nL101 := nL101.trans gg112
    replace ha0 := ha0.nx gg112
    replace r103_1 := r103_1.nx gg112
    replace b106 := b106.nx gg112
    replace r109_1 := r109_1.nx gg112
    refine XO.c (.assign rfl) rfl rfl ?_
    refine XO.nil ?_
    intro tf htf
    refine inBlock_nrm ?_
    refine thenC.go ?_ tf htf
    refine XC.text ?_
    refine XO.c (.add rfl rfl (by omega)) rfl rfl ?_
    refine XO.c (.move rfl) rfl rfl ?_
    refine XO.nil ?_
    intro tf htf
    refine ⟨rfl, rfl, _, [(1, .func (.func f_f) f_a f_b), (5, out111), (8, v0), (9, .int .i64 ((l.length : Nat) : Int)), (10, .int .i64 (((j + 1) : Nat) : Int))], ?_, htf.keep _ ⟨rfl, rfl, rfl, rfl, rfl, trivial⟩, (j + 1), out111, rfl, rfl, hA, aL101, nL101, (by rw [List.take_succ_eq_append_getElem (by omega), List.map_append]; exact g111), (by omega)⟩
    omega
  · refine XC.exit ?_
    intro tf htf
    refine thenC_exit ?_
    refine loopQ_exit ?_
    refine inBlock_eq ?_
    refine thenC.go ?_ tf htf
    refine XC.seq ?_
    refine XC.text ?_
    refine XO.c (.move rfl) rfl rfl ?_
    refine XO.c (.assign rfl) rfl rfl ?_
    refine XO.nil (thenC.go ?_)
    refine XC.ret fun tf htf => ?_
    have s113 := g_out101.shut hSL101
    have gg113 : Goes hh101 (ownB out ++ S) hh101 S := nx_own
    replace ha0 := ha0.nx gg113
    refine endF.one rfl rfl (htf 4 _ rfl) ?_
    refine ⟨hA.left _, ?_⟩
    have hw := (s113).ret hA
    rw [List.take_of_length_le (by omega)] at hw; exact hw
theorem sEnc1_ok {h : Heap} {S : List Nat} {v0 : Value} {c : Int × (List Int)} {i_p : Value} {i : Int} (hok : HOk h) (hS : ∀ b ∈ S, b < h.next) (ha0 : RepV h S (.pair (.int .i64) (.sl (.int .i64))) v0 c) (hc0 : RepP h S (.int .i64) i_p i) (hi : 0 ≤ i ∧ i < c.2.length) : EvF Tryz.prog OA 124 [v0, i_p] h fun r h' => r = .int .i64 (c.2.getD i.toNat 0) ∧ h' = h := by
  refine XF.enter Tryz.func124 rfl rfl rfl ?_
  have hok : HOk (entry h) := hok
  have hA := After.refl (entry h)
  replace ha0 := ha0.entry
  replace hc0 := hc0.nx (Goes.objs (h' := entry h) fun _ => rfl)
  show XC Tryz.prog OA none _ _ [] [(0, v0), (1, i_p)] (entry h) _
  refine XC.seq ?_
  refine XC.text ?_
  refine XO.boxR rfl ha0 (hA.ok hok) (hA.inS hS) rfl rfl ?_
  intro p114 h114 b114 a114
  have ok115 := hA.ok hok
  have gg115 : Goes (entry h) S h114 S := a114.nx ok115
  replace hA := hA.trans a114
  replace ha0 := ha0.nx gg115
  replace hc0 := hc0.nx gg115
  refine XO.c (.assign rfl) rfl rfl ?_
  refine XO.nil (thenC.go ?_)
  refine XC.seq ?_
  refine XC.text ?_
  refine XO.c (.fieldAddr rfl ((b114).fa (f := 1) (k := 1) (by kernel_rfl))) rfl rfl ?_
  obtain ⟨u116, e116, s116⟩ := (((b114).base.snd' (m := 1) rfl (b114).isP)).ldSl vt22
  refine XO.r (.load rfl (e116)) rfl rfl ?_
  refine XO.r (.load rfl ((hc0).ldInt vt3)) rfl rfl ?_
  refine XO.c (.indexAddr rfl rfl rfl (s116.ixZ (n := i) el22 (by omega) (by omega))) rfl rfl ?_
  refine XO.r (.load rfl (((s116.at (j := Int.toNat i) (by omega))).ldInt vt3)) rfl rfl ?_
  refine XO.c (.assign rfl) rfl rfl ?_
  refine XO.nil (thenC.go ?_)
  refine XC.ret fun tf htf => ?_
  refine endF.one rfl rfl (htf 3 _ rfl) ?_
  exact ⟨congrArg (Value.int .i64) (by rw [getD_eq]), hA.leftAf rfl⟩
def colE (l : List (Int × List Int)) (t : Nat) : List Int := l.map fun c => c.2.getD t 0
def encloseE (l : List (Int × List Int)) (b : Int × Int) : List (Int × Int) := (List.range (len0 l)).map fun t => (minE (colE l t) + b.1, maxE (colE l t) + b.2)
theorem foldl_min_bound {A B : Int} : ∀ {l : List Int} {a : Int}, A ≤ a ∧ a ≤ B → (∀ x ∈ l, A ≤ x ∧ x ≤ B) → A ≤ l.foldl min a ∧ l.foldl min a ≤ B
  | [], a, h, _ => h
  | x :: l, a, h, hl => foldl_min_bound (l := l) (by have := hl x List.mem_cons_self; omega) fun y hy => hl y (List.mem_cons_of_mem _ hy)
theorem foldl_max_bound {A B : Int} : ∀ {l : List Int} {a : Int}, A ≤ a ∧ a ≤ B → (∀ x ∈ l, A ≤ x ∧ x ≤ B) → A ≤ l.foldl max a ∧ l.foldl max a ≤ B
  | [], a, h, _ => h
  | x :: l, a, h, hl => foldl_max_bound (l := l) (by have := hl x List.mem_cons_self; omega) fun y hy => hl y (List.mem_cons_of_mem _ hy)
theorem headD_bound {A B : Int} (h0 : A ≤ 0 ∧ 0 ≤ B) {l : List Int} (hl : ∀ x ∈ l, A ≤ x ∧ x ≤ B) : A ≤ l.headD 0 ∧ l.headD 0 ≤ B := by
  cases l with
  | nil => exact h0
  | cons x l => exact hl x List.mem_cons_self
theorem minE_bound {l : List Int} (hl : ∀ x ∈ l, -1048576 ≤ x ∧ x ≤ 1048576) : -1048576 ≤ minE l ∧ minE l ≤ 1048576 := foldl_min_bound (headD_bound (by decide) hl) hl
theorem maxE_bound {l : List Int} (hl : ∀ x ∈ l, -1048576 ≤ x ∧ x ≤ 1048576) : -1048576 ≤ maxE l ∧ maxE l ≤ 1048576 := foldl_max_bound (headD_bound (by decide) hl) hl
theorem getD_bound {l : List Int} (hl : ∀ x ∈ l, -1048576 ≤ x ∧ x ≤ 1048576) (t : Nat) : -1048576 ≤ l.getD t 0 ∧ l.getD t 0 ≤ 1048576 := by
  rcases getD_mem_or (l := l) t with h | h
  · rw [h]; decide
  · exact hl _ h
theorem colE_bound {l : List (Int × List Int)} (h : OkE l) (t : Nat) : ∀ x ∈ colE l t, -1048576 ≤ x ∧ x ≤ 1048576 := by
  intro x hx
  obtain ⟨c, hc, rfl⟩ := List.mem_map.1 hx
  exact getD_bound (h.all c hc).all t
def enclB (l : List (Int × List Int)) (b : Int × Int) : Int := firstE [ensembleE l, boundsE b]
theorem enclB_ok {l : List (Int × List Int)} {b : Int × Int} (h : enclB l b = 0) : OkE l ∧ OkB b := by
  rw [enclB, firstE_zero] at h
  exact ⟨ensembleE_ok (h _ (by simp)), boundsE_ok (h _ (by simp))⟩
theorem sEnclose_ok {h : Heap} {S : List Nat} {v0 : Value} {l : List (Int × (List Int))} {b : Int × Int} (hok : HOk h) (hS : ∀ b ∈ S, b < h.next) (ha0 : SlV h S (.pair (.int .i64) (.sl (.int .i64))) v0 l) (hl : ∀ c ∈ l, c.2.length < 100000) : EvF Tryz.prog OA 49 [v0, .agg #[.int .i64 b.1, .int .i64 b.2]] h fun r h' => After h h' ∧ ∃ r0, r = .tuple #[r0, .int .i64 (enclB l b)] ∧ SlV h' S (.pair (.int .i64) (.int .i64)) r0 (if enclB l b = 0 then encloseE l b else []) := by
  refine XF.enter Tryz.func49 rfl rfl rfl ?_
  have hok : HOk (entry h) := hok
  have hA := After.refl (entry h)
  replace ha0 := ha0.entry
  show XC Tryz.prog OA none _ _ [] [(0, v0), (1, .agg #[.int .i64 b.1, .int .i64 b.2])] (entry h) _
  refine XC.seq ?_
  refine XC.text ?_
  refine XO.boxR rfl (RepV.mk2 (a := (.int .i64)) (b := (.int .i64)) (x := b) (RepV.ofInt .i64 _) (RepV.ofInt .i64 _) rfl rfl) (hA.ok hok) (hA.inS hS) rfl rfl ?_
  intro p117 h117 b117 a117
  have ok118 := hA.ok hok
  have gg118 : Goes (entry h) S h117 S := a117.nx ok118
  replace hA := hA.trans a117
  replace ha0 := ha0.nx gg118
  refine XO.c (.assign rfl) rfl rfl ?_
  refine XO.c (.assign rfl) rfl rfl ?_
  refine XO.nil (thenC.go ?_)
  refine XC.seq ?_
  refine XC.seq ?_
  refine XC.drawn ?_
  have hkr119 := hA.ok hok
  have hSr119 := (hA.inS hS)
  refine XD.c (b := 0) (.move rfl) rfl rfl rfl ?_
  refine XD.callV (bb := 1) (After.refl _) SegsOk.nil rfl rfl rfl rfl rfl rfl ?_
  intro M120 aM120 oM120
  refine EvF.mono (sEnsemble_ok (aM120.ok hkr119) (aM120.inS hSr119) (ha0.nx (aM120.nx hkr119)) (by first | assumption | omega)) ?_
  rintro _ _ ⟨rfl, hh⟩
  refine ⟨hh, ?_⟩
  clear hh
  obtain ⟨u121, e121, r121⟩ := (b117).ldV vt41
  obtain ⟨c122_0, c122_1, rfl, r122_0, r122_1⟩ := r121.st2 rfl rfl
  obtain rfl := r122_0.int
  obtain rfl := r122_1.int
  refine XD.ld (b := 0) (After.refl _) (SegsOk.cons ((After.refl _)).next SegsOk.nil) hkr119 rfl (e121) rfl rfl rfl rfl ?_
  refine XD.callV (bb := 7) (After.refl _) (SegsOk.cons ((After.refl _)).next (SegsOk.cons ((After.refl _)).next SegsOk.nil)) rfl rfl rfl rfl rfl rfl ?_
  intro M123 aM123 oM123
  refine EvF.mono (sBounds_ok (aM123.ok hkr119) (aM123.inS hSr119)  ) ?_
  rintro _ _ ⟨rfl, hh⟩
  refine ⟨hh, ?_⟩
  clear hh
  refine XD.lit (b := 15) (h := h117) (S := S) (τ := (.int .i64)) (vsC (RepV.ofInt .i64 _) (vs1 (RepV.ofInt .i64 _))) el179 rfl rfl rfl (by simp) (by simp) (by decide) (hA.ok hok) (hA.inS hS) rfl rfl rfl rfl ?_
  intro w124 h124 s124 a124
  have ha0o := ha0
  have b117o := b117
  have rg119 : Goes h117 S h117 S := Goes.refl
  have ra119 := After.refl h117
  have ok125 := hA.ok hok
  have gg125 : Goes h117 S h124 S := a124.nx ok125
  replace hA := hA.trans a124
  replace ha0 := ha0.nx gg125
  replace b117 := b117.nx gg125
  replace rg119 := rg119.trans gg125
  have ra119_124 := ra119.trans a124
  refine XD.callV (bb := 31) ra119_124 (SegsOk.cons (ra119).next (SegsOk.cons ((After.refl _)).next (SegsOk.cons ((After.refl _)).next (SegsOk.cons ((After.refl _)).next SegsOk.nil)))) rfl rfl rfl rfl rfl rfl ?_
  intro M126 aM126 oM126
  obtain rfl := oM126 rfl
  refine EvF.mono (sFirst_ok (hA.ok hok) (hA.inS hS) (s124).entry (by simp)) ?_
  rintro _ _ ⟨rfl, hh⟩
  refine ⟨hh, ?_⟩
  clear hh
  refine XD.c (b := 63) (.assign rfl) rfl rfl rfl ?_
  refine XD.nil (thenC.go ?_)
  refine XC.seq ?_
  refine XC.text ?_
  refine XO.c (.move rfl) rfl rfl ?_
  refine XO.c (.neq rfl rfl) rfl rfl ?_
  refine XO.nil (thenC.go ?_)
  refine XC.condD rfl (fun c2 => ?_) (fun c2 => ?_)
  · refine XC.seq ?_
    refine XC.text ?_
    refine XO.c (.move rfl) rfl rfl ?_
    refine XO.c (.assign rfl) rfl rfl ?_
    refine XO.c (.assign rfl) rfl rfl ?_
    refine XO.nil (thenC.go ?_)
    refine XC.ret fun tf htf => ?_
    refine thenC_ret ?_
    refine endF.two rfl rfl (htf 4 _ rfl) (htf 5 _ rfl) ?_
    have hw0 := ((SlV.nil (h := h124) (S := S) (τ := (.pair (.int .i64) (.int .i64))))).retT (vs := #[(.slice none 0 0), (.int .i64 (firstE ([ensembleE l, boundsE b])))]) hA (by simp)
    refine ⟨hA.left _, (.slice none 0 0), ?_, ?_⟩
    · refine congrArg Value.tuple ?_
      refine tup2 rfl (congrArg (Value.int .i64) (by rfl))
    · exact if_neg c2 ▸ hw0
  · have hB : enclB l b = 0 := Decidable.not_not.1 c2
    have hE := (enclB_ok hB).1
    have hb := (enclB_ok hB).2
    have hp := hE.pos
    have ht := hE.top
    have hC := hE.all _ (List.getElem_mem hE.pos)
    have e0 := len0_eq hE.pos
    have h9 := hC.top
    refine XC.skip (thenC.go ?_)
    refine XC.seq ?_
    refine XC.text ?_
    refine XO.c (.assign rfl) rfl rfl ?_
    refine XO.nil (thenC.go ?_)
    refine XC.seq ?_
    refine XC.seq ?_
    refine XC.text ?_
    refine XO.c (.move rfl) rfl rfl ?_
    refine XO.c (.indexAddr rfl rfl rfl (ha0.ix (j := 0) el64 (by omega))) rfl rfl ?_
    refine XO.c (.fieldAddr rfl (((ha0.at (j := 0) (by omega))).fa (f := 1) (k := 1) (by kernel_rfl))) rfl rfl ?_
    obtain ⟨u127, e127, s127⟩ := ((((ha0.at (j := 0) (by omega))).base.snd' (m := 1) rfl ((ha0.at (j := 0) (by omega))).isP)).ldSl vt22
    refine XO.r (.load rfl (e127)) rfl rfl ?_
    refine XO.a (.len rfl (s127.len el22)) rfl rfl ?_
    refine XO.c (.move rfl) rfl rfl ?_
    refine XO.nil (thenC.go ?_)
    refine XC.block ?_
    have hAL128 := hA
    have hkL128 := hA.ok hok
    have hSL128 := (hA.inS hS)
    refine XC.keep [(0, v0), (3, p117), (7, .slice none 0 0), (23, .int .i64 ((((l[0]).2).length : Nat) : Int)), (24, .int .i64 ((0 : Nat) : Int))] ⟨rfl, rfl, rfl, rfl, rfl, trivial⟩ ?_
    refine XC.loopI (I := fun (kk : Nat) (ff : FL) (hh : Heap) => ∃ (j : Nat) (out : Value), kk = l[0].2.length - j ∧ ff = [(0, v0), (3, p117), (7, out), (23, .int .i64 ((((l[0]).2).length : Nat) : Int)), (24, .int .i64 ((j : Nat) : Int))] ∧ After (entry h) hh ∧ After h124 hh ∧ Goes h124 S hh (ownB out ++ S) ∧ GrowR hh (ownB out ++ S) h124.next 41 true (.pair (.int .i64) (.int .i64)) out ((List.range j).map fun t => (minE (colE l t) + b.1, maxE (colE l t) + b.2)) ∧ (j ≤ l[0].2.length)) ?_ _ _ _ ⟨0, .slice none 0 0, rfl, rfl, hA, After.refl _, Goes.refl, (GrowR.nil), (by omega)⟩
    clear hA
    rintro kk ff hh128 ⟨j, out, hk128, rfl, hA, aL128, nL128, g_out128, hj⟩
    replace ha0 := ha0.nx nL128
    replace b117 := b117.nx nL128
    replace s124 := s124.nx nL128
    replace s127 := s127.nx nL128
    refine XC.seq ?_
    refine XC.text ?_
    refine XO.c (.lss rfl rfl) rfl rfl ?_
    refine XO.nil (thenC.go ?_)
    refine XC.seq ?_
    refine XC.condD rfl (fun c6 => ?_) (fun c6 => ?_)
    · refine XC.skip (thenC.go ?_)
      refine XC.seq ?_
      refine XC.block ?_
      refine XC.seq ?_
      refine XC.text ?_
      refine XO.c (.move rfl) rfl rfl ?_
      refine XO.allocP (S := (ownB out ++ S)) (z := .int .i64 0) (by kernel_rfl) rfl rfl aL128 hkL128 (g_out128.inS (hA.ok hok) (hA.inS hS)) rfl rfl ?_
      intro p129 h129 b129 a129 gs129
      have ok130 := hA.ok hok
      have gg130 : Goes hh128 (ownB out ++ S) h129 (ownP p129 ++ (ownB out ++ S)) := gs129
      replace hA := hA.trans a129
      replace aL128 := aL128.trans a129
      replace nL128 := nL128.trans gg130
      replace ha0 := ha0.nx gg130
      replace b117 := b117.nx gg130
      replace s124 := s124.nx gg130
      replace s127 := s127.nx gg130
      replace g_out128 := g_out128.up a129 ok130 gg130 (fun b hb => by simp [hb])
      refine XO.stP (S := (ownB out ++ S)) (h0 := h124) (τ := (.int .i64)) rfl rfl b129 (RepV.ofInt .i64 _) vt3 aL128 ?_
      intro h131 b131 a131 gs131 nx131 fr131
      have ok132 := hA.ok hok
      have gg132 : Goes h129 (ownP p129 ++ (ownB out ++ S)) h131 (ownB out ++ S) := gs131
      replace hA := hAL128.trans a131
      replace aL128 := a131
      replace nL128 := nL128.trans gg132
      replace ha0 := ha0.nx gg132
      replace b117 := b117.nx gg132
      replace s124 := s124.nx gg132
      replace s127 := s127.nx gg132
      replace g_out128 := g_out128.chg (fun b hb => fr131 b (by simp [hb])) gg132 (fun b hb => by simp [hb])
      refine XO.nil (thenC.go ?_)
      refine XC.seq ?_
      refine XC.text ?_
      refine XO.c (.move rfl) rfl rfl ?_
      refine XO.c (.func rfl rfl) rfl rfl ?_
      refine XO.call rfl rfl rfl rfl ?_
      refine EvF.mono (sMapCI_ok (hA.ok hok) (g_out128.inS (hA.ok hok) (hA.inS hS)) ha0 (F := fun x => x.2.getD j 0) (by omega) (fun a _ r g m => sEnc1_ok a noS r.nil0 (((b131).nx (g.nx (hA.ok hok))).nil0) (by have := (hE.all _ m).len; omega))) ?_
      rintro u133 h133 ⟨a133, s133⟩
      have ok134 := hA.ok hok
      have gg134 : Goes h131 (ownB out ++ S) h133 (ownB out ++ S) := a133.nx ok134
      replace hA := hA.trans a133
      replace aL128 := aL128.trans a133
      replace nL128 := nL128.trans gg134
      replace ha0 := ha0.nx gg134
      replace b117 := b117.nx gg134
      replace s124 := s124.nx gg134
      replace s127 := s127.nx gg134
      replace b131 := b131.nx gg134
      replace g_out128 := g_out128.up a133 ok134 gg134 (fun b hb => by simp [hb])
      refine XO.call rfl rfl rfl rfl ?_
      refine EvF.mono (sHull_ok (hA.ok hok) (g_out128.inS (hA.ok hok) (hA.inS hS)) s133 (by simp; omega) (by simp; omega)) ?_
      rintro _ _ ⟨rfl, hh⟩
      obtain rfl := hh.symm
      clear hh
      refine XO.allocP (S := (ownB out ++ S)) (z := .agg #[.int .i64 0, .int .i64 0]) (by kernel_rfl) rfl rfl aL128 hkL128 (g_out128.inS (hA.ok hok) (hA.inS hS)) rfl rfl ?_
      intro p136 h136 b136 a136 gs136
      have ok137 := hA.ok hok
      have gg137 : Goes h133 (ownB out ++ S) h136 (ownP p136 ++ (ownB out ++ S)) := gs136
      replace hA := hA.trans a136
      replace aL128 := aL128.trans a136
      replace nL128 := nL128.trans gg137
      replace ha0 := ha0.nx gg137
      replace b117 := b117.nx gg137
      replace s124 := s124.nx gg137
      replace s127 := s127.nx gg137
      replace b131 := b131.nx gg137
      replace s133 := s133.nx gg137
      replace g_out128 := g_out128.up a136 ok137 gg137 (fun b hb => by simp [hb])
      refine XO.stP (S := (ownB out ++ S)) (h0 := h124) (τ := (.pair (.int .i64) (.int .i64))) rfl rfl b136 (RepV.mk2 (a := (.int .i64)) (b := (.int .i64)) (x := hullE (l.map (fun x => x.2.getD j 0))) (RepV.ofInt .i64 _) (RepV.ofInt .i64 _) rfl rfl) vt41 aL128 ?_
      intro h138 b138 a138 gs138 nx138 fr138
      have ok139 := hA.ok hok
      have gg139 : Goes h136 (ownP p136 ++ (ownB out ++ S)) h138 (ownB out ++ S) := gs138
      replace hA := hAL128.trans a138
      replace aL128 := a138
      replace nL128 := nL128.trans gg139
      replace ha0 := ha0.nx gg139
      replace b117 := b117.nx gg139
      replace s124 := s124.nx gg139
      replace s127 := s127.nx gg139
      replace b131 := b131.nx gg139
      replace s133 := s133.nx gg139
      replace g_out128 := g_out128.chg (fun b hb => fr138 b (by simp [hb])) gg139 (fun b hb => by simp [hb])
      refine XO.nil (thenC.go ?_)
      refine XC.text ?_
      refine XO.c (.move rfl) rfl rfl ?_
      refine XO.c (.fieldAddr rfl ((b138).fa (f := 0) (k := 0) (by kernel_rfl))) rfl rfl ?_
      refine XO.r (.load rfl (((b138).base.fst').ldInt vt3)) rfl rfl ?_
      refine XO.c (.fieldAddr rfl ((b117).fa (f := 0) (k := 0) (by kernel_rfl))) rfl rfl ?_
      refine XO.r (.load rfl (((b117).base.fst').ldInt vt3)) rfl rfl ?_
      have hm : -1048576 ≤ minE (colE l j) ∧ minE (colE l j) ≤ 1048576 := minE_bound (colE_bound hE j)
      have hM : -1048576 ≤ maxE (colE l j) ∧ maxE (colE l j) ≤ 1048576 := maxE_bound (colE_bound hE j)
      have hb1 := hb.lo
      have hb2 := hb.hi
      refine XO.c (.add rfl rfl (by have e1 : (hullE (l.map fun x => x.2.getD j 0)).1 = minE (colE l j) := rfl; rw [e1]; omega)) rfl rfl ?_
      refine XO.c (.fieldAddr rfl ((b138).fa (f := 1) (k := 1) (by kernel_rfl))) rfl rfl ?_
      refine XO.r (.load rfl ((((b138).base.snd' (m := 1) rfl (b138).isP)).ldInt vt3)) rfl rfl ?_
      refine XO.c (.fieldAddr rfl ((b117).fa (f := 1) (k := 1) (by kernel_rfl))) rfl rfl ?_
      refine XO.r (.load rfl ((((b117).base.snd' (m := 1) rfl (b117).isP)).ldInt vt3)) rfl rfl ?_
      refine XO.c (.add rfl rfl (by have e1 : (hullE (l.map fun x => x.2.getD j 0)).2 = maxE (colE l j) := rfl; rw [e1]; omega)) rfl rfl ?_
      refine XO.c (.buildS (vs := [.int .i64 ((hullE (l.map (fun x => x.2.getD j 0))).1 + b.1), .int .i64 ((hullE (l.map (fun x => x.2.getD j 0))).2 + b.2)]) ⟨⟨rfl, rfl⟩, ⟨⟨rfl, rfl⟩, trivial⟩⟩ (by kernel_rfl) rfl) rfl rfl ?_
      refine XO.pushR (S0 := S) (h0 := h124) el81 el81 rfl rfl g_out128 (RepV.mk2 (a := (.int .i64)) (b := (.int .i64)) (x := (((hullE (l.map (fun x => x.2.getD j 0))).1 + b.1), ((hullE (l.map (fun x => x.2.getD j 0))).2 + b.2))) (RepV.ofInt .i64 _) (RepV.ofInt .i64 _) rfl rfl) aL128 hkL128 (hA.inS hS) (by simp; omega) (by decide) rfl rfl rfl ?_
      intro out140 h140 g140 a140 n140 l140
      have ok141 := hA.ok hok
      have gg141 : Goes h138 (ownB out ++ S) h140 (ownB out140 ++ S) := n140
      replace hA := hAL128.trans a140
      replace aL128 := a140
      replace nL128 := nL128.trans gg141
      replace ha0 := ha0.nx gg141
      replace b117 := b117.nx gg141
      replace s124 := s124.nx gg141
      replace s127 := s127.nx gg141
      replace b131 := b131.nx gg141
      replace s133 := s133.nx gg141
      replace b138 := b138.nx gg141
      refine XO.c (.assign rfl) rfl rfl ?_
      refine XO.nil ?_
      intro tf htf
      refine inBlock_nrm ?_
      refine thenC.go ?_ tf htf
      refine XC.text ?_
      refine XO.c (.add rfl rfl (by omega)) rfl rfl ?_
      refine XO.c (.move rfl) rfl rfl ?_
      refine XO.nil ?_
      intro tf htf
      refine ⟨rfl, rfl, _, [(0, v0), (3, p117), (7, out140), (23, .int .i64 ((((l[0]).2).length : Nat) : Int)), (24, .int .i64 (((j + 1) : Nat) : Int))], ?_, htf.keep _ ⟨rfl, rfl, rfl, rfl, rfl, trivial⟩, (j + 1), out140, rfl, rfl, hA, aL128, nL128, (by rw [List.range_succ, List.map_append]; exact g140), (by omega)⟩
      omega
    · refine XC.exit ?_
      intro tf htf
      refine thenC_exit ?_
      refine loopQ_exit ?_
      refine inBlock_eq ?_
      refine thenC.go ?_ tf htf
      refine XC.seq ?_
      refine XC.text ?_
      refine XO.c (.move rfl) rfl rfl ?_
      refine XO.c (.assign rfl) rfl rfl ?_
      refine XO.c (.assign rfl) rfl rfl ?_
      refine XO.nil (thenC.go ?_)
      refine XC.ret fun tf htf => ?_
      have s142 := g_out128.shut hSL128
      have gg142 : Goes hh128 (ownB out ++ S) hh128 S := nx_own
      replace ha0 := ha0.nx gg142
      replace b117 := b117.nx gg142
      replace s124 := s124.nx gg142
      replace s127 := s127.nx gg142
      refine endF.two rfl rfl (htf 4 _ rfl) (htf 5 _ rfl) ?_
      have hw0 := (s142).retT (vs := #[out, (.int .i64 (0 : Int))]) hA (by simp)
      refine ⟨hA.left _, out, ?_, ?_⟩
      · refine congrArg Value.tuple ?_
        refine tup2 rfl (congrArg (Value.int .i64) (by exact hB.symm))
      · rw [show j = len0 l by omega] at hw0; exact if_pos hB ▸ hw0
end Go.Proofs
namespace Go.Proofs
open Go.Fs
set_option linter.unusedVariables false
theorem vt72 : ValT Tryz.prog 72 (.pair (.int .i64) (.sl (.int .i64))) := valT_of (by kernel_rfl)
theorem colE_get {l : List (Int × List Int)} {i j : Nat} (hi : i < l.length) (hj : j < l[i].2.length) : (colE l j)[i]'(by simpa [colE] using hi) = l[i].2[j] := by
  simp [colE, List.getD, hj]
theorem colE_len {l : List (Int × List Int)} {j : Nat} : (colE l j).length = l.length := by simp [colE]
theorem rEnclose_ok {h : Heap} {S : List Nat} {v0 : Value} {l : List (Int × (List Int))} {b : Int × Int} (hok : HOk h) (hS : ∀ b ∈ S, b < h.next) (ha0 : SlV h S (.pair (.int .i64) (.sl (.int .i64))) v0 l) (hE : OkE l) (hb : OkB b) : EvF Tryz.prog OA 50 [v0, .agg #[.int .i64 b.1, .int .i64 b.2]] h fun r h' => After h h' ∧ SlV h' S (.pair (.int .i64) (.int .i64)) r (encloseE l b) := by
  refine XF.enter Tryz.func50 rfl rfl rfl ?_
  have hok : HOk (entry h) := hok
  have hA := After.refl (entry h)
  replace ha0 := ha0.entry
  have hp := hE.pos
  have ht := hE.top
  have hC := hE.all _ (List.getElem_mem hE.pos)
  have e0 := len0_eq hE.pos
  have h9 := hC.top
  have hb1 := hb.lo
  have hb2 := hb.hi
  show XC Tryz.prog OA none _ _ [] [(0, v0), (1, .agg #[.int .i64 b.1, .int .i64 b.2])] (entry h) _
  refine XC.seq ?_
  refine XC.text ?_
  refine XO.boxR rfl (RepV.mk2 (a := (.int .i64)) (b := (.int .i64)) (x := b) (RepV.ofInt .i64 _) (RepV.ofInt .i64 _) rfl rfl) (hA.ok hok) (hA.inS hS) rfl rfl ?_
  intro p101 h101 b101 a101
  have ok102 := hA.ok hok
  have gg102 : Goes (entry h) S h101 S := a101.nx ok102
  replace hA := hA.trans a101
  replace ha0 := ha0.nx gg102
  refine XO.c (.assign rfl) rfl rfl ?_
  refine XO.nil (thenC.go ?_)
  refine XC.seq ?_
  refine XC.text ?_
  refine XO.c (.assign rfl) rfl rfl ?_
  refine XO.nil (thenC.go ?_)
  refine XC.seq ?_
  refine XC.seq ?_
  refine XC.text ?_
  refine XO.c (.assign rfl) rfl rfl ?_
  refine XO.nil (thenC.go ?_)
  refine XC.block ?_
  have hAL103 := hA
  have hkL103 := hA.ok hok
  have hSL103 := (hA.inS hS)
  refine XC.keep [(0, v0), (3, p101), (5, .slice none 0 0), (6, .int .i64 ((0 : Nat) : Int))] ⟨rfl, rfl, rfl, rfl, trivial⟩ ?_
  refine XC.loopI (I := fun (kk : Nat) (ff : FL) (hh : Heap) => ∃ (j : Nat) (out : Value), kk = l[0].2.length - j ∧ ff = [(0, v0), (3, p101), (5, out), (6, .int .i64 ((j : Nat) : Int))] ∧ After (entry h) hh ∧ After h101 hh ∧ Goes h101 S hh (ownB out ++ S) ∧ GrowR hh (ownB out ++ S) h101.next 41 true (.pair (.int .i64) (.int .i64)) out ((List.range j).map fun t => (minE (colE l t) + b.1, maxE (colE l t) + b.2)) ∧ (j ≤ l[0].2.length)) ?_ _ _ _ ⟨0, .slice none 0 0, rfl, rfl, hA, After.refl _, Goes.refl, (GrowR.nil), (by omega)⟩
  clear hA
  rintro kk ff hh103 ⟨j, out, hk103, rfl, hA, aL103, nL103, g_out103, hj⟩
  replace ha0 := ha0.nx nL103
  replace b101 := b101.nx nL103
  refine XC.seq ?_
  refine XC.seq ?_
  refine XC.text ?_
  refine XO.c (.move rfl) rfl rfl ?_
  refine XO.c (.move rfl) rfl rfl ?_
  refine XO.c (.indexAddr rfl rfl rfl (ha0.ix (j := 0) el54 (by omega))) rfl rfl ?_
  refine XO.c (.fieldAddr rfl (((ha0.at (j := 0) (by omega))).fa (f := 1) (k := 1) (by kernel_rfl))) rfl rfl ?_
  obtain ⟨u104, e104, s104⟩ := ((((ha0.at (j := 0) (by omega))).base.snd' (m := 1) rfl ((ha0.at (j := 0) (by omega))).isP)).ldSl vt22
  refine XO.r (.load rfl (e104)) rfl rfl ?_
  refine XO.a (.len rfl (s104.len el22)) rfl rfl ?_
  refine XO.c (.lss rfl rfl) rfl rfl ?_
  refine XO.nil (thenC.go ?_)
  refine XC.condD rfl (fun c3 => ?_) (fun c3 => ?_)
  · refine XC.skip (thenC.go ?_)
    refine XC.seq ?_
    refine XC.block ?_
    refine XC.seq ?_
    refine XC.drawn ?_
    have hkr105 := hA.ok hok
    have hSr105 := (g_out103.inS (hA.ok hok) (hA.inS hS))
    refine XD.c (b := 0) (.move rfl) rfl rfl rfl ?_
    refine XD.c (b := 1) (.indexAddr rfl rfl rfl (ha0.ix (j := 0) el54 (by omega))) rfl rfl rfl ?_
    refine XD.c (b := 3) (.fieldAddr rfl (((ha0.at (j := 0) (by omega))).fa (f := 1) (k := 1) (by kernel_rfl))) rfl rfl rfl ?_
    obtain ⟨u106, e106, s106⟩ := ((((ha0.at (j := 0) (by omega))).base.snd' (m := 1) rfl ((ha0.at (j := 0) (by omega))).isP)).ldSl vt22
    refine XD.ld (b := 7) (After.refl _) SegsOk.nil hkr105 rfl (e106) rfl rfl rfl rfl ?_
    refine XD.c (b := 0) (.move rfl) rfl rfl rfl ?_
    refine XD.c (b := 31) (.indexAddr rfl rfl rfl (s106.ix (j := j) el22 (by omega))) rfl rfl rfl ?_
    refine XD.ld (b := 63) (After.refl _) (SegsOk.cons ((After.refl _)).next SegsOk.nil) hkr105 rfl (((s106.at (j := j) (by omega))).ldInt vt3) rfl rfl rfl rfl ?_
    refine XD.c (b := 0) (.move rfl) rfl rfl rfl ?_
    refine XD.c (b := 128) (.indexAddr rfl rfl rfl (ha0.ix (j := 0) el54 (by omega))) rfl rfl rfl ?_
    refine XD.c (b := 384) (.fieldAddr rfl (((ha0.at (j := 0) (by omega))).fa (f := 1) (k := 1) (by kernel_rfl))) rfl rfl rfl ?_
    obtain ⟨u107, e107, s107⟩ := ((((ha0.at (j := 0) (by omega))).base.snd' (m := 1) rfl ((ha0.at (j := 0) (by omega))).isP)).ldSl vt22
    refine XD.ld (b := 896) (After.refl _) (SegsOk.cons ((After.refl _)).next (SegsOk.cons ((After.refl _)).next SegsOk.nil)) hkr105 rfl (e107) rfl rfl rfl rfl ?_
    refine XD.c (b := 0) (.move rfl) rfl rfl rfl ?_
    refine XD.c (b := 3968) (.indexAddr rfl rfl rfl (s107.ix (j := j) el22 (by omega))) rfl rfl rfl ?_
    refine XD.ld (b := 8064) (After.refl _) (SegsOk.cons ((After.refl _)).next (SegsOk.cons ((After.refl _)).next (SegsOk.cons ((After.refl _)).next SegsOk.nil))) hkr105 rfl (((s107.at (j := j) (by omega))).ldInt vt3) rfl rfl rfl rfl ?_
    refine XD.c (b := 127) (.assign rfl) rfl rfl rfl ?_
    refine XD.c (b := 32767) (.assign rfl) rfl rfl rfl ?_
    refine XD.nil (thenC.go ?_)
    refine XC.seq ?_
    refine XC.seq ?_
    refine XC.text ?_
    refine XO.c (.assign rfl) rfl rfl ?_
    refine XO.nil (thenC.go ?_)
    refine XC.block ?_
    have hAL108 := hA
    have hkL108 := hA.ok hok
    have hSL108 := (g_out103.inS (hA.ok hok) (hA.inS hS))
    have g_out103L108 := g_out103
    have aL103o108 := aL103
    refine XC.keep [(0, v0), (3, p101), (5, out), (6, .int .i64 ((j : Nat) : Int)), (7, .int .i64 (((colE l j).take 0).foldl min ((colE l j).headD 0))), (8, .int .i64 (((colE l j).take 0).foldl max ((colE l j).headD 0))), (9, .int .i64 ((0 : Nat) : Int))] ⟨rfl, rfl, rfl, rfl, (congrArg (fun z => some z) (by rw [headD_eq (by rw [colE_len]; omega), colE_get hp (by omega)]; rfl)), (congrArg (fun z => some z) (by rw [headD_eq (by rw [colE_len]; omega), colE_get hp (by omega)]; rfl)), rfl, trivial⟩ ?_
    refine XC.loopI (I := fun (kk : Nat) (ff : FL) (hh : Heap) => ∃ (i : Nat), kk = l.length - i ∧ ff = [(0, v0), (3, p101), (5, out), (6, .int .i64 ((j : Nat) : Int)), (7, .int .i64 (((colE l j).take i).foldl min ((colE l j).headD 0))), (8, .int .i64 (((colE l j).take i).foldl max ((colE l j).headD 0))), (9, .int .i64 ((i : Nat) : Int))] ∧ After (entry h) hh ∧ After hh103 hh ∧ Goes hh103 (ownB out ++ S) hh (ownB out ++ S) ∧ (i ≤ l.length)) ?_ _ _ _ ⟨0, rfl, rfl, hA, After.refl _, Goes.refl, (by omega)⟩
    clear hA
    rintro kk ff hh108 ⟨i, hk108, rfl, hA, aL108, nL108, hi⟩
    replace aL103 := aL103.trans aL108
    replace nL103 := nL103.trans nL108
    replace ha0 := ha0.nx nL108
    replace b101 := b101.nx nL108
    replace s104 := s104.nx nL108
    replace s106 := s106.nx nL108
    replace s107 := s107.nx nL108
    replace g_out103 := g_out103.keep aL108 hkL108
    refine XC.seq ?_
    refine XC.seq ?_
    refine XC.text ?_
    refine XO.c (.move rfl) rfl rfl ?_
    refine XO.c (.move rfl) rfl rfl ?_
    refine XO.a (.len rfl (ha0.len el54)) rfl rfl ?_
    refine XO.c (.lss rfl rfl) rfl rfl ?_
    refine XO.nil (thenC.go ?_)
    refine XC.condD rfl (fun c7 => ?_) (fun c7 => ?_)
    · refine XC.skip (thenC.go ?_)
      refine XC.seq ?_
      refine XC.block ?_
      refine XC.drawn ?_
      have hkr109 := hA.ok hok
      have hSr109 := (g_out103.inS (hA.ok hok) (hA.inS hS))
      have hli := (hE.all _ (List.getElem_mem (show i < l.length by omega))).len
      refine XD.c (b := 0) (.move rfl) rfl rfl rfl ?_
      refine XD.c (b := 0) (.move rfl) rfl rfl rfl ?_
      refine XD.c (b := 0) (.move rfl) rfl rfl rfl ?_
      refine XD.c (b := 6) (.indexAddr rfl rfl rfl (ha0.ix (j := i) el54 (by omega))) rfl rfl rfl ?_
      refine XD.c (b := 14) (.fieldAddr rfl (((ha0.at (j := i) (by omega))).fa (f := 1) (k := 1) (by kernel_rfl))) rfl rfl rfl ?_
      obtain ⟨u110, e110, s110⟩ := ((((ha0.at (j := i) (by omega))).base.snd' (m := 1) rfl ((ha0.at (j := i) (by omega))).isP)).ldSl vt22
      refine XD.ld (b := 30) (After.refl _) SegsOk.nil hkr109 rfl (e110) rfl rfl rfl rfl ?_
      refine XD.c (b := 0) (.move rfl) rfl rfl rfl ?_
      refine XD.c (b := 126) (.indexAddr rfl rfl rfl (s110.ix (j := j) el22 (by omega))) rfl rfl rfl ?_
      refine XD.ld (b := 254) (After.refl _) (SegsOk.cons ((After.refl _)).next SegsOk.nil) hkr109 rfl (((s110.at (j := j) (by omega))).ldInt vt3) rfl rfl rfl rfl ?_
      refine XD.a (b := 511) rfl (.min rfl rfl) rfl rfl rfl rfl ?_
      refine XD.c (b := 0) (.move rfl) rfl rfl rfl ?_
      refine XD.c (b := 0) (.move rfl) rfl rfl rfl ?_
      refine XD.c (b := 0) (.move rfl) rfl rfl rfl ?_
      refine XD.c (b := 6144) (.indexAddr rfl rfl rfl (ha0.ix (j := i) el54 (by omega))) rfl rfl rfl ?_
      refine XD.c (b := 14336) (.fieldAddr rfl (((ha0.at (j := i) (by omega))).fa (f := 1) (k := 1) (by kernel_rfl))) rfl rfl rfl ?_
      obtain ⟨u111, e111, s111⟩ := ((((ha0.at (j := i) (by omega))).base.snd' (m := 1) rfl ((ha0.at (j := i) (by omega))).isP)).ldSl vt22
      refine XD.ld (b := 30720) (After.refl _) (SegsOk.cons ((After.refl _)).next (SegsOk.cons ((After.refl _)).next (SegsOk.cons ((After.refl _)).next SegsOk.nil))) hkr109 rfl (e111) rfl rfl rfl rfl ?_
      refine XD.c (b := 0) (.move rfl) rfl rfl rfl ?_
      refine XD.c (b := 129024) (.indexAddr rfl rfl rfl (s111.ix (j := j) el22 (by omega))) rfl rfl rfl ?_
      refine XD.ld (b := 260096) (After.refl _) (SegsOk.cons ((After.refl _)).next (SegsOk.cons ((After.refl _)).next (SegsOk.cons ((After.refl _)).next (SegsOk.cons ((After.refl _)).next SegsOk.nil)))) hkr109 rfl (((s111.at (j := j) (by omega))).ldInt vt3) rfl rfl rfl rfl ?_
      refine XD.a (b := 523264) rfl (.max rfl rfl) rfl rfl rfl rfl ?_
      refine XD.c (b := 1023) (.assign rfl) rfl rfl rfl ?_
      refine XD.c (b := 2097151) (.assign rfl) rfl rfl rfl ?_
      refine XD.nil ?_
      intro tf htf
      refine inBlock_nrm ?_
      refine thenC.go ?_ tf htf
      refine XC.text ?_
      refine XO.c (.move rfl) rfl rfl ?_
      refine XO.c (.add rfl rfl (by omega)) rfl rfl ?_
      refine XO.c (.assign rfl) rfl rfl ?_
      refine XO.nil ?_
      intro tf htf
      refine ⟨rfl, rfl, _, [(0, v0), (3, p101), (5, out), (6, .int .i64 ((j : Nat) : Int)), (7, .int .i64 (((colE l j).take (i + 1)).foldl min ((colE l j).headD 0))), (8, .int .i64 (((colE l j).take (i + 1)).foldl max ((colE l j).headD 0))), (9, .int .i64 (((i + 1) : Nat) : Int))], ?_, htf.keep _ ⟨rfl, rfl, rfl, rfl, (congrArg (fun z => some z) (by rw [foldl_take min _ (by rw [colE_len]; omega), colE_get (by omega) (by omega)])), (congrArg (fun z => some z) (by rw [foldl_take max _ (by rw [colE_len]; omega), colE_get (by omega) (by omega)])), rfl, trivial⟩, (i + 1), rfl, rfl, hA, aL108, nL108, (by omega)⟩
      omega
    · refine XC.exit ?_
      intro tf htf
      refine thenC_exit ?_
      refine loopQ_exit ?_
      refine inBlock_eq ?_
      refine thenC.go ?_ tf htf
      refine XC.text ?_
      refine XO.c (.move rfl) rfl rfl ?_
      refine XO.c (.move rfl) rfl rfl ?_
      refine XO.c (.fieldAddr rfl ((b101).fa (f := 0) (k := 0) (by kernel_rfl))) rfl rfl ?_
      refine XO.r (.load rfl (((b101).base.fst').ldInt vt3)) rfl rfl ?_
      have hm := minE_bound (colE_bound hE j)
      have hM := maxE_bound (colE_bound hE j)
      have e3 : ((colE l j).take i).foldl min ((colE l j).headD 0) = minE (colE l j) := by rw [minE, List.take_of_length_le (by rw [colE_len]; omega)]
      have e4 : ((colE l j).take i).foldl max ((colE l j).headD 0) = maxE (colE l j) := by rw [maxE, List.take_of_length_le (by rw [colE_len]; omega)]
      refine XO.c (.add rfl rfl (by rw [e3]; omega)) rfl rfl ?_
      refine XO.c (.move rfl) rfl rfl ?_
      refine XO.c (.fieldAddr rfl ((b101).fa (f := 1) (k := 1) (by kernel_rfl))) rfl rfl ?_
      refine XO.r (.load rfl ((((b101).base.snd' (m := 1) rfl (b101).isP)).ldInt vt3)) rfl rfl ?_
      refine XO.c (.add rfl rfl (by rw [e4]; omega)) rfl rfl ?_
      refine XO.c (.buildS (vs := [.int .i64 ((((colE l j).take i).foldl min ((colE l j).headD 0)) + b.1), .int .i64 ((((colE l j).take i).foldl max ((colE l j).headD 0)) + b.2)]) ⟨⟨rfl, rfl⟩, ⟨⟨rfl, rfl⟩, trivial⟩⟩ (by kernel_rfl) rfl) rfl rfl ?_
      refine XO.pushR (S0 := S) (h0 := h101) el81 el81 rfl rfl g_out103 (RepV.mk2 (a := (.int .i64)) (b := (.int .i64)) (x := (((((colE l j).take i).foldl min ((colE l j).headD 0)) + b.1), ((((colE l j).take i).foldl max ((colE l j).headD 0)) + b.2))) (RepV.ofInt .i64 _) (RepV.ofInt .i64 _) rfl rfl) aL103 hkL103 (hA.inS hS) (by simp; omega) (by decide) rfl rfl rfl ?_
      intro out112 h112 g112 a112 n112 l112
      have ok113 := hA.ok hok
      have gg113 : Goes hh108 (ownB out ++ S) h112 (ownB out112 ++ S) := n112
      replace hA := hAL103.trans a112
      replace aL103 := a112
      replace nL103 := nL103.trans gg113
      replace ha0 := ha0.nx gg113
      replace b101 := b101.nx gg113
      replace s104 := s104.nx gg113
      replace s106 := s106.nx gg113
      replace s107 := s107.nx gg113
      refine XO.c (.assign rfl) rfl rfl ?_
      refine XO.nil ?_
      intro tf htf
      refine inBlock_nrm ?_
      refine thenC.go ?_ tf htf
      refine XC.text ?_
      refine XO.c (.move rfl) rfl rfl ?_
      refine XO.c (.add rfl rfl (by omega)) rfl rfl ?_
      refine XO.c (.assign rfl) rfl rfl ?_
      refine XO.nil ?_
      intro tf htf
      refine ⟨rfl, rfl, _, [(0, v0), (3, p101), (5, out112), (6, .int .i64 (((j + 1) : Nat) : Int))], ?_, htf.keep _ ⟨rfl, rfl, rfl, rfl, trivial⟩, (j + 1), out112, rfl, rfl, hA, aL103, nL103, (by have h7 := g112; rw [e3, e4] at h7; rw [List.range_succ, List.map_append]; exact h7), (by omega)⟩
      omega
  · refine XC.exit ?_
    intro tf htf
    refine thenC_exit ?_
    refine loopQ_exit ?_
    refine inBlock_eq ?_
    refine thenC.go ?_ tf htf
    refine XC.seq ?_
    refine XC.text ?_
    refine XO.c (.move rfl) rfl rfl ?_
    refine XO.c (.assign rfl) rfl rfl ?_
    refine XO.nil (thenC.go ?_)
    refine XC.ret fun tf htf => ?_
    have s114 := g_out103.shut hSL103
    have gg114 : Goes hh103 (ownB out ++ S) hh103 S := nx_own
    replace ha0 := ha0.nx gg114
    replace b101 := b101.nx gg114
    replace s104 := s104.nx gg114
    refine endF.one rfl rfl (htf 4 _ rfl) ?_
    refine ⟨hA.left _, ?_⟩
    have hw := (s114).ret hA
    rw [show j = len0 l by omega] at hw; exact hw
theorem rSameI_ok {h : Heap} {S : List Nat} {v0 : Value} {a : List (Int × Int)} {v1 : Value} {b : List (Int × Int)} (hok : HOk h) (hS : ∀ b ∈ S, b < h.next) (ha0 : SlV h S (.pair (.int .i64) (.int .i64)) v0 a) (ha1 : SlV h S (.pair (.int .i64) (.int .i64)) v1 b) (hla : a.length < 1000000) : EvF Tryz.prog OA 51 [v0, v1] h fun r h' => r = .bool (decide (a = b)) ∧ h' = h := by
  refine XF.enter Tryz.func51 rfl rfl rfl ?_
  have hok : HOk (entry h) := hok
  have hA := After.refl (entry h)
  replace ha0 := ha0.entry
  replace ha1 := ha1.entry
  show XC Tryz.prog OA none _ _ [] [(0, v0), (1, v1)] (entry h) _
  refine XC.seq ?_
  refine XC.text ?_
  refine XO.c (.assign rfl) rfl rfl ?_
  refine XO.nil (thenC.go ?_)
  refine XC.seq ?_
  refine XC.seq ?_
  refine XC.text ?_
  refine XO.c (.move rfl) rfl rfl ?_
  refine XO.a (.len rfl (ha0.len el81)) rfl rfl ?_
  refine XO.c (.move rfl) rfl rfl ?_
  refine XO.a (.len rfl (ha1.len el81)) rfl rfl ?_
  refine XO.c (.neq rfl rfl) rfl rfl ?_
  refine XO.nil (thenC.go ?_)
  refine XC.condD rfl (fun c1 => ?_) (fun c1 => ?_)
  · refine XC.seq ?_
    refine XC.text ?_
    refine XO.c (.assign rfl) rfl rfl ?_
    refine XO.nil (thenC.go ?_)
    refine XC.ret fun tf htf => ?_
    refine thenC_ret ?_
    refine endF.one rfl rfl (htf 4 _ rfl) ?_
    exact ⟨congrArg Value.bool (by refine (decide_eq_false fun he => ?_).symm; subst he; omega), hA.leftAf rfl⟩
  · refine XC.skip (thenC.go ?_)
    refine XC.seq ?_
    refine XC.seq ?_
    refine XC.text ?_
    refine XO.c (.assign rfl) rfl rfl ?_
    refine XO.nil (thenC.go ?_)
    refine XC.block ?_
    have hAL115 := hA
    have hkL115 := hA.ok hok
    have hSL115 := (hA.inS hS)
    refine XC.keep [(0, v0), (1, v1), (5, .int .i64 ((0 : Nat) : Int))] ⟨rfl, rfl, rfl, trivial⟩ ?_
    refine XC.loopI (I := fun (kk : Nat) (ff : FL) (hh : Heap) => ∃ (j : Nat), kk = a.length - j ∧ ff = [(0, v0), (1, v1), (5, .int .i64 ((j : Nat) : Int))] ∧ After (entry h) hh ∧ After (entry h) hh ∧ Goes (entry h) S hh S ∧ (j ≤ a.length) ∧ (a.take j = b.take j)) ?_ _ _ _ ⟨0, rfl, rfl, hA, After.refl _, Goes.refl, (by omega), (by simp)⟩
    clear hA
    rintro kk ff hh115 ⟨j, hk115, rfl, hA, aL115, nL115, hj, hf⟩
    replace ha0 := ha0.nx nL115
    replace ha1 := ha1.nx nL115
    refine XC.seq ?_
    refine XC.seq ?_
    refine XC.text ?_
    refine XO.c (.move rfl) rfl rfl ?_
    refine XO.c (.move rfl) rfl rfl ?_
    refine XO.a (.len rfl (ha0.len el81)) rfl rfl ?_
    refine XO.c (.lss rfl rfl) rfl rfl ?_
    refine XO.nil (thenC.go ?_)
    refine XC.condD rfl (fun c4 => ?_) (fun c4 => ?_)
    · refine XC.skip (thenC.go ?_)
      refine XC.seq ?_
      refine XC.block ?_
      refine XC.seq ?_
      refine XC.drawn ?_
      have hkr116 := hA.ok hok
      have hSr116 := (hA.inS hS)
      refine XD.c (b := 0) (.move rfl) rfl rfl rfl ?_
      refine XD.c (b := 0) (.move rfl) rfl rfl rfl ?_
      refine XD.c (b := 3) (.indexAddr rfl rfl rfl (ha0.ix (j := j) el81 (by omega))) rfl rfl rfl ?_
      obtain ⟨u117, e117, r117⟩ := ((ha0.at (j := j) (by omega))).ldV vt41
      obtain ⟨c118_0, c118_1, rfl, r118_0, r118_1⟩ := r117.st2 rfl rfl
      obtain rfl := r118_0.int
      obtain rfl := r118_1.int
      refine XD.ld (b := 7) (After.refl _) SegsOk.nil hkr116 rfl (e117) rfl rfl rfl rfl ?_
      refine XD.c (b := 0) (.move rfl) rfl rfl rfl ?_
      refine XD.c (b := 0) (.move rfl) rfl rfl rfl ?_
      refine XD.c (b := 48) (.indexAddr rfl rfl rfl (ha1.ix (j := j) el81 (by omega))) rfl rfl rfl ?_
      obtain ⟨u119, e119, r119⟩ := ((ha1.at (j := j) (by omega))).ldV vt41
      obtain ⟨c120_0, c120_1, rfl, r120_0, r120_1⟩ := r119.st2 rfl rfl
      obtain rfl := r120_0.int
      obtain rfl := r120_1.int
      refine XD.ld (b := 112) (After.refl _) (SegsOk.cons ((After.refl _)).next SegsOk.nil) hkr116 rfl (e119) rfl rfl rfl rfl ?_
      refine XD.c (b := 255) (.neII (by kernel_rfl) rfl rfl) rfl rfl rfl ?_
      refine XD.nil (thenC.go ?_)
      refine XC.condD rfl (fun c6 => ?_) (fun c6 => ?_)
      · refine XC.seq ?_
        refine XC.text ?_
        refine XO.c (.assign rfl) rfl rfl ?_
        refine XO.nil (thenC.go ?_)
        refine XC.ret fun tf htf => ?_
        refine inBlock_ret ?_
        refine thenC_ret ?_
        refine loopQ_ret ?_
        refine inBlock_ret ?_
        refine thenC_ret ?_
        refine endF.one rfl rfl (htf 4 _ rfl) ?_
        exact ⟨congrArg Value.bool (by refine (decide_eq_false fun he => ?_).symm; subst he; exact c6 rfl), hA.leftAf rfl⟩
      · refine XC.skip ?_
        intro tf htf
        refine inBlock_nrm ?_
        refine thenC.go ?_ tf htf
        refine XC.text ?_
        refine XO.c (.move rfl) rfl rfl ?_
        refine XO.c (.add rfl rfl (by omega)) rfl rfl ?_
        refine XO.c (.assign rfl) rfl rfl ?_
        refine XO.nil ?_
        intro tf htf
        refine ⟨rfl, rfl, _, [(0, v0), (1, v1), (5, .int .i64 (((j + 1) : Nat) : Int))], ?_, htf.keep _ ⟨rfl, rfl, rfl, trivial⟩, (j + 1), rfl, rfl, hA, aL115, nL115, (by omega), (by rw [List.take_succ_eq_append_getElem (by omega), List.take_succ_eq_append_getElem (by omega), hf, show a[j] = b[j] from Decidable.not_not.1 c6])⟩
        omega
    · refine XC.exit ?_
      intro tf htf
      refine thenC_exit ?_
      refine loopQ_exit ?_
      refine inBlock_eq ?_
      refine thenC.go ?_ tf htf
      refine XC.seq ?_
      refine XC.text ?_
      refine XO.c (.assign rfl) rfl rfl ?_
      refine XO.nil (thenC.go ?_)
      refine XC.ret fun tf htf => ?_
      refine endF.one rfl rfl (htf 4 _ rfl) ?_
      exact ⟨congrArg Value.bool (by refine (decide_eq_true ?_).symm; rw [List.take_of_length_le (by omega), List.take_of_length_le (by omega)] at hf; exact hf), hA.leftAf rfl⟩
def shortCE (l : List (Int × List Int)) : Bool := decide ((l.length ≤ 6 ∨ l.length = 17) ∧ ∀ c ∈ l, c.2.length ≤ 12 ∨ c.2.length = 97)
theorem rShortC_ok {h : Heap} {S : List Nat} {v0 : Value} {l : List (Int × (List Int))} (hok : HOk h) (hS : ∀ b ∈ S, b < h.next) (ha0 : SlV h S (.pair (.int .i64) (.sl (.int .i64))) v0 l) : EvF Tryz.prog OA 35 [v0] h fun r h' => r = .bool (shortCE l) ∧ h' = h := by
  refine XF.enter Tryz.func35 rfl rfl rfl ?_
  have hok : HOk (entry h) := hok
  have hA := After.refl (entry h)
  replace ha0 := ha0.entry
  show XC Tryz.prog OA none _ _ [] [(0, v0)] (entry h) _
  refine XC.seq ?_
  refine XC.text ?_
  refine XO.c (.assign rfl) rfl rfl ?_
  refine XO.nil (thenC.go ?_)
  refine XC.seq ?_
  refine XC.seq ?_
  refine XC.text ?_
  refine XO.c (.move rfl) rfl rfl ?_
  refine XO.a (.len rfl (ha0.len el54)) rfl rfl ?_
  refine XO.c (.gtr rfl rfl) rfl rfl ?_
  refine XO.c (.move rfl) rfl rfl ?_
  refine XO.splitD (x := 7) rfl (fun g1_3 => ?_) (fun g1_3 => ?_)
  · refine XO.gc rfl rfl rfl (.move rfl) rfl rfl ?_
    refine XO.ga rfl rfl rfl (.len rfl (ha0.len el54)) rfl rfl ?_
    refine XO.gc rfl rfl rfl (.neq rfl rfl) rfl rfl ?_
    refine XO.c (.pickT rfl rfl) rfl rfl ?_
    refine XO.nil (thenC.go ?_)
    refine XC.condD rfl (fun c1 => ?_) (fun c1 => ?_)
    · refine XC.seq ?_
      refine XC.text ?_
      refine XO.c (.assign rfl) rfl rfl ?_
      refine XO.nil (thenC.go ?_)
      refine XC.ret fun tf htf => ?_
      refine thenC_ret ?_
      refine endF.one rfl rfl (htf 2 _ rfl) ?_
      exact ⟨congrArg Value.bool (by first | (refine (decide_eq_false fun h => ?_).symm; have h1 := h.1; omega) | (refine (decide_eq_false fun h => ?_).symm; have h1 := h.2 _ (List.getElem_mem (show j < l.length by omega)); omega) | (refine (decide_eq_true ⟨hl0, ?_⟩).symm; rw [List.take_of_length_le (by omega)] at hf; exact hf)), hA.leftAf rfl⟩
    · refine XC.skip (thenC.go ?_)
      refine XC.seq ?_
      refine XC.seq ?_
      refine XC.text ?_
      refine XO.c (.assign rfl) rfl rfl ?_
      refine XO.nil (thenC.go ?_)
      refine XC.block ?_
      have hAL121 := hA
      have hkL121 := hA.ok hok
      have hSL121 := (hA.inS hS)
      refine XC.keep [(0, v0), (3, .int .i64 ((0 : Nat) : Int))] ⟨rfl, rfl, trivial⟩ ?_
      refine XC.loopI (I := fun (kk : Nat) (ff : FL) (hh : Heap) => ∃ (j : Nat), kk = l.length - j ∧ ff = [(0, v0), (3, .int .i64 ((j : Nat) : Int))] ∧ After (entry h) hh ∧ After (entry h) hh ∧ Goes (entry h) S hh S ∧ (j ≤ l.length) ∧ (l.length ≤ 6 ∨ l.length = 17) ∧ (∀ c ∈ l.take j, c.2.length ≤ 12 ∨ c.2.length = 97)) ?_ _ _ _ ⟨0, rfl, rfl, hA, After.refl _, Goes.refl, (by omega), (by omega), (by simp)⟩
      clear hA
      rintro kk ff hh121 ⟨j, hk121, rfl, hA, aL121, nL121, hj, hl0, hf⟩
      replace ha0 := ha0.nx nL121
      refine XC.seq ?_
      refine XC.seq ?_
      refine XC.text ?_
      refine XO.c (.move rfl) rfl rfl ?_
      refine XO.c (.move rfl) rfl rfl ?_
      refine XO.a (.len rfl (ha0.len el54)) rfl rfl ?_
      refine XO.c (.lss rfl rfl) rfl rfl ?_
      refine XO.nil (thenC.go ?_)
      refine XC.condD rfl (fun c4 => ?_) (fun c4 => ?_)
      · refine XC.skip (thenC.go ?_)
        refine XC.seq ?_
        refine XC.block ?_
        refine XC.seq ?_
        refine XC.text ?_
        refine XO.c (.move rfl) rfl rfl ?_
        refine XO.c (.move rfl) rfl rfl ?_
        refine XO.c (.indexAddr rfl rfl rfl (ha0.ix (j := j) el54 (by omega))) rfl rfl ?_
        refine XO.c (.fieldAddr rfl (((ha0.at (j := j) (by omega))).fa (f := 1) (k := 1) (by kernel_rfl))) rfl rfl ?_
        obtain ⟨u122, e122, s122⟩ := ((((ha0.at (j := j) (by omega))).base.snd' (m := 1) rfl ((ha0.at (j := j) (by omega))).isP)).ldSl vt22
        refine XO.r (.load rfl (e122)) rfl rfl ?_
        refine XO.a (.len rfl (s122.len el22)) rfl rfl ?_
        refine XO.c (.gtr rfl rfl) rfl rfl ?_
        refine XO.c (.move rfl) rfl rfl ?_
        refine XO.splitD (x := 25) rfl (fun g6_7 => ?_) (fun g6_7 => ?_)
        · refine XO.gc rfl rfl rfl (.move rfl) rfl rfl ?_
          refine XO.gc rfl rfl rfl (.move rfl) rfl rfl ?_
          refine XO.gc rfl rfl rfl (.indexAddr rfl rfl rfl (ha0.ix (j := j) el54 (by omega))) rfl rfl ?_
          refine XO.gc rfl rfl rfl (.fieldAddr rfl (((ha0.at (j := j) (by omega))).fa (f := 1) (k := 1) (by kernel_rfl))) rfl rfl ?_
          obtain ⟨u123, e123, s123⟩ := ((((ha0.at (j := j) (by omega))).base.snd' (m := 1) rfl ((ha0.at (j := j) (by omega))).isP)).ldSl vt22
          refine XO.gr rfl rfl rfl (.load rfl (e123)) rfl rfl ?_
          refine XO.ga rfl rfl rfl (.len rfl (s123.len el22)) rfl rfl ?_
          refine XO.gc rfl rfl rfl (.neq rfl rfl) rfl rfl ?_
          refine XO.c (.pickT rfl rfl) rfl rfl ?_
          refine XO.nil (thenC.go ?_)
          refine XC.condD rfl (fun c6 => ?_) (fun c6 => ?_)
          · refine XC.seq ?_
            refine XC.text ?_
            refine XO.c (.assign rfl) rfl rfl ?_
            refine XO.nil (thenC.go ?_)
            refine XC.ret fun tf htf => ?_
            refine inBlock_ret ?_
            refine thenC_ret ?_
            refine loopQ_ret ?_
            refine inBlock_ret ?_
            refine thenC_ret ?_
            refine endF.one rfl rfl (htf 2 _ rfl) ?_
            exact ⟨congrArg Value.bool (by first | (refine (decide_eq_false fun h => ?_).symm; have h1 := h.1; omega) | (refine (decide_eq_false fun h => ?_).symm; have h1 := h.2 _ (List.getElem_mem (show j < l.length by omega)); omega) | (refine (decide_eq_true ⟨hl0, ?_⟩).symm; rw [List.take_of_length_le (by omega)] at hf; exact hf)), hA.leftAf rfl⟩
          · refine XC.skip ?_
            intro tf htf
            refine inBlock_nrm ?_
            refine thenC.go ?_ tf htf
            refine XC.text ?_
            refine XO.c (.move rfl) rfl rfl ?_
            refine XO.c (.add rfl rfl (by omega)) rfl rfl ?_
            refine XO.c (.assign rfl) rfl rfl ?_
            refine XO.nil ?_
            intro tf htf
            refine ⟨rfl, rfl, _, [(0, v0), (3, .int .i64 (((j + 1) : Nat) : Int))], ?_, htf.keep _ ⟨rfl, rfl, trivial⟩, (j + 1), rfl, rfl, hA, aL121, nL121, (by omega), (by exact hl0), (by exact all_take (by omega) hf (by omega))⟩
            omega
        · refine XO.skip rfl rfl rfl rfl rfl ?_
          refine XO.skip rfl rfl rfl rfl rfl ?_
          refine XO.skip rfl rfl rfl rfl rfl ?_
          refine XO.skip rfl rfl rfl rfl rfl ?_
          refine XO.skip rfl rfl rfl rfl rfl ?_
          refine XO.skip rfl rfl rfl rfl rfl ?_
          refine XO.skip rfl rfl rfl rfl rfl ?_
          refine XO.c (.pickF rfl rfl) rfl rfl ?_
          refine XO.nil (thenC.go ?_)
          refine XC.condF rfl ?_
          refine XC.skip ?_
          intro tf htf
          refine inBlock_nrm ?_
          refine thenC.go ?_ tf htf
          refine XC.text ?_
          refine XO.c (.move rfl) rfl rfl ?_
          refine XO.c (.add rfl rfl (by omega)) rfl rfl ?_
          refine XO.c (.assign rfl) rfl rfl ?_
          refine XO.nil ?_
          intro tf htf
          refine ⟨rfl, rfl, _, [(0, v0), (3, .int .i64 (((j + 1) : Nat) : Int))], ?_, htf.keep _ ⟨rfl, rfl, trivial⟩, (j + 1), rfl, rfl, hA, aL121, nL121, (by omega), (by exact hl0), (by exact all_take (by omega) hf (by omega))⟩
          omega
      · refine XC.exit ?_
        intro tf htf
        refine thenC_exit ?_
        refine loopQ_exit ?_
        refine inBlock_eq ?_
        refine thenC.go ?_ tf htf
        refine XC.seq ?_
        refine XC.text ?_
        refine XO.c (.assign rfl) rfl rfl ?_
        refine XO.nil (thenC.go ?_)
        refine XC.ret fun tf htf => ?_
        refine endF.one rfl rfl (htf 2 _ rfl) ?_
        exact ⟨congrArg Value.bool (by first | (refine (decide_eq_false fun h => ?_).symm; have h1 := h.1; omega) | (refine (decide_eq_false fun h => ?_).symm; have h1 := h.2 _ (List.getElem_mem (show j < l.length by omega)); omega) | (refine (decide_eq_true ⟨hl0, ?_⟩).symm; rw [List.take_of_length_le (by omega)] at hf; exact hf)), hA.leftAf rfl⟩
  · refine XO.skip rfl rfl rfl rfl rfl ?_
    refine XO.skip rfl rfl rfl rfl rfl ?_
    refine XO.skip rfl rfl rfl rfl rfl ?_
    refine XO.c (.pickF rfl rfl) rfl rfl ?_
    refine XO.nil (thenC.go ?_)
    refine XC.condF rfl ?_
    refine XC.skip (thenC.go ?_)
    refine XC.seq ?_
    refine XC.seq ?_
    refine XC.text ?_
    refine XO.c (.assign rfl) rfl rfl ?_
    refine XO.nil (thenC.go ?_)
    refine XC.block ?_
    have hAL124 := hA
    have hkL124 := hA.ok hok
    have hSL124 := (hA.inS hS)
    refine XC.keep [(0, v0), (3, .int .i64 ((0 : Nat) : Int))] ⟨rfl, rfl, trivial⟩ ?_
    refine XC.loopI (I := fun (kk : Nat) (ff : FL) (hh : Heap) => ∃ (j : Nat), kk = l.length - j ∧ ff = [(0, v0), (3, .int .i64 ((j : Nat) : Int))] ∧ After (entry h) hh ∧ After (entry h) hh ∧ Goes (entry h) S hh S ∧ (j ≤ l.length) ∧ (l.length ≤ 6 ∨ l.length = 17) ∧ (∀ c ∈ l.take j, c.2.length ≤ 12 ∨ c.2.length = 97)) ?_ _ _ _ ⟨0, rfl, rfl, hA, After.refl _, Goes.refl, (by omega), (by omega), (by simp)⟩
    clear hA
    rintro kk ff hh124 ⟨j, hk124, rfl, hA, aL124, nL124, hj, hl0, hf⟩
    replace ha0 := ha0.nx nL124
    refine XC.seq ?_
    refine XC.seq ?_
    refine XC.text ?_
    refine XO.c (.move rfl) rfl rfl ?_
    refine XO.c (.move rfl) rfl rfl ?_
    refine XO.a (.len rfl (ha0.len el54)) rfl rfl ?_
    refine XO.c (.lss rfl rfl) rfl rfl ?_
    refine XO.nil (thenC.go ?_)
    refine XC.condD rfl (fun c4 => ?_) (fun c4 => ?_)
    · refine XC.skip (thenC.go ?_)
      refine XC.seq ?_
      refine XC.block ?_
      refine XC.seq ?_
      refine XC.text ?_
      refine XO.c (.move rfl) rfl rfl ?_
      refine XO.c (.move rfl) rfl rfl ?_
      refine XO.c (.indexAddr rfl rfl rfl (ha0.ix (j := j) el54 (by omega))) rfl rfl ?_
      refine XO.c (.fieldAddr rfl (((ha0.at (j := j) (by omega))).fa (f := 1) (k := 1) (by kernel_rfl))) rfl rfl ?_
      obtain ⟨u125, e125, s125⟩ := ((((ha0.at (j := j) (by omega))).base.snd' (m := 1) rfl ((ha0.at (j := j) (by omega))).isP)).ldSl vt22
      refine XO.r (.load rfl (e125)) rfl rfl ?_
      refine XO.a (.len rfl (s125.len el22)) rfl rfl ?_
      refine XO.c (.gtr rfl rfl) rfl rfl ?_
      refine XO.c (.move rfl) rfl rfl ?_
      refine XO.splitD (x := 25) rfl (fun g6_7 => ?_) (fun g6_7 => ?_)
      · refine XO.gc rfl rfl rfl (.move rfl) rfl rfl ?_
        refine XO.gc rfl rfl rfl (.move rfl) rfl rfl ?_
        refine XO.gc rfl rfl rfl (.indexAddr rfl rfl rfl (ha0.ix (j := j) el54 (by omega))) rfl rfl ?_
        refine XO.gc rfl rfl rfl (.fieldAddr rfl (((ha0.at (j := j) (by omega))).fa (f := 1) (k := 1) (by kernel_rfl))) rfl rfl ?_
        obtain ⟨u126, e126, s126⟩ := ((((ha0.at (j := j) (by omega))).base.snd' (m := 1) rfl ((ha0.at (j := j) (by omega))).isP)).ldSl vt22
        refine XO.gr rfl rfl rfl (.load rfl (e126)) rfl rfl ?_
        refine XO.ga rfl rfl rfl (.len rfl (s126.len el22)) rfl rfl ?_
        refine XO.gc rfl rfl rfl (.neq rfl rfl) rfl rfl ?_
        refine XO.c (.pickT rfl rfl) rfl rfl ?_
        refine XO.nil (thenC.go ?_)
        refine XC.condD rfl (fun c6 => ?_) (fun c6 => ?_)
        · refine XC.seq ?_
          refine XC.text ?_
          refine XO.c (.assign rfl) rfl rfl ?_
          refine XO.nil (thenC.go ?_)
          refine XC.ret fun tf htf => ?_
          refine inBlock_ret ?_
          refine thenC_ret ?_
          refine loopQ_ret ?_
          refine inBlock_ret ?_
          refine thenC_ret ?_
          refine endF.one rfl rfl (htf 2 _ rfl) ?_
          exact ⟨congrArg Value.bool (by first | (refine (decide_eq_false fun h => ?_).symm; have h1 := h.1; omega) | (refine (decide_eq_false fun h => ?_).symm; have h1 := h.2 _ (List.getElem_mem (show j < l.length by omega)); omega) | (refine (decide_eq_true ⟨hl0, ?_⟩).symm; rw [List.take_of_length_le (by omega)] at hf; exact hf)), hA.leftAf rfl⟩
        · refine XC.skip ?_
          intro tf htf
          refine inBlock_nrm ?_
          refine thenC.go ?_ tf htf
          refine XC.text ?_
          refine XO.c (.move rfl) rfl rfl ?_
          refine XO.c (.add rfl rfl (by omega)) rfl rfl ?_
          refine XO.c (.assign rfl) rfl rfl ?_
          refine XO.nil ?_
          intro tf htf
          refine ⟨rfl, rfl, _, [(0, v0), (3, .int .i64 (((j + 1) : Nat) : Int))], ?_, htf.keep _ ⟨rfl, rfl, trivial⟩, (j + 1), rfl, rfl, hA, aL124, nL124, (by omega), (by exact hl0), (by exact all_take (by omega) hf (by omega))⟩
          omega
      · refine XO.skip rfl rfl rfl rfl rfl ?_
        refine XO.skip rfl rfl rfl rfl rfl ?_
        refine XO.skip rfl rfl rfl rfl rfl ?_
        refine XO.skip rfl rfl rfl rfl rfl ?_
        refine XO.skip rfl rfl rfl rfl rfl ?_
        refine XO.skip rfl rfl rfl rfl rfl ?_
        refine XO.skip rfl rfl rfl rfl rfl ?_
        refine XO.c (.pickF rfl rfl) rfl rfl ?_
        refine XO.nil (thenC.go ?_)
        refine XC.condF rfl ?_
        refine XC.skip ?_
        intro tf htf
        refine inBlock_nrm ?_
        refine thenC.go ?_ tf htf
        refine XC.text ?_
        refine XO.c (.move rfl) rfl rfl ?_
        refine XO.c (.add rfl rfl (by omega)) rfl rfl ?_
        refine XO.c (.assign rfl) rfl rfl ?_
        refine XO.nil ?_
        intro tf htf
        refine ⟨rfl, rfl, _, [(0, v0), (3, .int .i64 (((j + 1) : Nat) : Int))], ?_, htf.keep _ ⟨rfl, rfl, trivial⟩, (j + 1), rfl, rfl, hA, aL124, nL124, (by omega), (by exact hl0), (by exact all_take (by omega) hf (by omega))⟩
        omega
    · refine XC.exit ?_
      intro tf htf
      refine thenC_exit ?_
      refine loopQ_exit ?_
      refine inBlock_eq ?_
      refine thenC.go ?_ tf htf
      refine XC.seq ?_
      refine XC.text ?_
      refine XO.c (.assign rfl) rfl rfl ?_
      refine XO.nil (thenC.go ?_)
      refine XC.ret fun tf htf => ?_
      refine endF.one rfl rfl (htf 2 _ rfl) ?_
      exact ⟨congrArg Value.bool (by first | (refine (decide_eq_false fun h => ?_).symm; have h1 := h.1; omega) | (refine (decide_eq_false fun h => ?_).symm; have h1 := h.2 _ (List.getElem_mem (show j < l.length by omega)); omega) | (refine (decide_eq_true ⟨hl0, ?_⟩).symm; rw [List.take_of_length_le (by omega)] at hf; exact hf)), hA.leftAf rfl⟩
theorem lCourses_ok {h : Heap} {S : List Nat} {v0 : Value} {l : List (Int × (List Int))} (hok : HOk h) (hS : ∀ b ∈ S, b < h.next) (ha0 : SlV h S (.pair (.int .i64) (.sl (.int .i64))) v0 l) (hl : l.length < 100000) (hc : ∀ c ∈ l, c.2.length < 100000) : EvF Tryz.prog OA 37 [v0] h fun r h' => After h h' ∧ SlV h' S (.pair (.int .i64) (.sl (.int .i64))) r l := by
  refine XF.enter Tryz.func37 rfl rfl rfl ?_
  have hok : HOk (entry h) := hok
  have hA := After.refl (entry h)
  replace ha0 := ha0.entry
  show XC Tryz.prog OA none _ _ [] [(0, v0)] (entry h) _
  refine XC.seq ?_
  refine XC.text ?_
  refine XO.c (.assign rfl) rfl rfl ?_
  refine XO.nil (thenC.go ?_)
  refine XC.seq ?_
  refine XC.text ?_
  refine XO.c (.assign rfl) rfl rfl ?_
  refine XO.nil (thenC.go ?_)
  refine XC.seq ?_
  refine XC.seq ?_
  refine XC.text ?_
  refine XO.c (.move rfl) rfl rfl ?_
  refine XO.a (.len rfl (ha0.len el54)) rfl rfl ?_
  refine XO.c (.move rfl) rfl rfl ?_
  refine XO.nil (thenC.go ?_)
  refine XC.block ?_
  have hAL127 := hA
  have hkL127 := hA.ok hok
  have hSL127 := (hA.inS hS)
  refine XC.keep [(3, .slice none 0 0), (6, v0), (7, .int .i64 ((l.length : Nat) : Int)), (8, .int .i64 ((0 : Nat) : Int))] ⟨rfl, rfl, rfl, rfl, trivial⟩ ?_
  refine XC.loopI (I := fun (kk : Nat) (ff : FL) (hh : Heap) => ∃ (j : Nat) (out : Value), kk = l.length - j ∧ ff = [(3, out), (6, v0), (7, .int .i64 ((l.length : Nat) : Int)), (8, .int .i64 ((j : Nat) : Int))] ∧ After (entry h) hh ∧ After (entry h) hh ∧ Goes (entry h) S hh (ownB out ++ S) ∧ GrowR hh (ownB out ++ S) (entry h).next 89 true (.pair (.int .i64) (.sl (.int .i64))) out (l.take j) ∧ (j ≤ l.length)) ?_ _ _ _ ⟨0, .slice none 0 0, rfl, rfl, hA, After.refl _, Goes.refl, (GrowR.nil), (by omega)⟩
  clear hA
  rintro kk ff hh127 ⟨j, out, hk127, rfl, hA, aL127, nL127, g_out127, hj⟩
  replace ha0 := ha0.nx nL127
  refine XC.seq ?_
  refine XC.text ?_
  refine XO.c (.lss rfl rfl) rfl rfl ?_
  refine XO.nil (thenC.go ?_)
  refine XC.seq ?_
  refine XC.condD rfl (fun c3 => ?_) (fun c3 => ?_)
  · refine XC.skip (thenC.go ?_)
    refine XC.seq ?_
    refine XC.block ?_
    refine XC.seq ?_
    refine XC.text ?_
    refine XO.c (.indexAddr rfl rfl rfl (ha0.ix (j := j) el54 (by omega))) rfl rfl ?_
    obtain ⟨u128, e128, r128⟩ := ((ha0.at (j := j) (by omega))).ldV vt72
    obtain ⟨c129_0, c129_1, rfl, r129_0, r129_1⟩ := r128.st2 rfl rfl
    obtain rfl := r129_0.int
    replace r129_1 := r129_1.sl
    refine XO.r (.load rfl (e128)) rfl rfl ?_
    refine XO.allocP (S := (ownB out ++ S)) (z := .agg #[.int .i64 0, .slice none 0 0]) (by kernel_rfl) rfl rfl aL127 hkL127 (g_out127.inS (hA.ok hok) (hA.inS hS)) rfl rfl ?_
    intro p130 h130 b130 a130 gs130
    have ok131 := hA.ok hok
    have gg131 : Goes hh127 (ownB out ++ S) h130 (ownP p130 ++ (ownB out ++ S)) := gs130
    replace hA := hA.trans a130
    replace aL127 := aL127.trans a130
    replace nL127 := nL127.trans gg131
    replace ha0 := ha0.nx gg131
    replace r129_1 := r129_1.nx gg131
    replace g_out127 := g_out127.up a130 ok131 gg131 (fun b hb => by simp [hb])
    refine XO.stP (S := (ownB out ++ S)) (h0 := (entry h)) (τ := (.pair (.int .i64) (.sl (.int .i64)))) rfl rfl b130 (RepV.mk2 (a := (.int .i64)) (b := (.sl (.int .i64))) (x := l[j]) (RepV.ofInt .i64 _) (r129_1).rep rfl rfl) vt72 aL127 ?_
    intro h132 b132 a132 gs132 nx132 fr132
    have ok133 := hA.ok hok
    have gg133 : Goes h130 (ownP p130 ++ (ownB out ++ S)) h132 (ownB out ++ S) := gs132
    replace hA := hAL127.trans a132
    replace aL127 := a132
    replace nL127 := nL127.trans gg133
    replace ha0 := ha0.nx gg133
    replace r129_1 := r129_1.nx gg133
    replace g_out127 := g_out127.chg (fun b hb => fr132 b (by simp [hb])) gg133 (fun b hb => by simp [hb])
    refine XO.nil (thenC.go ?_)
    refine XC.drawn ?_
    have hkr134 := hA.ok hok
    have hSr134 := (g_out127.inS (hA.ok hok) (hA.inS hS))
    refine XD.c (b := 0) (.move rfl) rfl rfl rfl ?_
    refine XD.c (b := 0) (.fieldAddr rfl ((b132).fa (f := 0) (k := 0) (by kernel_rfl))) rfl rfl rfl ?_
    refine XD.ld (b := 2) (After.refl _) SegsOk.nil hkr134 rfl (((b132).base.fst').ldInt vt3) rfl rfl rfl rfl ?_
    refine XD.c (b := 0) (.fieldAddr rfl ((b132).fa (f := 1) (k := 1) (by kernel_rfl))) rfl rfl rfl ?_
    obtain ⟨u135, e135, s135⟩ := (((b132).base.snd' (m := 1) rfl (b132).isP)).ldSl vt22
    refine XD.ld (b := 8) (After.refl _) (SegsOk.cons ((After.refl _)).next SegsOk.nil) hkr134 rfl (e135) rfl rfl rfl rfl ?_
    have hlj := hc _ (List.getElem_mem (show j < l.length by omega))
    refine XD.callU (bb := 24) (After.refl _) (SegsOk.cons ((After.refl _)).next (SegsOk.cons ((After.refl _)).next SegsOk.nil)) hkr134 rfl rfl rfl rfl rfl rfl ?_
    intro M136 aM136 kM136 nM136 sM136 oM136
    refine EvF.mono (lInts_ok kM136 (by first | exact aM136.inS hSr134 | exact (g_out127.inS (hA.ok hok) (hA.inS hS))) (s135.nx (aM136.nx hkr134)) (by first | assumption | omega)) ?_
    rintro u136 hM136 ⟨a136, s136⟩
    refine ⟨a136, ?_⟩
    clear a136
    intro h136 a136 gM136
    replace s136 := s136.nx (gM136 _)
    have ha0o := ha0
    have r129_1o := r129_1
    have b132o := b132
    have s135o := s135
    have rg134 : Goes h132 (ownB out ++ S) h132 (ownB out ++ S) := Goes.refl
    have ra134 := After.refl h132
    have ok137 := hA.ok hok
    have gg137 : Goes h132 (ownB out ++ S) h136 (ownB out ++ S) := a136.nx ok137
    replace hA := hA.trans a136
    replace aL127 := aL127.trans a136
    replace nL127 := nL127.trans gg137
    replace ha0 := ha0.nx gg137
    replace r129_1 := r129_1.nx gg137
    replace b132 := b132.nx gg137
    replace s135 := s135.nx gg137
    replace g_out127 := g_out127.up a136 ok137 gg137 (fun b hb => by simp [hb])
    replace rg134 := rg134.trans gg137
    have ra134_136 := ra134.trans a136
    refine XD.c (b := 62) (.buildS (vs := [.int .i64 ((l[j]).1), u136]) ⟨⟨rfl, rfl⟩, ⟨(s136).one, trivial⟩⟩ (by kernel_rfl) rfl) rfl rfl rfl ?_
    refine XD.pushR (b := 126) (b2 := 255) (S0 := S) (h0 := (entry h)) el64 el64 rfl (fun _ => rfl) g_out127 (RepV.mk2 (a := (.int .i64)) (b := (.sl (.int .i64))) (x := ((l[j]).1, ((l[j]).2))) (RepV.ofInt .i64 _) (s136).rep rfl rfl) aL127 hkL127 (hA.inS hS) (by simp; omega) (by decide) rfl rfl rfl rfl rfl rfl rfl ?_
    intro out138 h138 t138 g138 a138 n138 l138 w138 k138
    have ok139 := hA.ok hok
    have gg139 : Goes h136 (ownB out ++ S) h138 (ownB out138 ++ S) := n138
    replace hA := hAL127.trans a138
    replace aL127 := a138
    replace nL127 := nL127.trans gg139
    replace ha0 := ha0.nx gg139
    replace r129_1 := r129_1.nx gg139
    replace b132 := b132.nx gg139
    replace s135 := s135.nx gg139
    replace s136 := s136.nx gg139
    refine XD.c (b := 511) (.assign rfl) rfl rfl rfl ?_
    refine XD.nil ?_
    intro tf htf
    refine inBlock_nrm ?_
    refine thenC.go ?_ tf htf
    refine XC.text ?_
    refine XO.c (.add rfl rfl (by omega)) rfl rfl ?_
    refine XO.c (.move rfl) rfl rfl ?_
    refine XO.nil ?_
    intro tf htf
    refine ⟨rfl, rfl, _, [(3, out138), (6, v0), (7, .int .i64 ((l.length : Nat) : Int)), (8, .int .i64 (((j + 1) : Nat) : Int))], ?_, htf.keep _ ⟨rfl, rfl, rfl, rfl, trivial⟩, (j + 1), out138, rfl, rfl, hA, aL127, nL127, (by rw [List.take_succ_eq_append_getElem (by omega)]; exact g138), (by omega)⟩
    omega
  · refine XC.exit ?_
    intro tf htf
    refine thenC_exit ?_
    refine loopQ_exit ?_
    refine inBlock_eq ?_
    refine thenC.go ?_ tf htf
    refine XC.seq ?_
    refine XC.text ?_
    refine XO.c (.move rfl) rfl rfl ?_
    refine XO.c (.assign rfl) rfl rfl ?_
    refine XO.nil (thenC.go ?_)
    refine XC.ret fun tf htf => ?_
    have s140 := g_out127.shut hSL127
    have gg140 : Goes hh127 (ownB out ++ S) hh127 S := nx_own
    replace ha0 := ha0.nx gg140
    refine endF.one rfl rfl (htf 2 _ rfl) ?_
    refine ⟨hA.left _, ?_⟩
    have hw := (s140).ret hA
    rw [List.take_of_length_le (by omega)] at hw; exact hw
theorem same_fin1 {l : List (Int × List Int)} {b : Int × Int} (h : firstE [ensembleE l, boundsE b] = 0) : decide ((if enclB l b = 0 then encloseE l b else []) = encloseE l b) = true := decide_eq_true (if_pos h)
theorem same_fin2 {l : List (Int × List Int)} {b : Int × Int} (h : ¬ firstE [ensembleE l, boundsE b] = 0) : decide ((if enclB l b = 0 then encloseE l b else []) = []) = true := decide_eq_true (if_neg h)
theorem law4_ok {h : Heap} {S : List Nat} {v0 : Value} {l : List (Int × (List Int))} {b : Int × Int} (hok : HOk h) (hS : ∀ b ∈ S, b < h.next) (ha0 : SlV h S (.pair (.int .i64) (.sl (.int .i64))) v0 l) : EvF Tryz.prog OA 6 [v0, .agg #[.int .i64 b.1, .int .i64 b.2]] h fun r h' => r = .bool true ∧ h' = h := by
  refine XF.enter Tryz.func6 rfl rfl rfl ?_
  have hok : HOk (entry h) := hok
  have hA := After.refl (entry h)
  replace ha0 := ha0.entry
  show XC Tryz.prog OA none _ _ [] [(0, v0), (1, .agg #[.int .i64 b.1, .int .i64 b.2])] (entry h) _
  refine XC.seq ?_
  refine XC.text ?_
  refine XO.boxR rfl (RepV.mk2 (a := (.int .i64)) (b := (.int .i64)) (x := b) (RepV.ofInt .i64 _) (RepV.ofInt .i64 _) rfl rfl) (hA.ok hok) (hA.inS hS) rfl rfl ?_
  intro p141 h141 b141 a141
  have ok142 := hA.ok hok
  have gg142 : Goes (entry h) S h141 S := a141.nx ok142
  replace hA := hA.trans a141
  replace ha0 := ha0.nx gg142
  refine XO.c (.assign rfl) rfl rfl ?_
  refine XO.nil (thenC.go ?_)
  refine XC.seq ?_
  refine XC.seq ?_
  refine XC.text ?_
  refine XO.c (.move rfl) rfl rfl ?_
  refine XO.call rfl rfl rfl rfl ?_
  refine EvF.mono (rShortC_ok (hA.ok hok) (hA.inS hS) ha0 ) ?_
  rintro _ _ ⟨rfl, hh⟩
  obtain rfl := hh.symm
  clear hh
  refine XO.c (.not rfl) rfl rfl ?_
  refine XO.nil (thenC.go ?_)
  refine XC.condB rfl (fun c1 => ?_) (fun c1 => ?_)
  · refine XC.seq ?_
    refine XC.text ?_
    refine XO.call rfl rfl rfl rfl ?_
    refine EvF.mono (awake_ok  ) ?_
    rintro _ _ ⟨rfl, hh⟩
    obtain rfl := hh.symm
    clear hh
    refine XO.c (.assign rfl) rfl rfl ?_
    refine XO.nil (thenC.go ?_)
    refine XC.ret fun tf htf => ?_
    refine thenC_ret ?_
    refine endF.one rfl rfl (htf 4 _ rfl) ?_
    exact ⟨congrArg Value.bool (by first | rfl | exact absurd (same_fin1 c6).symm (by rw [g8_3]; decide) | exact absurd (same_fin2 c6).symm (by rw [g8_3]; decide) | exact absurd rfl g8_8), hA.leftAf rfl⟩
  · have hs : shortCE l = true := by simpa using c1
    have hs1 := of_decide_eq_true hs
    have hs2 := hs1.1
    have hc : ∀ c ∈ l, c.2.length < 100000 := fun c hc => by have := hs1.2 c hc; omega
    refine XC.skip (thenC.go ?_)
    refine XC.seq ?_
    refine XC.drawn ?_
    have hkr145 := hA.ok hok
    have hSr145 := (hA.inS hS)
    refine XD.c (b := 0) (.move rfl) rfl rfl rfl ?_
    refine XD.callU (bb := 1) (After.refl _) SegsOk.nil hkr145 rfl rfl rfl rfl rfl rfl ?_
    intro M146 aM146 kM146 nM146 sM146 oM146
    refine EvF.mono (lCourses_ok kM146 (by first | exact aM146.inS hSr145 | exact (hA.inS hS)) (ha0.nx (aM146.nx hkr145)) (by omega) hc) ?_
    rintro u146 hM146 ⟨a146, s146⟩
    refine ⟨a146, ?_⟩
    clear a146
    intro h146 a146 gM146
    replace s146 := s146.nx (gM146 _)
    have ha0o := ha0
    have b141o := b141
    have rg145 : Goes h141 S h141 S := Goes.refl
    have ra145 := After.refl h141
    have ok147 := hA.ok hok
    have gg147 : Goes h141 S h146 S := a146.nx ok147
    replace hA := hA.trans a146
    replace ha0 := ha0.nx gg147
    replace b141 := b141.nx gg147
    replace rg145 := rg145.trans gg147
    have ra145_146 := ra145.trans a146
    obtain ⟨u148, e148, r148⟩ := (b141).ldV vt41
    obtain ⟨c149_0, c149_1, rfl, r149_0, r149_1⟩ := r148.st2 rfl rfl
    obtain rfl := r149_0.int
    obtain rfl := r149_1.int
    obtain ⟨u150, e150, r150⟩ := (b141o).ldV vt41
    obtain ⟨c151_0, c151_1, rfl, r151_0, r151_1⟩ := r150.st2 rfl rfl
    obtain rfl := r151_0.int
    obtain rfl := r151_1.int
    refine XD.ld (b := 0) ra145_146 (SegsOk.cons (ra145).next SegsOk.nil) hkr145 rfl (e150) rfl rfl rfl rfl ?_
    refine XD.callU (bb := 7) ra145_146 (SegsOk.cons (ra145_146).next (SegsOk.cons (ra145).next SegsOk.nil)) hkr145 rfl rfl rfl rfl rfl rfl ?_
    intro M152 aM152 kM152 nM152 sM152 oM152
    obtain rfl := oM152 rfl
    refine EvF.mono (sEnclose_ok kM152 (by first | exact aM152.inS hSr145 | exact (hA.inS hS)) (s146).entry hc) ?_
    rintro _ hM152 ⟨a152, u152_0, rfl, s152_0⟩
    refine ⟨a152, ?_⟩
    clear a152
    intro h152 a152 gM152
    replace s152_0 := s152_0.nx (gM152 _)
    have ok153 := hA.ok hok
    have gg153 : Goes h146 S h152 S := a152.nx ok153
    replace hA := hA.trans a152
    replace ha0 := ha0.nx gg153
    replace b141 := b141.nx gg153
    replace s146 := s146.nx gg153
    replace rg145 := rg145.trans gg153
    have ra145_152 := ra145_146.trans a152
    refine XD.c (b := 15) (.move rfl) rfl rfl rfl ?_
    refine XD.c (b := 31) (.extract rfl (junk2 _ _) rfl) rfl rfl rfl ?_
    refine XD.c (b := 31) (.extract rfl (junk2 _ _) rfl) rfl rfl rfl ?_
    refine XD.c (b := 63) (.assign rfl) rfl rfl rfl ?_
    refine XD.c (b := 255) (.assign rfl) rfl rfl rfl ?_
    refine XD.nil (thenC.go ?_)
    refine XC.seq ?_
    refine XC.drawn ?_
    have hkr154 := hA.ok hok
    have hSr154 := (hA.inS hS)
    refine XD.c (b := 0) (.move rfl) rfl rfl rfl ?_
    refine XD.callV (bb := 1) (After.refl _) SegsOk.nil rfl rfl rfl rfl rfl rfl ?_
    intro M155 aM155 oM155
    refine EvF.mono (rEnsemble_ok (aM155.ok hkr154) (aM155.inS hSr154) (ha0.nx (aM155.nx hkr154)) hc) ?_
    rintro _ _ ⟨rfl, hh⟩
    refine ⟨hh, ?_⟩
    clear hh
    obtain ⟨u156, e156, r156⟩ := (b141).ldV vt41
    obtain ⟨c157_0, c157_1, rfl, r157_0, r157_1⟩ := r156.st2 rfl rfl
    obtain rfl := r157_0.int
    obtain rfl := r157_1.int
    refine XD.ld (b := 0) (After.refl _) (SegsOk.cons ((After.refl _)).next SegsOk.nil) hkr154 rfl (e156) rfl rfl rfl rfl ?_
    refine XD.callV (bb := 7) (After.refl _) (SegsOk.cons ((After.refl _)).next (SegsOk.cons ((After.refl _)).next SegsOk.nil)) rfl rfl rfl rfl rfl rfl ?_
    intro M158 aM158 oM158
    refine EvF.mono (rInterval_ok (aM158.ok hkr154) (aM158.inS hSr154)  ) ?_
    rintro _ _ ⟨rfl, hh⟩
    refine ⟨hh, ?_⟩
    clear hh
    refine XD.lit (b := 15) (h := h152) (S := S) (τ := (.int .i64)) (vsC (RepV.ofInt .i64 _) (vs1 (RepV.ofInt .i64 _))) el22 rfl rfl rfl (by simp) (by simp) (by decide) (hA.ok hok) (hA.inS hS) rfl rfl rfl rfl ?_
    intro w159 h159 s159 a159
    have ha0o := ha0
    have b141o := b141
    have s146o := s146
    have s152_0o := s152_0
    have rg154 : Goes h152 S h152 S := Goes.refl
    have ra154 := After.refl h152
    have ok160 := hA.ok hok
    have gg160 : Goes h152 S h159 S := a159.nx ok160
    replace hA := hA.trans a159
    replace ha0 := ha0.nx gg160
    replace b141 := b141.nx gg160
    replace s146 := s146.nx gg160
    replace s152_0 := s152_0.nx gg160
    replace rg154 := rg154.trans gg160
    have ra154_159 := ra154.trans a159
    refine XD.callV (bb := 31) ra154_159 (SegsOk.cons (ra154).next (SegsOk.cons ((After.refl _)).next (SegsOk.cons ((After.refl _)).next (SegsOk.cons ((After.refl _)).next SegsOk.nil)))) rfl rfl rfl rfl rfl rfl ?_
    intro M161 aM161 oM161
    obtain rfl := oM161 rfl
    refine EvF.mono (lFirst_ok (hA.ok hok) (hA.inS hS) (s159).entry (by simp)) ?_
    rintro _ _ ⟨rfl, hh⟩
    refine ⟨hh, ?_⟩
    clear hh
    refine XD.c (b := 63) (.assign rfl) rfl rfl rfl ?_
    refine XD.nil (thenC.go ?_)
    refine XC.seq ?_
    refine XC.text ?_
    refine XO.c (.assign rfl) rfl rfl ?_
    refine XO.nil (thenC.go ?_)
    refine XC.seq ?_
    refine XC.seq ?_
    refine XC.text ?_
    refine XO.c (.move rfl) rfl rfl ?_
    refine XO.c (.eql rfl rfl) rfl rfl ?_
    refine XO.nil (thenC.go ?_)
    refine XC.condD rfl (fun c6 => ?_) (fun c6 => ?_)
    · refine XC.text ?_
      refine XO.c (.move rfl) rfl rfl ?_
      obtain ⟨u162, e162, r162⟩ := (b141).ldV vt41
      obtain ⟨c163_0, c163_1, rfl, r163_0, r163_1⟩ := r162.st2 rfl rfl
      obtain rfl := r163_0.int
      obtain rfl := r163_1.int
      refine XO.r (.load rfl (e162)) rfl rfl ?_
      refine XO.call rfl rfl rfl rfl ?_
      refine EvF.mono (rEnclose_ok (hA.ok hok) (hA.inS hS) ha0 (enclB_ok (show enclB l b = 0 from c6)).1 (enclB_ok (show enclB l b = 0 from c6)).2) ?_
      rintro u164 h164 ⟨a164, s164⟩
      have ok165 := hA.ok hok
      have gg165 : Goes h159 S h164 S := a164.nx ok165
      replace hA := hA.trans a164
      replace ha0 := ha0.nx gg165
      replace b141 := b141.nx gg165
      replace s146 := s146.nx gg165
      replace s152_0 := s152_0.nx gg165
      replace s159 := s159.nx gg165
      refine XO.c (.assign rfl) rfl rfl ?_
      refine XO.nil (thenC.go ?_)
      refine XC.seq ?_
      refine XC.text ?_
      refine XO.c (.move rfl) rfl rfl ?_
      refine XO.c (.move rfl) rfl rfl ?_
      have hlen : (if enclB l b = 0 then encloseE l b else []).length < 1000000 := by
        split
        · rename_i h
          have hE := (enclB_ok h).1
          have := (hE.all _ (List.getElem_mem hE.pos)).top
          simp [encloseE]; omega
        · simp
      refine XO.call rfl rfl rfl rfl ?_
      refine EvF.mono (rSameI_ok (hA.ok hok) (hA.inS hS) s152_0 s164 (by first | assumption | omega)) ?_
      rintro _ _ ⟨rfl, hh⟩
      obtain rfl := hh.symm
      clear hh
      refine XO.c (.move rfl) rfl rfl ?_
      refine XO.splitB (x := 34) rfl (fun g8_3 => ?_) (fun g8_3 => ?_)
      · refine XO.gc rfl rfl rfl (.move rfl) rfl rfl ?_
        refine XO.gc rfl rfl rfl (.move rfl) rfl rfl ?_
        refine XO.gc rfl rfl rfl (.eql rfl rfl) rfl rfl ?_
        refine XO.c (.pickT rfl rfl) rfl rfl ?_
        refine XO.c (.move rfl) rfl rfl ?_
        refine XO.splitD (x := 39) rfl (fun g8_8 => ?_) (fun g8_8 => ?_)
        · refine XO.gcall rfl rfl rfl rfl rfl rfl rfl ?_
          refine EvF.mono (awake_ok  ) ?_
          rintro _ _ ⟨rfl, hh⟩
          obtain rfl := hh.symm
          clear hh
          refine XO.c (.pickT rfl rfl) rfl rfl ?_
          refine XO.c (.assign rfl) rfl rfl ?_
          refine XO.nil (thenC.go ?_)
          refine XC.ret fun tf htf => ?_
          refine endF.one rfl rfl (htf 4 _ rfl) ?_
          exact ⟨congrArg Value.bool (by first | rfl | exact absurd (same_fin1 c6).symm (by rw [g8_3]; decide) | exact absurd (same_fin2 c6).symm (by rw [g8_3]; decide) | exact absurd rfl g8_8), hA.leftAf rfl⟩
        · refine XO.skip rfl rfl rfl rfl rfl ?_
          refine XO.c (.pickF rfl rfl) rfl rfl ?_
          refine XO.c (.assign rfl) rfl rfl ?_
          refine XO.nil (thenC.go ?_)
          refine XC.ret fun tf htf => ?_
          refine endF.one rfl rfl (htf 4 _ rfl) ?_
          exact ⟨congrArg Value.bool (by first | rfl | exact absurd (same_fin1 c6).symm (by rw [g8_3]; decide) | exact absurd (same_fin2 c6).symm (by rw [g8_3]; decide) | exact absurd rfl g8_8), hA.leftAf rfl⟩
      · refine XO.skip rfl rfl rfl rfl rfl ?_
        refine XO.skip rfl rfl rfl rfl rfl ?_
        refine XO.skip rfl rfl rfl rfl rfl ?_
        refine XO.c (.pickF rfl rfl) rfl rfl ?_
        refine XO.c (.move rfl) rfl rfl ?_
        refine XO.skip rfl rfl rfl rfl rfl ?_
        refine XO.c (.pickF rfl rfl) rfl rfl ?_
        refine XO.c (.assign rfl) rfl rfl ?_
        refine XO.nil (thenC.go ?_)
        refine XC.ret fun tf htf => ?_
        refine endF.one rfl rfl (htf 4 _ rfl) ?_
        exact ⟨congrArg Value.bool (by first | rfl | exact absurd (same_fin1 c6).symm (by rw [g8_3]; decide) | exact absurd (same_fin2 c6).symm (by rw [g8_3]; decide) | exact absurd rfl g8_8), hA.leftAf rfl⟩
    · refine XC.skip (thenC.go ?_)
      refine XC.seq ?_
      refine XC.text ?_
      refine XO.c (.move rfl) rfl rfl ?_
      refine XO.c (.move rfl) rfl rfl ?_
      have hlen : (if enclB l b = 0 then encloseE l b else []).length < 1000000 := by
        split
        · rename_i h
          have hE := (enclB_ok h).1
          have := (hE.all _ (List.getElem_mem hE.pos)).top
          simp [encloseE]; omega
        · simp
      refine XO.call rfl rfl rfl rfl ?_
      refine EvF.mono (rSameI_ok (hA.ok hok) (hA.inS hS) s152_0 SlV.nil (by first | assumption | omega)) ?_
      rintro _ _ ⟨rfl, hh⟩
      obtain rfl := hh.symm
      clear hh
      refine XO.c (.move rfl) rfl rfl ?_
      refine XO.splitB (x := 34) rfl (fun g8_3 => ?_) (fun g8_3 => ?_)
      · refine XO.gc rfl rfl rfl (.move rfl) rfl rfl ?_
        refine XO.gc rfl rfl rfl (.move rfl) rfl rfl ?_
        refine XO.gc rfl rfl rfl (.eql rfl rfl) rfl rfl ?_
        refine XO.c (.pickT rfl rfl) rfl rfl ?_
        refine XO.c (.move rfl) rfl rfl ?_
        refine XO.splitD (x := 39) rfl (fun g8_8 => ?_) (fun g8_8 => ?_)
        · refine XO.gcall rfl rfl rfl rfl rfl rfl rfl ?_
          refine EvF.mono (awake_ok  ) ?_
          rintro _ _ ⟨rfl, hh⟩
          obtain rfl := hh.symm
          clear hh
          refine XO.c (.pickT rfl rfl) rfl rfl ?_
          refine XO.c (.assign rfl) rfl rfl ?_
          refine XO.nil (thenC.go ?_)
          refine XC.ret fun tf htf => ?_
          refine endF.one rfl rfl (htf 4 _ rfl) ?_
          exact ⟨congrArg Value.bool (by first | rfl | exact absurd (same_fin1 c6).symm (by rw [g8_3]; decide) | exact absurd (same_fin2 c6).symm (by rw [g8_3]; decide) | exact absurd rfl g8_8), hA.leftAf rfl⟩
        · refine XO.skip rfl rfl rfl rfl rfl ?_
          refine XO.c (.pickF rfl rfl) rfl rfl ?_
          refine XO.c (.assign rfl) rfl rfl ?_
          refine XO.nil (thenC.go ?_)
          refine XC.ret fun tf htf => ?_
          refine endF.one rfl rfl (htf 4 _ rfl) ?_
          exact ⟨congrArg Value.bool (by first | rfl | exact absurd (same_fin1 c6).symm (by rw [g8_3]; decide) | exact absurd (same_fin2 c6).symm (by rw [g8_3]; decide) | exact absurd rfl g8_8), hA.leftAf rfl⟩
      · refine XO.skip rfl rfl rfl rfl rfl ?_
        refine XO.skip rfl rfl rfl rfl rfl ?_
        refine XO.skip rfl rfl rfl rfl rfl ?_
        refine XO.c (.pickF rfl rfl) rfl rfl ?_
        refine XO.c (.move rfl) rfl rfl ?_
        refine XO.skip rfl rfl rfl rfl rfl ?_
        refine XO.c (.pickF rfl rfl) rfl rfl ?_
        refine XO.c (.assign rfl) rfl rfl ?_
        refine XO.nil (thenC.go ?_)
        refine XC.ret fun tf htf => ?_
        refine endF.one rfl rfl (htf 4 _ rfl) ?_
        exact ⟨congrArg Value.bool (by first | rfl | exact absurd (same_fin1 c6).symm (by rw [g8_3]; decide) | exact absurd (same_fin2 c6).symm (by rw [g8_3]; decide) | exact absurd rfl g8_8), hA.leftAf rfl⟩
end Go.Proofs
namespace Go.Fs
variable {P : Program} {orc : FuncId → List Value → Heap → Option (Value × Heap)} {h h' h0 : Heap} {fl : FL} {op : Op} {v : Value} {S S' S0 : List Nat} {ops : Array Oper} {n : Nat} {K : FL → Heap → Prop} {l : List Oper} {d : Tmp} {ty : TypeId} {pos : String} {after : Array Edge}

/-- A row of the function's own with room for 'cap' elements, of which the slice takes the first ones. -/
def CapR (h : Heap) (S : List Nat) (lo : Nat) (e : TypeId) (cap : Nat) (τ : Ty) (v : Value) (xs : List τ.den) : Prop :=
  ∃ b rs, b ∈ S ∧ lo ≤ b ∧ v = .slice (some ⟨b, 0, none⟩) xs.length 0 ∧ h.get b = some (.row e rs true true) ∧ rs.length = cap * τ.size ∧ xs.length ≤ cap ∧ Elems h S τ (rs.take (xs.length * τ.size)) xs
theorem CapR.up {lo : Nat} {e : TypeId} {cap : Nat} {τ : Ty} {v : Value} {xs : List τ.den} (hg : CapR h S lo e cap τ v xs) (ha : After h h') (hok : HOk h) (hN : Goes h S h' S') (hs : ∀ b ∈ ownB v, b ∈ S') : CapR h' S' lo e cap τ v xs := by
  obtain ⟨b, rs, h1, h2, rfl, h4, h5, h6, h7⟩ := hg
  exact ⟨b, rs, hs b (by simp [ownB]), h2, rfl, by rw [ha.get b (hok b _ h4)]; exact h4, h5, h6, h7.nx hN⟩
theorem CapR.inS {lo : Nat} {e : TypeId} {cap : Nat} {τ : Ty} {v : Value} {xs : List τ.den} (hg : CapR h S lo e cap τ v xs) (hok : HOk h) (hS : ∀ b ∈ S0, b < h.next) : ∀ b ∈ ownB v ++ S0, b < h.next := by
  obtain ⟨b, rs, h1, h2, rfl, h4, _⟩ := hg
  intro i hi
  rcases List.mem_append.1 hi with hi | hi
  · simp only [ownB, List.mem_singleton] at hi; subst hi; exact hok _ _ h4
  · exact hS i hi
theorem CapR.shut {lo : Nat} {e : TypeId} {cap : Nat} {τ : Ty} {v : Value} {xs : List τ.den} (hg : CapR h (ownB v ++ S0) lo e cap τ v xs) (hS : ∀ b ∈ S0, b < lo) : SlV h S0 τ v xs := by
  obtain ⟨b, rs, h1, h2, rfl, h4, h5, h6, h7⟩ := hg
  have hb : b ∉ S0 := fun hm => by have := hS b hm; omega
  have hle : xs.length * τ.size ≤ cap * τ.size := Nat.mul_le_mul_right _ h6
  refine .inr ⟨b, 0, 0, rfl, .inr ⟨hb, e, rs, true, true, h4, by omega, fun i hi => ?_⟩⟩
  have h8 := (h7.nx (Goes.less (S' := S0) fun c hc => List.mem_append_right _ hc)).2 i hi
  have h9 : (i + 1) * τ.size ≤ xs.length * τ.size := Nat.mul_le_mul_right _ hi
  rw [Nat.add_mul, Nat.one_mul] at h9
  rw [List.drop_take, List.take_take, Nat.min_eq_left (by omega)] at h8
  rw [Nat.zero_add]
  exact h8
/-- 'append(s, l...)' into the room. -/
theorem CapR.all {T T' e : TypeId} {τ : Ty} (hT : ElT P T e τ) (hT' : ElT P T' e τ) {cap : Nat} {v w : Value} {xs ys : List τ.den} (hg : CapR h (ownB v ++ S0) h0.next e cap τ v xs) (hw : SlV h (ownB v ++ S0) τ w ys) (hA : After h0 h) (hc : xs.length + ys.length ≤ cap) (hsz : cap ≤ 1000000) :
    ∃ v' h', fsAppend P #[T, T'] v w h = some (v', h') ∧ CapR h' (ownB v' ++ S0) h0.next e cap τ v' (xs ++ ys) ∧ After h0 h' ∧ Goes h (ownB v ++ S0) h' (ownB v' ++ S0) := by
  obtain ⟨b, rs, h1, h2, rfl, h4, h5, h6, h7⟩ := hg
  obtain ⟨i, z, hi1, hi2, hi3, hi3', hi4, hi5, hi6⟩ := hT.sl.info
  have hpos := hT.sl.pos
  have hbytes : (xs.length + ys.length) * i.bytes ≤ 274877906944 := by
    have := Nat.mul_le_mul (show xs.length + ys.length ≤ 1000000 by omega) hi3'
    omega
  have hadd : (xs.length + ys.length) * τ.size = xs.length * τ.size + ys.length * τ.size := Nat.add_mul _ _ _
  have hle : (xs.length + ys.length) * τ.size ≤ cap * τ.size := Nat.mul_le_mul_right _ hc
  have e2 : Nat.beq e e = true := Nat.beq_refl _
  have e3 : Nat.ble ((xs.length + ys.length) * i.bytes) 274877906944 = true := by rw [Nat.ble_eq]; exact hbytes
  have e4 : Nat.ble (0 + xs.length * i.size) rs.length = true := by rw [Nat.ble_eq, hi2]; omega
  have e5 : Nat.ble (0 + (xs.length + ys.length) * i.size) rs.length = true := by rw [Nat.ble_eq, hi2]; omega
  have e7 : Nat.beq 0 1 = false := rfl
  have e8 : Nat.beq 0 0 = true := rfl
  have f1 : Nat.blt 0 τ.size = true := by show Nat.ble 1 τ.size = true; rw [Nat.ble_eq]; exact hpos
  have f2 : Nat.blt 0 i.bytes = true := by show Nat.ble 1 i.bytes = true; rw [Nat.ble_eq]; exact hi3
  by_cases hy : 0 < ys.length
  · obtain ⟨b2, o, mk, e', rs2, own, more, rfl, hb, hr, hl, hel⟩ := hw.row hy
    have hks : 0 < ys.length * τ.size := Nat.mul_pos hy hpos
    have hne : b2 ≠ b := fun hbb => hb (by rw [hbb]; simp [ownB])
    let news := (rs2.drop o).take (ys.length * τ.size)
    have hnl : news.length = ys.length * τ.size := by show ((rs2.drop o).take (ys.length * τ.size)).length = _; rw [List.length_take, List.length_drop]; omega
    have hE : Elems h (ownB (.slice (some ⟨b, 0, none⟩) xs.length 0) ++ S0) τ news ys := by
      refine ⟨hnl, fun j hj => ?_⟩
      have h9 : (j + 1) * τ.size ≤ ys.length * τ.size := Nat.mul_le_mul_right _ hj
      rw [Nat.add_mul] at h9
      have := hel j hj
      show RepC h _ τ ((((rs2.drop o).take (ys.length * τ.size)).drop (j * τ.size)).take τ.size) ys[j]
      rw [List.drop_take, List.take_take, List.drop_drop, Nat.min_eq_left (by omega)]
      exact this
    have hone : news.all oneCell = true := hE.allOne
    have hap : appended i z (isInt (.slice e)) (.slice (some ⟨b2, o, none⟩) ys.length mk) h = some (ys.length, news) := appended_row (e := e') hi2 (by omega) hr (Nat.le_refl _) hl rfl rfl
    have hG : Goes h (ownB (.slice (some ⟨b, 0, none⟩) xs.length 0) ++ S0) (h.set b (.row e (splice rs (0 + xs.length * i.size) news) true true)) (ownB (.slice (some ⟨b, 0, none⟩) (xs.length + ys.length) 0) ++ S0) := by
      intro c o hgc hcS
      simp only [ownB, List.cons_append, List.nil_append, List.mem_cons, not_or] at hcS
      refine ⟨by rw [Heap.get_set h4, if_neg hcS.1]; exact hgc, ?_⟩
      simp only [ownB, List.cons_append, List.nil_append, List.mem_cons, not_or]
      exact hcS
    refine ⟨.slice (some ⟨b, 0, none⟩) (xs.length + ys.length) 0, h.set b (.row e (splice rs (0 + xs.length * i.size) news) true true), ?_, ⟨b, splice rs (0 + xs.length * i.size) news, mem_own, h2, by simp, by rw [Heap.get_set h4, if_pos rfl], ?_, by rw [List.length_append]; exact hc, ?_⟩, hA.set h4 h2, hG⟩
    · unfold fsAppend
      simp only [List.getElem?_toArray, List.getElem?_cons_zero, List.getElem?_cons_succ, hT.sl.sl, hT'.sl.sl, hi1, hi4, hap, hi2]
      have hcc : (Nat.blt 0 τ.size && Nat.blt 0 i.bytes && Nat.beq news.length (ys.length * τ.size) && news.all oneCell && Nat.beq z.cells.size τ.size) = true := by
        rw [f1, f2, hnl, Nat.beq_refl, hone, hi5, Nat.beq_refl]; rfl
      have e0 : Nat.beq ys.length 0 = false := beq_no (by omega)
      rw [hcc]
      simp only [cond_true]
      unfold fsGrow
      rw [hi2] at e4 e5
      simp only [h4, e0, Bool.false_and, cond_false, hi2, e2, e3, e4, Bool.and_self, cond_true, e7, e8, e5]
    · unfold splice
      rw [List.length_append, List.length_append, List.length_take, List.length_drop, hnl, hi2]
      omega
    · have hz : (splice rs (0 + xs.length * i.size) news).take ((xs ++ ys).length * τ.size) = rs.take (xs.length * τ.size) ++ news := by
        unfold splice
        rw [List.length_append, hadd, hi2, Nat.zero_add, List.take_append_of_le_length (by rw [List.length_append, List.length_take, hnl]; omega), List.take_of_length_le (by rw [List.length_append, List.length_take, hnl]; omega)]
      rw [hz]
      exact (h7.append hE).nx hG
  · have hy0 : ys = [] := List.eq_nil_of_length_eq_zero (by omega)
    subst hy0
    have hap : appended i z (isInt (.slice e)) w h = some (0, []) := by
      rcases hw with ⟨rfl, _⟩ | ⟨b, o, mk, rfl, _⟩
      · simp [appended, isInt, lenV, cellsOf]
      · simp only [appended, isInt, cond_false, lenV, cellsOf, List.length_nil]
        have e1 : Nat.ble 0 0 = true := rfl
        simp [e1, cond_true, Nat.zero_mul]
    refine ⟨.slice (some ⟨b, 0, none⟩) (xs.length + 0) 0, h, ?_, by rw [List.append_nil]; exact ⟨b, rs, h1, h2, rfl, h4, h5, h6, h7⟩, hA, Goes.refl⟩
    unfold fsAppend
    simp only [List.getElem?_toArray, List.getElem?_cons_zero, List.getElem?_cons_succ, hT.sl.sl, hT'.sl.sl, hi1, hi4, hap, hi2]
    have hcc : (Nat.blt 0 τ.size && Nat.blt 0 i.bytes && Nat.beq ([] : List Value).length (0 * τ.size) && ([] : List Value).all oneCell && Nat.beq z.cells.size τ.size) = true := by
      rw [f1, f2, hi5, Nat.beq_refl, Nat.zero_mul]; rfl
    rw [hcc]
    simp only [cond_true]
    unfold fsGrow
    simp only [List.length_nil] at e3 e5
    simp only [h4, e2, e3, e4, Bool.and_self, cond_true, e7, e8, e5, Bool.and_false, cond_false]

theorem CapR.keep {lo : Nat} {e : TypeId} {cap : Nat} {τ : Ty} {v : Value} {xs : List τ.den} (hg : CapR h S lo e cap τ v xs) (ha : After h h') (hok : HOk h) : CapR h' S lo e cap τ v xs := by
  obtain ⟨b, rs, h1, h2, rfl, h4, h5, h6, h7⟩ := hg
  exact ⟨b, rs, h1, h2, rfl, by rw [ha.get b (hok b _ h4)]; exact h4, h5, h6, h7.nx (ha.nx hok)⟩
theorem CapR.chg {lo : Nat} {e : TypeId} {cap : Nat} {τ : Ty} {v : Value} {xs : List τ.den} (hg : CapR h S lo e cap τ v xs) (hget : ∀ b ∈ ownB v, h'.get b = h.get b) (hN : Goes h S h' S') (hs : ∀ b ∈ ownB v, b ∈ S') : CapR h' S' lo e cap τ v xs := by
  obtain ⟨b, rs, h1, h2, rfl, h4, h5, h6, h7⟩ := hg
  exact ⟨b, rs, hs b (by simp [ownB]), h2, rfl, by rw [hget b (by simp [ownB])]; exact h4, h5, h6, h7.nx hN⟩
theorem CapR.weak {lo lo' : Nat} {e : TypeId} {cap : Nat} {τ : Ty} {v : Value} {xs : List τ.den} (hg : CapR h S lo e cap τ v xs) (hl : lo' ≤ lo) : CapR h S lo' e cap τ v xs := by
  obtain ⟨b, rs, h1, h2, h3⟩ := hg
  exact ⟨b, rs, h1, Nat.le_trans hl h2, h3⟩
theorem CapR.goes {e : TypeId} {cap : Nat} {τ : Ty} {v : Value} {xs : List τ.den} (hg : CapR h' S' h.next e cap τ v xs) (ha : After h h') (hok : HOk h) : Goes h S h' (ownB v ++ S) := by
  obtain ⟨b, rs, h1, h2, rfl, _⟩ := hg
  intro c o hc hcS
  have := hok c o hc
  refine ⟨by rw [ha.get c this]; exact hc, ?_⟩
  simp only [ownB, List.cons_append, List.nil_append, List.mem_cons, not_or]
  exact ⟨by omega, hcS⟩
theorem CapR.ret {h1 : Heap} {lo : Nat} {e : TypeId} {cap : Nat} {τ : Ty} {w : Value} {xs : List τ.den} (hg : CapR h1 S lo e cap τ w xs) (a : After (entry h) h1) : CapR (leftOf h h1 w) S lo e cap τ w xs := by
  obtain ⟨b, rs, m1, m2, rfl, m4, m5, m6, m7⟩ := hg
  exact ⟨b, rs, m1, m2, rfl, by rw [leftOf_get a rfl]; exact m4, m5, m6, m7.nx (leftOf_nx a rfl)⟩
theorem endF.cellTwo {fn : Func} {h1 : Heap} {QF : Value → Heap → Prop} {e : Ex} {t : Tr} {n i j : Nat} {T : TypeId} {p v w : Value} (he : e.goes = true) (hr : fn.results = #[.cell i T, .tmp j]) (hp : t.get i = p) (hv : fsLoad P T p h1 = some v) (hw : t.get j = w) (hq : QF (.tuple #[v, w]) (leftOf h h1 (.tuple #[v, w]))) : endF P fn h QF e ⟨t, n, []⟩ h1 :=
  ⟨he, h1, [v, w], rfl, by rw [hr]; show fsResults P t h1 [ResultVar.cell i T, ResultVar.tmp j] = _; simp [fsResults, fsResult, hp, hv, hw], hq⟩

theorem Goes.frame {p : Value} (hf : ∀ b, b ∉ ownP p → h'.get b = h.get b) (hs : ∀ b ∈ ownP p, b ∈ S) : Goes h S h' S := fun c o hc hcS => ⟨by rw [hf c (fun hm => hcS (hs c hm))]; exact hc, hcS⟩

theorem fresh_own {b m : Nat} (hb : b ∈ ownP (.pointer (some ⟨m, 0, none⟩))) : m ≤ b := by
  simp only [ownP, List.mem_singleton] at hb
  omega
theorem XO.boxF {e : TypeId} {x : Operand} {u : Value} (hu : evL fl x = some u) (ho : u.cells.toList.all oneCell = true) (hA : After h0 h) (hok0 : HOk h0) (hn : Nat.blt d n = true) (h4 : Nat.ble n 4000 = true)
    (hk : ∀ p h', BoxR h' h0.next p u.cells.toList → After h h' → (∀ S, Goes h S h' (ownP p ++ S)) → (∀ b ∈ ownP p, h.next ≤ b) → XO P orc ops n l ((d, p) :: fl) h' K) : XO P orc ops n (⟨some d, .box e x, ty, pos, after, none⟩ :: l) fl h K :=
  XO.mk (.box hu ho) hn h4 (hk _ _ (BoxR.new (S := []) hA hok0).1 (After.push h _) (fun S => (BoxR.new hA hok0).2.2) fun _ hb => fresh_own hb)
theorem XO.allocF {e : TypeId} {z : Value} (hz : (P.info? e).bind (·.zero) = some z) (ha : af z = true) (ho : z.cells.toList.all oneCell = true) (hA : After h0 h) (hok0 : HOk h0) (hn : Nat.blt d n = true) (h4 : Nat.ble n 4000 = true)
    (hk : ∀ p h', BoxR h' h0.next p z.cells.toList → After h h' → (∀ S, Goes h S h' (ownP p ++ S)) → (∀ b ∈ ownP p, h.next ≤ b) → XO P orc ops n l ((d, p) :: fl) h' K) : XO P orc ops n (⟨some d, .alloc e, ty, pos, after, none⟩ :: l) fl h K :=
  XO.mk (.alloc hz ha ho) hn h4 (hk _ _ (BoxR.new (S := []) hA hok0).1 (After.push h _) (fun S => (BoxR.new hA hok0).2.2) fun _ hb => fresh_own hb)
theorem apart {p q : List Nat} {m : Nat} (hp : ∀ b ∈ p, m ≤ b) (hq : ∀ b ∈ q, b < m) : ∀ b ∈ p, b ∉ q := fun b h1 h2 => by
  have := hp b h1
  have := hq b h2
  omega

/-! ## slices.Grow of nil -/
theorem StepA.cap0 {x : Operand} {T : TypeId} {d : TypeId} (hT : P.underlying T = some (.slice d)) (hx : evL fl x = some (.slice none 0 0)) : StepA P fl (.call { callee := .builtin .cap, args := #[x], argTypes := #[T] }) (.int .i64 0) := fun t ht d ty pos after g H => by
  show (fsCap P #[T] (evalO t x) H).map _ = _
  rw [evL_ok ht hx]
  have : fsCap P #[T] (.slice none 0 0) H = some (.int .i64 0) := by
    unfold fsCap
    simp only [List.getElem?_toArray, List.getElem?_cons_zero, Option.bind_some, hT]
  rw [this]; rfl
theorem StepR.sliceH {T : TypeId} {x hi : Operand} {u b w : Value} (hx : evL fl x = some u) (hh : evL fl hi = some b) (hv : ∀ nn ll, fsSlice P T u none (some b) none { next := nn, low := ll, objs := h.objs } = some w) : StepR P fl h (.slice T x none (some hi) none) w :=
  ⟨rfl, fun t ht _ _ _ _ _ n l => by
    show (fsSlice P T (evalO t x) none (some (evalO t hi)) none { next := n, low := l, objs := h.objs }).map _ = _
    rw [evL_ok ht hx, evL_ok ht hh, hv]; rfl⟩
theorem slice_nil0 {T e : TypeId} {τ : Ty} (hT : ElT P T e τ) (H : Heap) : fsSlice P T (.slice none 0 0) none (some (.int .i64 0)) none H = some (.slice none 0 0) := by
  obtain ⟨i, z, hi1, _⟩ := hT.sl.info
  simp [fsSlice, hT.sl.sl, boundOf, hi1]
theorem slice_cut0 {T e : TypeId} {τ : Ty} (hT : ElT P T e τ) (H : Heap) (b n : Nat) : fsSlice P T (.slice (some ⟨b, 0, none⟩) n 0) none (some (.int .i64 0)) none H = some (.slice (some ⟨b, 0, none⟩) 0 0) := by
  obtain ⟨i, z, hi1, _⟩ := hT.sl.info
  have e1 : Nat.ble 0 n = true := by rw [Nat.ble_eq]; exact Nat.zero_le _
  have e2 : Nat.ble 0 0 = true := rfl
  have e3 : Nat.beq 0 1 = false := rfl
  simp only [fsSlice, hT.sl.sl, boundOf, hi1]
  simp [e1, e2, e3, cutAt, markOf]
theorem zeros_len (z : Value) (n : Nat) : (zeros z n).length = n * z.cells.size := by simp [zeros]
theorem zeros_one {z : Value} (hz : z.cells.toList.all oneCell = true) (h0 : 0 < z.cells.size) (n : Nat) : (zeros z n).all oneCell = true := by
  rw [List.all_eq_true]
  intro x hx
  simp only [zeros, List.mem_map, List.mem_range] at hx
  obtain ⟨k, _, rfl⟩ := hx
  have hk : k % z.cells.size < z.cells.size := Nat.mod_lt _ h0
  rw [getElem!_pos z.cells _ hk]
  exact List.all_eq_true.1 hz _ (by rw [← Array.getElem_toList (h := by simpa using hk)]; exact List.getElem_mem _)
theorem af0_one {cs : List Value} (hc : cs.all af0 = true) : cs.all oneCell = true := by
  rw [List.all_eq_true] at hc ⊢
  intro x hx
  have := hc x hx
  cases x <;> first | rfl | simp_all [af0, oneCell]
theorem grow_made {T Ti e : TypeId} {τ : Ty} (hT : ElT P T e τ) (hTi : P.underlying Ti = some (.int .i64)) {k : Nat} (h1 : 0 < k) (hk : k ≤ 1000000) (hA : After h0 h) (hok0 : HOk h0) :
    ∃ h', fsAppend P #[T, Ti] (.slice none 0 0) (.int .i64 (k : Nat)) h = some (.slice (some ⟨h.next, 0, none⟩) k 0, h') ∧ CapR h' (ownB (.slice (some ⟨h.next, 0, none⟩) 0 0) ++ S) h0.next e k τ (.slice (some ⟨h.next, 0, none⟩) 0 0) [] ∧ After h h' ∧ Goes h S h' (ownB (.slice (some ⟨h.next, 0, none⟩) 0 0) ++ S) := by
  obtain ⟨i, z, hi1, hi2, hi3, hi3', hi4, hi5, hi6⟩ := hT.sl.info
  have hok := hA.ok hok0
  have hpos := hT.sl.pos
  have hb : k * i.bytes ≤ 274877906944 := by
    have := Nat.mul_le_mul hk hi3'
    omega
  refine ⟨h.push (.row e (zeros z k) true true), ?_, ⟨h.next, zeros z k, mem_own, hA.next, rfl, by rw [Heap.get_push, if_pos rfl], by rw [zeros_len, hi5], Nat.zero_le _, by simpa using Elems.nil⟩, After.push h _, fun b o hg hb => ?_⟩
  · have hap : appended i z (isInt (.int .i64)) (.int .i64 (k : Nat)) h = some (k, zeros z k) := by
      have hc : (decide (0 ≤ ((k : Nat) : Int)) && decide (((k : Nat) : Int) ≤ 1099511627776) && Nat.ble (k * i.bytes) 1099511627776 && z.cells.toList.all af0) = true := by
        have e1 : Nat.ble (k * i.bytes) 1099511627776 = true := by rw [Nat.ble_eq]; omega
        rw [e1, hi6]
        simp
        omega
      simp only [appended, isInt, cond_true, Int.toNat_natCast]
      rw [hc]; rfl
    unfold fsAppend
    simp only [List.getElem?_toArray, List.getElem?_cons_zero, List.getElem?_cons_succ, hT.sl.sl, hTi, hi1, hi4, hap, hi2]
    have hone : (zeros z k).all oneCell = true := zeros_one (af0_one hi6) (by omega) k
    have hc : (Nat.blt 0 τ.size && Nat.blt 0 i.bytes && Nat.beq (zeros z k).length (k * τ.size) && (zeros z k).all oneCell && Nat.beq z.cells.size τ.size) = true := by
      have e1 : Nat.blt 0 τ.size = true := by show Nat.ble 1 τ.size = true; rw [Nat.ble_eq]; exact hpos
      have e2 : Nat.blt 0 i.bytes = true := by show Nat.ble 1 i.bytes = true; rw [Nat.ble_eq]; exact hi3
      rw [e1, e2, zeros_len, hone, hi5, Nat.beq_refl, Nat.beq_refl]; rfl
    rw [hc]
    simp only [cond_true]
    unfold fsGrow
    have e1 : Nat.beq k 0 = false := beq_no (by omega)
    have e2 : Nat.ble (k * i.bytes) 274877906944 = true := by rw [Nat.ble_eq]; exact hb
    simp only [e1, cond_false, e2, cond_true, grown]
  · have := hok b o hg
    refine ⟨by rw [Heap.get_push, if_neg (by omega)]; exact hg, ?_⟩
    simp only [ownB, List.cons_append, List.nil_append, List.mem_cons, not_or]
    exact ⟨by omega, hb⟩
end Go.Fs
