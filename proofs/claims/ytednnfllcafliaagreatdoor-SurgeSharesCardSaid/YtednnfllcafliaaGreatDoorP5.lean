/- Contracts of functions of the program, over the evaluator: what each answers. Conditions: those in each statement. -/
import Derived.Test.YtednnfllcafliaaGreatDoorP4
set_option linter.all false
namespace Go.Proofs
open Go.Fs
set_option linter.unusedVariables false

theorem sMapCIo_ok {h : Heap} {S : List Nat} {v0 : Value} {l : List (Int × (List Int))} {f_f : FuncId} {f_a f_b : Array Value} {F : Int × List Int → Int} (hok : HOk h) (hS : ∀ b ∈ S, b < h.next) (ha0 : SlV h S (.pair (.int .i64) (.sl (.int .i64))) v0 l) (hl : l.length < 100000) (hf : ∀ {h2 : Heap} {S2 : List Nat} {v : Value} {x : Int × List Int}, HOk h2 → (∀ b ∈ S2, b < h2.next) → RepV h2 S2 (.pair (.int .i64) (.sl (.int .i64))) v x → After h h2 → x ∈ l → EvF Tryz.prog OA f_f (f_a.toList ++ [v] ++ f_b.toList) h2 fun r h' => r = .int .i64 (F x) ∧ h' = h2) : EvF Tryz.prog OA 117 [v0, .func (.func f_f) f_a f_b] h fun r h' => After h h' ∧ ∃ m, GrowR h' (ownB r ++ S) h.next 3 m (.int .i64) r (l.map F) := by
  refine XF.enter Tryz.func117 rfl rfl rfl ?_
  have hok : HOk (entry h) := hok
  have hA := After.refl (entry h)
  replace ha0 := ha0.entry
  show XC Tryz.prog OA none _ _ [] [(0, v0), (1, .func (.func f_f) f_a f_b)] (entry h) _
  refine XC.seq ?_
  refine XC.text ?_
  refine XO.c (.assign rfl) rfl rfl ?_
  refine XO.nil (thenC.go ?_)
  refine XC.seq ?_
  refine XC.text ?_
  refine XO.c (.assign rfl) rfl rfl ?_
  refine XO.nil (thenC.go ?_)
  refine XC.seq ?_
  refine XC.seq ?_
  refine XC.text ?_
  refine XO.c (.move rfl) rfl rfl ?_
  refine XO.a (.len rfl (ha0.len el64)) rfl rfl ?_
  refine XO.c (.move rfl) rfl rfl ?_
  refine XO.nil (thenC.go ?_)
  refine XC.block ?_
  have hAL101 := hA
  have hkL101 := hA.ok hok
  have hSL101 := (hA.inS hS)
  refine XC.keep [(1, .func (.func f_f) f_a f_b), (5, .slice none 0 0), (8, v0), (9, .int .i64 ((l.length : Nat) : Int)), (10, .int .i64 ((0 : Nat) : Int))] ⟨rfl, rfl, rfl, rfl, rfl, trivial⟩ ?_
  refine XC.loopI (I := fun (kk : Nat) (ff : FL) (hh : Heap) => ∃ (j : Nat) (out : Value), kk = l.length - j ∧ ff = [(1, .func (.func f_f) f_a f_b), (5, out), (8, v0), (9, .int .i64 ((l.length : Nat) : Int)), (10, .int .i64 ((j : Nat) : Int))] ∧ After (entry h) hh ∧ After (entry h) hh ∧ Goes (entry h) S hh (ownB out ++ S) ∧ GrowR hh (ownB out ++ S) (entry h).next 3 true (.int .i64) out ((l.take j).map F) ∧ (j ≤ l.length)) ?_ _ _ _ ⟨0, .slice none 0 0, rfl, rfl, hA, After.refl _, Goes.refl, (GrowR.nil), (by omega)⟩
  clear hA
  rintro kk ff hh101 ⟨j, out, hk101, rfl, hA, aL101, nL101, g_out101, hj⟩
  replace ha0 := ha0.nx nL101
  refine XC.seq ?_
  refine XC.text ?_
  refine XO.c (.lss rfl rfl) rfl rfl ?_
  refine XO.nil (thenC.go ?_)
  refine XC.seq ?_
  refine XC.condD rfl (fun c3 => ?_) (fun c3 => ?_)
  · refine XC.skip (thenC.go ?_)
    refine XC.seq ?_
    refine XC.block ?_
    refine XC.seq ?_
    refine XC.text ?_
    refine XO.c (.indexAddr rfl rfl rfl (ha0.ix (j := j) el64 (by omega))) rfl rfl ?_
    obtain ⟨u102, e102, r102⟩ := ((ha0.at (j := j) (by omega))).ldV vt89
    obtain ⟨c103_0, c103_1, rfl, r103_0, r103_1⟩ := r102.st2 rfl rfl
    obtain rfl := r103_0.int
    replace r103_1 := r103_1.sl
    refine XO.r (.load rfl (e102)) rfl rfl ?_
    refine XO.allocP (S := (ownB out ++ S)) (z := .agg #[.int .i64 0, .slice none 0 0]) (by kernel_rfl) rfl rfl aL101 hkL101 (g_out101.inS (hA.ok hok) (hA.inS hS)) rfl rfl ?_
    intro p104 h104 b104 a104 gs104
    have ok105 := hA.ok hok
    have gg105 : Goes hh101 (ownB out ++ S) h104 (ownP p104 ++ (ownB out ++ S)) := gs104
    replace hA := hA.trans a104
    replace aL101 := aL101.trans a104
    replace nL101 := nL101.trans gg105
    replace ha0 := ha0.nx gg105
    replace r103_1 := r103_1.nx gg105
    replace g_out101 := g_out101.up a104 ok105 gg105 (fun b hb => by simp [hb])
    refine XO.stP (S := (ownB out ++ S)) (h0 := (entry h)) (τ := (.pair (.int .i64) (.sl (.int .i64)))) rfl rfl b104 (RepV.mk2 (a := (.int .i64)) (b := (.sl (.int .i64))) (x := l[j]) (RepV.ofInt .i64 _) (r103_1).rep rfl rfl) vt89 aL101 ?_
    intro h106 b106 a106 gs106 nx106 fr106
    have ok107 := hA.ok hok
    have gg107 : Goes h104 (ownP p104 ++ (ownB out ++ S)) h106 (ownB out ++ S) := gs106
    replace hA := hAL101.trans a106
    replace aL101 := a106
    replace nL101 := nL101.trans gg107
    replace ha0 := ha0.nx gg107
    replace r103_1 := r103_1.nx gg107
    replace g_out101 := g_out101.chg (fun b hb => fr106 b (by simp [hb])) gg107 (fun b hb => by simp [hb])
    refine XO.nil (thenC.go ?_)
    refine XC.text ?_
    refine XO.c (.move rfl) rfl rfl ?_
    refine XO.c (.move rfl) rfl rfl ?_
    obtain ⟨u108, e108, r108⟩ := (b106).ldV vt89
    obtain ⟨c109_0, c109_1, rfl, r109_0, r109_1⟩ := r108.st2 rfl rfl
    obtain rfl := r109_0.int
    replace r109_1 := r109_1.sl
    refine XO.r (.load rfl (e108)) rfl rfl ?_
    refine XO.call rfl rfl rfl rfl ?_
    refine EvF.mono (hf (hA.ok hok) (g_out101.inS (hA.ok hok) (hA.inS hS)) (RepV.mk2 (a := (.int .i64)) (b := (.sl (.int .i64))) (x := l[j]) (RepV.ofInt .i64 _) (r109_1).rep rfl rfl) hA.ofEntry (List.getElem_mem _)) ?_
    rintro _ _ ⟨rfl, hh⟩
    obtain rfl := hh.symm
    clear hh
    refine XO.pushR (S0 := S) (h0 := (entry h)) el22 el22 rfl rfl g_out101 (RepV.ofInt .i64 _) aL101 hkL101 (hA.inS hS) (by simp; omega) (by decide) rfl rfl rfl ?_
    intro out111 h111 g111 a111 n111 l111
    have ok112 := hA.ok hok
    have gg112 : Goes h106 (ownB out ++ S) h111 (ownB out111 ++ S) := n111
    replace hA := hAL101.trans a111
    replace aL101 := a111
    replace nL101 := nL101.trans gg112
    replace ha0 := ha0.nx gg112
    replace r103_1 := r103_1.nx gg112
    replace b106 := b106.nx gg112
    replace r109_1 := r109_1.nx gg112
    refine XO.c (.assign rfl) rfl rfl ?_
    refine XO.nil ?_
    intro tf htf
    refine inBlock_nrm ?_
    refine thenC.go ?_ tf htf
    refine XC.text ?_
    refine XO.c (.add rfl rfl (by omega)) rfl rfl ?_
    refine XO.c (.move rfl) rfl rfl ?_
    refine XO.nil ?_
    intro tf htf
    refine ⟨rfl, rfl, _, [(1, .func (.func f_f) f_a f_b), (5, out111), (8, v0), (9, .int .i64 ((l.length : Nat) : Int)), (10, .int .i64 (((j + 1) : Nat) : Int))], ?_, htf.keep _ ⟨rfl, rfl, rfl, rfl, rfl, trivial⟩, (j + 1), out111, rfl, rfl, hA, aL101, nL101, (by rw [List.take_succ_eq_append_getElem (by omega), List.map_append]; exact g111), (by omega)⟩
    omega
  · refine XC.exit ?_
    intro tf htf
    refine thenC_exit ?_
    refine loopQ_exit ?_
    refine inBlock_eq ?_
    refine thenC.go ?_ tf htf
    refine XC.seq ?_
    refine XC.text ?_
    refine XO.c (.move rfl) rfl rfl ?_
    refine XO.c (.assign rfl) rfl rfl ?_
    refine XO.nil (thenC.go ?_)
    refine XC.ret fun tf htf => ?_
    refine endF.one rfl rfl (htf 4 _ rfl) ?_
    have hw := (g_out101).ret hA
    refine ⟨hA.left _, true, ?_⟩
    rw [List.take_of_length_le (by omega)] at hw; exact hw
theorem sQu1_ok {h : Heap} {S : List Nat} {v0 : Value} {c : Int × (List Int)} {i_p : Value} {i : Int} (hok : HOk h) (hS : ∀ b ∈ S, b < h.next) (ha0 : RepV h S (.pair (.int .i64) (.sl (.int .i64))) v0 c) (hc0 : RepP h S (.int .i64) i_p i) (hi : 0 ≤ i ∧ i < c.2.length) : EvF Tryz.prog OA 118 [v0, i_p] h fun r h' => r = .int .i64 (c.2.getD i.toNat 0) ∧ h' = h := by
  refine XF.enter Tryz.func118 rfl rfl rfl ?_
  have hok : HOk (entry h) := hok
  have hA := After.refl (entry h)
  replace ha0 := ha0.entry
  replace hc0 := hc0.nx (Goes.objs (h' := entry h) fun _ => rfl)
  show XC Tryz.prog OA none _ _ [] [(0, v0), (1, i_p)] (entry h) _
  refine XC.seq ?_
  refine XC.text ?_
  refine XO.boxR rfl ha0 (hA.ok hok) (hA.inS hS) rfl rfl ?_
  intro p113 h113 b113 a113
  have ok114 := hA.ok hok
  have gg114 : Goes (entry h) S h113 S := a113.nx ok114
  replace hA := hA.trans a113
  replace ha0 := ha0.nx gg114
  replace hc0 := hc0.nx gg114
  refine XO.c (.assign rfl) rfl rfl ?_
  refine XO.nil (thenC.go ?_)
  refine XC.seq ?_
  refine XC.text ?_
  refine XO.c (.fieldAddr rfl ((b113).fa (f := 1) (k := 1) (by kernel_rfl))) rfl rfl ?_
  obtain ⟨u115, e115, s115⟩ := (((b113).base.snd' (m := 1) rfl (b113).isP)).ldSl vt22
  refine XO.r (.load rfl (e115)) rfl rfl ?_
  refine XO.r (.load rfl ((hc0).ldInt vt3)) rfl rfl ?_
  refine XO.c (.indexAddr rfl rfl rfl (s115.ixZ (n := i) el22 (by omega) (by omega))) rfl rfl ?_
  refine XO.r (.load rfl (((s115.at (j := Int.toNat i) (by omega))).ldInt vt3)) rfl rfl ?_
  refine XO.c (.assign rfl) rfl rfl ?_
  refine XO.nil (thenC.go ?_)
  refine XC.ret fun tf htf => ?_
  refine endF.one rfl rfl (htf 3 _ rfl) ?_
  exact ⟨congrArg (Value.int .i64) (by rw [getD_eq]), hA.leftAf rfl⟩
theorem sQu2_ok {h : Heap} {S : List Nat} {v0 : Value} {c : Int × (List Int)} {i_p : Value} {i : Int} {n_p : Value} {n : Int} (hok : HOk h) (hS : ∀ b ∈ S, b < h.next) (ha0 : RepV h S (.pair (.int .i64) (.sl (.int .i64))) v0 c) (hc0 : RepP h S (.int .i64) i_p i) (hc1 : RepP h S (.int .i64) n_p n) (hi : 0 ≤ i ∧ i < c.2.length) : EvF Tryz.prog OA 120 [v0, i_p, n_p] h fun r h' => r = .bool (decide (c.2.getD i.toNat 0 ≤ n)) ∧ h' = h := by
  refine XF.enter Tryz.func120 rfl rfl rfl ?_
  have hok : HOk (entry h) := hok
  have hA := After.refl (entry h)
  replace ha0 := ha0.entry
  replace hc0 := hc0.nx (Goes.objs (h' := entry h) fun _ => rfl)
  replace hc1 := hc1.nx (Goes.objs (h' := entry h) fun _ => rfl)
  show XC Tryz.prog OA none _ _ [] [(0, v0), (1, i_p), (2, n_p)] (entry h) _
  refine XC.seq ?_
  refine XC.text ?_
  refine XO.boxR rfl ha0 (hA.ok hok) (hA.inS hS) rfl rfl ?_
  intro p116 h116 b116 a116
  have ok117 := hA.ok hok
  have gg117 : Goes (entry h) S h116 S := a116.nx ok117
  replace hA := hA.trans a116
  replace ha0 := ha0.nx gg117
  replace hc0 := hc0.nx gg117
  replace hc1 := hc1.nx gg117
  refine XO.c (.assign rfl) rfl rfl ?_
  refine XO.nil (thenC.go ?_)
  refine XC.seq ?_
  refine XC.drawn ?_
  have hkr118 := hA.ok hok
  have hSr118 := (hA.inS hS)
  refine XD.c (b := 0) (.fieldAddr rfl ((b116).fa (f := 1) (k := 1) (by kernel_rfl))) rfl rfl rfl ?_
  obtain ⟨u119, e119, s119⟩ := (((b116).base.snd' (m := 1) rfl (b116).isP)).ldSl vt22
  refine XD.ld (b := 1) (After.refl _) SegsOk.nil hkr118 rfl (e119) rfl rfl rfl rfl ?_
  refine XD.ld (b := 0) (After.refl _) (SegsOk.cons ((After.refl _)).next SegsOk.nil) hkr118 rfl ((hc0).ldInt vt3) rfl rfl rfl rfl ?_
  refine XD.c (b := 7) (.indexAddr rfl rfl rfl (s119.ixZ (n := i) el22 (by omega) (by omega))) rfl rfl rfl ?_
  refine XD.ld (b := 15) (After.refl _) (SegsOk.cons ((After.refl _)).next (SegsOk.cons ((After.refl _)).next SegsOk.nil)) hkr118 rfl (((s119.at (j := Int.toNat i) (by omega))).ldInt vt3) rfl rfl rfl rfl ?_
  refine XD.ld (b := 0) (After.refl _) (SegsOk.cons ((After.refl _)).next (SegsOk.cons ((After.refl _)).next (SegsOk.cons ((After.refl _)).next SegsOk.nil))) hkr118 rfl ((hc1).ldInt vt3) rfl rfl rfl rfl ?_
  refine XD.c (b := 63) (.leq rfl rfl) rfl rfl rfl ?_
  refine XD.c (b := 127) (.assign rfl) rfl rfl rfl ?_
  refine XD.nil (thenC.go ?_)
  refine XC.ret fun tf htf => ?_
  refine endF.one rfl rfl (htf 4 _ rfl) ?_
  exact ⟨congrArg Value.bool (by rw [getD_eq]), hA.leftAf rfl⟩
def belowE (l : List (Int × List Int)) (i : Nat) (n : Int) : Int := weightE (fun c => decide (c.2.getD i 0 ≤ n)) l
def quantP (l : List (Int × List Int)) (i : Nat) (s : Int × Int) (n : Int) : Bool := decide (s.1 * weightE (fun _ => true) l ≤ belowE l i n * s.2)
def quantE (l : List (Int × List Int)) (i : Nat) (s : Int × Int) : Int := ((colE l i).filter (quantP l i s)).min?.getD 0
def quantB (l : List (Int × List Int)) (i : Int) (s : Int × Int) : Int := firstE ([ensembleE l] ++ [whenE (decide (i < 0 ∨ (len0 l : Nat) ≤ i)) 10, ratioE s, whenE (decide (s.1 < 0 ∨ s.2 < s.1)) 3])
theorem quant_two {l : List (Int × List Int)} {i : Int} {s : Int × Int} : quantB l i s = if ensembleE l = 0 then firstE [whenE (decide (i < 0 ∨ (len0 l : Nat) ≤ i)) 10, ratioE s, whenE (decide (s.1 < 0 ∨ s.2 < s.1)) 3] else ensembleE l := rfl
theorem whenE_or1 {p q : Prop} [Decidable p] [Decidable q] {e : Int} (h : p) : whenE (decide (p ∨ q)) e = whenE true e := by rw [decide_eq_true (show p ∨ q from .inl h)]
theorem whenE_or2 {p q : Prop} [Decidable p] [Decidable q] {e : Int} (h : ¬ p) : whenE (decide (p ∨ q)) e = whenE (decide q) e := by
  by_cases hq : q
  · rw [decide_eq_true (show p ∨ q from .inr hq), decide_eq_true hq]
  · rw [decide_eq_false (show ¬ (p ∨ q) from by simp [h, hq]), decide_eq_false hq]
structure OkQ (l : List (Int × List Int)) (i : Int) (s : Int × Int) : Prop where
  ens : OkE l
  ix : 0 ≤ i ∧ i < (len0 l : Nat)
  sh : 0 ≤ s.1 ∧ s.1 ≤ s.2 ∧ 1 ≤ s.2 ∧ s.2 ≤ 999999999
theorem quantB_ok {l : List (Int × List Int)} {i : Int} {s : Int × Int} (h : quantB l i s = 0) : OkQ l i s := by
  rw [quantB, firstE_zero] at h
  have h1 := h _ (by simp : ensembleE l ∈ _)
  have h2 := whenE_zero (by decide) (h _ (by simp : whenE (decide (i < 0 ∨ (len0 l : Nat) ≤ i)) 10 ∈ _))
  have h3 := h _ (by simp : ratioE s ∈ _)
  have h4 := whenE_zero (by decide) (h _ (by simp : whenE (decide (s.1 < 0 ∨ s.2 < s.1)) 3 ∈ _))
  rw [ratioE, firstE_zero] at h3
  have h5 := rangeE_zero.1 (h3 _ (by simp : rangeE s.2 1 999999999 ∈ _))
  exact ⟨ensembleE_ok h1, by omega, by omega⟩
theorem mulB {a b A B : Int} (ha : 0 ≤ a ∧ a ≤ A) (hb : 0 ≤ b ∧ b ≤ B) : 0 ≤ a * b ∧ a * b ≤ A * B := ⟨Int.mul_nonneg ha.1 hb.1, Int.mul_le_mul ha.2 hb.2 hb.1 (by omega)⟩
theorem sort_len (l : List Int) : (sortE l).length = l.length := (sortE_perm l).length_eq
theorem quant_found {l : List (Int × List Int)} {i : Nat} {s : Int × Int} {j : Nat} (hj : j < (sortE (colE l i)).length) (hp : quantP l i s (sortE (colE l i))[j] = true) (hf : ∀ x ∈ (sortE (colE l i)).take j, quantP l i s x = false) : (sortE (colE l i))[j] = quantE l i s := by
  have : ((colE l i).filter (quantP l i s)).min? = some (sortE (colE l i))[j] := by
    rw [List.min?_eq_some_iff]
    refine ⟨List.mem_filter.2 ⟨(sortE_perm _).mem_iff.1 (List.getElem_mem hj), hp⟩, fun b hb => ?_⟩
    obtain ⟨h1, h2⟩ := List.mem_filter.1 hb
    obtain ⟨k, hk, rfl⟩ := List.getElem_of_mem ((sortE_perm _).mem_iff.2 h1)
    by_cases hkj : k < j
    · have := hf _ (List.mem_take_iff_getElem.2 ⟨k, by omega, rfl⟩)
      rw [this] at h2; cases h2
    · by_cases hkj2 : k = j
      · subst hkj2; exact Int.le_refl _
      · exact (List.pairwise_iff_getElem.1 (sortE_sorted (colE l i))) j k hj hk (by omega)
  rw [quantE, this]; rfl
theorem foldl_max_ge : ∀ {l : List Int} {a : Int}, a ≤ l.foldl max a ∧ ∀ x ∈ l, x ≤ l.foldl max a
  | [], a => ⟨Int.le_refl _, fun x hx => by cases hx⟩
  | y :: l, a => by
    have := foldl_max_ge (l := l) (a := max a y)
    refine ⟨by rw [List.foldl_cons]; omega, fun x hx => ?_⟩
    rw [List.foldl_cons]
    rcases List.mem_cons.1 hx with rfl | hx
    · omega
    · exact this.2 x hx
theorem maxE_ge {l : List Int} {x : Int} (hx : x ∈ l) : x ≤ maxE l := foldl_max_ge.2 x hx
theorem foldl_max_mem : ∀ {l : List Int} {a : Int}, l.foldl max a = a ∨ l.foldl max a ∈ l
  | [], a => .inl rfl
  | y :: l, a => by
    rw [List.foldl_cons]
    rcases foldl_max_mem (l := l) (a := max a y) with h | h
    · rw [h]
      by_cases h2 : a ≤ y
      · right; rw [show max a y = y by omega]; exact List.mem_cons_self
      · left; omega
    · exact .inr (List.mem_cons_of_mem _ h)
theorem maxE_mem {l : List Int} (hl : 0 < l.length) : maxE l ∈ l := by
  rcases foldl_max_mem (l := l) (a := l.headD 0) with h | h
  · unfold maxE
    rw [h]
    cases l with
    | nil => simp at hl
    | cons x l => exact List.mem_cons_self
  · exact h
theorem below_max {l : List (Int × List Int)} {i : Nat} : belowE l i (maxE (colE l i)) = weightE (fun _ => true) l := by
  unfold belowE weightE
  congr 2
  refine List.filter_congr fun c hc => ?_
  have : c.2.getD i 0 ≤ maxE (colE l i) := by
    have hp : 0 < (colE l i).length := by rw [colE_len]; exact List.length_pos_of_mem hc
    have hm : c.2.getD i 0 ∈ colE l i := List.mem_map.2 ⟨c, hc, rfl⟩
    by_cases h : c.2.getD i 0 ≤ maxE (colE l i)
    · exact h
    · exfalso
      have := maxE_ge hm
      omega
  simp only [decide_eq_true this]
theorem quant_some {l : List (Int × List Int)} {i : Nat} {s : Int × Int} {j : Nat} (hE : OkE l) (hs : 0 ≤ s.1 ∧ s.1 ≤ s.2) (hj : (sortE (colE l i)).length ≤ j) (hf : ∀ x ∈ (sortE (colE l i)).take j, quantP l i s x = false) : False := by
  have hp : 0 < (colE l i).length := by rw [colE_len]; exact hE.pos
  rw [List.take_of_length_le hj] at hf
  have h1 := hf _ ((sortE_perm _).mem_iff.2 (maxE_mem hp))
  rw [quantP, below_max] at h1
  have h2 := of_decide_eq_false h1
  have h3 := total_pos hE
  rw [Int.mul_comm] at h2
  exact h2 (Int.mul_le_mul_of_nonneg_left hs.2 (by omega))
theorem sQuantile_ok {h : Heap} {S : List Nat} {v0 : Value} {l : List (Int × (List Int))} {i : Int} {s : Int × Int} (hok : HOk h) (hS : ∀ b ∈ S, b < h.next) (ha0 : SlV h S (.pair (.int .i64) (.sl (.int .i64))) v0 l) (hl : ∀ c ∈ l, c.2.length < 100000) (h12 : l.length ≤ 12 ∨ 16 < l.length) : EvF Tryz.prog OA 38 [v0, .int .i64 i, .agg #[.int .i64 s.1, .int .i64 s.2]] h fun r h' => r = .tuple #[.int .i64 (if quantB l i s = 0 then quantE l i.toNat s else 0), .int .i64 (quantB l i s)] ∧ h' = h := by
  refine XF.enter Tryz.func38 rfl rfl rfl ?_
  have hok : HOk (entry h) := hok
  have hA := After.refl (entry h)
  replace ha0 := ha0.entry
  show XC Tryz.prog OA none _ _ [] [(0, v0), (1, .int .i64 i), (2, .agg #[.int .i64 s.1, .int .i64 s.2])] (entry h) _
  refine XC.seq ?_
  refine XC.text ?_
  refine XO.boxR rfl (RepV.ofInt .i64 _) (hA.ok hok) (hA.inS hS) rfl rfl ?_
  intro p120 h120 b120 a120
  have ok121 := hA.ok hok
  have gg121 : Goes (entry h) S h120 S := a120.nx ok121
  replace hA := hA.trans a120
  replace ha0 := ha0.nx gg121
  refine XO.boxR rfl (RepV.mk2 (a := (.int .i64)) (b := (.int .i64)) (x := s) (RepV.ofInt .i64 _) (RepV.ofInt .i64 _) rfl rfl) (hA.ok hok) (hA.inS hS) rfl rfl ?_
  intro p122 h122 b122 a122
  have ok123 := hA.ok hok
  have gg123 : Goes h120 S h122 S := a122.nx ok123
  replace hA := hA.trans a122
  replace ha0 := ha0.nx gg123
  replace b120 := b120.nx gg123
  refine XO.c (.assign rfl) rfl rfl ?_
  refine XO.c (.assign rfl) rfl rfl ?_
  refine XO.nil (thenC.go ?_)
  refine XC.seq ?_
  refine XC.seq ?_
  refine XC.text ?_
  refine XO.c (.move rfl) rfl rfl ?_
  refine XO.call rfl rfl rfl rfl ?_
  refine EvF.mono (sEnsemble_ok (hA.ok hok) (hA.inS hS) ha0 (by first | assumption | omega)) ?_
  rintro _ _ ⟨rfl, hh⟩
  obtain rfl := hh.symm
  clear hh
  refine XO.c (.assign rfl) rfl rfl ?_
  refine XO.nil (thenC.go ?_)
  refine XC.seq ?_
  refine XC.text ?_
  refine XO.c (.move rfl) rfl rfl ?_
  refine XO.c (.neq rfl rfl) rfl rfl ?_
  refine XO.nil (thenC.go ?_)
  refine XC.condD rfl (fun c2 => ?_) (fun c2 => ?_)
  · have hB1 : quantB l i s = ensembleE l := by rw [quant_two, if_neg c2]
    refine XC.seq ?_
    refine XC.text ?_
    refine XO.c (.move rfl) rfl rfl ?_
    refine XO.c (.assign rfl) rfl rfl ?_
    refine XO.c (.assign rfl) rfl rfl ?_
    refine XO.nil (thenC.go ?_)
    refine XC.ret fun tf htf => ?_
    refine thenC_ret ?_
    refine endF.two rfl rfl (htf 6 _ rfl) (htf 7 _ rfl) ?_
    refine ⟨?_, hA.leftAf rfl⟩
    refine congrArg Value.tuple ?_
    refine tup2 (congrArg (Value.int .i64) (by rw [hB1, if_neg c2])) (congrArg (Value.int .i64) (by exact hB1.symm))
  · have hE := ensembleE_ok (Decidable.not_not.1 c2)
    have hp := hE.pos
    have ht := hE.top
    have e0 := len0_eq hE.pos
    refine XC.skip (thenC.go ?_)
    refine XC.seq ?_
    refine XC.seq ?_
    refine XC.drawn ?_
    have hkr125 := hA.ok hok
    have hSr125 := (hA.inS hS)
    refine XD.ld (b := 0) (After.refl _) SegsOk.nil hkr125 rfl ((b120).ldInt vt3) rfl rfl rfl rfl ?_
    refine XD.c (b := 1) (.lss rfl rfl) rfl rfl rfl ?_
    refine XD.c (b := 3) (.move rfl) rfl rfl rfl ?_
    refine XD.splitD (x := 22) rfl (fun g4_2 => ?_) (fun g4_2 => ?_)
    · refine XD.skip (b := 7) rfl rfl rfl rfl rfl rfl ?_
      refine XD.skip (b := 7) rfl rfl rfl rfl rfl rfl ?_
      refine XD.skip (b := 23) rfl rfl rfl rfl rfl rfl ?_
      refine XD.skip (b := 55) rfl rfl rfl rfl rfl rfl ?_
      refine XD.skip (b := 119) rfl rfl rfl rfl rfl rfl ?_
      refine XD.skip (b := 247) rfl rfl rfl rfl rfl rfl ?_
      refine XD.skip (b := 511) rfl rfl rfl rfl rfl rfl ?_
      refine XD.c (b := 1023) (.pickT rfl rfl) rfl rfl rfl ?_
      refine XD.callV (bb := 2047) (After.refl _) (SegsOk.cons ((After.refl _)).next SegsOk.nil) rfl rfl rfl rfl rfl rfl ?_
      intro M126 aM126 oM126
      refine EvF.mono (sWhen_ok (aM126.ok hkr125) (aM126.inS hSr125)  ) ?_
      rintro _ _ ⟨rfl, hh⟩
      refine ⟨hh, ?_⟩
      clear hh
      obtain ⟨u127, e127, r127⟩ := (b122).ldV vt58
      obtain ⟨c128_0, c128_1, rfl, r128_0, r128_1⟩ := r127.st2 rfl rfl
      obtain rfl := r128_0.int
      obtain rfl := r128_1.int
      refine XD.ld (b := 0) (After.refl _) (SegsOk.cons ((After.refl _)).next (SegsOk.cons ((After.refl _)).next SegsOk.nil)) hkr125 rfl (e127) rfl rfl rfl rfl ?_
      refine XD.callV (bb := 8191) (After.refl _) (SegsOk.cons ((After.refl _)).next (SegsOk.cons ((After.refl _)).next (SegsOk.cons ((After.refl _)).next SegsOk.nil))) rfl rfl rfl rfl rfl rfl ?_
      intro M129 aM129 oM129
      refine EvF.mono (gRatio_ok (aM129.ok hkr125) (aM129.inS hSr125)  ) ?_
      rintro _ _ ⟨rfl, hh⟩
      refine ⟨hh, ?_⟩
      clear hh
      refine XD.c (b := 0) (.fieldAddr rfl ((b122).fa (f := 0) (k := 0) (by kernel_rfl))) rfl rfl rfl ?_
      refine XD.ld (b := 16384) (After.refl _) (SegsOk.cons ((After.refl _)).next (SegsOk.cons ((After.refl _)).next (SegsOk.cons ((After.refl _)).next (SegsOk.cons ((After.refl _)).next SegsOk.nil)))) hkr125 rfl (((b122).base.fst').ldInt vt3) rfl rfl rfl rfl ?_
      refine XD.c (b := 49152) (.lss rfl rfl) rfl rfl rfl ?_
      refine XD.c (b := 131071) (.move rfl) rfl rfl rfl ?_
      refine XD.splitD (x := 37) rfl (fun g4_17 => ?_) (fun g4_17 => ?_)
      · refine XD.skip (b := 262143) rfl rfl rfl rfl rfl rfl ?_
        refine XD.skip (b := 524287) rfl rfl rfl rfl rfl rfl ?_
        refine XD.skip (b := 262143) rfl rfl rfl rfl rfl rfl ?_
        refine XD.skip (b := 1310719) rfl rfl rfl rfl rfl rfl ?_
        refine XD.skip (b := 4194303) rfl rfl rfl rfl rfl rfl ?_
        refine XD.c (b := 8388607) (.pickT rfl rfl) rfl rfl rfl ?_
        refine XD.callV (bb := 16777215) (After.refl _) (SegsOk.cons ((After.refl _)).next (SegsOk.cons ((After.refl _)).next (SegsOk.cons ((After.refl _)).next (SegsOk.cons ((After.refl _)).next (SegsOk.cons ((After.refl _)).next SegsOk.nil))))) rfl rfl rfl rfl rfl rfl ?_
        intro M130 aM130 oM130
        refine EvF.mono (sWhen_ok (aM130.ok hkr125) (aM130.inS hSr125)  ) ?_
        rintro _ _ ⟨rfl, hh⟩
        refine ⟨hh, ?_⟩
        clear hh
        refine XD.lit (b := 33554431) (h := h122) (S := S) (τ := (.int .i64)) (vsC (RepV.ofInt .i64 _) (vsC (RepV.ofInt .i64 _) (vs1 (RepV.ofInt .i64 _)))) el179 rfl rfl rfl (by simp) (by simp) (by decide) (hA.ok hok) (hA.inS hS) rfl rfl rfl rfl ?_
        intro w131 h131 s131 a131
        have ha0o := ha0
        have b120o := b120
        have b122o := b122
        have rg125 : Goes h122 S h122 S := Goes.refl
        have ra125 := After.refl h122
        have ok132 := hA.ok hok
        have gg132 : Goes h122 S h131 S := a131.nx ok132
        replace hA := hA.trans a131
        replace ha0 := ha0.nx gg132
        replace b120 := b120.nx gg132
        replace b122 := b122.nx gg132
        replace rg125 := rg125.trans gg132
        have ra125_131 := ra125.trans a131
        refine XD.callV (bb := 67108863) ra125_131 (SegsOk.cons (ra125).next (SegsOk.cons ((After.refl _)).next (SegsOk.cons ((After.refl _)).next (SegsOk.cons ((After.refl _)).next (SegsOk.cons ((After.refl _)).next (SegsOk.cons ((After.refl _)).next (SegsOk.cons ((After.refl _)).next SegsOk.nil))))))) rfl rfl rfl rfl rfl rfl ?_
        intro M133 aM133 oM133
        obtain rfl := oM133 rfl
        refine EvF.mono (sFirst_ok (hA.ok hok) (hA.inS hS) (s131).entry (by simp)) ?_
        rintro _ _ ⟨rfl, hh⟩
        refine ⟨hh, ?_⟩
        clear hh
        refine XD.c (b := 134217727) (.assign rfl) rfl rfl rfl ?_
        refine XD.nil (thenC.go ?_)
        refine XC.seq ?_
        refine XC.text ?_
        refine XO.c (.move rfl) rfl rfl ?_
        refine XO.c (.neq rfl rfl) rfl rfl ?_
        refine XO.nil (thenC.go ?_)
        refine XC.condD rfl (fun c5 => ?_) (fun c5 => ?_)
        · have hB : quantB l i s ≠ 0 := by rw [quant_two, if_pos (Decidable.not_not.1 c2), ← e0]; first | (rw [whenE_or1 g4_2, whenE_or1 g4_17]; exact c5) | (rw [whenE_or2 g4_2, whenE_or1 g4_17]; exact c5) | (rw [whenE_or1 g4_2, whenE_or2 g4_17]; exact c5) | (rw [whenE_or2 g4_2, whenE_or2 g4_17]; exact c5)
          refine XC.seq ?_
          refine XC.text ?_
          refine XO.c (.move rfl) rfl rfl ?_
          refine XO.c (.assign rfl) rfl rfl ?_
          refine XO.c (.assign rfl) rfl rfl ?_
          refine XO.nil (thenC.go ?_)
          refine XC.ret fun tf htf => ?_
          refine thenC_ret ?_
          refine endF.two rfl rfl (htf 6 _ rfl) (htf 7 _ rfl) ?_
          refine ⟨?_, hA.leftAf rfl⟩
          refine congrArg Value.tuple ?_
          refine tup2 (congrArg (Value.int .i64) (by rw [if_neg hB])) (congrArg (Value.int .i64) (by rw [quant_two, if_pos (Decidable.not_not.1 c2), ← e0]; first | rw [whenE_or1 g4_2, whenE_or1 g4_17] | rw [whenE_or2 g4_2, whenE_or1 g4_17] | rw [whenE_or1 g4_2, whenE_or2 g4_17] | rw [whenE_or2 g4_2, whenE_or2 g4_17]))
        · have hB : quantB l i s = 0 := by rw [quant_two, if_pos (Decidable.not_not.1 c2), ← e0]; first | (rw [whenE_or1 g4_2, whenE_or1 g4_17]; exact Decidable.not_not.1 c5) | (rw [whenE_or2 g4_2, whenE_or1 g4_17]; exact Decidable.not_not.1 c5) | (rw [whenE_or1 g4_2, whenE_or2 g4_17]; exact Decidable.not_not.1 c5) | (rw [whenE_or2 g4_2, whenE_or2 g4_17]; exact Decidable.not_not.1 c5)
          have hQ := quantB_ok hB
          have hi := hQ.ix
          have hsh := hQ.sh
          have hw0 := okE_w hE
          have w2 := weight_bound (F := fun _ => true) hw0
          have hsl := sort_len (l.map fun c => c.2.getD i.toNat 0)
          rw [List.length_map] at hsl
          refine XC.skip (thenC.go ?_)
          refine XC.seq ?_
          refine XC.text ?_
          refine XO.c (.move rfl) rfl rfl ?_
          refine XO.c (.func rfl rfl) rfl rfl ?_
          refine XO.call rfl rfl rfl rfl ?_
          refine EvF.mono (sMapCIo_ok (S := S) (hA.ok hok) (hA.inS hS) ha0 (F := fun c => c.2.getD i.toNat 0) (by omega) (fun a _ w g m => sQu1_ok a noS w.nil0 (((b120).nx (g.nx (hA.ok hok))).nil0) (by rw [okE_len hE _ m]; exact hi))) ?_
          rintro r134 h134 ⟨a134, m134, g134⟩
          have n134 := g134.goes (S := S) a134 (hA.ok hok)
          replace g134 := g134.weak hA.next
          have ok135 := hA.ok hok
          have gg135 : Goes h131 S h134 (ownB r134 ++ S) := n134
          replace hA := hA.trans a134
          replace ha0 := ha0.nx gg135
          replace b120 := b120.nx gg135
          replace b122 := b122.nx gg135
          replace s131 := s131.nx gg135
          refine XO.c (.assign rfl) rfl rfl ?_
          refine XO.nil (thenC.go ?_)
          refine XC.seq ?_
          refine XC.text ?_
          refine XO.c (.move rfl) rfl rfl ?_
          refine XO.call rfl rfl rfl rfl ?_
          refine EvF.mono (zSort_ok (h0 := (entry h)) hok hS hA g134 (by rw [List.length_map]; omega)) ?_
          rintro _ h136 ⟨rfl, g136, a136, n136, k136⟩
          have ok137 := hA.ok hok
          have gg137 : Goes h134 (ownB r134 ++ S) h136 (ownB r134 ++ S) := n136
          replace hA := a136
          replace ha0 := ha0.nx gg137
          replace b120 := b120.nx gg137
          replace b122 := b122.nx gg137
          replace s131 := s131.nx gg137
          refine XO.nil (thenC.go ?_)
          refine XC.seq ?_
          refine XC.text ?_
          refine XO.c (.move rfl) rfl rfl ?_
          refine XO.call rfl rfl rfl rfl ?_
          refine EvF.mono (sWeight_ok (hA.ok hok) (g136.inS (hA.ok hok) (hA.inS hS)) ha0 (F := fun _ => true) (by omega) hw0 (fun a b w _ _ => sAll_ok a b w)) ?_
          rintro _ _ ⟨rfl, hh⟩
          obtain rfl := hh.symm
          clear hh
          refine XO.c (.assign rfl) rfl rfl ?_
          refine XO.nil (thenC.go ?_)
          refine XC.seq ?_
          refine XC.seq ?_
          refine XC.text ?_
          refine XO.c (.move rfl) rfl rfl ?_
          refine XO.a (.len rfl (g136.len el22)) rfl rfl ?_
          refine XO.c (.move rfl) rfl rfl ?_
          refine XO.nil (thenC.go ?_)
          refine XC.block ?_
          have hAL139 := hA
          have hkL139 := hA.ok hok
          have hSL139 := (g136.inS (hA.ok hok) (hA.inS hS))
          have g136L139 := g136
          refine XC.keep [(0, v0), (4, p120), (5, p122), (11, .int .i64 (weightE (fun _ => true) l)), (57, r134), (58, .int .i64 (((sortE (l.map (fun c => c.2.getD i.toNat 0))).length : Nat) : Int)), (59, .int .i64 ((0 : Nat) : Int))] ⟨rfl, rfl, rfl, rfl, rfl, rfl, rfl, trivial⟩ ?_
          refine XC.loopI (I := fun (kk : Nat) (ff : FL) (hh : Heap) => ∃ (j : Nat), kk = l.length - j ∧ ff = [(0, v0), (4, p120), (5, p122), (11, .int .i64 (weightE (fun _ => true) l)), (57, r134), (58, .int .i64 (((sortE (l.map (fun c => c.2.getD i.toNat 0))).length : Nat) : Int)), (59, .int .i64 ((j : Nat) : Int))] ∧ After (entry h) hh ∧ After h136 hh ∧ Goes h136 (ownB r134 ++ S) hh (ownB r134 ++ S) ∧ (j ≤ l.length) ∧ (∀ x ∈ (sortE (colE l i.toNat)).take j, quantP l i.toNat s x = false)) ?_ _ _ _ ⟨0, rfl, rfl, hA, After.refl _, Goes.refl, (by omega), (by simp)⟩
          clear hA
          rintro kk ff hh139 ⟨j, hk139, rfl, hA, aL139, nL139, hj, hf⟩
          replace ha0 := ha0.nx nL139
          replace b120 := b120.nx nL139
          replace b122 := b122.nx nL139
          replace s131 := s131.nx nL139
          replace g136 := g136.keep aL139 hkL139
          refine XC.seq ?_
          refine XC.text ?_
          refine XO.c (.lss rfl rfl) rfl rfl ?_
          refine XO.nil (thenC.go ?_)
          refine XC.seq ?_
          refine XC.condD rfl (fun c11 => ?_) (fun c11 => ?_)
          · refine XC.skip (thenC.go ?_)
            refine XC.seq ?_
            refine XC.block ?_
            refine XC.seq ?_
            refine XC.text ?_
            refine XO.c (.indexAddr rfl rfl rfl (g136.ix (j := j) el22 (by omega))) rfl rfl ?_
            refine XO.r (.load rfl (g136.ldInt (j := j) vt3 (by omega))) rfl rfl ?_
            refine XO.allocP (S := (ownB r134 ++ S)) (z := .int .i64 0) (by kernel_rfl) rfl rfl aL139 hkL139 (g136.inS (hA.ok hok) (hA.inS hS)) rfl rfl ?_
            intro p140 h140 b140 a140 gs140
            have ok141 := hA.ok hok
            have gg141 : Goes hh139 (ownB r134 ++ S) h140 (ownP p140 ++ (ownB r134 ++ S)) := gs140
            replace hA := hA.trans a140
            replace aL139 := aL139.trans a140
            replace nL139 := nL139.trans gg141
            replace ha0 := ha0.nx gg141
            replace b120 := b120.nx gg141
            replace b122 := b122.nx gg141
            replace s131 := s131.nx gg141
            replace g136 := g136.up a140 ok141 gg141 (fun b hb => by simp [hb])
            refine XO.stP (S := (ownB r134 ++ S)) (h0 := h136) (τ := (.int .i64)) rfl rfl b140 (RepV.ofInt .i64 _) vt3 aL139 ?_
            intro h142 b142 a142 gs142 nx142 fr142
            have ok143 := hA.ok hok
            have gg143 : Goes h140 (ownP p140 ++ (ownB r134 ++ S)) h142 (ownB r134 ++ S) := gs142
            replace hA := hAL139.trans a142
            replace aL139 := a142
            replace nL139 := nL139.trans gg143
            replace ha0 := ha0.nx gg143
            replace b120 := b120.nx gg143
            replace b122 := b122.nx gg143
            replace s131 := s131.nx gg143
            replace g136 := g136.chg (fun b hb => fr142 b (by simp [hb])) gg143 (fun b hb => by simp [hb])
            refine XO.nil (thenC.go ?_)
            refine XC.seq ?_
            refine XC.text ?_
            refine XO.c (.move rfl) rfl rfl ?_
            refine XO.c (.func rfl rfl) rfl rfl ?_
            refine XO.call rfl rfl rfl rfl ?_
            refine EvF.mono (sWeight_ok (hA.ok hok) (g136.inS (hA.ok hok) (hA.inS hS)) ha0 (F := fun c => decide (c.2.getD i.toNat 0 ≤ (sortE (l.map fun c => c.2.getD i.toNat 0))[j])) (by omega) hw0 (fun a _ w g m => sQu2_ok a noS w.nil0 (((b120).nx (g.nx (hA.ok hok))).nil0) (((b142).nx (g.nx (hA.ok hok))).nil0) (by rw [okE_len hE _ m]; exact hi))) ?_
            rintro _ _ ⟨rfl, hh⟩
            obtain rfl := hh.symm
            clear hh
            refine XO.c (.assign rfl) rfl rfl ?_
            refine XO.nil (thenC.go ?_)
            refine XC.seq ?_
            refine XC.text ?_
            have w1 := weight_bound (F := fun c => decide (c.2.getD i.toNat 0 ≤ (sortE (l.map fun c => c.2.getD i.toNat 0))[j])) hw0
            have m1 := mulB (a := weightE (fun c => decide (c.2.getD i.toNat 0 ≤ (sortE (l.map fun c => c.2.getD i.toNat 0))[j])) l) (b := s.2) (A := 16000) (B := 999999999) (by omega) (by omega)
            have m2 := mulB (a := s.1) (b := weightE (fun _ => true) l) (A := 999999999) (B := 16000) (by omega) (by omega)
            refine XO.c (.move rfl) rfl rfl ?_
            refine XO.c (.fieldAddr rfl ((b122).fa (f := 1) (k := 1) (by kernel_rfl))) rfl rfl ?_
            refine XO.r (.load rfl ((((b122).base.snd' (m := 1) rfl (b122).isP)).ldInt vt3)) rfl rfl ?_
            refine XO.c (.mul rfl rfl (by omega)) rfl rfl ?_
            refine XO.c (.fieldAddr rfl ((b122).fa (f := 0) (k := 0) (by kernel_rfl))) rfl rfl ?_
            refine XO.r (.load rfl (((b122).base.fst').ldInt vt3)) rfl rfl ?_
            refine XO.c (.move rfl) rfl rfl ?_
            refine XO.c (.mul rfl rfl (by omega)) rfl rfl ?_
            refine XO.c (.geq rfl rfl) rfl rfl ?_
            refine XO.nil (thenC.go ?_)
            refine XC.condD rfl (fun c14 => ?_) (fun c14 => ?_)
            · refine XC.seq ?_
              refine XC.text ?_
              refine XO.r (.load rfl ((b142).ldInt vt3)) rfl rfl ?_
              refine XO.c (.assign rfl) rfl rfl ?_
              refine XO.c (.assign rfl) rfl rfl ?_
              refine XO.nil (thenC.go ?_)
              refine XC.ret fun tf htf => ?_
              refine inBlock_ret ?_
              refine thenC_ret ?_
              refine loopQ_ret ?_
              refine inBlock_ret ?_
              refine thenC_ret ?_
              refine endF.two rfl rfl (htf 6 _ rfl) (htf 7 _ rfl) ?_
              refine ⟨?_, hA.leftAf rfl⟩
              refine congrArg Value.tuple ?_
              refine tup2 (congrArg (Value.int .i64) (by rw [if_pos hB]; exact quant_found (by rw [sort_len, colE_len]; omega) (decide_eq_true c14) hf)) (congrArg (Value.int .i64) (by exact hB.symm))
            · refine XC.skip ?_
              intro tf htf
              refine inBlock_nrm ?_
              refine thenC.go ?_ tf htf
              refine XC.text ?_
              refine XO.c (.add rfl rfl (by omega)) rfl rfl ?_
              refine XO.c (.move rfl) rfl rfl ?_
              refine XO.nil ?_
              intro tf htf
              refine ⟨rfl, rfl, _, [(0, v0), (4, p120), (5, p122), (11, .int .i64 (weightE (fun _ => true) l)), (57, r134), (58, .int .i64 (((sortE (l.map (fun c => c.2.getD i.toNat 0))).length : Nat) : Int)), (59, .int .i64 (((j + 1) : Nat) : Int))], ?_, htf.keep _ ⟨rfl, rfl, rfl, rfl, rfl, rfl, rfl, trivial⟩, (j + 1), rfl, rfl, hA, aL139, nL139, (by omega), (by exact all_take (by rw [sort_len, colE_len]; omega) hf (decide_eq_false c14))⟩
              omega
          · refine XC.exit ?_
            intro tf htf
            refine thenC_exit ?_
            refine loopQ_exit ?_
            refine inBlock_eq ?_
            refine thenC.go ?_ tf htf
            refine XC.seq ?_
            refine XC.text ?_
            refine XO.c (.assign rfl) rfl rfl ?_
            refine XO.c (.assign rfl) rfl rfl ?_
            refine XO.nil (thenC.go ?_)
            refine XC.ret fun tf htf => ?_
            refine endF.two rfl rfl (htf 6 _ rfl) (htf 7 _ rfl) ?_
            refine ⟨?_, hA.leftAf rfl⟩
            refine congrArg Value.tuple ?_
            refine tup2 (congrArg (Value.int .i64) (by exact (quant_some hE (by omega) (by rw [sort_len, colE_len]; omega) hf).elim)) (congrArg (Value.int .i64) (by exact (quant_some hE (by omega) (by rw [sort_len, colE_len]; omega) hf).elim))
      · refine XD.gc (b := 262143) rfl rfl rfl (.fieldAddr rfl ((b122).fa (f := 0) (k := 0) (by kernel_rfl))) rfl rfl rfl ?_
        refine XD.gld (b := 524287) rfl rfl rfl (After.refl _) (SegsOk.cons ((After.refl _)).next (SegsOk.cons ((After.refl _)).next (SegsOk.cons ((After.refl _)).next (SegsOk.cons ((After.refl _)).next (SegsOk.cons ((After.refl _)).next SegsOk.nil))))) hkr125 rfl (((b122).base.fst').ldInt vt3) rfl rfl rfl rfl ?_
        refine XD.gc (b := 262143) rfl rfl rfl (.fieldAddr rfl ((b122).fa (f := 1) (k := 1) (by kernel_rfl))) rfl rfl rfl ?_
        refine XD.gld (b := 1310719) rfl rfl rfl (After.refl _) (SegsOk.cons ((After.refl _)).next (SegsOk.cons ((After.refl _)).next (SegsOk.cons ((After.refl _)).next (SegsOk.cons ((After.refl _)).next (SegsOk.cons ((After.refl _)).next (SegsOk.cons ((After.refl _)).next SegsOk.nil)))))) hkr125 rfl ((((b122).base.snd' (m := 1) rfl (b122).isP)).ldInt vt3) rfl rfl rfl rfl ?_
        refine XD.gc (b := 4194303) rfl rfl rfl (.gtr rfl rfl) rfl rfl rfl ?_
        refine XD.c (b := 8388607) (.pickF rfl rfl) rfl rfl rfl ?_
        refine XD.callV (bb := 16777215) (After.refl _) (SegsOk.cons ((After.refl _)).next (SegsOk.cons ((After.refl _)).next (SegsOk.cons ((After.refl _)).next (SegsOk.cons ((After.refl _)).next (SegsOk.cons ((After.refl _)).next (SegsOk.cons ((After.refl _)).next (SegsOk.cons ((After.refl _)).next SegsOk.nil))))))) rfl rfl rfl rfl rfl rfl ?_
        intro M145 aM145 oM145
        refine EvF.mono (sWhen_ok (aM145.ok hkr125) (aM145.inS hSr125)  ) ?_
        rintro _ _ ⟨rfl, hh⟩
        refine ⟨hh, ?_⟩
        clear hh
        refine XD.lit (b := 33554431) (h := h122) (S := S) (τ := (.int .i64)) (vsC (RepV.ofInt .i64 _) (vsC (RepV.ofInt .i64 _) (vs1 (RepV.ofInt .i64 _)))) el179 rfl rfl rfl (by simp) (by simp) (by decide) (hA.ok hok) (hA.inS hS) rfl rfl rfl rfl ?_
        intro w146 h146 s146 a146
        have ha0o := ha0
        have b120o := b120
        have b122o := b122
        have rg125 : Goes h122 S h122 S := Goes.refl
        have ra125 := After.refl h122
        have ok147 := hA.ok hok
        have gg147 : Goes h122 S h146 S := a146.nx ok147
        replace hA := hA.trans a146
        replace ha0 := ha0.nx gg147
        replace b120 := b120.nx gg147
        replace b122 := b122.nx gg147
        replace rg125 := rg125.trans gg147
        have ra125_146 := ra125.trans a146
        refine XD.callV (bb := 67108863) ra125_146 (SegsOk.cons (ra125).next (SegsOk.cons ((After.refl _)).next (SegsOk.cons ((After.refl _)).next (SegsOk.cons ((After.refl _)).next (SegsOk.cons ((After.refl _)).next (SegsOk.cons ((After.refl _)).next (SegsOk.cons ((After.refl _)).next (SegsOk.cons ((After.refl _)).next (SegsOk.cons ((After.refl _)).next SegsOk.nil))))))))) rfl rfl rfl rfl rfl rfl ?_
        intro M148 aM148 oM148
        obtain rfl := oM148 rfl
        refine EvF.mono (sFirst_ok (hA.ok hok) (hA.inS hS) (s146).entry (by simp)) ?_
        rintro _ _ ⟨rfl, hh⟩
        refine ⟨hh, ?_⟩
        clear hh
        refine XD.c (b := 134217727) (.assign rfl) rfl rfl rfl ?_
        refine XD.nil (thenC.go ?_)
        refine XC.seq ?_
        refine XC.text ?_
        refine XO.c (.move rfl) rfl rfl ?_
        refine XO.c (.neq rfl rfl) rfl rfl ?_
        refine XO.nil (thenC.go ?_)
        refine XC.condD rfl (fun c5 => ?_) (fun c5 => ?_)
        · have hB : quantB l i s ≠ 0 := by rw [quant_two, if_pos (Decidable.not_not.1 c2), ← e0]; first | (rw [whenE_or1 g4_2, whenE_or1 g4_17]; exact c5) | (rw [whenE_or2 g4_2, whenE_or1 g4_17]; exact c5) | (rw [whenE_or1 g4_2, whenE_or2 g4_17]; exact c5) | (rw [whenE_or2 g4_2, whenE_or2 g4_17]; exact c5)
          refine XC.seq ?_
          refine XC.text ?_
          refine XO.c (.move rfl) rfl rfl ?_
          refine XO.c (.assign rfl) rfl rfl ?_
          refine XO.c (.assign rfl) rfl rfl ?_
          refine XO.nil (thenC.go ?_)
          refine XC.ret fun tf htf => ?_
          refine thenC_ret ?_
          refine endF.two rfl rfl (htf 6 _ rfl) (htf 7 _ rfl) ?_
          refine ⟨?_, hA.leftAf rfl⟩
          refine congrArg Value.tuple ?_
          refine tup2 (congrArg (Value.int .i64) (by rw [if_neg hB])) (congrArg (Value.int .i64) (by rw [quant_two, if_pos (Decidable.not_not.1 c2), ← e0]; first | rw [whenE_or1 g4_2, whenE_or1 g4_17] | rw [whenE_or2 g4_2, whenE_or1 g4_17] | rw [whenE_or1 g4_2, whenE_or2 g4_17] | rw [whenE_or2 g4_2, whenE_or2 g4_17]))
        · have hB : quantB l i s = 0 := by rw [quant_two, if_pos (Decidable.not_not.1 c2), ← e0]; first | (rw [whenE_or1 g4_2, whenE_or1 g4_17]; exact Decidable.not_not.1 c5) | (rw [whenE_or2 g4_2, whenE_or1 g4_17]; exact Decidable.not_not.1 c5) | (rw [whenE_or1 g4_2, whenE_or2 g4_17]; exact Decidable.not_not.1 c5) | (rw [whenE_or2 g4_2, whenE_or2 g4_17]; exact Decidable.not_not.1 c5)
          have hQ := quantB_ok hB
          have hi := hQ.ix
          have hsh := hQ.sh
          have hw0 := okE_w hE
          have w2 := weight_bound (F := fun _ => true) hw0
          have hsl := sort_len (l.map fun c => c.2.getD i.toNat 0)
          rw [List.length_map] at hsl
          refine XC.skip (thenC.go ?_)
          refine XC.seq ?_
          refine XC.text ?_
          refine XO.c (.move rfl) rfl rfl ?_
          refine XO.c (.func rfl rfl) rfl rfl ?_
          refine XO.call rfl rfl rfl rfl ?_
          refine EvF.mono (sMapCIo_ok (S := S) (hA.ok hok) (hA.inS hS) ha0 (F := fun c => c.2.getD i.toNat 0) (by omega) (fun a _ w g m => sQu1_ok a noS w.nil0 (((b120).nx (g.nx (hA.ok hok))).nil0) (by rw [okE_len hE _ m]; exact hi))) ?_
          rintro r149 h149 ⟨a149, m149, g149⟩
          have n149 := g149.goes (S := S) a149 (hA.ok hok)
          replace g149 := g149.weak hA.next
          have ok150 := hA.ok hok
          have gg150 : Goes h146 S h149 (ownB r149 ++ S) := n149
          replace hA := hA.trans a149
          replace ha0 := ha0.nx gg150
          replace b120 := b120.nx gg150
          replace b122 := b122.nx gg150
          replace s146 := s146.nx gg150
          refine XO.c (.assign rfl) rfl rfl ?_
          refine XO.nil (thenC.go ?_)
          refine XC.seq ?_
          refine XC.text ?_
          refine XO.c (.move rfl) rfl rfl ?_
          refine XO.call rfl rfl rfl rfl ?_
          refine EvF.mono (zSort_ok (h0 := (entry h)) hok hS hA g149 (by rw [List.length_map]; omega)) ?_
          rintro _ h151 ⟨rfl, g151, a151, n151, k151⟩
          have ok152 := hA.ok hok
          have gg152 : Goes h149 (ownB r149 ++ S) h151 (ownB r149 ++ S) := n151
          replace hA := a151
          replace ha0 := ha0.nx gg152
          replace b120 := b120.nx gg152
          replace b122 := b122.nx gg152
          replace s146 := s146.nx gg152
          refine XO.nil (thenC.go ?_)
          refine XC.seq ?_
          refine XC.text ?_
          refine XO.c (.move rfl) rfl rfl ?_
          refine XO.call rfl rfl rfl rfl ?_
          refine EvF.mono (sWeight_ok (hA.ok hok) (g151.inS (hA.ok hok) (hA.inS hS)) ha0 (F := fun _ => true) (by omega) hw0 (fun a b w _ _ => sAll_ok a b w)) ?_
          rintro _ _ ⟨rfl, hh⟩
          obtain rfl := hh.symm
          clear hh
          refine XO.c (.assign rfl) rfl rfl ?_
          refine XO.nil (thenC.go ?_)
          refine XC.seq ?_
          refine XC.seq ?_
          refine XC.text ?_
          refine XO.c (.move rfl) rfl rfl ?_
          refine XO.a (.len rfl (g151.len el22)) rfl rfl ?_
          refine XO.c (.move rfl) rfl rfl ?_
          refine XO.nil (thenC.go ?_)
          refine XC.block ?_
          have hAL154 := hA
          have hkL154 := hA.ok hok
          have hSL154 := (g151.inS (hA.ok hok) (hA.inS hS))
          have g151L154 := g151
          refine XC.keep [(0, v0), (4, p120), (5, p122), (11, .int .i64 (weightE (fun _ => true) l)), (57, r149), (58, .int .i64 (((sortE (l.map (fun c => c.2.getD i.toNat 0))).length : Nat) : Int)), (59, .int .i64 ((0 : Nat) : Int))] ⟨rfl, rfl, rfl, rfl, rfl, rfl, rfl, trivial⟩ ?_
          refine XC.loopI (I := fun (kk : Nat) (ff : FL) (hh : Heap) => ∃ (j : Nat), kk = l.length - j ∧ ff = [(0, v0), (4, p120), (5, p122), (11, .int .i64 (weightE (fun _ => true) l)), (57, r149), (58, .int .i64 (((sortE (l.map (fun c => c.2.getD i.toNat 0))).length : Nat) : Int)), (59, .int .i64 ((j : Nat) : Int))] ∧ After (entry h) hh ∧ After h151 hh ∧ Goes h151 (ownB r149 ++ S) hh (ownB r149 ++ S) ∧ (j ≤ l.length) ∧ (∀ x ∈ (sortE (colE l i.toNat)).take j, quantP l i.toNat s x = false)) ?_ _ _ _ ⟨0, rfl, rfl, hA, After.refl _, Goes.refl, (by omega), (by simp)⟩
          clear hA
          rintro kk ff hh154 ⟨j, hk154, rfl, hA, aL154, nL154, hj, hf⟩
          replace ha0 := ha0.nx nL154
          replace b120 := b120.nx nL154
          replace b122 := b122.nx nL154
          replace s146 := s146.nx nL154
          replace g151 := g151.keep aL154 hkL154
          refine XC.seq ?_
          refine XC.text ?_
          refine XO.c (.lss rfl rfl) rfl rfl ?_
          refine XO.nil (thenC.go ?_)
          refine XC.seq ?_
          refine XC.condD rfl (fun c11 => ?_) (fun c11 => ?_)
          · refine XC.skip (thenC.go ?_)
            refine XC.seq ?_
            refine XC.block ?_
            refine XC.seq ?_
            refine XC.text ?_
            refine XO.c (.indexAddr rfl rfl rfl (g151.ix (j := j) el22 (by omega))) rfl rfl ?_
            refine XO.r (.load rfl (g151.ldInt (j := j) vt3 (by omega))) rfl rfl ?_
            refine XO.allocP (S := (ownB r149 ++ S)) (z := .int .i64 0) (by kernel_rfl) rfl rfl aL154 hkL154 (g151.inS (hA.ok hok) (hA.inS hS)) rfl rfl ?_
            intro p155 h155 b155 a155 gs155
            have ok156 := hA.ok hok
            have gg156 : Goes hh154 (ownB r149 ++ S) h155 (ownP p155 ++ (ownB r149 ++ S)) := gs155
            replace hA := hA.trans a155
            replace aL154 := aL154.trans a155
            replace nL154 := nL154.trans gg156
            replace ha0 := ha0.nx gg156
            replace b120 := b120.nx gg156
            replace b122 := b122.nx gg156
            replace s146 := s146.nx gg156
            replace g151 := g151.up a155 ok156 gg156 (fun b hb => by simp [hb])
            refine XO.stP (S := (ownB r149 ++ S)) (h0 := h151) (τ := (.int .i64)) rfl rfl b155 (RepV.ofInt .i64 _) vt3 aL154 ?_
            intro h157 b157 a157 gs157 nx157 fr157
            have ok158 := hA.ok hok
            have gg158 : Goes h155 (ownP p155 ++ (ownB r149 ++ S)) h157 (ownB r149 ++ S) := gs157
            replace hA := hAL154.trans a157
            replace aL154 := a157
            replace nL154 := nL154.trans gg158
            replace ha0 := ha0.nx gg158
            replace b120 := b120.nx gg158
            replace b122 := b122.nx gg158
            replace s146 := s146.nx gg158
            replace g151 := g151.chg (fun b hb => fr157 b (by simp [hb])) gg158 (fun b hb => by simp [hb])
            refine XO.nil (thenC.go ?_)
            refine XC.seq ?_
            refine XC.text ?_
            refine XO.c (.move rfl) rfl rfl ?_
            refine XO.c (.func rfl rfl) rfl rfl ?_
            refine XO.call rfl rfl rfl rfl ?_
            refine EvF.mono (sWeight_ok (hA.ok hok) (g151.inS (hA.ok hok) (hA.inS hS)) ha0 (F := fun c => decide (c.2.getD i.toNat 0 ≤ (sortE (l.map fun c => c.2.getD i.toNat 0))[j])) (by omega) hw0 (fun a _ w g m => sQu2_ok a noS w.nil0 (((b120).nx (g.nx (hA.ok hok))).nil0) (((b157).nx (g.nx (hA.ok hok))).nil0) (by rw [okE_len hE _ m]; exact hi))) ?_
            rintro _ _ ⟨rfl, hh⟩
            obtain rfl := hh.symm
            clear hh
            refine XO.c (.assign rfl) rfl rfl ?_
            refine XO.nil (thenC.go ?_)
            refine XC.seq ?_
            refine XC.text ?_
            have w1 := weight_bound (F := fun c => decide (c.2.getD i.toNat 0 ≤ (sortE (l.map fun c => c.2.getD i.toNat 0))[j])) hw0
            have m1 := mulB (a := weightE (fun c => decide (c.2.getD i.toNat 0 ≤ (sortE (l.map fun c => c.2.getD i.toNat 0))[j])) l) (b := s.2) (A := 16000) (B := 999999999) (by omega) (by omega)
            have m2 := mulB (a := s.1) (b := weightE (fun _ => true) l) (A := 999999999) (B := 16000) (by omega) (by omega)
            refine XO.c (.move rfl) rfl rfl ?_
            refine XO.c (.fieldAddr rfl ((b122).fa (f := 1) (k := 1) (by kernel_rfl))) rfl rfl ?_
            refine XO.r (.load rfl ((((b122).base.snd' (m := 1) rfl (b122).isP)).ldInt vt3)) rfl rfl ?_
            refine XO.c (.mul rfl rfl (by omega)) rfl rfl ?_
            refine XO.c (.fieldAddr rfl ((b122).fa (f := 0) (k := 0) (by kernel_rfl))) rfl rfl ?_
            refine XO.r (.load rfl (((b122).base.fst').ldInt vt3)) rfl rfl ?_
            refine XO.c (.move rfl) rfl rfl ?_
            refine XO.c (.mul rfl rfl (by omega)) rfl rfl ?_
            refine XO.c (.geq rfl rfl) rfl rfl ?_
            refine XO.nil (thenC.go ?_)
            refine XC.condD rfl (fun c14 => ?_) (fun c14 => ?_)
            · refine XC.seq ?_
              refine XC.text ?_
              refine XO.r (.load rfl ((b157).ldInt vt3)) rfl rfl ?_
              refine XO.c (.assign rfl) rfl rfl ?_
              refine XO.c (.assign rfl) rfl rfl ?_
              refine XO.nil (thenC.go ?_)
              refine XC.ret fun tf htf => ?_
              refine inBlock_ret ?_
              refine thenC_ret ?_
              refine loopQ_ret ?_
              refine inBlock_ret ?_
              refine thenC_ret ?_
              refine endF.two rfl rfl (htf 6 _ rfl) (htf 7 _ rfl) ?_
              refine ⟨?_, hA.leftAf rfl⟩
              refine congrArg Value.tuple ?_
              refine tup2 (congrArg (Value.int .i64) (by rw [if_pos hB]; exact quant_found (by rw [sort_len, colE_len]; omega) (decide_eq_true c14) hf)) (congrArg (Value.int .i64) (by exact hB.symm))
            · refine XC.skip ?_
              intro tf htf
              refine inBlock_nrm ?_
              refine thenC.go ?_ tf htf
              refine XC.text ?_
              refine XO.c (.add rfl rfl (by omega)) rfl rfl ?_
              refine XO.c (.move rfl) rfl rfl ?_
              refine XO.nil ?_
              intro tf htf
              refine ⟨rfl, rfl, _, [(0, v0), (4, p120), (5, p122), (11, .int .i64 (weightE (fun _ => true) l)), (57, r149), (58, .int .i64 (((sortE (l.map (fun c => c.2.getD i.toNat 0))).length : Nat) : Int)), (59, .int .i64 (((j + 1) : Nat) : Int))], ?_, htf.keep _ ⟨rfl, rfl, rfl, rfl, rfl, rfl, rfl, trivial⟩, (j + 1), rfl, rfl, hA, aL154, nL154, (by omega), (by exact all_take (by rw [sort_len, colE_len]; omega) hf (decide_eq_false c14))⟩
              omega
          · refine XC.exit ?_
            intro tf htf
            refine thenC_exit ?_
            refine loopQ_exit ?_
            refine inBlock_eq ?_
            refine thenC.go ?_ tf htf
            refine XC.seq ?_
            refine XC.text ?_
            refine XO.c (.assign rfl) rfl rfl ?_
            refine XO.c (.assign rfl) rfl rfl ?_
            refine XO.nil (thenC.go ?_)
            refine XC.ret fun tf htf => ?_
            refine endF.two rfl rfl (htf 6 _ rfl) (htf 7 _ rfl) ?_
            refine ⟨?_, hA.leftAf rfl⟩
            refine congrArg Value.tuple ?_
            refine tup2 (congrArg (Value.int .i64) (by exact (quant_some hE (by omega) (by rw [sort_len, colE_len]; omega) hf).elim)) (congrArg (Value.int .i64) (by exact (quant_some hE (by omega) (by rw [sort_len, colE_len]; omega) hf).elim))
    · refine XD.gld (b := 7) rfl rfl rfl (After.refl _) (SegsOk.cons ((After.refl _)).next SegsOk.nil) hkr125 rfl ((b120).ldInt vt3) rfl rfl rfl rfl ?_
      refine XD.gc (b := 7) rfl rfl rfl (.move rfl) rfl rfl rfl ?_
      refine XD.gc (b := 23) rfl rfl rfl (.indexAddr rfl rfl rfl (ha0.ix (j := 0) el64 (by omega))) rfl rfl rfl ?_
      refine XD.gc (b := 55) rfl rfl rfl (.fieldAddr rfl (((ha0.at (j := 0) (by omega))).fa (f := 1) (k := 1) (by kernel_rfl))) rfl rfl rfl ?_
      obtain ⟨u160, e160, s160⟩ := ((((ha0.at (j := 0) (by omega))).base.snd' (m := 1) rfl ((ha0.at (j := 0) (by omega))).isP)).ldSl vt22
      refine XD.gld (b := 119) rfl rfl rfl (After.refl _) (SegsOk.cons ((After.refl _)).next (SegsOk.cons ((After.refl _)).next SegsOk.nil)) hkr125 rfl (e160) rfl rfl rfl rfl ?_
      refine XD.ga (b := 247) rfl rfl rfl rfl (.len rfl (s160.len el22)) rfl rfl rfl rfl ?_
      refine XD.gc (b := 511) rfl rfl rfl (.geq rfl rfl) rfl rfl rfl ?_
      refine XD.c (b := 1023) (.pickF rfl rfl) rfl rfl rfl ?_
      refine XD.callV (bb := 2047) (After.refl _) (SegsOk.cons ((After.refl _)).next (SegsOk.cons ((After.refl _)).next (SegsOk.cons ((After.refl _)).next (SegsOk.cons ((After.refl _)).next SegsOk.nil)))) rfl rfl rfl rfl rfl rfl ?_
      intro M161 aM161 oM161
      refine EvF.mono (sWhen_ok (aM161.ok hkr125) (aM161.inS hSr125)  ) ?_
      rintro _ _ ⟨rfl, hh⟩
      refine ⟨hh, ?_⟩
      clear hh
      obtain ⟨u162, e162, r162⟩ := (b122).ldV vt58
      obtain ⟨c163_0, c163_1, rfl, r163_0, r163_1⟩ := r162.st2 rfl rfl
      obtain rfl := r163_0.int
      obtain rfl := r163_1.int
      refine XD.ld (b := 0) (After.refl _) (SegsOk.cons ((After.refl _)).next (SegsOk.cons ((After.refl _)).next (SegsOk.cons ((After.refl _)).next (SegsOk.cons ((After.refl _)).next (SegsOk.cons ((After.refl _)).next SegsOk.nil))))) hkr125 rfl (e162) rfl rfl rfl rfl ?_
      refine XD.callV (bb := 8191) (After.refl _) (SegsOk.cons ((After.refl _)).next (SegsOk.cons ((After.refl _)).next (SegsOk.cons ((After.refl _)).next (SegsOk.cons ((After.refl _)).next (SegsOk.cons ((After.refl _)).next (SegsOk.cons ((After.refl _)).next SegsOk.nil)))))) rfl rfl rfl rfl rfl rfl ?_
      intro M164 aM164 oM164
      refine EvF.mono (gRatio_ok (aM164.ok hkr125) (aM164.inS hSr125)  ) ?_
      rintro _ _ ⟨rfl, hh⟩
      refine ⟨hh, ?_⟩
      clear hh
      refine XD.c (b := 0) (.fieldAddr rfl ((b122).fa (f := 0) (k := 0) (by kernel_rfl))) rfl rfl rfl ?_
      refine XD.ld (b := 16384) (After.refl _) (SegsOk.cons ((After.refl _)).next (SegsOk.cons ((After.refl _)).next (SegsOk.cons ((After.refl _)).next (SegsOk.cons ((After.refl _)).next (SegsOk.cons ((After.refl _)).next (SegsOk.cons ((After.refl _)).next (SegsOk.cons ((After.refl _)).next SegsOk.nil))))))) hkr125 rfl (((b122).base.fst').ldInt vt3) rfl rfl rfl rfl ?_
      refine XD.c (b := 49152) (.lss rfl rfl) rfl rfl rfl ?_
      refine XD.c (b := 131071) (.move rfl) rfl rfl rfl ?_
      refine XD.splitD (x := 37) rfl (fun g4_17 => ?_) (fun g4_17 => ?_)
      · refine XD.skip (b := 262143) rfl rfl rfl rfl rfl rfl ?_
        refine XD.skip (b := 524287) rfl rfl rfl rfl rfl rfl ?_
        refine XD.skip (b := 262143) rfl rfl rfl rfl rfl rfl ?_
        refine XD.skip (b := 1310719) rfl rfl rfl rfl rfl rfl ?_
        refine XD.skip (b := 4194303) rfl rfl rfl rfl rfl rfl ?_
        refine XD.c (b := 8388607) (.pickT rfl rfl) rfl rfl rfl ?_
        refine XD.callV (bb := 16777215) (After.refl _) (SegsOk.cons ((After.refl _)).next (SegsOk.cons ((After.refl _)).next (SegsOk.cons ((After.refl _)).next (SegsOk.cons ((After.refl _)).next (SegsOk.cons ((After.refl _)).next (SegsOk.cons ((After.refl _)).next (SegsOk.cons ((After.refl _)).next (SegsOk.cons ((After.refl _)).next SegsOk.nil)))))))) rfl rfl rfl rfl rfl rfl ?_
        intro M165 aM165 oM165
        refine EvF.mono (sWhen_ok (aM165.ok hkr125) (aM165.inS hSr125)  ) ?_
        rintro _ _ ⟨rfl, hh⟩
        refine ⟨hh, ?_⟩
        clear hh
        refine XD.lit (b := 33554431) (h := h122) (S := S) (τ := (.int .i64)) (vsC (RepV.ofInt .i64 _) (vsC (RepV.ofInt .i64 _) (vs1 (RepV.ofInt .i64 _)))) el179 rfl rfl rfl (by simp) (by simp) (by decide) (hA.ok hok) (hA.inS hS) rfl rfl rfl rfl ?_
        intro w166 h166 s166 a166
        have ha0o := ha0
        have b120o := b120
        have b122o := b122
        have s160o := s160
        have rg125 : Goes h122 S h122 S := Goes.refl
        have ra125 := After.refl h122
        have ok167 := hA.ok hok
        have gg167 : Goes h122 S h166 S := a166.nx ok167
        replace hA := hA.trans a166
        replace ha0 := ha0.nx gg167
        replace b120 := b120.nx gg167
        replace b122 := b122.nx gg167
        replace s160 := s160.nx gg167
        replace rg125 := rg125.trans gg167
        have ra125_166 := ra125.trans a166
        refine XD.callV (bb := 67108863) ra125_166 (SegsOk.cons (ra125).next (SegsOk.cons ((After.refl _)).next (SegsOk.cons ((After.refl _)).next (SegsOk.cons ((After.refl _)).next (SegsOk.cons ((After.refl _)).next (SegsOk.cons ((After.refl _)).next (SegsOk.cons ((After.refl _)).next (SegsOk.cons ((After.refl _)).next (SegsOk.cons ((After.refl _)).next (SegsOk.cons ((After.refl _)).next SegsOk.nil)))))))))) rfl rfl rfl rfl rfl rfl ?_
        intro M168 aM168 oM168
        obtain rfl := oM168 rfl
        refine EvF.mono (sFirst_ok (hA.ok hok) (hA.inS hS) (s166).entry (by simp)) ?_
        rintro _ _ ⟨rfl, hh⟩
        refine ⟨hh, ?_⟩
        clear hh
        refine XD.c (b := 134217727) (.assign rfl) rfl rfl rfl ?_
        refine XD.nil (thenC.go ?_)
        refine XC.seq ?_
        refine XC.text ?_
        refine XO.c (.move rfl) rfl rfl ?_
        refine XO.c (.neq rfl rfl) rfl rfl ?_
        refine XO.nil (thenC.go ?_)
        refine XC.condD rfl (fun c5 => ?_) (fun c5 => ?_)
        · have hB : quantB l i s ≠ 0 := by rw [quant_two, if_pos (Decidable.not_not.1 c2), ← e0]; first | (rw [whenE_or1 g4_2, whenE_or1 g4_17]; exact c5) | (rw [whenE_or2 g4_2, whenE_or1 g4_17]; exact c5) | (rw [whenE_or1 g4_2, whenE_or2 g4_17]; exact c5) | (rw [whenE_or2 g4_2, whenE_or2 g4_17]; exact c5)
          refine XC.seq ?_
          refine XC.text ?_
          refine XO.c (.move rfl) rfl rfl ?_
          refine XO.c (.assign rfl) rfl rfl ?_
          refine XO.c (.assign rfl) rfl rfl ?_
          refine XO.nil (thenC.go ?_)
          refine XC.ret fun tf htf => ?_
          refine thenC_ret ?_
          refine endF.two rfl rfl (htf 6 _ rfl) (htf 7 _ rfl) ?_
          refine ⟨?_, hA.leftAf rfl⟩
          refine congrArg Value.tuple ?_
          refine tup2 (congrArg (Value.int .i64) (by rw [if_neg hB])) (congrArg (Value.int .i64) (by rw [quant_two, if_pos (Decidable.not_not.1 c2), ← e0]; first | rw [whenE_or1 g4_2, whenE_or1 g4_17] | rw [whenE_or2 g4_2, whenE_or1 g4_17] | rw [whenE_or1 g4_2, whenE_or2 g4_17] | rw [whenE_or2 g4_2, whenE_or2 g4_17]))
        · have hB : quantB l i s = 0 := by rw [quant_two, if_pos (Decidable.not_not.1 c2), ← e0]; first | (rw [whenE_or1 g4_2, whenE_or1 g4_17]; exact Decidable.not_not.1 c5) | (rw [whenE_or2 g4_2, whenE_or1 g4_17]; exact Decidable.not_not.1 c5) | (rw [whenE_or1 g4_2, whenE_or2 g4_17]; exact Decidable.not_not.1 c5) | (rw [whenE_or2 g4_2, whenE_or2 g4_17]; exact Decidable.not_not.1 c5)
          have hQ := quantB_ok hB
          have hi := hQ.ix
          have hsh := hQ.sh
          have hw0 := okE_w hE
          have w2 := weight_bound (F := fun _ => true) hw0
          have hsl := sort_len (l.map fun c => c.2.getD i.toNat 0)
          rw [List.length_map] at hsl
          refine XC.skip (thenC.go ?_)
          refine XC.seq ?_
          refine XC.text ?_
          refine XO.c (.move rfl) rfl rfl ?_
          refine XO.c (.func rfl rfl) rfl rfl ?_
          refine XO.call rfl rfl rfl rfl ?_
          refine EvF.mono (sMapCIo_ok (S := S) (hA.ok hok) (hA.inS hS) ha0 (F := fun c => c.2.getD i.toNat 0) (by omega) (fun a _ w g m => sQu1_ok a noS w.nil0 (((b120).nx (g.nx (hA.ok hok))).nil0) (by rw [okE_len hE _ m]; exact hi))) ?_
          rintro r169 h169 ⟨a169, m169, g169⟩
          have n169 := g169.goes (S := S) a169 (hA.ok hok)
          replace g169 := g169.weak hA.next
          have ok170 := hA.ok hok
          have gg170 : Goes h166 S h169 (ownB r169 ++ S) := n169
          replace hA := hA.trans a169
          replace ha0 := ha0.nx gg170
          replace b120 := b120.nx gg170
          replace b122 := b122.nx gg170
          replace s160 := s160.nx gg170
          replace s166 := s166.nx gg170
          refine XO.c (.assign rfl) rfl rfl ?_
          refine XO.nil (thenC.go ?_)
          refine XC.seq ?_
          refine XC.text ?_
          refine XO.c (.move rfl) rfl rfl ?_
          refine XO.call rfl rfl rfl rfl ?_
          refine EvF.mono (zSort_ok (h0 := (entry h)) hok hS hA g169 (by rw [List.length_map]; omega)) ?_
          rintro _ h171 ⟨rfl, g171, a171, n171, k171⟩
          have ok172 := hA.ok hok
          have gg172 : Goes h169 (ownB r169 ++ S) h171 (ownB r169 ++ S) := n171
          replace hA := a171
          replace ha0 := ha0.nx gg172
          replace b120 := b120.nx gg172
          replace b122 := b122.nx gg172
          replace s160 := s160.nx gg172
          replace s166 := s166.nx gg172
          refine XO.nil (thenC.go ?_)
          refine XC.seq ?_
          refine XC.text ?_
          refine XO.c (.move rfl) rfl rfl ?_
          refine XO.call rfl rfl rfl rfl ?_
          refine EvF.mono (sWeight_ok (hA.ok hok) (g171.inS (hA.ok hok) (hA.inS hS)) ha0 (F := fun _ => true) (by omega) hw0 (fun a b w _ _ => sAll_ok a b w)) ?_
          rintro _ _ ⟨rfl, hh⟩
          obtain rfl := hh.symm
          clear hh
          refine XO.c (.assign rfl) rfl rfl ?_
          refine XO.nil (thenC.go ?_)
          refine XC.seq ?_
          refine XC.seq ?_
          refine XC.text ?_
          refine XO.c (.move rfl) rfl rfl ?_
          refine XO.a (.len rfl (g171.len el22)) rfl rfl ?_
          refine XO.c (.move rfl) rfl rfl ?_
          refine XO.nil (thenC.go ?_)
          refine XC.block ?_
          have hAL174 := hA
          have hkL174 := hA.ok hok
          have hSL174 := (g171.inS (hA.ok hok) (hA.inS hS))
          have g171L174 := g171
          refine XC.keep [(0, v0), (4, p120), (5, p122), (11, .int .i64 (weightE (fun _ => true) l)), (57, r169), (58, .int .i64 (((sortE (l.map (fun c => c.2.getD i.toNat 0))).length : Nat) : Int)), (59, .int .i64 ((0 : Nat) : Int))] ⟨rfl, rfl, rfl, rfl, rfl, rfl, rfl, trivial⟩ ?_
          refine XC.loopI (I := fun (kk : Nat) (ff : FL) (hh : Heap) => ∃ (j : Nat), kk = l.length - j ∧ ff = [(0, v0), (4, p120), (5, p122), (11, .int .i64 (weightE (fun _ => true) l)), (57, r169), (58, .int .i64 (((sortE (l.map (fun c => c.2.getD i.toNat 0))).length : Nat) : Int)), (59, .int .i64 ((j : Nat) : Int))] ∧ After (entry h) hh ∧ After h171 hh ∧ Goes h171 (ownB r169 ++ S) hh (ownB r169 ++ S) ∧ (j ≤ l.length) ∧ (∀ x ∈ (sortE (colE l i.toNat)).take j, quantP l i.toNat s x = false)) ?_ _ _ _ ⟨0, rfl, rfl, hA, After.refl _, Goes.refl, (by omega), (by simp)⟩
          clear hA
          rintro kk ff hh174 ⟨j, hk174, rfl, hA, aL174, nL174, hj, hf⟩
          replace ha0 := ha0.nx nL174
          replace b120 := b120.nx nL174
          replace b122 := b122.nx nL174
          replace s160 := s160.nx nL174
          replace s166 := s166.nx nL174
          replace g171 := g171.keep aL174 hkL174
          refine XC.seq ?_
          refine XC.text ?_
          refine XO.c (.lss rfl rfl) rfl rfl ?_
          refine XO.nil (thenC.go ?_)
          refine XC.seq ?_
          refine XC.condD rfl (fun c11 => ?_) (fun c11 => ?_)
          · refine XC.skip (thenC.go ?_)
            refine XC.seq ?_
            refine XC.block ?_
            refine XC.seq ?_
            refine XC.text ?_
            refine XO.c (.indexAddr rfl rfl rfl (g171.ix (j := j) el22 (by omega))) rfl rfl ?_
            refine XO.r (.load rfl (g171.ldInt (j := j) vt3 (by omega))) rfl rfl ?_
            refine XO.allocP (S := (ownB r169 ++ S)) (z := .int .i64 0) (by kernel_rfl) rfl rfl aL174 hkL174 (g171.inS (hA.ok hok) (hA.inS hS)) rfl rfl ?_
            intro p175 h175 b175 a175 gs175
            have ok176 := hA.ok hok
            have gg176 : Goes hh174 (ownB r169 ++ S) h175 (ownP p175 ++ (ownB r169 ++ S)) := gs175
            replace hA := hA.trans a175
            replace aL174 := aL174.trans a175
            replace nL174 := nL174.trans gg176
            replace ha0 := ha0.nx gg176
            replace b120 := b120.nx gg176
            replace b122 := b122.nx gg176
            replace s160 := s160.nx gg176
            replace s166 := s166.nx gg176
            replace g171 := g171.up a175 ok176 gg176 (fun b hb => by simp [hb])
            refine XO.stP (S := (ownB r169 ++ S)) (h0 := h171) (τ := (.int .i64)) rfl rfl b175 (RepV.ofInt .i64 _) vt3 aL174 ?_
            intro h177 b177 a177 gs177 nx177 fr177
            have ok178 := hA.ok hok
            have gg178 : Goes h175 (ownP p175 ++ (ownB r169 ++ S)) h177 (ownB r169 ++ S) := gs177
            replace hA := hAL174.trans a177
            replace aL174 := a177
            replace nL174 := nL174.trans gg178
            replace ha0 := ha0.nx gg178
            replace b120 := b120.nx gg178
            replace b122 := b122.nx gg178
            replace s160 := s160.nx gg178
            replace s166 := s166.nx gg178
            replace g171 := g171.chg (fun b hb => fr177 b (by simp [hb])) gg178 (fun b hb => by simp [hb])
            refine XO.nil (thenC.go ?_)
            refine XC.seq ?_
            refine XC.text ?_
            refine XO.c (.move rfl) rfl rfl ?_
            refine XO.c (.func rfl rfl) rfl rfl ?_
            refine XO.call rfl rfl rfl rfl ?_
            refine EvF.mono (sWeight_ok (hA.ok hok) (g171.inS (hA.ok hok) (hA.inS hS)) ha0 (F := fun c => decide (c.2.getD i.toNat 0 ≤ (sortE (l.map fun c => c.2.getD i.toNat 0))[j])) (by omega) hw0 (fun a _ w g m => sQu2_ok a noS w.nil0 (((b120).nx (g.nx (hA.ok hok))).nil0) (((b177).nx (g.nx (hA.ok hok))).nil0) (by rw [okE_len hE _ m]; exact hi))) ?_
            rintro _ _ ⟨rfl, hh⟩
            obtain rfl := hh.symm
            clear hh
            refine XO.c (.assign rfl) rfl rfl ?_
            refine XO.nil (thenC.go ?_)
            refine XC.seq ?_
            refine XC.text ?_
            have w1 := weight_bound (F := fun c => decide (c.2.getD i.toNat 0 ≤ (sortE (l.map fun c => c.2.getD i.toNat 0))[j])) hw0
            have m1 := mulB (a := weightE (fun c => decide (c.2.getD i.toNat 0 ≤ (sortE (l.map fun c => c.2.getD i.toNat 0))[j])) l) (b := s.2) (A := 16000) (B := 999999999) (by omega) (by omega)
            have m2 := mulB (a := s.1) (b := weightE (fun _ => true) l) (A := 999999999) (B := 16000) (by omega) (by omega)
            refine XO.c (.move rfl) rfl rfl ?_
            refine XO.c (.fieldAddr rfl ((b122).fa (f := 1) (k := 1) (by kernel_rfl))) rfl rfl ?_
            refine XO.r (.load rfl ((((b122).base.snd' (m := 1) rfl (b122).isP)).ldInt vt3)) rfl rfl ?_
            refine XO.c (.mul rfl rfl (by omega)) rfl rfl ?_
            refine XO.c (.fieldAddr rfl ((b122).fa (f := 0) (k := 0) (by kernel_rfl))) rfl rfl ?_
            refine XO.r (.load rfl (((b122).base.fst').ldInt vt3)) rfl rfl ?_
            refine XO.c (.move rfl) rfl rfl ?_
            refine XO.c (.mul rfl rfl (by omega)) rfl rfl ?_
            refine XO.c (.geq rfl rfl) rfl rfl ?_
            refine XO.nil (thenC.go ?_)
            refine XC.condD rfl (fun c14 => ?_) (fun c14 => ?_)
            · refine XC.seq ?_
              refine XC.text ?_
              refine XO.r (.load rfl ((b177).ldInt vt3)) rfl rfl ?_
              refine XO.c (.assign rfl) rfl rfl ?_
              refine XO.c (.assign rfl) rfl rfl ?_
              refine XO.nil (thenC.go ?_)
              refine XC.ret fun tf htf => ?_
              refine inBlock_ret ?_
              refine thenC_ret ?_
              refine loopQ_ret ?_
              refine inBlock_ret ?_
              refine thenC_ret ?_
              refine endF.two rfl rfl (htf 6 _ rfl) (htf 7 _ rfl) ?_
              refine ⟨?_, hA.leftAf rfl⟩
              refine congrArg Value.tuple ?_
              refine tup2 (congrArg (Value.int .i64) (by rw [if_pos hB]; exact quant_found (by rw [sort_len, colE_len]; omega) (decide_eq_true c14) hf)) (congrArg (Value.int .i64) (by exact hB.symm))
            · refine XC.skip ?_
              intro tf htf
              refine inBlock_nrm ?_
              refine thenC.go ?_ tf htf
              refine XC.text ?_
              refine XO.c (.add rfl rfl (by omega)) rfl rfl ?_
              refine XO.c (.move rfl) rfl rfl ?_
              refine XO.nil ?_
              intro tf htf
              refine ⟨rfl, rfl, _, [(0, v0), (4, p120), (5, p122), (11, .int .i64 (weightE (fun _ => true) l)), (57, r169), (58, .int .i64 (((sortE (l.map (fun c => c.2.getD i.toNat 0))).length : Nat) : Int)), (59, .int .i64 (((j + 1) : Nat) : Int))], ?_, htf.keep _ ⟨rfl, rfl, rfl, rfl, rfl, rfl, rfl, trivial⟩, (j + 1), rfl, rfl, hA, aL174, nL174, (by omega), (by exact all_take (by rw [sort_len, colE_len]; omega) hf (decide_eq_false c14))⟩
              omega
          · refine XC.exit ?_
            intro tf htf
            refine thenC_exit ?_
            refine loopQ_exit ?_
            refine inBlock_eq ?_
            refine thenC.go ?_ tf htf
            refine XC.seq ?_
            refine XC.text ?_
            refine XO.c (.assign rfl) rfl rfl ?_
            refine XO.c (.assign rfl) rfl rfl ?_
            refine XO.nil (thenC.go ?_)
            refine XC.ret fun tf htf => ?_
            refine endF.two rfl rfl (htf 6 _ rfl) (htf 7 _ rfl) ?_
            refine ⟨?_, hA.leftAf rfl⟩
            refine congrArg Value.tuple ?_
            refine tup2 (congrArg (Value.int .i64) (by exact (quant_some hE (by omega) (by rw [sort_len, colE_len]; omega) hf).elim)) (congrArg (Value.int .i64) (by exact (quant_some hE (by omega) (by rw [sort_len, colE_len]; omega) hf).elim))
      · refine XD.gc (b := 262143) rfl rfl rfl (.fieldAddr rfl ((b122).fa (f := 0) (k := 0) (by kernel_rfl))) rfl rfl rfl ?_
        refine XD.gld (b := 524287) rfl rfl rfl (After.refl _) (SegsOk.cons ((After.refl _)).next (SegsOk.cons ((After.refl _)).next (SegsOk.cons ((After.refl _)).next (SegsOk.cons ((After.refl _)).next (SegsOk.cons ((After.refl _)).next (SegsOk.cons ((After.refl _)).next (SegsOk.cons ((After.refl _)).next (SegsOk.cons ((After.refl _)).next SegsOk.nil)))))))) hkr125 rfl (((b122).base.fst').ldInt vt3) rfl rfl rfl rfl ?_
        refine XD.gc (b := 262143) rfl rfl rfl (.fieldAddr rfl ((b122).fa (f := 1) (k := 1) (by kernel_rfl))) rfl rfl rfl ?_
        refine XD.gld (b := 1310719) rfl rfl rfl (After.refl _) (SegsOk.cons ((After.refl _)).next (SegsOk.cons ((After.refl _)).next (SegsOk.cons ((After.refl _)).next (SegsOk.cons ((After.refl _)).next (SegsOk.cons ((After.refl _)).next (SegsOk.cons ((After.refl _)).next (SegsOk.cons ((After.refl _)).next (SegsOk.cons ((After.refl _)).next (SegsOk.cons ((After.refl _)).next SegsOk.nil))))))))) hkr125 rfl ((((b122).base.snd' (m := 1) rfl (b122).isP)).ldInt vt3) rfl rfl rfl rfl ?_
        refine XD.gc (b := 4194303) rfl rfl rfl (.gtr rfl rfl) rfl rfl rfl ?_
        refine XD.c (b := 8388607) (.pickF rfl rfl) rfl rfl rfl ?_
        refine XD.callV (bb := 16777215) (After.refl _) (SegsOk.cons ((After.refl _)).next (SegsOk.cons ((After.refl _)).next (SegsOk.cons ((After.refl _)).next (SegsOk.cons ((After.refl _)).next (SegsOk.cons ((After.refl _)).next (SegsOk.cons ((After.refl _)).next (SegsOk.cons ((After.refl _)).next (SegsOk.cons ((After.refl _)).next (SegsOk.cons ((After.refl _)).next (SegsOk.cons ((After.refl _)).next SegsOk.nil)))))))))) rfl rfl rfl rfl rfl rfl ?_
        intro M180 aM180 oM180
        refine EvF.mono (sWhen_ok (aM180.ok hkr125) (aM180.inS hSr125)  ) ?_
        rintro _ _ ⟨rfl, hh⟩
        refine ⟨hh, ?_⟩
        clear hh
        refine XD.lit (b := 33554431) (h := h122) (S := S) (τ := (.int .i64)) (vsC (RepV.ofInt .i64 _) (vsC (RepV.ofInt .i64 _) (vs1 (RepV.ofInt .i64 _)))) el179 rfl rfl rfl (by simp) (by simp) (by decide) (hA.ok hok) (hA.inS hS) rfl rfl rfl rfl ?_
        intro w181 h181 s181 a181
        have ha0o := ha0
        have b120o := b120
        have b122o := b122
        have s160o := s160
        have rg125 : Goes h122 S h122 S := Goes.refl
        have ra125 := After.refl h122
        have ok182 := hA.ok hok
        have gg182 : Goes h122 S h181 S := a181.nx ok182
        replace hA := hA.trans a181
        replace ha0 := ha0.nx gg182
        replace b120 := b120.nx gg182
        replace b122 := b122.nx gg182
        replace s160 := s160.nx gg182
        replace rg125 := rg125.trans gg182
        have ra125_181 := ra125.trans a181
        refine XD.callV (bb := 67108863) ra125_181 (SegsOk.cons (ra125).next (SegsOk.cons ((After.refl _)).next (SegsOk.cons ((After.refl _)).next (SegsOk.cons ((After.refl _)).next (SegsOk.cons ((After.refl _)).next (SegsOk.cons ((After.refl _)).next (SegsOk.cons ((After.refl _)).next (SegsOk.cons ((After.refl _)).next (SegsOk.cons ((After.refl _)).next (SegsOk.cons ((After.refl _)).next (SegsOk.cons ((After.refl _)).next (SegsOk.cons ((After.refl _)).next SegsOk.nil)))))))))))) rfl rfl rfl rfl rfl rfl ?_
        intro M183 aM183 oM183
        obtain rfl := oM183 rfl
        refine EvF.mono (sFirst_ok (hA.ok hok) (hA.inS hS) (s181).entry (by simp)) ?_
        rintro _ _ ⟨rfl, hh⟩
        refine ⟨hh, ?_⟩
        clear hh
        refine XD.c (b := 134217727) (.assign rfl) rfl rfl rfl ?_
        refine XD.nil (thenC.go ?_)
        refine XC.seq ?_
        refine XC.text ?_
        refine XO.c (.move rfl) rfl rfl ?_
        refine XO.c (.neq rfl rfl) rfl rfl ?_
        refine XO.nil (thenC.go ?_)
        refine XC.condD rfl (fun c5 => ?_) (fun c5 => ?_)
        · have hB : quantB l i s ≠ 0 := by rw [quant_two, if_pos (Decidable.not_not.1 c2), ← e0]; first | (rw [whenE_or1 g4_2, whenE_or1 g4_17]; exact c5) | (rw [whenE_or2 g4_2, whenE_or1 g4_17]; exact c5) | (rw [whenE_or1 g4_2, whenE_or2 g4_17]; exact c5) | (rw [whenE_or2 g4_2, whenE_or2 g4_17]; exact c5)
          refine XC.seq ?_
          refine XC.text ?_
          refine XO.c (.move rfl) rfl rfl ?_
          refine XO.c (.assign rfl) rfl rfl ?_
          refine XO.c (.assign rfl) rfl rfl ?_
          refine XO.nil (thenC.go ?_)
          refine XC.ret fun tf htf => ?_
          refine thenC_ret ?_
          refine endF.two rfl rfl (htf 6 _ rfl) (htf 7 _ rfl) ?_
          refine ⟨?_, hA.leftAf rfl⟩
          refine congrArg Value.tuple ?_
          refine tup2 (congrArg (Value.int .i64) (by rw [if_neg hB])) (congrArg (Value.int .i64) (by rw [quant_two, if_pos (Decidable.not_not.1 c2), ← e0]; first | rw [whenE_or1 g4_2, whenE_or1 g4_17] | rw [whenE_or2 g4_2, whenE_or1 g4_17] | rw [whenE_or1 g4_2, whenE_or2 g4_17] | rw [whenE_or2 g4_2, whenE_or2 g4_17]))
        · have hB : quantB l i s = 0 := by rw [quant_two, if_pos (Decidable.not_not.1 c2), ← e0]; first | (rw [whenE_or1 g4_2, whenE_or1 g4_17]; exact Decidable.not_not.1 c5) | (rw [whenE_or2 g4_2, whenE_or1 g4_17]; exact Decidable.not_not.1 c5) | (rw [whenE_or1 g4_2, whenE_or2 g4_17]; exact Decidable.not_not.1 c5) | (rw [whenE_or2 g4_2, whenE_or2 g4_17]; exact Decidable.not_not.1 c5)
          have hQ := quantB_ok hB
          have hi := hQ.ix
          have hsh := hQ.sh
          have hw0 := okE_w hE
          have w2 := weight_bound (F := fun _ => true) hw0
          have hsl := sort_len (l.map fun c => c.2.getD i.toNat 0)
          rw [List.length_map] at hsl
          refine XC.skip (thenC.go ?_)
          refine XC.seq ?_
          refine XC.text ?_
          refine XO.c (.move rfl) rfl rfl ?_
          refine XO.c (.func rfl rfl) rfl rfl ?_
          refine XO.call rfl rfl rfl rfl ?_
          refine EvF.mono (sMapCIo_ok (S := S) (hA.ok hok) (hA.inS hS) ha0 (F := fun c => c.2.getD i.toNat 0) (by omega) (fun a _ w g m => sQu1_ok a noS w.nil0 (((b120).nx (g.nx (hA.ok hok))).nil0) (by rw [okE_len hE _ m]; exact hi))) ?_
          rintro r184 h184 ⟨a184, m184, g184⟩
          have n184 := g184.goes (S := S) a184 (hA.ok hok)
          replace g184 := g184.weak hA.next
          have ok185 := hA.ok hok
          have gg185 : Goes h181 S h184 (ownB r184 ++ S) := n184
          replace hA := hA.trans a184
          replace ha0 := ha0.nx gg185
          replace b120 := b120.nx gg185
          replace b122 := b122.nx gg185
          replace s160 := s160.nx gg185
          replace s181 := s181.nx gg185
          refine XO.c (.assign rfl) rfl rfl ?_
          refine XO.nil (thenC.go ?_)
          refine XC.seq ?_
          refine XC.text ?_
          refine XO.c (.move rfl) rfl rfl ?_
          refine XO.call rfl rfl rfl rfl ?_
          refine EvF.mono (zSort_ok (h0 := (entry h)) hok hS hA g184 (by rw [List.length_map]; omega)) ?_
          rintro _ h186 ⟨rfl, g186, a186, n186, k186⟩
          have ok187 := hA.ok hok
          have gg187 : Goes h184 (ownB r184 ++ S) h186 (ownB r184 ++ S) := n186
          replace hA := a186
          replace ha0 := ha0.nx gg187
          replace b120 := b120.nx gg187
          replace b122 := b122.nx gg187
          replace s160 := s160.nx gg187
          replace s181 := s181.nx gg187
          refine XO.nil (thenC.go ?_)
          refine XC.seq ?_
          refine XC.text ?_
          refine XO.c (.move rfl) rfl rfl ?_
          refine XO.call rfl rfl rfl rfl ?_
          refine EvF.mono (sWeight_ok (hA.ok hok) (g186.inS (hA.ok hok) (hA.inS hS)) ha0 (F := fun _ => true) (by omega) hw0 (fun a b w _ _ => sAll_ok a b w)) ?_
          rintro _ _ ⟨rfl, hh⟩
          obtain rfl := hh.symm
          clear hh
          refine XO.c (.assign rfl) rfl rfl ?_
          refine XO.nil (thenC.go ?_)
          refine XC.seq ?_
          refine XC.seq ?_
          refine XC.text ?_
          refine XO.c (.move rfl) rfl rfl ?_
          refine XO.a (.len rfl (g186.len el22)) rfl rfl ?_
          refine XO.c (.move rfl) rfl rfl ?_
          refine XO.nil (thenC.go ?_)
          refine XC.block ?_
          have hAL189 := hA
          have hkL189 := hA.ok hok
          have hSL189 := (g186.inS (hA.ok hok) (hA.inS hS))
          have g186L189 := g186
          refine XC.keep [(0, v0), (4, p120), (5, p122), (11, .int .i64 (weightE (fun _ => true) l)), (57, r184), (58, .int .i64 (((sortE (l.map (fun c => c.2.getD i.toNat 0))).length : Nat) : Int)), (59, .int .i64 ((0 : Nat) : Int))] ⟨rfl, rfl, rfl, rfl, rfl, rfl, rfl, trivial⟩ ?_
          refine XC.loopI (I := fun (kk : Nat) (ff : FL) (hh : Heap) => ∃ (j : Nat), kk = l.length - j ∧ ff = [(0, v0), (4, p120), (5, p122), (11, .int .i64 (weightE (fun _ => true) l)), (57, r184), (58, .int .i64 (((sortE (l.map (fun c => c.2.getD i.toNat 0))).length : Nat) : Int)), (59, .int .i64 ((j : Nat) : Int))] ∧ After (entry h) hh ∧ After h186 hh ∧ Goes h186 (ownB r184 ++ S) hh (ownB r184 ++ S) ∧ (j ≤ l.length) ∧ (∀ x ∈ (sortE (colE l i.toNat)).take j, quantP l i.toNat s x = false)) ?_ _ _ _ ⟨0, rfl, rfl, hA, After.refl _, Goes.refl, (by omega), (by simp)⟩
          clear hA
          rintro kk ff hh189 ⟨j, hk189, rfl, hA, aL189, nL189, hj, hf⟩
          replace ha0 := ha0.nx nL189
          replace b120 := b120.nx nL189
          replace b122 := b122.nx nL189
          replace s160 := s160.nx nL189
          replace s181 := s181.nx nL189
          replace g186 := g186.keep aL189 hkL189
          refine XC.seq ?_
          refine XC.text ?_
          refine XO.c (.lss rfl rfl) rfl rfl ?_
          refine XO.nil (thenC.go ?_)
          refine XC.seq ?_
          refine XC.condD rfl (fun c11 => ?_) (fun c11 => ?_)
          · refine XC.skip (thenC.go ?_)
            refine XC.seq ?_
            refine XC.block ?_
            refine XC.seq ?_
            refine XC.text ?_
            refine XO.c (.indexAddr rfl rfl rfl (g186.ix (j := j) el22 (by omega))) rfl rfl ?_
            refine XO.r (.load rfl (g186.ldInt (j := j) vt3 (by omega))) rfl rfl ?_
            refine XO.allocP (S := (ownB r184 ++ S)) (z := .int .i64 0) (by kernel_rfl) rfl rfl aL189 hkL189 (g186.inS (hA.ok hok) (hA.inS hS)) rfl rfl ?_
            intro p190 h190 b190 a190 gs190
            have ok191 := hA.ok hok
            have gg191 : Goes hh189 (ownB r184 ++ S) h190 (ownP p190 ++ (ownB r184 ++ S)) := gs190
            replace hA := hA.trans a190
            replace aL189 := aL189.trans a190
            replace nL189 := nL189.trans gg191
            replace ha0 := ha0.nx gg191
            replace b120 := b120.nx gg191
            replace b122 := b122.nx gg191
            replace s160 := s160.nx gg191
            replace s181 := s181.nx gg191
            replace g186 := g186.up a190 ok191 gg191 (fun b hb => by simp [hb])
            refine XO.stP (S := (ownB r184 ++ S)) (h0 := h186) (τ := (.int .i64)) rfl rfl b190 (RepV.ofInt .i64 _) vt3 aL189 ?_
            intro h192 b192 a192 gs192 nx192 fr192
            have ok193 := hA.ok hok
            have gg193 : Goes h190 (ownP p190 ++ (ownB r184 ++ S)) h192 (ownB r184 ++ S) := gs192
            replace hA := hAL189.trans a192
            replace aL189 := a192
            replace nL189 := nL189.trans gg193
            replace ha0 := ha0.nx gg193
            replace b120 := b120.nx gg193
            replace b122 := b122.nx gg193
            replace s160 := s160.nx gg193
            replace s181 := s181.nx gg193
            replace g186 := g186.chg (fun b hb => fr192 b (by simp [hb])) gg193 (fun b hb => by simp [hb])
            refine XO.nil (thenC.go ?_)
            refine XC.seq ?_
            refine XC.text ?_
            refine XO.c (.move rfl) rfl rfl ?_
            refine XO.c (.func rfl rfl) rfl rfl ?_
            refine XO.call rfl rfl rfl rfl ?_
            refine EvF.mono (sWeight_ok (hA.ok hok) (g186.inS (hA.ok hok) (hA.inS hS)) ha0 (F := fun c => decide (c.2.getD i.toNat 0 ≤ (sortE (l.map fun c => c.2.getD i.toNat 0))[j])) (by omega) hw0 (fun a _ w g m => sQu2_ok a noS w.nil0 (((b120).nx (g.nx (hA.ok hok))).nil0) (((b192).nx (g.nx (hA.ok hok))).nil0) (by rw [okE_len hE _ m]; exact hi))) ?_
            rintro _ _ ⟨rfl, hh⟩
            obtain rfl := hh.symm
            clear hh
            refine XO.c (.assign rfl) rfl rfl ?_
            refine XO.nil (thenC.go ?_)
            refine XC.seq ?_
            refine XC.text ?_
            have w1 := weight_bound (F := fun c => decide (c.2.getD i.toNat 0 ≤ (sortE (l.map fun c => c.2.getD i.toNat 0))[j])) hw0
            have m1 := mulB (a := weightE (fun c => decide (c.2.getD i.toNat 0 ≤ (sortE (l.map fun c => c.2.getD i.toNat 0))[j])) l) (b := s.2) (A := 16000) (B := 999999999) (by omega) (by omega)
            have m2 := mulB (a := s.1) (b := weightE (fun _ => true) l) (A := 999999999) (B := 16000) (by omega) (by omega)
            refine XO.c (.move rfl) rfl rfl ?_
            refine XO.c (.fieldAddr rfl ((b122).fa (f := 1) (k := 1) (by kernel_rfl))) rfl rfl ?_
            refine XO.r (.load rfl ((((b122).base.snd' (m := 1) rfl (b122).isP)).ldInt vt3)) rfl rfl ?_
            refine XO.c (.mul rfl rfl (by omega)) rfl rfl ?_
            refine XO.c (.fieldAddr rfl ((b122).fa (f := 0) (k := 0) (by kernel_rfl))) rfl rfl ?_
            refine XO.r (.load rfl (((b122).base.fst').ldInt vt3)) rfl rfl ?_
            refine XO.c (.move rfl) rfl rfl ?_
            refine XO.c (.mul rfl rfl (by omega)) rfl rfl ?_
            refine XO.c (.geq rfl rfl) rfl rfl ?_
            refine XO.nil (thenC.go ?_)
            refine XC.condD rfl (fun c14 => ?_) (fun c14 => ?_)
            · refine XC.seq ?_
              refine XC.text ?_
              refine XO.r (.load rfl ((b192).ldInt vt3)) rfl rfl ?_
              refine XO.c (.assign rfl) rfl rfl ?_
              refine XO.c (.assign rfl) rfl rfl ?_
              refine XO.nil (thenC.go ?_)
              refine XC.ret fun tf htf => ?_
              refine inBlock_ret ?_
              refine thenC_ret ?_
              refine loopQ_ret ?_
              refine inBlock_ret ?_
              refine thenC_ret ?_
              refine endF.two rfl rfl (htf 6 _ rfl) (htf 7 _ rfl) ?_
              refine ⟨?_, hA.leftAf rfl⟩
              refine congrArg Value.tuple ?_
              refine tup2 (congrArg (Value.int .i64) (by rw [if_pos hB]; exact quant_found (by rw [sort_len, colE_len]; omega) (decide_eq_true c14) hf)) (congrArg (Value.int .i64) (by exact hB.symm))
            · refine XC.skip ?_
              intro tf htf
              refine inBlock_nrm ?_
              refine thenC.go ?_ tf htf
              refine XC.text ?_
              refine XO.c (.add rfl rfl (by omega)) rfl rfl ?_
              refine XO.c (.move rfl) rfl rfl ?_
              refine XO.nil ?_
              intro tf htf
              refine ⟨rfl, rfl, _, [(0, v0), (4, p120), (5, p122), (11, .int .i64 (weightE (fun _ => true) l)), (57, r184), (58, .int .i64 (((sortE (l.map (fun c => c.2.getD i.toNat 0))).length : Nat) : Int)), (59, .int .i64 (((j + 1) : Nat) : Int))], ?_, htf.keep _ ⟨rfl, rfl, rfl, rfl, rfl, rfl, rfl, trivial⟩, (j + 1), rfl, rfl, hA, aL189, nL189, (by omega), (by exact all_take (by rw [sort_len, colE_len]; omega) hf (decide_eq_false c14))⟩
              omega
          · refine XC.exit ?_
            intro tf htf
            refine thenC_exit ?_
            refine loopQ_exit ?_
            refine inBlock_eq ?_
            refine thenC.go ?_ tf htf
            refine XC.seq ?_
            refine XC.text ?_
            refine XO.c (.assign rfl) rfl rfl ?_
            refine XO.c (.assign rfl) rfl rfl ?_
            refine XO.nil (thenC.go ?_)
            refine XC.ret fun tf htf => ?_
            refine endF.two rfl rfl (htf 6 _ rfl) (htf 7 _ rfl) ?_
            refine ⟨?_, hA.leftAf rfl⟩
            refine congrArg Value.tuple ?_
            refine tup2 (congrArg (Value.int .i64) (by exact (quant_some hE (by omega) (by rw [sort_len, colE_len]; omega) hf).elim)) (congrArg (Value.int .i64) (by exact (quant_some hE (by omega) (by rw [sort_len, colE_len]; omega) hf).elim))
end Go.Proofs
namespace Go.Proofs
open Go.Fs
set_option linter.unusedVariables false

def bestE (P : Int → Bool) (L : List Int) : Int := (L.filter P).min?.getD 0
theorem best_no {P : Int → Bool} {L : List Int} {x : Int} (h : P x = false) : bestE P (L ++ [x]) = bestE P L ∧ (L ++ [x]).any P = L.any P := by
  unfold bestE
  rw [List.filter_append, List.any_append]
  simp [h]
theorem best_yes {P : Int → Bool} {L : List Int} {x : Int} (h : P x = true) : bestE P (L ++ [x]) = (if L.any P = false ∨ x < bestE P L then x else bestE P L) ∧ (L ++ [x]).any P = true := by
  refine ⟨?_, by rw [List.any_append]; simp [h]⟩
  have ha : L.any P = false ↔ L.filter P = [] := by simp [List.filter_eq_nil_iff]
  unfold bestE
  rw [List.filter_append, show [x].filter P = [x] by simp [h]]
  cases hF : L.filter P with
  | nil => rw [if_pos (.inl (ha.2 hF))]; simp
  | cons y ys =>
    have h1 : L.any P ≠ false := fun e => by rw [ha.1 e] at hF; cases hF
    rw [List.cons_append, List.min?_cons', List.min?_cons', List.foldl_append]
    simp only [Option.getD_some, List.foldl_cons, List.foldl_nil]
    by_cases h2 : x < ys.foldl min y
    · rw [if_pos (.inr h2)]; omega
    · rw [if_neg (by rintro (h3 | h3); exact h1 h3; exact h2 h3)]; omega
theorem take_col {l : List (Int × List Int)} {n i : Nat} (hi : i < l.length) : (colE l n).take (i + 1) = (colE l n).take i ++ [l[i].2.getD n 0] := by
  rw [List.take_succ_eq_append_getElem (by rw [colE_len]; exact hi)]
  congr 1
  simp [colE]
theorem rQuantile_ok {h : Heap} {S : List Nat} {v0 : Value} {l : List (Int × (List Int))} {q : Int} {s : Int × Int} (hok : HOk h) (hS : ∀ b ∈ S, b < h.next) (ha0 : SlV h S (.pair (.int .i64) (.sl (.int .i64))) v0 l) (hQ : OkQ l q s) : EvF Tryz.prog OA 45 [v0, .int .i64 q, .agg #[.int .i64 s.1, .int .i64 s.2]] h fun r h' => r = .int .i64 (quantE l q.toNat s) ∧ h' = h := by
  refine XF.enter Tryz.func45 rfl rfl rfl ?_
  have hok : HOk (entry h) := hok
  have hA := After.refl (entry h)
  replace ha0 := ha0.entry
  show XC Tryz.prog OA none _ _ [] [(0, v0), (1, .int .i64 q), (2, .agg #[.int .i64 s.1, .int .i64 s.2])] (entry h) _
  refine XC.seq ?_
  refine XC.text ?_
  have hE := hQ.ens
  have hp := hE.pos
  have ht := hE.top
  have hw0 := okE_w hE
  have hix := hQ.ix
  have hsh := hQ.sh
  have w2 := weight_bound (F := fun _ => true) hw0
  have w3 := total_pos hE
  refine XO.boxR rfl (RepV.mk2 (a := (.int .i64)) (b := (.int .i64)) (x := s) (RepV.ofInt .i64 _) (RepV.ofInt .i64 _) rfl rfl) (hA.ok hok) (hA.inS hS) rfl rfl ?_
  intro p101 h101 b101 a101
  have ok102 := hA.ok hok
  have gg102 : Goes (entry h) S h101 S := a101.nx ok102
  replace hA := hA.trans a101
  replace ha0 := ha0.nx gg102
  refine XO.c (.assign rfl) rfl rfl ?_
  refine XO.nil (thenC.go ?_)
  refine XC.seq ?_
  refine XC.text ?_
  refine XO.c (.assign rfl) rfl rfl ?_
  refine XO.c (.assign rfl) rfl rfl ?_
  refine XO.nil (thenC.go ?_)
  refine XC.seq ?_
  refine XC.seq ?_
  refine XC.text ?_
  refine XO.c (.assign rfl) rfl rfl ?_
  refine XO.nil (thenC.go ?_)
  refine XC.block ?_
  have hAL103 := hA
  have hkL103 := hA.ok hok
  have hSL103 := (hA.inS hS)
  refine XC.keep [(0, v0), (1, .int .i64 q), (5, p101), (7, .int .i64 (bestE (quantP l q.toNat s) ((colE l q.toNat).take 0))), (8, .bool (((colE l q.toNat).take 0).any (quantP l q.toNat s))), (9, .int .i64 ((0 : Nat) : Int))] ⟨rfl, rfl, rfl, (congrArg (fun z => some z) (by rfl)), (congrArg (fun z => some z) (by rfl)), rfl, trivial⟩ ?_
  refine XC.loopI (I := fun (kk : Nat) (ff : FL) (hh : Heap) => ∃ (i : Nat), kk = l.length - i ∧ ff = [(0, v0), (1, .int .i64 q), (5, p101), (7, .int .i64 (bestE (quantP l q.toNat s) ((colE l q.toNat).take i))), (8, .bool (((colE l q.toNat).take i).any (quantP l q.toNat s))), (9, .int .i64 ((i : Nat) : Int))] ∧ After (entry h) hh ∧ After h101 hh ∧ Goes h101 S hh S ∧ (i ≤ l.length)) ?_ _ _ _ ⟨0, rfl, rfl, hA, After.refl _, Goes.refl, (by omega)⟩
  clear hA
  rintro kk ff hh103 ⟨i, hk103, rfl, hA, aL103, nL103, hi⟩
  replace ha0 := ha0.nx nL103
  replace b101 := b101.nx nL103
  refine XC.seq ?_
  refine XC.seq ?_
  refine XC.text ?_
  refine XO.c (.move rfl) rfl rfl ?_
  refine XO.c (.move rfl) rfl rfl ?_
  refine XO.a (.len rfl (ha0.len el54)) rfl rfl ?_
  refine XO.c (.lss rfl rfl) rfl rfl ?_
  refine XO.nil (thenC.go ?_)
  refine XC.condD rfl (fun c3 => ?_) (fun c3 => ?_)
  · refine XC.skip (thenC.go ?_)
    refine XC.seq ?_
    refine XC.block ?_
    refine XC.seq ?_
    refine XC.text ?_
    have hC := hE.all _ (List.getElem_mem (show i < l.length by omega))
    have hC1 := hC.len
    refine XO.c (.move rfl) rfl rfl ?_
    refine XO.c (.move rfl) rfl rfl ?_
    refine XO.c (.indexAddr rfl rfl rfl (ha0.ix (j := i) el54 (by omega))) rfl rfl ?_
    refine XO.c (.fieldAddr rfl (((ha0.at (j := i) (by omega))).fa (f := 1) (k := 1) (by kernel_rfl))) rfl rfl ?_
    obtain ⟨u104, e104, s104⟩ := ((((ha0.at (j := i) (by omega))).base.snd' (m := 1) rfl ((ha0.at (j := i) (by omega))).isP)).ldSl vt22
    refine XO.r (.load rfl (e104)) rfl rfl ?_
    refine XO.c (.move rfl) rfl rfl ?_
    refine XO.c (.indexAddr rfl rfl rfl (s104.ixZ (n := q) el22 (by omega) (by omega))) rfl rfl ?_
    refine XO.r (.load rfl (((s104.at (j := Int.toNat q) (by omega))).ldInt vt3)) rfl rfl ?_
    refine XO.c (.assign rfl) rfl rfl ?_
    refine XO.c (.assign rfl) rfl rfl ?_
    refine XO.nil (thenC.go ?_)
    refine XC.seq ?_
    refine XC.seq ?_
    refine XC.text ?_
    refine XO.c (.assign rfl) rfl rfl ?_
    refine XO.nil (thenC.go ?_)
    refine XC.block ?_
    have hAL105 := hA
    have hkL105 := hA.ok hok
    have hSL105 := (hA.inS hS)
    have aL103o105 := aL103
    refine XC.keep [(0, v0), (1, .int .i64 q), (5, p101), (7, .int .i64 (bestE (quantP l q.toNat s) ((colE l q.toNat).take i))), (8, .bool (((colE l q.toNat).take i).any (quantP l q.toNat s))), (9, .int .i64 ((i : Nat) : Int)), (10, .int .i64 (((l[i]).2)[Int.toNat q])), (11, .int .i64 (weightE (fun c => decide (c.2.getD q.toNat 0 ≤ l[i].2.getD q.toNat 0)) (l.take 0))), (12, .int .i64 ((0 : Nat) : Int))] ⟨rfl, rfl, rfl, rfl, rfl, rfl, rfl, (congrArg (fun z => some z) (by rfl)), rfl, trivial⟩ ?_
    refine XC.loopI (I := fun (kk : Nat) (ff : FL) (hh : Heap) => ∃ (k : Nat), kk = l.length - k ∧ ff = [(0, v0), (1, .int .i64 q), (5, p101), (7, .int .i64 (bestE (quantP l q.toNat s) ((colE l q.toNat).take i))), (8, .bool (((colE l q.toNat).take i).any (quantP l q.toNat s))), (9, .int .i64 ((i : Nat) : Int)), (10, .int .i64 (((l[i]).2)[Int.toNat q])), (11, .int .i64 (weightE (fun c => decide (c.2.getD q.toNat 0 ≤ l[i].2.getD q.toNat 0)) (l.take k))), (12, .int .i64 ((k : Nat) : Int))] ∧ After (entry h) hh ∧ After hh103 hh ∧ Goes hh103 S hh S ∧ (k ≤ l.length)) ?_ _ _ _ ⟨0, rfl, rfl, hA, After.refl _, Goes.refl, (by omega)⟩
    clear hA
    rintro kk ff hh105 ⟨k, hk105, rfl, hA, aL105, nL105, hk⟩
    replace aL103 := aL103.trans aL105
    replace nL103 := nL103.trans nL105
    replace ha0 := ha0.nx nL105
    replace b101 := b101.nx nL105
    replace s104 := s104.nx nL105
    refine XC.seq ?_
    refine XC.seq ?_
    refine XC.text ?_
    refine XO.c (.move rfl) rfl rfl ?_
    refine XO.c (.move rfl) rfl rfl ?_
    refine XO.a (.len rfl (ha0.len el54)) rfl rfl ?_
    refine XO.c (.lss rfl rfl) rfl rfl ?_
    refine XO.nil (thenC.go ?_)
    refine XC.condD rfl (fun c7 => ?_) (fun c7 => ?_)
    · refine XC.skip (thenC.go ?_)
      refine XC.seq ?_
      refine XC.block ?_
      refine XC.seq ?_
      refine XC.text ?_
      have hCk := hE.all _ (List.getElem_mem (show k < l.length by omega))
      have hCk1 := hCk.len
      have hCk2 := hCk.w
      have hwk := weight_bound' (F := fun c => decide (c.2.getD q.toNat 0 ≤ l[i].2.getD q.toNat 0)) hw0 k
      refine XO.c (.move rfl) rfl rfl ?_
      refine XO.c (.move rfl) rfl rfl ?_
      refine XO.c (.indexAddr rfl rfl rfl (ha0.ix (j := k) el54 (by omega))) rfl rfl ?_
      refine XO.c (.fieldAddr rfl (((ha0.at (j := k) (by omega))).fa (f := 1) (k := 1) (by kernel_rfl))) rfl rfl ?_
      obtain ⟨u106, e106, s106⟩ := ((((ha0.at (j := k) (by omega))).base.snd' (m := 1) rfl ((ha0.at (j := k) (by omega))).isP)).ldSl vt22
      refine XO.r (.load rfl (e106)) rfl rfl ?_
      refine XO.c (.move rfl) rfl rfl ?_
      refine XO.c (.indexAddr rfl rfl rfl (s106.ixZ (n := q) el22 (by omega) (by omega))) rfl rfl ?_
      refine XO.r (.load rfl (((s106.at (j := Int.toNat q) (by omega))).ldInt vt3)) rfl rfl ?_
      refine XO.c (.move rfl) rfl rfl ?_
      refine XO.c (.leq rfl rfl) rfl rfl ?_
      refine XO.nil (thenC.go ?_)
      refine XC.condD rfl (fun c9 => ?_) (fun c9 => ?_)
      · refine XC.text ?_
        refine XO.c (.move rfl) rfl rfl ?_
        refine XO.c (.move rfl) rfl rfl ?_
        refine XO.c (.move rfl) rfl rfl ?_
        refine XO.c (.indexAddr rfl rfl rfl (ha0.ix (j := k) el54 (by omega))) rfl rfl ?_
        refine XO.c (.fieldAddr rfl (((ha0.at (j := k) (by omega))).fa (f := 0) (k := 0) (by kernel_rfl))) rfl rfl ?_
        refine XO.r (.load rfl ((((ha0.at (j := k) (by omega))).base.fst').ldInt vt3)) rfl rfl ?_
        refine XO.c (.add rfl rfl (by omega)) rfl rfl ?_
        refine XO.c (.assign rfl) rfl rfl ?_
        refine XO.nil ?_
        intro tf htf
        refine inBlock_nrm ?_
        refine thenC.go ?_ tf htf
        refine XC.text ?_
        refine XO.c (.move rfl) rfl rfl ?_
        refine XO.c (.add rfl rfl (by omega)) rfl rfl ?_
        refine XO.c (.assign rfl) rfl rfl ?_
        refine XO.nil ?_
        intro tf htf
        refine ⟨rfl, rfl, _, [(0, v0), (1, .int .i64 q), (5, p101), (7, .int .i64 (bestE (quantP l q.toNat s) ((colE l q.toNat).take i))), (8, .bool (((colE l q.toNat).take i).any (quantP l q.toNat s))), (9, .int .i64 ((i : Nat) : Int)), (10, .int .i64 (((l[i]).2)[Int.toNat q])), (11, .int .i64 (weightE (fun c => decide (c.2.getD q.toNat 0 ≤ l[i].2.getD q.toNat 0)) (l.take (k + 1)))), (12, .int .i64 (((k + 1) : Nat) : Int))], ?_, htf.keep _ ⟨rfl, rfl, rfl, rfl, rfl, rfl, rfl, (congrArg (fun z => some z) (by rw [weight_succ (by omega)]; first | (rw [if_pos (decide_eq_true (by rw [getD_get (by omega), getD_get (by omega)]; exact c9))]) | (rw [if_neg (by rw [decide_eq_false (by rw [getD_get (by omega), getD_get (by omega)]; exact c9)]; decide)]; simp))), rfl, trivial⟩, (k + 1), rfl, rfl, hA, aL105, nL105, (by omega)⟩
        omega
      · refine XC.skip ?_
        intro tf htf
        refine inBlock_nrm ?_
        refine thenC.go ?_ tf htf
        refine XC.text ?_
        refine XO.c (.move rfl) rfl rfl ?_
        refine XO.c (.add rfl rfl (by omega)) rfl rfl ?_
        refine XO.c (.assign rfl) rfl rfl ?_
        refine XO.nil ?_
        intro tf htf
        refine ⟨rfl, rfl, _, [(0, v0), (1, .int .i64 q), (5, p101), (7, .int .i64 (bestE (quantP l q.toNat s) ((colE l q.toNat).take i))), (8, .bool (((colE l q.toNat).take i).any (quantP l q.toNat s))), (9, .int .i64 ((i : Nat) : Int)), (10, .int .i64 (((l[i]).2)[Int.toNat q])), (11, .int .i64 (weightE (fun c => decide (c.2.getD q.toNat 0 ≤ l[i].2.getD q.toNat 0)) (l.take (k + 1)))), (12, .int .i64 (((k + 1) : Nat) : Int))], ?_, htf.keep _ ⟨rfl, rfl, rfl, rfl, rfl, rfl, rfl, (congrArg (fun z => some z) (by rw [weight_succ (by omega)]; first | (rw [if_pos (decide_eq_true (by rw [getD_get (by omega), getD_get (by omega)]; exact c9))]) | (rw [if_neg (by rw [decide_eq_false (by rw [getD_get (by omega), getD_get (by omega)]; exact c9)]; decide)]; simp))), rfl, trivial⟩, (k + 1), rfl, rfl, hA, aL105, nL105, (by omega)⟩
        omega
    · refine XC.exit ?_
      intro tf htf
      refine thenC_exit ?_
      refine loopQ_exit ?_
      refine inBlock_eq ?_
      refine thenC.go ?_ tf htf
      refine XC.seq ?_
      refine XC.drawn ?_
      have hkr107 := hA.ok hok
      have hSr107 := (hA.inS hS)
      have ek : l.take k = l := List.take_of_length_le (by omega)
      have w1 := weight_bound' (F := fun c => decide (c.2.getD q.toNat 0 ≤ l[i].2.getD q.toNat 0)) hw0 k
      have m1 := mulB (a := weightE (fun c => decide (c.2.getD q.toNat 0 ≤ l[i].2.getD q.toNat 0)) (l.take k)) (b := s.2) (A := 16000) (B := 999999999) (by omega) (by omega)
      have hPiff : (s.1 * weightE (fun _ => true) l ≤ weightE (fun c => decide (c.2.getD q.toNat 0 ≤ l[i].2.getD q.toNat 0)) (l.take k) * s.2) ↔ quantP l q.toNat s (l[i].2.getD q.toNat 0) = true := by rw [ek]; exact decide_eq_true_iff.symm
      have hxe : l[i].2.getD q.toNat 0 = l[i].2[q.toNat] := getD_get (by omega)
      have hPno : ¬ (s.1 * weightE (fun _ => true) l ≤ weightE (fun c => decide (c.2.getD q.toNat 0 ≤ l[i].2.getD q.toNat 0)) (l.take k) * s.2) → quantP l q.toNat s (l[i].2.getD q.toNat 0) = false := fun h9 => by
        cases h8 : quantP l q.toNat s (l[i].2.getD q.toNat 0) with
        | false => rfl
        | true => exact absurd (hPiff.2 h8) h9
      have hNo : (!((colE l q.toNat).take i).any (quantP l q.toNat s)) = true → ((colE l q.toNat).take i).any (quantP l q.toNat s) = false := fun h9 => by simpa using h9
      have hYes : (!((colE l q.toNat).take i).any (quantP l q.toNat s)) = false → ((colE l q.toNat).take i).any (quantP l q.toNat s) = true := fun h9 => by simpa using h9
      have hLt : l[i].2[q.toNat] < bestE (quantP l q.toNat s) ((colE l q.toNat).take i) → l[i].2.getD q.toNat 0 < bestE (quantP l q.toNat s) ((colE l q.toNat).take i) := fun h9 => by rw [hxe]; exact h9
      have hNot : ((colE l q.toNat).take i).any (quantP l q.toNat s) = true → ¬ l[i].2[q.toNat] < bestE (quantP l q.toNat s) ((colE l q.toNat).take i) → ¬ (((colE l q.toNat).take i).any (quantP l q.toNat s) = false ∨ l[i].2.getD q.toNat 0 < bestE (quantP l q.toNat s) ((colE l q.toNat).take i)) := fun h8 h9 h7 => by
        rw [hxe, h8] at h7
        rcases h7 with h7 | h7
        · cases h7
        · exact h9 h7
      have m2 := mulB (a := s.1) (b := weightE (fun _ => true) l) (A := 999999999) (B := 16000) (by omega) (by omega)
      refine XD.c (b := 0) (.move rfl) rfl rfl rfl ?_
      refine XD.c (b := 0) (.fieldAddr rfl ((b101).fa (f := 1) (k := 1) (by kernel_rfl))) rfl rfl rfl ?_
      refine XD.ld (b := 2) (After.refl _) SegsOk.nil hkr107 rfl ((((b101).base.snd' (m := 1) rfl (b101).isP)).ldInt vt3) rfl rfl rfl rfl ?_
      refine XD.c (b := 7) (.mul rfl rfl (by omega)) rfl rfl rfl ?_
      refine XD.c (b := 0) (.fieldAddr rfl ((b101).fa (f := 0) (k := 0) (by kernel_rfl))) rfl rfl rfl ?_
      refine XD.ld (b := 16) (After.refl _) (SegsOk.cons ((After.refl _)).next SegsOk.nil) hkr107 rfl (((b101).base.fst').ldInt vt3) rfl rfl rfl rfl ?_
      refine XD.c (b := 0) (.move rfl) rfl rfl rfl ?_
      refine XD.callV (bb := 64) (After.refl _) (SegsOk.cons ((After.refl _)).next (SegsOk.cons ((After.refl _)).next SegsOk.nil)) rfl rfl rfl rfl rfl rfl ?_
      intro M108 aM108 oM108
      refine EvF.mono (rTotal_ok (aM108.ok hkr107) (aM108.inS hSr107) (ha0.nx (aM108.nx hkr107)) (by omega) hw0) ?_
      rintro _ _ ⟨rfl, hh⟩
      refine ⟨hh, ?_⟩
      clear hh
      refine XD.c (b := 240) (.mul rfl rfl (by omega)) rfl rfl rfl ?_
      refine XD.c (b := 511) (.geq rfl rfl) rfl rfl rfl ?_
      refine XD.c (b := 1023) (.move rfl) rfl rfl rfl ?_
      refine XD.splitD (x := 60) rfl (fun g11_10 => ?_) (fun g11_10 => ?_)
      · refine XD.gc (b := 2047) rfl rfl rfl (.move rfl) rfl rfl rfl ?_
        refine XD.gc (b := 4095) rfl rfl rfl (.not rfl) rfl rfl rfl ?_
        refine XD.gc (b := 8191) rfl rfl rfl (.move rfl) rfl rfl rfl ?_
        refine XD.splitB (x := 63) rfl (fun g11_13 => ?_) (fun g11_13 => ?_)
        · refine XD.skip (b := 16383) rfl rfl rfl rfl rfl rfl ?_
          refine XD.skip (b := 16383) rfl rfl rfl rfl rfl rfl ?_
          refine XD.skip (b := 65535) rfl rfl rfl rfl rfl rfl ?_
          refine XD.gc (b := 131071) rfl rfl rfl (.pickT rfl rfl) rfl rfl rfl ?_
          refine XD.c (b := 262143) (.pickT rfl rfl) rfl rfl rfl ?_
          refine XD.nil (thenC.go ?_)
          refine XC.condT rfl ?_
          refine XC.text ?_
          refine XO.c (.move rfl) rfl rfl ?_
          refine XO.c (.assign rfl) rfl rfl ?_
          refine XO.c (.assign rfl) rfl rfl ?_
          refine XO.nil ?_
          intro tf htf
          refine inBlock_nrm ?_
          refine thenC.go ?_ tf htf
          refine XC.text ?_
          refine XO.c (.move rfl) rfl rfl ?_
          refine XO.c (.add rfl rfl (by omega)) rfl rfl ?_
          refine XO.c (.assign rfl) rfl rfl ?_
          refine XO.nil ?_
          intro tf htf
          refine ⟨rfl, rfl, _, [(0, v0), (1, .int .i64 q), (5, p101), (7, .int .i64 (bestE (quantP l q.toNat s) ((colE l q.toNat).take (i + 1)))), (8, .bool (((colE l q.toNat).take (i + 1)).any (quantP l q.toNat s))), (9, .int .i64 (((i + 1) : Nat) : Int))], ?_, htf.keep _ ⟨rfl, rfl, rfl, (congrArg (fun z => some z) (by rw [take_col (by omega)]; first | (rw [(best_no (hPno g11_10)).1]; done) | (rw [(best_yes (hPiff.1 g11_10)).1, if_pos (.inl (hNo g11_13)), hxe]; done) | (rw [(best_yes (hPiff.1 g11_10)).1, if_pos (.inr (hLt c11)), hxe]; done) | (rw [(best_yes (hPiff.1 g11_10)).1, if_neg (hNot (hYes g11_13) c11)]; done))), (congrArg (fun z => some z) (by rw [take_col (by omega)]; first | (rw [(best_no (hPno g11_10)).2]; done) | (rw [(best_yes (hPiff.1 g11_10)).2]; done) | (rw [(best_yes (hPiff.1 g11_10)).2, hYes g11_13]; done))), rfl, trivial⟩, (i + 1), rfl, rfl, hA, aL103, nL103, (by omega)⟩
          omega
        · refine XD.gc (b := 16383) rfl rfl rfl (.move rfl) rfl rfl rfl ?_
          refine XD.gc (b := 16383) rfl rfl rfl (.move rfl) rfl rfl rfl ?_
          refine XD.gc (b := 65535) rfl rfl rfl (.lss rfl rfl) rfl rfl rfl ?_
          refine XD.gc (b := 131071) rfl rfl rfl (.pickF rfl rfl) rfl rfl rfl ?_
          refine XD.c (b := 262143) (.pickT rfl rfl) rfl rfl rfl ?_
          refine XD.nil (thenC.go ?_)
          refine XC.condD rfl (fun c11 => ?_) (fun c11 => ?_)
          · refine XC.text ?_
            refine XO.c (.move rfl) rfl rfl ?_
            refine XO.c (.assign rfl) rfl rfl ?_
            refine XO.c (.assign rfl) rfl rfl ?_
            refine XO.nil ?_
            intro tf htf
            refine inBlock_nrm ?_
            refine thenC.go ?_ tf htf
            refine XC.text ?_
            refine XO.c (.move rfl) rfl rfl ?_
            refine XO.c (.add rfl rfl (by omega)) rfl rfl ?_
            refine XO.c (.assign rfl) rfl rfl ?_
            refine XO.nil ?_
            intro tf htf
            refine ⟨rfl, rfl, _, [(0, v0), (1, .int .i64 q), (5, p101), (7, .int .i64 (bestE (quantP l q.toNat s) ((colE l q.toNat).take (i + 1)))), (8, .bool (((colE l q.toNat).take (i + 1)).any (quantP l q.toNat s))), (9, .int .i64 (((i + 1) : Nat) : Int))], ?_, htf.keep _ ⟨rfl, rfl, rfl, (congrArg (fun z => some z) (by rw [take_col (by omega)]; first | (rw [(best_no (hPno g11_10)).1]; done) | (rw [(best_yes (hPiff.1 g11_10)).1, if_pos (.inl (hNo g11_13)), hxe]; done) | (rw [(best_yes (hPiff.1 g11_10)).1, if_pos (.inr (hLt c11)), hxe]; done) | (rw [(best_yes (hPiff.1 g11_10)).1, if_neg (hNot (hYes g11_13) c11)]; done))), (congrArg (fun z => some z) (by rw [take_col (by omega)]; first | (rw [(best_no (hPno g11_10)).2]; done) | (rw [(best_yes (hPiff.1 g11_10)).2]; done) | (rw [(best_yes (hPiff.1 g11_10)).2, hYes g11_13]; done))), rfl, trivial⟩, (i + 1), rfl, rfl, hA, aL103, nL103, (by omega)⟩
            omega
          · refine XC.skip ?_
            intro tf htf
            refine inBlock_nrm ?_
            refine thenC.go ?_ tf htf
            refine XC.text ?_
            refine XO.c (.move rfl) rfl rfl ?_
            refine XO.c (.add rfl rfl (by omega)) rfl rfl ?_
            refine XO.c (.assign rfl) rfl rfl ?_
            refine XO.nil ?_
            intro tf htf
            refine ⟨rfl, rfl, _, [(0, v0), (1, .int .i64 q), (5, p101), (7, .int .i64 (bestE (quantP l q.toNat s) ((colE l q.toNat).take (i + 1)))), (8, .bool (((colE l q.toNat).take (i + 1)).any (quantP l q.toNat s))), (9, .int .i64 (((i + 1) : Nat) : Int))], ?_, htf.keep _ ⟨rfl, rfl, rfl, (congrArg (fun z => some z) (by rw [take_col (by omega)]; first | (rw [(best_no (hPno g11_10)).1]; done) | (rw [(best_yes (hPiff.1 g11_10)).1, if_pos (.inl (hNo g11_13)), hxe]; done) | (rw [(best_yes (hPiff.1 g11_10)).1, if_pos (.inr (hLt c11)), hxe]; done) | (rw [(best_yes (hPiff.1 g11_10)).1, if_neg (hNot (hYes g11_13) c11)]; done))), (congrArg (fun z => some z) (by rw [take_col (by omega)]; first | (rw [(best_no (hPno g11_10)).2]; done) | (rw [(best_yes (hPiff.1 g11_10)).2]; done) | (rw [(best_yes (hPiff.1 g11_10)).2, hYes g11_13]; done))), rfl, trivial⟩, (i + 1), rfl, rfl, hA, aL103, nL103, (by omega)⟩
            omega
      · refine XD.skip (b := 2047) rfl rfl rfl rfl rfl rfl ?_
        refine XD.skip (b := 4095) rfl rfl rfl rfl rfl rfl ?_
        refine XD.skip (b := 8191) rfl rfl rfl rfl rfl rfl ?_
        refine XD.skipU (b := 16383) rfl rfl rfl rfl rfl ?_
        refine XD.skipU (b := 16383) rfl rfl rfl rfl rfl ?_
        refine XD.skipU (b := 65535) rfl rfl rfl rfl rfl ?_
        refine XD.skip (b := 131071) rfl rfl rfl rfl rfl rfl ?_
        refine XD.c (b := 262143) (.pickF rfl rfl) rfl rfl rfl ?_
        refine XD.nil (thenC.go ?_)
        refine XC.condF rfl ?_
        refine XC.skip ?_
        intro tf htf
        refine inBlock_nrm ?_
        refine thenC.go ?_ tf htf
        refine XC.text ?_
        refine XO.c (.move rfl) rfl rfl ?_
        refine XO.c (.add rfl rfl (by omega)) rfl rfl ?_
        refine XO.c (.assign rfl) rfl rfl ?_
        refine XO.nil ?_
        intro tf htf
        refine ⟨rfl, rfl, _, [(0, v0), (1, .int .i64 q), (5, p101), (7, .int .i64 (bestE (quantP l q.toNat s) ((colE l q.toNat).take (i + 1)))), (8, .bool (((colE l q.toNat).take (i + 1)).any (quantP l q.toNat s))), (9, .int .i64 (((i + 1) : Nat) : Int))], ?_, htf.keep _ ⟨rfl, rfl, rfl, (congrArg (fun z => some z) (by rw [take_col (by omega)]; first | (rw [(best_no (hPno g11_10)).1]; done) | (rw [(best_yes (hPiff.1 g11_10)).1, if_pos (.inl (hNo g11_13)), hxe]; done) | (rw [(best_yes (hPiff.1 g11_10)).1, if_pos (.inr (hLt c11)), hxe]; done) | (rw [(best_yes (hPiff.1 g11_10)).1, if_neg (hNot (hYes g11_13) c11)]; done))), (congrArg (fun z => some z) (by rw [take_col (by omega)]; first | (rw [(best_no (hPno g11_10)).2]; done) | (rw [(best_yes (hPiff.1 g11_10)).2]; done) | (rw [(best_yes (hPiff.1 g11_10)).2, hYes g11_13]; done))), rfl, trivial⟩, (i + 1), rfl, rfl, hA, aL103, nL103, (by omega)⟩
        omega
  · refine XC.exit ?_
    intro tf htf
    refine thenC_exit ?_
    refine loopQ_exit ?_
    refine inBlock_eq ?_
    refine thenC.go ?_ tf htf
    refine XC.seq ?_
    refine XC.text ?_
    refine XO.c (.move rfl) rfl rfl ?_
    refine XO.c (.assign rfl) rfl rfl ?_
    refine XO.nil (thenC.go ?_)
    refine XC.ret fun tf htf => ?_
    refine endF.one rfl rfl (htf 6 _ rfl) ?_
    exact ⟨congrArg (Value.int .i64) (by rw [List.take_of_length_le (by rw [colE_len]; omega)]; rfl), hA.leftAf rfl⟩
theorem lWhen_ok {h : Heap} {S : List Nat} {c : Bool} {e : Int} (hok : HOk h) (hS : ∀ b ∈ S, b < h.next) : EvF Tryz.prog OA 42 [.bool c, .int .i64 e] h fun r h' => r = .int .i64 (whenE c e) ∧ h' = h := by
  refine XF.enter Tryz.func42 rfl rfl rfl ?_
  have hok : HOk (entry h) := hok
  have hA := After.refl (entry h)
  show XC Tryz.prog OA none _ _ [] [(0, .bool c), (1, .int .i64 e)] (entry h) _
  refine XC.seq ?_
  refine XC.text ?_
  refine XO.c (.assign rfl) rfl rfl ?_
  refine XO.nil (thenC.go ?_)
  refine XC.seq ?_
  refine XC.seq ?_
  refine XC.text ?_
  refine XO.c (.move rfl) rfl rfl ?_
  refine XO.nil (thenC.go ?_)
  refine XC.condB rfl (fun c1 => ?_) (fun c1 => ?_)
  · subst c1
    refine XC.seq ?_
    refine XC.text ?_
    refine XO.c (.move rfl) rfl rfl ?_
    refine XO.c (.assign rfl) rfl rfl ?_
    refine XO.nil (thenC.go ?_)
    refine XC.ret fun tf htf => ?_
    refine thenC_ret ?_
    refine endF.one rfl rfl (htf 4 _ rfl) ?_
    exact ⟨congrArg (Value.int .i64) (by rfl), hA.leftAf rfl⟩
  · subst c1
    refine XC.skip (thenC.go ?_)
    refine XC.seq ?_
    refine XC.text ?_
    refine XO.c (.assign rfl) rfl rfl ?_
    refine XO.nil (thenC.go ?_)
    refine XC.ret fun tf htf => ?_
    refine endF.one rfl rfl (htf 4 _ rfl) ?_
    exact ⟨congrArg (Value.int .i64) (by rfl), hA.leftAf rfl⟩
def numberL (hv e bad want : Int) : Bool := decide (e = bad ∧ hv = if bad = 0 then want else 0)
theorem lNumber_ok {h : Heap} {S : List Nat} {hv : Int} {e : Int} {bad : Int} {want : Int} (hok : HOk h) (hS : ∀ b ∈ S, b < h.next) : EvF Tryz.prog OA 48 [.int .i64 hv, .int .i64 e, .int .i64 bad, .int .i64 want] h fun r h' => r = .bool (numberL hv e bad want) ∧ h' = h := by
  refine XF.enter Tryz.func48 rfl rfl rfl ?_
  have hok : HOk (entry h) := hok
  have hA := After.refl (entry h)
  show XC Tryz.prog OA none _ _ [] [(0, .int .i64 hv), (1, .int .i64 e), (2, .int .i64 bad), (3, .int .i64 want)] (entry h) _
  refine XC.seq ?_
  refine XC.text ?_
  refine XO.c (.assign rfl) rfl rfl ?_
  refine XO.nil (thenC.go ?_)
  refine XC.seq ?_
  refine XC.seq ?_
  refine XC.text ?_
  refine XO.c (.move rfl) rfl rfl ?_
  refine XO.c (.neq rfl rfl) rfl rfl ?_
  refine XO.nil (thenC.go ?_)
  refine XC.condD rfl (fun c1 => ?_) (fun c1 => ?_)
  · refine XC.seq ?_
    refine XC.text ?_
    refine XO.c (.move rfl) rfl rfl ?_
    refine XO.c (.eql rfl rfl) rfl rfl ?_
    refine XO.c (.move rfl) rfl rfl ?_
    refine XO.splitD (x := 13) rfl (fun g2_2 => ?_) (fun g2_2 => ?_)
    · refine XO.gc rfl rfl rfl (.move rfl) rfl rfl ?_
      refine XO.gc rfl rfl rfl (.move rfl) rfl rfl ?_
      refine XO.gc rfl rfl rfl (.eql rfl rfl) rfl rfl ?_
      refine XO.c (.pickT rfl rfl) rfl rfl ?_
      refine XO.c (.assign rfl) rfl rfl ?_
      refine XO.nil (thenC.go ?_)
      refine XC.ret fun tf htf => ?_
      refine thenC_ret ?_
      refine endF.one rfl rfl (htf 8 _ rfl) ?_
      exact ⟨congrArg Value.bool (by simp [numberL, *] <;> (intros; omega)), hA.leftAf rfl⟩
    · refine XO.skip rfl rfl rfl rfl rfl ?_
      refine XO.skip rfl rfl rfl rfl rfl ?_
      refine XO.skip rfl rfl rfl rfl rfl ?_
      refine XO.c (.pickF rfl rfl) rfl rfl ?_
      refine XO.c (.assign rfl) rfl rfl ?_
      refine XO.nil (thenC.go ?_)
      refine XC.ret fun tf htf => ?_
      refine thenC_ret ?_
      refine endF.one rfl rfl (htf 8 _ rfl) ?_
      exact ⟨congrArg Value.bool (by simp [numberL, *] <;> (intros; omega)), hA.leftAf rfl⟩
  · have c1 : bad = 0 := by omega
    refine XC.skip (thenC.go ?_)
    refine XC.seq ?_
    refine XC.text ?_
    refine XO.c (.move rfl) rfl rfl ?_
    refine XO.c (.eql rfl rfl) rfl rfl ?_
    refine XO.c (.move rfl) rfl rfl ?_
    refine XO.splitD (x := 20) rfl (fun g3_2 => ?_) (fun g3_2 => ?_)
    · refine XO.gc rfl rfl rfl (.move rfl) rfl rfl ?_
      refine XO.gc rfl rfl rfl (.move rfl) rfl rfl ?_
      refine XO.gc rfl rfl rfl (.eql rfl rfl) rfl rfl ?_
      refine XO.c (.pickT rfl rfl) rfl rfl ?_
      refine XO.c (.assign rfl) rfl rfl ?_
      refine XO.nil (thenC.go ?_)
      refine XC.ret fun tf htf => ?_
      refine endF.one rfl rfl (htf 8 _ rfl) ?_
      exact ⟨congrArg Value.bool (by simp [numberL, *] <;> (intros; omega)), hA.leftAf rfl⟩
    · refine XO.skip rfl rfl rfl rfl rfl ?_
      refine XO.skip rfl rfl rfl rfl rfl ?_
      refine XO.skip rfl rfl rfl rfl rfl ?_
      refine XO.c (.pickF rfl rfl) rfl rfl ?_
      refine XO.c (.assign rfl) rfl rfl ?_
      refine XO.nil (thenC.go ?_)
      refine XC.ret fun tf htf => ?_
      refine endF.one rfl rfl (htf 8 _ rfl) ?_
      exact ⟨congrArg Value.bool (by simp [numberL, *] <;> (intros; omega)), hA.leftAf rfl⟩
def ratioL (hv : Int × Int) (e bad : Int) (want : Int × Int) : Bool := decide (e = bad ∧ hv = if bad = 0 then want else (0, 0))
theorem lRatio_ok {h : Heap} {S : List Nat} {hv : Int × Int} {e : Int} {bad : Int} {want : Int × Int} (hok : HOk h) (hS : ∀ b ∈ S, b < h.next) : EvF Tryz.prog OA 47 [.agg #[.int .i64 hv.1, .int .i64 hv.2], .int .i64 e, .int .i64 bad, .agg #[.int .i64 want.1, .int .i64 want.2]] h fun r h' => r = .bool (ratioL hv e bad want) ∧ h' = h := by
  refine XF.enter Tryz.func47 rfl rfl rfl ?_
  have hok : HOk (entry h) := hok
  have hA := After.refl (entry h)
  show XC Tryz.prog OA none _ _ [] [(0, .agg #[.int .i64 hv.1, .int .i64 hv.2]), (1, .int .i64 e), (2, .int .i64 bad), (3, .agg #[.int .i64 want.1, .int .i64 want.2])] (entry h) _
  refine XC.seq ?_
  refine XC.text ?_
  refine XO.boxR rfl (RepV.mk2 (a := (.int .i64)) (b := (.int .i64)) (x := hv) (RepV.ofInt .i64 _) (RepV.ofInt .i64 _) rfl rfl) (hA.ok hok) (hA.inS hS) rfl rfl ?_
  intro p109 h109 b109 a109
  have ok110 := hA.ok hok
  have gg110 : Goes (entry h) S h109 S := a109.nx ok110
  replace hA := hA.trans a109
  refine XO.boxR rfl (RepV.mk2 (a := (.int .i64)) (b := (.int .i64)) (x := want) (RepV.ofInt .i64 _) (RepV.ofInt .i64 _) rfl rfl) (hA.ok hok) (hA.inS hS) rfl rfl ?_
  intro p111 h111 b111 a111
  have ok112 := hA.ok hok
  have gg112 : Goes h109 S h111 S := a111.nx ok112
  replace hA := hA.trans a111
  replace b109 := b109.nx gg112
  refine XO.c (.assign rfl) rfl rfl ?_
  refine XO.nil (thenC.go ?_)
  refine XC.seq ?_
  refine XC.seq ?_
  refine XC.text ?_
  refine XO.c (.move rfl) rfl rfl ?_
  refine XO.c (.neq rfl rfl) rfl rfl ?_
  refine XO.nil (thenC.go ?_)
  refine XC.condD rfl (fun c1 => ?_) (fun c1 => ?_)
  · refine XC.seq ?_
    refine XC.text ?_
    obtain ⟨u113, e113, r113⟩ := (b109).ldV vt58
    obtain ⟨c114_0, c114_1, rfl, r114_0, r114_1⟩ := r113.st2 rfl rfl
    obtain rfl := r114_0.int
    obtain rfl := r114_1.int
    refine XO.r (.load rfl (e113)) rfl rfl ?_
    refine XO.c (.build (vs := []) (v := .agg #[.int .i64 0, .int .i64 0]) rfl rfl (by kernel_rfl) (by kernel_rfl)) rfl rfl ?_
    refine XO.c (.eqII (by kernel_rfl) rfl rfl) rfl rfl ?_
    refine XO.c (.move rfl) rfl rfl ?_
    refine XO.splitD (x := 14) rfl (fun g2_3 => ?_) (fun g2_3 => ?_)
    · refine XO.gc rfl rfl rfl (.move rfl) rfl rfl ?_
      refine XO.gc rfl rfl rfl (.move rfl) rfl rfl ?_
      refine XO.gc rfl rfl rfl (.eql rfl rfl) rfl rfl ?_
      refine XO.c (.pickT rfl rfl) rfl rfl ?_
      refine XO.c (.assign rfl) rfl rfl ?_
      refine XO.nil (thenC.go ?_)
      refine XC.ret fun tf htf => ?_
      refine thenC_ret ?_
      refine endF.one rfl rfl (htf 8 _ rfl) ?_
      exact ⟨congrArg Value.bool (by first | (simp [ratioL, Prod.ext_iff, Bool.decide_and, *]; done) | (simp [ratioL, *] <;> (intros; omega)) | (simp [ratioL, Prod.ext_iff, Bool.decide_and, *] <;> (intros; omega)) | (simp [ratioL, *] <;> (intros; simp_all))), hA.leftAf rfl⟩
    · refine XO.skip rfl rfl rfl rfl rfl ?_
      refine XO.skip rfl rfl rfl rfl rfl ?_
      refine XO.skip rfl rfl rfl rfl rfl ?_
      refine XO.c (.pickF rfl rfl) rfl rfl ?_
      refine XO.c (.assign rfl) rfl rfl ?_
      refine XO.nil (thenC.go ?_)
      refine XC.ret fun tf htf => ?_
      refine thenC_ret ?_
      refine endF.one rfl rfl (htf 8 _ rfl) ?_
      exact ⟨congrArg Value.bool (by first | (simp [ratioL, Prod.ext_iff, Bool.decide_and, *]; done) | (simp [ratioL, *] <;> (intros; omega)) | (simp [ratioL, Prod.ext_iff, Bool.decide_and, *] <;> (intros; omega)) | (simp [ratioL, *] <;> (intros; simp_all))), hA.leftAf rfl⟩
  · have c1 : bad = 0 := by omega
    refine XC.skip (thenC.go ?_)
    refine XC.seq ?_
    refine XC.text ?_
    refine XO.c (.move rfl) rfl rfl ?_
    refine XO.c (.eql rfl rfl) rfl rfl ?_
    refine XO.c (.move rfl) rfl rfl ?_
    refine XO.splitD (x := 21) rfl (fun g3_2 => ?_) (fun g3_2 => ?_)
    · obtain ⟨u115, e115, r115⟩ := (b109).ldV vt58
      obtain ⟨c116_0, c116_1, rfl, r116_0, r116_1⟩ := r115.st2 rfl rfl
      obtain rfl := r116_0.int
      obtain rfl := r116_1.int
      refine XO.gr rfl rfl rfl (.load rfl (e115)) rfl rfl ?_
      obtain ⟨u117, e117, r117⟩ := (b111).ldV vt58
      obtain ⟨c118_0, c118_1, rfl, r118_0, r118_1⟩ := r117.st2 rfl rfl
      obtain rfl := r118_0.int
      obtain rfl := r118_1.int
      refine XO.gr rfl rfl rfl (.load rfl (e117)) rfl rfl ?_
      refine XO.gc rfl rfl rfl (.eqII (by kernel_rfl) rfl rfl) rfl rfl ?_
      refine XO.c (.pickT rfl rfl) rfl rfl ?_
      refine XO.c (.assign rfl) rfl rfl ?_
      refine XO.nil (thenC.go ?_)
      refine XC.ret fun tf htf => ?_
      refine endF.one rfl rfl (htf 8 _ rfl) ?_
      exact ⟨congrArg Value.bool (by first | (simp [ratioL, Prod.ext_iff, Bool.decide_and, *]; done) | (simp [ratioL, *] <;> (intros; omega)) | (simp [ratioL, Prod.ext_iff, Bool.decide_and, *] <;> (intros; omega)) | (simp [ratioL, *] <;> (intros; simp_all))), hA.leftAf rfl⟩
    · refine XO.skip rfl rfl rfl rfl rfl ?_
      refine XO.skip rfl rfl rfl rfl rfl ?_
      refine XO.skip rfl rfl rfl rfl rfl ?_
      refine XO.c (.pickF rfl rfl) rfl rfl ?_
      refine XO.c (.assign rfl) rfl rfl ?_
      refine XO.nil (thenC.go ?_)
      refine XC.ret fun tf htf => ?_
      refine endF.one rfl rfl (htf 8 _ rfl) ?_
      exact ⟨congrArg Value.bool (by first | (simp [ratioL, Prod.ext_iff, Bool.decide_and, *]; done) | (simp [ratioL, *] <;> (intros; omega)) | (simp [ratioL, Prod.ext_iff, Bool.decide_and, *] <;> (intros; omega)) | (simp [ratioL, *] <;> (intros; simp_all))), hA.leftAf rfl⟩
end Go.Proofs
