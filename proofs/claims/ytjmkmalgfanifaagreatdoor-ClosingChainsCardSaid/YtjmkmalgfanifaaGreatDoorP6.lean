/- Parts of the proof: an evaluator of the model, what it is sound for, and contracts of functions. No condition. -/
import Derived.Test.YtjmkmalgfanifaaGreatDoorP5
import Derived.Test.YtjmkmalgfanifaaGreatDoorP4
import Derived.Test.YtjmkmalgfanifaaGreatDoorP2
import Derived.Shelf.Strings.Builder1
import Derived.Shelf.Strings.Builder2
import Derived.Shelf.Strings.OnBuilder
import Derived.Shelf.Small.Bits
import Derived.Shelf.Strings.BuilderF
import Derived.Shelf.Strconv.Itoa0
import Derived.Shelf.Strconv.Itoa1
import Derived.Shelf.LaysM
import Derived.Shelf.Strconv.Itoa2
import Derived.Shelf.Strconv.Itoa3
import Derived.Test.YtjmkmalgfanifaaGreatDoorProg
import Derived.Lib.AppendIntMem
import Derived.Test.YtjmkmalgfanifaaGreatDoorChecked
import Derived.KernelRfl
set_option linter.all false
namespace Go.Proofs
open Go.Fs
set_option maxHeartbeats 1000000
def idxG {α : Type} (F : α → Bool) : List α → Int → Int
  | [], _ => -1
  | x :: l, k => if F x = true then k else idxG F l (k + 1)
theorem idxG_drop {α : Type} {F : α → Bool} {l : List α} {j : Nat} (hj : j < l.length) : idxG F (l.drop j) (j : Nat) = if F l[j] = true then ((j : Nat) : Int) else idxG F (l.drop (j + 1)) ((j + 1 : Nat) : Int) := by
  rw [List.drop_eq_getElem_cons hj] <;> rfl
theorem idxG_end {α : Type} {F : α → Bool} {l : List α} {j : Nat} {k : Int} (hj : l.length ≤ j) : idxG F (l.drop j) k = -1 := by rw [List.drop_eq_nil_of_le hj] <;> rfl
theorem idxG_some {α : Type} {F : α → Bool} : ∀ {l : List α} {k : Int}, (∃ x ∈ l, F x = true) → ∃ (j : Nat) (h : j < l.length), idxG F l k = k + ((j : Nat) : Int) ∧ F l[j] = true ∧ ∀ i (hi : i < l.length), i < j → F l[i] = false
  | [], k, ⟨x, hx, _⟩ => by cases hx
  | y :: l, k, ⟨x, hx, hf⟩ => by
    by_cases hy : F y = true
    · refine ⟨0, by simp, ?_, hy, fun i hi h => by omega⟩; show (if F y = true then k else _) = _; rw [if_pos hy]; simp
    have hxl : x ∈ l := by
      rcases List.mem_cons.1 hx with rfl | h
      · exact absurd hf hy
      exact h
    obtain ⟨j, h1, h2, h3, h4⟩ := idxG_some (F := F) (l := l) (k := k + 1) ⟨x, hxl, hf⟩; refine ⟨j + 1, by simpa using h1, ?_, h3, fun i hi h => ?_⟩
    · show (if F y = true then k else _) = _; rw [if_neg hy, h2]; omega
    cases i with
    | zero => simpa using hy
    | succ i => exact h4 i (by simpa using hi) (by omega)
theorem zIndexF_ok {F : Int → Bool} {l : List Int} {f : PV} (hl : l.length < 1000000) (hf : ∀ x ∈ l, VCall Tryz.prog OA f [I x] (B (F x))) : VF Tryz.prog OA 89 [.v y25 l, f] (I (idxG F l 0)) := by
  refine VF.enter Tryz.func89 rfl (fun _ _ => rfl) rfl ?_; show VC _ _ _ _ _ [(0, .v y25 l), (1, f)] [] _; refine VC.seq (VC.text ?_); refine VO.c (.assign rfl) ?_; refine VO.go (VC.seq (VC.seq (VC.text ?_))); refine VO.c (.move rfl) ?_; refine VO.r (.len el25) ?_; refine VO.c (.move rfl) ?_; refine VO.go (VC.block ?_); refine VC.keep [(0, .v y25 l), (1, f), (7, I ((l.length : Nat) : Int)), (8, I ((0 : Nat) : Int))] ⟨rfl, rfl, rfl, rfl, trivial⟩ ?_; refine VC.loop (I := fun kk ff ss => ∃ (j : Nat), kk = l.length - j ∧ ff = [(0, .v y25 l), (1, f), (7, I ((l.length : Nat) : Int)), (8, I ((j : Nat) : Int))] ∧ ss = [] ∧ (j ≤ l.length) ∧ (idxG F l 0 = idxG F (l.drop j) (j : Nat))) ?_ _ _ _ ⟨0, rfl, rfl, rfl, Nat.zero_le _, (by rfl)⟩; rintro kk ff ss ⟨j, hk0, rfl, rfl, hj, hi⟩; refine VC.seq (VC.text ?_); refine VO.c (.lss) ?_; refine VO.go (VC.seq ?_); refine VC.condD rfl (fun c2 => ?_) (fun c2 => ?_)
  · refine VC.skip (VC.seq (VC.block (VC.seq (VC.text ?_)))); refine VO.c (.move rfl) (VO.c (.assign rfl) ?_); refine VO.go (VC.seq (VC.text ?_)); refine VO.c (.move rfl) (VO.c (.move rfl) (VO.c (.move rfl) (VO.c (.ix (j := j) rfl rfl el25 (by omega)) ?_))); refine VO.r (.ld vt3) ?_; refine VO.call rfl rfl ((hf _ (List.getElem_mem _)) ) ?_; refine VO.go ?_; refine VC.condB rfl (fun c4 => ?_) (fun c4 => ?_)
    · refine VC.seq (VC.text ?_); refine VO.c (.move rfl) (VO.c (.assign rfl) (VO.go ?_)); refine VC.ret ?_; exact VEnd.one rfl evT (pvI (by rw [hi, idxG_drop (by omega), if_pos c4]))
    refine VC.skip (VC.text ?_); refine VO.c (.add rfl rfl (by omega)) (VO.c (.move rfl) ?_); refine VO.nil ?_; refine ⟨_, [(0, .v y25 l), (1, f), (7, I ((l.length : Nat) : Int)), (8, I (((j + 1) : Nat) : Int))], ?_, ⟨rfl, rfl, rfl, rfl, trivial⟩, (j + 1), rfl, rfl, rfl, (by omega), (by rw [hi, idxG_drop (by omega), if_neg (by rw [c4]; decide)])⟩; omega
  refine VC.exit (VC.seq (VC.text ?_)); refine VO.c (.assign rfl) (VO.go ?_); refine VC.ret ?_; exact VEnd.one rfl evT (pvI (by rw [hi, idxG_end (by omega)]))
def critK (d : Pha → Int) (l : List Pha) (fr : List Int) (left : Int) : Int := idxG (fun x => decide ((chnL d l).getD x.toNat 0 = left)) fr 0
def critG (d : Pha → Int) (l : List Pha) : Nat → List Int → Int → List Int
  | 0, _, _ => []
  | f + 1, fr, left => if 0 < left then fr.getD (critK d l fr left).toNat 0 :: critG d l f (behF l l.length (fr.getD (critK d l fr left).toNat 0).toNat) (left - d (phA l (fr.getD (critK d l fr left).toNat 0).toNat)) else []
def allI (n : Nat) : List Int := (List.range n).map fun q => ((q : Nat) : Int)
def critE (l : List Pha) : List Int := critG (dE true) l l.length (allI l.length) (maxL (chnL (dE true) l))
theorem chnL_get {d : Pha → Int} {l : List Pha} {p : Nat} (h : p < l.length) : (chnL d l).getD p 0 = chnF d l p := by
  unfold chnL; rw [getDg (by simpa using h)]; simp
theorem chnL_len {d : Pha → Int} {l : List Pha} : (chnL d l).length = l.length := by simp [chnL]
structure CritI (d : Pha → Int) (l : List Pha) (f : Nat) (fr : List Int) (left : Int) : Prop where
  mx : left = maxL (fr.map fun x => chnF d l x.toNat)
  rng : ∀ x ∈ fr, 0 ≤ x ∧ x < ((l.length : Nat) : Int) ∧ ((l.length : Nat) : Int) - x ≤ ((f : Nat) : Int)
  len : fr.length ≤ l.length
theorem CritI.pos {d : Pha → Int} {l : List Pha} {f : Nat} {fr : List Int} {left : Int} (h : CritI d l f fr left) (hl : 0 < left) : ∃ (k : Nat) (hk : k < fr.length), critK d l fr left = ((k : Nat) : Int) ∧ chnF d l fr[k].toNat = left ∧ (∀ i (hi : i < fr.length), i < k → chnF d l fr[i].toNat ≠ left) ∧ 0 < f := by
  have hm : ∃ x ∈ fr, chnF d l x.toNat = left := by
    have := h.mx; rcases maxL_mem (l := fr.map fun x => chnF d l x.toNat) with h1 | h1
    · omega
    obtain ⟨x, hx, he⟩ := List.mem_map.1 h1; exact ⟨x, hx, by rw [he, ← this]⟩
  obtain ⟨x, hx, he⟩ := hm; have hxr := h.rng x hx; obtain ⟨k, h1, h2, h3, h4⟩ := idxG_some (F := fun x => decide ((chnL d l).getD x.toNat 0 = left)) (l := fr) (k := 0) ⟨x, hx, decide_eq_true (by rw [chnL_get (by omega)]; exact he)⟩; refine ⟨k, h1, by rw [critK, h2]; omega, ?_, fun i hi hik => ?_, by omega⟩
  · have := of_decide_eq_true h3; have hr := h.rng _ (List.getElem_mem h1)
    rwa [chnL_get (by omega)] at this
  have := of_decide_eq_false (h4 i hi hik); have hr := h.rng _ (List.getElem_mem hi)
  rwa [chnL_get (by omega)] at this
theorem CritI.next {d : Pha → Int} {l : List Pha} (hp : PlanOk l) {f : Nat} {fr : List Int} {left : Int} (h : CritI d l f fr left) {k : Nat} (hk : k < fr.length) (he : chnF d l fr[k].toNat = left) : CritI d l (f - 1) (behF l l.length fr[k].toNat) (left - d (phA l fr[k].toNat)) where
  mx := by
    rw [← aftF_eq hp, ← he]; unfold chnF; omega
  rng := fun x hx => by
    have h1 := beh_lt hp hx; have h2 := h.rng _ (List.getElem_mem hk); omega
  len := behF_len
theorem critG_step {d : Pha → Int} {l : List Pha} {f : Nat} {fr : List Int} {left : Int} {k : Nat} (hk : k < fr.length) (hl : 0 < left) (hc : critK d l fr left = ((k : Nat) : Int)) (hf : 0 < f) : critG d l f fr left = fr[k] :: critG d l (f - 1) (behF l l.length fr[k].toNat) (left - d (phA l fr[k].toNat)) := by
  cases f with
  | zero => omega
  | succ f =>
    show (if 0 < left then _ else _) = _; rw [if_pos hl, hc, Int.toNat_natCast, getDg hk] <;> rfl
theorem critG_end {d : Pha → Int} {l : List Pha} {f : Nat} {fr : List Int} {left : Int} (hl : ¬ 0 < left) : critG d l f fr left = [] := by
  cases f with
  | zero => rfl
  | succ f => exact if_neg hl
theorem crit_init {d : Pha → Int} {l : List Pha} : CritI d l l.length (allI l.length) (maxL (chnL d l)) where
  mx := by
    unfold chnL allI; rw [List.map_map] <;> rfl
  rng := fun x hx => by
    obtain ⟨q, hq, rfl⟩ := List.mem_map.1 hx; have := List.mem_range.1 hq; omega
  len := by simp [allI]
theorem allI_succ {n : Nat} : allI (n + 1) = allI n ++ [((n : Nat) : Int)] := by
  unfold allI; rw [List.range_succ, List.map_append] <;> rfl
theorem allI_len {n : Nat} : (allI n).length = n := by simp [allI]
theorem cCrit1_ok {i : Int} {sums : List Int} {left : Int} (h0 : 0 ≤ i) (h1 : i < ((sums.length : Nat) : Int)) : VF Tryz.prog OA 90 [I i, .p y25 sums, .p (.int .i64) left] (B (decide (sums.getD i.toNat 0 = left))) := by
  refine VF.enter Tryz.func90 rfl (fun _ _ => rfl) rfl ?_; show VC _ _ _ _ _ [(0, I i), (1, .p y25 sums), (2, .p (.int .i64) left)] [] _; refine VC.seq (VC.text ?_); refine VO.c (.assign rfl) ?_; refine VO.go (VC.seq (VC.drawn ?_)); refine VD.r [] (.ld vt25) (.inl rfl) ?_; refine VD.c (.move rfl) (VD.c (.ixZ (k := i) rfl rfl el25 (by omega) (by omega)) ?_); refine VD.r [] (.ld vt3) (.inl rfl) ?_; refine VD.r [] (.ld vt3) (.inl rfl) ?_; refine VD.c (.eql) (VD.nw [] (VD.c (.assign rfl) (VD.go ?_))); refine VC.ret ?_; exact VEnd.one rfl evT (pvE (by rw [getDg (by omega)]))
def criR (l : List Pha) : List Int := if planE l = 0 then critE l else []
theorem cCritical_ok {l : List (ByteArray × Int × Int × (List Int))} (hl : l.length < 100000) (hb : ∀ x ∈ l, x.2.2.2.length < 100000) : VF Tryz.prog OA 19 [.v y29 l] (.tup [.v y25 (criR l), I (planE l)]) := by
  refine VF.enter Tryz.func19 rfl (fun _ _ => rfl) rfl ?_; show VC _ _ _ _ _ [(0, .v y29 l)] [] _; refine VC.seq (VC.text ?_); refine VO.c (.assign rfl) (VO.c (.assign rfl) ?_); refine VO.go (VC.seq (VC.seq (VC.text ?_))); refine VO.c (.move rfl) ?_; refine VO.call rfl rfl (VF.call (cPlan_ok (by first | assumption | omega | simp) (by first | assumption | omega | simp))) ?_; refine VO.c (.assign rfl) ?_; refine VO.go (VC.seq (VC.text ?_)); refine VO.c (.move rfl) (VO.c (.neq) (VO.go ?_)); refine VC.condD rfl (fun c2 => ?_) (fun c2 => ?_)
  · refine VC.seq (VC.text ?_); refine VO.c (.move rfl) (VO.c (.assign rfl) (VO.c (.assign rfl) (VO.go ?_))); refine VC.ret ?_; exact VEnd.two rfl (evC .nil) evT (pvE (by rw [criR, if_neg c2])) (pvI (by rfl))
  have hz := Classical.not_not.1 c2; have hp := plan_ok hz; have hlen := hp.len; have hd := dur_ok hp true; refine VC.skip (VC.seq (VC.text ?_)); refine VO.c (.move rfl) ?_; refine VO.call rfl rfl (VF.call (cChains_ok (F := dE true) hp hd (fun _ _ => VF.call cMost_ok))) ?_; refine VO.c (.move rfl) ?_; refine VO.call rfl rfl (VF.call (cBehind_ok hp)) ?_; refine VO.cell (.alloc zt25) ?_; intro ww1; refine VO.setV (cs' := [.v y25 (chnL (dE true) l)]) vt25 .v ?_; refine VO.shut [(5, .p y25 (chnL (dE true) l))] (.cons rfl (.var m0 .refl) .nil) ?_; refine VO.c (.assign rfl) ?_; refine VO.go (VC.seq (VC.text ?_)); refine VO.c (.assign rfl) ?_; refine VO.go (VC.seq (VC.seq (VC.text ?_))); refine VO.c (.move rfl) ?_; refine VO.r (.len el29) ?_; refine VO.c (.move rfl) ?_; refine VO.go (VC.block ?_); refine VC.cell0 3 (.int .i64) ?_; refine VC.keep [(0, .v y29 l), (5, .p y25 (chnL (dE true) l)), (6, .v y86 (behM l l.length)), (7, .raw (.slice none 0 0)), (23, I ((l.length : Nat) : Int)), (24, I ((0 : Nat) : Int))] ⟨rfl, rfl, rfl, rfl, rfl, rfl, trivial⟩ ?_; refine VC.loop (I := fun kk ff ss => ∃ (i : Nat) (wf : Value), kk = l.length - i ∧ ff = [(0, .v y29 l), (5, .p y25 (chnL (dE true) l)), (6, .v y86 (behM l l.length)), (7, .raw wf), (23, I ((l.length : Nat) : Int)), (24, I ((i : Nat) : Int))] ∧ ss = [(wf, .row 3 (.int .i64) (allI i))] ∧ (i ≤ l.length)) ?_ _ _ _ ⟨0, (.slice none 0 0), rfl, rfl, rfl, Nat.zero_le _⟩; rintro kk ff ss ⟨i, wf, hk0, rfl, rfl, hi⟩; refine VC.seq (VC.text ?_); refine VO.c (.lss) ?_; refine VO.go (VC.seq ?_); refine VC.condD rfl (fun c7 => ?_) (fun c7 => ?_)
  · refine VC.skip (VC.seq (VC.block (VC.seq (VC.text ?_)))); refine VO.c (.move rfl) (VO.c (.assign rfl) ?_); refine VO.go (VC.text ?_); refine VO.c (.move rfl) (VO.c (.move rfl) ?_); refine VO.new (.lit [((i : Nat) : Int)] el25) ?_; refine VO.app rfl rfl el25 el25 (by rw [allI_len]; simp; omega) ?_; intro ww2; refine VO.c (.assign rfl) ?_; refine VO.nil (VC.text ?_); refine VO.c (.add rfl rfl (by omega)) (VO.c (.move rfl) ?_); refine VO.nil ?_; refine ⟨_, [(0, .v y29 l), (5, .p y25 (chnL (dE true) l)), (6, .v y86 (behM l l.length)), (7, .raw ww2), (23, I ((l.length : Nat) : Int)), (24, I (((i + 1) : Nat) : Int))], ?_, ⟨rfl, rfl, rfl, rfl, rfl, rfl, trivial⟩, (i + 1), ww2, rfl, rfl, (by rw [allI_succ]), (by omega)⟩; omega
  refine VC.exit (VC.seq ?_); refine VC.shutL [(wf, .row 3 (.int .i64) (allI i))] [(7, .v y25 (allI i))] rfl (.cons rfl (.row m0) .nil) ?_; refine VC.text ?_; refine VO.c (.assign rfl) ?_; refine VO.go (VC.seq (VC.seq (VC.text ?_))); refine VO.r (.ld vt25) ?_; refine VO.call rfl rfl (VF.call (cGreatest_ok (by rw [chnL_len]; omega))) ?_; refine VO.cell (.alloc zt3) ?_; intro ww3; refine VO.setV (cs' := [I (maxL (chnL (dE true) l))]) vt3 .v ?_; refine VO.go (VC.block ?_); refine VC.cell0 3 (.int .i64) ?_; refine VC.keep [(0, .v y29 l), (5, .p y25 (chnL (dE true) l)), (6, .v y86 (behM l l.length)), (7, .v y25 (allI l.length)), (9, .raw (.slice none 0 0)), (10, .raw ww3)] ⟨rfl, rfl, rfl, slE rfl (by rw [show i = l.length by omega]), rfl, rfl, trivial⟩ ?_; refine VC.loop (I := fun kk ff ss => ∃ (f : Nat) (fr : List Int) (left : Int) (out : List Int) (wo : Value) (w10 : Value), kk = f ∧ ff = [(0, .v y29 l), (5, .p y25 (chnL (dE true) l)), (6, .v y86 (behM l l.length)), (7, .v y25 fr), (9, .raw wo), (10, .raw w10)] ∧ ss = [(wo, .row 3 (.int .i64) out), (w10, .var [I left])] ∧ (CritI (dE true) l f fr left) ∧ (critE l = out ++ critG (dE true) l f fr left) ∧ (out.length + f ≤ l.length)) ?_ _ _ _ ⟨l.length, allI l.length, maxL (chnL (dE true) l), [], (.slice none 0 0), ww3, rfl, rfl, rfl, (by exact crit_init), (by rfl), (by simp)⟩; rintro kk ff ss ⟨f, fr, left, out, wo, w10, hk2, rfl, rfl, hI, hw, ho⟩; refine VC.seq (VC.seq (VC.text ?_)); refine VO.r (.ldV m1 vt3) ?_; refine VO.c (.gtr) (VO.go ?_); refine VC.condD rfl (fun c13 => ?_) (fun c13 => ?_)
  · obtain ⟨k, hk, hck, hke, hkn, hf0⟩ := hI.pos c13; have hr := hI.rng _ (List.getElem_mem hk); have hfl := hI.len; have hcl : (chnL (dE true) l).length = l.length := chnL_len; have hbl : (behM l l.length).length = l.length := behM_len; have hbm : (behM l l.length)[(fr[k]).toNat]'(by omega) = behF l l.length (fr[k]).toNat := behM_at _; have hdk := hd (fr[k]).toNat (by omega); have hdx : l[(fr[k]).toNat]'(by omega) = phA l (fr[k]).toNat := (phA_eq (by omega)).symm; have hcb := chn_bd hp hd (p := (fr[k]).toNat) (by omega); refine VC.skip (VC.seq (VC.block (VC.seq (VC.text ?_)))); refine VO.c (.move rfl) (VO.c (.func) ?_); refine VO.callC rfl rfl .same (.cons .same (.cons (.clo .refl (.cons .same (.cons (.var m1 .refl) .nil))) .nil)) rfl (VF.call (zIndexF_ok (F := fun x => decide ((chnL (dE true) l).getD x.toNat 0 = left)) (by omega) (fun x hx => VF.clo (cCrit1_ok (hI.rng x hx).1 (by have := (hI.rng x hx).2.1; omega))))) ?_; rw [show idxG (fun x => decide ((chnL (dE true) l).getD x.toNat 0 = left)) fr 0 = ((k : Nat) : Int) from hck]; refine VO.c (.assign rfl) ?_; refine VO.go (VC.seq (VC.text ?_)); refine VO.c (.move rfl) (VO.c (.move rfl) (VO.c (.ix (j := k) rfl rfl el25 (by omega)) ?_)); refine VO.r (.ld vt3) ?_; refine VO.c (.assign rfl) ?_; refine VO.go (VC.seq (VC.text ?_)); refine VO.c (.move rfl) (VO.c (.move rfl) ?_); refine VO.new (.lit [fr[k]] el25) ?_; refine VO.app rfl rfl el25 el25 (by simp; omega) ?_; intro ww4; refine VO.c (.assign rfl) ?_; refine VO.go (VC.seq (VC.drawn ?_)); refine VD.r [(ww4, .row 3 (.int .i64) (out ++ [fr[k]])), (w10, .var [I left])] (.ldV m1 vt3) (.inr ⟨rfl, rfl⟩) ?_; refine VD.c (.move rfl) (VD.c (.move rfl) (VD.c (.ixZ (k := fr[k]) rfl rfl el29 (by omega) (by omega)) (VD.c (.fa (.r (.r (.l .o)))) ?_))); refine VD.r [] (.ld vt3) (.inl rfl) ?_; refine VD.nw [] (VD.c (.sub rfl rfl (by rw [hdx]; have : dE true (phA l (fr[k]).toNat) = (phA l (fr[k]).toNat).2.2.1 := rfl; omega)) ?_); refine VD.perm swap1 ?_; refine VD.mk0 (MakeV.setF (k := 0) vt3 .v (Nat.le_of_ble_eq_true rfl) (.inr ⟨rfl, rfl⟩) rfl rfl) ?_; rintro _ _ tl5 ⟨rfl, rfl⟩; refine VD.go (VC.text ?_); refine VO.c (.move rfl) (VO.c (.move rfl) (VO.c (.ixZ (k := fr[k]) rfl rfl el86 (by omega) (by omega)) ?_)); refine VO.r (.ld vt25) ?_; refine VO.c (.assign rfl) ?_; refine VO.nil (VC.seq (VC.text ?_)); refine VO.r (.ldV m0 vt3) ?_; refine VO.go (VC.text ?_); refine VO.cell (.alloc zt3) ?_; intro ww6; refine VO.setV (cs' := [I (left - (l[Int.toNat (fr[k])]).2.2.1)]) vt3 .v ?_; refine VO.perm swap1 ?_; refine VO.forget ?_; refine VO.perm swap1 ?_; refine VO.nil ?_; refine ⟨_, [(0, .v y29 l), (5, .p y25 (chnL (dE true) l)), (6, .v y86 (behM l l.length)), (7, .v y25 (behF l l.length (fr[k]).toNat)), (9, .raw ww4), (10, .raw ww6)], ?_, ⟨rfl, rfl, rfl, slE rfl (by exact hbm), rfl, rfl, trivial⟩, (f - 1), (behF l l.length (fr[k]).toNat), (left - dE true (phA l (fr[k]).toNat)), (out ++ [fr[k]]), ww4, ww6, rfl, rfl, (by rw [hdx] <;> rfl), (by exact hI.next hp hk hke), (by rw [hw, critG_step hk c13 hck hf0]; simp), (by rw [List.length_append, List.length_singleton]; omega)⟩; omega
  refine VC.exit (VC.seq (VC.text ?_)); refine VO.c (.move rfl) (VO.c (.assign rfl) (VO.c (.assign rfl) (VO.go ?_))); refine VC.ret ?_; exact VEnd.two rfl (evC (.row m0)) evT (pvE (by rw [criR, if_pos hz, hw, critG_end c13, List.append_nil])) (pvI (by exact hz.symm))
end Go.Proofs
namespace Go.Proofs
open Go.Fs
set_option maxHeartbeats 1000000
theorem rHasInt_ok {l : List Int} {x : Int} (hl : l.length < 1000000) : VF Tryz.prog OA 53 [.v y25 l, I x] (B (l.contains x)) := by
  refine VF.enter Tryz.func53 rfl (fun _ _ => rfl) rfl ?_; show VC _ _ _ _ _ [(0, .v y25 l), (1, I x)] [] _; refine VC.seq (VC.text ?_); refine VO.c (.assign rfl) ?_; refine VO.go (VC.seq (VC.seq (VC.text ?_))); refine VO.c (.assign rfl) ?_; refine VO.go (VC.block ?_); refine VC.keep [(0, .v y25 l), (1, I x), (5, I ((0 : Nat) : Int))] ⟨rfl, rfl, rfl, trivial⟩ ?_; refine VC.loop (I := fun kk ff ss => ∃ (i : Nat), kk = l.length - i ∧ ff = [(0, .v y25 l), (1, I x), (5, I ((i : Nat) : Int))] ∧ ss = [] ∧ (i ≤ l.length) ∧ (∀ j (hj : j < l.length), j < i → l[j] ≠ x)) ?_ _ _ _ ⟨0, rfl, rfl, rfl, Nat.zero_le _, (by intro j hj h; omega)⟩; rintro kk ff ss ⟨i, hk0, rfl, rfl, hi, hq⟩; refine VC.seq (VC.seq (VC.text ?_)); refine VO.c (.move rfl) (VO.c (.move rfl) ?_); refine VO.r (.len el25) ?_; refine VO.c (.lss) (VO.go ?_); refine VC.condD rfl (fun c2 => ?_) (fun c2 => ?_)
  · refine VC.skip (VC.seq (VC.block (VC.seq (VC.text ?_)))); refine VO.c (.move rfl) (VO.c (.move rfl) (VO.c (.ix (j := i) rfl rfl el25 (by omega)) ?_)); refine VO.r (.ld vt3) ?_; refine VO.c (.move rfl) (VO.c (.eql) (VO.go ?_)); refine VC.condD rfl (fun c4 => ?_) (fun c4 => ?_)
    · refine VC.seq (VC.text ?_); refine VO.c (.assign rfl) (VO.go ?_); refine VC.ret ?_; exact VEnd.one rfl evT (pvE (by exact (List.contains_iff_mem.2 (c4 ▸ List.getElem_mem _)).symm))
    refine VC.skip (VC.text ?_); refine VO.c (.move rfl) (VO.c (.add rfl rfl (by omega)) (VO.c (.assign rfl) ?_)); refine VO.nil ?_; refine ⟨_, [(0, .v y25 l), (1, I x), (5, I (((i + 1) : Nat) : Int))], ?_, ⟨rfl, rfl, rfl, trivial⟩, (i + 1), rfl, rfl, rfl, (by omega), (by intro j hj h; rcases Nat.lt_succ_iff_lt_or_eq.1 h with h | h; exact hq j hj h; subst h; exact c4)⟩; omega
  refine VC.exit (VC.seq (VC.text ?_)); refine VO.c (.assign rfl) (VO.go ?_); refine VC.ret ?_; exact VEnd.one rfl evT (pvE (by refine (Bool.eq_false_iff.2 fun h => ?_).symm; obtain ⟨j, hj, he⟩ := List.mem_iff_getElem.1 (List.contains_iff_mem.1 h); exact hq j hj (by omega) he))
end Go.Proofs
namespace Go.Fs
variable {P : Program} {orc : FuncId → List Value → Heap → Option (Value × Heap)} {τ : Ty}
end Go.Fs
namespace Go.Proofs
open Go.Fs
set_option maxHeartbeats 1000000
def sumE (d : Pha → Int) (l : List Pha) (c : List Int) : Int := (c.map fun x => d (phA l x.toNat)).sum
theorem sumE_app {d : Pha → Int} {l : List Pha} {c : List Int} {x : Int} : sumE d l (c ++ [x]) = sumE d l c + d (phA l x.toNat) := by simp [sumE]
theorem sumE_take {d : Pha → Int} {l : List Pha} {c : List Int} {i : Nat} (h : i < c.length) : sumE d l (c.take (i + 1)) = sumE d l (c.take i) + d (phA l c[i].toNat) := by rw [List.take_succ_eq_append_getElem h, sumE_app]
theorem sumE_b {d : Pha → Int} {l : List Pha} (hd : DurOk d l) : ∀ {c : List Int}, (∀ x ∈ c, 0 ≤ x ∧ x < ((l.length : Nat) : Int)) → 0 ≤ sumE d l c ∧ sumE d l c ≤ 1000 * ((c.length : Nat) : Int)
  | [], _ => by simp [sumE]
  | x :: c, h => by
    have h1 := sumE_b hd (c := c) fun y hy => h y (List.mem_cons_of_mem _ hy); have h2 := h x List.mem_cons_self; have h3 := hd x.toNat (by omega)
    have e : sumE d l (x :: c) = d (phA l x.toNat) + sumE d l c := by simp [sumE]
    rw [e, List.length_cons]; omega
theorem end_le {d : Pha → Int} {l : List Pha} (hp : PlanOk l) (hd : DurOk d l) : ∀ (m i : Nat), i ≤ m → i < l.length → endF d l i + aftF d l i ≤ maxL (chnL d l) := by
  intro m
  induction m with
  | zero =>
    intro i h0 hi
    obtain rfl : i = 0 := by omega
    have hb : (phA l 0).2.2.2.length = 0 := by have := hp.blen hi; omega
    have : endF d l 0 = d (phA l 0) := by
      unfold endF begF; rw [hb]; show (0 : Int) + _ = _; omega
    rw [this]
    exact maxL_ge (List.mem_map.2 ⟨0, List.mem_range.2 hi, rfl⟩)
  | succ m ih =>
    intro i hm hi
    have hbg : ∀ k, k ≤ (phA l i).2.2.2.length → begE (endL d l i) (phA l i).2.2.2 k + chnF d l i ≤ maxL (chnL d l) := fun k => by
      induction k with
      | zero =>
        intro _; show (0 : Int) + _ ≤ _; rw [Int.zero_add]
        exact maxL_ge (List.mem_map.2 ⟨i, List.mem_range.2 hi, rfl⟩)
      | succ k ihk =>
        intro hk; have h1 := ihk (by omega); have h2 := hp.bef i hi k (by omega); have h3 := ih ((phA l i).2.2.2.getD k 0).toNat (by omega) (by omega)
        have h4 : chnF d l i ≤ aftF d l ((phA l i).2.2.2.getD k 0).toNat := by
          rw [aftF_eq hp ((phA l i).2.2.2.getD k 0).toNat]; refine maxL_ge (List.mem_map.2 ⟨((i : Nat) : Int), behF_mem.2 ⟨i, hi, ?_, rfl⟩, by rw [Int.toNat_natCast]⟩); rw [Int.toNat_of_nonneg h2.1, getDg (by omega)]; exact List.getElem_mem _
        show max _ _ + _ ≤ _; rw [endL_get (by omega)]; omega
    have := hbg _ (Nat.le_refl _); unfold endF begF; unfold chnF at this; omega
theorem chn_end {d : Pha → Int} {l : List Pha} (hp : PlanOk l) (hd : DurOk d l) : ∀ (f i : Nat), l.length - i ≤ f → i < l.length → begF d l i + chnF d l i ≤ maxL (endL d l l.length)
  | 0, i, h, hi => by omega
  | f + 1, i, h, hi => by
    have h1 : endF d l i ≤ maxL (endL d l l.length) := by
      rw [endL_eq]; exact maxL_ge (List.mem_map.2 ⟨i, List.mem_range.2 hi, rfl⟩)
    have h2 : aftF d l i + endF d l i ≤ maxL (endL d l l.length) := by
      rcases maxL_mem (l := (behF l l.length i).map fun x => chnF d l x.toNat) with h3 | h3
      · rw [← aftF_eq hp] at h3; omega
      rw [← aftF_eq hp] at h3; obtain ⟨x, hx, he⟩ := List.mem_map.1 h3; have h4 := beh_lt hp hx; have h5 := chn_end hp hd f x.toNat (by omega) (by omega); obtain ⟨q, hq, hm, rfl⟩ := behF_mem.1 hx; obtain ⟨k, hk, hke⟩ := List.mem_iff_getElem.1 hm
      have h6 : endF d l i ≤ begF d l q := by
        unfold begF
        have : ∀ n, k < n → n ≤ (phA l q).2.2.2.length → endF d l i ≤ begE (endL d l q) (phA l q).2.2.2 n := fun n => by
          induction n with
          | zero => intro h7 _; omega
          | succ n ihn =>
            intro h7 h8; show _ ≤ max _ _; by_cases e : k = n
            · subst e; rw [getDg hk, hke, Int.toNat_natCast, endL_get (by omega)]; omega
            have := ihn (by omega) (by omega); omega
        exact this _ hk (Nat.le_refl _)
      rw [Int.toNat_natCast] at h5 he; omega
    unfold chnF; unfold endF at h2; omega
theorem dur_chn {d : Pha → Int} {l : List Pha} (hp : PlanOk l) (hd : DurOk d l) : maxL (endL d l l.length) = maxL (chnL d l) := by
  refine Int.le_antisymm (maxL_le.2 ⟨maxL_nn, fun x hx => ?_⟩) (maxL_le.2 ⟨maxL_nn, fun x hx => ?_⟩)
  · rw [endL_eq] at hx; obtain ⟨i, hi, rfl⟩ := List.mem_map.1 hx; have hi := List.mem_range.1 hi; have := end_le hp hd i i (Nat.le_refl _) hi; have := (chn_bd hp hd hi).1; omega
  obtain ⟨i, hi, rfl⟩ := List.mem_map.1 hx; have hi := List.mem_range.1 hi; have h1 := chn_end hp hd _ i (Nat.le_refl _) hi; have h2 : 0 ≤ begF d l i := (beg_b hd (by omega) _).1; omega
end Go.Proofs
namespace Go.Proofs
open Go.Fs
set_option maxHeartbeats 1000000
theorem critG_len {d : Pha → Int} {l : List Pha} : ∀ (f : Nat) {fr : List Int} {left : Int}, (critG d l f fr left).length ≤ f
  | 0, _, _ => Nat.le_refl _
  | f + 1, fr, left => by
    show (if 0 < left then _ else _ : List Int).length ≤ _; by_cases h : 0 < left
    · rw [if_pos h, List.length_cons]; have := critG_len (d := d) (l := l) f (fr := behF l l.length (fr.getD (critK d l fr left).toNat 0).toNat) (left := left - d (phA l (fr.getD (critK d l fr left).toNat 0).toNat)); omega
    rw [if_neg h]; exact Nat.zero_le _
theorem critE_len {l : List Pha} : (critE l).length ≤ l.length := critG_len _
theorem shortP_t {l : List Pha} (h : shortP l = true) : (∀ x ∈ l, x.1.size ≤ 40 ∧ x.2.2.2.length ≤ 8) ∧ (l.length ≤ 7 ∨ l.length = 17) := of_decide_eq_true h
theorem plan_7 {l : List Pha} (h : shortP l = true) (hz : planE l = 0) : l.length ≤ 7 := by
  have h1 := (shortP_t h).2; have h2 := (plan_ok hz).len; omega
theorem criR_len {l : List Pha} : (criR l).length ≤ l.length := by
  unfold criR; split
  · exact critE_len
  exact Nat.zero_le _
end Go.Proofs
namespace Go.Fs
variable {P : Program} {fl : VL} {σ γ : Sto} {Q : PV → Sto → Prop} {fn : Func} {τ : Ty}
theorem rep_two {h : Heap} {S : List Nat} {w u : Value} {k : IntKind} {x : Int} (hu : RepPV h S (.tup [.raw w, .v (.int k) x]) u) : u = .tuple #[w, .int k x] := by
  obtain ⟨vs, rfl, hv⟩ := hu; obtain ⟨a, r, rfl, ha, hr⟩ := hv; obtain ⟨b, r2, rfl, hb, hr2⟩ := hr; rw [show a = w from ha, RepV.int hb, show r2 = [] from hr2]
theorem VEndG.rowT {r r' : ResultVar} {w : Value} {e : TypeId} {xs : List τ.den} {k : IntKind} {x : Int} (hr : fn.results = #[r, r']) (h1 : EndV P fl [] r (.raw w)) (h2 : EndV P fl [] r' (.v (.int k) x)) (hQ : Q (.tup [.raw w, .v (.int k) x]) [(w, Cell.row e τ xs)]) : VEndG P fn [] Q .ret fl [(w, Cell.row e τ xs)] :=
  ⟨rfl, [.raw w, .v (.int k) x], by rw [hr]; exact .cons h1 (.cons h2 .nil), hQ, .inr (.inr (.inr ⟨rfl, fun h S u hu hc ha => by
    have hu := rep_two hu; subst hu; have hcw := hc _ List.mem_cons_self; rcases hcw with ⟨hw, hx⟩ | ⟨b, rs, m, hw, _⟩
    · have hw : w = .slice Option.none 0 0 := hw; subst hw; exact ⟨rfl, fun h' S' c hc => by obtain rfl := List.mem_singleton.1 hc; exact .inl ⟨rfl, hx⟩⟩
    have hw : w = .slice (some ⟨b, 0, Option.none⟩) xs.length 0 := hw; subst hw; have ha : (af1 (.slice (some ⟨b, 0, Option.none⟩) xs.length 0) && (af1 (.int k x) && true)) = true := ha
    exact absurd (band ha).1 (by simp [af1, af0])⟩))⟩
theorem rowT_end {w : Value} {e : TypeId} {k : IntKind} {xs ys : List τ.den} {x y : Int} (h1 : xs = ys) (h2 : x = y) : PV.tup [.raw w, .v (.int k) x] = PV.tup [.raw w, .v (.int k) y] ∧ [(w, Cell.row e τ xs)] = [(w, Cell.row e τ ys)] := by
  subst h1 h2; exact ⟨rfl, rfl⟩
theorem VO.row {orc : FuncId → List Value → Heap → Option (Value × Heap)} {ops : Array Oper} {n : Nat} {l : List Oper} {K : VL → Sto → Prop} {w : Value} {e : TypeId} {xs ys : List τ.den} (h : xs = ys) (hx : VO P orc ops n l fl ((w, Cell.row e τ ys) :: σ) K) : VO P orc ops n l fl ((w, Cell.row e τ xs) :: σ) K := by subst h; exact hx
end Go.Fs
namespace Go.Proofs
open Go.Fs
set_option maxHeartbeats 1000000
theorem cTime_ok {n : Int} : VF Tryz.prog OA 104 [I n] (I (rangeE n 0 100000)) := by
  refine VF.enter Tryz.func104 rfl (fun _ _ => rfl) rfl ?_; show VC _ _ _ _ _ [(0, I n)] [] _; refine VC.seq (VC.text ?_); refine VO.c (.assign rfl) ?_; refine VO.go (VC.seq (VC.text ?_)); refine VO.c (.move rfl) ?_; refine VO.call rfl rfl (VF.call (cWithin_ok )) ?_; refine VO.c (.assign rfl) (VO.go ?_); refine VC.ret ?_; exact VEnd.one rfl evT (pvI (by rfl))
theorem cMapIIo_ok {F : Int → Int} {l : List Int} {f : PV} (hl : l.length < 100000) (hf : ∀ x ∈ l, VCall Tryz.prog OA f [I x] (I (F x))) : VFG Tryz.prog OA 107 [.v y25 l, f] [] (fun r g => ∃ w, r = .raw w ∧ g = [(w, .row 3 (.int .i64) (l.map F))]) := by
  refine VFG.enter Tryz.func107 rfl (fun _ _ => rfl) rfl ?_; show VC _ _ _ _ _ [(0, .v y25 l), (1, f)] [] _; refine VC.seq (VC.text ?_); refine VO.c (.assign rfl) ?_; refine VO.go (VC.seq (VC.text ?_)); refine VO.c (.assign rfl) ?_; refine VO.go (VC.seq (VC.seq (VC.text ?_))); refine VO.c (.move rfl) ?_; refine VO.r (.len el25) ?_; refine VO.c (.move rfl) ?_; refine VO.go (VC.block ?_); refine VC.cell0 3 (.int .i64) ?_; refine VC.keep [(1, f), (5, .raw (.slice none 0 0)), (8, .v y25 l), (9, I ((l.length : Nat) : Int)), (10, I ((0 : Nat) : Int))] ⟨rfl, rfl, rfl, rfl, rfl, trivial⟩ ?_; refine VC.loop (I := fun kk ff ss => ∃ (j : Nat) (out : Value), kk = l.length - j ∧ ff = [(1, f), (5, .raw out), (8, .v y25 l), (9, I ((l.length : Nat) : Int)), (10, I ((j : Nat) : Int))] ∧ ss = [(out, .row 3 (.int .i64) ((l.take j).map F))] ∧ (j ≤ l.length)) ?_ _ _ _ ⟨0, (.slice none 0 0), rfl, rfl, rfl, Nat.zero_le _⟩; rintro kk ff ss ⟨j, out, hk0, rfl, rfl, hj⟩; refine VC.seq (VC.text ?_); refine VO.c (.lss) ?_; refine VO.go (VC.seq ?_); refine VC.condD rfl (fun c3 => ?_) (fun c3 => ?_)
  · refine VC.skip (VC.seq (VC.block (VC.seq (VC.text ?_)))); refine VO.c (.ix (j := j) rfl rfl el25 (by omega)) ?_; refine VO.r (.ld vt3) ?_; refine VO.c (.assign rfl) ?_; refine VO.go (VC.text ?_); refine VO.c (.move rfl) (VO.c (.move rfl) (VO.c (.move rfl) ?_)); refine VO.call rfl rfl ((hf _ (List.getElem_mem _)) ) ?_; refine VO.new (.lit [F (l[j])] el25) ?_; refine VO.app rfl rfl el25 el25 (by simp; omega) ?_; intro ww2; refine VO.c (.assign rfl) ?_; refine VO.nil (VC.text ?_); refine VO.c (.add rfl rfl (by omega)) (VO.c (.move rfl) ?_); refine VO.nil ?_; refine ⟨_, [(1, f), (5, .raw ww2), (8, .v y25 l), (9, I ((l.length : Nat) : Int)), (10, I (((j + 1) : Nat) : Int))], ?_, ⟨rfl, rfl, rfl, rfl, rfl, trivial⟩, (j + 1), ww2, rfl, rfl, (by rw [List.take_succ_eq_append_getElem (by omega), List.map_append] <;> rfl), (by omega)⟩; omega
  refine VC.exit (VC.seq (VC.text ?_)); refine VO.c (.move rfl) (VO.c (.assign rfl) (VO.go ?_)); refine VC.ret ?_; exact VEndG.row rfl evT ⟨out, rfl, (by rw [List.take_of_length_le (by omega)])⟩
theorem cLat1_ok {n : Int} {dl : Int} (h0 : 0 ≤ n ∧ n ≤ 100000) (h1 : 0 ≤ dl ∧ dl ≤ 100000) : VF Tryz.prog OA 148 [I n, .p (.int .i64) dl] (I (dl - n)) := by
  refine VF.enter Tryz.func148 rfl (fun _ _ => rfl) rfl ?_; show VC _ _ _ _ _ [(0, I n), (1, .p (.int .i64) dl)] [] _; refine VC.seq (VC.text ?_); refine VO.c (.assign rfl) ?_; refine VO.go (VC.seq (VC.text ?_)); refine VO.r (.ld vt3) ?_; refine VO.c (.move rfl) (VO.c (.sub rfl rfl (by omega)) (VO.c (.assign rfl) (VO.go ?_))); refine VC.ret ?_; exact VEnd.one rfl evT (pvI (by rfl))
def badE (l : List Pha) (dl : Int) : Int := firstE [planE l, rangeE dl 0 100000]
def latE (l : List Pha) (dl : Int) : Int := if badE l dl = 0 then whenE (decide (dl < (durE l).2)) 24 else badE l dl
def latL (l : List Pha) (dl : Int) : List Int := (chnL (dE true) l).map fun n => dl - n
def latR (l : List Pha) (dl : Int) : List Int := if latE l dl = 0 then latL l dl else []
theorem bad_0 {l : List Pha} {dl : Int} (h : badE l dl = 0) : planE l = 0 ∧ 0 ≤ dl ∧ dl ≤ 100000 := by
  have h := firstE_zero.1 h; have h2 := rangeE_zero.1 (h (rangeE dl 0 100000) (by simp)); exact ⟨h _ List.mem_cons_self, h2⟩
theorem lat_b {l : List Pha} {dl : Int} (h : badE l dl ≠ 0) : latE l dl = badE l dl := if_neg h
theorem lat_t {l : List Pha} {dl : Int} (h : badE l dl = 0) (h2 : dl < (durE l).2) : latE l dl = 24 := by
  rw [latE, if_pos h, decide_eq_true h2] <;> rfl
theorem lat_f {l : List Pha} {dl : Int} (h : badE l dl = 0) (h2 : ¬ dl < (durE l).2) : latE l dl = 0 := by
  rw [latE, if_pos h, decide_eq_false h2] <;> rfl
theorem chnL_b {d : Pha → Int} {l : List Pha} (hp : PlanOk l) (hd : DurOk d l) {x : Int} (h : x ∈ chnL d l) : 0 ≤ x ∧ x ≤ 16000 := by
  obtain ⟨i, hi, rfl⟩ := List.mem_map.1 h; have := chn_bd hp hd (List.mem_range.1 hi); omega
theorem cLatest_ok {l : List (ByteArray × Int × Int × (List Int))} {dl : Int} (hl : l.length < 100000) (hb : ∀ x ∈ l, x.2.2.2.length < 100000) : VFG Tryz.prog OA 103 [.v y29 l, I dl] [] (fun r g => ∃ w, r = .tup [.raw w, I (latE l dl)] ∧ g = [(w, .row 3 (.int .i64) (latR l dl))]) := by
  refine VFG.enter Tryz.func103 rfl (fun _ _ => rfl) rfl ?_; show VC _ _ _ _ _ [(0, .v y29 l), (1, I dl)] [] _; refine VC.seq (VC.text ?_); refine VO.new (.box) ?_; refine VO.c (.assign rfl) (VO.c (.assign rfl) ?_); refine VO.go (VC.seq (VC.seq (VC.drawn ?_))); refine VD.c (.move rfl) ?_; refine VD.call rfl rfl (VF.call (cPlan_ok (by first | assumption | omega | simp) (by first | assumption | omega | simp))) ?_; refine VD.r [] (.ld vt3) (.inl rfl) ?_; refine VD.call rfl rfl (VF.call (cTime_ok )) ?_; refine VD.new (.lit [planE l, rangeE dl 0 100000] el154) ?_; refine VD.callO rfl rfl (VF.call (cFirst_ok (by simp))) ?_; refine VD.nw [11] (VD.c (.assign rfl) ?_); refine VD.go (VC.seq (VC.text ?_)); refine VO.c (.move rfl) (VO.c (.neq) (VO.go ?_)); refine VC.condD rfl (fun c2 => ?_) (fun c2 => ?_)
  · have c2 : badE l dl ≠ 0 := c2; refine VC.seq (VC.text ?_); refine VO.c (.move rfl) (VO.c (.assign rfl) (VO.c (.assign rfl) (VO.go ?_))); refine VC.cell0 3 (.int .i64) ?_; refine VC.ret ?_; simp only [thenV]; exact VEndG.rowT rfl evT evT ⟨(.slice none 0 0), rowT_end (by rw [latR, if_neg (by rw [lat_b c2]; exact c2)]) (by exact (lat_b c2).symm)⟩
  have hz : badE l dl = 0 := Classical.not_not.1 c2; have h0 := bad_0 hz; have hp := plan_ok h0.1; have hd := dur_ok hp true; refine VC.skip (VC.seq (VC.seq (VC.drawn ?_))); refine VD.c (.move rfl) ?_; refine VD.call rfl rfl (VF.call (cDur_ok hp)) ?_; refine VD.c (.fld (.r .o)) ?_; refine VD.r [] (.ld vt3) (.inl rfl) ?_; refine VD.c (.gtr) (VD.go ?_); refine VC.condD rfl (fun c4 => ?_) (fun c4 => ?_)
  · refine VC.seq (VC.text ?_); refine VO.c (.assign rfl) (VO.c (.assign rfl) (VO.go ?_)); refine VC.cell0 3 (.int .i64) ?_; refine VC.ret ?_; simp only [thenV]; exact VEndG.rowT rfl evT evT ⟨(.slice none 0 0), rowT_end (by rw [latR, if_neg (by rw [lat_t hz c4]; decide)]) (by exact (lat_t hz c4).symm)⟩
  refine VC.skip (VC.seq (VC.text ?_)); refine VO.c (.move rfl) ?_; refine VO.call rfl rfl (VF.call (cChains_ok (F := dE true) hp hd (fun _ _ => VF.call cMost_ok))) ?_; refine VO.c (.func) ?_; refine VO.callG [] rfl rfl rfl (VFG.call (cMapIIo_ok (F := fun n => dl - n) (by rw [chnL_len]; have := hp.len; omega) (fun x hx => VF.clo (cLat1_ok (by have := chnL_b hp hd hx; omega) h0.2)))) ?_; rintro _ _ ⟨ww4, rfl, rfl⟩; show VO _ _ _ _ _ _ [(ww4, .row 3 (.int .i64) ((chnL (dE true) l).map (fun n => dl - n)))] _; refine VO.c (.assign rfl) (VO.c (.assign rfl) (VO.go ?_)); refine VC.ret ?_; exact VEndG.rowT rfl evT evT ⟨ww4, rowT_end (by rw [latR, if_pos (lat_f hz c4)]; rfl) (by exact (lat_f hz c4).symm)⟩
theorem cLatestV_ok {l : List (ByteArray × Int × Int × (List Int))} {dl : Int} (hl : l.length < 100000) (hb : ∀ x ∈ l, x.2.2.2.length < 100000) : VF Tryz.prog OA 26 [.v y29 l, I dl] (.tup [.v y25 (latR l dl), I (latE l dl)]) := by
  refine VF.enter Tryz.func26 rfl (fun _ _ => rfl) rfl ?_; show VC _ _ _ _ _ [(0, .v y29 l), (1, I dl)] [] _; refine VC.seq (VC.text ?_); refine VO.c (.assign rfl) (VO.c (.assign rfl) ?_); refine VO.go (VC.seq (VC.text ?_)); refine VO.c (.move rfl) (VO.c (.move rfl) ?_); refine VO.callG [] rfl rfl rfl (VFG.call (cLatest_ok (by first | assumption | omega | simp) (by first | assumption | omega | simp))) ?_; rintro _ _ ⟨ww5, rfl, rfl⟩; show VO _ _ _ _ _ _ [(ww5, .row 3 (.int .i64) (latR l dl))] _; refine VO.c (.extract) (VO.c (.extract) (VO.c (.assign rfl) (VO.c (.assign rfl) ?_))); refine VO.go ?_; refine VC.ret ?_; exact VEnd.two rfl (evC (.row m0)) evT (pvE (by rfl)) (pvI (by first | rfl | simp))
def slaF (l : List Pha) (dl : Int) (i : Nat) : Int := dl - chnF (dE true) l i - begF (dE true) l i
def slaL (l : List Pha) (dl : Int) : List Int := (List.range l.length).map (slaF l dl)
def slaR (l : List Pha) (dl : Int) : List Int := if latE l dl = 0 then slaL l dl else []
def slaW (l : List Pha) (dl : Int) (j : Nat) : List Int := (List.range l.length).map fun i => if i < j then slaF l dl i else dl - chnF (dE true) l i
theorem slaW_0 {l : List Pha} {dl : Int} : latL l dl = slaW l dl 0 := by
  unfold latL slaW chnL; rw [List.map_map]; exact List.map_congr_left fun i _ => (if_neg (Nat.not_lt_zero _)).symm
theorem slaW_len {l : List Pha} {dl : Int} {j : Nat} : (slaW l dl j).length = l.length := by simp [slaW]
theorem slaW_at {l : List Pha} {dl : Int} {j i : Nat} (h : i < (slaW l dl j).length) : (slaW l dl j)[i] = if i < j then slaF l dl i else dl - chnF (dE true) l i := by simp [slaW]
theorem slaW_end {l : List Pha} {dl : Int} : slaW l dl l.length = slaL l dl := List.map_congr_left fun i hi => if_pos (List.mem_range.1 hi)
theorem slaW_set {l : List Pha} {dl : Int} {j : Nat} (hj : j < l.length) {x y : Int} (hx : x = dl - chnF (dE true) l j) (hy : y = begF (dE true) l j) : (slaW l dl j).set j (x - y) = slaW l dl (j + 1) := by
  refine List.ext_getElem (by rw [List.length_set, slaW_len, slaW_len]) fun i h1 h2 => ?_; rw [List.getElem_set, slaW_at, slaW_at]; by_cases e : j = i
  · subst e; rw [if_pos rfl, if_pos (by omega), hx, hy] <;> rfl
  rw [if_neg e]; by_cases h : i < j
  · rw [if_pos h, if_pos (by omega)]
  rw [if_neg h, if_neg (by omega)]
theorem latR_0 {l : List Pha} {dl : Int} (h : latE l dl = 0) : latR l dl = latL l dl := if_pos h
theorem latE_0 {l : List Pha} {dl : Int} (h : latE l dl = 0) : badE l dl = 0 := by
  by_cases hb : badE l dl = 0
  · exact hb
  rw [lat_b hb] at h; exact h
theorem cSlack_ok {l : List (ByteArray × Int × Int × (List Int))} {dl : Int} (hl : l.length < 100000) (hb : ∀ x ∈ l, x.2.2.2.length < 100000) : VF Tryz.prog OA 27 [.v y29 l, I dl] (.tup [.v y25 (slaR l dl), I (latE l dl)]) := by
  refine VF.enter Tryz.func27 rfl (fun _ _ => rfl) rfl ?_; show VC _ _ _ _ _ [(0, .v y29 l), (1, I dl)] [] _; refine VC.seq (VC.text ?_); refine VO.c (.assign rfl) (VO.c (.assign rfl) ?_); refine VO.go (VC.seq (VC.text ?_)); refine VO.c (.move rfl) (VO.c (.move rfl) ?_); refine VO.callG [] rfl rfl rfl (VFG.call (cLatest_ok (by first | assumption | omega | simp) (by first | assumption | omega | simp))) ?_; rintro _ _ ⟨ww6, rfl, rfl⟩; show VO _ _ _ _ _ _ [(ww6, .row 3 (.int .i64) (latR l dl))] _; refine VO.c (.move rfl) (VO.c (.extract) (VO.c (.extract) (VO.c (.assign rfl) ?_))); refine VO.c (.assign rfl) ?_; refine VO.go (VC.seq (VC.seq (VC.text ?_))); refine VO.c (.move rfl) (VO.c (.neq) (VO.go ?_)); refine VC.condD rfl (fun c2 => ?_) (fun c2 => ?_)
  · refine VC.seq (VC.text ?_); refine VO.c (.move rfl) (VO.c (.assign rfl) (VO.c (.assign rfl) (VO.go ?_))); refine VC.ret ?_; exact VEnd.two rfl (evC .nil) evT (pvE (by rw [slaR, if_neg c2])) (pvI (by rfl))
  have hz := Classical.not_not.1 c2; have h0 := bad_0 (latE_0 hz); have hp := plan_ok h0.1; have hd := dur_ok hp true; have hlen := hp.len; have hbl : (begL (dE true) l l.length).length = l.length := begL_len; refine VC.skip (VC.seq (VC.text ?_)); refine VO.c (.move rfl) ?_; refine VO.call rfl rfl (VF.call (cStarts_ok (F := dE true) hp hd (fun _ _ => VF.call cMost_ok))) ?_; refine VO.c (.move rfl) (VO.c (.extract) (VO.c (.extract) (VO.c (.assign rfl) ?_))); refine VO.c (.assign rfl) ?_; refine VO.go (VC.seq (VC.seq (VC.text ?_))); refine VO.c (.move rfl) ?_; refine VO.r (.len el25) ?_; refine VO.c (.move rfl) ?_; refine VO.go (VC.block ?_); refine VC.keep [(6, .raw ww6), (26, .v y25 (begL (dE true) l l.length)), (27, I (((begL (dE true) l l.length).length : Nat) : Int)), (28, I ((0 : Nat) : Int))] ⟨rfl, rfl, rfl, rfl, trivial⟩ ?_; refine VC.loop (I := fun kk ff ss => ∃ (j : Nat), kk = l.length - j ∧ ff = [(6, .raw ww6), (26, .v y25 (begL (dE true) l l.length)), (27, I (((begL (dE true) l l.length).length : Nat) : Int)), (28, I ((j : Nat) : Int))] ∧ ss = [(ww6, .row 3 (.int .i64) (slaW l dl j))] ∧ (j ≤ l.length)) ?_ _ _ _ ⟨0, rfl, rfl, (by rw [latR_0 hz, slaW_0]), Nat.zero_le _⟩; rintro kk ff ss ⟨j, hk0, rfl, rfl, hj⟩; have hsl := slaW_len (l := l) (dl := dl) (j := j); refine VC.seq (VC.text ?_); refine VO.c (.lss) ?_; refine VO.go (VC.seq ?_); refine VC.condD rfl (fun c6 => ?_) (fun c6 => ?_)
  · have hjl : j < l.length := by omega
    have hbg : (begL (dE true) l l.length)[j]'(by omega) = begF (dE true) l j := by rw [← getDg (d := 0) (by omega), begL_get (by omega)]
    have hsa : (slaW l dl j)[j]'(by omega) = dl - chnF (dE true) l j := by rw [slaW_at, if_neg (by omega)]
    have hb1 := beg_b hd (i := j) (by omega) (phA l j).2.2.2.length; have hb2 := chn_bd hp hd hjl; refine VC.skip (VC.seq (VC.block (VC.seq (VC.text ?_)))); refine VO.c (.move rfl) (VO.c (.ix (j := j) rfl rfl el25 (by omega)) ?_); refine VO.r (.ld vt3) ?_; refine VO.c (.assign rfl) (VO.c (.assign rfl) ?_); refine VO.go (VC.text ?_); refine VO.c (.move rfl) (VO.c (.move rfl) (VO.c (.ixO (j := j) rfl rfl m0 el25 (by omega)) ?_)); refine VO.r (.ldO rfl m0 vt3 (by omega)) ?_; refine VO.c (.move rfl) (VO.c (.sub rfl rfl (by rw [hsa, hbg, begF]; omega)) (VO.c (.ixO (j := j) rfl rfl m0 el25 (by omega)) ?_)); refine VO.setE j rfl rfl vt3 (by omega) ?_; refine VO.nil (VC.text ?_); refine VO.c (.add rfl rfl (by omega)) (VO.c (.move rfl) ?_); refine VO.nil ?_; refine ⟨_, [(6, .raw ww6), (26, .v y25 (begL (dE true) l l.length)), (27, I (((begL (dE true) l l.length).length : Nat) : Int)), (28, I (((j + 1) : Nat) : Int))], ?_, ⟨rfl, rfl, rfl, rfl, trivial⟩, (j + 1), rfl, rfl, (by rw [slaW_set hjl hsa hbg]), (by omega)⟩; omega
  refine VC.exit (VC.seq (VC.text ?_)); refine VO.c (.move rfl) (VO.c (.assign rfl) (VO.c (.assign rfl) (VO.go ?_))); refine VC.ret ?_; exact VEnd.two rfl (evC (.row m0)) evT (pvE (by rw [slaR, if_pos hz, show j = l.length by omega, slaW_end])) (pvI (by exact hz.symm))
end Go.Proofs
namespace Go.Proofs
open Go.Fs
set_option maxHeartbeats 1000000
end Go.Proofs
namespace Go.Proofs
open Go.Fs
set_option maxHeartbeats 1000000
theorem crit_inv {d : Pha → Int} {l : List Pha} (hp : PlanOk l) (hd : DurOk d l) : ∀ (f : Nat) {fr : List Int} {left M : Int}, CritI d l f fr left → (∀ x ∈ fr, M ≤ begF d l x.toNat + left) → M = maxL (chnL d l) →
    (∀ x ∈ critG d l f fr left, 0 ≤ x ∧ x < ((l.length : Nat) : Int) ∧ begF d l x.toNat + chnF d l x.toNat = M) ∧ sumE d l (critG d l f fr left) = max 0 left
  | 0, fr, left, M, hI, hb, hM => by
    have he : fr = [] := List.eq_nil_iff_forall_not_mem.2 fun x hx => by have := hI.rng x hx; omega
    have hl : left = 0 := by rw [hI.mx, he] <;> rfl
    exact ⟨fun x hx => (by cases hx), by rw [hl]; rfl⟩
  | f + 1, fr, left, M, hI, hb, hM => by
    by_cases h0 : 0 < left
    · obtain ⟨k, hk, hck, hke, _, hf0⟩ := hI.pos h0; rw [critG_step hk h0 hck hf0]; have hr := hI.rng _ (List.getElem_mem hk); have hbk := hb _ (List.getElem_mem hk); have hce := chn_end hp hd _ fr[k].toNat (Nat.le_refl _) (by omega); rw [dur_chn hp hd, ← hM, hke] at hce
      have hbe : begF d l fr[k].toNat + left = M := by omega
      have hcf : d (phA l fr[k].toNat) + aftF d l fr[k].toNat = left := hke; have haf := (chn_bd hp hd (p := fr[k].toNat) (by omega)).1
      obtain ⟨h1, h2⟩ := crit_inv hp hd f (M := M) (hI.next hp hk hke) (fun x hx => by
        obtain ⟨q, hq, hm, rfl⟩ := behF_mem.1 hx; obtain ⟨j, hj, he⟩ := List.mem_iff_getElem.1 hm; rw [Int.toNat_natCast]
        have h6 : endF d l fr[k].toNat ≤ begF d l q := by
          unfold begF
          have : ∀ n, j < n → n ≤ (phA l q).2.2.2.length → endF d l fr[k].toNat ≤ begE (endL d l q) (phA l q).2.2.2 n := fun n => by
            induction n with
            | zero => intro h7 _; omega
            | succ n ihn =>
              intro h7 h8; show _ ≤ max _ _; by_cases e : j = n
              · subst e; have hlt := (hp.bef q hq j hj).2.1; rw [getDg hj, he] at hlt; rw [getDg hj, he, Int.toNat_natCast, endL_get (by omega)]; omega
              have := ihn (by omega) (by omega); omega
          exact this _ hj (Nat.le_refl _)
        unfold endF at h6
        omega) hM
      refine ⟨fun x hx => ?_, ?_⟩
      · rcases List.mem_cons.1 hx with rfl | hx
        · exact ⟨hr.1, hr.2.1, by rw [hke]; exact hbe⟩
        exact h1 x hx
      show (List.map _ (_ :: _)).sum = _; rw [List.map_cons, List.sum_cons]; have h2 : (List.map (fun x : Int => d (phA l x.toNat)) (critG d l (f + 1 - 1) (behF l l.length fr[k].toNat) (left - d (phA l fr[k].toNat)))).sum = _ := h2; rw [h2]; omega
    rw [critG_end h0]; exact ⟨fun x hx => (by cases hx), by show (0 : Int) = _; omega⟩
theorem crit_adj {d : Pha → Int} {l : List Pha} (hp : PlanOk l) : ∀ (f : Nat) {fr : List Int} {left : Int}, CritI d l f fr left → ∀ (i : Nat) (x y : Int), (critG d l f fr left)[i]? = some x → (critG d l f fr left)[i + 1]? = some y → x ∈ (phA l y.toNat).2.2.2
  | 0, fr, left, hI, i, x, y, hx, hy => by simp [critG] at hx
  | f + 1, fr, left, hI, i, x, y, hx, hy => by
    by_cases h0 : 0 < left
    · obtain ⟨k, hk, hck, hke, _, hf0⟩ := hI.pos h0; have hI2 := hI.next hp hk hke; have hs := critG_step (d := d) (l := l) hk h0 hck hf0; rw [hs] at hx hy; rw [List.getElem?_cons_succ] at hy
      cases i with
      | zero =>
        rw [List.getElem?_cons_zero] at hx; obtain rfl := Option.some.inj hx; have hr := hI.rng _ (List.getElem_mem hk); by_cases h1 : 0 < left - d (phA l fr[k].toNat)
        · obtain ⟨k2, hk2, hck2, _, _, hf2⟩ := hI2.pos h1; rw [critG_step (d := d) (l := l) hk2 h1 hck2 hf2, List.getElem?_cons_zero] at hy; obtain rfl := Option.some.inj hy; obtain ⟨q, hq, hm, he⟩ := behF_mem.1 (List.getElem_mem hk2); rw [he, Int.toNat_natCast]; rw [Int.toNat_of_nonneg hr.1] at hm; exact hm
        rw [critG_end h1] at hy; cases hy
      | succ i =>
        rw [List.getElem?_cons_succ] at hx; exact crit_adj hp f hI2 i x y hx hy
    rw [critG_end h0] at hx; cases hx
theorem crit_prop {l : List Pha} (hp : PlanOk l) : (∀ x ∈ critE l, 0 ≤ x ∧ x < ((l.length : Nat) : Int) ∧ begF (dE true) l x.toNat + chnF (dE true) l x.toNat = (durE l).2) ∧ sumE (dE true) l (critE l) = (durE l).2 ∧ ∀ i (h : i + 1 < (critE l).length), (critE l)[i] ∈ (phA l ((critE l)[i + 1]).toNat).2.2.2 := by
  have hd := dur_ok hp true; have hM : (durE l).2 = maxL (chnL (dE true) l) := dur_chn hp hd
  obtain ⟨h1, h2⟩ := crit_inv hp hd l.length (M := (durE l).2) (crit_init (d := dE true) (l := l)) (fun x hx => by
    obtain ⟨q, hq, rfl⟩ := List.mem_map.1 hx; have := List.mem_range.1 hq; have := (beg_b hd (i := q) (by omega) (phA l q).2.2.2.length).1; rw [Int.toNat_natCast, hM]; show _ ≤ begF _ _ _ + _; unfold begF
    omega) hM
  refine ⟨h1, ?_, fun i h => crit_adj hp l.length crit_init i _ _ (List.getElem?_eq_getElem (show i < (critE l).length by omega)) (List.getElem?_eq_getElem (show i + 1 < (critE l).length from h))⟩; have : 0 ≤ maxL (chnL (dE true) l) := maxL_nn; show sumE _ _ (critG _ _ _ _ _) = _; rw [h2, hM]; omega
def accV (v : Nat → Option Int) (d : Int) (b : List Int) : Nat → Option Int
  | 0 => none
  | j + 1 => match v (b.getD j 0).toNat with
    | some e => some (max ((accV v d b j).getD 0) (e + d))
    | none => accV v d b j
def pthL (d : Pha → Int) (l : List Pha) (i : Nat) (s : Int) : Nat → List (Option Int)
  | 0 => []
  | k + 1 => pthL d l i s k ++ [if k < i then none else if k = i then some (s + d (phA l i)) else accV (fun p => (pthL d l i s k).getD p none) (d (phA l k)) (phA l k).2.2.2 (phA l k).2.2.2.length]
def vF (d : Pha → Int) (l : List Pha) (i : Nat) (s : Int) (k : Nat) : Option Int := (pthL d l i s (k + 1)).getD k none
theorem pthL_len {d : Pha → Int} {l : List Pha} {i : Nat} {s : Int} : ∀ {k : Nat}, (pthL d l i s k).length = k
  | 0 => rfl
  | k + 1 => by
    show (pthL d l i s k ++ [_]).length = _; rw [List.length_append, pthL_len (k := k)] <;> rfl
theorem pthL_get {d : Pha → Int} {l : List Pha} {i p : Nat} {s : Int} : ∀ {k : Nat}, p < k → (pthL d l i s k).getD p none = vF d l i s p
  | 0, h => by omega
  | k + 1, h => by
    by_cases e : p = k
    · subst e; rfl
    have ih := pthL_get (d := d) (l := l) (i := i) (s := s) (k := k) (p := p) (by omega); rw [← ih]; show (pthL d l i s k ++ [_]).getD p none = _; rw [List.getD_eq_getElem?_getD, List.getElem?_append_left (by rw [pthL_len]; omega), ← List.getD_eq_getElem?_getD]
theorem accV_congr {v v' : Nat → Option Int} {d : Int} {b : List Int} : ∀ j, (∀ q, q < j → v (b.getD q 0).toNat = v' (b.getD q 0).toNat) → accV v d b j = accV v' d b j
  | 0, _ => rfl
  | j + 1, h => by
    unfold accV; rw [h j (by omega), accV_congr j fun q hq => h q (by omega)]
theorem vF_last {d : Pha → Int} {l : List Pha} {i k : Nat} {s : Int} : vF d l i s k = if k < i then none else if k = i then some (s + d (phA l i)) else accV (fun p => (pthL d l i s k).getD p none) (d (phA l k)) (phA l k).2.2.2 (phA l k).2.2.2.length := by
  show (pthL d l i s k ++ [_]).getD k none = _; rw [List.getD_eq_getElem?_getD, List.getElem?_append_right (by rw [pthL_len]; exact Nat.le_refl _), pthL_len, Nat.sub_self] <;> rfl
theorem vF_lt {d : Pha → Int} {l : List Pha} {i k : Nat} {s : Int} (h : k < i) : vF d l i s k = none := by rw [vF_last, if_pos h]
theorem vF_i {d : Pha → Int} {l : List Pha} {i : Nat} {s : Int} : vF d l i s i = some (s + d (phA l i)) := by rw [vF_last, if_neg (by omega), if_pos rfl]
theorem vF_gt {d : Pha → Int} {l : List Pha} (hp : PlanOk l) {i k : Nat} {s : Int} (h : i < k) (hk : k < l.length) : vF d l i s k = accV (vF d l i s) (d (phA l k)) (phA l k).2.2.2 (phA l k).2.2.2.length := by
  rw [vF_last, if_neg (by omega), if_neg (by omega)]; refine accV_congr _ fun q hq => ?_; have := hp.bef k hk q hq; exact pthL_get (by omega)
theorem acc_le {d : Pha → Int} {l : List Pha} (hp : PlanOk l) {i k : Nat} {s : Int} (hk : k < l.length) (hv : ∀ p, p < k → ∀ e, vF d l i s p = some e → 0 ≤ e ∧ e + aftF d l p ≤ s + chnF d l i) (hc : 0 ≤ d (phA l k)) : ∀ j, j ≤ (phA l k).2.2.2.length → ∀ e, accV (vF d l i s) (d (phA l k)) (phA l k).2.2.2 j = some e → 0 ≤ e ∧ e + aftF d l k ≤ s + chnF d l i
  | 0, _, e, h => by cases h
  | j + 1, hj, e, h => by
    have hb := hp.bef k hk j (by omega); have ih := acc_le hp hk hv hc j (by omega); unfold accV at h
    cases hq : vF d l i s ((phA l k).2.2.2.getD j 0).toNat with
    | none => rw [hq] at h; exact ih e h
    | some x =>
      rw [hq] at h; have h1 := hv _ (by omega) x hq
      have h2 : chnF d l k ≤ aftF d l ((phA l k).2.2.2.getD j 0).toNat := by
        rw [aftF_eq hp ((phA l k).2.2.2.getD j 0).toNat]; refine maxL_ge (List.mem_map.2 ⟨((k : Nat) : Int), behF_mem.2 ⟨k, hk, ?_, rfl⟩, by rw [Int.toNat_natCast]⟩); rw [Int.toNat_of_nonneg hb.1, getDg (by omega)]; exact List.getElem_mem _
      have h3 : chnF d l k = d (phA l k) + aftF d l k := rfl; simp only [Option.some.injEq] at h
      cases ha : accV (vF d l i s) (d (phA l k)) (phA l k).2.2.2 j with
      | none =>
        rw [ha] at h; simp only [Option.getD_none] at h
        omega
      | some y =>
        rw [ha] at h; have h4 := ih y ha; simp only [Option.getD_some] at h; omega
theorem v_le {d : Pha → Int} {l : List Pha} (hp : PlanOk l) (hd : DurOk d l) {i : Nat} {s : Int} (hi : i < l.length) (hs : 0 ≤ s) : ∀ (m k : Nat), k ≤ m → k < l.length → ∀ e, vF d l i s k = some e → 0 ≤ e ∧ e + aftF d l k ≤ s + chnF d l i := by
  intro m
  induction m with
  | zero =>
    intro k hm hk e h; by_cases hki : k < i
    · rw [vF_lt hki] at h; cases h
    obtain rfl : i = k := by omega
    rw [vF_i] at h; have := hd i hi; have h3 : chnF d l i = d (phA l i) + aftF d l i := rfl; simp only [Option.some.injEq] at h
    omega
  | succ m ih =>
    intro k hm hk e h; by_cases hki : k < i
    · rw [vF_lt hki] at h; cases h
    by_cases hke : k = i
    · subst hke; rw [vF_i] at h; have := hd k hi; have h3 : chnF d l k = d (phA l k) + aftF d l k := rfl; simp only [Option.some.injEq] at h; omega
    rw [vF_gt hp (by omega) hk] at h; exact acc_le hp hk (fun p hp2 => ih p (by omega) (by omega)) (hd k hk).1 _ (Nat.le_refl _) e h
theorem acc_ge {v : Nat → Option Int} {d : Int} {b : List Int} {q : Nat} {x : Int} (hq : v (b.getD q 0).toNat = some x) : ∀ j, q < j → ∃ e, accV v d b j = some e ∧ x + d ≤ e
  | 0, h => by omega
  | j + 1, h => by
    unfold accV; by_cases e : q = j
    · subst e; rw [hq]; exact ⟨_, rfl, by omega⟩
    obtain ⟨y, h1, h2⟩ := acc_ge (v := v) (d := d) (b := b) hq j (by omega)
    cases hv : v (b.getD j 0).toNat with
    | none => exact ⟨y, h1, h2⟩
    | some z =>
      simp only [h1, Option.getD_some]; exact ⟨_, rfl, by omega⟩
theorem v_reach {d : Pha → Int} {l : List Pha} (hp : PlanOk l) {i : Nat} {s : Int} : ∀ (f k : Nat), l.length - k ≤ f → i ≤ k → k < l.length → ∀ e, vF d l i s k = some e → ∃ q y, i ≤ q ∧ q < l.length ∧ vF d l i s q = some y ∧ e + aftF d l k ≤ y
  | 0, k, hf, _, hk, _, _ => by omega
  | f + 1, k, hf, hik, hk, e, h => by
    rcases maxL_mem (l := (behF l l.length k).map fun x => chnF d l x.toNat) with h3 | h3
    · rw [← aftF_eq hp] at h3; exact ⟨k, e, hik, hk, h, by omega⟩
    rw [← aftF_eq hp] at h3; obtain ⟨x, hx, he⟩ := List.mem_map.1 h3; have h4 := beh_lt hp hx; obtain ⟨q, hq, hm, rfl⟩ := behF_mem.1 hx; rw [Int.toNat_natCast] at he; obtain ⟨j, hj, hje⟩ := List.mem_iff_getElem.1 hm; obtain ⟨y, h5, h6⟩ := acc_ge (v := vF d l i s) (d := d (phA l q)) (b := (phA l q).2.2.2) (q := j) (x := e) (by rw [getDg hj, hje, Int.toNat_natCast]; exact h) _ hj; rw [← vF_gt hp (by omega) hq] at h5; obtain ⟨q2, y2, g1, g2, g3, g4⟩ := v_reach hp f q (by omega) (by omega) hq y h5; refine ⟨q2, y2, g1, g2, g3, ?_⟩; have : chnF d l q = d (phA l q) + aftF d l q := rfl; omega
def endW (d : Pha → Int) (l : List Pha) (i : Nat) (s : Int) : Nat → Int
  | 0 => 0
  | k + 1 => match vF d l i s k with
    | some e => max (endW d l i s k) e
    | none => endW d l i s k
theorem endW_le {d : Pha → Int} {l : List Pha} {i : Nat} {s M : Int} (hM : 0 ≤ M) : ∀ m, (∀ k, k < m → ∀ e, vF d l i s k = some e → e ≤ M) → endW d l i s m ≤ M
  | 0, _ => hM
  | m + 1, h => by
    have ih := endW_le hM m fun k hk => h k (by omega); unfold endW
    cases hv : vF d l i s m with
    | none => exact ih
    | some e => have := h m (by omega) e hv; simp only; omega
theorem endW_ge {d : Pha → Int} {l : List Pha} {i : Nat} {s : Int} {k : Nat} {e : Int} (hv : vF d l i s k = some e) : ∀ m, k < m → e ≤ endW d l i s m
  | 0, h => by omega
  | m + 1, h => by
    unfold endW; by_cases hk : k = m
    · subst hk; rw [hv]; simp only; omega
    have := endW_ge hv m (by omega)
    cases vF d l i s m with
    | none => exact this
    | some x => simp only; omega
theorem endW_eq {d : Pha → Int} {l : List Pha} (hp : PlanOk l) (hd : DurOk d l) {i : Nat} {s : Int} (hi : i < l.length) (hs : 0 ≤ s) : endW d l i s l.length = s + chnF d l i := by
  have hcb := chn_bd hp hd hi; refine Int.le_antisymm (endW_le (by omega) _ fun k hk e he => ?_) ?_
  · have h1 := v_le hp hd hi hs k k (Nat.le_refl _) hk e he; have := (chn_bd hp hd hk).1; omega
  obtain ⟨q, y, _, h2, h3, h4⟩ := v_reach hp (d := d) (s := s) (i := i) _ i (Nat.le_refl _) (Nat.le_refl _) hi _ vF_i; have h5 := endW_ge h3 l.length h2; have : chnF d l i = d (phA l i) + aftF d l i := rfl; omega
theorem endW_low {d : Pha → Int} {l : List Pha} {i : Nat} {s : Int} : ∀ m, m ≤ i → endW d l i s m = 0
  | 0, _ => rfl
  | m + 1, h => by
    unfold endW; rw [vF_lt (by omega)]; exact endW_low m (by omega)
theorem endW_i {d : Pha → Int} {l : List Pha} {i : Nat} {s : Int} (h : 0 ≤ s + d (phA l i)) : endW d l i s (i + 1) = s + d (phA l i) := by
  unfold endW; rw [vF_i, endW_low i (Nat.le_refl _)]; simp only; omega
end Go.Proofs
namespace Go.Fs
variable {P : Program} {orc : FuncId → List Value → Heap → Option (Value × Heap)} {rnd : Option Nat} {h h' h0 h1 h2 : Heap} {S S' S0 B G : List Nat} {σ σ' σr : Sto} {t t' : Tr} {ms : List Nat} {fl : VL} {ops : Array Oper} {n i mem : Nat} {l : List Oper} {K : VL → Sto → Prop} {Q : Ex → VL → Sto → Prop}
  {d : Tmp} {ty : TypeId} {pos : String} {after : Array Edge} {op : Op} {v pv : PV} {g : Option (Nat × Bool)} {x y z : Operand} {T T' e : TypeId} {τ τ' : Ty} {bs nw : List Nat} {segs : List (Nat × Nat × Nat)} {tail so : Bool} {w w' : Value} {c c' : Cell}
end Go.Fs
namespace Go.Fs
variable {P : Program} {fl : VL} {σ : Sto} {T : TypeId} {τ : Ty} {h : Heap} {S : List Nat}
inductive PartP : PV → List PV → Prop where
  | v {τ : Ty} {x : τ.den} : PartP (.v τ x) (cellsPV τ x)
  | w {w : Value} (ho : oneCell w = true) : PartP (.raw w) [.raw w]
inductive BldR (pl : List (Nat × Nat)) : List PV → List Nat → List PV → List PV → Prop where
  | nil {L L' : List PV} (h : L = L') : BldR pl L [] [] L'
  | cons {L L' : List PV} {i o : Nat} {is : List Nat} {p : PV} {ps qs : List PV} (hp : PartP p qs) (hpl : pl[i]? = some (o, qs.length)) (ho : Nat.ble (o + qs.length) L.length = true) (r : BldR pl (spl L o qs) is ps L') : BldR pl L (i :: is) (p :: ps) L'
end Go.Fs
namespace Go.Fs
variable {P : Program} {fl : VL} {σ : Sto} {T T' : TypeId} {x y : Operand} {p q : Int}
end Go.Fs
namespace Go.Fs
variable {P : Program} {orc : FuncId → List Value → Heap → Option (Value × Heap)} {h : Heap} {σ ρ : Sto} {fl : VL} {ops : Array Oper} {n i mem : Nat} {l : List Oper} {K : VL → Sto → Prop} {nw bs : List Nat} {tl : Bool} {hr : Heap} {S0 A : List Nat} {t : Tr} {rd chg : List Nat}
end Go.Fs
namespace Go.Fs
variable {P : Program} {orc : FuncId → List Value → Heap → Option (Value × Heap)} {rnd : Option Nat} {h h' h0 h1 h2 hr : Heap} {S S' S0 B G A : List Nat} {σ σ' σr ρ : Sto} {t t' : Tr} {ms : List Nat} {fl : VL} {ops : Array Oper} {n i mem : Nat} {l : List Oper} {K : VL → Sto → Prop}
  {d : Tmp} {ty : TypeId} {pos : String} {after : Array Edge} {op : Op} {v pv : PV} {g : Option (Nat × Bool)} {x y z : Operand} {T T' e : TypeId} {τ τ' : Ty} {bs nw rd chg : List Nat} {segs : List (Nat × Nat × Nat)} {tail tl : Bool} {w w' : Value}
end Go.Fs
namespace Go.Proofs
open Go.Fs
set_option maxHeartbeats 4000000
def lngP (l : List Pha) (k : Nat) : List Pha := l.set k ((phA l k).1, (phA l k).2.1, (phA l k).2.2.1 + 1, (phA l k).2.2.2)
theorem lng_len {l : List Pha} {k : Nat} : (lngP l k).length = l.length := by simp [lngP]
theorem lng_at {l : List Pha} {k i : Nat} (hk : k < l.length) : phA (lngP l k) i = if i = k then ((phA l k).1, (phA l k).2.1, (phA l k).2.2.1 + 1, (phA l k).2.2.2) else phA l i := by
  unfold lngP phA; by_cases e : i = k
  · subst e; rw [if_pos rfl, List.getD_eq_getElem?_getD, List.getElem?_set_self hk] <;> rfl
  rw [if_neg e, List.getD_eq_getElem?_getD, List.getElem?_set_ne (fun h => e h.symm), ← List.getD_eq_getElem?_getD]
theorem twi_map {l : List Pha} {i : Nat} {s : ByteArray} : twiB l i s = ((l.map (·.1)).take i).any fun x => decide (x = s) := by
  unfold twiB; rw [← List.map_take, List.any_map] <;> rfl
theorem lng_names {l : List Pha} {k : Nat} (hk : k < l.length) : (lngP l k).map (·.1) = l.map (·.1) := by
  unfold lngP; rw [List.map_set]; refine List.ext_getElem (by simp) fun i h1 h2 => ?_; rw [List.getElem_set]; split
  · rename_i e; subst e; rw [List.getElem_map, phA_eq hk]
  rfl
theorem lng_ok {l : List Pha} {k : Nat} (hz : planE l = 0) (hk : k < l.length) (hm : (phA l k).2.2.1 ≠ 1000) : planE (lngP l k) = 0 := by
  have hp := plan_ok hz; have hlen := hp.len
  have hall : ∀ i, i < l.length → phaE l i = 0 := by
    unfold planE at hz; rw [if_neg (by omega)] at hz; exact firstR_zero.1 hz
  unfold planE; rw [lng_len, if_neg (by omega)]; refine firstR_zero.2 fun i hi => ?_; have h1 := hall i hi
  have h2 : firstE (headP l i) = 0 := by
    by_cases h : firstE (headP l i) = 0
    · exact h
    rw [pha_h h] at h1; exact absurd h1 h
  rw [pha_b h2] at h1; have h3 := firstE_zero.1 h2; have hd := hp.dur k hk
  have h4 : firstE (headP (lngP l k) i) = 0 := by
    refine firstE_zero.2 fun x hx => ?_; unfold headP at hx h3; rw [lng_at hk, twi_map, lng_names hk, ← twi_map] at hx; by_cases e : i = k
    · subst e; rw [if_pos rfl] at hx; simp only [List.mem_cons, List.not_mem_nil, or_false] at hx h3; rcases hx with rfl | rfl | rfl | rfl | rfl
      · exact h3 _ (.inl rfl)
      · exact h3 _ (.inr (.inl rfl))
      · exact h3 _ (.inr (.inr (.inl rfl)))
      · exact rangeE_zero.2 (by show 0 ≤ (phA l i).2.2.1 + 1 ∧ _; omega)
      exact (whenE_zero (by decide)).2 (decide_eq_false (by show ¬ (phA l i).2.2.1 + 1 < (phA l i).2.1; omega))
    rw [if_neg e] at hx; exact h3 x hx
  rw [pha_b h4, lng_at hk]; by_cases e : i = k
  · subst e; rw [if_pos rfl]; exact h1
  rw [if_neg e]; exact h1
theorem begE_mono {es es' b : List Int} (h : ∀ p, es.getD p 0 ≤ es'.getD p 0) : ∀ k, begE es b k ≤ begE es' b k
  | 0 => Int.le_refl _
  | k + 1 => by
    have h1 := begE_mono h (b := b) k; have h2 := h (b.getD k 0).toNat; show max _ _ ≤ max _ _; omega
theorem begE_one {es es' b : List Int} (h : ∀ p, es'.getD p 0 ≤ es.getD p 0 + 1) : ∀ k, begE es' b k ≤ begE es b k + 1
  | 0 => by show (0 : Int) ≤ 0 + 1; omega
  | k + 1 => by
    have h1 := begE_one h (b := b) k; have h2 := h (b.getD k 0).toNat; show max _ _ ≤ max _ _ + 1; omega
theorem lng_bef {l : List Pha} {k i : Nat} (hk : k < l.length) : (phA (lngP l k) i).2.2.2 = (phA l i).2.2.2 := by
  rw [lng_at hk]; split
  · rename_i e; subst e; rfl
  rfl
theorem lng_short {l : List Pha} {k : Nat} (hk : k < l.length) : ∀ i, endL (dE false) (lngP l k) i = endL (dE false) l i
  | 0 => rfl
  | i + 1 => by
    show endL (dE false) (lngP l k) i ++ [_] = endL (dE false) l i ++ [_]; rw [lng_short hk i, lng_bef hk]; congr 2; rw [lng_at hk]; split
    · rename_i e; subst e; rfl
    rfl
theorem lng_low {l : List Pha} {k : Nat} (hk : k < l.length) : ∀ i, i ≤ k → endL (dE true) (lngP l k) i = endL (dE true) l i
  | 0, _ => rfl
  | i + 1, h => by
    show endL (dE true) (lngP l k) i ++ [_] = endL (dE true) l i ++ [_]; rw [lng_low hk i (by omega), lng_bef hk, lng_at hk, if_neg (by omega)]
theorem lng_end {l : List Pha} {k : Nat} (hk : k < l.length) : ∀ i p, (endL (dE true) l i).getD p 0 ≤ (endL (dE true) (lngP l k) i).getD p 0 ∧ (endL (dE true) (lngP l k) i).getD p 0 ≤ (endL (dE true) l i).getD p 0 + 1
  | 0, p => by simp [endL]
  | i + 1, p => by
    have ih := lng_end hk i; by_cases hp : p < i
    · have := ih p; rw [endL_get hp, endL_get hp] at this; rw [endL_get (by omega), endL_get (by omega)]; exact this
    by_cases e : p = i
    · subst e; rw [endL_get (by omega), endL_get (by omega)]; unfold endF begF; rw [lng_bef hk]; by_cases e2 : p = k
      · subst e2; rw [lng_low hk p (Nat.le_refl _), lng_at hk, if_pos rfl]; show _ ≤ _ + ((phA l p).2.2.1 + 1) ∧ _ + ((phA l p).2.2.1 + 1) ≤ _; show begE _ _ _ + (phA l p).2.2.1 ≤ _ ∧ _ ≤ begE _ _ _ + (phA l p).2.2.1 + 1; omega
      rw [lng_at hk, if_neg e2]; have h1 := begE_mono (b := (phA l p).2.2.2) (fun q => (ih q).1) (phA l p).2.2.2.length; have h2 := begE_one (b := (phA l p).2.2.2) (fun q => (ih q).2) (phA l p).2.2.2.length; omega
    rw [endL_big (by omega), endL_big (by omega)]; omega
theorem lng_max {l : List Pha} {k : Nat} (hk : k < l.length) : (durE l).2 ≤ (durE (lngP l k)).2 ∧ (durE (lngP l k)).2 ≤ (durE l).2 + 1 ∧ (durE (lngP l k)).1 = (durE l).1 := by
  unfold durE; rw [lng_len]
  have hg : ∀ (L : List Int) x, x ∈ L ↔ ∃ p, p < L.length ∧ L.getD p 0 = x := fun L x => by
    rw [List.mem_iff_getElem]; constructor
    · rintro ⟨i, hi, rfl⟩; exact ⟨i, hi, getDg hi⟩
    rintro ⟨i, hi, rfl⟩; exact ⟨i, hi, (getDg hi).symm⟩
  refine ⟨maxL_le.2 ⟨maxL_nn, fun x hx => ?_⟩, maxL_le.2 ⟨by have := maxL_nn (l := endL (dE true) l l.length); show (0 : Int) ≤ maxL _ + 1; omega, fun x hx => ?_⟩, by rw [lng_short hk]⟩
  · obtain ⟨p, hp, rfl⟩ := (hg _ _).1 hx; have h1 := (lng_end hk l.length p).1; have h2 : (endL (dE true) (lngP l k) l.length).getD p 0 ≤ maxL (endL (dE true) (lngP l k) l.length) := maxL_ge ((hg _ _).2 ⟨p, by rw [endL_len] at hp ⊢; exact hp, rfl⟩); show _ ≤ maxL _; omega
  obtain ⟨p, hp, rfl⟩ := (hg _ _).1 hx; have h1 := (lng_end hk l.length p).2; have h2 : (endL (dE true) l l.length).getD p 0 ≤ maxL (endL (dE true) l l.length) := maxL_ge ((hg _ _).2 ⟨p, by rw [endL_len] at hp ⊢; exact hp, rfl⟩); show _ ≤ maxL _ + 1; omega
theorem wf8u {n : Int} (h : (Lit.int .u8 n).wf = true) : 0 ≤ n ∧ n < 256 := by
  have h1 : (decide (IntKind.u8.min ≤ n) && decide (n ≤ IntKind.u8.max)) = true := h; obtain ⟨h2, h3⟩ := band h1; have h4 : (0 : Int) ≤ n := of_decide_eq_true h2; have h5 : n ≤ (255 : Int) := of_decide_eq_true h3; exact ⟨h4, by omega⟩
structure ChnH (l : List Pha) (more dl : Int) : Prop where
  hz : planE l = 0
  h7 : l.length ≤ 7
  hdl : dl = (durR l).2 + more
  mo : 0 ≤ more ∧ more < 256
  hi : 0 ≤ (durR l).2 ∧ (durR l).2 ≤ 16000
  lat0 : latE l dl = 0
  latn : (latR l dl).length = l.length
  slan : (slaR l dl).length = l.length
  crin : (criR l).length ≤ l.length
theorem chn_h {l : List Pha} {more : Int} (hz : planE l = 0) (h7 : l.length ≤ 7) (hm : 0 ≤ more ∧ more < 256) : ChnH l more ((durR l).2 + more) := by
  have hp := plan_ok hz; have hd := dur_ok hp true
  have hM : (durR l).2 = maxL (chnL (dE true) l) := by rw [durR, if_pos hz]; exact dur_chn hp hd
  have h0 : 0 ≤ (durR l).2 ∧ (durR l).2 ≤ 16000 := by
    rw [hM]; exact ⟨maxL_nn, maxL_le.2 ⟨by decide, fun x hx => (chnL_b hp hd hx).2⟩⟩
  have hb : badE l ((durR l).2 + more) = 0 := firstE_zero.2 fun x hx => by
    simp only [List.mem_cons, List.not_mem_nil, or_false] at hx; rcases hx with rfl | rfl
    · exact hz
    exact rangeE_zero.2 (by omega)
  have hl : latE l ((durR l).2 + more) = 0 := lat_f hb (by rw [show durE l = durR l by rw [durR, if_pos hz]]; omega); refine ⟨hz, h7, rfl, hm, h0, hl, ?_, ?_, criR_len⟩
  · rw [latR_0 hl]; simp [latL, chnL]
  rw [slaR, if_pos hl]; simp [slaL]
theorem ChnH.crit {l : List Pha} {more dl : Int} (h : ChnH l more dl) {j : Nat} (hj : j < (criR l).length) : 0 ≤ (criR l)[j] ∧ (criR l)[j] < ((l.length : Nat) : Int) ∧ slaF l dl ((criR l)[j]).toNat = more := by
  have hp := plan_ok h.hz; have hc : criR l = critE l := if_pos h.hz; have hdu : durR l = durE l := if_pos h.hz; have hm : (criR l)[j] ∈ critE l := hc ▸ List.getElem_mem hj; have h1 := (crit_prop hp).1 _ hm; have := h.hdl; refine ⟨h1.1, h1.2.1, ?_⟩; unfold slaF; rw [hdu] at this; omega
theorem ChnH.sla {l : List Pha} {more dl : Int} (h : ChnH l more dl) {i : Nat} (hi : i < (slaR l dl).length) : (slaR l dl)[i] = slaF l dl i := by
  have : (slaR l dl)[i]? = some (slaF l dl i) := by
    rw [slaR, if_pos h.lat0]; have := h.slan; simp only [slaL, List.getElem?_map, List.getElem?_range (show i < l.length by omega), Option.map_some]
  rw [List.getElem?_eq_getElem hi] at this; exact Option.some.inj this
theorem ChnH.lat {l : List Pha} {more dl : Int} (h : ChnH l more dl) {i : Nat} (hi : i < (latR l dl).length) : (latR l dl)[i] = dl - chnF (dE true) l i := by
  have : (latR l dl)[i]? = some (dl - chnF (dE true) l i) := by
    rw [latR_0 h.lat0]; have := h.latn; simp only [latL, chnL, List.map_map, List.getElem?_map, List.getElem?_range (show i < l.length by omega), Option.map_some] <;> rfl
  rw [List.getElem?_eq_getElem hi] at this; exact Option.some.inj this
theorem ChnH.low {l : List Pha} {more dl : Int} (h : ChnH l more dl) {i : Nat} (hi : i < l.length) : more ≤ slaF l dl i ∧ 0 ≤ dl - chnF (dE true) l i ∧ chnF (dE true) l i ≤ 16000 ∧ 0 ≤ chnF (dE true) l i := by
  have hp := plan_ok h.hz; have hd := dur_ok hp true; have h1 := chn_end hp hd _ i (Nat.le_refl _) hi; have hdu : durR l = durE l := if_pos h.hz
  have h2 : maxL (endL (dE true) l l.length) = (durR l).2 := by rw [hdu] <;> rfl
  have h3 := (beg_b hd (i := i) (by omega) (phA l i).2.2.2.length).1; have h4 := chn_bd hp hd hi; have := h.hdl; have := h.mo; unfold slaF; have h5 : 0 ≤ begF (dE true) l i := h3; omega
theorem ChnH.adj {l : List Pha} {more dl : Int} (h : ChnH l more dl) {j z : Nat} (hj : j < (criR l).length) (hz : z + 1 = j) : (phA l ((criR l)[j]).toNat).2.2.2.contains ((criR l)[z]'(by omega)) = true := by
  have hp := plan_ok h.hz; have hc : criR l = critE l := if_pos h.hz; subst hz; have h1 := (crit_prop hp).2.2 z (by rw [← hc]; exact hj); simp only [hc]; exact List.contains_iff_mem.2 h1
theorem ChnH.sum {l : List Pha} {more dl : Int} (h : ChnH l more dl) : sumE (dE true) l (criR l) = (durR l).2 := by
  have hc : criR l = critE l := if_pos h.hz; have hdu : durR l = durE l := if_pos h.hz; rw [hc, hdu]; exact (crit_prop (plan_ok h.hz)).2.1
end Go.Proofs
namespace Go.Proofs
open Go.Fs
set_option maxHeartbeats 4000000
theorem vt4 : ValT Tryz.prog 4 .bool := valT_of (by kernel_rfl)
theorem el83 : ElT Tryz.prog 83 4 .bool := elT_of (by kernel_rfl)
theorem lPlanO_ok {l : List (ByteArray × Int × Int × (List Int))} (hl : l.length < 100000) (hb : ∀ x ∈ l, x.2.2.2.length < 100000) : VFG Tryz.prog OA 17 [.v y22 l] [] (fun r g => ∃ w, r = .raw w ∧ g = [(w, .row 84 y84 l)]) := by
  refine VFG.enter Tryz.func17 rfl (fun _ _ => rfl) rfl ?_; show VC _ _ _ _ _ [(0, .v y22 l)] [] _; refine VC.seq (VC.text ?_); refine VO.c (.assign rfl) ?_; refine VO.go (VC.seq (VC.text ?_)); refine VO.c (.assign rfl) ?_; refine VO.go (VC.seq (VC.seq (VC.text ?_))); refine VO.c (.move rfl) ?_; refine VO.r (.len el22) ?_; refine VO.c (.move rfl) ?_; refine VO.go (VC.block ?_); refine VC.cell0 84 y84 ?_; refine VC.keep [(3, .raw (.slice none 0 0)), (6, .v y22 l), (7, I ((l.length : Nat) : Int)), (8, I ((0 : Nat) : Int))] ⟨rfl, rfl, rfl, rfl, trivial⟩ ?_; refine VC.loop (I := fun kk ff ss => ∃ (j : Nat) (out : Value), kk = l.length - j ∧ ff = [(3, .raw out), (6, .v y22 l), (7, I ((l.length : Nat) : Int)), (8, I ((j : Nat) : Int))] ∧ ss = [(out, .row 84 y84 (l.take j))] ∧ (j ≤ l.length)) ?_ _ _ _ ⟨0, (.slice none 0 0), rfl, rfl, rfl, Nat.zero_le _⟩; rintro kk ff ss ⟨j, out, hk0, rfl, rfl, hj⟩; refine VC.seq (VC.text ?_); refine VO.c (.lss) ?_; refine VO.go (VC.seq ?_); refine VC.condD rfl (fun c3 => ?_) (fun c3 => ?_)
  · have hbx := hb _ (List.getElem_mem (show j < l.length by omega)); refine VC.skip (VC.seq (VC.block (VC.seq (VC.text ?_)))); refine VO.c (.ix (j := j) rfl rfl el22 (by omega)) ?_; refine VO.r (.ld vt80) ?_; refine VO.cell (.alloc zt80) ?_; intro ww1; refine VO.setV (cs' := [St ((l[j]).1), I ((l[j]).2.1), I ((l[j]).2.2.1), .v y25 ((l[j]).2.2.2)]) vt80 .v ?_; refine VO.shut [(5, .p y80 (l[j]))] (.cons rfl (.var m0 .refl) .nil) ?_; refine VO.go (VC.drawn ?_); refine VD.c (.move rfl) (VD.c (.fa (.l .o)) ?_); refine VD.r [] (.ld vt9) (.inl rfl) ?_; refine VD.c (.fa (.r (.l .o))) ?_; refine VD.r [] (.ld vt3) (.inl rfl) ?_; refine VD.c (.fa (.r (.r (.l .o)))) (VD.nw [] ?_); refine VD.r [] (.ld vt3) (.inl rfl) ?_; refine VD.c (.fa (.r (.r (.r .o)))) ?_; refine VD.r [] (.ld vt25) (.inl rfl) ?_; refine VD.call rfl rfl (VF.call (lInts_ok (by omega))) ?_; refine VD.c (.build ((l[j]).1, (l[j]).2.1, (l[j]).2.2.1, ((l[j]).2.2.2)) bt84) ?_; refine VD.new (.lit [((l[j]).1, (l[j]).2.1, (l[j]).2.2.1, ((l[j]).2.2.2))] el29) ?_; refine VD.mk (MakeV.app el29 el29 rfl rfl (by simp; omega)) ?_; rintro _ _ tl2 ⟨ww2, rfl, rfl⟩; refine VD.nw [24, 23, 22, 21] (VD.c (.assign rfl) ?_); refine VD.nil ?_; refine VC.text ?_; refine VO.c (.add rfl rfl (by omega)) (VO.c (.move rfl) ?_); refine VO.nil ?_; refine ⟨_, [(3, .raw ww2), (6, .v y22 l), (7, I ((l.length : Nat) : Int)), (8, I (((j + 1) : Nat) : Int))], ?_, ⟨rfl, rfl, rfl, rfl, trivial⟩, (j + 1), ww2, rfl, rfl, (by rw [List.take_succ_eq_append_getElem (by omega)]), (by omega)⟩; omega
  refine VC.exit (VC.seq (VC.text ?_)); refine VO.c (.move rfl) (VO.c (.assign rfl) (VO.go ?_)); refine VC.ret ?_; exact VEndG.row rfl evT ⟨out, rfl, (by rw [List.take_of_length_le (by omega)])⟩
theorem shortP_l {l : List Pha} (h : shortP l = true) : l.length < 100000 := by have := (shortP_t h).2; omega
theorem shortP_b {l : List Pha} (h : shortP l = true) : ∀ x ∈ l, x.2.2.2.length < 100000 := fun x hx => by have := ((shortP_t h).1 x hx).2; omega
def bsW (d : Pha → Int) (l : List Pha) (i : Nat) (s : Int) (k : Nat) : List Bool := (List.range l.length).map fun q => if q < k then (vF d l i s q).isSome else false
def esW (d : Pha → Int) (l : List Pha) (i : Nat) (s : Int) (k : Nat) : List Int := (List.range l.length).map fun q => if q < k then (vF d l i s q).getD 0 else 0
def acW (d : Pha → Int) (l : List Pha) (i : Nat) (s : Int) (k j : Nat) : Option Int := accV (vF d l i s) (d (phA l k)) (phA l k).2.2.2 j
def bsI (d : Pha → Int) (l : List Pha) (i : Nat) (s : Int) (k j : Nat) : List Bool := (bsW d l i s k).set k (acW d l i s k j).isSome
def esI (d : Pha → Int) (l : List Pha) (i : Nat) (s : Int) (k j : Nat) : List Int := (esW d l i s k).set k ((acW d l i s k j).getD 0)
variable {d : Pha → Int} {l : List Pha} {i k j : Nat} {s : Int}
theorem bsW_len : (bsW d l i s k).length = l.length := by simp [bsW]
theorem esW_len : (esW d l i s k).length = l.length := by simp [esW]
theorem bsI_len : (bsI d l i s k j).length = l.length := by simp [bsI, bsW]
theorem esI_len : (esI d l i s k j).length = l.length := by simp [esI, esW]
theorem bsW_at {q : Nat} (h : q < (bsW d l i s k).length) : (bsW d l i s k)[q] = if q < k then (vF d l i s q).isSome else false := by simp [bsW]
theorem esW_at {q : Nat} (h : q < (esW d l i s k).length) : (esW d l i s k)[q] = if q < k then (vF d l i s q).getD 0 else 0 := by simp [esW]
theorem bsI_at {q : Nat} (h : q < (bsI d l i s k j).length) : (bsI d l i s k j)[q] = if q = k then (acW d l i s k j).isSome else if q < k then (vF d l i s q).isSome else false := by
  unfold bsI at h ⊢; rw [List.getElem_set]; by_cases e : k = q
  · rw [if_pos e, if_pos e.symm]
  rw [if_neg e, if_neg (fun h => e h.symm), bsW_at]
theorem esI_at {q : Nat} (h : q < (esI d l i s k j).length) : (esI d l i s k j)[q] = if q = k then (acW d l i s k j).getD 0 else if q < k then (vF d l i s q).getD 0 else 0 := by
  unfold esI at h ⊢; rw [List.getElem_set]; by_cases e : k = q
  · rw [if_pos e, if_pos e.symm]
  rw [if_neg e, if_neg (fun h => e h.symm), esW_at]
theorem bsW_0 (hi : i < l.length) : (List.replicate l.length false).set i true = bsW d l i s (i + 1) := by
  refine List.ext_getElem (by simp [bsW]) fun q h1 h2 => ?_; rw [List.getElem_set, bsW_at, List.getElem_replicate]; by_cases e : i = q
  · subst e; rw [if_pos rfl, if_pos (by omega), vF_i] <;> rfl
  rw [if_neg e]; by_cases h : q < i + 1
  · rw [if_pos h, vF_lt (by omega)] <;> rfl
  rw [if_neg h]
theorem esW_0 (hi : i < l.length) {x : Int} (hx : x = s + d (phA l i)) : (List.replicate l.length (0 : Int)).set i x = esW d l i s (i + 1) := by
  refine List.ext_getElem (by simp [esW]) fun q h1 h2 => ?_; rw [List.getElem_set, esW_at, List.getElem_replicate]; by_cases e : i = q
  · subst e; rw [if_pos rfl, if_pos (by omega), vF_i, hx] <;> rfl
  rw [if_neg e]; by_cases h : q < i + 1
  · rw [if_pos h, vF_lt (by omega)] <;> rfl
  rw [if_neg h]
theorem bsI_0 : bsI d l i s k 0 = bsW d l i s k := by
  refine List.ext_getElem (by rw [bsI_len, bsW_len]) fun q h1 h2 => ?_; rw [bsI_at, bsW_at]; by_cases e : q = k
  · rw [if_pos e, if_neg (by omega)] <;> rfl
  rw [if_neg e]
theorem esI_0 : esI d l i s k 0 = esW d l i s k := by
  refine List.ext_getElem (by rw [esI_len, esW_len]) fun q h1 h2 => ?_; rw [esI_at, esW_at]; by_cases e : q = k
  · rw [if_pos e, if_neg (by omega)] <;> rfl
  rw [if_neg e]
theorem acW_t {x : Int} (h : vF d l i s ((phA l k).2.2.2.getD j 0).toNat = some x) : acW d l i s k (j + 1) = some (max ((acW d l i s k j).getD 0) (x + d (phA l k))) := by
  unfold acW; rw [accV, h]
theorem acW_f (h : vF d l i s ((phA l k).2.2.2.getD j 0).toNat = none) : acW d l i s k (j + 1) = acW d l i s k j := by
  unfold acW; rw [accV, h]
theorem bsI_t {x : Int} (h : vF d l i s ((phA l k).2.2.2.getD j 0).toNat = some x) : (bsI d l i s k j).set k true = bsI d l i s k (j + 1) := by
  unfold bsI; rw [List.set_set, acW_t h] <;> rfl
theorem esI_t {x a b : Int} (h : vF d l i s ((phA l k).2.2.2.getD j 0).toNat = some x) (ha : a = (acW d l i s k j).getD 0) (hb : b = x + d (phA l k)) : (esI d l i s k j).set k (max a b) = esI d l i s k (j + 1) := by
  unfold esI; rw [List.set_set, acW_t h, ha, hb] <;> rfl
theorem bsI_f (h : vF d l i s ((phA l k).2.2.2.getD j 0).toNat = none) : bsI d l i s k j = bsI d l i s k (j + 1) := by
  unfold bsI; rw [acW_f h]
theorem esI_f (h : vF d l i s ((phA l k).2.2.2.getD j 0).toNat = none) : esI d l i s k j = esI d l i s k (j + 1) := by
  unfold esI; rw [acW_f h]
theorem acW_end (hp : PlanOk l) (hik : i < k) (hk : k < l.length) (hj : j = (phA l k).2.2.2.length) : acW d l i s k j = vF d l i s k := by
  rw [vF_gt hp hik hk, hj] <;> rfl
theorem bsI_end (hp : PlanOk l) (hik : i < k) (hk : k < l.length) (hj : j = (phA l k).2.2.2.length) : bsI d l i s k j = bsW d l i s (k + 1) := by
  refine List.ext_getElem (by rw [bsI_len, bsW_len]) fun q h1 h2 => ?_; rw [bsI_at, bsW_at, acW_end hp hik hk hj]; by_cases e : q = k
  · rw [if_pos e, if_pos (by omega), e]
  rw [if_neg e]; by_cases h : q < k
  · rw [if_pos h, if_pos (by omega)]
  rw [if_neg h, if_neg (by omega)]
theorem esI_end (hp : PlanOk l) (hik : i < k) (hk : k < l.length) (hj : j = (phA l k).2.2.2.length) : esI d l i s k j = esW d l i s (k + 1) := by
  refine List.ext_getElem (by rw [esI_len, esW_len]) fun q h1 h2 => ?_; rw [esI_at, esW_at, acW_end hp hik hk hj]; by_cases e : q = k
  · rw [if_pos e, if_pos (by omega), e]
  rw [if_neg e]; by_cases h : q < k
  · rw [if_pos h, if_pos (by omega)]
  rw [if_neg h, if_neg (by omega)]
theorem endW_t {x : Int} (h : vF d l i s k = some x) : endW d l i s (k + 1) = max (endW d l i s k) x := by
  conv => lhs; unfold endW
  rw [h]
theorem endW_f (h : vF d l i s k = none) : endW d l i s (k + 1) = endW d l i s k := by
  conv => lhs; unfold endW
  rw [h]
theorem some_of {o : Option Int} (h : o.isSome = true) : o = some (o.getD 0) := by
  cases o with
  | none => cases h
  | some x => rfl
theorem none_of {o : Option Int} (h : o.isSome = false) : o = none := by
  cases o with
  | none => rfl
  | some x => cases h
theorem lng_set {l : List Pha} {k : Nat} (hk : k < l.length) : l.set k ((l[k]).1, (l[k]).2.1, (l[k]).2.2.1 + 1, l[k].2.2.2) = lngP l k := by unfold lngP; rw [phA_eq hk]
theorem lng_b8 {l : List Pha} {k : Nat} (hk : k < l.length) (hb : ∀ x ∈ l, x.2.2.2.length < 100000) : ∀ x ∈ lngP l k, x.2.2.2.length < 100000 := fun x hx => by
  unfold lngP at hx; rcases List.mem_or_eq_of_mem_set hx with h | rfl
  · exact hb x h
  show (phA l k).2.2.2.length < 100000; rw [phA_eq hk]; exact hb _ (List.getElem_mem hk)
theorem lngR {l : List Pha} {k : Nat} (hz : planE l = 0) (hk : k < l.length) (hm : (phA l k).2.2.1 ≠ 1000) : planE (lngP l k) = 0 ∧ (durR (lngP l k)).1 = (durR l).1 ∧ (durR l).2 ≤ (durR (lngP l k)).2 ∧ (durR (lngP l k)).2 ≤ (durR l).2 + 1 := by
  have h1 := lng_ok hz hk hm; have h2 := lng_max hk
  have e : ∀ q, planE q = 0 → durR q = durE q := fun q h => by unfold durR; simp [h]
  rw [e _ h1, e _ hz]; exact ⟨h1, h2.2.2, h2.1, h2.2.1⟩
theorem cells2 {w v : Value} {a a' : List Int} {b b' : List Bool} (h : a = a') (h2 : b = b') : [(w, Cell.row 3 (.int .i64) a), (v, Cell.row 4 .bool b)] = [(w, Cell.row 3 (.int .i64) a'), (v, Cell.row 4 .bool b')] := by subst h h2; rfl
theorem lawChains_ok {l : List (ByteArray × Int × Int × (List Int))} {more : Int} {at_ : Int} (hl : l.length ≤ 9223372036854775807) (hmo : 0 ≤ more ∧ more < 256) (hat : 0 ≤ at_ ∧ at_ < 256) : VF Tryz.prog OA 8 [.v y22 l, .v (.int .u8) more, .v (.int .u8) at_] (B true) := by
  refine VF.enter Tryz.func8 rfl (fun _ _ => rfl) rfl ?_; show VC _ _ _ _ _ [(0, .v y22 l), (1, .v (.int .u8) more), (2, .v (.int .u8) at_)] [] _; refine VC.seq (VC.text ?_); refine VO.c (.assign rfl) ?_; refine VO.go (VC.seq (VC.seq (VC.text ?_))); refine VO.call rfl rfl (VF.call (awake_ok )) ?_; refine VO.c (.not) (VO.c (.move rfl) (VO.c (.move rfl) ?_)); refine VO.call rfl rfl (VF.call (rShortP_ok hl)) ?_; refine VO.c (.not) (VO.c (.pickF rfl rfl) (VO.c (.move rfl) ?_)); refine VO.cg (r := (!(shortP l))) (w := false) [] trivial (fun _ => (.move rfl)) ?_; refine VO.callg (r0 := (!(shortP l))) (w := false) [(39, .v y22 l)] ⟨rfl, trivial⟩ rfl rfl .same .refl rfl (fun hgd => have g1_7 : (!(shortP l)) = false := (by simpa using hgd); VF.call (rPlan_ok (shortP_l (by simpa using g1_7)) (shortP_b (by simpa using g1_7)))) ?_; refine VO.cg (r := (!(shortP l))) (w := false) [(40, I (planE l))] ⟨rfl, trivial⟩ (fun _ => (.neq)) ?_; refine VO.c (.or) (VO.go ?_); refine VC.condB rfl (fun c1 => ?_) (fun c1 => ?_)
  · try simp only [Bool.and_eq_true, Bool.or_eq_true, Bool.and_eq_false_iff, Bool.or_eq_false_iff, Bool.not_eq_true', Bool.not_eq_false', decide_eq_true_eq, decide_eq_false_iff_not] at c1
    refine VC.seq (VC.text ?_); refine VO.call rfl rfl (VF.call (awake_ok )) ?_; refine VO.c (.assign rfl) (VO.go ?_); refine VC.ret ?_; exact VEnd.one rfl evT (pvE (by rfl))
  try simp only [Bool.and_eq_true, Bool.or_eq_true, Bool.and_eq_false_iff, Bool.or_eq_false_iff, Bool.not_eq_true', Bool.not_eq_false', decide_eq_true_eq, decide_eq_false_iff_not] at c1
  have hs : shortP l = true := by simp at c1; exact c1.1
  have hz : planE l = 0 := by simp at c1; exact c1.2
  have hl7 := shortP_l hs; have hb8 := shortP_b hs; have h7 := plan_7 hs hz; have hp := plan_ok hz; have hd := dur_ok hp true; have hH := chn_h hz h7 hmo; have hhi := hH.hi; have hcn := hH.crin; have hla := hH.latn; have hsn := hH.slan; have hl0 := hH.lat0; refine VC.skip (VC.seq (VC.text ?_)); refine VO.c (.move rfl) ?_; refine VO.call rfl rfl (VF.call (lPlan_ok hl7 hb8)) ?_; refine VO.call rfl rfl (VF.call (cDuration_ok hl7 hb8)) ?_; refine VO.c (.move rfl) (VO.c (.extract) (VO.c (.extract) ?_)); refine VO.cell (.alloc zt32) ?_; intro ww3; refine VO.setV (cs' := [I ((durR l).1), I ((durR l).2)]) vt32 .v ?_; refine VO.shut [(7, .p y32 (durR l))] (.cons rfl (.var m0 .refl) .nil) ?_; refine VO.c (.assign rfl) ?_; refine VO.go (VC.seq (VC.text ?_)); refine VO.c (.move rfl) ?_; refine VO.call rfl rfl (VF.call (lPlan_ok hl7 hb8)) ?_; refine VO.call rfl rfl (VF.call (cCritical_ok hl7 hb8)) ?_; refine VO.c (.move rfl) (VO.c (.extract) (VO.c (.extract) (VO.c (.assign rfl) ?_))); refine VO.c (.assign rfl) ?_; refine VO.go (VC.seq (VC.seq (VC.text ?_))); refine VO.c (.move rfl) (VO.c (.neq) (VO.c (.move rfl) ?_)); refine VO.cg (r := decide (planE l ≠ (0 : Int))) (w := false) [] trivial (fun _ => (.move rfl)) ?_; refine VO.cg (r := decide (planE l ≠ (0 : Int))) (w := false) [(59, I (planE l))] ⟨rfl, trivial⟩ (fun _ => (.neq)) ?_; refine VO.c (.or) (VO.c (.move rfl) ?_); refine VO.cg (r := ((decide (planE l ≠ (0 : Int))) || (decide (planE l ≠ (0 : Int))))) (w := false) [] trivial (fun _ => (.fa (.r (k := 0) .o))) ?_; refine VO.rg (r := ((decide (planE l ≠ (0 : Int))) || (decide (planE l ≠ (0 : Int))))) (w := false) [(63, .p (.int .i64) ((durR l).2))] ⟨rfl, trivial⟩ (fun _ => (.ld vt3)) ?_; refine VO.cg (r := ((decide (planE l ≠ (0 : Int))) || (decide (planE l ≠ (0 : Int))))) (w := false) [(64, I ((durR l).2))] ⟨rfl, trivial⟩ (fun _ => (.lss)) ?_; refine VO.c (.or) (VO.c (.move rfl) ?_); refine VO.cg (r := (((decide (planE l ≠ (0 : Int))) || (decide (planE l ≠ (0 : Int)))) || (decide ((durR l).2 < (0 : Int))))) (w := false) [] trivial (fun _ => (.fa (.r (k := 0) .o))) ?_; refine VO.rg (r := (((decide (planE l ≠ (0 : Int))) || (decide (planE l ≠ (0 : Int)))) || (decide ((durR l).2 < (0 : Int))))) (w := false) [(68, .p (.int .i64) ((durR l).2))] ⟨rfl, trivial⟩ (fun _ => (.ld vt3)) ?_; refine VO.cg (r := (((decide (planE l ≠ (0 : Int))) || (decide (planE l ≠ (0 : Int)))) || (decide ((durR l).2 < (0 : Int))))) (w := false) [(69, I ((durR l).2))] ⟨rfl, trivial⟩ (fun _ => (.gtr)) ?_; refine VO.c (.or) (VO.c (.move rfl) ?_); refine VO.cg (r := ((((decide (planE l ≠ (0 : Int))) || (decide (planE l ≠ (0 : Int)))) || (decide ((durR l).2 < (0 : Int)))) || (decide ((20000 : Int) < (durR l).2)))) (w := false) [] trivial (fun _ => (.move rfl)) ?_; refine VO.rg (r := ((((decide (planE l ≠ (0 : Int))) || (decide (planE l ≠ (0 : Int)))) || (decide ((durR l).2 < (0 : Int)))) || (decide ((20000 : Int) < (durR l).2)))) (w := false) [(73, .v y25 (criR l))] ⟨rfl, trivial⟩ (fun _ => (.len el25)) ?_; refine VO.cg (r := ((((decide (planE l ≠ (0 : Int))) || (decide (planE l ≠ (0 : Int)))) || (decide ((durR l).2 < (0 : Int)))) || (decide ((20000 : Int) < (durR l).2)))) (w := false) [] trivial (fun _ => (.move rfl)) ?_; refine VO.rg (r := ((((decide (planE l ≠ (0 : Int))) || (decide (planE l ≠ (0 : Int)))) || (decide ((durR l).2 < (0 : Int)))) || (decide ((20000 : Int) < (durR l).2)))) (w := false) [(75, .v y22 l)] ⟨rfl, trivial⟩ (fun _ => (.len el22)) ?_; refine VO.cg (r := ((((decide (planE l ≠ (0 : Int))) || (decide (planE l ≠ (0 : Int)))) || (decide ((durR l).2 < (0 : Int)))) || (decide ((20000 : Int) < (durR l).2)))) (w := false) [(74, I (((criR l).length : Nat) : Int)), (76, I ((l.length : Nat) : Int))] ⟨rfl, rfl, trivial⟩ (fun _ => (.gtr)) ?_; refine VO.c (.or) (VO.go ?_); refine VC.condB rfl (fun c5 => ?_) (fun c5 => ?_)
  · try simp only [Bool.and_eq_true, Bool.or_eq_true, Bool.and_eq_false_iff, Bool.or_eq_false_iff, Bool.not_eq_true', Bool.not_eq_false', decide_eq_true_eq, decide_eq_false_iff_not] at c5
    exact absurd c5 (by simp; omega)
  try simp only [Bool.and_eq_true, Bool.or_eq_true, Bool.and_eq_false_iff, Bool.or_eq_false_iff, Bool.not_eq_true', Bool.not_eq_false', decide_eq_true_eq, decide_eq_false_iff_not] at c5
  refine VC.skip (VC.seq ?_); refine VC.keep [(0, .v y22 l), (1, .v (.int .u8) more), (2, .v (.int .u8) at_), (7, .p y32 (durR l)), (9, .v y25 (criR l))] ⟨rfl, rfl, rfl, rfl, rfl, trivial⟩ ?_; refine VC.text ?_; refine VO.c (.fa (.r .o)) ?_; refine VO.r (.ld vt3) ?_; refine VO.c (.move rfl) (VO.c (.convI rfl .i64 (by exact wrap64 (by omega) (by omega))) (VO.c (.add rfl rfl (by omega)) (VO.c (.assign rfl) ?_))); refine VO.go (VC.seq (VC.text ?_)); refine VO.c (.move rfl) ?_; refine VO.call rfl rfl (VF.call (lPlan_ok hl7 hb8)) ?_; refine VO.c (.move rfl) ?_; refine VO.call rfl rfl (VF.call (cLatestV_ok hl7 hb8)) ?_; refine VO.c (.move rfl) (VO.c (.extract) (VO.c (.extract) (VO.c (.assign rfl) ?_))); refine VO.c (.assign rfl) ?_; refine VO.go (VC.seq (VC.text ?_)); refine VO.c (.move rfl) ?_; refine VO.call rfl rfl (VF.call (lPlan_ok hl7 hb8)) ?_; refine VO.c (.move rfl) ?_; refine VO.call rfl rfl (VF.call (cSlack_ok hl7 hb8)) ?_; refine VO.c (.move rfl) (VO.c (.extract) (VO.c (.extract) (VO.c (.assign rfl) ?_))); refine VO.c (.assign rfl) ?_; refine VO.go (VC.seq (VC.seq (VC.text ?_))); refine VO.c (.move rfl) (VO.c (.neq) (VO.c (.move rfl) ?_)); refine VO.cg (r := decide (latE l ((durR l).2 + more) ≠ (0 : Int))) (w := false) [] trivial (fun _ => (.move rfl)) ?_; refine VO.cg (r := decide (latE l ((durR l).2 + more) ≠ (0 : Int))) (w := false) [(101, I (latE l ((durR l).2 + more)))] ⟨rfl, trivial⟩ (fun _ => (.neq)) ?_; refine VO.c (.or) (VO.c (.move rfl) ?_); refine VO.cg (r := ((decide (latE l ((durR l).2 + more) ≠ (0 : Int))) || (decide (latE l ((durR l).2 + more) ≠ (0 : Int))))) (w := false) [] trivial (fun _ => (.move rfl)) ?_; refine VO.rg (r := ((decide (latE l ((durR l).2 + more) ≠ (0 : Int))) || (decide (latE l ((durR l).2 + more) ≠ (0 : Int))))) (w := false) [(105, .v y25 (latR l ((durR l).2 + more)))] ⟨rfl, trivial⟩ (fun _ => (.len el25)) ?_; refine VO.cg (r := ((decide (latE l ((durR l).2 + more) ≠ (0 : Int))) || (decide (latE l ((durR l).2 + more) ≠ (0 : Int))))) (w := false) [] trivial (fun _ => (.move rfl)) ?_; refine VO.rg (r := ((decide (latE l ((durR l).2 + more) ≠ (0 : Int))) || (decide (latE l ((durR l).2 + more) ≠ (0 : Int))))) (w := false) [(107, .v y22 l)] ⟨rfl, trivial⟩ (fun _ => (.len el22)) ?_; refine VO.cg (r := ((decide (latE l ((durR l).2 + more) ≠ (0 : Int))) || (decide (latE l ((durR l).2 + more) ≠ (0 : Int))))) (w := false) [(106, I (((latR l ((durR l).2 + more)).length : Nat) : Int)), (108, I ((l.length : Nat) : Int))] ⟨rfl, rfl, trivial⟩ (fun _ => (.neq)) ?_; refine VO.c (.or) (VO.c (.move rfl) ?_); refine VO.cg (r := (((decide (latE l ((durR l).2 + more) ≠ (0 : Int))) || (decide (latE l ((durR l).2 + more) ≠ (0 : Int)))) || (decide ((((latR l ((durR l).2 + more)).length : Nat) : Int) ≠ ((l.length : Nat) : Int))))) (w := false) [] trivial (fun _ => (.move rfl)) ?_; refine VO.rg (r := (((decide (latE l ((durR l).2 + more) ≠ (0 : Int))) || (decide (latE l ((durR l).2 + more) ≠ (0 : Int)))) || (decide ((((latR l ((durR l).2 + more)).length : Nat) : Int) ≠ ((l.length : Nat) : Int))))) (w := false) [(112, .v y25 (slaR l ((durR l).2 + more)))] ⟨rfl, trivial⟩ (fun _ => (.len el25)) ?_; refine VO.cg (r := (((decide (latE l ((durR l).2 + more) ≠ (0 : Int))) || (decide (latE l ((durR l).2 + more) ≠ (0 : Int)))) || (decide ((((latR l ((durR l).2 + more)).length : Nat) : Int) ≠ ((l.length : Nat) : Int))))) (w := false) [] trivial (fun _ => (.move rfl)) ?_; refine VO.rg (r := (((decide (latE l ((durR l).2 + more) ≠ (0 : Int))) || (decide (latE l ((durR l).2 + more) ≠ (0 : Int)))) || (decide ((((latR l ((durR l).2 + more)).length : Nat) : Int) ≠ ((l.length : Nat) : Int))))) (w := false) [(114, .v y22 l)] ⟨rfl, trivial⟩ (fun _ => (.len el22)) ?_; refine VO.cg (r := (((decide (latE l ((durR l).2 + more) ≠ (0 : Int))) || (decide (latE l ((durR l).2 + more) ≠ (0 : Int)))) || (decide ((((latR l ((durR l).2 + more)).length : Nat) : Int) ≠ ((l.length : Nat) : Int))))) (w := false) [(113, I (((slaR l ((durR l).2 + more)).length : Nat) : Int)), (115, I ((l.length : Nat) : Int))] ⟨rfl, rfl, trivial⟩ (fun _ => (.neq)) ?_; refine VO.c (.or) (VO.go ?_); refine VC.condB rfl (fun c10 => ?_) (fun c10 => ?_)
  · try simp only [Bool.and_eq_true, Bool.or_eq_true, Bool.and_eq_false_iff, Bool.or_eq_false_iff, Bool.not_eq_true', Bool.not_eq_false', decide_eq_true_eq, decide_eq_false_iff_not] at c10
    exact absurd c10 (by simp; omega)
  try simp only [Bool.and_eq_true, Bool.or_eq_true, Bool.and_eq_false_iff, Bool.or_eq_false_iff, Bool.not_eq_true', Bool.not_eq_false', decide_eq_true_eq, decide_eq_false_iff_not] at c10
  refine VC.skip (VC.seq ?_); refine VC.keep [(0, .v y22 l), (1, .v (.int .u8) more), (2, .v (.int .u8) at_), (7, .p y32 (durR l)), (9, .v y25 (criR l)), (11, I ((durR l).2 + more)), (12, .v y25 (latR l ((durR l).2 + more))), (14, .v y25 (slaR l ((durR l).2 + more)))] ⟨rfl, rfl, rfl, rfl, rfl, rfl, rfl, rfl, trivial⟩ ?_; refine VC.text ?_; refine VO.c (.assign rfl) ?_; refine VO.go (VC.seq (VC.seq (VC.text ?_))); refine VO.c (.move rfl) ?_; refine VO.r (.len el25) ?_; refine VO.c (.move rfl) ?_; refine VO.go (VC.block ?_); refine VC.keep [(0, .v y22 l), (1, .v (.int .u8) more), (2, .v (.int .u8) at_), (7, .p y32 (durR l)), (9, .v y25 (criR l)), (11, I ((durR l).2 + more)), (12, .v y25 (latR l ((durR l).2 + more))), (14, .v y25 (slaR l ((durR l).2 + more))), (16, I (sumE (dE true) l ((criR l).take 0))), (118, .v y25 (criR l)), (119, I (((criR l).length : Nat) : Int)), (120, I ((0 : Nat) : Int))] ⟨rfl, rfl, rfl, rfl, rfl, rfl, rfl, rfl, rfl, rfl, rfl, rfl, trivial⟩ ?_; refine VC.loop (I := fun kk ff ss => ∃ (j : Nat), kk = (criR l).length - j ∧ ff = [(0, .v y22 l), (1, .v (.int .u8) more), (2, .v (.int .u8) at_), (7, .p y32 (durR l)), (9, .v y25 (criR l)), (11, I ((durR l).2 + more)), (12, .v y25 (latR l ((durR l).2 + more))), (14, .v y25 (slaR l ((durR l).2 + more))), (16, I (sumE (dE true) l ((criR l).take j))), (118, .v y25 (criR l)), (119, I (((criR l).length : Nat) : Int)), (120, I ((j : Nat) : Int))] ∧ ss = [] ∧ (j ≤ (criR l).length)) ?_ _ _ _ ⟨0, rfl, rfl, rfl, (by omega)⟩; rintro kk ff ss ⟨j, hk0, rfl, rfl, hj⟩; refine VC.seq (VC.text ?_); refine VO.c (.lss) ?_; refine VO.go (VC.seq ?_); refine VC.condD rfl (fun c14 => ?_) (fun c14 => ?_)
  · have hjl : j < (criR l).length := by omega
    have hcr := hH.crit hjl; have hcs := hH.sla (i := ((criR l)[j]).toNat) (by omega)
    have hsu := sumE_b hd (c := (criR l).take j) fun y hy => by obtain ⟨q, hq, rfl⟩ := List.mem_iff_getElem.1 (List.mem_of_mem_take hy); have := hH.crit hq; omega
    rw [List.length_take] at hsu; have hdu := hp.dur ((criR l)[j]).toNat (by omega); rw [phA_eq (by omega)] at hdu; have hpb := hp.blen (i := ((criR l)[j]).toNat) (by omega); rw [phA_eq (by omega)] at hpb; refine VC.skip (VC.seq (VC.block (VC.seq (VC.text ?_)))); refine VO.c (.move rfl) (VO.c (.ix (j := j) rfl rfl el25 (by omega)) ?_); refine VO.r (.ld vt3) ?_; refine VO.c (.assign rfl) (VO.c (.assign rfl) ?_); refine VO.go (VC.seq (VC.seq ?_)); refine VC.join [(0, .v y22 l), (1, .v (.int .u8) more), (2, .v (.int .u8) at_), (7, .p y32 (durR l)), (9, .v y25 (criR l)), (11, I ((durR l).2 + more)), (12, .v y25 (latR l ((durR l).2 + more))), (14, .v y25 (slaR l ((durR l).2 + more))), (16, I (sumE (dE true) l ((criR l).take j))), (18, I ((criR l)[j])), (118, .v y25 (criR l)), (119, I (((criR l).length : Nat) : Int)), (120, I ((j : Nat) : Int)), (159, B false)] [] ?_ ?_
    · skip
      refine VC.drawn ?_; refine VD.c (.move rfl) (VD.c (.lss) (VD.c (.move rfl) ?_)); refine VD.splitD (x := 127) rfl (fun g16_2 => ?_) (fun g16_2 => ?_)
      · refine VD.skip (VD.skip (VD.nw [] (VD.skip ?_))); refine VD.skip (VD.c (.pickT rfl rfl) (VD.c (.move rfl) (VD.skip ?_))); refine VD.skip (VD.skip (VD.nw [] (VD.skip ?_))); refine VD.skip (VD.skip (VD.skip (VD.skip ?_))); refine VD.skip (VD.skip (VD.nw [] (VD.skip ?_))); refine VD.skip (VD.skip (VD.skip (VD.skip ?_))); refine VD.skip (VD.c (.pickT rfl rfl) (VD.nw [] (VD.c (.move rfl) ?_))); refine VD.skip (VD.skip (VD.skip (VD.skip ?_))); refine VD.skip (VD.skip (VD.nw [] (VD.skip ?_))); refine VD.c (.pickT rfl rfl) ?_; refine VD.nil ?_; exact ⟨⟨rfl, rfl, rfl, rfl, rfl, rfl, rfl, rfl, rfl, rfl, rfl, rfl, rfl, slE rfl (by first | (exfalso; omega) | (exfalso; have := hH.adj hjl (z := j - 1) (by omega); rw [phA_eq (by omega)] at this; simp_all; done) | (rw [hcs, hcr.2.2]; simp; done) | (simp_all; done)), trivial⟩, rfl⟩
      refine VD.c (.move rfl) (VD.c (.move rfl) (VD.nw [] ?_)); refine VD.r [] (.len el22) (.inl rfl) ?_; refine VD.c (.geq) (VD.c (.pickF rfl rfl) (VD.c (.move rfl) ?_)); refine VD.splitD (x := 133) rfl (fun g16_8 => ?_) (fun g16_8 => ?_)
      · refine VD.skip (VD.skip (VD.nw [] (VD.skip ?_))); refine VD.skip (VD.skip (VD.skip (VD.skip ?_))); refine VD.skip (VD.skip (VD.nw [] (VD.skip ?_))); refine VD.skip (VD.skip (VD.skip (VD.skip ?_))); refine VD.skip (VD.skip (VD.nw [] (VD.c (.pickT rfl rfl) ?_))); refine VD.c (.move rfl) (VD.skip (VD.skip (VD.skip ?_))); refine VD.skip (VD.skip (VD.nw [] (VD.skip ?_))); refine VD.skip (VD.c (.pickT rfl rfl) ?_); refine VD.nil ?_; exact ⟨⟨rfl, rfl, rfl, rfl, rfl, rfl, rfl, rfl, rfl, rfl, rfl, rfl, rfl, slE rfl (by first | (exfalso; omega) | (exfalso; have := hH.adj hjl (z := j - 1) (by omega); rw [phA_eq (by omega)] at this; simp_all; done) | (rw [hcs, hcr.2.2]; simp; done) | (simp_all; done)), trivial⟩, rfl⟩
      refine VD.c (.move rfl) (VD.c (.gtr) (VD.nw [] (VD.c (.move rfl) ?_))); refine VD.splitD (x := 136) rfl (fun g16_11 => ?_) (fun g16_11 => ?_)
      · refine VD.c (.move rfl) (VD.c (.move rfl) (VD.c (.ixZ (k := (criR l)[j]) rfl rfl el22 (by omega) (by omega)) (VD.c (.fa (.r (.r (.r .o)))) ?_))); refine VD.r [] (.ld vt25) (.inl rfl) ?_; refine VD.nw [] (VD.c (.move rfl) (VD.c (.move rfl) (VD.c (.sub rfl rfl (by omega)) ?_))); refine VD.c (.ixZ (k := (((j : Nat) : Int) - (1 : Int))) rfl rfl el25 (by omega) (by omega)) ?_; refine VD.r [] (.ld vt3) (.inl rfl) ?_; refine VD.call rfl rfl (VF.call (rHasInt_ok (by first | assumption | omega | simp))) ?_; refine VD.c (.not) (VD.nw [] (VD.c (.pickT rfl rfl) (VD.c (.pickF rfl rfl) ?_))); refine VD.c (.move rfl) ?_; refine VD.splitB (x := 151) rfl (fun g16_26 => ?_) (fun g16_26 => ?_)
        · try simp only [Bool.and_eq_true, Bool.or_eq_true, Bool.and_eq_false_iff, Bool.or_eq_false_iff, Bool.not_eq_true', Bool.not_eq_false', decide_eq_true_eq, decide_eq_false_iff_not] at g16_26
          refine VD.skip (VD.skip (VD.skip (VD.nw [] ?_))); refine VD.skip (VD.skip (VD.skip (VD.skip ?_))); refine VD.c (.pickT rfl rfl) ?_; refine VD.nil ?_; exact ⟨⟨rfl, rfl, rfl, rfl, rfl, rfl, rfl, rfl, rfl, rfl, rfl, rfl, rfl, slE rfl (by first | (exfalso; omega) | (exfalso; have := hH.adj hjl (z := j - 1) (by omega); rw [phA_eq (by omega)] at this; simp_all; done) | (rw [hcs, hcr.2.2]; simp; done) | (simp_all; done)), trivial⟩, rfl⟩
        try simp only [Bool.and_eq_true, Bool.or_eq_true, Bool.and_eq_false_iff, Bool.or_eq_false_iff, Bool.not_eq_true', Bool.not_eq_false', decide_eq_true_eq, decide_eq_false_iff_not] at g16_26
        refine VD.c (.move rfl) (VD.c (.move rfl) (VD.c (.ixZ (k := (criR l)[j]) rfl rfl el25 (by omega) (by omega)) (VD.nw [] ?_))); refine VD.r [] (.ld vt3) (.inl rfl) ?_; refine VD.c (.move rfl) (VD.c (.convI rfl .i64 (by exact wrap64 (by omega) (by omega))) (VD.c (.neq) (VD.c (.pickF rfl rfl) ?_))); refine VD.nil ?_; exact ⟨⟨rfl, rfl, rfl, rfl, rfl, rfl, rfl, rfl, rfl, rfl, rfl, rfl, rfl, slE rfl (by first | (exfalso; omega) | (exfalso; have := hH.adj hjl (z := j - 1) (by omega); rw [phA_eq (by omega)] at this; simp_all; done) | (rw [hcs, hcr.2.2]; simp; done) | (simp_all; done)), trivial⟩, rfl⟩
      refine VD.skip (VD.skip (VD.skip (VD.skip ?_))); refine VD.skip (VD.nw [] (VD.skip (VD.skip ?_))); refine VD.skip (VD.skip (VD.skip (VD.skip ?_))); refine VD.skip (VD.nw [] (VD.c (.pickF rfl rfl) (VD.c (.pickF rfl rfl) ?_))); refine VD.c (.move rfl) (VD.c (.move rfl) (VD.c (.move rfl) (VD.c (.ixZ (k := (criR l)[j]) rfl rfl el25 (by omega) (by omega)) ?_))); refine VD.r [] (.ld vt3) (.inl rfl) ?_; refine VD.nw [] (VD.c (.move rfl) (VD.c (.convI rfl .i64 (by exact wrap64 (by omega) (by omega))) (VD.c (.neq) ?_))); refine VD.c (.pickF rfl rfl) ?_; refine VD.nil ?_; exact ⟨⟨rfl, rfl, rfl, rfl, rfl, rfl, rfl, rfl, rfl, rfl, rfl, rfl, rfl, slE rfl (by first | (exfalso; omega) | (exfalso; have := hH.adj hjl (z := j - 1) (by omega); rw [phA_eq (by omega)] at this; simp_all; done) | (rw [hcs, hcr.2.2]; simp; done) | (simp_all; done)), trivial⟩, rfl⟩
    refine VC.condB rfl (fun c16 => ?_) (fun c16 => ?_)
    · exact absurd c16 (by decide)
    refine VC.skip (VC.text ?_); refine VO.c (.move rfl) (VO.c (.move rfl) (VO.c (.move rfl) (VO.c (.ixZ (k := (criR l)[j]) rfl rfl el22 (by omega) (by omega)) ?_))); refine VO.c (.fa (.r (.r (.l .o)))) ?_; refine VO.r (.ld vt3) ?_; refine VO.c (.add rfl rfl (by omega)) (VO.c (.assign rfl) ?_); refine VO.nil (VC.text ?_); refine VO.c (.add rfl rfl (by omega)) (VO.c (.move rfl) ?_); refine VO.nil ?_; refine ⟨_, [(0, .v y22 l), (1, .v (.int .u8) more), (2, .v (.int .u8) at_), (7, .p y32 (durR l)), (9, .v y25 (criR l)), (11, I ((durR l).2 + more)), (12, .v y25 (latR l ((durR l).2 + more))), (14, .v y25 (slaR l ((durR l).2 + more))), (16, I (sumE (dE true) l ((criR l).take (j + 1)))), (118, .v y25 (criR l)), (119, I (((criR l).length : Nat) : Int)), (120, I (((j + 1) : Nat) : Int))], ?_, ⟨rfl, rfl, rfl, rfl, rfl, rfl, rfl, rfl, slI rfl (by rw [sumE_take hjl, phA_eq (by omega)] <;> rfl), rfl, rfl, rfl, trivial⟩, (j + 1), rfl, rfl, rfl, (by omega)⟩; omega
  refine VC.exit (VC.seq (VC.seq (VC.text ?_))); refine VO.c (.move rfl) (VO.c (.fa (.r .o)) ?_); refine VO.r (.ld vt3) ?_; refine VO.c (.neq) (VO.go ?_); refine VC.condD rfl (fun c20 => ?_) (fun c20 => ?_)
  · exact absurd c20 (by rw [List.take_of_length_le (by omega), hH.sum]; simp)
  refine VC.skip (VC.seq (VC.seq (VC.text ?_))); refine VO.c (.move rfl) ?_; refine VO.r (.len el22) ?_; refine VO.c (.move rfl) ?_; refine VO.go (VC.block ?_); refine VC.keep [(0, .v y22 l), (1, .v (.int .u8) more), (2, .v (.int .u8) at_), (7, .p y32 (durR l)), (11, I ((durR l).2 + more)), (12, .v y25 (latR l ((durR l).2 + more))), (14, .v y25 (slaR l ((durR l).2 + more))), (173, I ((l.length : Nat) : Int)), (174, I ((0 : Nat) : Int))] ⟨rfl, rfl, rfl, rfl, rfl, rfl, rfl, rfl, rfl, trivial⟩ ?_; refine VC.loop (I := fun kk ff ss => ∃ (i : Nat), kk = l.length - i ∧ ff = [(0, .v y22 l), (1, .v (.int .u8) more), (2, .v (.int .u8) at_), (7, .p y32 (durR l)), (11, I ((durR l).2 + more)), (12, .v y25 (latR l ((durR l).2 + more))), (14, .v y25 (slaR l ((durR l).2 + more))), (173, I ((l.length : Nat) : Int)), (174, I ((i : Nat) : Int))] ∧ ss = [] ∧ (i ≤ l.length)) ?_ _ _ _ ⟨0, rfl, rfl, rfl, Nat.zero_le _⟩; rintro kk ff ss ⟨i, hk2, rfl, rfl, hi2⟩; refine VC.seq (VC.text ?_); refine VO.c (.lss) ?_; refine VO.go (VC.seq ?_); refine VC.condD rfl (fun c23 => ?_) (fun c23 => ?_)
  · have hil : i < l.length := by omega
    have hlo := hH.low hil; have hsi := hH.sla (i := i) (by omega); have hli := hH.lat (i := i) (by omega); have hdi := hp.dur i hil
    have hda : dE true (phA l i) = l[i].2.2.1 := by rw [phA_eq hil] <;> rfl
    rw [phA_eq hil] at hdi; refine VC.skip (VC.seq (VC.block (VC.seq (VC.text ?_)))); refine VO.c (.move rfl) (VO.c (.assign rfl) ?_); refine VO.go (VC.seq (VC.seq (VC.text ?_))); refine VO.c (.move rfl) (VO.c (.move rfl) (VO.c (.ix (j := i) rfl rfl el25 (by omega)) ?_)); refine VO.r (.ld vt3) ?_; refine VO.c (.move rfl) (VO.c (.convI rfl .i64 (by exact wrap64 (by omega) (by omega))) (VO.c (.lss) (VO.c (.move rfl) ?_))); refine VO.cg (r := decide ((slaR l ((durR l).2 + more))[i] < more)) (w := false) [] trivial (fun _ => (.move rfl)) ?_; refine VO.cg (r := decide ((slaR l ((durR l).2 + more))[i] < more)) (w := false) [] trivial (fun _ => (.move rfl)) ?_; refine VO.cg (r := decide ((slaR l ((durR l).2 + more))[i] < more)) (w := false) [(185, .v y25 (latR l ((durR l).2 + more))), (186, I ((i : Nat) : Int))] ⟨rfl, rfl, trivial⟩ (fun hgd => have g25_7 : ¬ ((slaR l ((durR l).2 + more))[i] < more) := (by simpa using hgd); (.ixD (j := i) rfl rfl 0 el25 (by omega))) ?_; refine VO.rg (r := decide ((slaR l ((durR l).2 + more))[i] < more)) (w := false) [(187, .p (.int .i64) ((latR l ((durR l).2 + more)).getD i 0))] ⟨rfl, trivial⟩ (fun _ => (.ld vt3)) ?_; refine VO.cg (r := decide ((slaR l ((durR l).2 + more))[i] < more)) (w := false) [(188, I ((latR l ((durR l).2 + more)).getD i 0))] ⟨rfl, trivial⟩ (fun _ => (.lss)) ?_; refine VO.c (.or) (VO.go ?_); refine VC.condB rfl (fun c25 => ?_) (fun c25 => ?_)
    · try simp only [Bool.and_eq_true, Bool.or_eq_true, Bool.and_eq_false_iff, Bool.or_eq_false_iff, Bool.not_eq_true', Bool.not_eq_false', decide_eq_true_eq, decide_eq_false_iff_not] at c25
      rw [getDg (by omega), hli, hsi] at c25; omega
    try simp only [Bool.and_eq_true, Bool.or_eq_true, Bool.and_eq_false_iff, Bool.or_eq_false_iff, Bool.not_eq_true', Bool.not_eq_false', decide_eq_true_eq, decide_eq_false_iff_not] at c25
    refine VC.skip (VC.seq (VC.text ?_)); refine VO.c (.move rfl) ?_; refine VO.go (VC.block ?_); refine VC.keep [(0, .v y22 l), (1, .v (.int .u8) more), (2, .v (.int .u8) at_), (7, .p y32 (durR l)), (11, I ((durR l).2 + more)), (12, .v y25 (latR l ((durR l).2 + more))), (14, .v y25 (slaR l ((durR l).2 + more))), (19, I ((i : Nat) : Int)), (173, I ((l.length : Nat) : Int)), (174, I ((i : Nat) : Int)), (191, I ((0 : Nat) : Int))] ⟨rfl, rfl, rfl, rfl, rfl, rfl, rfl, rfl, rfl, rfl, rfl, trivial⟩ ?_; refine VC.loop (I := fun kk ff ss => ∃ (late : Nat), kk = 2 - late ∧ ff = [(0, .v y22 l), (1, .v (.int .u8) more), (2, .v (.int .u8) at_), (7, .p y32 (durR l)), (11, I ((durR l).2 + more)), (12, .v y25 (latR l ((durR l).2 + more))), (14, .v y25 (slaR l ((durR l).2 + more))), (19, I ((i : Nat) : Int)), (173, I ((l.length : Nat) : Int)), (174, I ((i : Nat) : Int)), (191, I ((late : Nat) : Int))] ∧ ss = [] ∧ (late ≤ 2)) ?_ _ _ _ ⟨0, rfl, rfl, rfl, Nat.zero_le _⟩; rintro kk ff ss ⟨late, hk4, rfl, rfl, hlt2⟩; refine VC.seq (VC.text ?_); refine VO.c (.lss) ?_; refine VO.go (VC.seq ?_); refine VC.condD rfl (fun c28 => ?_) (fun c28 => ?_)
    · have hsl : i < ((List.replicate l.length 0).set i (((latR l ((durR l).2 + more))[i] + ((late : Nat) : Int)) + (l[i]).2.2.1)).length := by rw [List.length_set, List.length_replicate]; exact hil
      refine VC.skip (VC.seq (VC.block (VC.seq (VC.text ?_)))); refine VO.c (.move rfl) (VO.c (.assign rfl) ?_); refine VO.go (VC.seq (VC.drawn ?_)); refine VD.c (.move rfl) ?_; refine VD.r [] (.len el22) (.inl rfl) ?_; refine VD.cell (.make (k := l.length) rfl rfl el83 zt4 (by omega)) ?_; intro ww4; refine VD.c (.move rfl) ?_; refine VD.r [] (.len el22) (.inl rfl) ?_; refine VD.cell (.make (k := l.length) rfl rfl el25 zt3 (by omega)) ?_; intro ww5; refine VD.nw [199, 196] (VD.c (.assign rfl) (VD.c (.assign rfl) ?_)); refine VD.go (VC.seq (VC.drawn ?_)); refine VD.c (.move rfl) (VD.c (.move rfl) (VD.c (.move rfl) (VD.c (.move rfl) ?_))); refine VD.c (.move rfl) (VD.c (.move rfl) (VD.nw [] (VD.c (.ix (j := i) rfl rfl el25 (by omega)) ?_))); refine VD.r [] (.ld vt3) (.inl rfl) ?_; refine VD.c (.move rfl) (VD.c (.add rfl rfl (by omega)) (VD.c (.move rfl) (VD.c (.move rfl) ?_))); refine VD.c (.ix (j := i) rfl rfl el22 (by omega)) (VD.nw [] (VD.c (.fa (.r (.r (.l .o)))) ?_)); refine VD.r [] (.ld vt3) (.inl rfl) ?_; refine VD.c (.add rfl rfl (by omega)) ?_; refine VD.co (.ixO (j := i) rfl rfl m1 el83 (by rw [List.length_replicate]; exact hil)) ?_; refine VD.perm swap1 ?_; refine VD.mk0 (MakeV.setE (j := i) vt4 (by rw [List.length_replicate]; exact hil) rfl rfl) ?_; rintro _ _ tl6 ⟨rfl, rfl⟩; refine VD.co (.ixO (j := i) rfl rfl m1 el25 (by rw [List.length_replicate]; exact hil)) ?_; refine VD.perm swap1 ?_; refine VD.mk0 (MakeV.setE (j := i) vt3 (by rw [List.length_replicate]; exact hil) rfl rfl) ?_; rintro _ _ tl7 ⟨rfl, rfl⟩; refine VD.go (VC.seq (VC.text ?_)); refine VO.c (.move rfl) (VO.c (.move rfl) (VO.c (.ixO (j := i) rfl rfl m0 el25 (by rw [List.length_set, List.length_replicate]; exact hil)) ?_)); refine VO.r (.ldO rfl m0 vt3 (by rw [List.length_set, List.length_replicate]; exact hil)) ?_; refine VO.c (.assign rfl) ?_; refine VO.go (VC.seq (VC.seq ?_)); refine VC.keep [(0, .v y22 l), (1, .v (.int .u8) more), (2, .v (.int .u8) at_), (7, .p y32 (durR l)), (11, I ((durR l).2 + more)), (12, .v y25 (latR l ((durR l).2 + more))), (14, .v y25 (slaR l ((durR l).2 + more))), (19, I ((i : Nat) : Int)), (20, I ((late : Nat) : Int)), (21, .raw ww4), (22, .raw ww5), (23, I (((List.replicate l.length 0).set i (((latR l ((durR l).2 + more))[i] + ((late : Nat) : Int)) + (l[i]).2.2.1))[i])), (173, I ((l.length : Nat) : Int)), (174, I ((i : Nat) : Int)), (191, I ((late : Nat) : Int))] ⟨rfl, rfl, rfl, rfl, rfl, rfl, rfl, rfl, rfl, rfl, rfl, rfl, rfl, rfl, rfl, trivial⟩ ?_; refine VC.text ?_; refine VO.c (.move rfl) (VO.c (.add rfl rfl (by omega)) (VO.c (.assign rfl) ?_)); refine VO.go (VC.block ?_); refine VC.keep [(0, .v y22 l), (1, .v (.int .u8) more), (2, .v (.int .u8) at_), (7, .p y32 (durR l)), (11, I ((durR l).2 + more)), (12, .v y25 (latR l ((durR l).2 + more))), (14, .v y25 (slaR l ((durR l).2 + more))), (19, I ((i : Nat) : Int)), (20, I ((late : Nat) : Int)), (21, .raw ww4), (22, .raw ww5), (23, I (endW (dE true) l i ((durR l).2 + more - chnF (dE true) l i + ((late : Nat) : Int)) (i + 1))), (24, I (((i + 1) : Nat) : Int)), (173, I ((l.length : Nat) : Int)), (174, I ((i : Nat) : Int)), (191, I ((late : Nat) : Int))] ⟨rfl, rfl, rfl, rfl, rfl, rfl, rfl, rfl, rfl, rfl, rfl, slI rfl (by rw [endW_i (by omega)]; rw [hda]; simp [hli]), rfl, rfl, rfl, rfl, trivial⟩ ?_; refine VC.loop (I := fun kk ff ss => ∃ (k : Nat), kk = l.length - k ∧ ff = [(0, .v y22 l), (1, .v (.int .u8) more), (2, .v (.int .u8) at_), (7, .p y32 (durR l)), (11, I ((durR l).2 + more)), (12, .v y25 (latR l ((durR l).2 + more))), (14, .v y25 (slaR l ((durR l).2 + more))), (19, I ((i : Nat) : Int)), (20, I ((late : Nat) : Int)), (21, .raw ww4), (22, .raw ww5), (23, I (endW (dE true) l i ((durR l).2 + more - chnF (dE true) l i + ((late : Nat) : Int)) k)), (24, I ((k : Nat) : Int)), (173, I ((l.length : Nat) : Int)), (174, I ((i : Nat) : Int)), (191, I ((late : Nat) : Int))] ∧ ss = [(ww5, .row 3 (.int .i64) (esW (dE true) l i ((durR l).2 + more - chnF (dE true) l i + ((late : Nat) : Int)) k)), (ww4, .row 4 .bool (bsW (dE true) l i ((durR l).2 + more - chnF (dE true) l i + ((late : Nat) : Int)) k))] ∧ (i < k ∧ k ≤ l.length)) ?_ _ _ _ ⟨i + 1, rfl, rfl, (by exact cells2 (esW_0 hil (by rw [hda, hli])) (bsW_0 hil)), (by omega)⟩; rintro kk ff ss ⟨k, hk6, rfl, rfl, hk⟩; refine VC.seq (VC.seq (VC.text ?_)); refine VO.c (.move rfl) (VO.c (.move rfl) ?_); refine VO.r (.len el22) ?_; refine VO.c (.lss) (VO.go ?_); refine VC.condD rfl (fun c34 => ?_) (fun c34 => ?_)
      · have hkl : k < l.length := by omega
        have hbk := hp.bef k hkl; have hbn := hp.blen hkl; have hdk := hp.dur k hkl
        have hdb : dE true (phA l k) = l[k].2.2.1 := by rw [phA_eq hkl] <;> rfl
        rw [phA_eq hkl] at hbk hbn hdk; refine VC.skip (VC.seq (VC.block (VC.seq (VC.seq (VC.text ?_))))); refine VO.c (.move rfl) (VO.c (.move rfl) (VO.c (.ix (j := k) rfl rfl el22 (by omega)) (VO.c (.fa (.r (.r (.r .o)))) ?_))); refine VO.r (.ld vt25) ?_; refine VO.r (.len el25) ?_; refine VO.c (.move rfl) ?_; refine VO.go (VC.block ?_); refine VC.keep [(0, .v y22 l), (1, .v (.int .u8) more), (2, .v (.int .u8) at_), (7, .p y32 (durR l)), (11, I ((durR l).2 + more)), (12, .v y25 (latR l ((durR l).2 + more))), (14, .v y25 (slaR l ((durR l).2 + more))), (19, I ((i : Nat) : Int)), (20, I ((late : Nat) : Int)), (21, .raw ww4), (22, .raw ww5), (23, I (endW (dE true) l i ((durR l).2 + more - chnF (dE true) l i + ((late : Nat) : Int)) k)), (24, I ((k : Nat) : Int)), (173, I ((l.length : Nat) : Int)), (174, I ((i : Nat) : Int)), (191, I ((late : Nat) : Int)), (234, .v y25 ((l[k]).2.2.2)), (235, I ((((l[k]).2.2.2).length : Nat) : Int)), (236, I ((0 : Nat) : Int))] ⟨rfl, rfl, rfl, rfl, rfl, rfl, rfl, rfl, rfl, rfl, rfl, rfl, rfl, rfl, rfl, rfl, rfl, rfl, rfl, trivial⟩ ?_; refine VC.loop (I := fun kk ff ss => ∃ (m : Nat), kk = l[k].2.2.2.length - m ∧ ff = [(0, .v y22 l), (1, .v (.int .u8) more), (2, .v (.int .u8) at_), (7, .p y32 (durR l)), (11, I ((durR l).2 + more)), (12, .v y25 (latR l ((durR l).2 + more))), (14, .v y25 (slaR l ((durR l).2 + more))), (19, I ((i : Nat) : Int)), (20, I ((late : Nat) : Int)), (21, .raw ww4), (22, .raw ww5), (23, I (endW (dE true) l i ((durR l).2 + more - chnF (dE true) l i + ((late : Nat) : Int)) k)), (24, I ((k : Nat) : Int)), (173, I ((l.length : Nat) : Int)), (174, I ((i : Nat) : Int)), (191, I ((late : Nat) : Int)), (234, .v y25 ((l[k]).2.2.2)), (235, I ((((l[k]).2.2.2).length : Nat) : Int)), (236, I ((m : Nat) : Int))] ∧ ss = [(ww5, .row 3 (.int .i64) (esI (dE true) l i ((durR l).2 + more - chnF (dE true) l i + ((late : Nat) : Int)) k m)), (ww4, .row 4 .bool (bsI (dE true) l i ((durR l).2 + more - chnF (dE true) l i + ((late : Nat) : Int)) k m))] ∧ (m ≤ l[k].2.2.2.length)) ?_ _ _ _ ⟨0, rfl, rfl, (by rw [bsI_0, esI_0]), (by omega)⟩; rintro kk ff ss ⟨m, hk8, rfl, rfl, hm⟩; have hbl : (bsI (dE true) l i ((durR l).2 + more - chnF (dE true) l i + ((late : Nat) : Int)) k m).length = l.length := bsI_len; have hel : (esI (dE true) l i ((durR l).2 + more - chnF (dE true) l i + ((late : Nat) : Int)) k m).length = l.length := esI_len; refine VC.seq (VC.text ?_); refine VO.c (.lss) ?_; refine VO.go (VC.seq ?_); refine VC.condD rfl (fun c37 => ?_) (fun c37 => ?_)
        · have hm2 : m < l[k].2.2.2.length := by omega
          have hpm := hbk m hm2; rw [getDg hm2] at hpm
          have hpv : (phA l k).2.2.2.getD m 0 = l[k].2.2.2[m] := by rw [phA_eq hkl, getDg hm2]
          have hbp : (bsI (dE true) l i ((durR l).2 + more - chnF (dE true) l i + ((late : Nat) : Int)) k m)[(l[k].2.2.2[m]).toNat]'(by omega) = (vF (dE true) l i ((durR l).2 + more - chnF (dE true) l i + ((late : Nat) : Int)) (l[k].2.2.2[m]).toNat).isSome := by rw [bsI_at, if_neg (by omega), if_pos (by omega)]
          have hep : (esI (dE true) l i ((durR l).2 + more - chnF (dE true) l i + ((late : Nat) : Int)) k m)[(l[k].2.2.2[m]).toNat]'(by omega) = (vF (dE true) l i ((durR l).2 + more - chnF (dE true) l i + ((late : Nat) : Int)) (l[k].2.2.2[m]).toNat).getD 0 := by rw [esI_at, if_neg (by omega), if_pos (by omega)]
          have hek : (esI (dE true) l i ((durR l).2 + more - chnF (dE true) l i + ((late : Nat) : Int)) k m)[k]'(by omega) = (acW (dE true) l i ((durR l).2 + more - chnF (dE true) l i + ((late : Nat) : Int)) k m).getD 0 := by rw [esI_at, if_pos rfl]
          refine VC.skip (VC.seq (VC.block (VC.seq (VC.text ?_)))); refine VO.c (.ix (j := m) rfl rfl el25 (by omega)) ?_; refine VO.r (.ld vt3) ?_; refine VO.c (.assign rfl) ?_; refine VO.go (VC.seq (VC.text ?_)); refine VO.c (.move rfl) (VO.c (.move rfl) (VO.c (.ixOZ (k := ((l[k]).2.2.2)[m]) rfl rfl m1 el83 (by omega) (by omega)) ?_)); refine VO.r (.ldO rfl m1 vt4 (by omega)) ?_; refine VO.go ?_; refine VC.condB rfl (fun c39 => ?_) (fun c39 => ?_)
          · rw [hbp] at c39; have hvs := some_of c39; have hab := (chn_bd hp hd (p := (l[k].2.2.2[m]).toNat) (by omega)).1; have hvb := v_le hp hd (i := i) (s := ((durR l).2 + more - chnF (dE true) l i + ((late : Nat) : Int))) hil (by omega) _ (l[k].2.2.2[m]).toNat (Nat.le_refl _) (by omega) _ hvs
            have hv2 : vF (dE true) l i ((durR l).2 + more - chnF (dE true) l i + ((late : Nat) : Int)) ((phA l k).2.2.2.getD m 0).toNat = some ((vF (dE true) l i ((durR l).2 + more - chnF (dE true) l i + ((late : Nat) : Int)) (l[k].2.2.2[m]).toNat).getD 0) := by rw [hpv]; exact hvs
            refine VC.drawn ?_; refine VD.c (.move rfl) (VD.c (.move rfl) (VD.c (.move rfl) (VD.c (.move rfl) ?_))); refine VD.c (.move rfl) (VD.c (.move rfl) (VD.nw [] ?_)); refine VD.co (.ixO (j := k) rfl rfl m0 el25 (by omega)) ?_; refine VD.r [(ww5, .row 3 (.int .i64) (esI (dE true) l i ((durR l).2 + more - chnF (dE true) l i + ((late : Nat) : Int)) k m)), (ww4, .row 4 .bool (bsI (dE true) l i ((durR l).2 + more - chnF (dE true) l i + ((late : Nat) : Int)) k m))] (.ldO rfl m0 vt3 (by omega)) (.inr ⟨rfl, rfl⟩) ?_; refine VD.c (.move rfl) (VD.c (.move rfl) ?_); refine VD.co (.ixOZ (k := ((l[k]).2.2.2)[m]) rfl rfl m0 el25 (by omega) (by omega)) ?_; refine VD.r [(ww5, .row 3 (.int .i64) (esI (dE true) l i ((durR l).2 + more - chnF (dE true) l i + ((late : Nat) : Int)) k m)), (ww4, .row 4 .bool (bsI (dE true) l i ((durR l).2 + more - chnF (dE true) l i + ((late : Nat) : Int)) k m))] (.ldO rfl m0 vt3 (by omega)) (.inr ⟨rfl, rfl⟩) ?_; refine VD.c (.move rfl) (VD.nw [] (VD.c (.move rfl) (VD.c (.ix (j := k) rfl rfl el22 (by omega)) ?_))); refine VD.c (.fa (.r (.r (.l .o)))) ?_; refine VD.r [] (.ld vt3) (.inl rfl) ?_; refine VD.c (.add rfl rfl (by rw [hep]; omega)) (VD.c (.imax) ?_); refine VD.co (.ixO (j := k) rfl rfl m1 el83 (by omega)) ?_; refine VD.nw [] ?_; refine VD.perm swap1 ?_; refine VD.mk0 (MakeV.setE (j := k) vt4 (by omega) rfl rfl) ?_; rintro _ _ tl8 ⟨rfl, rfl⟩; refine VD.co (.ixO (j := k) rfl rfl m1 el25 (by omega)) ?_; refine VD.perm swap1 ?_; refine VD.mk0 (MakeV.setE (j := k) vt3 (by omega) rfl rfl) ?_; rintro _ _ tl9 ⟨rfl, rfl⟩; refine VD.nil ?_; refine VC.text ?_; refine VO.c (.add rfl rfl (by omega)) (VO.c (.move rfl) ?_); refine VO.nil ?_; refine ⟨_, [(0, .v y22 l), (1, .v (.int .u8) more), (2, .v (.int .u8) at_), (7, .p y32 (durR l)), (11, I ((durR l).2 + more)), (12, .v y25 (latR l ((durR l).2 + more))), (14, .v y25 (slaR l ((durR l).2 + more))), (19, I ((i : Nat) : Int)), (20, I ((late : Nat) : Int)), (21, .raw ww4), (22, .raw ww5), (23, I (endW (dE true) l i ((durR l).2 + more - chnF (dE true) l i + ((late : Nat) : Int)) k)), (24, I ((k : Nat) : Int)), (173, I ((l.length : Nat) : Int)), (174, I ((i : Nat) : Int)), (191, I ((late : Nat) : Int)), (234, .v y25 ((l[k]).2.2.2)), (235, I ((((l[k]).2.2.2).length : Nat) : Int)), (236, I (((m + 1) : Nat) : Int))], ?_, ⟨rfl, rfl, rfl, rfl, rfl, rfl, rfl, rfl, rfl, rfl, rfl, rfl, rfl, rfl, rfl, rfl, rfl, rfl, rfl, trivial⟩, (m + 1), rfl, rfl, (by first | (rw [bsI_t hv2, esI_t hv2 hek (by rw [hep, hdb])]; done) | (rw [← bsI_f hv2, ← esI_f hv2]; done)), (by omega)⟩; omega
          rw [hbp] at c39
          have hv2 : vF (dE true) l i ((durR l).2 + more - chnF (dE true) l i + ((late : Nat) : Int)) ((phA l k).2.2.2.getD m 0).toNat = none := by rw [hpv]; exact none_of c39
          refine VC.skip (VC.text ?_); refine VO.c (.add rfl rfl (by omega)) (VO.c (.move rfl) ?_); refine VO.nil ?_; refine ⟨_, [(0, .v y22 l), (1, .v (.int .u8) more), (2, .v (.int .u8) at_), (7, .p y32 (durR l)), (11, I ((durR l).2 + more)), (12, .v y25 (latR l ((durR l).2 + more))), (14, .v y25 (slaR l ((durR l).2 + more))), (19, I ((i : Nat) : Int)), (20, I ((late : Nat) : Int)), (21, .raw ww4), (22, .raw ww5), (23, I (endW (dE true) l i ((durR l).2 + more - chnF (dE true) l i + ((late : Nat) : Int)) k)), (24, I ((k : Nat) : Int)), (173, I ((l.length : Nat) : Int)), (174, I ((i : Nat) : Int)), (191, I ((late : Nat) : Int)), (234, .v y25 ((l[k]).2.2.2)), (235, I ((((l[k]).2.2.2).length : Nat) : Int)), (236, I (((m + 1) : Nat) : Int))], ?_, ⟨rfl, rfl, rfl, rfl, rfl, rfl, rfl, rfl, rfl, rfl, rfl, rfl, rfl, rfl, rfl, rfl, rfl, rfl, rfl, trivial⟩, (m + 1), rfl, rfl, (by first | (rw [bsI_t hv2, esI_t hv2 hek (by rw [hep, hdb])]; done) | (rw [← bsI_f hv2, ← esI_f hv2]; done)), (by omega)⟩; omega
        have hme : m = (phA l k).2.2.2.length := by rw [phA_eq hkl]; omega
        have hac := acW_end (d := dE true) (s := ((durR l).2 + more - chnF (dE true) l i + ((late : Nat) : Int))) hp (show i < k by omega) hkl hme
        have hvk : (bsI (dE true) l i ((durR l).2 + more - chnF (dE true) l i + ((late : Nat) : Int)) k m)[k]'(by omega) = (vF (dE true) l i ((durR l).2 + more - chnF (dE true) l i + ((late : Nat) : Int)) k).isSome := by rw [bsI_at, if_pos rfl, hac]
        have hek : (esI (dE true) l i ((durR l).2 + more - chnF (dE true) l i + ((late : Nat) : Int)) k m)[k]'(by omega) = (vF (dE true) l i ((durR l).2 + more - chnF (dE true) l i + ((late : Nat) : Int)) k).getD 0 := by rw [esI_at, if_pos rfl, hac]
        refine VC.exit (VC.seq (VC.text ?_)); refine VO.c (.move rfl) (VO.c (.move rfl) (VO.c (.ixO (j := k) rfl rfl m1 el83 (by omega)) ?_)); refine VO.r (.ldO rfl m1 vt4 (by omega)) ?_; refine VO.go ?_; refine VC.condB rfl (fun c42 => ?_) (fun c42 => ?_)
        · have hvk2 : (vF (dE true) l i ((durR l).2 + more - chnF (dE true) l i + ((late : Nat) : Int)) k).isSome = true := by rw [← hvk]; exact c42
          refine VC.text ?_; refine VO.c (.move rfl) (VO.c (.move rfl) (VO.c (.move rfl) (VO.c (.ixO (j := k) rfl rfl m0 el25 (by omega)) ?_))); refine VO.r (.ldO rfl m0 vt3 (by omega)) ?_; refine VO.c (.imax) (VO.c (.assign rfl) ?_); refine VO.nil (VC.text ?_); refine VO.c (.move rfl) (VO.c (.add rfl rfl (by omega)) (VO.c (.assign rfl) ?_)); refine VO.nil ?_; refine ⟨_, [(0, .v y22 l), (1, .v (.int .u8) more), (2, .v (.int .u8) at_), (7, .p y32 (durR l)), (11, I ((durR l).2 + more)), (12, .v y25 (latR l ((durR l).2 + more))), (14, .v y25 (slaR l ((durR l).2 + more))), (19, I ((i : Nat) : Int)), (20, I ((late : Nat) : Int)), (21, .raw ww4), (22, .raw ww5), (23, I (endW (dE true) l i ((durR l).2 + more - chnF (dE true) l i + ((late : Nat) : Int)) (k + 1))), (24, I (((k + 1) : Nat) : Int)), (173, I ((l.length : Nat) : Int)), (174, I ((i : Nat) : Int)), (191, I ((late : Nat) : Int))], ?_, ⟨rfl, rfl, rfl, rfl, rfl, rfl, rfl, rfl, rfl, rfl, rfl, slI rfl (by first | (rw [endW_t (some_of hvk2)]; rw [hek]; done) | (rw [endW_f (none_of hvk2)]; done)), rfl, rfl, rfl, rfl, trivial⟩, (k + 1), rfl, rfl, (by rw [bsI_end hp (by omega) hkl hme, esI_end hp (by omega) hkl hme]), (by omega)⟩; omega
        have hvk2 : (vF (dE true) l i ((durR l).2 + more - chnF (dE true) l i + ((late : Nat) : Int)) k).isSome = false := by rw [← hvk]; exact c42
        refine VC.skip (VC.text ?_); refine VO.c (.move rfl) (VO.c (.add rfl rfl (by omega)) (VO.c (.assign rfl) ?_)); refine VO.nil ?_; refine ⟨_, [(0, .v y22 l), (1, .v (.int .u8) more), (2, .v (.int .u8) at_), (7, .p y32 (durR l)), (11, I ((durR l).2 + more)), (12, .v y25 (latR l ((durR l).2 + more))), (14, .v y25 (slaR l ((durR l).2 + more))), (19, I ((i : Nat) : Int)), (20, I ((late : Nat) : Int)), (21, .raw ww4), (22, .raw ww5), (23, I (endW (dE true) l i ((durR l).2 + more - chnF (dE true) l i + ((late : Nat) : Int)) (k + 1))), (24, I (((k + 1) : Nat) : Int)), (173, I ((l.length : Nat) : Int)), (174, I ((i : Nat) : Int)), (191, I ((late : Nat) : Int))], ?_, ⟨rfl, rfl, rfl, rfl, rfl, rfl, rfl, rfl, rfl, rfl, rfl, slI rfl (by first | (rw [endW_t (some_of hvk2)]; rw [hek]; done) | (rw [endW_f (none_of hvk2)]; done)), rfl, rfl, rfl, rfl, trivial⟩, (k + 1), rfl, rfl, (by rw [bsI_end hp (by omega) hkl hme, esI_end hp (by omega) hkl hme]), (by omega)⟩; omega
      have hke : k = l.length := by omega
      have hen : endW (dE true) l i ((durR l).2 + more - chnF (dE true) l i + ((late : Nat) : Int)) k = ((durR l).2 + more - chnF (dE true) l i + ((late : Nat) : Int)) + chnF (dE true) l i := by rw [hke]; exact endW_eq hp hd hil (by omega)
      refine VC.exit (VC.seq ?_); refine VC.join [(0, .v y22 l), (1, .v (.int .u8) more), (2, .v (.int .u8) at_), (7, .p y32 (durR l)), (11, I ((durR l).2 + more)), (12, .v y25 (latR l ((durR l).2 + more))), (14, .v y25 (slaR l ((durR l).2 + more))), (19, I ((i : Nat) : Int)), (173, I ((l.length : Nat) : Int)), (174, I ((i : Nat) : Int)), (191, I ((late : Nat) : Int)), (291, B false)] [(ww5, .row 3 (.int .i64) (esW (dE true) l i ((durR l).2 + more - chnF (dE true) l i + ((late : Nat) : Int)) k)), (ww4, .row 4 .bool (bsW (dE true) l i ((durR l).2 + more - chnF (dE true) l i + ((late : Nat) : Int)) k))] ?_ ?_
      · skip
        refine VC.text ?_; refine VO.c (.move rfl) (VO.c (.eql) (VO.c (.move rfl) ?_)); refine VO.cg (r := decide (((late : Nat) : Int) = (0 : Int))) (w := true) [] trivial (fun _ => (.move rfl)) ?_; refine VO.cg (r := decide (((late : Nat) : Int) = (0 : Int))) (w := true) [] trivial (fun _ => (.move rfl)) ?_; refine VO.cg (r := decide (((late : Nat) : Int) = (0 : Int))) (w := true) [(279, I (endW (dE true) l i ((durR l).2 + more - chnF (dE true) l i + ((late : Nat) : Int)) k)), (280, I ((durR l).2 + more))] ⟨rfl, rfl, trivial⟩ (fun _ => (.gtr)) ?_; refine VO.c (.and) (VO.c (.move rfl) ?_); refine VO.splitB (x := 283) rfl (fun g44_7 => ?_) (fun g44_7 => ?_)
        · try simp only [Bool.and_eq_true, Bool.or_eq_true, Bool.and_eq_false_iff, Bool.or_eq_false_iff, Bool.not_eq_true', Bool.not_eq_false', decide_eq_true_eq, decide_eq_false_iff_not] at g44_7
          refine VO.skip (VO.skip (VO.skip (VO.skip ?_))); refine VO.skip (VO.skip (VO.skip (VO.c (.pickT rfl rfl) ?_))); refine VO.nil ?_; exact ⟨⟨rfl, rfl, rfl, rfl, rfl, rfl, rfl, rfl, rfl, rfl, rfl, slE rfl (by first | (exfalso; omega) | (simp; omega) | (simp [hen]; omega)), trivial⟩, rfl⟩
        try simp only [Bool.and_eq_true, Bool.or_eq_true, Bool.and_eq_false_iff, Bool.or_eq_false_iff, Bool.not_eq_true', Bool.not_eq_false', decide_eq_true_eq, decide_eq_false_iff_not] at g44_7
        refine VO.c (.move rfl) (VO.c (.eql) (VO.c (.move rfl) ?_)); refine VO.cg (r := decide (((late : Nat) : Int) = (1 : Int))) (w := true) [] trivial (fun _ => (.move rfl)) ?_; refine VO.cg (r := decide (((late : Nat) : Int) = (1 : Int))) (w := true) [] trivial (fun _ => (.move rfl)) ?_; refine VO.cg (r := decide (((late : Nat) : Int) = (1 : Int))) (w := true) [(287, I (endW (dE true) l i ((durR l).2 + more - chnF (dE true) l i + ((late : Nat) : Int)) k)), (288, I ((durR l).2 + more))] ⟨rfl, rfl, trivial⟩ (fun _ => (.leq)) ?_; refine VO.c (.and) (VO.c (.pickF rfl rfl) ?_); refine VO.nil ?_; exact ⟨⟨rfl, rfl, rfl, rfl, rfl, rfl, rfl, rfl, rfl, rfl, rfl, slE rfl (by first | (exfalso; omega) | (simp; omega) | (simp [hen]; omega)), trivial⟩, rfl⟩
      refine VC.condB rfl (fun c44 => ?_) (fun c44 => ?_)
      · exact absurd c44 (by decide)
      refine VC.skip (VC.text ?_); refine VO.c (.add rfl rfl (by omega)) (VO.c (.move rfl) ?_); refine VO.forget ?_; refine VO.forget ?_; refine VO.nil ?_; refine ⟨_, [(0, .v y22 l), (1, .v (.int .u8) more), (2, .v (.int .u8) at_), (7, .p y32 (durR l)), (11, I ((durR l).2 + more)), (12, .v y25 (latR l ((durR l).2 + more))), (14, .v y25 (slaR l ((durR l).2 + more))), (19, I ((i : Nat) : Int)), (173, I ((l.length : Nat) : Int)), (174, I ((i : Nat) : Int)), (191, I (((late + 1) : Nat) : Int))], ?_, ⟨rfl, rfl, rfl, rfl, rfl, rfl, rfl, rfl, rfl, rfl, rfl, trivial⟩, (late + 1), rfl, rfl, rfl, (by omega)⟩; omega
    refine VC.exit (VC.text ?_); refine VO.c (.add rfl rfl (by omega)) (VO.c (.move rfl) ?_); refine VO.nil ?_; refine ⟨_, [(0, .v y22 l), (1, .v (.int .u8) more), (2, .v (.int .u8) at_), (7, .p y32 (durR l)), (11, I ((durR l).2 + more)), (12, .v y25 (latR l ((durR l).2 + more))), (14, .v y25 (slaR l ((durR l).2 + more))), (173, I ((l.length : Nat) : Int)), (174, I (((i + 1) : Nat) : Int))], ?_, ⟨rfl, rfl, rfl, rfl, rfl, rfl, rfl, rfl, rfl, trivial⟩, (i + 1), rfl, rfl, rfl, (by omega)⟩; omega
  refine VC.exit (VC.seq (VC.seq (VC.text ?_))); refine VO.c (.move rfl) ?_; refine VO.r (.len el22) ?_; refine VO.c (.eql) (VO.go ?_); refine VC.condD rfl (fun c48 => ?_) (fun c48 => ?_)
  · refine VC.seq (VC.text ?_); refine VO.c (.assign rfl) (VO.go ?_); refine VC.ret ?_; exact VEnd.one rfl evT (pvE (by rfl))
  have hm0 : 0 ≤ at_.tmod ((l.length : Nat) : Int) := Int.tmod_nonneg _ hat.1; have hm1 : at_.tmod ((l.length : Nat) : Int) < ((l.length : Nat) : Int) := Int.tmod_lt_of_pos _ (by omega); refine VC.skip (VC.seq (VC.text ?_)); refine VO.c (.move rfl) (VO.c (.convI rfl .i64 (by exact wrap64 (by omega) (by omega))) (VO.c (.move rfl) ?_)); refine VO.r (.len el22) ?_; refine VO.c (.rem rfl rfl (by omega)) (VO.c (.assign rfl) ?_); refine VO.go (VC.seq (VC.text ?_)); refine VO.c (.move rfl) ?_; refine VO.callG [] rfl rfl rfl (VFG.call (lPlanO_ok hl7 hb8)) ?_; rintro _ _ ⟨ww10, rfl, rfl⟩; show VO _ _ _ _ _ _ [(ww10, .row 84 y84 l)] _; refine VO.c (.assign rfl) ?_; refine VO.go (VC.seq (VC.seq (VC.text ?_))); refine VO.c (.move rfl) (VO.c (.move rfl) (VO.c (.ixOZ (k := (at_.tmod ((l.length : Nat) : Int))) rfl rfl m0 el29 (by omega) (by omega)) (VO.c (.faE (j := (Int.toNat (at_.tmod ((l.length : Nat) : Int)))) (k := 2) m0 (by omega)) ?_))); refine VO.r (.ldE (j := (Int.toNat (at_.tmod ((l.length : Nat) : Int)))) (k := 2) (by omega) (.r (.r (.l .o))) rfl m0 vt3) ?_; refine VO.c (.eql) (VO.go ?_); refine VC.condD rfl (fun c52 => ?_) (fun c52 => ?_)
  · refine VC.seq (VC.text ?_); refine VO.c (.assign rfl) (VO.go ?_); refine VC.ret ?_; exact VEnd.one rfl evT (pvE (by rfl))
  have hkl : (at_.tmod ((l.length : Nat) : Int)).toNat < l.length := by omega
  have hdk := hp.dur _ hkl; rw [phA_eq hkl] at hdk; have hlg := lngR hz hkl (by rw [phA_eq hkl]; exact c52); refine VC.skip (VC.seq (VC.text ?_)); refine VO.c (.move rfl) (VO.c (.move rfl) (VO.c (.ixOZ (k := (at_.tmod ((l.length : Nat) : Int))) rfl rfl m0 el29 (by omega) (by omega)) (VO.c (.faE (j := (Int.toNat (at_.tmod ((l.length : Nat) : Int)))) (k := 2) m0 (by omega)) ?_))); refine VO.r (.ldE (j := (Int.toNat (at_.tmod ((l.length : Nat) : Int)))) (k := 2) (by omega) (.r (.r (.l .o))) rfl m0 vt3) ?_; refine VO.c (.add rfl rfl (by omega)) (VO.c (.ixOZ (k := (at_.tmod ((l.length : Nat) : Int))) rfl rfl m0 el29 (by omega) (by omega)) (VO.c (.faE (j := (Int.toNat (at_.tmod ((l.length : Nat) : Int)))) (k := 2) m0 (by omega)) ?_)); refine VO.setEF (j := (Int.toNat (at_.tmod ((l.length : Nat) : Int)))) (k := 2) (dz := ((l[(Int.toNat (at_.tmod ((l.length : Nat) : Int)))]).1, (l[(Int.toNat (at_.tmod ((l.length : Nat) : Int)))]).2.1, ((l[(Int.toNat (at_.tmod ((l.length : Nat) : Int)))]).2.2.1 + (1 : Int)), l[(Int.toNat (at_.tmod ((l.length : Nat) : Int)))].2.2.2)) (by omega) vt3 (.r (.r (.l .o))) ?_; refine VO.row (ys := lngP l (at_.tmod ((l.length : Nat) : Int)).toNat) (by exact lng_set hkl) ?_; refine VO.go (VC.seq (VC.text ?_)); refine VO.c (.move rfl) ?_; refine VO.callC rfl rfl .same (.cons (.row m0) .nil) rfl (VF.call (cDuration_ok (by rw [lng_len]; exact hl7) (lng_b8 hkl hb8))) ?_; refine VO.c (.move rfl) (VO.c (.extract) (VO.c (.extract) ?_)); refine VO.cell (.alloc zt32) ?_; intro ww11; refine VO.setV (cs' := [I ((durR (lngP l (at_.tmod ((l.length : Nat) : Int)).toNat)).1), I ((durR (lngP l (at_.tmod ((l.length : Nat) : Int)).toNat)).2)]) vt32 .v ?_; refine VO.shut [(29, .p y32 (durR (lngP l (at_.tmod ((l.length : Nat) : Int)).toNat)))] (.cons rfl (.var m0 .refl) .nil) ?_; refine VO.c (.assign rfl) ?_; refine VO.go (VC.seq ?_); refine VC.keep [(7, .p y32 (durR l)), (29, .p y32 (durR (lngP l (at_.tmod ((l.length : Nat) : Int)).toNat))), (30, I (planE (lngP l (at_.tmod ((l.length : Nat) : Int)).toNat)))] ⟨rfl, rfl, rfl, trivial⟩ ?_; refine VC.text ?_; refine VO.c (.move rfl) (VO.c (.eql) (VO.c (.move rfl) ?_)); refine VO.cg (r := decide (planE (lngP l (at_.tmod ((l.length : Nat) : Int)).toNat) = (0 : Int))) (w := true) [] trivial (fun _ => (.fa (.l .o))) ?_; refine VO.rg (r := decide (planE (lngP l (at_.tmod ((l.length : Nat) : Int)).toNat) = (0 : Int))) (w := true) [(326, .p (.int .i64) ((durR (lngP l (at_.tmod ((l.length : Nat) : Int)).toNat)).1))] ⟨rfl, trivial⟩ (fun _ => (.ld vt3)) ?_; refine VO.cg (r := decide (planE (lngP l (at_.tmod ((l.length : Nat) : Int)).toNat) = (0 : Int))) (w := true) [] trivial (fun _ => (.fa (.l .o))) ?_; refine VO.rg (r := decide (planE (lngP l (at_.tmod ((l.length : Nat) : Int)).toNat) = (0 : Int))) (w := true) [(328, .p (.int .i64) ((durR l).1))] ⟨rfl, trivial⟩ (fun _ => (.ld vt3)) ?_; refine VO.cg (r := decide (planE (lngP l (at_.tmod ((l.length : Nat) : Int)).toNat) = (0 : Int))) (w := true) [(327, I ((durR (lngP l (at_.tmod ((l.length : Nat) : Int)).toNat)).1)), (329, I ((durR l).1))] ⟨rfl, rfl, trivial⟩ (fun _ => (.eql)) ?_; refine VO.c (.and) (VO.c (.move rfl) ?_); refine VO.cg (r := ((decide (planE (lngP l (at_.tmod ((l.length : Nat) : Int)).toNat) = (0 : Int))) && (decide ((durR (lngP l (at_.tmod ((l.length : Nat) : Int)).toNat)).1 = (durR l).1)))) (w := true) [] trivial (fun _ => (.fa (.r (k := 0) .o))) ?_; refine VO.rg (r := ((decide (planE (lngP l (at_.tmod ((l.length : Nat) : Int)).toNat) = (0 : Int))) && (decide ((durR (lngP l (at_.tmod ((l.length : Nat) : Int)).toNat)).1 = (durR l).1)))) (w := true) [(333, .p (.int .i64) ((durR (lngP l (at_.tmod ((l.length : Nat) : Int)).toNat)).2))] ⟨rfl, trivial⟩ (fun _ => (.ld vt3)) ?_; refine VO.cg (r := ((decide (planE (lngP l (at_.tmod ((l.length : Nat) : Int)).toNat) = (0 : Int))) && (decide ((durR (lngP l (at_.tmod ((l.length : Nat) : Int)).toNat)).1 = (durR l).1)))) (w := true) [] trivial (fun _ => (.fa (.r (k := 0) .o))) ?_; refine VO.rg (r := ((decide (planE (lngP l (at_.tmod ((l.length : Nat) : Int)).toNat) = (0 : Int))) && (decide ((durR (lngP l (at_.tmod ((l.length : Nat) : Int)).toNat)).1 = (durR l).1)))) (w := true) [(335, .p (.int .i64) ((durR l).2))] ⟨rfl, trivial⟩ (fun _ => (.ld vt3)) ?_; refine VO.cg (r := ((decide (planE (lngP l (at_.tmod ((l.length : Nat) : Int)).toNat) = (0 : Int))) && (decide ((durR (lngP l (at_.tmod ((l.length : Nat) : Int)).toNat)).1 = (durR l).1)))) (w := true) [(334, I ((durR (lngP l (at_.tmod ((l.length : Nat) : Int)).toNat)).2)), (336, I ((durR l).2))] ⟨rfl, rfl, trivial⟩ (fun _ => (.geq)) ?_; refine VO.c (.and) (VO.c (.move rfl) ?_); refine VO.cg (r := (((decide (planE (lngP l (at_.tmod ((l.length : Nat) : Int)).toNat) = (0 : Int))) && (decide ((durR (lngP l (at_.tmod ((l.length : Nat) : Int)).toNat)).1 = (durR l).1))) && (decide ((durR l).2 ≤ (durR (lngP l (at_.tmod ((l.length : Nat) : Int)).toNat)).2)))) (w := true) [] trivial (fun _ => (.fa (.r (k := 0) .o))) ?_; refine VO.rg (r := (((decide (planE (lngP l (at_.tmod ((l.length : Nat) : Int)).toNat) = (0 : Int))) && (decide ((durR (lngP l (at_.tmod ((l.length : Nat) : Int)).toNat)).1 = (durR l).1))) && (decide ((durR l).2 ≤ (durR (lngP l (at_.tmod ((l.length : Nat) : Int)).toNat)).2)))) (w := true) [(340, .p (.int .i64) ((durR (lngP l (at_.tmod ((l.length : Nat) : Int)).toNat)).2))] ⟨rfl, trivial⟩ (fun _ => (.ld vt3)) ?_; refine VO.cg (r := (((decide (planE (lngP l (at_.tmod ((l.length : Nat) : Int)).toNat) = (0 : Int))) && (decide ((durR (lngP l (at_.tmod ((l.length : Nat) : Int)).toNat)).1 = (durR l).1))) && (decide ((durR l).2 ≤ (durR (lngP l (at_.tmod ((l.length : Nat) : Int)).toNat)).2)))) (w := true) [] trivial (fun _ => (.fa (.r (k := 0) .o))) ?_; refine VO.rg (r := (((decide (planE (lngP l (at_.tmod ((l.length : Nat) : Int)).toNat) = (0 : Int))) && (decide ((durR (lngP l (at_.tmod ((l.length : Nat) : Int)).toNat)).1 = (durR l).1))) && (decide ((durR l).2 ≤ (durR (lngP l (at_.tmod ((l.length : Nat) : Int)).toNat)).2)))) (w := true) [(342, .p (.int .i64) ((durR l).2))] ⟨rfl, trivial⟩ (fun _ => (.ld vt3)) ?_; refine VO.cg (r := (((decide (planE (lngP l (at_.tmod ((l.length : Nat) : Int)).toNat) = (0 : Int))) && (decide ((durR (lngP l (at_.tmod ((l.length : Nat) : Int)).toNat)).1 = (durR l).1))) && (decide ((durR l).2 ≤ (durR (lngP l (at_.tmod ((l.length : Nat) : Int)).toNat)).2)))) (w := true) [(343, I ((durR l).2))] ⟨rfl, trivial⟩ (fun hgd => have g56_16 : (((decide (planE (lngP l (at_.tmod ((l.length : Nat) : Int)).toNat) = (0 : Int))) && (decide ((durR (lngP l (at_.tmod ((l.length : Nat) : Int)).toNat)).1 = (durR l).1))) && (decide ((durR l).2 ≤ (durR (lngP l (at_.tmod ((l.length : Nat) : Int)).toNat)).2))) = true := (by simpa using hgd); (.add rfl rfl (by omega))) ?_; refine VO.cg (r := (((decide (planE (lngP l (at_.tmod ((l.length : Nat) : Int)).toNat) = (0 : Int))) && (decide ((durR (lngP l (at_.tmod ((l.length : Nat) : Int)).toNat)).1 = (durR l).1))) && (decide ((durR l).2 ≤ (durR (lngP l (at_.tmod ((l.length : Nat) : Int)).toNat)).2)))) (w := true) [(341, I ((durR (lngP l (at_.tmod ((l.length : Nat) : Int)).toNat)).2)), (344, I ((durR l).2 + (1 : Int)))] ⟨rfl, rfl, trivial⟩ (fun _ => (.leq)) ?_; refine VO.c (.and) (VO.c (.assign rfl) (VO.go ?_)); refine VC.ret ?_; exact VEnd.one rfl evT (pvE (by simp only [hlg.1, hlg.2.1]; simp; omega))
end Go.Proofs
namespace Go.Fs
open Go.RowKit (Below)
variable {P : Program}
def orcB (fi fj fc : FuncId) (T : TypeId) : FuncId → List Value → Heap → Option (Value × Heap) := fun f xs h =>
  bif Nat.beq f fc then
    match xs with
    | [.pointer (some ⟨b, 0, none⟩)] =>
      match h.get b with
      | some (.row e [p, v] true false) =>
        bif Nat.beq e T then
          match p with
          | .pointer none => some (.tuple #[], h.set b (.row e [.pointer (some ⟨b, 0, none⟩), v] true false))
          | .pointer (some ⟨b', 0, none⟩) => bif Nat.beq b' b then some (.tuple #[], h) else none
          | _ => none
        else none
      | _ => none
    | _ => none
  else orcS fi fj f xs h
theorem orcB_sound {B : Nat} {w0 : World} {fi fj fc : FuncId} {T : TypeId} (hz : w0.drawn = 0) (hS : CallSound P B w0 (orcS fi fj)) (hc : Enters P fc)
    (hF : ∀ (b : Nat) (w : World), w.cell? ⟨b, 0, none⟩ = some (.pointer none) → w.shape? b = some (T, 2) → w.frozen? ⟨b, 0, none⟩ = false →
      Calls P fc #[.pointer (some ⟨b, 0, none⟩)] w fun e w' => e = .returned (.tuple #[]) ∧ w' = w.setCell ⟨b, 0, none⟩ (.pointer (some ⟨b, 0, none⟩)))
    (hU : ∀ (b : Nat) (w : World), w.cell? ⟨b, 0, none⟩ = some (.pointer (some ⟨b, 0, none⟩)) → Calls P fc #[.pointer (some ⟨b, 0, none⟩)] w fun e w' => e = .returned (.tuple #[]) ∧ w' = w) :
    CallSound P B w0 (orcB fi fj fc T) := by
  intro f xs h v h' hf; unfold orcB at hf
  cases hb : Nat.beq f fc with
  | false =>
    rw [hb] at hf
    exact hS f xs h v h' hf
  | true =>
    have := nbeq hb; subst this; rw [hb] at hf; simp only [cond_true] at hf; split at hf
    · rename_i b; split at hf
      · rename_i e p u hg; obtain ⟨he, hf2⟩ := bif_some hf; obtain rfl := nbeq he; refine ⟨hc, fun ρ S w args' hr ha nn => ?_⟩; obtain ⟨hsb, cur, k1, k2, k3, k4, k5, k6, k7⟩ := hr.objs b _ hg; have hcl : cur.length = 2 := (k6 rfl).symm
        match cur, hcl with
        | [p', u'], _ =>
        have hp : VR ρ S p p' := k7 0 (by simp); have hu : VR ρ S u u' := k7 1 (by simp)
        have hat : (ρ b).at 0 = ⟨(ρ b).block, 0, none⟩ := by unfold Loc.at; rw [k2]
        have harg : args' = [.pointer (some ⟨(ρ b).block, 0, none⟩)] := by
          have h1 := ha.1
          match args', h1 with
          | [a], _ =>
            have h2 : VR ρ S (.pointer (some ⟨b, 0, none⟩)) a := ha.2 0 (by simp); rw [h2.ptr_inv.2, hat]
        subst harg
        have hcell : w.cell? ⟨(ρ b).block, 0, none⟩ = some p' := by simp [World.cell?, k1]
        split at hf2
        · simp only [Option.some.injEq, Prod.mk.injEq] at hf2; obtain ⟨rfl, rfl⟩ := hf2; obtain rfl := hp.eq_of_af0 rfl; have hC : CallsIn Fence.wide nn P f #[.pointer (some ⟨(ρ b).block, 0, none⟩)] w _ := callsIn_wide.2 (hF (ρ b).block w hcell (by simp [World.shape?, k1]) (frozen_soft k1 (by rw [k3]; exact Nat.zero_lt_succ _))); refine hC.mono fun e2 w' hret => ?_; obtain ⟨rfl, rfl⟩ := hret; refine ⟨ρ, Moved.set hr hg rfl rfl rfl rfl rfl (by simp [World.setCell]) (fun k hk => ?_) ?_, VR.tuple' LR.nil⟩
          · simp only [World.setCell, Array.getElem?_modify]; rw [if_neg (fun e0 => hk e0.symm)]
          refine ⟨[.pointer (some ⟨(ρ b).block, 0, none⟩), u'], ?_, k2, k3, k4, Nat.le_refl _, fun _ => rfl, fun i hi => ?_⟩
          · simp only [World.setCell, Array.getElem?_modify, if_pos rfl, k1]; simp
          match i, hi with
          | 0, _ => show VR ρ S (.pointer (some ⟨b, 0, none⟩)) (.pointer (some ⟨(ρ b).block, 0, none⟩)); rw [← hat]; exact .ptr b 0 hsb
          | 1, _ => exact hu
        · rename_i b'; obtain ⟨hbb, hf3⟩ := bif_some hf2; obtain rfl := nbeq hbb; simp only [Option.some.injEq, Prod.mk.injEq] at hf3; obtain ⟨rfl, rfl⟩ := hf3; have hp2 := hp.ptr_inv.2; rw [hat] at hp2; subst hp2; have hC : CallsIn Fence.wide nn P f #[.pointer (some ⟨(ρ b').block, 0, none⟩)] w _ := callsIn_wide.2 (hU (ρ b').block w hcell); refine hC.mono fun e2 w' hret => ?_; obtain ⟨rfl, rfl⟩ := hret; exact ⟨ρ, Moved.same hr, VR.tuple' LR.nil⟩
        cases hf2
      cases hf
    cases hf
end Go.Fs
namespace Go.Fs
open Go.RowKit (Below)
variable {P : Program} {ops : Array Oper} {n : Nat}
def sameV : Value → Value → Bool
  | .int k a, .int k' b => decide (k = k') && decide (a = b)
  | .bool a, .bool b => decide (a = b)
  | _, _ => false
theorem sameV_eq {a b : Value} (h : sameV a b = true) : a = b := by
  unfold sameV at h; split at h
  · obtain ⟨h1, h2⟩ := band h; rw [of_decide_eq_true h1, of_decide_eq_true h2]
  · rw [of_decide_eq_true h]
  cases h
def sameL : List Value → List Value → Bool
  | [], [] => true
  | a :: r, b :: q => sameV a b && sameL r q
  | _, _ => false
theorem sameL_eq : ∀ {a b : List Value}, sameL a b = true → a = b
  | [], [], _ => rfl
  | [], _ :: _, h => by cases h
  | _ :: _, [], h => by cases h
  | a :: r, b :: q, h => by
    obtain ⟨h1, h2⟩ := band (h : (sameV a b && sameL r q) = true); rw [sameV_eq h1, sameL_eq h2]
def sameO : AObj → AObj → Bool
  | .row e cs o m, .row e' cs' o' m' => Nat.beq e e' && sameL cs cs' && decide (o = o') && decide (m = m')
  | _, _ => false
theorem sameO_eq {a b : AObj} (h : sameO a b = true) : a = b := by
  unfold sameO at h; split at h
  · obtain ⟨h, h1⟩ := band h; obtain ⟨h, h2⟩ := band h; obtain ⟨h, h3⟩ := band h; rw [nbeq h, sameL_eq h3, of_decide_eq_true h2, of_decide_eq_true h1]
  cases h
def okRd (rd : List (Nat × AObj)) (h : Heap) : Bool := rd.all fun p => match h.get p.1 with
  | some ob => sameO ob p.2
  | none => false
theorem stLook_mem {b : Nat} {ob : AObj} : ∀ {l : List (Nat × AObj)}, look l b = some ob → (b, ob) ∈ l
  | [], h => by cases h
  | (c, oc) :: r, h => by
    simp only [look] at h
    cases hc : Nat.beq c b with
    | true =>
      rw [hc] at h; simp only [cond_true, Option.some.injEq] at h
      rw [nbeq hc, h]; exact List.mem_cons_self
    | false =>
      rw [hc] at h; simp only [cond_false] at h; exact List.mem_cons_of_mem _ (stLook_mem h)
theorem okRd_get {rd : List (Nat × AObj)} {h : Heap} (hk : okRd rd h = true) {b : Nat} {ob : AObj} (hl : look rd b = some ob) : h.get b = some ob := by
  have := List.all_eq_true.1 hk _ (stLook_mem hl); simp only at this; split at this
  · rename_i o2 hg; rw [hg, sameO_eq this]
  cases this
def stillR (P : Program) (rd : List (Nat × AObj)) (ops : Array Oper) (n : Nat) (o : Oper) (s : DSt) : Option DSt :=
  match fsWanted ops s.t o, o.op with
  | some true, .load T a =>
    match evalO s.t a with
    | .pointer (some p) =>
      match look rd p.block with
      | some ob =>
        match fsLoad P T (evalO s.t a) { next := s.h.next, low := s.h.next, objs := [(p.block, ob)] } with
        | some v => (put n s.t o.dst v).map fun t => { s with t, bs := s.bs ++ [beforeOf s.bs o] }
        | none => none
      | none => none
    | _ => none
  | _, _ => none
def fsDrawnY (P : Program) (rd : List (Nat × AObj)) (step : Oper → (Operand → Value) → Heap → Option (Value × Heap)) (ops : Array Oper) (n : Nat) : List Oper → Nat → DSt → Option DSt
  | [], _, s => bif okRd rd s.h then some s else none
  | o :: r, i, s => bif okRd rd s.h then
      match fsDraw step ops n o i s with
      | some s' => fsDrawnY P rd step ops n r (i + 1) s'
      | none => match stillR P rd ops n o s with
        | some s' => fsDrawnY P rd step ops n r (i + 1) s'
        | none => none
    else none
def fsReads (P : Program) (h0 : Heap) (step : Oper → (Operand → Value) → Heap → Option (Value × Heap)) (ops : Array Oper) (n : Nat) : List Oper → Nat → DSt → List (Nat × AObj) → List (Nat × AObj)
  | [], _, _, l => l
  | o :: r, i, s, l => match fsDraw step ops n o i s with
    | some s' => fsReads P h0 step ops n r (i + 1) s' l
    | none => match stillO P h0 ops n o s with
      | some (s', b) => match h0.get (b - 1) with
        | some ob => fsReads P h0 step ops n r (i + 1) s' ((b - 1, ob) :: l)
        | none => l
      | none => l
def drawnY (P : Program) (h0 : Heap) (step : Oper → (Operand → Value) → Heap → Option (Value × Heap)) (ops : Array Oper) (n : Nat) (s : DSt) (rd : List (Nat × AObj)) : Option DSt :=
  bif rd.all fun p => Nat.blt p.1 h0.next then fsDrawnY P rd step ops n ops.toList 0 s else none
theorem stillR_of {call : FuncId → List Value → Heap → Option (Value × Heap)} {yield : Nat → List Value → Heap → Option (Value × Heap)} {X : Nat → AObj → Prop} {rd : List (Nat × AObj)} {o : Oper} {i : Nat} {s s' : DSt}
    (hf : stillR P rd ops n o s = some s') (hX : ∀ c ob, look rd c = some ob → X c ob) :
    s'.bs = s.bs ++ [beforeOf s.bs o] ∧ Did (fsOp P call yield) ops n X o i s s' := by
  unfold stillR at hf; split at hf
  · rename_i T a hw hop; split at hf
    · rename_i p hev; split at hf
      · rename_i ob hg; split at hf
        · rename_i v hv; obtain ⟨t, h3, h4⟩ := Option.map_eq_some_iff.1 hf; subst h4; refine ⟨rfl, .still hw v [(p.block, ob)] (fun c oc hc => ?_) ?_ h3 rfl rfl rfl rfl⟩
          · simp only [look] at hc
            cases hbc : Nat.beq p.block c with
            | true =>
              rw [hbc] at hc; simp only [cond_true, Option.some.injEq] at hc; obtain rfl := nbeq hbc; subst hc
              exact hX _ _ hg
            | false => rw [hbc] at hc; cases hc
          unfold fsOp; rw [hop]; simp only [hv, Option.map_some]
        cases hf
      cases hf
    cases hf
  cases hf
theorem drawnY_trace {call : FuncId → List Value → Heap → Option (Value × Heap)} {yield : Nat → List Value → Heap → Option (Value × Heap)} {rd : List (Nat × AObj)} : ∀ (l : List Oper) (i : Nat) (s s' : DSt), fsDrawnY P rd (fsOp P call yield) ops n l i s = some s' →
    ∃ st : Nat → DSt, st i = s ∧ st (i + l.length) = s' ∧ (∀ q, i ≤ q → q ≤ i + l.length → okRd rd (st q).h = true) ∧
    ∀ j o, l[j]? = some o → ∀ X : Nat → AObj → Prop, (∀ c ob, look rd c = some ob → X c ob) → (st (i + j + 1)).bs = (st (i + j)).bs ++ [beforeOf (st (i + j)).bs o] ∧ Did (fsOp P call yield) ops n X o (i + j) (st (i + j)) (st (i + j + 1))
  | [], i, s, s', h => by
    simp only [fsDrawnY] at h; obtain ⟨h1, h2⟩ := bif_some h; simp only [Option.some.injEq] at h2; subst h2
    exact ⟨fun _ => s, rfl, rfl, fun _ _ _ => h1, fun j o hj => by simp at hj⟩
  | o :: l, i, s, s', h => by
    simp only [fsDrawnY] at h; obtain ⟨hok, h⟩ := bif_some h
    have key : ∀ s1, fsDrawnY P rd (fsOp P call yield) ops n l (i + 1) s1 = some s' →
        (∀ X : Nat → AObj → Prop, (∀ c ob, look rd c = some ob → X c ob) → s1.bs = s.bs ++ [beforeOf s.bs o] ∧ Did (fsOp P call yield) ops n X o i s s1) →
      ∃ st : Nat → DSt, st i = s ∧ st (i + (o :: l).length) = s' ∧ (∀ q, i ≤ q → q ≤ i + (o :: l).length → okRd rd (st q).h = true) ∧
        ∀ j o', (o :: l)[j]? = some o' → ∀ X : Nat → AObj → Prop, (∀ c ob, look rd c = some ob → X c ob) → (st (i + j + 1)).bs = (st (i + j)).bs ++ [beforeOf (st (i + j)).bs o'] ∧ Did (fsOp P call yield) ops n X o' (i + j) (st (i + j)) (st (i + j + 1)) := fun s1 hr hd => by
      obtain ⟨st, h1, h2, hq, h3⟩ := drawnY_trace l (i + 1) s1 s' hr; refine ⟨fun k => if k = i then s else st k, by simp, ?_, fun q hq1 hq2 => ?_, fun j o' hj X hX => ?_⟩
      · simp only [List.length_cons]; rw [if_neg (by omega), ← h2]; congr 1; omega
      · rw [List.length_cons] at hq2; by_cases e : q = i
        · subst e; simpa using hok
        simp only [if_neg e]; exact hq q (by omega) (by omega)
      cases j with
      | zero =>
        simp at hj; subst hj
        simpa [h1] using hd X hX
      | succ j =>
        simp only [List.getElem?_cons_succ] at hj; have := h3 j o' hj X hX; rw [show i + 1 + j = i + (j + 1) by omega] at this; simp only; rw [if_neg (by omega), if_neg (by omega)]; exact this
    split at h
    · rename_i s1 hs1; exact key s1 h fun X _ => did_of hs1
    split at h
    · rename_i s1 hs1; exact key s1 h fun X hX => stillR_of hs1 hX
    cases h
theorem traceY_of {call : FuncId → List Value → Heap → Option (Value × Heap)} {yield : Nat → List Value → Heap → Option (Value × Heap)} {t0 : Tr} {h0 : Heap} {s : DSt} {rd : List (Nat × AObj)} (h : drawnY P h0 (fsOp P call yield) ops n ⟨t0, h0, [], [], 0, false⟩ rd = some s) : ∃ st, Trace (fsOp P call yield) ops n st t0 h0 ∧ st ops.size = s := by
  unfold drawnY at h; obtain ⟨hb, h⟩ := bif_some h; obtain ⟨st, h1, h2, hq, h3⟩ := drawnY_trace _ _ _ _ h
  have h2' : st ops.size = s := by simpa using h2
  refine ⟨st, ⟨h1, fun i o ho => ?_⟩, h2'⟩; have := h3 i o (by simpa using ho) (fun b ob => h0.get b = some ob ∧ b < h0.next ∧ (b < (st ops.size).h.low ∨ ∀ q, q ≤ ops.size → (st q).h.get b = some ob)) (fun c ob hc => ?_)
  · simpa only [Nat.zero_add] using this
  have hall : ∀ q, q ≤ ops.size → (st q).h.get c = some ob := fun q hq2 => okRd_get (hq q (Nat.zero_le _) (by simpa using hq2)) hc; have h0 := hall 0 (Nat.zero_le _); rw [h1] at h0; exact ⟨h0, nblt (List.all_eq_true.1 hb _ (stLook_mem hc)), .inr hall⟩
variable {B : Nat} {w0 : World} {S : Nat → Prop} {ρ0 : Ren} {call : FuncId → List Value → Heap → Option (Value × Heap)} {yield : Nat → List Value → Heap → Option (Value × Heap)} {t0 : Tr} {h0 : Heap}
theorem drawn_wpY (hcs : CallSnd P B w0 call) (hys : YieldSound P B w0 yield) (hok : regionOk ops = true) {s : DSt} {rd : List (Nat × AObj)} (hf : drawnY P h0 (fsOp P call yield) ops n ⟨t0, h0, [], [], 0, false⟩ rd = some s)
    {w : World} {a : Act} (hr : HR P ρ0 S B w0 h0 w) (ht : TrR ρ0 S t0 n a.tmps) {r : Option Nat} {nn : Nat} {Q : Exit → Act → World → Prop}
    (k : ∀ ρ' w' a', Moved P B w0 ρ0 ρ' S h0 s.h w w' → TrR ρ' (Ext S h0 s.h) s.t n a'.tmps → a'.defers = a.defers → Q .normal a' w') (t : Nat) :
    wpOpsIn (Wide r) nn P ops Q (Region.schedule true ops t) a w := drawn_wpT hcs hys hok (traceY_of hf) hr ht k t
end Go.Fs
namespace Go.Fs
open Go.RowKit (Below)
variable {P : Program} {B : Nat} {w0 : World}
def fsStepX (P : Program) (orc : FuncId → List Value → Heap → Option (Value × Heap)) (rec : Rec) : Rec := fun rnd c fr h =>
  match c with
  | .region _ ops true => match drawnX P { next := h.next, low := h.next, objs := h.objs } (fsOp P (callOf P orc rec) (fsYield rec)) ops fr.n ⟨fr.t, { next := h.next, low := h.next, objs := h.objs }, [], [], 0, false⟩ with
    | some s => some (.normal, { t := s.t, n := fr.n, marks := fr.marks }, { next := s.h.next, low := min h.low s.h.low, objs := s.h.objs })
    | none => match drawnY P { next := h.next, low := h.next, objs := h.objs } (fsOp P (callOf P orc rec) (fsYield rec)) ops fr.n ⟨fr.t, { next := h.next, low := h.next, objs := h.objs }, [], [], 0, false⟩ (fsReads P { next := h.next, low := h.next, objs := h.objs } (fsOp P (callOf P orc rec) (fsYield rec)) ops fr.n ops.toList 0 ⟨fr.t, { next := h.next, low := h.next, objs := h.objs }, [], [], 0, false⟩ []) with
      | some s => some (.normal, { t := s.t, n := fr.n, marks := fr.marks }, { next := s.h.next, low := min h.low s.h.low, objs := s.h.objs })
      | none => fsStep P orc rec rnd c fr h
  | c => fsStep P orc rec rnd c fr h
def fsCodeX (P : Program) (orc : FuncId → List Value → Heap → Option (Value × Heap)) : Nat → Rec
  | 0 => fun _ _ _ _ => none
  | n + 1 => fsStepX P orc (fsCodeX P orc n)
theorem HR.low {ρ : Ren} {S : Nat → Prop} {h : Heap} {w : World} (hr : HR P ρ S B w0 h w) (l : Nat) : HR P ρ S B w0 { next := h.next, low := l, objs := h.objs } w :=
  { objs := hr.objs, inj := hr.inj, base := hr.base, ro := hr.ro, ids := hr.ids, pos := hr.pos, below := hr.below, drawn := hr.drawn, size := hr.size }
theorem Moved.lowered {ρ ρ' : Ren} {S : Nat → Prop} {h h' : Heap} {w w' : World} {l : Nat} (m : Moved P B w0 ρ ρ' S { next := h.next, low := l, objs := h.objs } h' w w') :
    Moved P B w0 ρ ρ' S h { next := h'.next, low := min h.low h'.low, objs := h'.objs } w w' where
  agree := m.agree
  next := m.next
  hr := m.hr.low _
  frame := ⟨m.frame.os, m.frame.tape, m.frame.output, m.frame.size, m.frame.block⟩
  low := Nat.min_le_left _ _
  keep := fun i hi hl => m.keep i hi (Nat.lt_of_lt_of_le hl (Nat.min_le_right _ _))
  old := m.old
  fresh := fun i o ho hi => by
    obtain ⟨h1, h2⟩ := m.fresh i o ho hi; refine ⟨h1, ?_⟩; rcases h2 with h2 | ⟨j, oj, h3, h4, h5, h6, h7⟩
    · exact .inl h2
    exact .inr ⟨j, oj, h3, h4, h5, Nat.le_trans (Nat.min_le_right _ _) h6, h7⟩
theorem stepX_sound (hP : ProgOk P) {orc : FuncId → List Value → Heap → Option (Value × Heap)} (horc : CallSound P B w0 orc) {m : Nat} {rec : Rec} (hrec : SoundR P B w0 m rec) : SoundR P B w0 (m + 1) (fsStepX P orc rec) := by
  have hcs : CallSnd P B w0 (callOf P orc rec) := call_sound hP horc hrec; have hys : YieldSound P B w0 (fsYield rec) := yield_sound hrec; have hold := step_sound hP horc hrec; intro rnd c fr h e fr' h' hok hf
  cases c with
  | region id ops draw =>
    cases draw with
    | false => exact hold rnd _ fr h e fr' h' hok hf
    | true =>
      intro ρ S w a nn Q hr ht hm hs k; simp only [fsStepX] at hf; split at hf
      · rename_i s hrun; simp only [Option.some.injEq, Prod.mk.injEq] at hf; obtain ⟨rfl, rfl, rfl⟩ := hf; refine wpIn_region_draw fun t => ?_; rw [hP.mixed]; exact drawn_wpX (h0 := { next := h.next, low := h.next, objs := h.objs }) (call := callOf P orc rec) (yield := fsYield rec) hcs hys hok hrun ((hr.drew _).low _) ht (fun ρ1 w1 a1 m1 ht1 hd1 => k _ _ _ ⟨(Moved.ofDrew m1).lowered, ht1, by rw [hd1]; exact hm.mono fun b hb => ⟨.inl hb, m1.agree b hb⟩⟩) t
      split at hf
      · rename_i s hrun; simp only [Option.some.injEq, Prod.mk.injEq] at hf; obtain ⟨rfl, rfl, rfl⟩ := hf; refine wpIn_region_draw fun t => ?_; rw [hP.mixed]; exact drawn_wpY (h0 := { next := h.next, low := h.next, objs := h.objs }) (call := callOf P orc rec) (yield := fsYield rec) hcs hys hok hrun ((hr.drew _).low _) ht (fun ρ1 w1 a1 m1 ht1 hd1 => k _ _ _ ⟨(Moved.ofDrew m1).lowered, ht1, by rw [hd1]; exact hm.mono fun b hb => ⟨.inl hb, m1.agree b hb⟩⟩) t
      exact hold rnd _ fr h e fr' h' hok hf ρ S w a nn Q hr ht hm hs k
  | _ => exact hold rnd _ fr h e fr' h' hok hf
theorem codeX_sound (hP : ProgOk P) {orc : FuncId → List Value → Heap → Option (Value × Heap)} (horc : CallSound P B w0 orc) : ∀ m, SoundR P B w0 m (fsCodeX P orc m)
  | 0 => fun rnd c fr h e fr' h' _ hf => by cases hf
  | m + 1 => stepX_sound hP horc (codeX_sound hP horc m)
end Go.Fs
namespace Go.Fs
variable {P : Program} {orc : FuncId → List Value → Heap → Option (Value × Heap)}
def runPre (P : Program) (orc : FuncId → List Value → Heap → Option (Value × Heap)) : Nat → Nat → Code → Fr → Heap → Option (Nat × Code × Fr × Heap)
  | 0, n, c, fr, h => some (n, c, fr, h)
  | k + 1, n, c, fr, h => match n, c with
    | n + 1, .seq a b => match fsCodeX P orc n none a fr h with
      | some (.normal, fr1, h1) => runPre P orc k n b fr1 h1
      | _ => none
    | _, _ => none
def endV (P : Program) (fn : Func) (h : Heap) (x : Ex × Fr × Heap) : Option Value :=
  bif x.1.goes then
    match dropMarks x.2.1.marks x.2.2 with
    | some h2 => (fsResults P x.2.1.t h2 fn.results.toList).map tupled
    | none => none
  else none
theorem enter_map {rec : Rec} {f : FuncId} {args : List Value} {h : Heap} {fn : Func} {c : Code} (hf : P.funcs[f]? = some fn) (hc : fn.body = some c) (hn : (Nat.blt 4000 fn.ntmps || Nat.blt fn.ntmps args.length) = false) :
    (fsEnter P rec f args h).map (·.1) = (rec none c ⟨fillTr .leaf 0 args, fn.ntmps, []⟩ { next := h.next, low := h.next, objs := h.objs }).bind (endV P fn h) := by
  unfold fsEnter fsEnterK endV; simp only [hf, hc, hn, cond_false]
  cases rec none c ⟨fillTr .leaf 0 args, fn.ntmps, []⟩ { next := h.next, low := h.next, objs := h.objs } with
  | none => rfl
  | some x =>
    obtain ⟨e, fr, h1⟩ := x; simp only [Option.bind_some]
    cases e.goes with
    | false => rfl
    | true =>
      simp only [cond_true]
      cases dropMarks fr.marks h1 with
      | none => rfl
      | some h2 =>
        simp only
        cases fsResults P fr.t h2 fn.results.toList with
        | none => rfl
        | some vs =>
          simp only [Option.map_some]; generalize (!false && (af (tupled vs) && Nat.ble h.next h2.low)) = q; cases q <;> rfl
def sufx : Nat → Code → Code
  | 0, c => c
  | k + 1, .seq _ b => sufx k b
  | _ + 1, c => c
end Go.Fs
namespace Go.Fs
open Go.RowKit (Below)
variable {P : Program}
def gv : Value → Bool
  | .func (.func _) ⟨[]⟩ ⟨[]⟩ => true
  | v => af0 v
theorem VR.of_gv {ρ : Ren} {S : Nat → Prop} {v : Value} (h : gv v = true) : VR ρ S v v := by
  unfold gv at h; split at h
  · exact .func _ _ _ _ _ rfl (fun i h => absurd h (by simp)) rfl (fun i h => absurd h (by simp))
  exact .lit h
def gHeap (n : Nat) (L : List (Nat × TypeId × List Value)) : Heap := ⟨n, n, L.map fun x => (x.1 + 1, .row x.2.1 x.2.2 false true)⟩
def globR (P : Program) : Ren := fun b => Loc.clean (b - 1) 0 0 (P.cellsOf (((P.globals[b - 1]?).map (·.type)).getD 0))
structure GlobW (P : Program) (B : Nat) (w : World) (x : Nat × TypeId × List Value) : Prop where
  type : (P.globals[x.1]?).map (·.type) = some x.2.1
  only : ∀ (g : Nat) gl, P.globals[g]? = some gl → gl.type = x.2.1 → g = x.1
  block : x.1 < B
  cells : ∀ i, i < x.2.2.length → w.cell? ⟨x.1, i, none⟩ = some (x.2.2.getD i undef)
  vals : x.2.2.all gv = true
theorem GlobW.below {B : Nat} {w w' : World} {x : Nat × TypeId × List Value} (h : GlobW P B w x) (hb : Below B w w') : GlobW P B w' x :=
  ⟨h.type, h.only, h.block, fun i hi => (World.cell?_of_block (a := ⟨x.1, i, none⟩) (hb.block _ h.block)).trans (h.cells i hi), h.vals⟩
theorem gHeap_get {n : Nat} : ∀ {L : List (Nat × TypeId × List Value)} {i : Nat} {o : AObj}, (gHeap n L).get i = some o → ∃ x ∈ L, i = x.1 + 1 ∧ o = .row x.2.1 x.2.2 false true
  | [], i, o, h => by cases h
  | x :: L, i, o, h => by
    simp only [gHeap, Heap.get, List.map_cons, look] at h
    cases hb : Nat.beq (x.1 + 1) i with
    | true =>
      rw [hb] at h
      exact ⟨x, List.mem_cons_self, (nbeq hb).symm, (Option.some.inj h).symm⟩
    | false =>
      rw [hb] at h; obtain ⟨y, hy, h1, h2⟩ := gHeap_get (n := n) (L := L) (i := i) (o := o) h; exact ⟨y, List.mem_cons_of_mem _ hy, h1, h2⟩
theorem gHeap_hr {w : World} {n : Nat} {L : List (Nat × TypeId × List Value)} (hn : ∀ x ∈ L, x.1 + 1 < n) (hp : 0 < n) (hL : ∀ x ∈ L, GlobW P w.heap.size w x) :
    HR P (globR P) (fun b => ∃ x ∈ L, b = x.1 + 1) w.heap.size (wz w) (gHeap n L) w where
  objs := fun i o hi => by
    obtain ⟨x, hx, rfl, rfl⟩ := gHeap_get hi; have h := hL x hx; refine ⟨⟨x, hx, rfl⟩, ?_, fun j hj => ?_, fun _ g gl h1 h2 => ?_⟩
    · show P.cellsOf (((P.globals[x.1 + 1 - 1]?).map (·.type)).getD 0) = _; rw [Nat.add_sub_cancel, h.type]; rfl
    · refine ⟨x.2.2.getD j undef, ?_, .of_gv (List.all_eq_true.1 h.vals _ (mem_getD hj))⟩; show w.cell? ⟨x.1 + 1 - 1, 0 + j, none⟩ = _; rw [Nat.add_sub_cancel, Nat.zero_add]; exact h.cells j hj
    exact ⟨(h.only g gl h1 h2).symm, rfl⟩
  inj := fun i j oi oj hi _ ho => by
    obtain ⟨x, hx, rfl, rfl⟩ := gHeap_get hi; cases ho
  base := fun i o hi ho => by
    obtain ⟨x, hx, rfl, rfl⟩ := gHeap_get hi; cases ho
  ro := fun i o hi _ => by
    obtain ⟨x, hx, rfl, rfl⟩ := gHeap_get hi; exact (hL x hx).block
  ids := fun b ⟨x, hx, hb⟩ => by
    subst hb; exact ⟨hn x hx, Nat.succ_ne_zero _⟩
  pos := hp
  below := z_below (Below.refl _ _)
  drawn := Nat.zero_le _
  size := Nat.le_refl _
end Go.Fs
namespace Go.Fs
open Go.RowKit (Below)
variable {P : Program} {ρ ρ' : Ren} {S S' : Nat → Prop} {B : Nat} {w0 w w' w1 w2 : World} {h h' h1 h2 : Heap}
def gcL (n0 : Nat) (keep : List Nat) : List (Nat × AObj) → List (Nat × AObj)
  | [] => []
  | x :: r => bif Nat.blt x.1 n0 || keep.any (Nat.beq x.1) then x :: gcL n0 keep r else gcL n0 keep r
def gcH (n0 : Nat) (keep : List Nat) (h : Heap) : Heap := ⟨h.next, h.low, gcL n0 keep h.objs⟩
theorem gc_some {n0 : Nat} {keep : List Nat} {i : Nat} {o : AObj} : ∀ {L : List (Nat × AObj)}, look (gcL n0 keep L) i = some o → look L i = some o
  | [], h => h
  | x :: L, h => by
    unfold gcL at h
    cases hk : (Nat.blt x.1 n0 || keep.any (Nat.beq x.1)) with
    | true =>
      rw [hk] at h; simp only [cond_true, look] at h ⊢
      cases hb : Nat.beq x.1 i with
      | true => rw [hb] at h; exact h
      | false => rw [hb] at h; exact gc_some h
    | false =>
      rw [hk] at h; simp only [cond_false] at h; simp only [look]
      cases hb : Nat.beq x.1 i with
      | false => exact gc_some h
      | true =>
        exfalso; have e := nbeq hb
        have hno : ∀ {L : List (Nat × AObj)}, look (gcL n0 keep L) i = none := by
          intro L
          induction L with
          | nil => rfl
          | cons y L ih =>
            unfold gcL
            cases hk2 : (Nat.blt y.1 n0 || keep.any (Nat.beq y.1)) with
            | false => exact ih
            | true =>
              simp only [cond_true, look]
              cases hb2 : Nat.beq y.1 i with
              | false => exact ih
              | true => rw [nbeq hb2, ← e, hk] at hk2; cases hk2
        rw [hno] at h; cases h
theorem gc_low {n0 : Nat} {keep : List Nat} {i : Nat} (hi : i < n0) : ∀ {L : List (Nat × AObj)}, look (gcL n0 keep L) i = look L i
  | [] => rfl
  | x :: L => by
    unfold gcL
    cases hb : Nat.beq x.1 i with
    | true =>
      have hx : Nat.blt x.1 n0 = true := by rw [nbeq hb]; show Nat.ble (i + 1) n0 = true; rw [Nat.ble_eq]; omega
      simp only [hx, Bool.true_or, cond_true, look, hb]
    | false =>
      cases hk : (Nat.blt x.1 n0 || keep.any (Nat.beq x.1)) with
      | true => simp only [cond_true, look, hb, cond_false]; exact gc_low hi
      | false => simp only [cond_false, look, hb]; exact gc_low hi
theorem HR.gc {n0 : Nat} {keep : List Nat} (hr : HR P ρ S B w0 h w) : HR P ρ S B w0 (gcH n0 keep h) w :=
  { objs := fun i o hi => hr.objs i o (gc_some hi), inj := fun i j oi oj hi hj => hr.inj i j oi oj (gc_some hi) (gc_some hj), base := fun i o hi => hr.base i o (gc_some hi), ro := fun i o hi => hr.ro i o (gc_some hi), ids := hr.ids, pos := hr.pos,
    below := hr.below, drawn := hr.drawn, size := hr.size }
theorem Moved.gc {n0 : Nat} {keep : List Nat} (hn : h.next ≤ n0) (m : Moved P B w0 ρ ρ' S h h1 w w1) : Moved P B w0 ρ ρ' S h (gcH n0 keep h1) w w1 where
  agree := m.agree
  next := m.next
  hr := m.hr.gc
  frame := m.frame
  low := m.low
  keep := fun i hi hl => (gc_low (by omega)).trans (m.keep i hi hl)
  old := fun i o hi hl => m.old i o (gc_some hi) hl
  fresh := fun i o hi hl => m.fresh i o (gc_some hi) hl
def runG (P : Program) (orc : FuncId → List Value → Heap → Option (Value × Heap)) (n0 : Nat) : List (Nat × List Nat) → Nat → Code → Fr → Heap → Option (Ex × Fr × Heap)
  | [], n, c, fr, h => fsCodeX P orc n none c fr h
  | (k, keep) :: ks, n, c, fr, h => match runPre P orc k n c fr h with
    | some (n1, c1, fr1, h1) => runG P orc n0 ks n1 c1 fr1 (gcH n0 keep h1)
    | none => none
theorem pre_sound (hP : ProgOk P) {orc : FuncId → List Value → Heap → Option (Value × Heap)} (horc : CallSound P B w0 orc) : ∀ {k n : Nat} {c : Code} {fr : Fr} {h : Heap} {n1 : Nat} {c1 : Code} {fr1 : Fr} {h1 : Heap}, codeOk c = true → runPre P orc k n c fr h = some (n1, c1, fr1, h1) →
    codeOk c1 = true ∧ ∀ {ρ : Ren} {S : Nat → Prop} {w : World} {a : Act} {nn : Nat} {Q : Exit → Act → World → Prop}, HR P ρ S B w0 h w → TrR ρ S fr.t fr.n a.tmps → MarksR ρ S fr.marks a.defers →
      (∀ ρ' w' a', Post P B w0 ρ ρ' S h w fr1 h1 w' a' → c1.wpIn (Wide none) nn P Q a' w') → c.wpIn (Wide none) nn P Q a w
  | 0, n, c, fr, h, n1, c1, fr1, h1, hok, hr => by
    simp only [runPre, Option.some.injEq, Prod.mk.injEq] at hr; obtain ⟨rfl, rfl, rfl, rfl⟩ := hr
    exact ⟨hok, fun hR ht hm k => k _ _ _ ⟨Moved.same hR, ht.mono fun b hb => ⟨.inl hb, rfl⟩, hm.mono fun b hb => ⟨.inl hb, rfl⟩⟩⟩
  | k + 1, n, c, fr, h, n1, c1, fr1, h1, hok, hr => by
    simp only [runPre] at hr; split at hr
    · rename_i n x y; split at hr
      · rename_i fr2 h2 hx; obtain ⟨ok1, ok2⟩ := band (show (codeOk x && codeOk y) = true from hok); obtain ⟨g1, g2⟩ := pre_sound hP horc ok2 hr; refine ⟨g1, fun {ρ S w a nn Q} hR ht hm kk => wpIn_seq ?_⟩; refine (codeX_sound hP horc n none x fr h _ fr2 h2 ok1 hx ρ S w a nn _ hR ht hm (fun l hl => by cases hl) fun ρ1 w1 a1 p1 => ?_).wpIn; show y.wpIn (Wide none) nn P Q a1 w1; exact g2 p1.moved.hr p1.tmps p1.marks fun ρ2 w2 a2 p2 => kk _ _ _ (Post.trans (fr1 := fr2) (a1 := a1) p1.moved p2)
      cases hr
    cases hr
theorem runG_sound (hP : ProgOk P) {orc : FuncId → List Value → Heap → Option (Value × Heap)} (horc : CallSound P B w0 orc) {n0 : Nat} : ∀ {ks : List (Nat × List Nat)} {n : Nat} {c : Code} {fr : Fr} {h : Heap} {e : Ex} {fr' : Fr} {h' : Heap}, codeOk c = true → runG P orc n0 ks n c fr h = some (e, fr', h') →
    ∀ {g : Heap} {ρ0 ρ : Ren} {S : Nat → Prop} {w w' : World} {a : Act} {nn : Nat} {Q : Exit → Act → World → Prop}, g.next ≤ n0 → Moved P B w0 ρ0 ρ S g h w w' → TrR ρ (Ext S g h) fr.t fr.n a.tmps → MarksR ρ (Ext S g h) fr.marks a.defers →
      (∀ ρ' w2 a', Post P B w0 ρ0 ρ' S g w fr' h' w2 a' → Q (exOf e) a' w2) → c.wpIn (Wide none) nn P Q a w'
  | [], n, c, fr, h, e, fr', h', hok, hr, g, ρ0, ρ, S, w, w', a, nn, Q, hg, m, ht, hm, k =>
    (codeX_sound hP horc n none c fr h e fr' h' hok hr ρ _ w' a nn Q m.hr ht hm (fun l hl => by cases hl) fun ρ1 w1 a1 p1 => k _ _ _ (Post.trans (fr1 := fr) (a1 := a) m p1)).wpIn
  | (j, keep) :: ks, n, c, fr, h, e, fr', h', hok, hr, g, ρ0, ρ, S, w, w', a, nn, Q, hg, m, ht, hm, k => by
    simp only [runG] at hr; split at hr
    · rename_i n1 c1 fr1 h1 hx; obtain ⟨g1, g2⟩ := pre_sound hP horc hok hx; refine g2 m.hr ht hm fun ρ1 w1 a1 p1 => ?_; have q := Post.trans (fr1 := fr) (a1 := a) m p1; exact runG_sound hP horc g1 hr hg (q.moved.gc hg) q.tmps q.marks k
    cases hr
def fsG (P : Program) (orc : FuncId → List Value → Heap → Option (Value × Heap)) (n0 n : Nat) (ks : List (Nat × List Nat)) : Rec := fun rnd c fr h =>
  match rnd, c with
  | none, .seq x y => bif Nat.ble h.next n0 then runG P orc n0 ks n (.seq x y) fr h else none
  | _, _ => none
def isSeq : Code → Bool
  | .seq _ _ => true
  | _ => false
theorem fsG_eq {orc : FuncId → List Value → Heap → Option (Value × Heap)} {n0 n : Nat} {ks : List (Nat × List Nat)} {c : Code} {fr : Fr} {h : Heap} (hc : isSeq c = true) (hn : Nat.ble h.next n0 = true) : fsG P orc n0 n ks none c fr h = runG P orc n0 ks n c fr h := by
  cases c with
  | seq x y =>
    show (bif Nat.ble h.next n0 then _ else _) = _
    rw [hn]; rfl
  | _ => cases hc
theorem fsG_sound (hP : ProgOk P) {orc : FuncId → List Value → Heap → Option (Value × Heap)} (horc : CallSound P B w0 orc) {n0 n : Nat} {ks : List (Nat × List Nat)} : SoundR P B w0 0 (fsG P orc n0 n ks) := by
  intro rnd c fr h e fr' h' hok hf ρ S w a nn Q hr ht hm hs k; unfold fsG at hf; split at hf
  · rename_i x y; obtain ⟨hn, hq⟩ := bif_some hf; show Code.wpIn (Wide none) nn P (.seq x y) Q a w; exact runG_sound hP horc hok hq (nble hn) (Moved.same hr) (ht.mono fun b hb => ⟨.inl hb, rfl⟩) (hm.mono fun b hb => ⟨.inl hb, rfl⟩) k
  cases hf
theorem run_viaG {orc : FuncId → List Value → Heap → Option (Value × Heap)} {n0 k n : Nat} {keep : List Nat} {ks : List (Nat × List Nat)} {c : Code} {fr : Fr} {h : Heap} {n' : Nat} {c' : Code} {fr' : Fr} {h' : Heap} (hr : (runPre P orc k n c fr h).map (fun x => (x.1, x.2.1, x.2.2.1, gcH n0 keep x.2.2.2)) = some (n', c', fr', h')) : runG P orc n0 ((k, keep) :: ks) n c fr h = runG P orc n0 ks n' c' fr' h' := by
  simp only [runG]
  cases hx : runPre P orc k n c fr h with
  | none => rw [hx] at hr; cases hr
  | some x =>
    obtain ⟨n1, c1, fr1, h1⟩ := x; rw [hx] at hr; simp only [Option.map_some, Option.some.injEq, Prod.mk.injEq] at hr; obtain ⟨rfl, rfl, rfl, rfl⟩ := hr; rfl
theorem gcG_closed (hP : ProgOk P) {w : World} {orc : FuncId → List Value → Heap → Option (Value × Heap)} (horc : CallSound P w.heap.size (wz w) orc) {ρ : Ren} {S : Nat → Prop} {g : Heap} (hr : HR P ρ S w.heap.size (wz w) g w) {n0 n : Nat} {ks : List (Nat × List Nat)} {f : FuncId} {args : List Value} {v : Value} (ha : args.all af = true)
    (hf : (fsEnter P (fsG P orc n0 n ks) f args g).map (·.1) = some v) (hv : af v = true) :
    Calls P f args.toArray w fun | .returned v', w' => v' = v ∧ Below w.heap.size w w' | _, _ => False := by
  obtain ⟨⟨v0, h1⟩, h2, h3⟩ := Option.map_eq_some_iff.1 hf; simp only at h3; subst h3; have hc := ((enter_sound hP (fsG_sound hP horc)) f args _ _ _ h2).2 _ _ w args hr ⟨rfl, fun i hi => .of_af (List.all_eq_true.1 ha _ (mem_getD hi))⟩ 0; refine Calls.mono (callsIn_wide.1 hc) fun e w' he => ?_
  cases e with
  | returned v' =>
    obtain ⟨ρ', m1, hv1⟩ := he
    exact ⟨hv1.eq_of_af hv, below_z m1.hr.below⟩
  | panicked c => exact he.elim
  | outgrown => exact he.elim
theorem awakeGc_calls (hP : ProgOk P) {B : Nat} {w0 : World} {O : FuncId → List Value → Heap → Option (Value × Heap)} {fa : FuncId} {n : Nat} {L : List (Nat × TypeId × List Value)} (hn : ∀ x ∈ L, x.1 + 1 < n) (hp : 0 < n) (hL : ∀ x ∈ L, GlobW P B w0 x) (hB : ∀ w, Below B w0 w → B ≤ w.heap.size) (hS : ∀ w, Below B w0 w → CallSound P w.heap.size (wz w) O) {n0 m : Nat} {ks : List (Nat × List Nat)}
    (hrun : (fsEnter P (fsG P O n0 m ks) fa [] (gHeap n L)).map (·.1) = some (.bool true)) (w : World) (hw : Below B w0 w) :
    Calls P fa #[] w fun | .returned v', w' => v' = .bool true ∧ Below w.heap.size w w' | _, _ => False :=
  gcG_closed hP (hS w hw) (gHeap_hr hn hp fun x hx => let h := (hL x hx).below hw; ⟨h.type, h.only, Nat.lt_of_lt_of_le h.block (hB w hw), h.cells, h.vals⟩) (args := []) rfl hrun rfl
end Go.Fs
namespace Go.Fs
open Go.RowKit (Below)
variable {P : Program} {B : Nat} {w0 : World}
theorem orcI_sound {fi : FuncId} (hz : w0.drawn = 0) (hi : Enters P fi)
    (hI : ∀ (n : Int) (w : World), Below B w0 w → -9223372036854775808 ≤ n → n ≤ 9223372036854775807 → Calls P fi #[.int .i64 n] w fun e w' => e = .returned (.string ⟨(Lib.itoa n).toArray⟩) ∧ Below w.heap.size w w') : CallSound P B w0 (orcS fi fi) := by
  intro f xs h v h' hf; unfold orcS at hf
  cases hfi : Nat.beq f fi with
  | true =>
    have := nbeq hfi; subst this; rw [hfi] at hf; simp only [cond_true] at hf; split at hf
    · rename_i n; obtain ⟨hc, hf2⟩ := bif_some hf; obtain ⟨h0, h1⟩ := band hc; have h0 := of_decide_eq_true h0; have h1 := of_decide_eq_true h1; simp only [Option.some.injEq, Prod.mk.injEq] at hf2; obtain ⟨rfl, rfl⟩ := hf2; refine ⟨hi, fun ρ S w args' hr ha nn => ?_⟩; have he : args' = [.int .i64 n] := ha.eq_of_af (by rfl); subst he; have hC : CallsIn Fence.wide nn P f #[.int .i64 n] w _ := callsIn_wide.2 (hI n w hr.below (by omega) (by omega)); refine hC.mono fun e w' hret => ?_; obtain ⟨rfl, hb⟩ := hret; exact ⟨ρ, Moved.grewWorld hr hb (by rw [hz]; exact Nat.zero_le _), by rw [itoaF_eq h0 h1]; exact .lit rfl⟩
    cases hf
  | false =>
    rw [hfi] at hf; simp only [cond_false] at hf; cases hf
end Go.Fs
namespace Go.Proofs
open Go.Shelf
def Tryz.lays156_ren : Go.Shelf.Ren := ⟨fun | 156 => 145 | 165 => 162 | 166 => 144 | 169 => 146 | 240 => 161 | 241 => 183 | 276 => 182 | 277 => 199 | n => n, fun | 31 => 194 | 9 => 9 | 3 => 3 | 4 => 4 | 0 => 0 | 20 => 20 | 72 => 192 | 76 => 198 | 70 => 190 | 37 => 76 | 75 => 197 | 127 => 212 | 164 => 229 | 5 => 5 | 80 => 201 | n => n, fun | n => n⟩
theorem Tryz.lays156 : Go.Proofs.Lays.n156 Tryz.prog Tryz.lays156_ren := {
  mixed := by kernel_rfl
  f156 := Tryz.func145.trans (congrArg some (by kernel_rfl))
  f165 := Tryz.func162.trans (congrArg some (by kernel_rfl))
  f166 := Tryz.func144.trans (congrArg some (by kernel_rfl))
  f169 := Tryz.func146.trans (congrArg some (by kernel_rfl))
  f240 := Tryz.func161.trans (congrArg some (by kernel_rfl))
  f241 := Tryz.func183.trans (congrArg some (by kernel_rfl))
  f276 := Tryz.func182.trans (congrArg some (by kernel_rfl))
  f277 := Tryz.func199.trans (congrArg some (by kernel_rfl))
  t0 := Tryz.underlying0
  a0 := Tryz.isAgg0
  z0 := Tryz.sizeOf0
  v0 := Tryz.zeroValue0
  t3 := Tryz.underlying3
  a3 := Tryz.isAgg3
  z3 := Tryz.sizeOf3
  v3 := Tryz.zeroValue3
  t4 := Tryz.underlying4
  a4 := Tryz.isAgg4
  z4 := Tryz.sizeOf4
  v4 := Tryz.zeroValue4
  t9 := Tryz.underlying9
  a9 := Tryz.isAgg9
  z9 := Tryz.sizeOf9
  v9 := Tryz.zeroValue9
  t20 := Tryz.underlying20
  a20 := Tryz.isAgg20
  z20 := Tryz.sizeOf20
  v20 := Tryz.zeroValue20
  t31 := Tryz.underlying194
  a31 := Tryz.isAgg194
  z31 := Tryz.sizeOf194
  v31 := Tryz.zeroValue194
  t37 := Tryz.underlying76
  a37 := Tryz.isAgg76
  z37 := Tryz.sizeOf76
  v37 := Tryz.zeroValue76
  t70 := Tryz.underlying190
  a70 := Tryz.isAgg190
  z70 := Tryz.sizeOf190
  v70 := Tryz.zeroValue190
  t72 := Tryz.underlying192
  a72 := Tryz.isAgg192
  z72 := Tryz.sizeOf192
  v72 := Tryz.zeroValue192
  t75 := Tryz.underlying197
  a75 := Tryz.isAgg197
  z75 := Tryz.sizeOf197
  v75 := Tryz.zeroValue197
  t76 := Tryz.underlying198
  a76 := Tryz.isAgg198
  z76 := Tryz.sizeOf198
  v76 := Tryz.zeroValue198
  t127 := Tryz.underlying212
  a127 := Tryz.isAgg212
  z127 := Tryz.sizeOf212
  v127 := Tryz.zeroValue212
  t164 := Tryz.underlying229
  a164 := Tryz.isAgg229
  z164 := Tryz.sizeOf229
  v164 := Tryz.zeroValue229 }
theorem Tryz.Builder_Extra_156 : Builder.Extra Tryz.prog Tryz.lays156_ren := {
  sizeBuilder := by kernel_rfl
  liesBuilder := by kernel_rfl
  t5 := Tryz.underlying5
  a5 := Tryz.isAgg5
  z5 := Tryz.sizeOf5
  v5 := Tryz.zeroValue5
  infoByte := by kernel_rfl
  cellsByte := by kernel_rfl
  sizeByte := by kernel_rfl
  neB5 := by decide }
open Go.RowKit in
/-- strings.Join: "Join concatenates the elements of its first argument to create a single string. The separator string sep is placed between elements in the resulting string.": HOWEVER MANY ELEMENTS. Below the heap's end the world is asl it was. (LAID: no walk: one application.) -/
theorem Tryz.strings_Join (bk o c : Nat) (xs : List ByteArray) (sep : ByteArray) (w : World) (hcells : ∀ (j : Nat) x, xs[j]? = some x → w.cell? ⟨bk, o + j, none⟩ = some (.string x)) (hbk : bk < w.heap.size) (hN : xs.length ≤ 140737488355328) (hcap : xs.length ≤ c) (hlen : (Lib.join (xs.map (·.data.toList)) sep.data.toList).length ≤ 140737488355328) :
    Calls Tryz.prog 145 #[.slice (some ⟨bk, o, none⟩) xs.length c, .string sep] w fun e w' => e = .returned (.string ⟨(Lib.join (xs.map (·.data.toList)) sep.data.toList).toArray⟩) ∧ Below w.heap.size w w' := Any.strings_Join Tryz.lays156 Tryz.Builder_Extra_156 bk o c xs sep w hcells hbk hN hcap hlen
def Tryz.laysM243_ren : Go.Shelf.Ren := ⟨fun | 243 => 160 | 246 => 181 | 283 => 195 | 284 => 196 | 285 => 197 | 286 => 198 | 129 => 180 | 317 => 202 | 318 => 203 | 319 => 204 | 320 => 205 | 337 => 214 | 338 => 215 | n => n, fun | 3 => 3 | 9 => 9 | 2 => 2 | 4 => 4 | 171 => 242 | 0 => 0 | 53 => 227 | 37 => 76 | 5 => 5 | 173 => 244 | 212 => 252 | 51 => 225 | 20 => 20 | 213 => 253 | 46 => 210 | 232 => 261 | 233 => 262 | n => n, fun | 17 => 2 | 18 => 4 | 19 => 5 | n => n⟩
theorem Tryz.laysM243 : Go.Proofs.LaysM.n243 Tryz.prog Tryz.laysM243_ren := {
  mixed := by kernel_rfl
  f129 := Tryz.func180.trans (congrArg some (by kernel_rfl))
  f243 := Tryz.func160.trans (congrArg some (by kernel_rfl))
  f246 := Tryz.func181.trans (congrArg some (by kernel_rfl))
  f283 := Tryz.func195.trans (congrArg some (by kernel_rfl))
  f284 := Tryz.func196.trans (congrArg some (by kernel_rfl))
  f285 := Tryz.func197.trans (congrArg some (by kernel_rfl))
  f286 := Tryz.func198.trans (congrArg some (by kernel_rfl))
  f317 := Tryz.func202.trans (congrArg some (by kernel_rfl))
  f318 := Tryz.func203.trans (congrArg some (by kernel_rfl))
  f319 := Tryz.func204.trans (congrArg some (by kernel_rfl))
  f320 := Tryz.func205.trans (congrArg some (by kernel_rfl))
  f337 := Tryz.func214.trans (congrArg some (by kernel_rfl))
  f338 := Tryz.func215.trans (congrArg some (by kernel_rfl))
  t0 := Tryz.underlying0
  a0 := Tryz.isAgg0
  z0 := Tryz.sizeOf0
  v0 := Tryz.zeroValue0
  t2 := Tryz.underlying2
  a2 := Tryz.isAgg2
  z2 := Tryz.sizeOf2
  v2 := Tryz.zeroValue2
  t3 := Tryz.underlying3
  a3 := Tryz.isAgg3
  z3 := Tryz.sizeOf3
  v3 := Tryz.zeroValue3
  t4 := Tryz.underlying4
  a4 := Tryz.isAgg4
  z4 := Tryz.sizeOf4
  v4 := Tryz.zeroValue4
  t5 := Tryz.underlying5
  a5 := Tryz.isAgg5
  z5 := Tryz.sizeOf5
  v5 := Tryz.zeroValue5
  t9 := Tryz.underlying9
  a9 := Tryz.isAgg9
  z9 := Tryz.sizeOf9
  v9 := Tryz.zeroValue9
  t20 := Tryz.underlying20
  a20 := Tryz.isAgg20
  z20 := Tryz.sizeOf20
  v20 := Tryz.zeroValue20
  t37 := Tryz.underlying76
  a37 := Tryz.isAgg76
  z37 := Tryz.sizeOf76
  v37 := Tryz.zeroValue76
  t46 := Tryz.underlying210
  a46 := Tryz.isAgg210
  z46 := Tryz.sizeOf210
  v46 := Tryz.zeroValue210
  t51 := Tryz.underlying225
  a51 := Tryz.isAgg225
  z51 := Tryz.sizeOf225
  v51 := Tryz.zeroValue225
  t53 := Tryz.underlying227
  a53 := Tryz.isAgg227
  z53 := Tryz.sizeOf227
  v53 := Tryz.zeroValue227
  t171 := Tryz.underlying242
  a171 := Tryz.isAgg242
  z171 := Tryz.sizeOf242
  v171 := Tryz.zeroValue242
  t173 := Tryz.underlying244
  a173 := Tryz.isAgg244
  z173 := Tryz.sizeOf244
  v173 := Tryz.zeroValue244
  t212 := Tryz.underlying252
  a212 := Tryz.isAgg252
  z212 := Tryz.sizeOf252
  v212 := Tryz.zeroValue252
  t213 := Tryz.underlying253
  a213 := Tryz.isAgg253
  z213 := Tryz.sizeOf253
  t232 := Tryz.underlying261
  a232 := Tryz.isAgg261
  z232 := Tryz.sizeOf261
  v232 := Tryz.zeroValue261
  t233 := Tryz.underlying262
  a233 := Tryz.isAgg262
  z233 := Tryz.sizeOf262
  v233 := Tryz.zeroValue262
  g17 := by kernel_rfl
  g18 := by kernel_rfl
  g19 := by kernel_rfl
  i0 := by kernel_rfl
  i2 := by kernel_rfl
  i3 := by kernel_rfl
  i4 := by kernel_rfl
  i5 := by kernel_rfl
  i9 := by kernel_rfl
  i20 := by kernel_rfl
  i37 := by kernel_rfl
  i46 := by kernel_rfl
  i51 := by kernel_rfl
  i53 := by kernel_rfl
  i171 := by kernel_rfl
  i173 := by kernel_rfl
  i212 := by kernel_rfl
  i232 := by kernel_rfl
  i233 := by kernel_rfl
  m17 := by kernel_rfl
  m18 := by kernel_rfl
  m19 := by kernel_rfl }
open Go.RowKit Go.Sort Go.Lib in
/-- internal/strconv.Itoa: "Itoa is equivalent to FormatInt(int64(i), 10).": i's decimal numeral, for every int. (LAID: no walk: one application.) -/
theorem Tryz.internal_strconv_Itoa (n : Int) (h0 : -9223372036854775808 ≤ n) (h1 : n ≤ 9223372036854775807) (w : World) (htab : Lib.TabIs Tryz.prog w "internal/strconv.uint64pow10" .u64 Lib.pow10Tab) :
    Calls Tryz.prog 160 #[.int .i64 n] w fun e w' => e = .returned (.string ⟨(Lib.itoa n).toArray⟩) ∧ ∃ k os, w' = grow (w.drewN k) os := Any.internal_strconv_Itoa Tryz.laysM243 n h0 h1 w htab
end Go.Proofs
namespace Go.Proofs
open Go.Fs
open Go.Shelf
open Go.RowKit (Below)
theorem tzAll : (Tryz.prog.funcs.toList.all fun fn => match fn.body with | some c => codeOk c && !(fn.name == "runtime.NumGoroutine") | none => true) = true := by kernel_rfl
theorem tzMixed : Tryz.prog.follows .mixedOrders = true := by kernel_rfl
theorem tzOk : ProgOk Tryz.prog where
  mixed := tzMixed
  name := fun f fn hf hb => by
    have := List.all_eq_true.1 tzAll fn (by rw [Array.mem_toList_iff]; exact Array.mem_of_getElem? hf)
    cases hx : fn.body with
    | none => rw [hx] at hb; cases hb
    | some c => rw [hx] at this; simpa using (band this).2
  code := fun f fn c hf hb => by
    have := List.all_eq_true.1 tzAll fn (by rw [Array.mem_toList_iff]; exact Array.mem_of_getElem? hf); rw [hb] at this; exact (band this).1
theorem tzItoa : Fs.Enters Tryz.prog 160 := ⟨_, Tryz.func160, rfl, by kernel_rfl⟩
theorem tzCheck : Fs.Enters Tryz.prog 161 := ⟨_, Tryz.func161, rfl, by kernel_rfl⟩
theorem tzAwakeE : Fs.Enters Tryz.prog 14 := ⟨_, Tryz.func14, rfl, by kernel_rfl⟩
def tzRen : Go.Shelf.Ren := ⟨fun | 240 => 161 | 276 => 182 | n => n, fun | 0 => 0 | 4 => 4 | 9 => 9 | 20 => 20 | 70 => 190 | 72 => 192 | 164 => 229 | 37 => 76 | n => n, fun | n => n⟩
theorem tzLays : Go.Proofs.Lays.n240 Tryz.prog tzRen := {
  mixed := by kernel_rfl
  f240 := Tryz.func161.trans (congrArg some (by kernel_rfl))
  f276 := Tryz.func182.trans (congrArg some (by kernel_rfl))
  t0 := Tryz.underlying0
  a0 := Tryz.isAgg0
  z0 := Tryz.sizeOf0
  v0 := Tryz.zeroValue0
  t4 := Tryz.underlying4
  a4 := Tryz.isAgg4
  z4 := Tryz.sizeOf4
  v4 := Tryz.zeroValue4
  t9 := Tryz.underlying9
  a9 := Tryz.isAgg9
  z9 := Tryz.sizeOf9
  v9 := Tryz.zeroValue9
  t20 := Tryz.underlying20
  a20 := Tryz.isAgg20
  z20 := Tryz.sizeOf20
  v20 := Tryz.zeroValue20
  t70 := Tryz.underlying190
  a70 := Tryz.isAgg190
  z70 := Tryz.sizeOf190
  v70 := Tryz.zeroValue190
  t72 := Tryz.underlying192
  a72 := Tryz.isAgg192
  z72 := Tryz.sizeOf192
  v72 := Tryz.zeroValue192
  t164 := Tryz.underlying229
  a164 := Tryz.isAgg229
  z164 := Tryz.sizeOf229
  v164 := Tryz.zeroValue229 }
theorem tzX72 : Builder.X72 Tryz.prog tzRen := { sizeBuilder := by kernel_rfl, liesBuilder := by kernel_rfl }
theorem tzJoin : Fs.Enters Tryz.prog 145 := ⟨_, Tryz.func145, rfl, by kernel_rfl⟩
/-- The package variables that the program reads: their numbers, types, cells. -/
def tzG : List (Nat × TypeId × List Value) := [(0, 162, [.string ⟨#[107, 101, 112, 116]⟩, .func (.func 237) #[] #[], .string ⟨#[109, 105, 115, 115, 101, 100]⟩, .func (.func 238) #[] #[], .string ⟨#[111, 112, 101, 110]⟩, .func (.func 239) #[] #[]]), (1, 111, [.int .i64 (-1), .int .i64 0])]
abbrev OB := orcB 160 145 161 192
theorem tzOrc {B : Nat} {w0 : World} (hz : w0.drawn = 0) (hB : w0.heap.size ≤ B) (ht : ∀ w, Below B w0 w → Lib.TabIs Tryz.prog w "internal/strconv.uint64pow10" .u64 Lib.pow10Tab) : CallSound Tryz.prog B w0 (orcS 160 160) :=
  orcI_sound hz tzItoa (fun n w hw h0 h1 => (Tryz.internal_strconv_Itoa n h0 h1 w (ht w hw)).mono fun e w' ⟨he, k, os, hw'⟩ => ⟨he, by rw [hw']; exact Lib.below_grow _ _ (Nat.le_refl _) _ _⟩)
theorem tzOrcJ {B : Nat} {w0 : World} (hz : w0.drawn = 0) (hB : w0.heap.size ≤ B) (ht : ∀ w, Below B w0 w → Lib.TabIs Tryz.prog w "internal/strconv.uint64pow10" .u64 Lib.pow10Tab) : CallSound Tryz.prog B w0 (orcS 160 145) :=
  orcS_sound hz tzItoa tzJoin (fun n w hw h0 h1 => (Tryz.internal_strconv_Itoa n h0 h1 w (ht w hw)).mono fun e w' ⟨he, k, os, hw'⟩ => ⟨he, by rw [hw']; exact Lib.below_grow _ _ (Nat.le_refl _) _ _⟩)
    (fun bk o c xs sep w hcells hbk hN hcap hlen => Tryz.strings_Join bk o c xs sep w hcells hbk hN hcap hlen)
theorem tzOrcB {B : Nat} {w0 : World} (hz : w0.drawn = 0) (hB : w0.heap.size ≤ B) (ht : ∀ w, Below B w0 w → Lib.TabIs Tryz.prog w "internal/strconv.uint64pow10" .u64 Lib.pow10Tab) : CallSound Tryz.prog B w0 OB :=
  orcB_sound hz (tzOrcJ hz hB ht) tzCheck (fun b w h0 h1 h2 => Any.Builder_copyCheck_fresh tzLays tzX72 b w h0 h1 h2) (fun b w h0 => Any.Builder_copyCheck_used tzLays tzX72 b w h0)
end Go.Proofs
