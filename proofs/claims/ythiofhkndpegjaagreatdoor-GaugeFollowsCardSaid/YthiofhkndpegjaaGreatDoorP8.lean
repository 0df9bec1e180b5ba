/- Parts of the proof: an evaluator of the model, what it is sound for, and contracts of functions. No condition. -/
import Derived.Test.YthiofhkndpegjaaGreatDoorP7
import Derived.Test.YthiofhkndpegjaaGreatDoorP6
import Derived.Test.YthiofhkndpegjaaGreatDoorP5
set_option linter.all false
namespace Go.Proofs
open Go.Fs Ieee
set_option maxHeartbeats 400000
abbrev qL : Ty := (.pair (.int .i64) (.pair (.int .i64) (.pair (.aO .f32) (.aO .f32))))
theorem vS : fU Tryz.prog 95 qL := gM (by kernel_rfl)
theorem P6 : r6 Tryz.prog 95 qL := nX (z := .agg #[.int .i64 0, .int .i64 0, .float .f32 0, .float .f32 0]) (by kernel_rfl) rfl rfl
theorem VS : L4 Tryz.prog 95 qL [(0, 1), (1, 1), (2, 1), (3, 1)] := DR P6 rfl (by kernel_rfl)
abbrev alM : Ty := qL
theorem J5 {r : aG} : ∀ i : Nat, 0 <= (dZ r i).1 /\ ((dZ r i).1 = 0 -> dZ r i = (0, 0, 0, 0))
  | 0 => ⟨Int.le_refl _, fun _ => rfl⟩
  | i + 1 => by
    have ih := J5 (r := r) i
    cases hb : dP r i with
    | true =>
      rw [x8 hb]; have h0 := ih.1
      exact ⟨by show 0 <= (dZ r i).1 + 1; omega, fun h => by have : (dZ r i).1 + 1 = 0 := h; omega⟩
    | false => rw [x9 hb]; exact ih
theorem aaS {x y : Nat} (hx : bD x = 0) (hy : bD y = 0) : Op.floatEq .f32 x y = decide (bK x = bK y) := by
  show (single.order x y == some .eq) = _; rw [E6 hx hy]; by_cases h : bK x = bK y
  . rw [h, decide_eq_true rfl, show compare (bK y * 44601490397061246283071436545296723011960832) (bK y * 44601490397061246283071436545296723011960832) = Ordering.eq from Int.compare_eq_eq.2 rfl] <;> rfl
  rw [decide_eq_false h]
  cases hc : compare (bK x * 44601490397061246283071436545296723011960832) (bK y * 44601490397061246283071436545296723011960832) with
  | eq => exact absurd (by have := Int.compare_eq_eq.1 hc; omega) h
  | lt => rfl
  | gt => rfl
theorem aiV {P Q : xX} (h1 : P.1 = Q.1) (h2 : P.2.1 = Q.2.1) (p1 : bD P.2.2.1 = 0) (p2 : bD P.2.2.2 = 0) (q1 : bD Q.2.2.1 = 0) (q2 : bD Q.2.2.2 = 0) (h3 : bK P.2.2.1 = bK Q.2.2.1) (h4 : bK P.2.2.2 = bK Q.2.2.2) : sC qL P Q = true := by
  show ((P.1 == Q.1) && ((P.2.1 == Q.2.1) && (Op.floatEq .f32 P.2.2.1 Q.2.2.1 && Op.floatEq .f32 P.2.2.2 Q.2.2.2))) = true; rw [aaS p1 q1, aaS p2 q2, decide_eq_true h3, decide_eq_true h4, h1, h2]; simp
theorem ad5 {P Q : xX} (h1 : P.1 ≠ Q.1) : sC qL P Q = false := by
  show ((P.1 == Q.1) && _) = false; rw [show (P.1 == Q.1) = false by simpa using h1] <;> rfl
theorem ad6 {r : aG} (hv : ∀ x ∈ r.2.2.1, bD x = 0) : sC qL (G8 r) (0, 0, 1115684864, 3263168512) = decide ((dZ r r.2.2.1.length).1 = 0) := by
  obtain ⟨s1, s2, s3, s4, s5, s6⟩ := VQ hv; by_cases h : (dZ r r.2.2.1.length).1 = 0
  . have hz := (J5 r.2.2.1.length).2 h; rw [decide_eq_true h]; refine aiV (by rw [s1, h]) (by rw [s2, hz]) s3 s4 (by decide +kernel) (by decide +kernel) ?_ ?_
    . rw [(s5 h).1]; decide +kernel
    rw [(s5 h).2]; decide +kernel
  rw [decide_eq_false h]; exact ad5 (by rw [s1]; exact h)
def fG (r : aG) : xX := if cM r ≠ 0 then (0, 0, 0, 0) else if (dZ r r.2.2.1.length).1 = 0 then (0, 0, 0, 0) else G8 r
def NV (r : aG) : Int := if cM r ≠ 0 then cM r else if (dZ r r.2.2.1.length).1 = 0 then 12 else 0
theorem MF {r : ByteArray × Int × (List Nat) × (List (Int × Int))} (hl : r.2.2.1.length < 1000000) (uY : r.2.2.2.length < 1000000) : VF Tryz.prog OA 61 [.v dJ r] (.oD [.v qL (fG r), I (NV r)]) := by
  refine VF.enter Tryz.func61 rfl (fun _ _ => rfl) rfl ?_; show VC _ _ _ _ _ [(0, .v dJ r)] [] _; refine VC.seq (VC.text ?_); refine J.new (.box) ?_; refine J.cell (.alloc P6) ?_; intro fI; refine J.c (.assign rfl) ?_; refine J.go (VC.seq (VC.seq (VC.text ?_))); refine J.r (.ld fP) ?_; refine J.call rfl rfl (VF.call (vM (by first | assumption | omega | simp) (by first | assumption | omega | simp))) ?_; refine J.c (.assign rfl) ?_; refine J.go (VC.seq (VC.text ?_)); refine J.c (.move rfl) (J.c (.neq) (J.go ?_)); refine VC.aX rfl (fun c2 => ?_) (fun c2 => ?_)
  . refine VC.seq (VC.text ?_); refine J.c (.build (0, 0, 0, 0) VS) (J.c (.move rfl) ?_); refine J.lJ (cs' := [I 0, I 0, .v (.aO .f32) 0, .v (.aO .f32) 0]) vS .v ?_; refine J.c (.assign rfl) (J.go ?_); refine VC.ret ?_; exact aW.two rfl (.cell (x := (0, 0, 0, 0)) rfl m0 vS .refl) bP (fF (by exact (if_pos c2).symm)) (fB (by exact (if_pos c2).symm))
  have sB := dO (Classical.not_not.1 c2); have qC := A6 (r := r) (i := 0) rfl; refine VC.skip (VC.seq (VC.text ?_)); refine J.c (.build (0, 0, (1115684864 : Nat), (3263168512 : Nat)) VS) ?_; refine J.cell (.alloc P6) ?_; intro nD; refine J.lJ (cs' := [I 0, I 0, .v (.aO .f32) (1115684864 : Nat), .v (.aO .f32) (3263168512 : Nat)]) vS .v ?_; refine J.go (VC.seq (VC.seq (VC.text ?_))); refine J.r (.ld fP) ?_; refine J.call rfl rfl (VF.call (G5 )) ?_; refine J.go (VC.block ?_); refine VC.aV [(2, .raw fI), (5, .raw nD), (16, .lA 148 [] [.p dJ r])] ⟨rfl, rfl, rfl, trivial⟩ ?_; refine VC.rangeFunc rfl (BW (show r.2.2.1.length <= 4096 from sB.2.1) uY sB.2.2.2.2) (fun _ => rfl) rfl rfl (fun rest ss => ∃ (P : xX), ss = [(nD, .var [I P.1, I P.2.1, .v (.aO .f32) P.2.2.1, .v (.aO .f32) P.2.2.2]), (fI, .var [I (0 : Int), I (0 : Int), .v (.aO .f32) (0 : Nat), .v (.aO .f32) (0 : Nat)])] /\ (rest.foldl VP P = G8 r) /\ (∀ y ∈ rest, bD y.2 = 0 /\ 0 <= y.1 /\ y.1 < (r.2.2.1.length : Nat)) /\ (0 <= P.1 /\ P.1 + rest.length <= 4096) /\ (-(1024 * P.1) <= P.2.1 /\ P.2.1 <= 1024 * P.1) /\ (bD P.2.2.1 = 0 /\ bD P.2.2.2 = 0)) (fun ee ss => False) ⟨ZF, rfl, (by rfl), (by exact VB sB.2.2.2.1), (by exact ⟨Int.le_refl _, (by show (0 : Int) + _ <= _; have := sB.2.1; omega)⟩), (by exact ⟨Int.le_refl _, Int.le_refl _⟩), (by exact ⟨(by decide +kernel), (by decide +kernel)⟩)⟩ ?_ ?_ ?_
  . rintro jj x rest _ ⟨P, rfl, hf, hm, hn, hs, hp⟩; show VC _ _ _ _ _ [(18, .v (.aO .f32) x.2), (17, I x.1), (2, .raw fI), (5, .raw nD), (16, .lA 148 [] [.p dJ r])] [(nD, .var [I P.1, I P.2.1, .v (.aO .f32) P.2.2.1, .v (.aO .f32) P.2.2.2]), (fI, .var [I (0 : Int), I (0 : Int), .v (.aO .f32) (0 : Nat), .v (.aO .f32) (0 : Nat)])] _; refine VC.text ?_; have hx := (hm x List.mem_cons_self).1; have hpz := ME hx; obtain ⟨v1, v2, v3⟩ := gW hx; have s7 := hn; rw [List.length_cons] at s7; refine J.c (.assign rfl) ?_; refine J.nil ?_; refine ⟨rfl, ?_⟩; refine VC.block (VC.drawn ?_); refine VD.co (.s9 (k := 0) m0) ?_; refine VD.r [(nD, .var [I P.1, I P.2.1, .v (.aO .f32) P.2.2.1, .v (.aO .f32) P.2.2.2]), (fI, .var [I (0 : Int), I (0 : Int), .v (.aO .f32) (0 : Nat), .v (.aO .f32) (0 : Nat)])] (.wN (k := 0) m0 cQ) (.inr ⟨rfl, rfl⟩) ?_; refine VD.c (.add rfl rfl (by omega)) ?_; refine VD.co (.s9 (k := 1) m0) ?_; refine VD.r [(nD, .var [I P.1, I P.2.1, .v (.aO .f32) P.2.2.1, .v (.aO .f32) P.2.2.2]), (fI, .var [I (0 : Int), I (0 : Int), .v (.aO .f32) (0 : Nat), .v (.aO .f32) (0 : Nat)])] (.wN (k := 1) m0 cQ) (.inr ⟨rfl, rfl⟩) ?_; refine VD.c (.move rfl) (VD.nw [] ?_); refine VD.call rfl rfl (VF.call (acR (by first | assumption | omega | simp))) ?_; refine VD.c (.add rfl rfl (by omega)) ?_; refine VD.co (.s9 (k := 2) m0) ?_; refine VD.r [(nD, .var [I P.1, I P.2.1, .v (.aO .f32) P.2.2.1, .v (.aO .f32) P.2.2.2]), (fI, .var [I (0 : Int), I (0 : Int), .v (.aO .f32) (0 : Nat), .v (.aO .f32) (0 : Nat)])] (.wN (k := 2) m0 eN) (.inr ⟨rfl, rfl⟩) ?_; refine VD.c (.move rfl) (VD.c (.IM (QX (sJ hx).1)) ?_); refine VD.r [] (.anY (E6 hp.1 hpz.1)) (.inl rfl) ?_; refine VD.nw [] ?_; refine VD.co (.s9 (k := 3) m0) ?_; refine VD.r [(nD, .var [I P.1, I P.2.1, .v (.aO .f32) P.2.2.1, .v (.aO .f32) P.2.2.2]), (fI, .var [I (0 : Int), I (0 : Int), .v (.aO .f32) (0 : Nat), .v (.aO .f32) (0 : Nat)])] (.wN (k := 3) m0 eN) (.inr ⟨rfl, rfl⟩) ?_; refine VD.c (.move rfl) (VD.c (.IM (QX (sJ hx).1)) ?_); refine VD.r [] (.anZ (E6 hp.2 hpz.1)) (.inl rfl) ?_; refine VD.c (.build ((P.1 + (1 : Int)), (P.2.1 + bK x.2), x6 P.2.2.1 (eH x.2), x7 P.2.2.2 (eH x.2)) VS) ?_; refine VD.DM (cT.tD (k := 0) vS .v (Nat.le_of_ble_eq_true rfl) (.inr ⟨rfl, rfl⟩) rfl rfl) ?_; rintro _ _ tl3 ⟨rfl, rfl⟩; refine VD.nil ?_; exact .inl ⟨rfl, VP P x, rfl, (by exact hf), (by exact fun y hy => hm y (List.mem_cons_of_mem _ hy)), (by exact ⟨(by show 0 <= P.1 + 1; omega), (by show P.1 + 1 + _ <= _; omega)⟩), (by exact ⟨(by show -(1024 * (P.1 + 1)) <= P.2.1 + bK x.2; omega), (by show P.2.1 + bK x.2 <= 1024 * (P.1 + 1); omega)⟩), (by exact ⟨(VM hp.1 hpz.1).1, (VN hp.2 hpz.1).1⟩)⟩
  . rintro _ ⟨P, rfl, hf, hm, hn, hs, hp⟩; refine VC.seq (VC.seq (VC.text ?_)); have hP : P = G8 r := hf
    have bT : sC alM P (0, 0, 1115684864, 3263168512) = decide ((dZ r r.2.2.1.length).1 = 0) := by rw [hP]; exact ad6 sB.2.2.2.1
    refine J.r (.IH (dx := (P.1, P.2.1, P.2.2.1, P.2.2.2)) m0 vS) ?_; refine J.c (.build (0, 0, (1115684864 : Nat), (3263168512 : Nat)) VS) (J.c (.anX (by kernel_rfl)) (J.go ?_)); refine VC.eR rfl (fun c8 => ?_) (fun c8 => ?_)
    . refine VC.seq (VC.text ?_); refine J.c (.build (0, 0, 0, 0) VS) ?_; refine J.perm iL ?_; refine J.lJ (cs' := [I 0, I 0, .v (.aO .f32) 0, .v (.aO .f32) 0]) vS .v ?_; refine J.c (.assign rfl) (J.go ?_); refine VC.ret ?_; exact aW.two rfl (.cell (x := (0, 0, 0, 0)) rfl m0 vS .refl) bP (fF (by rw [fG, if_neg c2, if_pos (of_decide_eq_true (bT.symm.trans c8))])) (fB (by rw [NV, if_neg c2, if_pos (of_decide_eq_true (bT.symm.trans c8))]))
    refine VC.skip (VC.seq (VC.text ?_)); refine J.r (.IH (dx := (P.1, P.2.1, P.2.2.1, P.2.2.2)) m0 vS) ?_; refine J.perm iL ?_; refine J.lJ (cs' := [I P.1, I P.2.1, .v (.aO .f32) P.2.2.1, .v (.aO .f32) P.2.2.2]) vS .v ?_; refine J.c (.assign rfl) (J.go ?_); refine VC.ret ?_; exact aW.two rfl (.cell (x := (P.1, P.2.1, P.2.2.1, P.2.2.2)) rfl m0 vS .refl) bP (fF (by rw [fG, if_neg c2, if_neg (of_decide_eq_false (bT.symm.trans c8))]; exact hP)) (fB (by rw [NV, if_neg c2, if_neg (of_decide_eq_false (bT.symm.trans c8))]))
  rintro _ _ _ ⟨⟩
end Go.Proofs
namespace Go.Proofs
open Go.Fs Ieee
set_option maxHeartbeats 400000
theorem HW {r : aG} {v : Nat} : ∀ {n i : Nat}, n = r.2.2.1.length - i -> i <= r.2.2.1.length -> (pR r i).foldl (E5 v) (hJ (rS r v r.2.2.1.length) i) = hJ (rS r v r.2.2.1.length) r.2.2.1.length
  | 0, i, hn, hi => by rw [sK (by omega), show i = r.2.2.1.length by omega] <;> rfl
  | n + 1, i, hn, hi => by
    have ih := HW (r := r) (v := v) (n := n) (i := i + 1) (by omega) (by omega)
    have nZ : i < r.2.2.1.length := by omega
    have CS : i < (rS r v r.2.2.1.length).length := by rw [G4]; exact nZ
    have rF : (rS r v r.2.2.1.length)[i] = Z9 r v i := by rw [VA nZ, if_pos nZ]
    rw [u7 nZ]
    cases hb : dP r i with
    | true =>
      rw [if_pos rfl, List.foldl_cons]; by_cases hc : bK v < bK (gF r i)
      . have h1 : (rS r v r.2.2.1.length)[i] = false := by rw [rF]; unfold Z9; rw [hb, decide_eq_false (by omega)] <;> rfl
        rw [zB CS (by rw [h1]; exact Bool.false_ne_true)] at ih; rw [show E5 v (hJ (rS r v r.2.2.1.length) i) ((i : Int), gF r i) = hJ (rS r v r.2.2.1.length) i ++ [((i : Int), (i : Int) + 1)] from if_pos hc]; exact ih
      have h1 : (rS r v r.2.2.1.length)[i] = true := by rw [rF]; unfold Z9; rw [hb, decide_eq_true (by omega)] <;> rfl
      rw [vO CS h1] at ih; rw [show E5 v (hJ (rS r v r.2.2.1.length) i) ((i : Int), gF r i) = hJ (rS r v r.2.2.1.length) i from if_neg hc]
      exact ih
    | false =>
      rw [if_neg Bool.false_ne_true]
      have h1 : (rS r v r.2.2.1.length)[i] = true := by rw [rF]; unfold Z9; rw [hb] <;> rfl
      rw [vO CS h1] at ih; exact ih
theorem ad7 {r : aG} {v : Nat} (h : dV [cM r, bD v] = 0) : dQ (rS r v r.2.2.1.length) r.2.2.1.length = P5 r v := by
  rw [P5, if_neg (fun hh => hh h), <- A3, <- HW (r := r) (v := v) rfl (Nat.zero_le _)] <;> rfl
end Go.Proofs
namespace Go.Proofs
open Go.Fs Ieee
set_option maxHeartbeats 400000
theorem RJ {x y : Nat} (hx : bD x = 0) (hy : bD y = 0) : dB .neq .f32 x y = decide (bK x ≠ bK y) := by
  rw [(nB (gW hx).1 (gW hy).1).2.1]; exact decide_eq_decide.2 ⟨fun h e => h (by rw [e]), fun h e => h (by omega)⟩
end Go.Proofs
namespace Go.Proofs
open Go.Fs Ieee
set_option maxHeartbeats 400000
end Go.Proofs
namespace Go.Proofs
open Go.Fs Ieee
set_option maxHeartbeats 400000
end Go.Proofs
namespace Go.Proofs
open Go.Fs Ieee
set_option maxHeartbeats 400000
end Go.Proofs
namespace Go.Proofs
open Go.Fs Ieee
set_option maxHeartbeats 400000
def oS (lv : List Nat) (v : Nat) (a : Int) (n : Nat) : List Nat := (List.range lv.length).map fun (j : Nat) => if a <= (j : Int) /\ j < n then v else lv.getD j 0
theorem kO {lv : List Nat} {v : Nat} {a : Int} {n : Nat} : (oS lv v a n).length = lv.length := by simp [oS]
theorem zG {lv : List Nat} {v : Nat} {a : Int} {n j : Nat} (h : j < lv.length) : (oS lv v a n)[j]'(by rw [kO]; exact h) = if a <= (j : Int) /\ j < n then v else lv.getD j 0 := by
  unfold oS; rw [List.getElem_map, List.getElem_range]
theorem aiW {lv : List Nat} {v : Nat} {a : Int} {n : Nat} (h : (n : Int) <= a) : oS lv v a n = lv := by
  refine List.ext_getElem kO fun j h1 h2 => ?_; rw [zG h2, if_neg (by omega), fK h2]
theorem aiX {lv : List Nat} {v : Nat} {a : Int} {n : Nat} (h : a <= (n : Int)) (hn : n < lv.length) : oS lv v a (n + 1) = (oS lv v a n).set n v := by
  refine List.ext_getElem (by rw [List.length_set, kO, kO]) fun j h1 h2 => ?_; rw [kO] at h1; rw [List.getElem_set, zG h1]; by_cases e : n = j
  . subst e; rw [if_pos rfl, if_pos ⟨h, by omega⟩]
  rw [if_neg e, zG h1]; exact ite_congr (propext ⟨fun hh => ⟨hh.1, by omega⟩, fun hh => ⟨hh.1, by omega⟩⟩) (fun _ => rfl) (fun _ => rfl)
abbrev Fil := List Nat × List (Int × Int) × List (Int × Int)
def HX (r : aG) (n : Int) (S : Fil) (g : Int × Int) : Fil :=
  if g.1 = 0 \/ n < g.2 - g.1 then (S.1, S.2.1 ++ [g], S.2.2) else (oS S.1 (r.2.2.1.getD (g.1 - 1).toNat 0) g.1 g.2.toNat, S.2.1, S.2.2 ++ [g])
def eT (r : aG) (n : Int) (k : Nat) : Fil := (r.2.2.2.take k).foldl (HX r n) (r.2.2.1, [], [])
theorem xA {r : aG} {n : Int} {k : Nat} (h : k < r.2.2.2.length) : eT r n (k + 1) = HX r n (eT r n k) r.2.2.2[k] := by
  unfold eT; rw [List.take_succ_eq_append_getElem h, List.foldl_append] <;> rfl
theorem ad8 {r : aG} {n : Int} {S : Fil} {g : Int × Int} {m k : Nat} (h : S.1.length = m /\ S.2.1.length <= k /\ S.2.2.length <= k) : (HX r n S g).1.length = m /\ (HX r n S g).2.1.length <= k + 1 /\ (HX r n S g).2.2.length <= k + 1 := by
  unfold HX; split
  . exact ⟨h.1, by rw [List.length_append, List.length_singleton]; omega, by show S.2.2.length <= _; omega⟩
  exact ⟨by rw [kO]; exact h.1, by show S.2.1.length <= _; omega, by rw [List.length_append, List.length_singleton]; omega⟩
theorem qM {r : aG} {n : Int} : ∀ k : Nat, k <= r.2.2.2.length -> (eT r n k).1.length = r.2.2.1.length /\ (eT r n k).2.1.length <= k /\ (eT r n k).2.2.length <= k
  | 0, _ => ⟨rfl, Nat.le_refl _, Nat.le_refl _⟩
  | k + 1, h => by
    rw [xA (by omega)]; exact ad8 (qM k (by omega))
end Go.Proofs
namespace Go.Fs
variable {P : Program} {orc : FuncId -> List Value -> U -> Option (Value × U)} {ops : Array Oper} {n : Nat} {l : List Oper} {fl : VL} {σ : aR} {K : VL -> aR -> Prop}
  {d : Tmp} {ty : TypeId} {pos : String} {after : Array Edge} {g : Option (Nat × Bool)}
theorem m4 {a b c d e : Value × Cell} {r : aR} : e ∈ a :: b :: c :: d :: e :: r := List.mem_cons_of_mem _ m3
theorem m5 {a b c d e f : Value × Cell} {r : aR} : f ∈ a :: b :: c :: d :: e :: f :: r := List.mem_cons_of_mem _ m4
theorem m6 {a b c d e f g : Value × Cell} {r : aR} : g ∈ a :: b :: c :: d :: e :: f :: g :: r := List.mem_cons_of_mem _ m5
end Go.Fs
namespace Go.Proofs
open Go.Fs Ieee
set_option maxHeartbeats 400000
end Go.Proofs
namespace Go.Proofs
open Go.Fs Ieee
set_option maxHeartbeats 400000
theorem zH {s : Int × Int} {a : List (Int × Int)} {t : Int} : Sp.bE (s :: a) t = true ↔ (s.1 <= t /\ t < s.2) \/ Sp.bE a t = true := by
  unfold Sp.bE; simp
theorem GB {a : List (Int × Int)} {c t : Int} (h : ∀ x ∈ a, c < x.1) (hi : Sp.bE a t = true) : c < t := by
  obtain ⟨x, hx, h2⟩ := List.any_eq_true.1 hi; simp only [Bool.and_eq_true, decide_eq_true_eq] at h2; have := h x hx; omega
theorem u9 {m : Int} {s : Int × Int} {a : List (Int × Int)} (h : Sp.Canon m (s :: a)) : Sp.Canon m a /\ (s.1 < s.2) /\ ∀ x ∈ a, s.2 < x.1 :=
  ⟨⟨fun x hx => h.1 x (List.mem_cons_of_mem _ hx), (List.pairwise_cons.1 h.2).2⟩, (h.1 s List.mem_cons_self).2.1, (List.pairwise_cons.1 h.2).1⟩
theorem BX {m : Int} : ∀ {a b : List (Int × Int)}, Sp.Canon m a -> Sp.Canon m b -> (∀ t : Int, Sp.bE a t = Sp.bE b t) -> a = b
  | [], [], _, _, _ => rfl
  | [], u :: b, _, hb, h => by
    have h1 := u9 hb; have h2 := zH.2 (.inl ⟨Int.le_refl u.1, h1.2.1⟩ : (u.1 <= u.1 /\ u.1 < u.2) \/ Sp.bE b u.1 = true); rw [<- h u.1] at h2
    cases h2
  | s :: a, [], ha, _, h => by
    have h1 := u9 ha; have h2 := zH.2 (.inl ⟨Int.le_refl s.1, h1.2.1⟩ : (s.1 <= s.1 /\ s.1 < s.2) \/ Sp.bE a s.1 = true); rw [h s.1] at h2
    cases h2
  | s :: a, u :: b, ha, hb, h => by
    obtain ⟨ca, s0, sa⟩ := u9 ha; obtain ⟨cb, u0, ub⟩ := u9 hb
    have key : ∀ t, ((s.1 <= t /\ t < s.2) \/ Sp.bE a t = true) ↔ ((u.1 <= t /\ t < u.2) \/ Sp.bE b t = true) := fun t => by rw [<- zH, <- zH, h t]
    have e1 : s.1 = u.1 := by
      have k1 := (key s.1).1 (.inl ⟨Int.le_refl _, s0⟩); have k2 := (key u.1).2 (.inl ⟨Int.le_refl _, u0⟩)
      have k1' : u.1 <= s.1 := by
        rcases k1 with k1 | k1
        . exact k1.1
        have := GB ub k1; omega
      have k2' : s.1 <= u.1 := by
        rcases k2 with k2 | k2
        . exact k2.1
        have := GB sa k2; omega
      omega
    have e2 : s.2 = u.2 := by
      rcases Int.lt_trichotomy s.2 u.2 with bO | he | bO
      . rcases (key s.2).2 (.inl ⟨by omega, bO⟩) with k | k
        . omega
        have := GB sa k; omega
      . exact he
      rcases (key u.2).1 (.inl ⟨by omega, bO⟩) with k | k
      . omega
      have := GB ub k; omega
    have e3 : a = b := BX ca cb fun t => by
      rw [Bool.eq_iff_iff]; constructor
      . intro hi; have := GB sa hi; rcases (key t).1 (.inr hi) with k | k
        . omega
        exact k
      intro hi; have := GB ub hi; rcases (key t).2 (.inr hi) with k | k
      . omega
      exact k
    rw [e3, show s = u from Prod.ext e1 e2]
theorem VT {α : Type} {l : List α} (h : 0 < l.length) : l = l.take (l.length - 1) ++ [l[l.length - 1]'(by omega)] := by
  have h2 := List.take_succ_eq_append_getElem (l := l) (i := l.length - 1) (by omega); rw [show l.length - 1 + 1 = l.length by omega, List.take_length] at h2; exact h2
theorem ad9 {α : Type} {l : List α} {y : α} (h : 0 < l.length) : l.set (l.length - 1) y = l.take (l.length - 1) ++ [y] := by
  rw [List.set_eq_take_append_cons_drop, if_pos (by omega), List.drop_eq_nil_of_le (by omega)]
theorem MG (out : List (Int × Int)) (i : Nat) : (∃ init x, out = init ++ [x] /\ x.2 = (i : Int) /\ zA out i = init ++ [(x.1, (i : Int) + 1)]) \/ ((out = [] \/ ∃ init x, out = init ++ [x] /\ x.2 ≠ (i : Int)) /\ zA out i = out ++ [((i : Int), (i : Int) + 1)]) := by
  by_cases h0 : 0 < out.length
  . have hs := VT h0; have hx : jF out (out.length - 1) = out[out.length - 1]'(by omega) := fJ (by omega); by_cases h1 : (jF out (out.length - 1)).2 = (i : Int)
    . refine .inl ⟨_, _, hs, by rw [<- hx]; exact h1, ?_⟩; rw [aaN h0 h1, ad9 h0, hx]
    refine .inr ⟨.inr ⟨_, _, hs, by rw [<- hx]; exact h1⟩, RC (fun hh => h1 hh.2)⟩
  have h2 : out = [] := List.length_eq_zero_iff.1 (by omega); exact .inr ⟨.inl h2, RC (fun hh => h0 hh.1)⟩
theorem MH {l : List Bool} {i : Nat} : dQ l (i + 1) = if l.getD i false = true then dQ l i else zA (dQ l i) i := rfl
theorem uA {l : List Bool} : ∀ i : Nat, Sp.Canon (i : Int) (dQ l i)
  | 0 => ⟨fun s hs => (by cases hs), List.Pairwise.nil⟩
  | i + 1 => by
    have ih := uA (l := l) i; rw [MH]; split
    . exact ⟨fun s hs => by have := ih.1 s hs; omega, ih.2⟩
    rcases MG (dQ l i) i with ⟨init, x, e1, e2, e3⟩ | ⟨e1, e3⟩
    . rw [e3]; rw [e1] at ih; have hx := ih.1 x (by simp); obtain ⟨p1, _, p3⟩ := List.pairwise_append.1 ih.2; refine ⟨fun s hs => ?_, List.pairwise_append.2 ⟨p1, List.pairwise_singleton _ _, fun s hs u hu => ?_⟩⟩
      . rcases List.mem_append.1 hs with hs | hs
        . have := ih.1 s (List.mem_append_left _ hs); omega
        rw [List.mem_singleton.1 hs]; show 0 <= x.1 /\ x.1 < (i : Int) + 1 /\ (i : Int) + 1 <= ((i + 1 : Nat) : Int); omega
      rw [List.mem_singleton.1 hu]; exact p3 s hs x (List.mem_singleton.2 rfl)
    rw [e3]
    have bO : ∀ s ∈ dQ l i, s.2 < (i : Int) := fun s hs => by
      rcases e1 with e1 | ⟨init, x, e1, e2⟩
      . rw [e1] at hs; cases hs
      rw [e1] at hs ih; have hx := ih.1 x (by simp); rcases List.mem_append.1 hs with hs | hs
      . have := (List.pairwise_append.1 ih.2).2.2 s hs x (List.mem_singleton.2 rfl); omega
      rw [List.mem_singleton.1 hs]; omega
    refine ⟨fun s hs => ?_, List.pairwise_append.2 ⟨ih.2, List.pairwise_singleton _ _, fun s hs u hu => ?_⟩⟩
    . rcases List.mem_append.1 hs with hs | hs
      . have := ih.1 s hs; omega
      rw [List.mem_singleton.1 hs]; show 0 <= (i : Int) /\ (i : Int) < (i : Int) + 1 /\ (i : Int) + 1 <= ((i + 1 : Nat) : Int); omega
    rw [List.mem_singleton.1 hu]; exact bO s hs
theorem E7 {l : List Bool} {t : Int} : ∀ i : Nat, (Sp.bE (dQ l i) t = true ↔ 0 <= t /\ t < (i : Int) /\ l.getD t.toNat false = false)
  | 0 => ⟨fun h => (by cases h), fun h => by omega⟩
  | i + 1 => by
    have ih := E7 (l := l) (t := t) i; have hc := uA (l := l) i; rw [MH]; split
    . rename_i hb; rw [ih]; refine ⟨fun h => ⟨h.1, by omega, h.2.2⟩, fun h => ⟨h.1, ?_, h.2.2⟩⟩; by_cases e : t = (i : Int)
      . have := h.2.2; rw [e, Int.toNat_natCast, hb] at this; cases this
      omega
    rename_i hb
    have hb : l.getD i false = false := by simpa using hb
    have hn : (0 <= t /\ t < ((i + 1 : Nat) : Int) /\ l.getD t.toNat false = false) ↔ ((0 <= t /\ t < (i : Int) /\ l.getD t.toNat false = false) \/ t = (i : Int)) := by
      constructor
      . intro h; by_cases e : t = (i : Int)
        . exact .inr e
        exact .inl ⟨h.1, by omega, h.2.2⟩
      intro h; rcases h with h | h
      . exact ⟨h.1, by omega, h.2.2⟩
      refine ⟨by omega, by omega, ?_⟩; rw [h, Int.toNat_natCast]; exact hb
    rw [hn, <- ih]; rcases MG (dQ l i) i with ⟨init, x, e1, e2, e3⟩ | ⟨e1, e3⟩
    . have hx := hc.1 x (by rw [e1]; simp); rw [e3, e1, Sp.yX, Sp.yX, Bool.or_eq_true, Bool.or_eq_true, Sp.DW, show [x] = [(x.1, x.2)] from rfl, Sp.DW]; constructor
      . intro h; rcases h with h | h
        . exact .inl (.inl h)
        by_cases e : t = (i : Int)
        . exact .inr e
        exact .inl (.inr (by omega))
      intro h; rcases h with (h | h) | h
      . exact .inl h
      . exact .inr (by omega)
      exact .inr (by omega)
    rw [e3, Sp.yX, Bool.or_eq_true, Sp.DW]; constructor
    . intro h; rcases h with h | h
      . exact .inl h
      exact .inr (by omega)
    intro h; rcases h with h | h
    . exact .inl h
    exact .inr (by omega)
theorem xB {n : Nat} {p : Int -> Bool} {t : Nat} (h : t < n) : (eI n p).getD t false = !p (t : Int) := by
  rw [fK (by rw [dE]; exact h), pO h]
theorem adA {n : Nat} {G : List (Int × Int)} (h : Sp.Canon (n : Int) G) : dQ (eI n (Sp.bE G)) n = G := by
  refine BX (uA n) h fun t => ?_; rw [Bool.eq_iff_iff, E7]; constructor
  . intro hh; have h1 := xB (p := Sp.bE G) (show t.toNat < n by omega); rw [hh.2.2, show ((t.toNat : Nat) : Int) = t by omega] at h1; simpa using h1.symm
  intro hh; obtain ⟨x, hx, h2⟩ := List.any_eq_true.1 hh; simp only [Bool.and_eq_true, decide_eq_true_eq] at h2; have h3 := h.1 x hx; refine ⟨by omega, by omega, ?_⟩; rw [xB (show t.toNat < n by omega), show ((t.toNat : Nat) : Int) = t by omega, hh] <;> rfl
theorem iE {r : aG} (h : cM r = 0) : Sp.Canon (r.2.2.1.length : Nat) r.2.2.2 /\ LY r = false /\ nL r.1 = true := by
  have h0 := (dO h).2.2.2.2; unfold cM at h; split at h
  . rename_i h1; exact absurd h h1
  rename_i h1; split at h
  . rename_i h2; exact absurd h h2
  rename_i h2; split at h
  . cases h
  rename_i h3; have h1 := cH.1 (Classical.not_not.1 h1); have h2 := rA.1 (Classical.not_not.1 h2); have h4 := jU h2.2; have h6 := h1 (eM (!nL r.1) 8) (by simp); rw [kZ (by decide)] at h6 h; exact ⟨⟨h0, h4.1.2⟩, h, by simpa using h6⟩
theorem adB {r : aG} (h : cM r = 0) : dQ (aP r) (aP r).length = r.2.2.2 := by
  unfold aP; rw [dE]; exact adA (iE h).1
end Go.Proofs
namespace Go.Proofs
open Go.Fs Ieee
set_option maxHeartbeats 400000
def tI (n : Int) (g : Int × Int) : Prop := g.1 = 0 \/ n < g.2 - g.1
instance (n : Int) (g : Int × Int) : Decidable (tI n g) := inferInstanceAs (Decidable (g.1 = 0 \/ n < g.2 - g.1))
theorem A7 {r : aG} {n : Int} {S : Fil} {g : Int × Int} (h : tI n g) : HX r n S g = (S.1, S.2.1 ++ [g], S.2.2) := if_pos h
theorem xC {r : aG} {n : Int} {S : Fil} {g : Int × Int} (h : ¬ tI n g) : HX r n S g = (oS S.1 (r.2.2.1.getD (g.1 - 1).toNat 0) g.1 g.2.toNat, S.2.1, S.2.2 ++ [g]) := if_neg h
theorem GC {r : aG} {i : Nat} (h : ∀ x ∈ r.2.2.1, bD x = 0) : bD (r.2.2.1.getD i 0) = 0 := by
  by_cases hi : i < r.2.2.1.length
  . rw [fK hi]; exact h _ (List.getElem_mem hi)
  rw [List.getD_eq_getElem?_getD, List.getElem?_eq_none (by omega)]; decide +kernel
theorem P7 {α : Type} {l : List α} {i : Nat} {d : α} (h : ¬ i < l.length) : l.getD i d = d := by
  rw [List.getD_eq_getElem?_getD, List.getElem?_eq_none (by omega)] <;> rfl
theorem GD {lv : List Nat} {v : Nat} {a : Int} {n j : Nat} (h : ¬ (a <= (j : Int) /\ j < n)) : (oS lv v a n).getD j 0 = lv.getD j 0 := by
  by_cases hj : j < lv.length
  . rw [fK (by rw [kO]; exact hj), zG hj, if_neg h]
  rw [P7 (by rw [kO]; exact hj), P7 hj]
theorem VU {lv : List Nat} {v : Nat} {a : Int} {n j : Nat} (hj : j < lv.length) (h : a <= (j : Int) /\ j < n) : (oS lv v a n).getD j 0 = v := by
  rw [fK (by rw [kO]; exact hj), zG hj, if_pos h]
theorem GF {r : aG} {n : Int} {j : Nat} : ∀ k : Nat, k <= r.2.2.2.length -> (∀ i (hi : i < r.2.2.2.length), i < k -> ¬ ((r.2.2.2[i]).1 <= (j : Int) /\ (j : Int) < (r.2.2.2[i]).2)) -> (eT r n k).1.getD j 0 = r.2.2.1.getD j 0
  | 0, _, _ => rfl
  | k + 1, hk, h => by
    have ih := GF (r := r) (n := n) (j := j) k (by omega) fun i hi h2 => h i hi (by omega); have hg := h k (by omega) (by omega); rw [xA (by omega)]; by_cases hf : tI n r.2.2.2[k]
    . rw [A7 hf]; exact ih
    rw [xC hf]; show (oS _ _ _ _).getD j 0 = _; rw [GD (fun hh => hg ⟨hh.1, by omega⟩)]; exact ih
theorem GG {r : aG} {n : Int} (hv : ∀ x ∈ r.2.2.1, bD x = 0) : ∀ k : Nat, k <= r.2.2.2.length -> ∀ x ∈ (eT r n k).1, bD x = 0
  | 0, _ => hv
  | k + 1, hk => fun x hx => by
    have ih := GG (n := n) hv k (by omega); rw [xA (by omega)] at hx; by_cases hf : tI n r.2.2.2[k]
    . rw [A7 hf] at hx; exact ih x hx
    rw [xC hf] at hx; obtain ⟨j, hj, rfl⟩ := List.mem_map.1 (show x ∈ oS _ _ _ _ from hx); have hj := List.mem_range.1 hj; split
    . exact GC hv
    rw [fK hj]; exact ih _ (List.getElem_mem hj)
theorem NW {r : aG} {i k : Nat} (hp : r.2.2.2.Pairwise fun s u => s.2 < u.1) (hk : k < r.2.2.2.length) (hi : i < k) : (r.2.2.2[i]'(by omega)).2 < (r.2.2.2[k]).1 := List.pairwise_iff_getElem.1 hp i k (by omega) hk hi
theorem alN {r : aG} {n : Int} {k : Nat} (hp : r.2.2.2.Pairwise fun s u => s.2 < u.1) (hk : k < r.2.2.2.length) (h0 : 0 < (r.2.2.2[k]).1) : (eT r n k).1.getD ((r.2.2.2[k]).1 - 1).toNat 0 = r.2.2.1.getD ((r.2.2.2[k]).1 - 1).toNat 0 :=
  GF k (by omega) fun i hi h2 => by have := NW hp hk h2; omega
theorem adC {lv : List Nat} {v : Nat} {a : Int} {i : Nat} (h0 : 0 < a) (hi : a <= (i : Int)) (hl : i < lv.length) (hv : lv.getD (a - 1).toNat 0 = v) (h : ((i : Int) - 1).toNat < (oS lv v a i).length) : (oS lv v a i)[((i : Int) - 1).toNat] = v := by
  rw [<- fK (d := 0) h]; by_cases e : (i : Int) = a
  . rw [GD (fun hh => by omega), e]; exact hv
  exact VU (by omega) ⟨by omega, by omega⟩
def tJ (r : aG) (n : Int) : Nat -> Int -> Bool
  | 0, t => Sp.bE r.2.2.2 t
  | k + 1, t => if tI n (jF r.2.2.2 k) then tJ r n k t else tJ r n k t && !(decide ((jF r.2.2.2 k).1 <= t) && decide (t < (jF r.2.2.2 k).2))
def MI (p : Int -> Bool) (a : Int) (i : Nat) (t : Int) : Bool := p t && !(decide (a <= t) && decide (t < (i : Int)))
theorem ah0 {n t : Nat} {p q : Int -> Bool} (ht : t < n) (hq : q t = false) (IA : ∀ u : Nat, u ≠ t -> q u = p u) : eI n q = (eI n p).set t true := by
  refine List.ext_getElem (by rw [List.length_set, dE, dE]) fun i h1 h2 => ?_; rw [dE] at h1; rw [pO h1, List.getElem_set]; by_cases e : t = i
  . subst e; rw [if_pos rfl, hq] <;> rfl
  rw [if_neg e, pO h1, IA i (fun h => e h.symm)]
theorem alO {n i : Nat} {p : Int -> Bool} {a : Int} (hi : i < n) (ha : a <= (i : Int)) : eI n (MI p a (i + 1)) = (eI n (MI p a i)).set i true := by
  refine ah0 hi ?_ fun u hu => ?_
  . unfold MI; rw [decide_eq_true ha, decide_eq_true (by omega)]; simp
  unfold MI; rw [decide_eq_decide.2 (show ((u : Int) < ((i + 1 : Nat) : Int)) ↔ (u : Int) < (i : Int) by omega)]
theorem alP {n i : Nat} {p : Int -> Bool} {a : Int} (hi : (i : Int) <= a) : eI n p = eI n (MI p a i) := qJ fun u _ => by
  unfold MI; by_cases h : a <= (u : Int)
  . rw [decide_eq_false (show ¬ (u : Int) < (i : Int) by omega)]; simp
  rw [decide_eq_false h]; simp
theorem ah1 {r : aG} {n : Int} {k i m : Nat} (hk : k < r.2.2.2.length) (hf : ¬ tI n r.2.2.2[k]) (hi : (i : Int) = (r.2.2.2[k]).2) : eI m (MI (tJ r n k) (r.2.2.2[k]).1 i) = eI m (tJ r n (k + 1)) := qJ fun u _ => by
  show MI _ _ _ _ = if tI n (jF r.2.2.2 k) then _ else _; rw [fJ hk, if_neg hf, MI, hi]
theorem alQ {r : aG} {n : Int} {k m : Nat} (hk : k < r.2.2.2.length) (hf : tI n r.2.2.2[k]) : eI m (tJ r n (k + 1)) = eI m (tJ r n k) := qJ fun u _ => by
  show (if tI n (jF r.2.2.2 k) then _ else _) = _; rw [fJ hk, if_pos hf]
def BY (r : aG) (n : Int) : List Bool := eI r.2.2.1.length (tJ r n r.2.2.2.length)
theorem zI {r : aG} {n : Int} : (BY r n).length = r.2.2.1.length := dE
def uB (r : aG) (n : Int) : Int := dV [cM r, gA n 0 4096]
def aaT (r : aG) (n : Int) : aG := (r.1, r.2.1, (eT r n r.2.2.2.length).1, r.2.2.2)
def fQ (r : aG) (n : Int) : aG := if uB r n ≠ 0 then ak1 else (r.1, r.2.1, gI (aaT r n) (BY r n) eH (BY r n).length, dQ (BY r n) (BY r n).length)
theorem VV {l : List Nat} (hl : l.length < 100000) : gV Tryz.prog OA 103 [.v cL l] [] (fun r g => ∃ w, r = .raw w /\ g = [(w, .row 59 (.aO .f32) l)]) := by
  refine gV.enter Tryz.func103 rfl (fun _ _ => rfl) rfl ?_; show VC _ _ _ _ _ [(0, .v cL l)] [] _; refine VC.seq (VC.text ?_); refine J.c (.assign rfl) ?_; refine J.go (VC.seq (VC.seq (VC.text ?_))); refine J.c (.move rfl) ?_; refine J.al8 (e := 59) rfl rfl (by kernel_rfl) (by kernel_rfl) (fun ao0 => ?_) ?_
  . refine J.go ?_; refine VC.uO rfl ?_; refine VC.seq (VC.text ?_); refine J.c (.assign rfl) (J.go ?_); refine VC.cell0 59 (.aO .f32) ?_; refine VC.ret ?_; simp only [KT]; exact mN.row rfl bP ⟨(.slice none 0 0), rfl, (by rw [ao0])⟩
  refine J.go ?_; refine VC.uP rfl ?_; refine VC.skip (VC.seq (VC.text ?_)); refine J.cell (.aa7 bW) ?_; intro fI; refine J.c (.move rfl) ?_; refine J.app rfl rfl bW bW (by simp; omega) ?_; intro nD; refine J.c (.assign rfl) (J.go ?_); refine VC.ret ?_; exact mN.row rfl bP ⟨nD, rfl, (by rfl)⟩
theorem adD {r : ByteArray × Int × (List Nat) × (List (Int × Int))} {n : Int} (hl : r.2.2.1.length < 100000) (uY : r.2.2.2.length < 1000000) : VF Tryz.prog OA 51 [.v dJ r, I n] (.oD [.v dJ (fQ r n), .v aZ (if uB r n ≠ 0 then [] else (eT r n r.2.2.2.length).2.2), I (uB r n)]) := by
  refine VF.enter Tryz.func51 rfl (fun _ _ => rfl) rfl ?_; show VC _ _ _ _ _ [(0, .v dJ r), (1, I n)] [] _; refine VC.seq (VC.text ?_); refine J.cell (.box (τ := dJ) .v) ?_; intro lU; refine J.cell (.alloc B4) ?_; intro tN; refine J.c (.assign rfl) (J.c (.assign rfl) ?_); refine J.go (VC.seq (VC.seq (VC.text ?_))); refine J.r (.IH (dx := (r.1, r.2.1, r.2.2.1, r.2.2.2)) m1 fP) ?_; refine J.call rfl rfl (VF.call (vM (Nat.lt_trans hl (by decide)) uY)) ?_; refine J.c (.move rfl) ?_; refine J.call rfl rfl (VF.call (yT )) ?_; refine J.new (.lit [cM (r.1, r.2.1, r.2.2.1, r.2.2.2), gA n (0 : Int) (4096 : Int)] uR) ?_; refine J.call rfl rfl (VF.call (mP (by first | assumption | omega | simp))) ?_; refine J.c (.assign rfl) ?_; refine J.go (VC.seq (VC.text ?_)); refine J.c (.move rfl) (J.c (.neq) (J.go ?_)); refine VC.aX rfl (fun c2 => ?_) (fun c2 => ?_)
  . refine VC.seq (VC.text ?_); refine J.c (.build (ByteArray.empty, 0, [], []) UX) (J.c (.move rfl) ?_); refine J.lJ (cs' := [St ByteArray.empty, I 0, .v cL [], .v aZ []]) fP .v ?_; refine J.c (.assign rfl) (J.c (.assign rfl) (J.go ?_)); refine VC.ret ?_; exact aW.three rfl (.cell (x := (ByteArray.empty, 0, [], [])) rfl m0 fP .refl) (L8 .nil) bP (fF (by exact (if_pos c2).symm)) (fF (by exact (if_pos c2).symm)) (fB (by rfl))
  have hz := cH.1 (Classical.not_not.1 c2); have rM := hz (cM r) (by simp); have BZ := dO rM; have BI := iE rM; have c2' : ¬ uB r n ≠ 0 := c2; refine VC.skip (VC.seq (VC.text ?_)); refine J.c (.assign rfl) ?_; refine J.go (VC.seq (VC.text ?_)); refine J.r (.IH (dx := (r.1, r.2.1, r.2.2.1, r.2.2.2)) m1 fP) ?_; refine J.pL [] rfl rfl rfl (gV.call (V3 BZ.2.1 uY BZ.2.2.2.2)) ?_; rintro _ _ ⟨IQ, rfl, rfl⟩; show J _ _ _ _ _ _ [(IQ, .row 4 .bool (aP (r.1, r.2.1, r.2.2.1, r.2.2.2))), (tN, .var [St ByteArray.empty, I (0 : Int), .v cL [], .v aZ []]), (lU, .var [St r.1, I r.2.1, .v cL r.2.2.1, .v aZ r.2.2.2])] _; refine J.c (.assign rfl) ?_; refine J.go (VC.seq (VC.text ?_)); refine J.c (.s9 (k := 2) m2) ?_; refine J.r (.wN (k := 2) m2 dG) ?_; refine J.pL [] rfl rfl rfl (gV.call (VV (by omega))) ?_; rintro _ _ ⟨z8, rfl, rfl⟩; show J _ _ _ _ _ _ [(z8, .row 59 (.aO .f32) r.2.2.1), (IQ, .row 4 .bool (aP (r.1, r.2.1, r.2.2.1, r.2.2.2))), (tN, .var [St ByteArray.empty, I (0 : Int), .v cL [], .v aZ []]), (lU, .var [St r.1, I r.2.1, .v cL r.2.2.1, .v aZ r.2.2.2])] _; refine J.c (.assign rfl) ?_; refine J.go (VC.seq (VC.seq (VC.text ?_))); refine J.c (.s9 (k := 3) m3) ?_; refine J.r (.wN (k := 3) m3 gK) ?_; refine J.r (.len cD) ?_; refine J.c (.move rfl) ?_; refine J.go (VC.block ?_); refine VC.cell0 39 gH ?_; refine VC.aV [(1, I n), (2, .raw lU), (4, .raw tN), (8, .raw (.slice none 0 0)), (9, .raw IQ), (10, .raw z8), (30, .v aZ r.2.2.2), (31, I ((r.2.2.2.length : Nat) : Int)), (32, I ((0 : Nat) : Int))] ⟨rfl, rfl, rfl, rfl, rfl, rfl, rfl, rfl, rfl, trivial⟩ ?_; refine VC.loop (I := fun kk ff ss => ∃ (k : Nat) (wf : Value), kk = r.2.2.2.length - k /\ ff = [(1, I n), (2, .raw lU), (4, .raw tN), (8, .raw wf), (9, .raw IQ), (10, .raw z8), (30, .v aZ r.2.2.2), (31, I ((r.2.2.2.length : Nat) : Int)), (32, I ((k : Nat) : Int))] /\ ss = [(wf, .row 39 gH ((eT r n k).2.2)), (z8, .row 59 (.aO .f32) ((eT r n k).1)), (IQ, .row 4 .bool (eI r.2.2.1.length (tJ r n k))), (tN, .var [St ByteArray.empty, I (0 : Int), .v cL [], .v aZ []]), (lU, .var [St r.1, I r.2.1, .v cL r.2.2.1, .v aZ r.2.2.2])] /\ (k <= r.2.2.2.length) /\ ((eT r n k).1.length = r.2.2.1.length /\ (eT r n k).2.1.length <= k /\ (eT r n k).2.2.length <= k)) ?_ _ _ _ ⟨0, (.slice none 0 0), rfl, rfl, (by rfl), Nat.zero_le _, (by exact qM _ (by omega))⟩; rintro kk ff ss ⟨k, wf, kJ, rfl, rfl, hk, hfk⟩; refine VC.seq (VC.text ?_); refine J.c (.lss) ?_; refine J.go (VC.seq ?_); refine VC.aX rfl (fun c8 => ?_) (fun c8 => ?_)
  . have oW : k < r.2.2.2.length := by omega
    have hs := BZ.2.2.2.2 _ (List.getElem_mem oW); have e0 := xA (r := r) (n := n) oW; refine VC.skip (VC.seq (VC.block (VC.seq (VC.text ?_)))); refine J.c (.ix (j := k) rfl rfl cD (by omega)) ?_; refine J.r (.ld nG) ?_; refine J.cell (.alloc HL) ?_; intro ww7; refine J.lJ (cs' := [I ((r.2.2.2[k]).1), I ((r.2.2.2[k]).2)]) nG .v ?_; refine J.shut [(12, .p gH (r.2.2.2[k]))] (.cons rfl (.var m0 .refl) .nil) ?_; refine J.go (VC.seq (VC.seq (VC.text ?_))); refine J.c (.fa (.l .o)) ?_; refine J.r (.ld cQ) ?_; refine J.c (.eql) (J.c (.move rfl) ?_); refine J.cg (r := decide ((r.2.2.2[k]).1 = (0 : Int))) (w := false) [] trivial (fun _ => (.fa (.r (k := 0) .o))) ?_; refine J.rg (r := decide ((r.2.2.2[k]).1 = (0 : Int))) (w := false) [(40, .p (.int .i64) ((r.2.2.2[k]).2))] ⟨rfl, trivial⟩ (fun _ => (.ld cQ)) ?_; refine J.cg (r := decide ((r.2.2.2[k]).1 = (0 : Int))) (w := false) [] trivial (fun _ => (.fa (.l .o))) ?_; refine J.rg (r := decide ((r.2.2.2[k]).1 = (0 : Int))) (w := false) [(42, .p (.int .i64) ((r.2.2.2[k]).1))] ⟨rfl, trivial⟩ (fun _ => (.ld cQ)) ?_; refine J.cg (r := decide ((r.2.2.2[k]).1 = (0 : Int))) (w := false) [(41, I ((r.2.2.2[k]).2)), (43, I ((r.2.2.2[k]).1))] ⟨rfl, rfl, trivial⟩ (fun iK => have aoM : ¬ ((r.2.2.2[k]).1 = (0 : Int)) := (by simpa using iK); (.sub rfl rfl (by omega))) ?_; refine J.cg (r := decide ((r.2.2.2[k]).1 = (0 : Int))) (w := false) [] trivial (fun _ => (.move rfl)) ?_; refine J.cg (r := decide ((r.2.2.2[k]).1 = (0 : Int))) (w := false) [(44, I ((r.2.2.2[k]).2 - (r.2.2.2[k]).1)), (45, I n)] ⟨rfl, rfl, trivial⟩ (fun _ => (.gtr)) ?_; refine J.c (.or) (J.go ?_); refine VC.eR rfl (fun r7 => ?_) (fun r7 => ?_)
    . try simp only [Bool.and_eq_true, Bool.or_eq_true, Bool.and_eq_false_iff, Bool.or_eq_false_iff, Bool.not_eq_true', Bool.not_eq_false', decide_eq_true_eq, decide_eq_false_iff_not] at r7
      have e1 : eT r n (k + 1) = ((eT r n k).1, (eT r n k).2.1 ++ [r.2.2.2[k]], (eT r n k).2.2) := by rw [e0, A7 r7]
      have e2 := alQ (n := n) (m := r.2.2.1.length) oW r7; refine VC.exit (VC.text ?_); refine J.c (.add rfl rfl (by omega)) (J.c (.move rfl) ?_); refine J.nil ?_; refine ⟨_, [(1, I n), (2, .raw lU), (4, .raw tN), (8, .raw wf), (9, .raw IQ), (10, .raw z8), (30, .v aZ r.2.2.2), (31, I ((r.2.2.2.length : Nat) : Int)), (32, I (((k + 1) : Nat) : Int))], ?_, ⟨rfl, rfl, rfl, rfl, rfl, rfl, rfl, rfl, rfl, trivial⟩, (k + 1), wf, rfl, rfl, (by first | (rw [e1, e2]; done) | (rw [e1, <- ah1 oW hnf (show (i : Int) = _ by omega), show (r.2.2.2[k]).2.toNat = i by omega]; done)), (by omega), (by exact qM _ (by omega))⟩; omega
    try simp only [Bool.and_eq_true, Bool.or_eq_true, Bool.and_eq_false_iff, Bool.or_eq_false_iff, Bool.not_eq_true', Bool.not_eq_false', decide_eq_true_eq, decide_eq_false_iff_not] at r7
    have hnf : ¬ tI n r.2.2.2[k] := fun hh => hh.elim r7.1 r7.2
    have h0 : 0 < (r.2.2.2[k]).1 := by have := r7.1; omega
    have e1 : eT r n (k + 1) = (oS (eT r n k).1 (r.2.2.1.getD ((r.2.2.2[k]).1 - 1).toNat 0) (r.2.2.2[k]).1 (r.2.2.2[k]).2.toNat, (eT r n k).2.1, (eT r n k).2.2 ++ [r.2.2.2[k]]) := by rw [e0, xC hnf]
    have SX := alN (n := n) BI.1.2 oW h0; refine VC.skip (VC.seq (VC.text ?_)); refine J.c (.move rfl) ?_; refine J.r (.ld nG) ?_; refine J.new (.lit [r.2.2.2[k]] cD) ?_; refine J.app rfl rfl cD cD (by simp; omega) ?_; intro wZ; refine J.c (.assign rfl) ?_; refine J.go (VC.seq (VC.text ?_)); refine J.c (.fa (.l .o)) ?_; refine J.r (.ld cQ) ?_; refine J.c (.assign rfl) ?_; refine J.go (VC.block ?_); refine VC.aV [(1, I n), (2, .raw lU), (4, .raw tN), (8, .raw wZ), (9, .raw IQ), (10, .raw z8), (12, .p gH (r.2.2.2[k])), (13, I ((((r.2.2.2[k]).1.toNat) : Nat) : Int)), (30, .v aZ r.2.2.2), (31, I ((r.2.2.2.length : Nat) : Int)), (32, I ((k : Nat) : Int))] ⟨rfl, rfl, rfl, rfl, rfl, rfl, rfl, vH rfl (by omega), rfl, rfl, rfl, trivial⟩ ?_; refine VC.loop (I := fun kk ff ss => ∃ (i : Nat), kk = 5000 - i /\ ff = [(1, I n), (2, .raw lU), (4, .raw tN), (8, .raw wZ), (9, .raw IQ), (10, .raw z8), (12, .p gH (r.2.2.2[k])), (13, I ((i : Nat) : Int)), (30, .v aZ r.2.2.2), (31, I ((r.2.2.2.length : Nat) : Int)), (32, I ((k : Nat) : Int))] /\ ss = [(wZ, .row 39 gH (((eT r n k).2.2) ++ [r.2.2.2[k]])), (z8, .row 59 (.aO .f32) (oS (eT r n k).1 (r.2.2.1.getD ((r.2.2.2[k]).1 - 1).toNat 0) (r.2.2.2[k]).1 i)), (IQ, .row 4 .bool (eI r.2.2.1.length (MI (tJ r n k) (r.2.2.2[k]).1 i))), (tN, .var [St ByteArray.empty, I (0 : Int), .v cL [], .v aZ []]), (lU, .var [St r.1, I r.2.1, .v cL r.2.2.1, .v aZ r.2.2.2])] /\ ((r.2.2.2[k]).1 <= (i : Int)) /\ ((i : Int) <= (r.2.2.2[k]).2) /\ ((oS (eT r n k).1 (r.2.2.1.getD ((r.2.2.2[k]).1 - 1).toNat 0) (r.2.2.2[k]).1 i).length = r.2.2.1.length) /\ ((eI r.2.2.1.length (MI (tJ r n k) (r.2.2.2[k]).1 i)).length = r.2.2.1.length)) ?_ _ _ _ ⟨(r.2.2.2[k]).1.toNat, rfl, rfl, (by rw [aiW (by omega), <- alP (by omega)]), (by omega), (by omega), (by (rw [kO]; omega)), (by exact dE)⟩; rintro kk ff ss ⟨i, yE, rfl, rfl, hi0, mJ, hpl, SO⟩; refine VC.seq (VC.seq (VC.text ?_)); refine J.c (.move rfl) (J.c (.fa (.r .o)) ?_); refine J.r (.ld cQ) ?_; refine J.c (.lss) (J.go ?_); refine VC.aX rfl (fun c13 => ?_) (fun c13 => ?_)
    . have hib : i < r.2.2.1.length := by omega
      have hpp := adC h0 hi0 (show i < (eT r n k).1.length by omega) SX (by omega); refine VC.skip (VC.seq (VC.block (VC.text ?_))); refine J.c (.move rfl) (J.c (.move rfl) (J.c (.move rfl) (J.c (.move rfl) ?_))); refine J.c (.move rfl) (J.c (.move rfl) (J.c (.sub rfl rfl (by omega)) (J.c (.aa5 (k := (((i : Nat) : Int) - (1 : Int))) rfl rfl m1 bW (by omega) (by omega)) ?_))); refine J.r (.TL rfl m1 eN (by omega)) ?_; refine J.c (.AP (j := i) rfl rfl m1 bW (by omega)) ?_; refine J.perm iL ?_; refine J.AZ i rfl rfl eN (by omega) ?_; refine J.c (.AP (j := i) rfl rfl m2 eC (by omega)) ?_; refine J.perm wQ ?_; refine J.AZ i rfl rfl vt4 (by omega) ?_; refine J.nil (VC.text ?_); refine J.c (.move rfl) (J.c (.add rfl rfl (by omega)) (J.c (.assign rfl) ?_)); refine J.perm RE ?_; refine J.perm RE ?_; refine J.perm wQ ?_; refine J.perm rJ ?_; refine J.perm RE ?_; refine J.nil ?_; refine ⟨_, [(1, I n), (2, .raw lU), (4, .raw tN), (8, .raw wZ), (9, .raw IQ), (10, .raw z8), (12, .p gH (r.2.2.2[k])), (13, I (((i + 1) : Nat) : Int)), (30, .v aZ r.2.2.2), (31, I ((r.2.2.2.length : Nat) : Int)), (32, I ((k : Nat) : Int))], ?_, ⟨rfl, rfl, rfl, rfl, rfl, rfl, rfl, rfl, rfl, rfl, rfl, trivial⟩, (i + 1), rfl, rfl, (by rw [aiX hi0 (by omega), alO hib hi0, hpp]), (by omega), (by omega), (by (rw [kO]; omega)), (by exact dE)⟩; omega
    refine VC.exit (VC.text ?_); refine J.c (.add rfl rfl (by omega)) (J.c (.move rfl) ?_); refine J.nil ?_; refine ⟨_, [(1, I n), (2, .raw lU), (4, .raw tN), (8, .raw wZ), (9, .raw IQ), (10, .raw z8), (30, .v aZ r.2.2.2), (31, I ((r.2.2.2.length : Nat) : Int)), (32, I (((k + 1) : Nat) : Int))], ?_, ⟨rfl, rfl, rfl, rfl, rfl, rfl, rfl, rfl, rfl, trivial⟩, (k + 1), wZ, rfl, rfl, (by first | (rw [e1, e2]; done) | (rw [e1, <- ah1 oW hnf (show (i : Int) = _ by omega), show (r.2.2.2[k]).2.toNat = i by omega]; done)), (by omega), (by exact qM _ (by omega))⟩; omega
  refine VC.exit (VC.seq (VC.text ?_))
  have hke : k = r.2.2.2.length := by omega
  have NL := GG (n := n) BZ.2.2.2.1 k (by omega); refine J.c (.move rfl) (J.c (.s9 (k := 2) m4) ?_); refine J.perm RE ?_; refine J.one m2 fun ho9 => ?_; refine J.tD (cs' := [St r.1, I r.2.1, .raw z8, .v aZ r.2.2.2]) 2 dG (.raw rfl (vJ ho9) ho9) ?_; refine J.go (VC.seq ?_); refine VC.perm wQ ?_; refine VC.yP [(z8, .row 59 (.aO .f32) ((eT r n k).1)), (lU, .var [St r.1, I r.2.1, .raw z8, .v aZ r.2.2.2])] [(2, .p dJ (r.1, r.2.1, ((eT r n k).1), r.2.2.2))] rfl (.cons rfl (.var m1 (.cons .same (.cons .same (.cons (.row m0) (.cons .same .nil))))) .nil) ?_; refine VC.perm iL ?_; refine VC.yP [(IQ, .row 4 .bool (eI r.2.2.1.length (tJ r n k)))] [(9, .v (.sl .bool) (eI r.2.2.1.length (tJ r n k)))] rfl (.cons rfl (.row m0) .nil) ?_; refine VC.text ?_; refine J.r (.ld fP) ?_; refine J.c (.move rfl) ?_; refine J.call rfl rfl (VF.call (E4 (by show (eT r n k).1.length < _; omega) (by rw [dE]; exact hfk.1.symm) NL)) ?_; refine J.c (.move rfl) ?_; refine J.perm iL ?_; refine J.lJ (cs' := [St r.1, I r.2.1, .v cL (gI (r.1, r.2.1, ((eT r n k).1), r.2.2.2) (eI r.2.2.1.length (tJ r n k)) eH (eI r.2.2.1.length (tJ r n k)).length), .v aZ (dQ (eI r.2.2.1.length (tJ r n k)) (eI r.2.2.1.length (tJ r n k)).length)]) fP .v ?_; refine J.c (.assign rfl) (J.c (.assign rfl) (J.go ?_)); refine VC.ret ?_; exact aW.three rfl (.cell (x := (r.1, r.2.1, gI (r.1, r.2.1, ((eT r n k).1), r.2.2.2) (eI r.2.2.1.length (tJ r n k)) eH (eI r.2.2.1.length (tJ r n k)).length, dQ (eI r.2.2.1.length (tJ r n k)) (eI r.2.2.1.length (tJ r n k)).length)) rfl m0 fP .refl) (L8 (.row m1)) bP (fF (by rw [hke, fQ, if_neg c2']; rfl)) (fF (by rw [hke, if_neg c2'])) (fB (by exact (Classical.not_not.1 c2).symm))
end Go.Proofs
namespace Go.Proofs
open Go.Fs Ieee
set_option maxHeartbeats 400000
structure aoN (r : aG) (S : List Int × List Bool) : Prop where
  l1 : S.1.length = r.2.2.1.length
  l2 : S.2.length = r.2.2.1.length
  at_ : ∀ i : Nat, i < r.2.2.1.length -> S.2.getD i false = (dP r i && decide (S.1.getD i 0 = 0))
theorem ah2 {x : Nat} (hv : bD x = 0) (h : tO x = false) : dB .neq .f32 0 x = false := by
  have h1 := gW hv; unfold tO at h; rw [(nB h1.1 Z2).2.1, decide_eq_false_iff_not] at h; rw [(nB Z2 h1.1).2.1]; exact decide_eq_false (by omega)
end Go.Proofs
namespace Go.Proofs
open Go.Fs
set_option maxHeartbeats 2000000
theorem tK : fU Tryz.prog 22 aZ := gM (by kernel_rfl)
end Go.Proofs
namespace Go.Proofs
open Go.Fs
set_option maxHeartbeats 2000000
theorem aaU {L : List (Int × Int)} {at_ : Int} {j : Nat} : ∀ (n k : Nat), L.length - k = n -> j <= k -> k <= L.length -> (∀ e ∈ (L.drop j).take (k - j), e.1 = at_) -> ∃ k', j <= k' /\ k' <= L.length /\ (∀ e ∈ (L.drop j).take (k' - j), e.1 = at_) /\ (¬ (0 : Int) < ((L.drop k').length : Nat) \/ ¬ ((L.drop k').getD 0 (0, 0)).1 = at_)
  | 0, k, hn, h1, h2, hg => ⟨k, h1, h2, hg, .inl (by rw [List.length_drop, hn]; decide)⟩
  | n + 1, k, hn, h1, h2, hg => by
    by_cases hc : ((L.drop k).getD 0 (0, 0)).1 = at_
    . have hk : k < L.length := by omega
      refine aaU n (k + 1) (by omega) (by omega) (by omega) fun e he => ?_; rw [Sp.YJ h1 hk] at he; rcases List.mem_append.1 he with h | h
      . exact hg e h
      obtain rfl := List.mem_singleton.1 h; rw [List.getD_eq_getElem?_getD, List.getElem?_drop, Nat.add_zero, List.getElem?_eq_getElem hk] at hc; exact hc
    exact ⟨k, h1, h2, hg, .inr hc⟩
theorem adE {a b : List (Int × Int)} {L : List (Int × Int)} {ch : Int -> Bool} (E : Sp.r9 a b L) (h0 : ch 0 = false) {n : Nat} (hn : 100001 <= n) : ∀ (m j : Nat) {st fr : Int} {o : List (Int × Int)} {v : Nat}, L.length - j = m -> j <= L.length -> Sp.mU ch L (L.drop j) st fr o v -> v <= 100001 -> o.length <= j -> (Sp.bG (fun t => ch (Sp.jY a b t)) n).2.length <= L.length := by
  intro m
  induction m using Nat.strongRecOn with
  | _ m ih =>
    intro j st fr o v hm hj I hv ho; rcases Nat.lt_or_ge j L.length with nH | nH
    . have hd : 0 < (L.drop j).length := by rw [List.length_drop]; omega
      obtain ⟨k, h1, h2, h3, h4⟩ := aaU (L := L) (at_ := (L.drop j)[0].1) (j := j) (L.length - j) j rfl (Nat.le_refl _) hj (by simp); obtain ⟨g1, g2, g3, g4, g5, g6⟩ := E.step I h0 hd rfl ⟨h1, h2⟩ h3 h4 rfl; refine ih (L.length - k) (by omega) k rfl h2 g2 (by omega) ?_; split
      . rw [List.length_append]; show o.length + 1 <= k; omega
      omega
    rw [<- E.last (n := n) I h0 nH (by omega)]; omega
theorem VW {ch : Bool × Bool × Bool × Bool} {a b : List (Int × Int)} (h : xR a b = 0) (h0 : ch.1 = false) : (wT ch a b).length <= 2 * a.length + 2 * b.length := by
  rw [FT h, <- YL]; have E := acM h; exact adE (ch := HO ch) E h0 (n := mT) (Nat.le_of_eq LV.symm) _ 0 rfl (Nat.zero_le _) (Sp.mU.init (fr := 0) h0 fun e he => (E.bnd e he).1) (by omega) (Nat.le_refl _)
theorem GH {l : List (Int × Int)} (h : Sp.Canon 100000 l) (hn : l.length <= 2048) : iN l = 0 := by
  unfold iN; rw [if_neg (by omega)]; unfold qU; rw [cH]; intro x hx; obtain ⟨j, hj, rfl⟩ := List.mem_map.1 hx; rw [List.mem_range'_1] at hj
  have nH : j < l.length := by omega
  unfold lC; rw [cH]; intro y hy; simp only [List.mem_cons, List.not_mem_nil, or_false] at hy; rcases hy with rfl | rfl
  . rw [fJ nH]; exact HS.2 (h.1 _ (List.getElem_mem nH))
  rw [kZ (by decide)]; rcases Nat.eq_zero_or_pos j with h1 | h1
  . subst h1; rfl
  rw [decide_eq_true (show (0 : Int) < (j : Int) by omega), Bool.true_and, decide_eq_false_iff_not, fJ nH, fJ (show j - 1 < l.length by omega)]; have := List.pairwise_iff_getElem.1 h.2 (j - 1) j (by omega) nH (by omega); omega
theorem HY {ch : Bool × Bool × Bool × Bool} {a b : List (Int × Int)} (h : xR a b = 0) : Sp.Canon 100000 (wT ch a b) := by
  rw [FT h]; have h1 := (Sp.HJ (p := fun t => HO ch (Sp.jY a b t)) (n := mT)).1; rw [LV] at h1 ⊢; exact h1
theorem MJ {l : List (Int × Int)} (h : Sp.Canon 100000 l) {t : Int} (ht : t < 0 \/ 100000 <= t) : Sp.bE l t = false := by
  unfold Sp.bE; rw [List.any_eq_false]; intro s hs; have := h.1 s hs; simp; omega
theorem P8 {a b : List (Int × Int)} (ha : Sp.Canon 100000 a) (hb : Sp.Canon 100000 b) {t : Int} (ht : t < 0 \/ 100000 <= t) : Sp.jY a b t = 0 := by
  unfold Sp.jY; rw [MJ ha ht, MJ hb ht] <;> rfl
theorem adF {ch : Bool × Bool × Bool × Bool} {a b : List (Int × Int)} (h : xR a b = 0) (h0 : ch.1 = false) (t : Int) : Sp.bE (wT ch a b) t = HO ch (Sp.jY a b t) := by
  have ha := (jU (tF.1 h).1).1; have hb := (jU (tF.1 h).2).1; by_cases ht : t < 0 \/ 100000 <= t
  . rw [MJ (HY h) ht, P8 ha hb ht]; exact h0.symm
  have e : mT = 100000 + 1 := LV; rw [FT h, e, Bool.eq_iff_iff, Sp.acH (by show HO ch (Sp.jY a b _) = false; rw [P8 ha hb (.inr (by omega))]; exact h0) (by omega)]; exact ⟨fun h => h.2, fun h => ⟨by omega, h⟩⟩
theorem adG {a b : List (Int × Int)} (h : xR a b = 0) (t : Int) : (Sp.bE (wT (false, false, false, true) a b) t != (Sp.bE a t && Sp.bE b t)) = false := by
  rw [adF h rfl]; unfold Sp.jY; cases Sp.bE a t <;> cases Sp.bE b t <;> rfl
end Go.Proofs
namespace Go.Proofs
open Go.Fs Ieee
set_option maxHeartbeats 400000
theorem J6 {r : aG} (h1 : nL r.1 = true) (h2 : 0 <= r.2.1 /\ r.2.1 <= 100000) (h3 : r.2.2.1.length <= 4096) (h4 : ∀ x ∈ r.2.2.1, bD x = 0) (h5 : Sp.Canon (r.2.2.1.length : Nat) r.2.2.2) (h6 : r.2.2.2.length <= 2048) (h7 : LY r = false) : cM r = 0 := by
  have a1 : BT r = 0 := cH.2 fun x hx => by
    simp only [List.mem_cons, List.not_mem_nil, or_false] at hx; rcases hx with rfl | rfl | rfl
    . rw [h1] <;> rfl
    . exact x5.2 h2
    exact (kZ (by decide)).2 (decide_eq_false (by omega))
  have a2 : rL r = 0 := rA.2 ⟨cH.2 fun x hx => by
    obtain ⟨y, hy, rfl⟩ := List.mem_map.1 hx
    exact h4 y hy, GH ⟨fun s hs => by have := h5.1 s hs; omega, h5.2⟩ h6⟩
  have a3 : P0 r = false := List.any_eq_false.2 fun s hs => by
    have := h5.1 s hs; simp only [decide_eq_true_eq]; omega
  unfold cM; rw [if_neg (fun h => h a1), if_neg (fun h => h a2), a3, if_neg (by decide), h7] <;> rfl
abbrev MK (r : aG) (l : List Bool) : aG := (r.1, r.2.1, gI r l eH l.length, dQ l l.length)
theorem adH {r : aG} {l : List Bool} {n : Nat} (hv : ∀ x ∈ r.2.2.1, bD x = 0) : ∀ x ∈ gI r l eH n, bD x = 0 := fun x hx => by
  obtain ⟨j, _, rfl⟩ := List.mem_map.1 hx; split
  . exact (sJ (GC hv)).2.1
  decide +kernel
theorem nz0 : tO 0 = false := by decide +kernel
end Go.Proofs
namespace Go.Proofs
open Go.Fs Ieee
set_option maxHeartbeats 2000000
theorem adI {r : aG} (h : cM r = 0) : tG (MK r (aP r)) r = true := by
  have hr := dO h; have hc := iE h
  have hs : pP (gI r (aP r) eH (aP r).length) r.2.2.1 = true := by
    refine decide_eq_true ⟨mY, fun i hi => ?_⟩; rw [mY] at hi; rw [fK (by rw [mY]; exact hi), fK hi, A4 hi]; have h1 := hr.2.2.2.1 _ (List.getElem_mem hi); have h2 := gW h1; by_cases FE : i < (aP r).length /\ (aP r).getD i false = true
    . rw [if_pos FE, fK hi]; have h3 := sJ h1; rw [(nB (h3.2.2.trans h2.1) h2.1).2.1]; exact decide_eq_false (by simp)
    rw [if_neg FE]; refine ah2 h1 ?_
    have bO : i < (aP r).length := by rw [l4]; exact hi
    have h4 : (aP r).getD i false = !Sp.bE r.2.2.2 (i : Int) := by rw [fK bO, qK hi bO, pQ hi]
    cases nO : Sp.bE r.2.2.2 (i : Int) with
    | false => rw [nO] at h4; exact absurd ⟨bO, h4⟩ FE
    | true =>
      cases hz : tO r.2.2.1[i] with
      | false => rfl
      | true => exact absurd (J4 (fun s hs => ⟨(hr.2.2.2.2 s hs).1, by have := (hr.2.2.2.2 s hs).2.1; omega, (hr.2.2.2.2 s hs).2.2⟩) hi hz nO) (by rw [hc.2.1]; decide)
  unfold tG; show (decide (r.1 = r.1) && decide (r.2.1 = r.2.1) && pP (gI r (aP r) eH (aP r).length) r.2.2.1 && decide (dQ (aP r) (aP r).length = r.2.2.2)) = true; rw [hs, decide_eq_true rfl, decide_eq_true rfl, decide_eq_true (adB h)] <;> rfl
end Go.Proofs
namespace Ieee
end Ieee
namespace Go.Proofs
open Go.Fs Ieee
set_option maxHeartbeats 400000
structure LhI (T : List Int) (S : Nat × Nat × Nat) : Prop where
  n : S.1 = T.length
  lo : bD S.2.1 = 0
  hi : bD S.2.2 = 0
  mem : T ≠ [] -> (bK S.2.1 ∈ T /\ ∀ y ∈ T, bK S.2.1 <= y) /\ (bK S.2.2 ∈ T /\ ∀ y ∈ T, y <= bK S.2.2)
end Go.Proofs
namespace Go.Fs
variable {P : Program} {fl : VL} {σ : aR} {x : Operand} {T : TypeId}
theorem aI.ao1 {k : FloatKind} {p : Nat} (hx : aS fl x = some (.v (.aO k) p) := by rfl) : aI P fl σ (.unOp .neg T x) (.v (.aO k) (Op.negFloat k p)) :=
  .un hx fun h S a ha => by
    obtain rfl := aE.aO ha; exact ⟨.float k (Op.negFloat k p), aE.uM _ _, rfl, rfl⟩
end Go.Fs
namespace Go.Proofs
open Go.Fs Ieee
set_option maxHeartbeats 2000000
@[simp] theorem ao9 {l : zE} {t : Int} {i : Nat} : dvK l t i 0 2 = Z6 l t 0 (i + 1) := rfl
@[simp] theorem aoA {l : zE} {t : Int} {i : Nat} : dvK l t i 1 2 = Z6 l t 1 (i + 1) := rfl
@[simp] theorem aoB {l : zE} {t : Int} {i : Nat} : dvK l t i 2 2 = Z6 l t 2 (i + 1) := rfl
end Go.Proofs
namespace Go.Proofs
open Go.Fs Ieee
set_option maxHeartbeats 400000
theorem ZH {r : aG} {l : List Bool} (KD : nL r.1 = true) (hs : 0 <= r.2.1 /\ r.2.1 <= 100000) (hv : ∀ x ∈ r.2.2.1, bD x = 0) (hl : l.length = r.2.2.1.length) (hn : l.length <= 2048) : cM (MK r l) = 0 := by
  have hk : (gI r l eH l.length).length = l.length := by rw [mY, hl]
  have hg := uA (l := l) l.length; have uY := M6 l l.length; refine J6 KD hs (by show (gI _ _ _ _).length <= _; omega) (adH hv) (by show Sp.Canon ((gI _ _ _ _).length : Nat) _; rw [hk]; exact hg) (by show (dQ _ _).length <= _; omega) ?_; refine E0 (r := MK r l) (fun i hi hh => ?_) fun s hs => ?_
  . have hi : i < (gI r l eH l.length).length := hi; have h2 : Sp.bE (dQ l l.length) (i : Int) = true := hh.2; have h3 := ((E7 l.length).1 h2).2.2; rw [Int.toNat_natCast] at h3; have h4 : tO ((gI r l eH l.length)[i]) = true := hh.1; rw [A4 (by omega), if_neg (fun hc => by rw [h3] at hc; exact absurd hc.2 (by decide)), nz0] at h4; cases h4
  have := hg.1 s hs; show 0 <= s.1 /\ s.1 <= s.2 /\ s.2 <= ((gI r l eH l.length).length : Nat); omega
def o5 (r : aG) (n : Int) : List (Int × Int) := (eT r n r.2.2.2.length).2.2
theorem P9 {r : aG} {n : Int} {g : Int × Int} : ∀ k : Nat, k <= r.2.2.2.length -> (g ∈ (eT r n k).2.2 ↔ g ∈ r.2.2.2.take k /\ ¬ tI n g)
  | 0, _ => ⟨fun h => (by cases h), fun h => (by rw [List.take_zero] at h; cases h.1)⟩
  | k + 1, hk => by
    have ih := P9 (r := r) (n := n) (g := g) k (by omega); rw [xA (by omega), List.take_succ_eq_append_getElem (by omega), List.mem_append, List.mem_singleton]; by_cases hf : tI n r.2.2.2[k]
    . rw [A7 hf]; show g ∈ (eT r n k).2.2 ↔ _; rw [ih]; exact ⟨fun h => ⟨.inl h.1, h.2⟩, fun h => ⟨h.1.elim id (fun e => absurd hf (e ▸ h.2)), h.2⟩⟩
    rw [xC hf]; show g ∈ (eT r n k).2.2 ++ [r.2.2.2[k]] ↔ _; rw [List.mem_append, List.mem_singleton, ih]; exact ⟨fun h => h.elim (fun h => ⟨.inl h.1, h.2⟩) (fun e => ⟨.inr e, e ▸ hf⟩), fun h => h.1.elim (fun h1 => .inl ⟨h1, h.2⟩) .inr⟩
theorem A8 {r : aG} {n : Int} {g : Int × Int} : g ∈ o5 r n ↔ g ∈ r.2.2.2 /\ ¬ tI n g := by
  have h := P9 (r := r) (n := n) (g := g) r.2.2.2.length (Nat.le_refl _); rw [List.take_length] at h; exact h
theorem iO {a : List (Int × Int)} {t : Int} : Sp.bE a t = true ↔ ∃ g ∈ a, g.1 <= t /\ t < g.2 := by
  induction a with
  | nil => exact ⟨fun h => (by cases h), fun ⟨_, h, _⟩ => (by cases h)⟩
  | cons s a ih =>
    rw [zH, ih]; exact ⟨fun h => h.elim (fun h => ⟨s, List.mem_cons_self, h⟩) (fun ⟨g, hg, h⟩ => ⟨g, List.mem_cons_of_mem _ hg, h⟩), fun ⟨g, hg, h⟩ => (List.mem_cons.1 hg).elim (fun e => .inl (e ▸ h)) (fun hg => .inr ⟨g, hg, h⟩)⟩
theorem ZI {m : Int} {G : List (Int × Int)} {t : Int} (h : Sp.Canon m G) {g g' : Int × Int} (hg : g ∈ G) (gD : g' ∈ G) (h1 : g.1 <= t /\ t < g.2) (h2 : g'.1 <= t /\ t < g'.2) : g = g' := by
  obtain ⟨i, hi, rfl⟩ := List.mem_iff_getElem.1 hg; obtain ⟨j, hj, rfl⟩ := List.mem_iff_getElem.1 gD; rcases Nat.lt_trichotomy i j with e | e | e
  . have := List.pairwise_iff_getElem.1 h.2 i j hi hj e; omega
  . subst e; rfl
  have := List.pairwise_iff_getElem.1 h.2 j i hj hi e; omega
theorem RK {m : Int} {G : List (Int × Int)} (h : Sp.Canon m G) {g : Int × Int} (hg : g ∈ G) : Sp.bE G (g.1 - 1) = false := by
  cases nO : Sp.bE G (g.1 - 1) with
  | false => rfl
  | true =>
    obtain ⟨g', gD, h1, h2⟩ := iO.1 nO; have hb := h.1 g hg; obtain ⟨i, hi, rfl⟩ := List.mem_iff_getElem.1 hg; obtain ⟨j, hj, rfl⟩ := List.mem_iff_getElem.1 gD; rcases Nat.lt_trichotomy i j with e | e | e
    . have := List.pairwise_iff_getElem.1 h.2 i j hi hj e; omega
    . subst e; omega
    have := List.pairwise_iff_getElem.1 h.2 j i hj hi e; omega
theorem ML {r : aG} {n t : Int} : ∀ k : Nat, k <= r.2.2.2.length -> tJ r n k t = (Sp.bE r.2.2.2 t && !Sp.bE (eT r n k).2.2 t)
  | 0, _ => by show Sp.bE r.2.2.2 t = _; rw [show (eT r n 0).2.2 = [] from rfl]; exact (Bool.and_true _).symm
  | k + 1, hk => by
    have ih := ML (r := r) (n := n) (t := t) k (by omega); show (if tI n (jF r.2.2.2 k) then _ else _) = _; rw [fJ (by omega), xA (by omega)]; by_cases hf : tI n r.2.2.2[k]
    . rw [if_pos hf, A7 hf]; exact ih
    rw [if_neg hf, xC hf, ih]; show _ = (Sp.bE r.2.2.2 t && !Sp.bE ((eT r n k).2.2 ++ [r.2.2.2[k]]) t)
    have e : Sp.bE ((eT r n k).2.2 ++ [r.2.2.2[k]]) t = (Sp.bE (eT r n k).2.2 t || (decide ((r.2.2.2[k]).1 <= t) && decide (t < (r.2.2.2[k]).2))) := by
      rw [Bool.eq_iff_iff, Bool.or_eq_true, Bool.and_eq_true, decide_eq_true_eq, decide_eq_true_eq, iO, iO]; exact ⟨fun ⟨g, hg, h⟩ => (List.mem_append.1 hg).elim (fun hg => .inl ⟨g, hg, h⟩) (fun hg => .inr (List.mem_singleton.1 hg ▸ h)), fun h => h.elim (fun ⟨g, hg, h⟩ => ⟨g, List.mem_append_left _ hg, h⟩) (fun h => ⟨_, List.mem_append_right _ (List.mem_singleton.2 rfl), h⟩)⟩
    rw [e, Bool.not_or, Bool.and_assoc]
theorem GI {r : aG} {n : Int} {j : Nat} {g : Int × Int} (hp : r.2.2.2.Pairwise fun s u => s.2 < u.1) (hj : j < r.2.2.1.length) (hf : ¬ tI n g) (h : g.1 <= (j : Int) /\ (j : Int) < g.2) : ∀ k : Nat, k <= r.2.2.2.length -> g ∈ r.2.2.2.take k -> (eT r n k).1.getD j 0 = r.2.2.1.getD (g.1 - 1).toNat 0
  | 0, _, hg => by rw [List.take_zero] at hg; cases hg
  | k + 1, hk, hg => by
    have hl := (qM (r := r) (n := n) k (by omega)).1; rw [List.take_succ_eq_append_getElem (by omega), List.mem_append, List.mem_singleton] at hg; rw [xA (by omega)]; rcases hg with hg | hg
    . have ih := GI (n := n) hp hj hf h k (by omega) hg
      have bO : g.2 < (r.2.2.2[k]).1 := by
        obtain ⟨i, hi, rfl⟩ := List.mem_iff_getElem.1 hg; rw [List.length_take] at hi; rw [List.getElem_take]; exact List.pairwise_iff_getElem.1 hp i k (by omega) (by omega) (by omega)
      by_cases yE : tI n r.2.2.2[k]
      . rw [A7 yE]; exact ih
      rw [xC yE]; show (oS _ _ _ _).getD j 0 = _; rw [GD (fun hh => by omega)]; exact ih
    rw [<- hg, xC hf]; show (oS _ _ _ _).getD j 0 = _; exact VU (by omega) ⟨h.1, by omega⟩
theorem MM {r : aG} {n : Int} {j k : Nat} (hk : k <= r.2.2.2.length) (h : Sp.bE r.2.2.2 (j : Int) = false) : (eT r n k).1.getD j 0 = r.2.2.1.getD j 0 :=
  GF k hk fun i hi _ hh => by rw [iO.2 ⟨_, List.getElem_mem hi, hh⟩] at h; cases h
theorem aiY {r : aG} {n : Int} (h : cM r = 0) (hn : 0 <= n /\ n <= 4096) : uB r n = 0 := cH.2 fun x hx => by
  simp only [List.mem_cons, List.not_mem_nil, or_false] at hx; rcases hx with rfl | rfl
  . exact h
  exact x5.2 hn
theorem MN {r : aG} {n : Int} (h : uB r n = 0) : fQ r n = MK (aaT r n) (BY r n) := if_neg (fun hh => hh h)
theorem A9 {r : aG} {n : Int} : (aaT r n).2.2.1.length = r.2.2.1.length := (qM _ (Nat.le_refl _)).1
theorem ah3 {r : aG} {n : Int} (h : cM r = 0) (hc : uB r n = 0) (hl : r.2.2.1.length <= 2048) : cM (fQ r n) = 0 /\ (fQ r n).2.2.1.length = r.2.2.1.length := by
  have hr := dO h; rw [MN hc]; refine ⟨ZH (iE h).2.2 hr.1 (GG hr.2.2.2.1 _ (Nat.le_refl _)) ?_ ?_, ?_⟩
  . rw [A9, zI]
  . rw [zI]; exact hl
  show (gI _ _ _ _).length = _; rw [mY, A9]
theorem xD {r : aG} {n : Int} {i : Nat} (hc : uB r n = 0) (hi : i < r.2.2.1.length) : Sp.bE (fQ r n).2.2.2 (i : Int) = (Sp.bE r.2.2.2 (i : Int) && !Sp.bE (o5 r n) (i : Int)) := by
  rw [MN hc]; show Sp.bE (dQ (BY r n) (BY r n).length) (i : Int) = _; have h3 := E7 (l := BY r n) (t := (i : Int)) (BY r n).length; rw [Int.toNat_natCast, zI] at h3; rw [zI]; have e : (BY r n).getD i false = !tJ r n r.2.2.2.length (i : Int) := xB hi; rw [e, ML _ (Nat.le_refl _)] at h3; rw [Bool.eq_iff_iff, h3]; show (0 <= (i : Int) /\ (i : Int) < (r.2.2.1.length : Nat) /\ (!(Sp.bE r.2.2.2 (i : Int) && !Sp.bE (o5 r n) (i : Int))) = false) ↔ _; rw [Bool.not_eq_false']; exact ⟨fun h => h.2.2, fun h => ⟨by omega, by omega, h⟩⟩
theorem PA {r : aG} {n t : Int} (h : Sp.bE (o5 r n) t = true) : Sp.bE r.2.2.2 t = true := by
  obtain ⟨g, hg, h⟩ := iO.1 h; exact iO.2 ⟨g, (A8.1 hg).1, h⟩
theorem adJ {r : aG} {n : Int} (h : cM r = 0) (hc : uB r n = 0) {g : Int × Int} (hg : g ∈ r.2.2.2) : Sp.bE (fQ r n).2.2.2 g.1 = decide (tI n g) := by
  have BI := (iE h).1; have hb := BI.1 g hg; have e := xD (i := g.1.toNat) hc (by omega); rw [Int.toNat_of_nonneg hb.1] at e; rw [e, iO.2 ⟨g, hg, Int.le_refl _, hb.2.1⟩, Bool.true_and]; by_cases hf : tI n g
  . rw [decide_eq_true hf]
    cases hi : Sp.bE (o5 r n) g.1 with
    | false => rfl
    | true =>
      obtain ⟨g', gD, h1⟩ := iO.1 hi; have h2 := A8.1 gD; exact absurd (ZI BI hg h2.1 ⟨Int.le_refl _, hb.2.1⟩ h1 ▸ hf) h2.2
  rw [decide_eq_false hf, iO.2 ⟨g, A8.2 ⟨hg, hf⟩, Int.le_refl _, hb.2.1⟩] <;> rfl
theorem E8 {r : aG} {n : Int} {i : Nat} (h : cM r = 0) (hc : uB r n = 0) (hi : i < r.2.2.1.length) (hh : Sp.bE (fQ r n).2.2.2 (i : Int) = false) : (fQ r n).2.2.1.getD i 0 = eH ((eT r n r.2.2.2.length).1.getD i 0) := by
  have e : (BY r n).getD i false = true := by
    have e1 : (BY r n).getD i false = !tJ r n r.2.2.2.length (i : Int) := xB hi; rw [e1, ML _ (Nat.le_refl _)]; rw [xD hc hi] at hh; show (!(Sp.bE r.2.2.2 (i : Int) && !Sp.bE (o5 r n) (i : Int))) = true; rw [hh] <;> rfl
  rw [MN hc]; show (gI (aaT r n) (BY r n) eH (BY r n).length).getD i 0 = _; rw [fK (by rw [mY, A9]; exact hi), A4 (by rw [A9]; exact hi), if_pos ⟨by rw [zI]; exact hi, e⟩] <;> rfl
theorem ah4 {r : aG} {n : Int} {i : Nat} (h : cM r = 0) (hc : uB r n = 0) (hi : i < r.2.2.1.length) (hg : Sp.bE r.2.2.2 (i : Int) = false) : bK ((fQ r n).2.2.1.getD i 0) = bK (r.2.2.1.getD i 0) := by
  rw [E8 h hc hi (by rw [xD hc hi, hg]; rfl), MM (Nat.le_refl _) hg]; exact (ME (GC (dO h).2.2.2.1)).2
theorem ah5 {r : aG} {n : Int} {i : Nat} (h : cM r = 0) (hc : uB r n = 0) (hi : i < r.2.2.1.length) (hs : Sp.bE (o5 r n) (i : Int) = true) : 0 < i /\ (fQ r n).2.2.1.getD i 0 = (fQ r n).2.2.1.getD (i - 1) 0 := by
  have BI := (iE h).1; obtain ⟨g, hg, h1, h2⟩ := iO.1 hs; obtain ⟨hgG, hf⟩ := A8.1 hg; have hb := BI.1 g hgG
  have h0 : 0 < g.1 := by
    have : ¬ g.1 = 0 := fun e => hf (.inl e); omega
  have hi0 : 0 < i := by omega
  refine ⟨hi0, ?_⟩; have hG := PA hs; rw [E8 h hc hi (by rw [xD hc hi, hs, Bool.not_true, Bool.and_false]), GI BI.2 hi hf ⟨h1, h2⟩ _ (Nat.le_refl _) (by rw [List.take_length]; exact hgG)]; by_cases e : (i : Int) = g.1
  . have cA : Sp.bE r.2.2.2 ((i - 1 : Nat) : Int) = false := by
      have := RK BI hgG; rw [show ((i - 1 : Nat) : Int) = g.1 - 1 by omega]; exact this
    rw [E8 h hc (by omega) (by rw [xD hc (by omega), cA]; rfl), MM (Nat.le_refl _) cA, show (g.1 - 1).toNat = i - 1 by omega]
  have wL : Sp.bE (o5 r n) ((i - 1 : Nat) : Int) = true := iO.2 ⟨g, hg, by omega, by omega⟩; rw [E8 h hc (by omega) (by rw [xD hc (by omega), wL, Bool.not_true, Bool.and_false]), GI BI.2 (by omega) hf ⟨by omega, by omega⟩ _ (Nat.le_refl _) (by rw [List.take_length]; exact hgG)]
end Go.Proofs
namespace Ieee
theorem ah6 (x w : Nat) : (x ^^^ 2 ^ w) % 2 ^ w = x % 2 ^ w := by
  refine Nat.eq_of_testBit_eq fun i => ?_; rw [Nat.testBit_mod_two_pow, Nat.testBit_mod_two_pow, Nat.testBit_xor, Nat.testBit_two_pow]; by_cases h : i < w
  . rw [decide_eq_true h, decide_eq_false (show ¬ w = i by omega), Bool.xor_false]
  rw [decide_eq_false h, Bool.false_and, Bool.false_and]
theorem adK (x w : Nat) : ((x ^^^ 2 ^ w) / 2 ^ w % 2 == 1) = !(x / 2 ^ w % 2 == 1) := by
  have h := Nat.testBit_xor x (2 ^ w) w; rw [Nat.testBit_two_pow, decide_eq_true rfl, Bool.xor_true, Nat.testBit_eq_decide_div_mod_eq, Nat.testBit_eq_decide_div_mod_eq] at h; rw [show ((x ^^^ 2 ^ w) / 2 ^ w % 2 == 1) = decide ((x ^^^ 2 ^ w) / 2 ^ w % 2 = 1) from rfl, h]; rfl
theorem aiZ (s : Bool) (r : Nat) : sg (!s) r = -sg s r := by unfold sg; cases s <;> simp
theorem Format.adL (f : Format) (x : Nat) : f.read (x ^^^ f.signWeight) = (f.read x).opposite := by
  have h1 : (x ^^^ f.signWeight) % f.signWeight = x % f.signWeight := ah6 x _; have h2 : ((x ^^^ f.signWeight) / f.signWeight % 2 == 1) = !(x / f.signWeight % 2 == 1) := adK x _; unfold Format.read; dsimp only; rw [h1, h2]; split
  . rfl
  split
  . rfl
  split <;> rfl
theorem Format.ZJ (f : Format) {x : Nat} {u : Int} (h : f.cW x = some u) : f.cW (x ^^^ f.signWeight) = some (-u) := by
  obtain ⟨s, m, p, hr, _, rfl⟩ := Format.eB h; unfold Format.cW; rw [f.adL, hr]; show some (sg (!s) _) = _; rw [aiZ]
def MO (x : Nat) : Nat := x ^^^ 2 ^ (single.exponentBits + single.fractionBits)
theorem E9 {x : Nat} (h : bD x = 0) : bD (MO x) = 0 /\ bK (MO x) = -bK x := by
  have h1 := gW h; have h2 : u32 (MO x) = some (-(bK x * 44601490397061246283071436545296723011960832)) := single.ZJ h1.1; refine QV (h2.trans (congrArg some ?_)) (by omega) (by omega); rw [Int.neg_mul]
end Ieee
namespace Go.Proofs
open Go.Fs Ieee
set_option maxHeartbeats 400000
def kY (l : List (Int × Int)) : Nat -> Int
  | 0 => 0
  | k + 1 => kY l k + (jF l k).2 - (jF l k).1
theorem aaV {l : List (Int × Int)} (hs : ∀ s ∈ l, 0 <= s.1 /\ s.1 < s.2 /\ s.2 <= 100000) : ∀ k : Nat, k <= l.length -> 0 <= kY l k /\ kY l k <= 100000 * (k : Int)
  | 0, _ => ⟨Int.le_refl _, Int.le_refl _⟩
  | k + 1, h => by
    have ih := aaV hs k (by omega); have hk : k < l.length := h; have := hs _ (List.getElem_mem hk); show 0 <= kY l k + (jF l k).2 - (jF l k).1 /\ kY l k + (jF l k).2 - (jF l k).1 <= _; rw [fJ hk]; omega
theorem ZK {l : List (Int × Int)} (hl : l.length < 1000000) (hs : ∀ s ∈ l, 0 <= s.1 /\ s.1 < s.2 /\ s.2 <= 100000) : VF Tryz.prog OA 71 [.v aZ l] (I (kY l l.length)) := by
  refine VF.enter Tryz.func71 rfl (fun _ _ => rfl) rfl ?_; show VC _ _ _ _ _ [(0, .v aZ l)] [] _; refine VC.seq (VC.text ?_); refine J.c (.assign rfl) ?_; refine J.go (VC.seq (VC.text ?_)); refine J.c (.assign rfl) ?_; refine J.go (VC.seq (VC.seq (VC.text ?_))); refine J.c (.assign rfl) ?_; refine J.go (VC.block ?_); refine VC.aV [(0, .v aZ l), (3, I (kY l 0)), (4, I ((0 : Nat) : Int))] ⟨rfl, rfl, rfl, trivial⟩ ?_; refine VC.loop (I := fun kk ff ss => ∃ (i : Nat), kk = l.length - i /\ ff = [(0, .v aZ l), (3, I (kY l i)), (4, I ((i : Nat) : Int))] /\ ss = [] /\ (i <= l.length)) ?_ _ _ _ ⟨0, rfl, rfl, rfl, Nat.zero_le _⟩; rintro kk ff ss ⟨i, kJ, rfl, rfl, hi⟩; refine VC.seq (VC.seq (VC.text ?_)); refine J.c (.move rfl) (J.c (.move rfl) ?_); refine J.r (.len cD) ?_; refine J.c (.lss) (J.go ?_); refine VC.aX rfl (fun c3 => ?_) (fun c3 => ?_)
  . have nZ : i < l.length := by omega
    have hb := aaV hs i (by omega); have hsi := hs _ (List.getElem_mem nZ)
    have hte : kY l (i + 1) = kY l i + (l[i]).2 - (l[i]).1 := by show _ + (jF l i).2 - (jF l i).1 = _; rw [fJ nZ]
    refine VC.skip (VC.seq (VC.block (VC.drawn ?_))); refine VD.c (.move rfl) (VD.c (.move rfl) (VD.c (.move rfl) (VD.c (.ix (j := i) rfl rfl cD (by omega)) ?_))); refine VD.c (.fa (.r .o)) ?_; refine VD.r [] (.ld cQ) (.inl rfl) ?_; refine VD.nw [] (VD.c (.add rfl rfl (by omega)) (VD.c (.move rfl) (VD.c (.move rfl) ?_))); refine VD.c (.ix (j := i) rfl rfl cD (by omega)) (VD.c (.fa (.l .o)) ?_); refine VD.r [] (.ld cQ) (.inl rfl) ?_; refine VD.c (.sub rfl rfl (by omega)) (VD.nw [] (VD.c (.assign rfl) ?_)); refine VD.nil ?_; refine VC.text ?_; refine J.c (.move rfl) (J.c (.add rfl rfl (by omega)) (J.c (.assign rfl) ?_)); refine J.nil ?_; refine ⟨_, [(0, .v aZ l), (3, I (kY l (i + 1))), (4, I (((i + 1) : Nat) : Int))], ?_, ⟨rfl, vH rfl (by rw [hte]), rfl, trivial⟩, (i + 1), rfl, rfl, rfl, (by omega)⟩; omega
  refine VC.exit (VC.seq (VC.text ?_)); refine J.c (.move rfl) (J.c (.assign rfl) (J.go ?_)); refine VC.ret ?_; exact aW.one rfl bP (fB (by rw [show i = l.length by omega]))
def B5 (a b : Int) : List (Int × Int) := if b <= a then [] else [(a, b)]
theorem HZ {a : Int} {b : Int} : VF Tryz.prog OA 72 [I a, I b] (.v aZ (B5 a b)) := by
  refine VF.enter Tryz.func72 rfl (fun _ _ => rfl) rfl ?_; show VC _ _ _ _ _ [(0, I a), (1, I b)] [] _; refine VC.seq (VC.text ?_); refine J.c (.assign rfl) ?_; refine J.go (VC.seq (VC.seq (VC.text ?_))); refine J.c (.move rfl) (J.c (.move rfl) (J.c (.geq) (J.go ?_))); refine VC.aX rfl (fun c1 => ?_) (fun c1 => ?_)
  . refine VC.seq (VC.text ?_); refine J.c (.assign rfl) (J.go ?_); refine VC.ret ?_; exact aW.one rfl (L8 .nil) (fF (by exact (if_pos c1).symm))
  refine VC.skip (VC.seq (VC.text ?_)); refine J.c (.move rfl) (J.c (.move rfl) (J.c (.build (a, b) UI) ?_)); refine J.new (.lit [(a, b)] cD) ?_; refine J.c (.assign rfl) (J.go ?_); refine VC.ret ?_; exact aW.one rfl bP (fF (by exact (if_neg c1).symm))
theorem tL {a b : Int} (ha : 0 <= a) (hb : b <= 100000) : Sp.Canon 100000 (B5 a b) /\ (B5 a b).length <= 1 := by
  unfold B5; split
  . exact ⟨⟨fun s hs => (by cases hs), List.Pairwise.nil⟩, Nat.zero_le _⟩
  exact ⟨⟨fun s hs => by rw [List.mem_singleton.1 hs]; exact ⟨ha, by show a < b; omega, hb⟩, List.pairwise_singleton _ _⟩, Nat.le_refl _⟩
theorem aj0 {a b t : Int} : Sp.bE (B5 a b) t = (decide (a <= t) && decide (t < b)) := by
  rw [Bool.eq_iff_iff, Bool.and_eq_true, decide_eq_true_eq, decide_eq_true_eq, iO]; unfold B5; split
  . exact ⟨fun ⟨g, hg, _⟩ => (by cases hg), fun h => by omega⟩
  exact ⟨fun ⟨g, hg, h⟩ => (by rw [List.mem_singleton.1 hg] at h; exact h), fun h => ⟨_, List.mem_singleton.2 rfl, h⟩⟩
noncomputable def mE (G : List (Int × Int)) (a b : Int) : List (Int × Int) := FU [3] G (B5 a b)
theorem VX {n m : Int} {G : List (Int × Int)} (h : Sp.Canon n G) (hn : n <= m) : Sp.Canon m G := ⟨fun s hs => by have := h.1 s hs; omega, h.2⟩
theorem adM {n m : Int} {G : List (Int × Int)} (h : Sp.Canon n G) (hm : ∀ t : Int, Sp.bE G t = true -> t < m) : Sp.Canon m G := ⟨fun s hs => by
  have h1 := h.1 s hs; have := hm (s.2 - 1) (iO.2 ⟨s, hs, by omega, by omega⟩)
  omega, h.2⟩
theorem GJ {G : List (Int × Int)} {a b : Int} (hG : Sp.Canon 100000 G) (hl : G.length <= 8) (ha : 0 <= a) (hb : b <= 100000) : Sp.Canon 100000 (mE G a b) /\ (∀ t, Sp.bE (mE G a b) t = (Sp.bE G t && (decide (a <= t) && decide (t < b)))) /\ (mE G a b).length <= 18 := by
  obtain ⟨hc, sN⟩ := tL ha hb; have aaW : xR G (B5 a b) = 0 := tF.2 ⟨GH hG (by omega), GH hc (by omega)⟩
  have e : mE G a b = wT (false, false, false, true) G (B5 a b) := by rw [YN, aiL aaW] <;> rfl
  refine ⟨e ▸ HY aaW, fun t => ?_, ?_⟩
  . have h := adG aaW t; rw [<- e, aj0] at h; simpa using h
  have := VW (ch := (false, false, false, true)) aaW rfl; rw [e]; omega
noncomputable def aF (r : aG) (k : Nat) : aG := (r.1, r.2.1, r.2.2.1.take k, mE r.2.2.2 0 (k : Int))
noncomputable def b9 (r : aG) (k : Nat) : aG := (r.1, r.2.1 + (k : Int), r.2.2.1.drop k, (mE r.2.2.2 (k : Int) (r.2.2.1.length : Nat)).map fun s => (s.1 - (k : Int), s.2 - (k : Int)))
theorem adN {G : List (Int × Int)} {k t : Int} : Sp.bE (G.map fun s => (s.1 - k, s.2 - k)) t = Sp.bE G (t + k) := by
  rw [Bool.eq_iff_iff, iO, iO]; constructor
  . rintro ⟨g, hg, h⟩; obtain ⟨s, hs, rfl⟩ := List.mem_map.1 hg; have h : s.1 - k <= t /\ t < s.2 - k := h; exact ⟨s, hs, by omega, by omega⟩
  rintro ⟨s, hs, h⟩; exact ⟨_, List.mem_map_of_mem hs, by show s.1 - k <= t; omega, by show t < s.2 - k; omega⟩
structure oT (r : aG) (k : Nat) : Prop where
  ok : cM r = 0
  k : k <= r.2.2.1.length
  n : r.2.2.1.length <= 40
  g : r.2.2.2.length <= 8
  s : r.2.1 <= 99900
theorem oT.canon {r : aG} {k : Nat} (h : oT r k) : Sp.Canon 100000 r.2.2.2 := VX (iE h.ok).1 (by have := h.n; omega)
theorem oT.fill {r : aG} {k : Nat} (h : oT r k) {i : Nat} (hi : i < r.2.2.1.length) (hg : Sp.bE r.2.2.2 (i : Int) = true) : tO r.2.2.1[i] = false := by
  cases hz : tO r.2.2.1[i] with
  | false => rfl
  | true =>
    have hr := dO h.ok; exact absurd (J4 (fun s hs => ⟨(hr.2.2.2.2 s hs).1, by have := (hr.2.2.2.2 s hs).2.1; omega, (hr.2.2.2.2 s hs).2.2⟩) hi hz hg) (by rw [(iE h.ok).2.1]; decide)
theorem VY {r : aG} {k : Nat} (h : oT r k) {t : Int} : Sp.bE (aF r k).2.2.2 t = (Sp.bE r.2.2.2 t && (decide (0 <= t) && decide (t < (k : Int)))) :=
  (GJ h.canon h.g (Int.le_refl _) (by have := h.k; have := h.n; omega)).2.1 t
theorem VZ {r : aG} {k : Nat} (h : oT r k) {t : Int} : Sp.bE (b9 r k).2.2.2 t = (Sp.bE r.2.2.2 (t + (k : Int)) && (decide ((k : Int) <= t + (k : Int)) && decide (t + (k : Int) < (r.2.2.1.length : Nat)))) := by
  show Sp.bE (List.map _ _) t = _; rw [adN]; exact (GJ h.canon h.g (by omega) (by have := h.n; omega)).2.1 _
theorem jI {r : aG} {k : Nat} (h : oT r k) : (aF r k).2.2.1.length = k := by
  have := h.k; show (r.2.2.1.take k).length = k; rw [List.length_take]; omega
theorem kP {r : aG} {k : Nat} : (b9 r k).2.2.1.length = r.2.2.1.length - k := List.length_drop
theorem AA {r : aG} {k : Nat} (h : oT r k) : cM (aF r k) = 0 := by
  have hr := dO h.ok; have hm := GJ (b := (k : Int)) h.canon h.g (Int.le_refl _) (by have := h.k; have := h.n; omega); have hk := h.k; have hn := h.n
  have hc : Sp.Canon ((aF r k).2.2.1.length : Nat) (aF r k).2.2.2 := adM hm.1 fun t ht => by
    rw [show Sp.bE (aF r k).2.2.2 t = _ from hm.2.1 t] at ht; simp only [Bool.and_eq_true, decide_eq_true_eq] at ht; rw [jI h]; exact ht.2.2
  refine J6 (iE h.ok).2.2 hr.1 (by rw [jI h]; omega) (fun x hx => hr.2.2.2.1 x (List.mem_of_mem_take hx)) hc (by have := hm.2.2; show (mE _ _ _).length <= _; omega) ?_
  refine E0 (fun i hi hh => ?_) fun s hs => by have := hc.1 s hs; omega
  have h2 := hh.2; rw [VY h] at h2; simp only [Bool.and_eq_true, decide_eq_true_eq] at h2; rw [jI h] at hi; have h3 := h.fill (i := i) (by omega) h2.1; have h4 : tO ((r.2.2.1.take k)[i]'(by rw [List.length_take]; omega)) = true := hh.1; rw [List.getElem_take, h3] at h4; cases h4
theorem AB {r : aG} {k : Nat} (h : oT r k) : cM (b9 r k) = 0 := by
  have hr := dO h.ok; have hm := GJ (a := (k : Int)) (b := (r.2.2.1.length : Nat)) h.canon h.g (by omega) (by have := h.n; omega); have hk := h.k; have hn := h.n; have hs := h.s
  have hc : Sp.Canon ((b9 r k).2.2.1.length : Nat) (b9 r k).2.2.2 := by
    rw [kP]; refine ⟨fun s hs => ?_, List.Pairwise.map _ (fun x y hxy => by show x.2 - _ < y.1 - _; omega) hm.1.2⟩; obtain ⟨g, hg, rfl⟩ := List.mem_map.1 hs; have h1 := hm.1.1 g hg; have h2 := hm.2.1 g.1; have h3 := hm.2.1 (g.2 - 1); rw [iO.2 ⟨g, hg, by omega, by omega⟩] at h2 h3; have h2 := h2.symm; have h3 := h3.symm; simp only [Bool.and_eq_true, decide_eq_true_eq] at h2 h3; show 0 <= g.1 - (k : Int) /\ g.1 - (k : Int) < g.2 - (k : Int) /\ g.2 - (k : Int) <= _; omega
  refine J6 (iE h.ok).2.2 (by show 0 <= r.2.1 + (k : Int) /\ r.2.1 + (k : Int) <= 100000; omega) (by rw [kP]; omega) (fun x hx => hr.2.2.2.1 x (List.mem_of_mem_drop hx)) hc (by have := hm.2.2; show (List.map _ (mE _ _ _)).length <= _; rw [List.length_map]; omega) ?_
  refine E0 (fun i hi hh => ?_) fun s hs => by have := hc.1 s hs; omega
  have h2 := hh.2; rw [VZ h] at h2; simp only [Bool.and_eq_true, decide_eq_true_eq] at h2; rw [kP] at hi; have h3 := h.fill (i := k + i) (by omega) (by rw [show ((k + i : Nat) : Int) = (i : Int) + (k : Int) by omega]; exact h2.1); have h4 : tO ((r.2.2.1.drop k)[i]'(by rw [List.length_drop]; omega)) = true := hh.1; rw [List.getElem_drop, h3] at h4; cases h4
theorem xE {r : aG} {k i : Nat} (h : oT r k) (hi : i < k) : dP (aF r k) i = dP r i := by
  have := h.k; rw [pQ (by rw [jI h]; exact hi), pQ (by omega), VY h, decide_eq_true (show (0 : Int) <= (i : Int) by omega), decide_eq_true (show (i : Int) < (k : Int) by omega)]; simp
theorem xF {r : aG} {k i : Nat} (h : oT r k) (hi : k + i < r.2.2.1.length) : dP (b9 r k) i = dP r (k + i : Nat) := by
  rw [pQ (by rw [kP]; omega), pQ hi, VZ h, decide_eq_true (show (k : Int) <= (i : Int) + (k : Int) by omega), decide_eq_true (show (i : Int) + (k : Int) < (r.2.2.1.length : Nat) by omega), show ((k + i : Nat) : Int) = (i : Int) + (k : Int) by omega]; simp
theorem ZL {r : aG} {k : Nat} (h : oT r k) : kN (aF r k) (b9 r k) = aP r := by
  have hk := h.k
  have l1 : (aP (aF r k)).length = k := by rw [l4, jI h]
  have l2 : (aP (b9 r k)).length = r.2.2.1.length - k := by rw [l4, kP]
  show aP (aF r k) ++ aP (b9 r k) = aP r; refine List.ext_getElem (by rw [List.length_append, l4 (r := r)]; omega) fun i h1 h2 => ?_
  have hi : i < r.2.2.1.length := by rw [l4] at h2; exact h2
  rw [qK hi h2]; by_cases e : i < k
  . rw [List.getElem_append_left (by omega), qK (by rw [jI h]; exact e), xE h e]
  have e1 : (aP (aF r k) ++ aP (b9 r k))[i] = (aP (b9 r k))[i - k]'(by omega) := by
    rw [List.getElem_append_right (by omega)]; congr 1; omega
  rw [e1, qK (by rw [kP]; omega), xF h (by omega), show k + (i - k) = i by omega]
theorem ah7 {r : aG} {k : Nat} (h : oT r k) : xP (aF r k) (b9 r k) = 0 /\ tG (dH (aF r k) (b9 r k)) r = true := by
  have hk := h.k; have hn := h.n; have hs := h.s; have h0 := (dO h.ok).1
  have e : xP (aF r k) (b9 r k) = 0 := cH.2 fun x hx => by
    simp only [List.mem_cons, List.not_mem_nil, or_false] at hx; rcases hx with rfl | rfl | rfl | rfl | rfl
    . exact AA h
    . exact AB h
    . exact (kZ (by decide)).2 (decide_eq_false (fun hh => hh rfl))
    . refine (kZ (by decide)).2 (decide_eq_false (fun hh => hh ?_)); rw [jI h]; show r.2.1 + (k : Int) = wrI (r.2.1 + (k : Int)); rw [agO (by omega) (by omega)]
    exact (kZ (by decide)).2 (decide_eq_false (by rw [jI h, kP]; omega))
  refine ⟨e, ?_⟩
  have e2 : dH (aF r k) (b9 r k) = MK r (aP r) := by
    rw [dH, if_neg (fun hh => hh e), ZL h]; show (r.1, r.2.1, gI (both (aF r k) (b9 r k)) _ _ _, _) = _; rw [MB (r := both (aF r k) (b9 r k)) (r' := r) (show r.2.2.1.take k ++ r.2.2.1.drop k = _ from List.take_append_drop _ _)]
  rw [e2]; exact adI h.ok
theorem C0 {r : aG} {k i : Nat} (h : oT r k) (hi : i < k) : gF (aF r k) i = gF r i := by
  have := h.k; rw [gO (by rw [jI h]; exact hi), gO (show i < r.2.2.1.length by omega)]; exact List.getElem_take
theorem C1 {r : aG} {k i : Nat} (hi : k + i < r.2.2.1.length) : gF (b9 r k) i = gF r (k + i) := by
  rw [gO (show i < (b9 r k).2.2.1.length by rw [kP]; omega), gO hi]; exact List.getElem_drop
theorem MP {r : aG} {k : Nat} (h : oT r k) : ∀ i : Nat, i <= k -> dZ (aF r k) i = dZ r i
  | 0, _ => rfl
  | i + 1, hi => by
    have ih := MP h i (by omega); show (if dP (aF r k) i = true then _ else _) = (if dP r i = true then _ else _); rw [xE h (by omega), ih, C0 h (by omega)]
theorem MQ {r : aG} {k : Nat} (h : oT r k) : ∀ j : Nat, k + j <= r.2.2.1.length -> (dZ r (k + j)).1 = (dZ r k).1 + (dZ (b9 r k) j).1 /\ (dZ r (k + j)).2.1 = (dZ r k).2.1 + (dZ (b9 r k) j).2.1
  | 0, _ => ⟨(Int.add_zero _).symm, (Int.add_zero _).symm⟩
  | j + 1, hj => by
    have ih := MQ h j (by omega); have hb := xF (i := j) h (by omega); have hl := C1 (r := r) (k := k) (i := j) (by omega)
    cases hc : dP r (k + j : Nat) with
    | true =>
      rw [hc] at hb; rw [x8 hb, show k + (j + 1) = (k + j) + 1 from rfl, x8 hc, hl]; show (dZ r (k + j)).1 + 1 = (dZ r k).1 + ((dZ (b9 r k) j).1 + 1) /\ (dZ r (k + j)).2.1 + _ = (dZ r k).2.1 + ((dZ (b9 r k) j).2.1 + _)
      omega
    | false =>
      rw [hc] at hb; rw [x9 hb, show k + (j + 1) = (k + j) + 1 from rfl, x9 hc]; exact ih
theorem oU {r : aG} : ∀ i : Nat, ∀ j : Nat, j < i -> dP r j = true -> (dZ r i).1 ≠ 0 /\ bK (dZ r i).2.2.1 <= bK (gF r j) /\ bK (gF r j) <= bK (dZ r i).2.2.2
  | 0, j, hj, _ => absurd hj (Nat.not_lt_zero _)
  | i + 1, j, hj, hb => by
    have hz := J5 (r := r) i
    cases hc : dP r i with
    | true =>
      rw [x8 hc]; refine ⟨by show (dZ r i).1 + 1 ≠ 0; omega, ?_⟩; show bK (RG _ _) <= _ /\ _ <= bK (RH _ _); unfold RG RH; by_cases e : j = i
      . subst e; refine ⟨?_, ?_⟩
        . split
          . exact Int.le_refl _
          rename_i hn; have := (not_or.1 hn).2; omega
        split
        . exact Int.le_refl _
        rename_i hn; have := (not_or.1 hn).2; omega
      have ih := oU i j (by omega) hb; refine ⟨?_, ?_⟩
      . split
        . rename_i hn; rcases hn with hn | hn
          . exact absurd hn ih.1
          omega
        exact ih.2.1
      split
      . rename_i hn; rcases hn with hn | hn
        . exact absurd hn ih.1
        omega
      exact ih.2.2
    | false =>
      rw [x9 hc]; exact oU i j (by rcases Nat.lt_or_ge j i with e | e; exact e; rw [show j = i by omega, hc] at hb; cases hb) hb
theorem sL {r : aG} : ∀ i : Nat, (dZ r i).1 ≠ 0 -> (∃ j, j < i /\ dP r j = true /\ (dZ r i).2.2.1 = gF r j) /\ ∃ j, j < i /\ dP r j = true /\ (dZ r i).2.2.2 = gF r j
  | 0, h => absurd rfl h
  | i + 1, h => by
    cases hc : dP r i with
    | true =>
      rw [x8 hc]; show (∃ j, j < i + 1 /\ dP r j = true /\ RG _ _ = _) /\ ∃ j, j < i + 1 /\ dP r j = true /\ RH _ _ = _; unfold RG RH; refine ⟨?_, ?_⟩
      . split
        . exact ⟨i, by omega, hc, rfl⟩
        rename_i hn; obtain ⟨⟨j, h1, h2, h3⟩, _⟩ := sL i (not_or.1 hn).1; exact ⟨j, by omega, h2, h3⟩
      split
      . exact ⟨i, by omega, hc, rfl⟩
      rename_i hn; obtain ⟨_, j, h1, h2, h3⟩ := sL i (not_or.1 hn).1
      exact ⟨j, by omega, h2, h3⟩
    | false =>
      rw [x9 hc] at h ⊢; obtain ⟨⟨j, h1, h2, h3⟩, q, g1, g2, g3⟩ := sL i h; exact ⟨⟨j, by omega, h2, h3⟩, q, by omega, g2, g3⟩
theorem rN {r : aG} (h : cM r = 0) : (fG r).1 = (dZ r r.2.2.1.length).1 /\ (fG r).2.1 = (dZ r r.2.2.1.length).2.1 /\ bD (fG r).2.2.1 = 0 /\ bD (fG r).2.2.2 = 0 /\ (NV r = 0 \/ NV r = 12) /\ (NV r = 0 ↔ (dZ r r.2.2.1.length).1 ≠ 0) /\ ((dZ r r.2.2.1.length).1 ≠ 0 -> bK (fG r).2.2.1 = bK (dZ r r.2.2.1.length).2.2.1 /\ bK (fG r).2.2.2 = bK (dZ r r.2.2.1.length).2.2.2) := by
  have sB := dO h; obtain ⟨s1, s2, s3, s4, s5, s6⟩ := VQ sB.2.2.2.1; have e1 : NV r = if (dZ r r.2.2.1.length).1 = 0 then 12 else 0 := if_neg (fun hh => hh h); have e2 : fG r = if (dZ r r.2.2.1.length).1 = 0 then (0, 0, 0, 0) else G8 r := if_neg (fun hh => hh h); by_cases hz : (dZ r r.2.2.1.length).1 = 0
  . rw [e1, e2, if_pos hz, if_pos hz, (J5 r.2.2.1.length).2 hz]; exact ⟨rfl, rfl, VK, VK, .inr rfl, ⟨fun h => absurd h (by decide), fun h => absurd rfl h⟩, fun h => absurd rfl h⟩
  rw [e1, e2, if_neg hz, if_neg hz]; exact ⟨s1, s2, s3, s4, .inl rfl, ⟨fun _ => hz, fun _ => rfl⟩, s6⟩
theorem ah8 {r : aG} {k : Nat} (h : oT r k) : (fG r).1 = (fG (aF r k)).1 + (fG (b9 r k)).1 /\ (fG r).2.1 = (fG (aF r k)).2.1 + (fG (b9 r k)).2.1 := by
  have hk := h.k; obtain ⟨a1, a2, _⟩ := rN h.ok; obtain ⟨b1, b2, _⟩ := rN (AA h); obtain ⟨c1, c2, _⟩ := rN (AB h); have h1 := MP h k (Nat.le_refl _); have h2 := MQ h (r.2.2.1.length - k) (by omega); rw [show k + (r.2.2.1.length - k) = r.2.2.1.length by omega] at h2; rw [a1, a2, b1, b2, c1, c2, jI h, kP, h1]; exact h2
theorem adO {r : aG} {k : Nat} (h : oT r k) (h0 : NV (aF r k) = 0) : bK (fG r).2.2.1 <= bK (fG (aF r k)).2.2.1 /\ bK (fG (aF r k)).2.2.2 <= bK (fG r).2.2.2 := by
  have hk := h.k; obtain ⟨_, _, _, _, _, a6, a7⟩ := rN h.ok; obtain ⟨_, _, _, _, _, b6, b7⟩ := rN (AA h); have cA := b6.1 h0; have b8 := b7 cA; obtain ⟨⟨j, g1, g2, g3⟩, q, f1, f2, f3⟩ := sL _ cA; rw [jI h] at g1 f1 g3 f3 b8; rw [xE h g1] at g2; rw [xE h f1] at f2; rw [C0 h g1] at g3; rw [C0 h f1] at f3; have k1 := oU r.2.2.1.length j (by omega) g2; have k2 := oU r.2.2.1.length q (by omega) f2; have a8 := a7 k1.1; rw [b8.1, b8.2, g3, f3, a8.1, a8.2]; exact ⟨k1.2.1, k2.2.2⟩
theorem adP {r : aG} {k : Nat} (h : oT r k) (h0 : NV (b9 r k) = 0) : bK (fG r).2.2.1 <= bK (fG (b9 r k)).2.2.1 /\ bK (fG (b9 r k)).2.2.2 <= bK (fG r).2.2.2 := by
  have hk := h.k; obtain ⟨_, _, _, _, _, a6, a7⟩ := rN h.ok; obtain ⟨_, _, _, _, _, b6, b7⟩ := rN (AB h); have cA := b6.1 h0; have b8 := b7 cA; obtain ⟨⟨j, g1, g2, g3⟩, q, f1, f2, f3⟩ := sL _ cA; rw [kP] at g1 f1 g3 f3 b8; rw [xF h (by omega)] at g2; rw [xF h (by omega)] at f2; rw [C1 (by omega)] at g3; rw [C1 (by omega)] at f3; have k1 := oU r.2.2.1.length (k + j) (by omega) g2; have k2 := oU r.2.2.1.length (k + q) (by omega) f2; have a8 := a7 k1.1; rw [b8.1, b8.2, g3, f3, a8.1, a8.2]; exact ⟨k1.2.1, k2.2.2⟩
theorem adQ {r : aG} (h : cM r = 0) (h0 : r.2.2.1.length ≠ 0) (ht : kY r.2.2.2 r.2.2.2.length ≠ (r.2.2.1.length : Nat)) : ∃ j, j < r.2.2.1.length /\ dP r j = true := by
  by_cases hx : ∃ j, j < r.2.2.1.length /\ dP r j = true
  . exact hx
  have hc := (iE h).1
  have kX : ∀ j : Nat, j < r.2.2.1.length -> Sp.bE r.2.2.2 (j : Int) = true := fun j hj => by
    cases hi : Sp.bE r.2.2.2 (j : Int) with
    | true => rfl
    | false => exact absurd ⟨j, hj, by rw [pQ hj, hi]; rfl⟩ hx
  have e : r.2.2.2 = [((0 : Int), ((r.2.2.1.length : Nat) : Int))] := BX hc ⟨fun s hs => by rw [List.mem_singleton.1 hs]; exact ⟨Int.le_refl _, by show (0 : Int) < (r.2.2.1.length : Nat); omega, Int.le_refl _⟩, List.pairwise_singleton _ _⟩ fun t => by
    rw [Bool.eq_iff_iff]; constructor
    . intro h1; obtain ⟨g, hg, h2⟩ := iO.1 h1; have := hc.1 g hg; exact iO.2 ⟨_, List.mem_singleton.2 rfl, by show (0 : Int) <= t; omega, by show t < (r.2.2.1.length : Nat); omega⟩
    intro h1; obtain ⟨g, hg, h2⟩ := iO.1 h1; rw [List.mem_singleton.1 hg] at h2; have h2 : (0 : Int) <= t /\ t < (r.2.2.1.length : Nat) := h2; have := kX t.toNat (by omega); rw [Int.toNat_of_nonneg h2.1] at this; exact this
  refine absurd ?_ ht; rw [e]; show (0 : Int) + (r.2.2.1.length : Nat) - 0 = _; omega
end Go.Proofs
namespace Go.Proofs
open Go.Fs Ieee
set_option maxHeartbeats 400000
theorem AD {x : Nat} : tP 1065353216 x = bK x := by
  unfold tP; rw [show sgE 1065353216 = 1 from rfl, Int.one_mul]
theorem aaX {x : Nat} : tP 3212836864 x = -bK x := by
  unfold tP; rw [show sgE 3212836864 = -1 from rfl, Int.neg_one_mul]
theorem GK {r : aG} {w i : Int} {g : Nat} : ∀ n : Nat, i ∈ mZ r w g n ↔ ∃ k : Nat, k < n /\ i = (k : Int) /\ eG r w g k = true
  | 0 => ⟨fun h => (by cases h), fun ⟨_, h, _⟩ => absurd h (Nat.not_lt_zero _)⟩
  | n + 1 => by
    have ih := GK (r := r) (w := w) (i := i) (g := g) n; show i ∈ (if eG r w g n = true then mZ r w g n ++ [(n : Int)] else mZ r w g n) ↔ _; by_cases h : eG r w g n = true
    . rw [if_pos h, List.mem_append, ih, List.mem_singleton]
      exact ⟨fun hh => hh.elim (fun ⟨k, a, b, c⟩ => ⟨k, by omega, b, c⟩) (fun e => ⟨n, by omega, e, h⟩), fun ⟨k, a, b, c⟩ => by
        by_cases e : k = n
        . exact .inr (e ▸ b)
        exact .inl ⟨k, by omega, b, c⟩⟩
    rw [if_neg h, ih]
    exact ⟨fun ⟨k, a, b, c⟩ => ⟨k, by omega, b, c⟩, fun ⟨k, a, b, c⟩ => by
      by_cases e : k = n
      . exact absurd (e ▸ c) h
      exact ⟨k, by omega, b, c⟩⟩
theorem AE {r : aG} {w : Int} (h : cM r = 0) (hw : 1 <= w /\ w <= 4096) : vR r w = 0 := cH.2 fun x hx => by
  simp only [List.mem_cons, List.not_mem_nil, or_false] at hx; rcases hx with rfl | rfl
  . exact h
  exact x5.2 hw
theorem AF {r : aG} {w : Int} {g : Nat} (h : vR r w = 0) : fL r w g = mZ r w g r.2.2.1.length := if_neg (fun hh => hh h)
theorem ah9 {r : aG} {w i : Int} (h : vR r w = 0) (hi : i ∈ fL r w 1065353216) : ∃ k : Nat, i = (k : Int) /\ k < r.2.2.1.length /\ Sp.bE r.2.2.2 i = false /\ ∀ m : Nat, m < r.2.2.1.length -> (k : Int) - w <= m -> (m : Int) <= k + w -> Sp.bE r.2.2.2 (m : Int) = false -> bK (gF r m) <= bK (gF r k) := by
  rw [AF h] at hi; obtain ⟨k, hk, rfl, hw⟩ := (GK _).1 hi; unfold eG at hw; rw [Bool.and_eq_true] at hw; have hb := hw.1; rw [pQ hk, Bool.not_eq_true'] at hb; refine ⟨k, rfl, hk, hb, fun m hm h1 h2 h3 => ?_⟩
  have h4 : ¬ (List.range r.2.2.1.length).any (j6 r w 1065353216 k) = true := by
    have := hw.2; rw [Bool.not_eq_true'] at this; rw [this]; decide
  by_cases e : m = k
  . subst e; exact Int.le_refl _
  have h5 : j6 r w 1065353216 k m ≠ true := fun hh => h4 (List.any_eq_true.2 ⟨m, List.mem_range.2 hm, hh⟩); unfold j6 BV at h5; rw [pQ hm, h3, AD, AD] at h5; rw [Bool.not_false, Bool.true_and] at h5; have h6 := Bool.or_eq_false_iff.1 (Bool.eq_false_iff.2 h5); simp only [Bool.and_eq_false_iff, decide_eq_false_iff_not] at h6; omega
theorem adR {r : aG} {w : Int} (h : vR r w = 0) {v : Int} (hb : ∀ j : Nat, j < r.2.2.1.length -> dP r j = true -> bK (gF r j) <= v) : ∀ n : Nat, n < r.2.2.1.length -> dP r n = true -> bK (gF r n) = v -> ∃ i ∈ fL r w 1065353216, ∃ k : Nat, i = (k : Int) /\ k < r.2.2.1.length /\ bK (gF r k) = v := by
  intro n
  induction n using Nat.strongRecOn with
  | _ n ih =>
    intro hn hr hv; by_cases hw : eG r w 1065353216 n = true
    . exact ⟨(n : Int), by rw [AF h]; exact (GK _).2 ⟨n, hn, rfl, hw⟩, n, rfl, hn, hv⟩
    unfold eG at hw; rw [hr, Bool.true_and, Bool.not_eq_true', Bool.not_eq_false] at hw; obtain ⟨m, hm, NU⟩ := List.any_eq_true.1 hw; have hm := List.mem_range.1 hm; unfold j6 BV at NU; rw [AD, AD] at NU; simp only [Bool.or_eq_true, Bool.and_eq_true, decide_eq_true_eq] at NU; have hle := hb m hm NU.1; rcases NU.2 with h2 | h2
    . exact ih m (by omega) hm NU.1 (by omega)
    omega
def tM (r : aG) : aG := (r.1, r.2.1, r.2.2.1.map MO, r.2.2.2)
theorem pS {r : aG} : (tM r).2.2.1.length = r.2.2.1.length := List.length_map ..
theorem ahA {x : Nat} (h : bD x = 0) : tO x = decide (bK x ≠ 0) := by
  unfold tO; rw [RJ h VK, show bK 0 = 0 by decide +kernel]
theorem W0 {r : aG} (h : cM r = 0) : cM (tM r) = 0 := by
  have hr := dO h; have hc := iE h; refine J6 hc.2.2 hr.1 (by rw [pS]; exact hr.2.1) (fun x hx => ?_) (by rw [pS]; exact hc.1) hr.2.2.1 ?_
  . obtain ⟨y, hy, rfl⟩ := List.mem_map.1 hx; exact (E9 (hr.2.2.2.1 y hy)).1
  refine E0 (fun i hi hh => ?_) fun s hs => by have := hr.2.2.2.2 s hs; rw [pS]; exact ⟨this.1, by omega, this.2.2⟩
  have jQ : i < r.2.2.1.length := by rw [pS] at hi; exact hi
  have hv := hr.2.2.2.1 _ (List.getElem_mem jQ); have h1 : tO ((r.2.2.1.map MO)[i]'(by rw [List.length_map]; exact jQ)) = true := hh.1; rw [List.getElem_map, ahA (E9 hv).1, (E9 hv).2] at h1
  have h2 : tO r.2.2.1[i] = true := by
    rw [ahA hv]; exact decide_eq_true (by have := of_decide_eq_true h1; omega)
  exact absurd (J4 (fun s hs => ⟨(hr.2.2.2.2 s hs).1, by have := (hr.2.2.2.2 s hs).2.1; omega, (hr.2.2.2.2 s hs).2.2⟩) jQ h2 hh.2) (by rw [hc.2.1]; decide)
theorem PB {r : aG} {i : Int} : dP (tM r) i = dP r i := by
  show (decide (0 <= i) && decide (i < ((tM r).2.2.1.length : Nat)) && !Sp.bE r.2.2.2 i) = _; rw [pS] <;> rfl
theorem PC {r : aG} {i : Nat} (hi : i < r.2.2.1.length) : gF (tM r) i = MO (gF r i) := by
  rw [gO (show i < (tM r).2.2.1.length by rw [pS]; exact hi), gO hi]; exact List.getElem_map ..
theorem ZM {r : aG} {w : Int} (hv : ∀ x ∈ r.2.2.1, bD x = 0) {i : Nat} (hi : i < r.2.2.1.length) : eG (tM r) w 3212836864 i = eG r w 1065353216 i := by
  unfold eG; rw [PB, pS]; congr 2; refine Bool.eq_iff_iff.2 ?_; rw [List.any_eq_true, List.any_eq_true]
  have hb : ∀ k, k < r.2.2.1.length -> j6 (tM r) w 3212836864 i k = j6 r w 1065353216 i k := fun k hk => by
    have h1 := E9 (hv _ (List.getElem_mem hi)); have h2 := E9 (hv _ (List.getElem_mem hk)); unfold j6 BV; rw [PB, PC hi, PC hk, gO hi, gO hk, AD, AD, aaX, aaX, h1.2, h2.2, Int.neg_neg, Int.neg_neg]
  exact ⟨fun ⟨k, hk, h⟩ => ⟨k, hk, by rw [<- hb k (List.mem_range.1 hk)]; exact h⟩, fun ⟨k, hk, h⟩ => ⟨k, hk, by rw [hb k (List.mem_range.1 hk)]; exact h⟩⟩
theorem W1 {r : aG} {w : Int} (hv : ∀ x ∈ r.2.2.1, bD x = 0) : ∀ n : Nat, n <= r.2.2.1.length -> mZ (tM r) w 3212836864 n = mZ r w 1065353216 n
  | 0, _ => rfl
  | n + 1, hn => by
    show (if eG (tM r) w 3212836864 n = true then _ else _) = (if eG r w 1065353216 n = true then _ else _); rw [W1 hv n (by omega), ZM hv (by omega)]
theorem ahB {r : aG} {w : Int} (h : cM r = 0) (hw : 1 <= w /\ w <= 4096) : fL (tM r) w 3212836864 = fL r w 1065353216 := by
  rw [AF (AE (W0 h) hw), AF (AE h hw), pS]; exact W1 (dO h).2.2.2.1 _ (Nat.le_refl _)
theorem MR {l : List Bool} : ∀ n : Nat, (∀ i : Nat, i < n -> l.getD i false = true) -> dQ l n = []
  | 0, _ => rfl
  | n + 1, h => by
    rw [MH, if_pos (h n (by omega))]; exact MR n fun i hi => h i (by omega)
theorem adS {r : aG} {v : Nat} (h : cM r = 0) (hv : bD v = 0) (hb : ∀ j : Nat, j < r.2.2.1.length -> dP r j = true -> bK (gF r j) <= bK v) : VG r v = 0 /\ P5 r v = [] := by
  have hc : dV [cM r, bD v] = 0 := cH.2 fun x hx => by
    simp only [List.mem_cons, List.not_mem_nil, or_false] at hx; rcases hx with rfl | rfl
    . exact h
    exact hv
  refine ⟨hc, ?_⟩; rw [<- ad7 hc]; refine MR _ fun i hi => ?_; rw [fK (by rw [G4]; exact hi), VA hi, if_pos hi]; unfold Z9
  cases hr : dP r i with
  | false => rfl
  | true => rw [decide_eq_true (hb i hi hr)] <;> rfl
end Go.Proofs
namespace Go.Fs
variable {P : Program} {orc : FuncId -> List Value -> U -> Option (Value × U)} {h h' : U} {S S' : List Nat} {σ : aR}
def alR (P : Program) (fn : Func) (Q : PV -> aR -> Prop) : Ex -> VL -> aR -> Prop := fun e fl σ => e.goes = true /\ ∃ (a : Nat) (ty : TypeId) (p : Value) (cs : List PV) (w : Value) (et : TypeId) (τ : Ty) (xs : List τ.den) (T : Ty), fn.results.toList = [.cell a ty] /\ kT fl a = some (.raw p) /\ σ = [(p, Cell.var cs), (w, Cell.row et τ xs)] /\ PV.raw w ∈ cs /\ fU P ty T /\ cs.length = T.size /\ T.agg = true /\ Q (.agg cs) [(w, Cell.row et τ xs)]
theorem bA.W2 {w : Value} : ∀ {cs : List PV} {us : List Value}, bA h S cs us -> PV.raw w ∈ cs -> w ∈ us
  | [], _, _, hm => by cases hm
  | c :: cs, us, ⟨u, r, h1, h2, h3⟩, hm => by
    subst h1; rcases List.mem_cons.1 hm with e | hm
    . subst e; have : u = w := h2; subst this; exact List.mem_cons_self
    exact List.mem_cons_of_mem _ (bA.W2 h3 hm)
theorem gV.aj1 {f : FuncId} {args : List PV} {fn : Func} {c : Code} {Q : PV -> aR -> Prop} (kF : P.funcs[f]? = some fn) (hc : fn.body = some c) (ho : ∀ us h, orc f us h = none) (hn : (Nat.blt 4000 fn.ntmps || Nat.blt fn.ntmps args.length) = false)
    (hb : VC P orc none c fn.ntmps (pI 0 args) [] (alR P fn Q)) : gV P orc f args [] Q := fun h S us bZ hS eP kS B0 ha => by
  have hl := ha.len
  have s7 : Nat.blt 4000 fn.ntmps = false /\ Nat.blt fn.ntmps args.length = false := by simpa using hn
  have n3 := iG s7.1; have n4 := iG s7.2; have pY : bA (entry h) (own [] ++ S) args us := bA.nx (h := h) (h' := entry h) (fun _ _ a b => ⟨a, b⟩) ha
  have I0 : Iv (entry h) (own []) S (entry h) [] (iI .leaf 0 us) [] (pI 0 args) := {
    ok := bZ
    s0 := hS
    iH := cI.refl _ _
    cells := fun c hc => (by cases hc)
    new := fun b hb => (by cases hb)
    apart := kS
    mark := fun d hd => by cases hd
    marks := List.nodup_nil
    aJ := oR pY (by omega) }
  refine qW.enter kF hc (ho us h) (by rw [hl]; exact hn) ((hb (entry h) (own []) S _ (entry h) [] I0).mono fun e fr h1 hq => ?_); obtain ⟨_, eS, σ', iM, he, a, ty, p, cs, w, et, τ, xs, T, sT, hla, L9, K4, hT, hlen, ZT, hQ⟩ := hq; subst L9; obtain ⟨h2, d1, d2, d3⟩ := sH iM.marks fun d hd => (iM.mark d hd).2
  have iK : ∀ b o, h1.get b = some o -> o ≠ .iP -> h2.get b = some o := fun b o hg cA => by
    rw [d3 b (fun hm => cA (by have := (iM.mark b hm).2; rw [hg] at this; exact Option.some.inj this))]; exact hg
  have a2 : cI (entry h) h2 (own []) := iM.iH.trans d2 fun i hi => .inr (iM.mark i hi).1; have L1 := iM.lc; obtain ⟨b0, e0, vs, g3, g4, g5, g6, g7⟩ := iM.cells _ List.mem_cons_self; have hp : fr.t.get a = p := L1.aJ _ _ hla; have ao2 : vA h2 0 p vs := ⟨b0, e0, g3, Nat.zero_le _, iK b0 _ g5 (by simp)⟩
  have e1 : fX P fr.t h2 fn.results.toList = some [.agg vs.toArray] := by
    rw [sT]
    have : sD P fr.t h2 (.cell a ty) = some (.agg vs.toArray) := by
      show dD P ty (fr.t.get a) h2 = _; rw [hp]; exact ao2.IH hT ZT (g6.len.trans hlen)
    simp only [fX, this]
  have gL : ∀ x ∈ own [(w, Cell.row et τ xs)] ++ S, x ∈ own [(p, Cell.var cs), (w, Cell.row et τ xs)] ++ S := fun x hx => by
    rcases List.mem_append.1 hx with hx | hx
    . exact List.mem_append_left _ (List.mem_append_right _ hx)
    exact List.mem_append_right _ hx
  have hN : qD h1 (own [(p, Cell.var cs), (w, Cell.row et τ xs)] ++ S) h2 (own [(w, Cell.row et τ xs)] ++ S) := fun b _ hg cA uI => ⟨iK b _ hg cA, fun hm => uI (gL _ hm)⟩; have nF : aH h2 (own [(w, Cell.row et τ xs)] ++ S) (.agg cs) (.agg vs.toArray) := ⟨vs, rfl, g6.mK hN⟩
  have u6 : cU h2 (own [(w, Cell.row et τ xs)] ++ S) w (.row et τ xs) := by
    rcases iM.cells _ (List.mem_cons_of_mem _ List.mem_cons_self) with hx | ⟨b, rs, m, h3, h4, h5, h6⟩
    . exact .inl hx
    refine .inr ⟨b, rs, m, h3, List.mem_append_left _ (List.mem_flatMap.2 ⟨_, List.mem_cons_self, ?_⟩), iK b _ h5 (by simp), h6.1, fun i hi => (h6.2 i hi).mK hN⟩; have IF : w = .slice (some ⟨b, 0, none⟩) xs.length 0 := h3; rw [IF]; simp [dX]
  have pG : (own [(w, Cell.row et τ xs)]).Nodup := (List.nodup_append.1 (show (dX p ++ own [(w, Cell.row et τ xs)]).Nodup from iM.apart)).2.1; have LB : ∀ b ∈ own [(w, Cell.row et τ xs)], b ∈ own [] \/ h.next <= b := fun b hb => (iM.new b (List.mem_append_right _ hb)).1; have hmw : w ∈ vs := bA.W2 g6 K4; refine ⟨he, h2, [.agg vs.toArray], d1, e1, ?_⟩; unfold leftOf
  cases pV : (af (gS [.agg vs.toArray]) && Nat.ble h.next h2.low) with
  | true =>
    obtain ⟨xQ, dW⟩ := aQ pV; have RL : eD w = true := List.all_eq_true.1 (show vs.all eD = true from by simpa [gS, af, oX] using xQ) w hmw; rcases u6 with ⟨KD, s7⟩ | ⟨b, rs, m, h3, _⟩
    . have aa8 : w = .slice none 0 0 := KD; refine ⟨_, _, hQ, ⟨cI.refl _ _, fun b hb => ?_, pG, fun c hc => ?_⟩, nF.FI xQ⟩
      . rw [aa8] at hb; cases hb
      rw [List.mem_singleton.1 hc]; exact .inl ⟨KD, s7⟩
    exfalso; have IF : w = .slice (some ⟨b, 0, none⟩) xs.length 0 := h3; rw [IF] at RL
    cases hx : xs.length <;> rw [hx] at RL <;> cases RL
  | false =>
    refine ⟨_, _, hQ, ⟨⟨a2.next, a2.get, fun x => a2.ok x, fun e h3 h4 h5 => Nat.le_min.2 ⟨h3, a2.low e (Nat.le_trans h4 (Nat.le_refl _)) h4 h5⟩, fun b hb => ?_, Nat.min_le_left _ _⟩, LB, pG, fun c hc => ?_⟩, aH.nx (h := h2) (h' := { next := h2.next, low := min h.low h2.low, aA := h2.aA }) (fun _ _ a b => ⟨a, b⟩) nF⟩
    . rcases a2.chg b hb with h3 | h3
      . exact .inl h3
      exact .inr (Nat.le_trans (Nat.min_le_right _ _) h3)
    rw [List.mem_singleton.1 hc]; exact u6.aV (fun _ _ => rfl) (fun _ _ a b => ⟨a, b⟩) fun b hb => List.mem_append_left _ (List.mem_flatMap.2 ⟨_, List.mem_cons_self, hb⟩)
end Go.Fs
namespace Go.Fs
variable {P : Program} {orc : FuncId -> List Value -> U -> Option (Value × U)} {aY : Option Nat} {h h' h0 h1 h2 : U} {S S' S0 G : List Nat} {σ σ' nW γ gN : aR} {t t' : Tr} {ms : List Nat} {fl nw : VL} {ops : Array Oper} {n i mem : Nat} {l : List Oper} {K : VL -> aR -> Prop} {Q : Ex -> VL -> aR -> Prop}
  {d : Tmp} {ty : TypeId} {pos : String} {after : Array Edge} {op : Op} {v pv : PV} {g : Option (Nat × Bool)} {bs BL : List Nat} {tail so : Bool} {x y z : Operand} {T T' e : TypeId} {τ dC : Ty} {w w' : Value}
theorem adT {hs : U} {fl : VL} (h5 : ∀ k pv, kT fl k = some pv -> mM BL k = false -> aH hs S pv (t.get k)) : ∀ (l : List Operand) (asl : List PV), kI fl l = some asl -> l.all (AY BL) = true -> bA hs S asl (l.map (aB t)) := by
  intro l
  induction l with
  | nil => intro asl hx _; obtain rfl := Option.some.inj hx; rfl
  | cons x r ih =>
    intro asl hx hl; rw [List.all_cons] at hl; obtain ⟨l1, l2⟩ := aQ hl; simp only [kI] at hx; split at hx
    . rename_i v KG hv w9; obtain rfl := Option.some.inj hx; exact ⟨_, _, rfl, qF h5 hv l1, ih KG w9 l2⟩
    cases hx
theorem VD.aj2 {b : Nat} {f : Operand} {args : Array Operand} {mC : Array TypeId} {F : PV} {asl : List PV} {Qr : PV -> aR -> Prop} (hf : aS fl f = some F) (ha : kI fl args.toList = some asl) (hc : J0 P orc F asl [] Qr) (hk : ∀ r gN, Qr r gN -> VD P orc ops n l (i + 1) ((d, r) :: fl) (fE false d BL) (gN ++ σ) false (bs ++ [b]) (mem ||| 2 ^ i) false K)
    (hb : aM bs ⟨some d, .call { callee := .value f, args := args, argTypes := mC }, ty, pos, after, g⟩ = b := by rfl) (hold : (AY BL f && args.toList.all (AY BL)) = true := by rfl) (hw : cV ops fl g = some true := by rfl) (hn : (Nat.blt d n && Nat.ble n 4000) = true := by rfl) :
    VD P orc ops n (⟨some d, .call { callee := .value f, args := args, argTypes := mC }, ty, pos, after, g⟩ :: l) i fl BL σ so bs mem false K := fun h0 G S0 t h ms segs I ho => by
  obtain ⟨n1, n2⟩ := fits hn; obtain ⟨o1, o2⟩ := aQ hold; obtain ⟨M, m1, m2, m3, m4, m5, m6, m7⟩ := r5 (mem := mem) I hb ho; obtain ⟨hs, a1, a2, a3, a4, a5, a6, a7⟩ := m7 rfl; have hN : dA hs (own σ ++ S0) M (own σ ++ S0) := a3.nx a1; obtain ⟨ND, a, c, rfl, hv⟩ := hc; obtain ⟨va, vc, h1, h2, h3⟩ := ((qF a6 hf o1).nx hN : aH M _ (.lA ND a c) (aB t f)); have l7 := (h2.append ((adT a6 _ _ ha o2).nx hN)).append h3; refine rV.call (o := ⟨some d, .call { callee := .value f, args := args, argTypes := mC }, ty, pos, after, g⟩) (cC I.aJ hw) rfl rfl h1 rfl ?_; rw [m1]; refine (hv M (own σ ++ S0) _ m2 (fun b hb => by rw [m3]; exact Lc.lt I.lc b hb) (fun c hc => by cases hc) List.nodup_nil (fun b hb => by cases hb) l7).mono fun u h' hq => ?_; obtain ⟨r, gN, q1, q2, q3⟩ := hq; have hA : eV M h' := q2.iH.after; have hl : h.next <= h'.low := hA.low h.next (by omega) (by omega)
  have dW : Nat.ble h.next h'.low = true := by rw [Nat.ble_eq]; exact hl
  have gU : h.next <= h'.next := by have := hA.next; omega
  refine ⟨l9 gU, by simp only [dW, Bool.true_or], _, bU n1 t u, ?_⟩
  have hd : kB ⟨some d, .call { callee := .value f, args := args, argTypes := mC }, ty, pos, after, g⟩ i ⟨t, h, bs, segs, mem, false⟩ (t.set depth d u) h' =
      ⟨t.set depth d u, { next := h'.next, low := h.low, aA := bI h.next h'.next h'.aA ++ h.aA }, bs ++ [b], (i, h.next, h'.next) :: segs, mem ||| 2 ^ i, false⟩ := by
    unfold kB; simp only [dW, cond_true, hb]
  rw [hd]; obtain ⟨e1, e2⟩ := r3 (h' := h') I.ok m5 m3 hA m2
  have hm : Made (own σ ++ S0) h { next := h'.next, low := h.low, aA := bI h.next h'.next h'.aA ++ h.aA } [] gN := {
    iH := ⟨e1.next, fun b hb _ => e1.get b hb, e1.ok, fun e h3 h4 _ => e1.low e h3 h4, fun b hb => .inl (e1.get b hb), Nat.le_refl _⟩
    new := fun b hb => by
      rcases q2.new b hb with h5 | h5
      . exact .inl h5
      exact .inr (by omega)
    apart := q2.apart
    cells := fun c hc => (q2.cells c hc).aV (fun b hb => by
      obtain ⟨o, hg, _⟩ := (q2.cells c hc).isObj b hb
      exact ((e2 []) b _ hg (by simp)).1.trans hg.symm) (e2 _) fun b hb => List.mem_append_left _ (List.mem_flatMap.2 ⟨c, hc, hb⟩) }
  have fR := Made.app (γ := []) I.lc hm
  have q3' : aH { next := h'.next, low := h.low, aA := bI h.next h'.next h'.aA ++ h.aA } (own (gN ++ σ) ++ S0) r u := by
    rw [dF, List.append_assoc]; exact q3.nx (e2 _)
  refine hk r gN q1 h0 G S0 _ _ ms _ ((I.made fR).set q3' n2) fun ht => ?_
  obtain ⟨wL, a1, a2, a3, a4, a5, a6⟩ := (ho rfl).set (v := r) (u := u) (old := false) n2 fun e => by cases e
  refine ⟨wL, a1, a2.trans e1, l8.cons a2.next a3, a4, fun k pv hk hn => (a5 k pv hk hn).nx (h := wL) fun b ob hg hb => ⟨hg, ?_⟩, fun e => by cases e⟩; have h3 := a1 b ob hg; have h4 := a2.next; intro pJ; rcases List.mem_append.1 pJ with pJ | pJ
  . rcases fR.new b pJ with h5 | h5
    . exact hb (List.mem_append_left _ h5)
    omega
  exact hb (List.mem_append_right _ pJ)
end Go.Fs
