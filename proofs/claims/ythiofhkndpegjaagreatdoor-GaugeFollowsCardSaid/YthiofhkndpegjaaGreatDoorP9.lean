/- Parts of the proof: an evaluator of the model, what it is sound for, and contracts of functions. No condition. -/
import Derived.Test.YthiofhkndpegjaaGreatDoorP8
import Derived.Test.YthiofhkndpegjaaGreatDoorP6
import Derived.Test.YthiofhkndpegjaaGreatDoorP3
import Derived.Test.YthiofhkndpegjaaGreatDoorP2
set_option linter.all false
namespace Go.Proofs
open Go.Fs Ieee
set_option maxHeartbeats 4000000
abbrev dS : Ty := (.pair (.int .u8) (.int .u8))
theorem RM : fU Tryz.prog 5 (.int .u8) := gM (by kernel_rfl)
theorem RN {l : List Nat} (hl : l.length < 1000000) : gV Tryz.prog OA 96 [.v cL l] [] (fun r g => ∃ w, r = .raw w /\ g = [(w, .row 59 (.aO .f32) l)]) := by
  refine gV.enter Tryz.func96 rfl (fun _ _ => rfl) rfl ?_; show VC _ _ _ _ _ [(0, .v cL l)] [] _; refine VC.seq (VC.text ?_); refine J.c (.assign rfl) ?_; refine J.go (VC.seq (VC.text ?_)); refine J.cell (.aa7 bW) ?_; intro fI; refine J.c (.move rfl) ?_; refine J.app rfl rfl bW bW (by simp; omega) ?_; intro nD; refine J.c (.assign rfl) (J.go ?_); refine VC.ret ?_; exact mN.row rfl bP ⟨nD, rfl, (by rfl)⟩
theorem RO {r : ByteArray × Int × (List Nat) × (List (Int × Int))} (hl : r.2.2.1.length < 1000000) (hg : r.2.2.2.length < 1000000) : gV Tryz.prog OA 44 [.v dY r] [] (fun rr g => ∃ w, rr = .agg [St r.1, I r.2.1, .raw w, .v aZ r.2.2.2] /\ g = [(w, .row 59 (.aO .f32) r.2.2.1)]) := by
  refine gV.aj1 Tryz.func44 rfl (fun _ _ => rfl) rfl ?_; show VC _ _ _ _ _ [(0, .v dY r)] [] _; refine VC.seq (VC.text ?_); refine J.new (.box) ?_; refine J.cell (.alloc B4) ?_; intro lU; refine J.go (VC.seq (VC.drawn ?_)); refine VD.c (.fa (.l .o)) ?_; refine VD.r [] (.ld IP) (.inl rfl) ?_; refine VD.c (.fa (.r (.l .o))) ?_; refine VD.r [] (.ld cQ) (.inl rfl) ?_; refine VD.c (.fa (.r (.r (.l .o)))) ?_; refine VD.r [] (.ld dG) (.inl rfl) ?_; refine VD.nw [] ?_; refine VD.aj2 rfl rfl (gV.call (RN hl)) ?_; rintro _ _ ⟨tN, rfl, rfl⟩; show VD _ _ _ _ _ _ _ _ [(tN, .row 59 (.aO .f32) r.2.2.1), (lU, .var [St ByteArray.empty, I (0 : Int), .v cL [], .v aZ []])] _ _ _ _ _; refine VD.c (.fa (.r (.r (.r .o)))) ?_; refine VD.r [] (.ld tK) (.inl rfl) ?_; refine VD.call rfl rfl (VF.call (LX hg)) ?_; refine VD.one m0 fun ho5 => ?_; refine VD.c (.RA (cs := [St r.1, I r.2.1, .raw tN, .v aZ r.2.2.2]) UX rfl rfl (.cons (.v) rfl rfl (.cons (.v) rfl rfl (.cons (.w ho5) rfl rfl (.cons (.v) rfl rfl (.nil rfl)))))) ?_; refine VD.perm iL ?_; refine VD.DM (cT.tD (k := 0) fP (.TQ rfl (xS rfl (xS rfl (xS (p := .raw tN) ho5 (xS rfl rfl))))) (Nat.le_of_ble_eq_true rfl) (.inr ⟨rfl, rfl⟩) rfl rfl) ?_; rintro _ _ tl6 ⟨rfl, rfl⟩; refine VD.go ?_; refine VC.ret ?_; exact ⟨rfl, _, _, _, _, _, _, _, _, _, rfl, rfl, rfl, (.tail _ (.tail _ (.head _))), fP, rfl, rfl, ⟨_, rfl, rfl⟩⟩
def o6 (l : List Nat) (i : Nat) : List Nat := (List.range l.length).map fun j => if j < i then MO (l.getD j 0) else l.getD j 0
theorem oV {l : List Nat} {i : Nat} : (o6 l i).length = l.length := by simp [o6]
theorem zJ {l : List Nat} {i j : Nat} (h : j < l.length) : (o6 l i)[j]'(by rw [oV]; exact h) = if j < i then MO (l.getD j 0) else l.getD j 0 := by
  unfold o6; rw [List.getElem_map, List.getElem_range]
theorem aj3 {l : List Nat} : o6 l 0 = l := by
  refine List.ext_getElem oV fun j h1 h2 => ?_; rw [zJ h2, if_neg (by omega), fK h2]
theorem aj4 {l : List Nat} {i : Nat} (h : i < l.length) (h2 : i < (o6 l i).length) : (o6 l i).set i (MO (o6 l i)[i]) = o6 l (i + 1) := by
  refine List.ext_getElem (by rw [List.length_set, oV, oV]) fun j h3 h4 => ?_; rw [oV] at h4; rw [List.getElem_set, zJ (i := i + 1) h4]; by_cases e : i = j
  . subst e; rw [if_pos rfl, if_pos (by omega), zJ h, if_neg (by omega)]
  rw [if_neg e, zJ h4]; by_cases e2 : j < i
  . rw [if_pos e2, if_pos (by omega)]
  rw [if_neg e2, if_neg (by omega)]
theorem adU {l : List Nat} : o6 l l.length = l.map MO := by
  refine List.ext_getElem (by rw [oV, List.length_map]) fun j h1 h2 => ?_; rw [oV] at h1; rw [zJ h1, if_pos h1, fK h1, List.getElem_map]
theorem ajL {n : Int} (h : (Lit.int .u8 n).wf = true) : 0 <= n /\ n < 256 := by
  have h1 : (decide (IntKind.u8.min <= n) && decide (n <= IntKind.u8.max)) = true := h; obtain ⟨h2, h3⟩ := aQ h1; have h4 : (0 : Int) <= n := of_decide_eq_true h2; have h5 : n <= (255 : Int) := of_decide_eq_true h3; exact ⟨h4, by omega⟩
theorem J7 {r : aG} (h : cM r = 0) {t : Nat} (ht : t < r.2.2.1.length) (W3 : dP r t = true) : NV r = 0 /\ bD (fG r).2.2.2 = 0 /\ (∀ j : Nat, j < r.2.2.1.length -> dP r j = true -> bK (gF r j) <= bK (fG r).2.2.2) /\ ∃ q, q < r.2.2.1.length /\ dP r q = true /\ bK (gF r q) = bK (fG r).2.2.2 := by
  obtain ⟨_, _, _, a4, _, a6, a7⟩ := rN h; have cA := (oU r.2.2.1.length t ht W3).1; have a8 := a7 cA; obtain ⟨_, q, f1, f2, f3⟩ := sL _ cA; refine ⟨a6.2 cA, a4, fun j hj hr => ?_, q, f1, f2, ?_⟩
  . rw [a8.2]; exact (oU _ j hj hr).2.2
  rw [a8.2, f3]
theorem ahC {r : aG} {w : Int} (h : cM r = 0) (hw : 1 <= w /\ w <= 4096) {t : Nat} (ht : t < r.2.2.1.length) (W3 : dP r t = true) : ((fL r w 1065353216).any fun i => decide (bK (gF r i.toNat) = bK (fG r).2.2.2)) = true := by
  obtain ⟨_, _, hb, q, hq, hqr, hqe⟩ := J7 h ht W3; obtain ⟨i, hi, n, rfl, hn, he⟩ := adR (AE h hw) hb q hq hqr hqe; exact List.any_eq_true.2 ⟨_, hi, decide_eq_true he⟩
theorem aaY {r : aG} (h : cM r = 0) : 0 <= (fG r).1 /\ (fG r).1 <= 4096 /\ -4194304 <= (fG r).2.1 /\ (fG r).2.1 <= 4194304 := by
  have hr := dO h; obtain ⟨a1, a2, _⟩ := rN h; obtain ⟨b1, b2, b3, b4, _⟩ := MD hr.2.2.2.1 r.2.2.1.length (Nat.le_refl _); have := hr.2.1; rw [a1, a2]; omega
theorem RP {a b : aG} (h : tG a b = true) : a.2.2.1.length = b.2.2.1.length /\ a.2.2.2.length = b.2.2.2.length := by
  unfold tG at h; obtain ⟨h1, h2⟩ := aQ h; obtain ⟨_, h3⟩ := aQ h1; unfold pP at h3; exact ⟨(of_decide_eq_true h3).1, by rw [of_decide_eq_true h2]⟩
theorem aj5 {x y : Nat} (hx : bD x = 0) (hy : bD y = 0) : dB .eql .f32 x y = decide (bK x = bK y) := by
  rw [(nB (gW hx).1 (gW hy).1).1]; exact decide_eq_decide.2 ⟨fun h => by omega, fun h => by omega⟩
theorem adV {l : List Nat} {i : Nat} {z : Int} (hi : i < l.length) (hz : z.toNat < l.length) (hv : bD l[i] = 0) (WI : z = ((i - 1 : Nat) : Int)) (h : l.getD i 0 = l.getD (i - 1) 0) : dB .neq .f32 l[i] l[z.toNat] = false := by
  subst WI
  have e : l[((i - 1 : Nat) : Int).toNat] = l[i] := by
    rw [<- fK hz, <- fK hi, h] <;> rfl
  rw [e, RJ hv hv]; exact decide_eq_false (fun hh => hh rfl)
theorem aaZ {n : Int} {g : Int × Int} (h : 0 < g.1) : decide (tI n g) = !decide (g.2 - g.1 <= n) := by
  by_cases e : g.2 - g.1 <= n
  . rw [decide_eq_true e, decide_eq_false (fun hh => hh.elim (fun a => by omega) (fun a => by omega))] <;> rfl
  rw [decide_eq_false e, decide_eq_true (show tI n g from .inr (by omega))] <;> rfl
theorem ab0 {n : Int} {g : Int × Int} (h : ¬ 0 < g.1) (h0 : 0 <= g.1) : decide (tI n g) = true := decide_eq_true (.inl (by omega))
def vT (r : aG) (w : Int) (q : Nat) : Bool := ((fL r w 1065353216).take q).any fun i => decide (bK (gF r i.toNat) = bK (fG r).2.2.2)
theorem aj6 {r : aG} {w : Int} {q k : Nat} (h : q < (fL r w 1065353216).length) (hk : (fL r w 1065353216)[q] = (k : Int)) (hl : k < r.2.2.1.length) : vT r w (q + 1) = (vT r w q || decide (bK r.2.2.1[k] = bK (fG r).2.2.2)) := by
  unfold vT; rw [<- List.take_append_getElem h, List.any_append, List.any_cons, List.any_nil, Bool.or_false, hk]; show (_ || decide (bK (gF r k) = _)) = _; rw [gO hl]
theorem adW {r : aG} {w : Int} {q t : Nat} (h : cM r = 0) (hw : 1 <= w /\ w <= 4096) (ht : t < r.2.2.1.length) (W3 : dP r t = true) (hq : (fL r w 1065353216).length <= q) : vT r w q = true := by
  unfold vT; rw [List.take_of_length_le hq]; exact ahC h hw ht W3
def mo (n : Int × Int) : Int := n.1.tmod 10
def wi (n : Int × Int) : Int := 1 + n.2.tmod 10
theorem ak3 {n : Int × Int} (h : 0 <= n.1) : 0 <= mo n /\ mo n < 10 := by
  unfold mo; rw [Int.tmod_eq_emod_of_nonneg h]; omega
theorem ahD {n : Int × Int} (h : 0 <= n.2) : 1 <= wi n /\ wi n <= 10 := by
  unfold wi; rw [Int.tmod_eq_emod_of_nonneg h]; omega
structure vU (r : aG) (n : Int × Int) (k tj : Nat) : Prop where
  re : cM r = 0
  nb : (0 <= n.1 /\ n.1 < 256) /\ 0 <= n.2 /\ n.2 < 256
  st : r.2.1 <= 99900
  n0 : r.2.2.1.length ≠ 0
  n40 : r.2.2.1.length <= 40
  g8 : r.2.2.2.length <= 8
  tb : tj < r.2.2.1.length
  tr : dP r tj = true
  kt : n.1.tmod (((r.2.2.1.length : Nat) : Int) + (1 : Int)) = (k : Int)
  kl : k <= r.2.2.1.length
theorem vU.cut {r : aG} {n : Int × Int} {k tj : Nat} (h : vU r n k tj) : oT r k := ⟨h.re, h.kl, h.n40, h.g8, h.st⟩
theorem vU.fil {r : aG} {n : Int × Int} {k tj : Nat} (h : vU r n k tj) : uB r (mo n) = 0 := aiY h.re (by have := ak3 (n := n) h.nb.1.1; omega)
theorem vU.ahE {r : aG} {n : Int × Int} {k tj : Nat} (h : vU r n k tj) : cM (fQ r (mo n)) = 0 /\ (fQ r (mo n)).2.2.1.length = r.2.2.1.length := ah3 h.re h.fil (by have := h.n40; omega)
theorem adX {r : aG} {n : Int} : (o5 r n).length <= r.2.2.2.length := (qM (r := r) (n := n) _ (Nat.le_refl _)).2.2
theorem NX {r : ByteArray × Int × (List Nat) × (List (Int × Int))} {n : Int × Int} {k : Nat} {tj : Nat} {rB : Value} {mD : Value} (H : vU r n k tj) : VC Tryz.prog OA none (LC 22 (zZ Tryz.f13)) Tryz.f13.ntmps [(2, .p dY r), (6, I (wi n)), (20, .p qL (fG r)), (26, .v j8 (fL r (wi n) 1065353216))] [(rB, .var [St ((dH (aF r k) (b9 r k)).1), I ((dH (aF r k) (b9 r k)).2.1), .v cL ((dH (aF r k) (b9 r k)).2.2.1), .v aZ ((dH (aF r k) (b9 r k)).2.2.2)]), (mD, .var [St ((aF r k).1), I ((aF r k).2.1), .v cL ((aF r k).2.2.1), .v aZ ((aF r k).2.2.2)])] (aW Tryz.prog Tryz.f13 (B true)) := by
  refine VC.seq (VC.text ?_); have rM := H.re; have BZ := dO rM; have hwi := ahD (n := n) H.nb.2.1; have W4 := H.n40
  have hL2 : r.2.2.2.length < 1000000 := by have := H.g8; omega
  have RL := AE (w := wi n) rM (by omega); have bT := J7 rM H.tb H.tr
  have hWl : (fL r (wi n) 1065353216).length < 1000000 := by rw [AF RL]; have := G3 (r := r) (w := wi n) (g := 1065353216) r.2.2.1.length; omega
  refine J.c (.assign rfl) ?_; refine J.go (VC.seq (VC.seq (VC.text ?_))); refine J.c (.move rfl) ?_; refine J.r (.len mO) ?_; refine J.c (.move rfl) ?_; refine J.go (VC.block ?_); refine VC.aV [(2, .p dY r), (6, I (wi n)), (20, .p qL (fG r)), (34, B (vT r (wi n) 0)), (436, .v j8 (fL r (wi n) 1065353216)), (437, I (((fL r (wi n) 1065353216).length : Nat) : Int)), (438, I ((0 : Nat) : Int))] ⟨rfl, rfl, rfl, rfl, rfl, rfl, rfl, trivial⟩ ?_; refine VC.loop (I := fun kk ff ss => ∃ (q : Nat), kk = (fL r (wi n) 1065353216).length - q /\ ff = [(2, .p dY r), (6, I (wi n)), (20, .p qL (fG r)), (34, B (vT r (wi n) q)), (436, .v j8 (fL r (wi n) 1065353216)), (437, I (((fL r (wi n) 1065353216).length : Nat) : Int)), (438, I ((q : Nat) : Int))] /\ ss = [(rB, .var [St ((dH (aF r k) (b9 r k)).1), I ((dH (aF r k) (b9 r k)).2.1), .v cL ((dH (aF r k) (b9 r k)).2.2.1), .v aZ ((dH (aF r k) (b9 r k)).2.2.2)]), (mD, .var [St ((aF r k).1), I ((aF r k).2.1), .v cL ((aF r k).2.2.1), .v aZ ((aF r k).2.2.2)])] /\ (q <= (fL r (wi n) 1065353216).length)) ?_ _ _ _ ⟨0, rfl, rfl, rfl, (by omega)⟩; rintro kk ff ss ⟨q, hk8, rfl, rfl, hq⟩; refine VC.seq (VC.text ?_); refine J.c (.lss) ?_; refine J.go (VC.seq ?_); refine VC.aX rfl (fun c46 => ?_) (fun c46 => ?_)
  . have hq' : q < (fL r (wi n) 1065353216).length := by omega
    obtain ⟨iw, QK, oW, hkg, hkm⟩ := ah9 RL (List.getElem_mem hq'); have gU := aj6 hq' QK oW; have hvk := BZ.2.2.2.1 _ (List.getElem_mem oW); refine VC.skip (VC.seq (VC.block (VC.seq (VC.text ?_)))); refine J.c (.ix (j := q) rfl rfl mO (by omega)) ?_; refine J.r (.ld cQ) ?_; refine J.c (.assign rfl) ?_; rw [QK]; refine J.go (VC.seq (VC.seq (VC.text ?_))); refine J.c (.move rfl) (J.c (.lss) (J.c (.move rfl) ?_)); refine J.bJ (x := 444) rfl (fun ahF => ?_) (fun ahF => ?_)
    . exact absurd ahF (by omega)
    refine J.c (.move rfl) (J.c (.fa (.r (.r (.l .o)))) ?_); refine J.r (.ld dG) ?_; refine J.r (.len bW) ?_; refine J.c (.geq) (J.c (.bB rfl rfl) (J.c (.move rfl) ?_)); refine J.bJ (x := 451) rfl (fun ahG => ?_) (fun ahG => ?_)
    . exact absurd ahG (by omega)
    refine J.c (.fa (.r (.r (.r .o)))) ?_; refine J.r (.ld tK) ?_; refine J.c (.move rfl) ?_; refine J.call rfl rfl (VF.call (kM (by first | assumption | omega | simp))) ?_; refine J.c (.bB rfl rfl) (J.go ?_); refine VC.eR rfl (fun c48 => ?_) (fun c48 => ?_)
    . exact absurd c48 (by rw [<- QK, hkg]; decide)
    refine VC.skip (VC.seq (VC.seq (VC.text ?_))); refine J.c (.move rfl) (J.c (.move rfl) (J.c (.sub rfl rfl (by omega)) ?_)); refine J.r (.max) ?_; refine J.c (.assign rfl) ?_; refine J.go (VC.block ?_); refine VC.aV [(2, .p dY r), (6, I (wi n)), (20, .p qL (fG r)), (34, B (vT r (wi n) q)), (36, I ((iw : Nat) : Int)), (37, I ((((max (0 : Int) ((iw : Int) - wi n)).toNat) : Nat) : Int)), (436, .v j8 (fL r (wi n) 1065353216)), (437, I (((fL r (wi n) 1065353216).length : Nat) : Int)), (438, I ((q : Nat) : Int))] ⟨rfl, rfl, rfl, rfl, rfl, vH rfl (by omega), rfl, rfl, rfl, trivial⟩ ?_; refine VC.loop (I := fun kk ff ss => ∃ (m : Nat), kk = r.2.2.1.length - m /\ ff = [(2, .p dY r), (6, I (wi n)), (20, .p qL (fG r)), (34, B (vT r (wi n) q)), (36, I ((iw : Nat) : Int)), (37, I ((m : Nat) : Int)), (436, .v j8 (fL r (wi n) 1065353216)), (437, I (((fL r (wi n) 1065353216).length : Nat) : Int)), (438, I ((q : Nat) : Int))] /\ ss = [(rB, .var [St ((dH (aF r k) (b9 r k)).1), I ((dH (aF r k) (b9 r k)).2.1), .v cL ((dH (aF r k) (b9 r k)).2.2.1), .v aZ ((dH (aF r k) (b9 r k)).2.2.2)]), (mD, .var [St ((aF r k).1), I ((aF r k).2.1), .v cL ((aF r k).2.2.1), .v aZ ((aF r k).2.2.2)])] /\ (m <= r.2.2.1.length /\ (iw : Int) - wi n <= m)) ?_ _ _ _ ⟨(max (0 : Int) ((iw : Int) - wi n)).toNat, rfl, rfl, rfl, (by omega)⟩; rintro kk ff ss ⟨m, apA, rfl, rfl, hm⟩; refine VC.seq (VC.seq (VC.text ?_)); refine J.c (.move rfl) (J.c (.fa (.r (.r (.l .o)))) ?_); refine J.r (.ld dG) ?_; refine J.r (.len bW) ?_; refine J.c (.sub rfl rfl (by omega)) (J.c (.move rfl) (J.c (.move rfl) (J.c (.add rfl rfl (by omega)) ?_))); refine J.r (.min) ?_; refine J.c (.leq) (J.go ?_); refine VC.aX rfl (fun c51 => ?_) (fun c51 => ?_)
    . have hml : m < r.2.2.1.length := by omega
      have hvm := BZ.2.2.2.1 _ (List.getElem_mem hml); have hmb := hkm m hml hm.2 (by omega); refine VC.skip (VC.seq (VC.block (VC.seq (VC.drawn ?_)))); refine VD.c (.fa (.r (.r (.r .o)))) ?_; refine VD.r [] (.ld tK) (.inl rfl) ?_; refine VD.c (.move rfl) ?_; refine VD.call rfl rfl (VF.call (kM (by first | assumption | omega | simp))) ?_; refine VD.c (.not) (VD.c (.move rfl) (VD.nw [] ?_)); refine VD.iB (x := 478) rfl (fun RQ => ?_) (fun RQ => ?_)
      . try simp only [Bool.and_eq_true, Bool.or_eq_true, Bool.and_eq_false_iff, Bool.or_eq_false_iff, Bool.not_eq_true', Bool.not_eq_false', decide_eq_true_eq, decide_eq_false_iff_not] at RQ
        have hmg : Sp.bE r.2.2.2 (m : Int) = false := by simpa using RQ
        refine VD.c (.fa (.r (.r (.l .o)))) ?_; refine VD.r [] (.ld dG) (.inl rfl) ?_; refine VD.c (.move rfl) (VD.c (.ix (j := m) rfl rfl bW (by omega)) ?_); refine VD.r [] (.ld eN) (.inl rfl) ?_; refine VD.c (.fa (.r (.r (.l .o)))) (VD.nw [] ?_); refine VD.r [] (.ld dG) (.inl rfl) ?_; refine VD.c (.move rfl) (VD.c (.ix (j := iw) rfl rfl bW (by omega)) ?_); refine VD.r [] (.ld eN) (.inl rfl) ?_; refine VD.c (.jE (b := .gtr) (G6 hvm hvk)) (VD.c (.cZ rfl rfl) (VD.go ?_)); refine VC.aX rfl (fun c53 => ?_) (fun c53 => ?_)
        . exact absurd (hmb hmg) (by rw [gO hml, gO oW]; omega)
        refine VC.skip (VC.text ?_); refine J.c (.move rfl) (J.c (.add rfl rfl (by omega)) (J.c (.assign rfl) ?_)); refine J.nil ?_; refine ⟨_, [(2, .p dY r), (6, I (wi n)), (20, .p qL (fG r)), (34, B (vT r (wi n) q)), (36, I ((iw : Nat) : Int)), (37, I (((m + 1) : Nat) : Int)), (436, .v j8 (fL r (wi n) 1065353216)), (437, I (((fL r (wi n) 1065353216).length : Nat) : Int)), (438, I ((q : Nat) : Int))], ?_, ⟨rfl, rfl, rfl, rfl, rfl, rfl, rfl, rfl, rfl, trivial⟩, (m + 1), rfl, rfl, rfl, (by omega)⟩; omega
      try simp only [Bool.and_eq_true, Bool.or_eq_true, Bool.and_eq_false_iff, Bool.or_eq_false_iff, Bool.not_eq_true', Bool.not_eq_false', decide_eq_true_eq, decide_eq_false_iff_not] at RQ
      refine VD.skip (VD.skip (VD.skip (VD.skip ?_))); refine VD.skip (VD.skip (VD.nw [] (VD.skip ?_))); refine VD.skip (VD.skip (VD.skip (VD.skip ?_))); refine VD.c (.bB rfl rfl) (VD.go ?_); refine VC.uP rfl ?_; refine VC.skip (VC.text ?_); refine J.c (.move rfl) (J.c (.add rfl rfl (by omega)) (J.c (.assign rfl) ?_)); refine J.nil ?_; refine ⟨_, [(2, .p dY r), (6, I (wi n)), (20, .p qL (fG r)), (34, B (vT r (wi n) q)), (36, I ((iw : Nat) : Int)), (37, I (((m + 1) : Nat) : Int)), (436, .v j8 (fL r (wi n) 1065353216)), (437, I (((fL r (wi n) 1065353216).length : Nat) : Int)), (438, I ((q : Nat) : Int))], ?_, ⟨rfl, rfl, rfl, rfl, rfl, rfl, rfl, rfl, rfl, trivial⟩, (m + 1), rfl, rfl, rfl, (by omega)⟩; omega
    refine VC.exit (VC.drawn ?_); refine VD.c (.move rfl) (VD.c (.move rfl) ?_); refine VD.iB (x := 492) rfl (fun C2 => ?_) (fun C2 => ?_)
    . refine VD.skip (VD.skip (VD.skip (VD.nw [] ?_))); refine VD.skip (VD.skip (VD.skip (VD.skip ?_))); refine VD.skip (VD.c (.cZ rfl rfl) (VD.c (.assign rfl) ?_)); refine VD.nil ?_; refine VC.text ?_; refine J.c (.add rfl rfl (by omega)) (J.c (.move rfl) ?_); refine J.nil ?_; refine ⟨_, [(2, .p dY r), (6, I (wi n)), (20, .p qL (fG r)), (34, B (vT r (wi n) (q + 1))), (436, .v j8 (fL r (wi n) 1065353216)), (437, I (((fL r (wi n) 1065353216).length : Nat) : Int)), (438, I (((q + 1) : Nat) : Int))], ?_, ⟨rfl, rfl, rfl, rK rfl (by first | (rw [gU, C2, Bool.true_or]; done) | (rw [gU, C2, Bool.false_or]; done) | (rw [gU, C2]; rfl)), rfl, rfl, rfl, trivial⟩, (q + 1), rfl, rfl, rfl, (by omega)⟩; omega
    refine VD.c (.fa (.r (.r (.l .o)))) ?_; refine VD.r [] (.ld dG) (.inl rfl) ?_; refine VD.c (.move rfl) (VD.nw [] (VD.c (.ix (j := iw) rfl rfl bW (by omega)) ?_)); refine VD.r [] (.ld eN) (.inl rfl) ?_; refine VD.c (.fa (.r (.r (.r .o)))) ?_; refine VD.r [] (.ld eN) (.inl rfl) ?_; refine VD.c (.jE (b := .eql) (aj5 hvk bT.2.1)) (VD.c (.bB rfl rfl) (VD.c (.assign rfl) ?_)); refine VD.nil ?_; refine VC.text ?_; refine J.c (.add rfl rfl (by omega)) (J.c (.move rfl) ?_); refine J.nil ?_; refine ⟨_, [(2, .p dY r), (6, I (wi n)), (20, .p qL (fG r)), (34, B (vT r (wi n) (q + 1))), (436, .v j8 (fL r (wi n) 1065353216)), (437, I (((fL r (wi n) 1065353216).length : Nat) : Int)), (438, I (((q + 1) : Nat) : Int))], ?_, ⟨rfl, rfl, rfl, rK rfl (by first | (rw [gU, C2, Bool.true_or]; done) | (rw [gU, C2, Bool.false_or]; done) | (rw [gU, C2]; rfl)), rfl, rfl, rfl, trivial⟩, (q + 1), rfl, rfl, rfl, (by omega)⟩; omega
  have ao3 := adW (q := q) (w := wi n) rM (by omega) H.tb H.tr (by omega); refine VC.exit (VC.seq (VC.text ?_)); refine J.c (.move rfl) (J.c (.assign rfl) (J.go ?_)); refine VC.ret ?_; exact aW.one rfl bP (fF (by exact ao3))
theorem NY {r : ByteArray × Int × (List Nat) × (List (Int × Int))} {n : Int × Int} {k : Nat} {tj : Nat} {rB : Value} {mD : Value} (H : vU r n k tj) : VC Tryz.prog OA none (LC 16 (zZ Tryz.f13)) Tryz.f13.ntmps [(2, .p dY r), (6, I (wi n)), (20, .p qL (fG r))] [(rB, .var [St ((dH (aF r k) (b9 r k)).1), I ((dH (aF r k) (b9 r k)).2.1), .v cL ((dH (aF r k) (b9 r k)).2.2.1), .v aZ ((dH (aF r k) (b9 r k)).2.2.2)]), (mD, .var [St ((aF r k).1), I ((aF r k).2.1), .v cL ((aF r k).2.2.1), .v aZ ((aF r k).2.2.2)])] (aW Tryz.prog Tryz.f13 (B true)) := by
  refine VC.seq (VC.text ?_); have rM := H.re; have BZ := dO rM; have hwi := ahD (n := n) H.nb.2.1; have W4 := H.n40; have hg8 := H.g8
  have hL1 : r.2.2.1.length < 1000000 := by omega
  have hL2 : r.2.2.2.length < 1000000 := by omega
  have RL := AE (w := wi n) rM (by omega); have hu0 := AE (w := wi n) (W0 rM) (by omega); have hwu := ahB (w := wi n) rM (by omega); have bT := J7 rM H.tb H.tr; have hab := adS rM bT.2.1 bT.2.2.1; have FF : (tM r).2.2.1.length = r.2.2.1.length := pS
  have hL3 : (tM r).2.2.1.length < 1000000 := by omega
  have hL4 : (tM r).2.2.2.length < 1000000 := hL2
  have hWl : (fL r (wi n) 1065353216).length < 1000000 := by rw [AF RL]; have := G3 (r := r) (w := wi n) (g := 1065353216) r.2.2.1.length; omega
  have hUl : (fL (tM r) (wi n) 3212836864).length < 1000000 := by rw [hwu]; exact hWl
  refine J.r (.ld rQ) ?_; refine J.call rfl rfl (VF.call (l3 (by first | assumption | omega | simp) (by first | assumption | omega | simp))) ?_; refine J.c (.move rfl) ?_; refine J.call rfl rfl (VF.call (ZD (by first | assumption | omega | simp) (by first | assumption | omega | simp))) ?_; refine J.c (.move rfl) (J.c (.extract) (J.c (.extract) (J.c (.assign rfl) ?_))); refine J.c (.assign rfl) ?_; refine J.go (VC.seq (VC.text ?_)); refine J.r (.ld rQ) ?_; refine J.pL [] rfl rfl rfl (gV.call (RO (by first | assumption | omega | simp) (by first | assumption | omega | simp))) ?_; rintro _ _ ⟨o4, rfl, rfl⟩; show J _ _ _ _ _ _ [(o4, .row 59 (.aO .f32) r.2.2.1), (rB, .var [St ((dH (aF r k) (b9 r k)).1), I ((dH (aF r k) (b9 r k)).2.1), .v cL ((dH (aF r k) (b9 r k)).2.2.1), .v aZ ((dH (aF r k) (b9 r k)).2.2.2)]), (mD, .var [St ((aF r k).1), I ((aF r k).2.1), .v cL ((aF r k).2.2.1), .v aZ ((aF r k).2.2.2)])] _; refine J.one m0 fun ao4 => ?_; refine J.cell (.alloc B4) ?_; intro zD; refine J.lJ (cs' := [St r.1, I r.2.1, .raw o4, .v aZ r.2.2.2]) fP (.TQ rfl (xS rfl (xS rfl (xS (p := .raw o4) ao4 (xS rfl rfl))))) ?_; refine J.go (VC.seq (VC.seq (VC.text ?_))); refine J.c (.s9 (k := 2) m0) ?_; refine J.r (.wN (k := 2) m0 dG) ?_; refine J.r (.TM m1 bW) ?_; refine J.c (.move rfl) ?_; refine J.go (VC.block ?_); refine VC.aV [(2, .p dY r), (6, I (wi n)), (20, .p qL (fG r)), (26, .v j8 (fL r (wi n) 1065353216)), (27, I (vR r (wi n))), (28, .raw zD), (386, I ((r.2.2.1.length : Nat) : Int)), (387, I ((0 : Nat) : Int))] ⟨rfl, rfl, rfl, rfl, rfl, rfl, rfl, rfl, trivial⟩ ?_; refine VC.loop (I := fun kk ff ss => ∃ (i : Nat), kk = r.2.2.1.length - i /\ ff = [(2, .p dY r), (6, I (wi n)), (20, .p qL (fG r)), (26, .v j8 (fL r (wi n) 1065353216)), (27, I (vR r (wi n))), (28, .raw zD), (386, I ((r.2.2.1.length : Nat) : Int)), (387, I ((i : Nat) : Int))] /\ ss = [(zD, .var [St r.1, I r.2.1, .raw o4, .v aZ r.2.2.2]), (o4, .row 59 (.aO .f32) (o6 r.2.2.1 i)), (rB, .var [St ((dH (aF r k) (b9 r k)).1), I ((dH (aF r k) (b9 r k)).2.1), .v cL ((dH (aF r k) (b9 r k)).2.2.1), .v aZ ((dH (aF r k) (b9 r k)).2.2.2)]), (mD, .var [St ((aF r k).1), I ((aF r k).2.1), .v cL ((aF r k).2.2.1), .v aZ ((aF r k).2.2.2)])] /\ (i <= r.2.2.1.length)) ?_ _ _ _ ⟨0, rfl, rfl, (by rw [aj3]), Nat.zero_le _⟩; rintro kk ff ss ⟨i, hk6, rfl, rfl, hi⟩; refine VC.seq (VC.text ?_); refine J.c (.lss) ?_; refine J.go (VC.seq ?_); refine VC.aX rfl (fun c36 => ?_) (fun c36 => ?_)
  . have kQ : i < r.2.2.1.length := by omega
    have uV : (o6 r.2.2.1 i).length = r.2.2.1.length := oV; have hns : (o6 r.2.2.1 i).set i (Op.negFloat .f32 ((o6 r.2.2.1 i)[i]'(by omega))) = o6 r.2.2.1 (i + 1) := aj4 kQ (by omega); refine VC.skip (VC.seq (VC.block (VC.seq (VC.text ?_)))); refine J.c (.move rfl) (J.c (.assign rfl) ?_); refine J.go (VC.drawn ?_); refine VD.co (.s9 (k := 2) m0) ?_; refine VD.r [(zD, .var [St r.1, I r.2.1, .raw o4, .v aZ r.2.2.2]), (o4, .row 59 (.aO .f32) (o6 r.2.2.1 i)), (rB, .var [St ((dH (aF r k) (b9 r k)).1), I ((dH (aF r k) (b9 r k)).2.1), .v cL ((dH (aF r k) (b9 r k)).2.2.1), .v aZ ((dH (aF r k) (b9 r k)).2.2.2)]), (mD, .var [St ((aF r k).1), I ((aF r k).2.1), .v cL ((aF r k).2.2.1), .v aZ ((aF r k).2.2.2)])] (.wN (k := 2) m0 dG) (.inr ⟨rfl, rfl⟩) ?_; refine VD.c (.move rfl) ?_; refine VD.co (.s9 (k := 2) m0) ?_; refine VD.r [(zD, .var [St r.1, I r.2.1, .raw o4, .v aZ r.2.2.2]), (o4, .row 59 (.aO .f32) (o6 r.2.2.1 i)), (rB, .var [St ((dH (aF r k) (b9 r k)).1), I ((dH (aF r k) (b9 r k)).2.1), .v cL ((dH (aF r k) (b9 r k)).2.2.1), .v aZ ((dH (aF r k) (b9 r k)).2.2.2)]), (mD, .var [St ((aF r k).1), I ((aF r k).2.1), .v cL ((aF r k).2.2.1), .v aZ ((aF r k).2.2.2)])] (.wN (k := 2) m0 dG) (.inr ⟨rfl, rfl⟩) ?_; refine VD.c (.move rfl) (VD.nw [] ?_); refine VD.co (.AP (j := i) rfl rfl m1 bW (by omega)) ?_; refine VD.r [(zD, .var [St r.1, I r.2.1, .raw o4, .v aZ r.2.2.2]), (o4, .row 59 (.aO .f32) (o6 r.2.2.1 i)), (rB, .var [St ((dH (aF r k) (b9 r k)).1), I ((dH (aF r k) (b9 r k)).2.1), .v cL ((dH (aF r k) (b9 r k)).2.2.1), .v aZ ((dH (aF r k) (b9 r k)).2.2.2)]), (mD, .var [St ((aF r k).1), I ((aF r k).2.1), .v cL ((aF r k).2.2.1), .v aZ ((aF r k).2.2.2)])] (.TL rfl m1 eN (by omega)) (.inr ⟨rfl, rfl⟩) ?_; refine VD.c ((.ao1 (k := .f32))) ?_; refine VD.co (.AP (j := i) rfl rfl m1 bW (by omega)) ?_; refine VD.perm iL ?_; refine VD.DM (cT.AZ (j := i) eN (by omega) rfl rfl) ?_; rintro _ _ apB ⟨rfl, rfl⟩; refine VD.nil ?_; refine VC.text ?_; refine J.c (.add rfl rfl (by omega)) (J.c (.move rfl) ?_); refine J.perm rJ ?_; refine J.perm rJ ?_; refine J.perm wQ ?_; refine J.perm rJ ?_; refine J.nil ?_; refine ⟨_, [(2, .p dY r), (6, I (wi n)), (20, .p qL (fG r)), (26, .v j8 (fL r (wi n) 1065353216)), (27, I (vR r (wi n))), (28, .raw zD), (386, I ((r.2.2.1.length : Nat) : Int)), (387, I (((i + 1) : Nat) : Int))], ?_, ⟨rfl, rfl, rfl, rfl, rfl, rfl, rfl, rfl, trivial⟩, (i + 1), rfl, rfl, (by rw [hns]), (by omega)⟩; omega
  have cA : o6 r.2.2.1 i = r.2.2.1.map MO := by rw [show i = r.2.2.1.length by omega]; exact adU
  refine VC.exit (VC.seq ?_); refine VC.perm iL ?_; refine VC.yP [(o4, .row 59 (.aO .f32) (o6 r.2.2.1 i)), (zD, .var [St r.1, I r.2.1, .raw o4, .v aZ r.2.2.2])] [(28, .p dJ (r.1, r.2.1, (o6 r.2.2.1 i), r.2.2.2))] rfl (.cons rfl (.var m1 (.cons .same (.cons .same (.cons (.row m0) (.cons .same .nil))))) .nil) ?_; refine VC.text ?_; refine J.r (.ld fP) ?_; rw [cA]; refine J.c (.move rfl) ?_; refine J.call rfl rfl (VF.call (ad3 (by first | assumption | omega | simp) (by first | assumption | omega | simp))) ?_; refine J.c (.move rfl) (J.c (.extract) (J.c (.extract) (J.c (.assign rfl) ?_))); refine J.c (.assign rfl) ?_; refine J.go (VC.seq (VC.drawn ?_)); refine VD.r [] (.ld rQ) (.inl rfl) ?_; refine VD.call rfl rfl (VF.call (l3 (by first | assumption | omega | simp) (by first | assumption | omega | simp))) ?_; refine VD.c (.fa (.r (.r (.r .o)))) ?_; refine VD.r [] (.ld eN) (.inl rfl) ?_; refine VD.oE rfl rfl (VF.call (ZB (by first | assumption | omega | simp) (by first | assumption | omega | simp))) ?_; refine VD.c (.move rfl) (VD.nw [407, 412, 409] (VD.c (.extract) (VD.c (.extract) ?_))); refine VD.c (.assign rfl) (VD.c (.assign rfl) ?_); refine VD.go (VC.seq (VC.seq (VC.text ?_))); refine J.c (.move rfl) (J.c (.neq) (J.c (.move rfl) ?_)); refine J.bJ (x := 417) rfl (fun ahH => ?_) (fun ahH => ?_)
  . exact absurd RL ahH
  refine J.c (.move rfl) (J.c (.neq) (J.c (.bB rfl rfl) (J.c (.move rfl) ?_))); refine J.bJ (x := 421) rfl (fun ahI => ?_) (fun ahI => ?_)
  . exact absurd hu0 ahI
  refine J.c (.move rfl) (J.c (.neq) (J.c (.bB rfl rfl) (J.c (.move rfl) ?_))); refine J.bJ (x := 425) rfl (fun ab1 => ?_) (fun ab1 => ?_)
  . exact absurd hab.1 ab1
  refine J.c (.move rfl) ?_; refine J.r (.len cD) ?_; refine J.c (.neq) (J.c (.bB rfl rfl) (J.c (.move rfl) ?_)); refine J.bJ (x := 430) rfl (fun ab2 => ?_) (fun ab2 => ?_)
  . exact absurd (by rw [hab.2]; rfl) ab2
  refine J.c (.move rfl) (J.c (.move rfl) ?_); refine J.call rfl rfl (VF.call (Z8 (by first | assumption | omega | simp) (by first | assumption | omega | simp))) ?_; refine J.c (.not) (J.c (.bB rfl rfl) (J.go ?_)); refine VC.eR rfl (fun c42 => ?_) (fun c42 => ?_)
  . try simp only [Bool.and_eq_true, Bool.or_eq_true, Bool.and_eq_false_iff, Bool.or_eq_false_iff, Bool.not_eq_true', Bool.not_eq_false', decide_eq_true_eq, decide_eq_false_iff_not] at c42
    exact absurd hwu.symm c42
  try simp only [Bool.and_eq_true, Bool.or_eq_true, Bool.and_eq_false_iff, Bool.or_eq_false_iff, Bool.not_eq_true', Bool.not_eq_false', decide_eq_true_eq, decide_eq_false_iff_not] at c42
  refine VC.skip ?_; refine VC.aV [(2, .p dY r), (6, I (wi n)), (20, .p qL (fG r)), (26, .v j8 (fL r (wi n) 1065353216))] ⟨rfl, rfl, rfl, rfl, trivial⟩ ?_; exact NX (r := r) (n := n) H
theorem NZ {r : ByteArray × Int × (List Nat) × (List (Int × Int))} {n : Int × Int} {k : Nat} {tj : Nat} {rB : Value} {mD : Value} (H : vU r n k tj) : VC Tryz.prog OA none (LC 12 (zZ Tryz.f13)) Tryz.f13.ntmps [(2, .p dY r), (6, I (wi n)), (14, .raw mD), (15, .p dY (b9 r k)), (18, .raw rB), (19, I (xP (aF r k) (b9 r k)))] [(rB, .var [St ((dH (aF r k) (b9 r k)).1), I ((dH (aF r k) (b9 r k)).2.1), .v cL ((dH (aF r k) (b9 r k)).2.2.1), .v aZ ((dH (aF r k) (b9 r k)).2.2.2)]), (mD, .var [St ((aF r k).1), I ((aF r k).2.1), .v cL ((aF r k).2.2.1), .v aZ ((aF r k).2.2.2)])] (aW Tryz.prog Tryz.f13 (B true)) := by
  refine VC.seq (VC.text ?_); have oO := H.cut; have BZ := dO H.re; have hhe := AA oO; have hte := AB oO; have hhr := dO hhe; have W3 := dO hte
  have hL1 : r.2.2.1.length < 1000000 := by omega
  have hL2 : r.2.2.2.length < 1000000 := by omega
  have hL3 : (aF r k).2.2.1.length < 1000000 := by omega
  have hL4 : (aF r k).2.2.2.length < 1000000 := by omega
  have hL5 : (b9 r k).2.2.1.length < 1000000 := by omega
  have hL6 : (b9 r k).2.2.2.length < 1000000 := by omega
  have bT := J7 H.re H.tb H.tr; have W5 := rN H.re; have WR := rN hhe; have YK := rN hte; have apC := WR.2.2.2.2.1; have apD := YK.2.2.2.2.1; have hbh := aaY hhe; have NU := aaY hte; have pB := ah7 oO; have vB := RP pB.2
  have hL7 : (dH (aF r k) (b9 r k)).2.2.1.length < 1000000 := by omega
  have hL8 : (dH (aF r k) (b9 r k)).2.2.2.length < 1000000 := by omega
  have yW := ah8 oO; have hhb := fun h => adO oO h; have UW := fun h => adP oO h; refine J.r (.ld rQ) ?_; refine J.call rfl rfl (VF.call (l3 (by first | assumption | omega | simp) (by first | assumption | omega | simp))) ?_; refine J.call rfl rfl (VF.call (MF (by first | assumption | omega | simp) (by first | assumption | omega | simp))) ?_; refine J.c (.move rfl) (J.c (.extract) (J.c (.extract) ?_)); refine J.cell (.alloc P6) ?_; intro M8; refine J.lJ (cs' := [I ((fG r).1), I ((fG r).2.1), .v (.aO .f32) ((fG r).2.2.1), .v (.aO .f32) ((fG r).2.2.2)]) vS .v ?_; refine J.shut [(20, .p qL (fG r))] (.cons rfl (.var m0 .refl) .nil) ?_; refine J.c (.assign rfl) ?_; refine J.go (VC.seq (VC.text ?_)); refine J.r (.IH (dx := aF r k) m1 rQ) ?_; refine J.call rfl rfl (VF.call (l3 (by first | assumption | omega | simp) (by first | assumption | omega | simp))) ?_; refine J.call rfl rfl (VF.call (MF (by first | assumption | omega | simp) (by first | assumption | omega | simp))) ?_; refine J.c (.move rfl) (J.c (.extract) (J.c (.extract) ?_)); refine J.cell (.alloc P6) ?_; intro zC; refine J.lJ (cs' := [I ((fG (aF r k)).1), I ((fG (aF r k)).2.1), .v (.aO .f32) ((fG (aF r k)).2.2.1), .v (.aO .f32) ((fG (aF r k)).2.2.2)]) vS .v ?_; refine J.shut [(22, .p qL (fG (aF r k)))] (.cons rfl (.var m0 .refl) .nil) ?_; refine J.c (.assign rfl) ?_; refine J.go (VC.seq (VC.text ?_)); refine J.r (.ld rQ) ?_; refine J.call rfl rfl (VF.call (l3 (by first | assumption | omega | simp) (by first | assumption | omega | simp))) ?_; refine J.call rfl rfl (VF.call (MF (by first | assumption | omega | simp) (by first | assumption | omega | simp))) ?_; refine J.c (.move rfl) (J.c (.extract) (J.c (.extract) ?_)); refine J.cell (.alloc P6) ?_; intro apE; refine J.lJ (cs' := [I ((fG (b9 r k)).1), I ((fG (b9 r k)).2.1), .v (.aO .f32) ((fG (b9 r k)).2.2.1), .v (.aO .f32) ((fG (b9 r k)).2.2.2)]) vS .v ?_; refine J.shut [(24, .p qL (fG (b9 r k)))] (.cons rfl (.var m0 .refl) .nil) ?_; refine J.c (.assign rfl) ?_; refine J.go (VC.seq (VC.seq ?_)); refine VC.join [(2, .p dY r), (6, I (wi n)), (20, .p qL (fG r)), (374, B false)] [(rB, .var [St ((dH (aF r k) (b9 r k)).1), I ((dH (aF r k) (b9 r k)).2.1), .v cL ((dH (aF r k) (b9 r k)).2.2.1), .v aZ ((dH (aF r k) (b9 r k)).2.2.2)]), (mD, .var [St ((aF r k).1), I ((aF r k).2.1), .v cL ((aF r k).2.2.1), .v aZ ((aF r k).2.2.2)])] ?_ ?_
  . skip
    refine VC.drawn ?_; refine VD.c (.move rfl) (VD.c (.neq) (VD.c (.move rfl) ?_)); refine VD.bJ (x := 292) rfl (fun ahJ => ?_) (fun ahJ => ?_)
    . exact absurd pB.1 ahJ
    refine VD.r [(rB, .var [St ((dH (aF r k) (b9 r k)).1), I ((dH (aF r k) (b9 r k)).2.1), .v cL ((dH (aF r k) (b9 r k)).2.2.1), .v aZ ((dH (aF r k) (b9 r k)).2.2.2)]), (mD, .var [St ((aF r k).1), I ((aF r k).2.1), .v cL ((aF r k).2.2.1), .v aZ ((aF r k).2.2.2)])] (.IH (dx := dH (aF r k) (b9 r k)) m0 fP) (.inr ⟨rfl, rfl⟩) ?_; refine VD.call rfl rfl (VF.call (V9 )) ?_; refine VD.nw [294] ?_; refine VD.r [] (.ld rQ) (.inl rfl) ?_; refine VD.oE rfl rfl (VF.call (RD (by first | assumption | omega | simp) (by first | assumption | omega | simp) (by first | assumption | omega | simp))) ?_; refine VD.c (.not) (VD.c (.bB rfl rfl) (VD.c (.move rfl) ?_)); refine VD.iB (x := 299) rfl (fun RR => ?_) (fun RR => ?_)
    . try simp only [Bool.and_eq_true, Bool.or_eq_true, Bool.and_eq_false_iff, Bool.or_eq_false_iff, Bool.not_eq_true', Bool.not_eq_false', decide_eq_true_eq, decide_eq_false_iff_not] at RR
      exact absurd pB.2 (by rw [RR]; decide)
    try simp only [Bool.and_eq_true, Bool.or_eq_true, Bool.and_eq_false_iff, Bool.or_eq_false_iff, Bool.not_eq_true', Bool.not_eq_false', decide_eq_true_eq, decide_eq_false_iff_not] at RR
    refine VD.c (.move rfl) (VD.nw [294] (VD.c (.neq) (VD.c (.bB rfl rfl) ?_))); refine VD.c (.move rfl) ?_; refine VD.bJ (x := 303) rfl (fun ab3 => ?_) (fun ab3 => ?_)
    . exact absurd bT.1 ab3
    refine VD.c (.move rfl) (VD.c (.neq) (VD.c (.move rfl) (VD.nw [294] ?_))); refine VD.bJ (x := 306) rfl (fun EA => ?_) (fun EA => ?_)
    . refine VD.c (.move rfl) (VD.c (.neq) (VD.c (.cZ rfl rfl) (VD.c (.bB rfl rfl) ?_))); refine VD.c (.move rfl) ?_; refine VD.bJ (x := 311) rfl (fun ab4 => ?_) (fun ab4 => ?_)
      . exact absurd ab4 (by omega)
      refine VD.nw [294] (VD.c (.move rfl) (VD.c (.neq) (VD.c (.move rfl) ?_))); refine VD.bJ (x := 314) rfl (fun xG => ?_) (fun xG => ?_)
      . refine VD.c (.move rfl) (VD.c (.neq) (VD.c (.cZ rfl rfl) (VD.nw [294] ?_))); refine VD.c (.bB rfl rfl) (VD.c (.move rfl) ?_); refine VD.bJ (x := 319) rfl (fun EB => ?_) (fun EB => ?_)
        . exact absurd EB (by omega)
        refine VD.c (.fa (.l .o)) ?_; refine VD.r [] (.ld cQ) (.inl rfl) ?_; refine VD.c (.fa (.l .o)) ?_; refine VD.r [] (.ld cQ) (.inl rfl) ?_; refine VD.nw [294] (VD.c (.fa (.l .o)) ?_); refine VD.r [] (.ld cQ) (.inl rfl) ?_; refine VD.c (.add rfl rfl (by omega)) (VD.c (.neq) (VD.c (.bB rfl rfl) (VD.c (.move rfl) ?_))); refine VD.bJ (x := 329) rfl (fun pT => ?_) (fun pT => ?_)
        . exact absurd yW.1 pT
        refine VD.nw [294] (VD.c (.fa (.r (.l .o))) ?_); refine VD.r [] (.ld cQ) (.inl rfl) ?_; refine VD.c (.fa (.r (.l .o))) ?_; refine VD.r [] (.ld cQ) (.inl rfl) ?_; refine VD.c (.fa (.r (.l .o))) ?_; refine VD.r [] (.ld cQ) (.inl rfl) ?_; refine VD.c (.add rfl rfl (by omega)) (VD.nw [294] (VD.c (.neq) (VD.c (.bB rfl rfl) ?_))); refine VD.c (.move rfl) ?_; refine VD.bJ (x := 339) rfl (fun pU => ?_) (fun pU => ?_)
        . exact absurd yW.2 pU
        refine VD.c (.move rfl) (VD.c (.eql) (VD.c (.move rfl) (VD.nw [294] ?_))); refine VD.bJ (x := 342) rfl (fun lD => ?_) (fun lD => ?_)
        . exact absurd lD EA
        refine VD.skip (VD.skip (VD.skip (VD.skip ?_))); refine VD.skip (VD.skip (VD.nw [294] (VD.skip ?_))); refine VD.skip (VD.skip (VD.skip (VD.skip ?_))); refine VD.skip (VD.c (.bB rfl rfl) (VD.nw [294] (VD.c (.bB rfl rfl) ?_))); refine VD.c (.move rfl) (VD.c (.move rfl) (VD.c (.eql) (VD.c (.move rfl) ?_))); refine VD.bJ (x := 360) rfl (fun jV => ?_) (fun jV => ?_)
        . exact absurd jV xG
        refine VD.skip (VD.nw [294] (VD.skip (VD.skip ?_))); refine VD.skip (VD.skip (VD.skip (VD.skip ?_))); refine VD.skip (VD.nw [294] (VD.skip (VD.skip ?_))); refine VD.skip (VD.skip (VD.c (.bB rfl rfl) (VD.c (.bB rfl rfl) ?_))); refine VD.nil ?_; exact ⟨⟨rfl, rfl, rfl, rK rfl (by first | rfl | (refine decide_eq_false ?_; have := (UW jV).2; omega)), trivial⟩, rfl⟩
      refine VD.skip (VD.skip (VD.c (.bB rfl rfl) (VD.nw [294] ?_))); refine VD.c (.bB rfl rfl) (VD.c (.move rfl) (VD.c (.fa (.l .o)) ?_)); refine VD.r [] (.ld cQ) (.inl rfl) ?_; refine VD.c (.fa (.l .o)) ?_; refine VD.r [] (.ld cQ) (.inl rfl) ?_; refine VD.c (.fa (.l .o)) (VD.nw [294] ?_); refine VD.r [] (.ld cQ) (.inl rfl) ?_; refine VD.c (.add rfl rfl (by omega)) (VD.c (.neq) (VD.c (.bB rfl rfl) (VD.c (.move rfl) ?_))); refine VD.bJ (x := 329) rfl (fun pT => ?_) (fun pT => ?_)
      . exact absurd yW.1 pT
      refine VD.c (.fa (.r (.l .o))) (VD.nw [294] ?_); refine VD.r [] (.ld cQ) (.inl rfl) ?_; refine VD.c (.fa (.r (.l .o))) ?_; refine VD.r [] (.ld cQ) (.inl rfl) ?_; refine VD.c (.fa (.r (.l .o))) ?_; refine VD.r [] (.ld cQ) (.inl rfl) ?_; refine VD.c (.add rfl rfl (by omega)) (VD.c (.neq) (VD.nw [294] (VD.c (.bB rfl rfl) ?_))); refine VD.c (.move rfl) ?_; refine VD.bJ (x := 339) rfl (fun pU => ?_) (fun pU => ?_)
      . exact absurd yW.2 pU
      refine VD.c (.move rfl) (VD.c (.eql) (VD.c (.move rfl) ?_)); refine VD.bJ (x := 342) rfl (fun lD => ?_) (fun lD => ?_)
      . exact absurd lD EA
      refine VD.nw [294] (VD.skip (VD.skip (VD.skip ?_))); refine VD.skip (VD.skip (VD.skip (VD.skip ?_))); refine VD.nw [294] (VD.skip (VD.skip (VD.skip ?_))); refine VD.skip (VD.skip (VD.c (.bB rfl rfl) (VD.c (.bB rfl rfl) ?_))); refine VD.nw [294] (VD.c (.move rfl) (VD.c (.move rfl) (VD.c (.eql) ?_))); refine VD.c (.move rfl) ?_; refine VD.bJ (x := 360) rfl (fun jV => ?_) (fun jV => ?_)
      . refine VD.c (.fa (.r (.r (.l .o)))) ?_; refine VD.r [] (.ld eN) (.inl rfl) ?_; refine VD.nw [294] (VD.c (.fa (.r (.r (.l .o)))) ?_); refine VD.r [] (.ld eN) (.inl rfl) ?_; refine VD.c (.jE (b := .lss) (RI YK.2.2.1 W5.2.2.1)) (VD.c (.move rfl) ?_); refine VD.bJ (x := 366) rfl (fun RS => ?_) (fun RS => ?_)
        . exact absurd (UW jV).1 (by omega)
        refine VD.c (.fa (.r (.r (.r .o)))) ?_; refine VD.r [] (.ld eN) (.inl rfl) ?_; refine VD.nw [294] (VD.c (.fa (.r (.r (.r .o)))) ?_); refine VD.r [] (.ld eN) (.inl rfl) ?_; refine VD.c (.jE (b := .gtr) (G6 YK.2.2.2.1 W5.2.2.2.1)) (VD.c (.bB rfl rfl) (VD.c (.cZ rfl rfl) (VD.c (.bB rfl rfl) ?_))); refine VD.nil ?_; exact ⟨⟨rfl, rfl, rfl, rK rfl (by first | rfl | (refine decide_eq_false ?_; have := (UW jV).2; omega)), trivial⟩, rfl⟩
      exact absurd jV xG
    refine VD.skip (VD.skip (VD.c (.bB rfl rfl) (VD.c (.bB rfl rfl) ?_))); refine VD.c (.move rfl) (VD.c (.move rfl) (VD.nw [294] (VD.c (.neq) ?_))); refine VD.c (.move rfl) ?_; refine VD.bJ (x := 314) rfl (fun xG => ?_) (fun xG => ?_)
    . refine VD.c (.move rfl) (VD.c (.neq) (VD.c (.cZ rfl rfl) (VD.c (.bB rfl rfl) ?_))); refine VD.nw [294] (VD.c (.move rfl) ?_); refine VD.bJ (x := 319) rfl (fun EB => ?_) (fun EB => ?_)
      . exact absurd EB (by omega)
      refine VD.c (.fa (.l .o)) ?_; refine VD.r [] (.ld cQ) (.inl rfl) ?_; refine VD.c (.fa (.l .o)) ?_; refine VD.r [] (.ld cQ) (.inl rfl) ?_; refine VD.c (.fa (.l .o)) (VD.nw [294] ?_); refine VD.r [] (.ld cQ) (.inl rfl) ?_; refine VD.c (.add rfl rfl (by omega)) (VD.c (.neq) (VD.c (.bB rfl rfl) (VD.c (.move rfl) ?_))); refine VD.bJ (x := 329) rfl (fun pT => ?_) (fun pT => ?_)
      . exact absurd yW.1 pT
      refine VD.c (.fa (.r (.l .o))) (VD.nw [294] ?_); refine VD.r [] (.ld cQ) (.inl rfl) ?_; refine VD.c (.fa (.r (.l .o))) ?_; refine VD.r [] (.ld cQ) (.inl rfl) ?_; refine VD.c (.fa (.r (.l .o))) ?_; refine VD.r [] (.ld cQ) (.inl rfl) ?_; refine VD.c (.add rfl rfl (by omega)) (VD.c (.neq) (VD.nw [294] (VD.c (.bB rfl rfl) ?_))); refine VD.c (.move rfl) ?_; refine VD.bJ (x := 339) rfl (fun pU => ?_) (fun pU => ?_)
      . exact absurd yW.2 pU
      refine VD.c (.move rfl) (VD.c (.eql) (VD.c (.move rfl) ?_)); refine VD.bJ (x := 342) rfl (fun lD => ?_) (fun lD => ?_)
      . refine VD.nw [294] (VD.c (.fa (.r (.r (.l .o)))) ?_); refine VD.r [] (.ld eN) (.inl rfl) ?_; refine VD.c (.fa (.r (.r (.l .o)))) ?_; refine VD.r [] (.ld eN) (.inl rfl) ?_; refine VD.c (.jE (b := .lss) (RI WR.2.2.1 W5.2.2.1)) (VD.c (.move rfl) ?_); refine VD.bJ (x := 348) rfl (fun RT => ?_) (fun RT => ?_)
        . exact absurd (hhb lD).1 (by omega)
        refine VD.nw [294] (VD.c (.fa (.r (.r (.r .o)))) ?_); refine VD.r [] (.ld eN) (.inl rfl) ?_; refine VD.c (.fa (.r (.r (.r .o)))) ?_; refine VD.r [] (.ld eN) (.inl rfl) ?_; refine VD.c (.jE (b := .gtr) (G6 WR.2.2.2.1 W5.2.2.2.1)) (VD.c (.bB rfl rfl) (VD.c (.cZ rfl rfl) (VD.nw [294] ?_))); refine VD.c (.bB rfl rfl) (VD.c (.move rfl) ?_); refine VD.bJ (x := 357) rfl (fun EC => ?_) (fun EC => ?_)
        . exact absurd EC (by first | (have := (hhb lD).2; omega) | simp)
        refine VD.c (.move rfl) (VD.c (.eql) (VD.c (.move rfl) ?_)); refine VD.bJ (x := 360) rfl (fun jV => ?_) (fun jV => ?_)
        . exact absurd jV xG
        refine VD.nw [294] (VD.skip (VD.skip (VD.skip ?_))); refine VD.skip (VD.skip (VD.skip (VD.skip ?_))); refine VD.nw [294] (VD.skip (VD.skip (VD.skip ?_))); refine VD.skip (VD.skip (VD.c (.bB rfl rfl) (VD.c (.bB rfl rfl) ?_))); refine VD.nil ?_; exact ⟨⟨rfl, rfl, rfl, rK rfl (by first | rfl | (refine decide_eq_false ?_; have := (UW jV).2; omega)), trivial⟩, rfl⟩
      exact absurd lD EA
    refine VD.skip (VD.skip (VD.c (.bB rfl rfl) (VD.c (.bB rfl rfl) ?_))); refine VD.nw [294] (VD.c (.move rfl) (VD.c (.fa (.l .o)) ?_)); refine VD.r [] (.ld cQ) (.inl rfl) ?_; refine VD.c (.fa (.l .o)) ?_; refine VD.r [] (.ld cQ) (.inl rfl) ?_; refine VD.c (.fa (.l .o)) ?_; refine VD.r [] (.ld cQ) (.inl rfl) ?_; refine VD.nw [294] (VD.c (.add rfl rfl (by omega)) (VD.c (.neq) (VD.c (.bB rfl rfl) ?_))); refine VD.c (.move rfl) ?_; refine VD.bJ (x := 329) rfl (fun pT => ?_) (fun pT => ?_)
    . exact absurd yW.1 pT
    refine VD.c (.fa (.r (.l .o))) ?_; refine VD.r [] (.ld cQ) (.inl rfl) ?_; refine VD.nw [294] (VD.c (.fa (.r (.l .o))) ?_); refine VD.r [] (.ld cQ) (.inl rfl) ?_; refine VD.c (.fa (.r (.l .o))) ?_; refine VD.r [] (.ld cQ) (.inl rfl) ?_; refine VD.c (.add rfl rfl (by omega)) (VD.c (.neq) (VD.c (.bB rfl rfl) (VD.nw [294] ?_))); refine VD.c (.move rfl) ?_; refine VD.bJ (x := 339) rfl (fun pU => ?_) (fun pU => ?_)
    . exact absurd yW.2 pU
    refine VD.c (.move rfl) (VD.c (.eql) (VD.c (.move rfl) ?_)); refine VD.bJ (x := 342) rfl (fun lD => ?_) (fun lD => ?_)
    . refine VD.c (.fa (.r (.r (.l .o)))) (VD.nw [294] ?_); refine VD.r [] (.ld eN) (.inl rfl) ?_; refine VD.c (.fa (.r (.r (.l .o)))) ?_; refine VD.r [] (.ld eN) (.inl rfl) ?_; refine VD.c (.jE (b := .lss) (RI WR.2.2.1 W5.2.2.1)) (VD.c (.move rfl) ?_); refine VD.bJ (x := 348) rfl (fun RT => ?_) (fun RT => ?_)
      . exact absurd (hhb lD).1 (by omega)
      refine VD.c (.fa (.r (.r (.r .o)))) (VD.nw [294] ?_); refine VD.r [] (.ld eN) (.inl rfl) ?_; refine VD.c (.fa (.r (.r (.r .o)))) ?_; refine VD.r [] (.ld eN) (.inl rfl) ?_; refine VD.c (.jE (b := .gtr) (G6 WR.2.2.2.1 W5.2.2.2.1)) (VD.c (.bB rfl rfl) (VD.c (.cZ rfl rfl) (VD.c (.bB rfl rfl) ?_))); refine VD.nw [294] (VD.c (.move rfl) ?_); refine VD.bJ (x := 357) rfl (fun EC => ?_) (fun EC => ?_)
      . exact absurd EC (by first | (have := (hhb lD).2; omega) | simp)
      refine VD.c (.move rfl) (VD.c (.eql) (VD.c (.move rfl) ?_)); refine VD.bJ (x := 360) rfl (fun jV => ?_) (fun jV => ?_)
      . refine VD.c (.fa (.r (.r (.l .o)))) (VD.nw [294] ?_); refine VD.r [] (.ld eN) (.inl rfl) ?_; refine VD.c (.fa (.r (.r (.l .o)))) ?_; refine VD.r [] (.ld eN) (.inl rfl) ?_; refine VD.c (.jE (b := .lss) (RI YK.2.2.1 W5.2.2.1)) (VD.c (.move rfl) ?_); refine VD.bJ (x := 366) rfl (fun RS => ?_) (fun RS => ?_)
        . exact absurd (UW jV).1 (by omega)
        refine VD.c (.fa (.r (.r (.r .o)))) (VD.nw [294] ?_); refine VD.r [] (.ld eN) (.inl rfl) ?_; refine VD.c (.fa (.r (.r (.r .o)))) ?_; refine VD.r [] (.ld eN) (.inl rfl) ?_; refine VD.c (.jE (b := .gtr) (G6 YK.2.2.2.1 W5.2.2.2.1)) (VD.c (.bB rfl rfl) (VD.c (.cZ rfl rfl) (VD.c (.bB rfl rfl) ?_))); refine VD.nil ?_; exact ⟨⟨rfl, rfl, rfl, rK rfl (by first | rfl | (refine decide_eq_false ?_; have := (UW jV).2; omega)), trivial⟩, rfl⟩
      exact absurd jV xG
    exact absurd lD EA
  refine VC.eR rfl (fun c31 => ?_) (fun c31 => ?_)
  . exact absurd c31 (by decide)
  refine VC.skip ?_; refine VC.aV [(2, .p dY r), (6, I (wi n)), (20, .p qL (fG r))] ⟨rfl, rfl, rfl, trivial⟩ ?_; exact NY (r := r) (n := n) H
theorem O0 {r : ByteArray × Int × (List Nat) × (List (Int × Int))} {n : Int × Int} {k : Nat} {tj : Nat} (H : vU r n k tj) : VC Tryz.prog OA none (LC 7 (zZ Tryz.f13)) Tryz.f13.ntmps [(2, .p dY r), (3, .p dS n), (6, I (wi n))] [] (aW Tryz.prog Tryz.f13 (B true)) := by
  refine VC.seq (VC.text ?_); have hn := H.nb; have oO := H.cut; have oW := H.kl; have hg8 := H.g8; have W4 := H.n40; have bT := H.st; have hr1 := (dO H.re).1; have hk := H.kt; have hmt := GJ (a := (k : Int)) (b := (r.2.2.1.length : Nat)) oO.canon hg8 (by omega) (by omega); have hmh := GJ (b := (k : Int)) oO.canon hg8 (Int.le_refl 0) (by omega); have apF := hmt.2.2; have apG := hmh.2.2; have hhl := jI oO; have lO := kP (r := r) (k := k)
  have hL1 : (aF r k).2.2.1.length < 100000 := by omega
  have hL2 : (aF r k).2.2.2.length < 100000 := by show (mE r.2.2.2 0 (k : Int)).length < _; omega
  have hL3 : (b9 r k).2.2.1.length < 100000 := by omega
  have hL4 : (b9 r k).2.2.2.length < 100000 := by show (List.map _ (mE r.2.2.2 (k : Int) (r.2.2.1.length : Nat))).length < _; rw [List.length_map]; omega
  refine J.c (.ixP 0 (.l .o)) ?_; refine J.r (.ld RM) ?_; refine J.c (.wM rfl .i64 (by exact wrap64 (by omega) (by omega))) (J.c (.fa (.r (.r (.l .o)))) ?_); refine J.r (.ld dG) ?_; refine J.r (.len bW) ?_; refine J.c (.add rfl rfl (by omega)) (J.c (.rem rfl rfl (by omega)) ?_); rw [hk]; refine J.c (.assign rfl) ?_; refine J.go (VC.seq ?_); refine VC.late [] ⟨[], rfl⟩ ?_; refine j7.c (.fa (.l .o)) ?_; refine j7.q rfl (.ld IP) ?_; refine j7.c (.fa (.r (.l .o))) ?_; refine j7.q rfl (.ld cQ) ?_; refine j7.c (.fa (.r (.r (.l .o)))) ?_; refine j7.q rfl (.ld dG) ?_; refine j7.nws [] ?_; refine j7.c (.move rfl) ?_; refine j7.sl rfl (.TO rfl rfl bW (by omega)) ?_; refine j7.c (.fa (.r (.r (.r .o)))) ?_; refine j7.q rfl (.ld tK) ?_; refine j7.c (.move rfl) ?_; refine j7.oE rfl rfl (VF.call (HZ )) ?_; refine j7.oE rfl rfl (VF.call (OY (by omega) (by have := (tL (a := 0) (b := (k : Int)) (Int.le_refl _) (by omega)).2; omega) oO.canon.1 (tL (a := 0) (b := (k : Int)) (Int.le_refl _) (by omega)).1.1)) ?_; refine j7.nws [223, 222] ?_; refine j7.c (.build (r.1, r.2.1, (r.2.2.1.take (((k : Nat) : Int)).toNat), FU [3] r.2.2.2 (B5 (0 : Int) ((k : Nat) : Int))) ajY) ?_; refine j7.alJ (.alloc aaL) ?_; intro mD; refine j7.DM (cT.tD (k := 0) rQ .v (Nat.le_of_ble_eq_true rfl) (.inr ⟨rfl, rfl⟩) rfl rfl) (QN.store rfl (.inl rfl)) ⟨[], rfl⟩ ?_; rintro _ _ ⟨rfl, rfl⟩; refine ⟨⟨[(mD, .var [St ((aF r k).1), I ((aF r k).2.1), .v cL ((aF r k).2.2.1), .v aZ ((aF r k).2.2.2)])], rfl⟩, ?_⟩; refine j7.go ?_; refine VC.seq (VC.drawn ?_); refine VD.c (.fa (.l .o)) ?_; refine VD.r [] (.ld IP) (.inl rfl) ?_; refine VD.c (.fa (.r (.l .o))) ?_; refine VD.r [] (.ld cQ) (.inl rfl) ?_; refine VD.c (.move rfl) (VD.c (.add rfl rfl (by omega)) (VD.nw [] (VD.c (.fa (.r (.r (.l .o)))) ?_))); refine VD.r [] (.ld dG) (.inl rfl) ?_; refine VD.c (.move rfl) ?_; refine VD.r [] (.afM rfl rfl bW (by omega)) (.inl rfl) ?_; refine VD.c (.RA (cs := [St r.1, I (r.2.1 + ((k : Nat) : Int)), .v cL (r.2.2.1.drop (((k : Nat) : Int)).toNat), xO]) ajY rfl rfl (.cons (.v) rfl rfl (.cons (.v) rfl rfl (.cons (.v) rfl rfl (.cons (.w rfl) rfl rfl (.nil rfl)))))) ?_; refine VD.cell (.alloc aaL) ?_; intro vP; refine VD.DM (cT.tD (k := 0) rQ (.TQ rfl rfl) (Nat.le_of_ble_eq_true rfl) (.inr ⟨rfl, rfl⟩) rfl rfl) ?_; rintro _ _ apH ⟨rfl, rfl⟩; refine VD.go (VC.seq (VC.seq ?_)); refine VC.aV [(2, .p dY r), (6, I (wi n)), (13, I ((k : Nat) : Int)), (14, .raw mD), (15, .raw vP)] ⟨rfl, rfl, rfl, rfl, rfl, trivial⟩ ?_; refine VC.drawn ?_; refine VD.c (.fa (.r (.r (.r .o)))) ?_; refine VD.r [] (.ld tK) (.inl rfl) ?_; refine VD.c (.move rfl) (VD.c (.fa (.r (.r (.l .o)))) ?_); refine VD.r [] (.ld dG) (.inl rfl) ?_; refine VD.r [] (.len bW) (.inl rfl) ?_; refine VD.nw [] ?_; refine VD.call rfl rfl (VF.call (HZ )) ?_; refine VD.oE rfl rfl (VF.call (OY (by omega) (by have := (tL (a := (k : Int)) (b := (r.2.2.1.length : Nat)) (by omega) (by omega)).2; omega) oO.canon.1 (tL (a := (k : Int)) (b := (r.2.2.1.length : Nat)) (by omega) (by omega)).1.1)) ?_; refine VD.ro (.len cD) ?_; refine VD.c (.move rfl) ?_; refine VD.go (VC.block ?_); refine VC.cell0 39 gH ?_; refine VC.aV [(2, .p dY r), (6, I (wi n)), (13, I ((k : Nat) : Int)), (14, .raw mD), (15, .raw vP), (243, .v aZ (mE r.2.2.2 (k : Int) ((r.2.2.1.length : Nat) : Int))), (244, I (((mE r.2.2.2 (k : Int) ((r.2.2.1.length : Nat) : Int)).length : Nat) : Int)), (245, I ((0 : Nat) : Int))] ⟨rfl, rfl, rfl, rfl, rfl, rfl, rfl, rfl, trivial⟩ ?_; refine VC.loop (I := fun kk ff ss => ∃ (q : Nat) (wg : Value), kk = (mE r.2.2.2 (k : Int) ((r.2.2.1.length : Nat) : Int)).length - q /\ ff = [(2, .p dY r), (6, I (wi n)), (13, I ((k : Nat) : Int)), (14, .raw mD), (15, .raw vP), (243, .v aZ (mE r.2.2.2 (k : Int) ((r.2.2.1.length : Nat) : Int))), (244, I (((mE r.2.2.2 (k : Int) ((r.2.2.1.length : Nat) : Int)).length : Nat) : Int)), (245, I ((q : Nat) : Int))] /\ ss = [(wg, .row 39 gH (((mE r.2.2.2 (k : Int) ((r.2.2.1.length : Nat) : Int)).take q).map fun s => (s.1 - (k : Int), s.2 - (k : Int)))), (vP, .var [St r.1, I (r.2.1 + ((k : Nat) : Int)), .v cL (r.2.2.1.drop (((k : Nat) : Int)).toNat), .raw wg]), (mD, .var [St ((aF r k).1), I ((aF r k).2.1), .v cL ((aF r k).2.2.1), .v aZ ((aF r k).2.2.2)])] /\ (q <= (mE r.2.2.2 (k : Int) ((r.2.2.1.length : Nat) : Int)).length)) ?_ _ _ _ ⟨0, (.slice none 0 0), rfl, rfl, rfl, (by omega)⟩; rintro kk ff ss ⟨q, wg, hk4, rfl, rfl, hq⟩; refine VC.seq (VC.text ?_); refine J.c (.lss) ?_; refine J.go (VC.seq ?_); refine VC.aX rfl (fun UQ => ?_) (fun UQ => ?_)
  . have hq' : q < (mE r.2.2.2 (k : Int) ((r.2.2.1.length : Nat) : Int)).length := by omega
    have htk : ((mE r.2.2.2 (k : Int) ((r.2.2.1.length : Nat) : Int)).take q).map (fun s => (s.1 - (k : Int), s.2 - (k : Int))) ++ [((mE r.2.2.2 (k : Int) ((r.2.2.1.length : Nat) : Int))[q].1 - (k : Int), (mE r.2.2.2 (k : Int) ((r.2.2.1.length : Nat) : Int))[q].2 - (k : Int))] = ((mE r.2.2.2 (k : Int) ((r.2.2.1.length : Nat) : Int)).take (q + 1)).map fun s => (s.1 - (k : Int), s.2 - (k : Int)) := by rw [<- List.take_append_getElem hq', List.map_append] <;> rfl
    have hgq := hmt.1.1 _ (List.getElem_mem (show q < (mE r.2.2.2 (k : Int) (r.2.2.1.length : Nat)).length by omega)); refine VC.skip (VC.seq (VC.block (VC.seq (VC.text ?_)))); refine J.c (.ix (j := q) rfl rfl cD (by omega)) ?_; refine J.r (.ld nG) ?_; refine J.cell (.alloc HL) ?_; intro apI; refine J.lJ (cs' := [I (((mE r.2.2.2 (k : Int) ((r.2.2.1.length : Nat) : Int))[q]).1), I (((mE r.2.2.2 (k : Int) ((r.2.2.1.length : Nat) : Int))[q]).2)]) nG .v ?_; refine J.shut [(17, .p gH ((mE r.2.2.2 (k : Int) ((r.2.2.1.length : Nat) : Int))[q]))] (.cons rfl (.var m0 .refl) .nil) ?_; refine J.go (VC.text ?_); refine J.c (.s9 (k := 3) m1) ?_; refine J.r (.wN (k := 3) m1 tK) ?_; refine J.c (.fa (.l .o)) ?_; refine J.r (.ld cQ) ?_; refine J.c (.move rfl) (J.c (.sub rfl rfl (by omega)) (J.c (.fa (.r .o)) ?_)); refine J.r (.ld cQ) ?_; refine J.c (.move rfl) (J.c (.sub rfl rfl (by omega)) (J.c (.build ((((mE r.2.2.2 (k : Int) ((r.2.2.1.length : Nat) : Int))[q]).1 - ((k : Nat) : Int)), (((mE r.2.2.2 (k : Int) ((r.2.2.1.length : Nat) : Int))[q]).2 - ((k : Nat) : Int))) UI) ?_)); refine J.new (.lit [((((mE r.2.2.2 (k : Int) ((r.2.2.1.length : Nat) : Int))[q]).1 - ((k : Nat) : Int)), (((mE r.2.2.2 (k : Int) ((r.2.2.1.length : Nat) : Int))[q]).2 - ((k : Nat) : Int)))] cD) ?_; refine J.app rfl rfl cD cD (by simp; omega) ?_; intro ak4; refine J.c (.s9 (k := 3) m1) ?_; refine J.perm iL ?_; refine J.one m1 fun ak5 => ?_; refine J.tD (cs' := [St r.1, I (r.2.1 + ((k : Nat) : Int)), .v cL (r.2.2.1.drop (((k : Nat) : Int)).toNat), .raw ak4]) 3 tK (.raw rfl (vJ ak5) ak5) ?_; refine J.nil (VC.text ?_); refine J.c (.add rfl rfl (by omega)) (J.c (.move rfl) ?_); refine J.perm wQ ?_; refine J.perm iL ?_; refine J.perm wQ ?_; refine J.nil ?_; refine ⟨_, [(2, .p dY r), (6, I (wi n)), (13, I ((k : Nat) : Int)), (14, .raw mD), (15, .raw vP), (243, .v aZ (mE r.2.2.2 (k : Int) ((r.2.2.1.length : Nat) : Int))), (244, I (((mE r.2.2.2 (k : Int) ((r.2.2.1.length : Nat) : Int)).length : Nat) : Int)), (245, I (((q + 1) : Nat) : Int))], ?_, ⟨rfl, rfl, rfl, rfl, rfl, rfl, rfl, rfl, trivial⟩, (q + 1), ak4, rfl, rfl, (by rw [htk]), (by omega)⟩; omega
  have hqe : (mE r.2.2.2 (k : Int) ((r.2.2.1.length : Nat) : Int)).take q = mE r.2.2.2 (k : Int) ((r.2.2.1.length : Nat) : Int) := List.take_of_length_le (by omega); refine VC.exit (VC.seq ?_); refine VC.perm iL ?_; refine VC.perm iL ?_; refine VC.yP [(wg, .row 39 gH (((mE r.2.2.2 (k : Int) ((r.2.2.1.length : Nat) : Int)).take q).map fun s => (s.1 - (k : Int), s.2 - (k : Int)))), (vP, .var [St r.1, I (r.2.1 + ((k : Nat) : Int)), .v cL (r.2.2.1.drop (((k : Nat) : Int)).toNat), .raw wg])] [(15, .p dY (r.1, (r.2.1 + ((k : Nat) : Int)), (r.2.2.1.drop (((k : Nat) : Int)).toNat), (((mE r.2.2.2 (k : Int) ((r.2.2.1.length : Nat) : Int)).take q).map fun s => (s.1 - (k : Int), s.2 - (k : Int)))))] rfl (.cons rfl (.var m1 (.cons .same (.cons .same (.cons .same (.cons (.row m0) .nil))))) .nil) ?_; refine VC.drawn ?_; refine VD.r [(mD, .var [St ((aF r k).1), I ((aF r k).2.1), .v cL ((aF r k).2.2.1), .v aZ ((aF r k).2.2.2)])] (.IH (dx := aF r k) m0 rQ) (.inr ⟨rfl, rfl⟩) ?_; refine VD.call rfl rfl (VF.call (l3 (by first | assumption | omega | simp) (by first | assumption | omega | simp))) ?_; refine VD.r [] (.ld rQ) (.inl rfl) ?_; rw [hqe]; refine VD.call rfl rfl (VF.call (l3 (r := b9 r k) (by omega) (by omega))) ?_; refine VD.oE rfl rfl (VF.call (agP (by first | assumption | omega | simp) (by first | assumption | omega | simp) (by first | assumption | omega | simp) (by first | assumption | omega | simp))) ?_; refine VD.c (.move rfl) (VD.nw [264, 269, 268, 266] (VD.c (.extract) (VD.c (.extract) ?_))); refine VD.cell (.alloc B4) ?_; intro rB; refine VD.DM (cT.tD (k := 0) fP .v (Nat.le_of_ble_eq_true rfl) (.inr ⟨rfl, rfl⟩) rfl rfl) ?_; rintro _ _ apJ ⟨rfl, rfl⟩; refine VD.c (.assign rfl) (VD.go ?_); refine VC.aV [(2, .p dY r), (6, I (wi n)), (14, .raw mD), (15, .p dY (b9 r k)), (18, .raw rB), (19, I (xP (aF r k) (b9 r k)))] ⟨rfl, rfl, rfl, rfl, rfl, rfl, trivial⟩ ?_; exact NZ (r := r) (n := n) H
theorem O1 {r : ByteArray × Int × (List Nat) × (List (Int × Int))} {n : Int × Int} {k : Nat} {tj : Nat} (H : vU r n k tj) : VC Tryz.prog OA none (LC 6 (zZ Tryz.f13)) Tryz.f13.ntmps [(2, .p dY r), (3, .p dS n), (5, I (mo n)), (6, I (wi n)), (7, .p dJ (fQ r (mo n)))] [] (aW Tryz.prog Tryz.f13 (B true)) := by
  refine VC.seq (VC.seq (VC.text ?_)); have rM := H.re; have BZ := dO rM; have hc := H.fil; have TW := dO H.ahE.1; have hg8 := H.g8
  have hL2 : (fQ r (mo n)).2.2.2.length < 1000000 := by have := TW.2.2.1; omega
  refine J.c (.fa (.r (.r (.r .o)))) ?_; refine J.r (.ld tK) ?_; refine J.r (.len cD) ?_; refine J.c (.move rfl) ?_; refine J.go (VC.block ?_); refine VC.aV [(2, .p dY r), (3, .p dS n), (5, I (mo n)), (6, I (wi n)), (7, .p dJ (fQ r (mo n))), (178, .v aZ r.2.2.2), (179, I ((r.2.2.2.length : Nat) : Int)), (180, I ((0 : Nat) : Int))] ⟨rfl, rfl, rfl, rfl, rfl, rfl, rfl, rfl, trivial⟩ ?_; refine VC.loop (I := fun kk ff ss => ∃ (j : Nat), kk = r.2.2.2.length - j /\ ff = [(2, .p dY r), (3, .p dS n), (5, I (mo n)), (6, I (wi n)), (7, .p dJ (fQ r (mo n))), (178, .v aZ r.2.2.2), (179, I ((r.2.2.2.length : Nat) : Int)), (180, I ((j : Nat) : Int))] /\ ss = [] /\ (j <= r.2.2.2.length)) ?_ _ _ _ ⟨0, rfl, rfl, rfl, Nat.zero_le _⟩; rintro kk ff ss ⟨j, yE, rfl, rfl, hj⟩; refine VC.seq (VC.text ?_); refine J.c (.lss) ?_; refine J.go (VC.seq ?_); refine VC.aX rfl (fun ZC => ?_) (fun ZC => ?_)
  . refine VC.skip (VC.seq (VC.block (VC.seq (VC.text ?_)))); refine J.c (.ix (j := j) rfl rfl cD (by omega)) ?_; refine J.r (.ld nG) ?_; refine J.cell (.alloc HL) ?_; intro wZ; refine J.lJ (cs' := [I ((r.2.2.2[j]).1), I ((r.2.2.2[j]).2)]) nG .v ?_; refine J.shut [(12, .p gH (r.2.2.2[j]))] (.cons rfl (.var m0 .refl) .nil) ?_; refine J.go (VC.seq (VC.drawn ?_))
    have nH : j < r.2.2.2.length := by omega
    have hgm := adJ (n := mo n) rM hc (List.getElem_mem nH); have hgb := BZ.2.2.2.2 _ (List.getElem_mem nH); have qC := BZ.2.1; refine VD.c (.fa (.r (.r (.r .o)))) ?_; refine VD.r [] (.ld tK) (.inl rfl) ?_; refine VD.c (.fa (.l .o)) ?_; refine VD.r [] (.ld cQ) (.inl rfl) ?_; refine VD.call rfl rfl (VF.call (kM (by first | assumption | omega | simp))) ?_; refine VD.c (.fa (.l .o)) (VD.nw [] ?_); refine VD.r [] (.ld cQ) (.inl rfl) ?_; refine VD.c (.gtr) (VD.c (.move rfl) ?_); refine VD.bJ (x := 192) rfl (fun MS => ?_) (fun MS => ?_)
    . refine VD.c (.fa (.r .o)) ?_; refine VD.r [] (.ld cQ) (.inl rfl) ?_; refine VD.c (.fa (.l .o)) (VD.nw [] ?_); refine VD.r [] (.ld cQ) (.inl rfl) ?_; refine VD.c (.sub rfl rfl (by omega)) (VD.c (.move rfl) (VD.c (.leq) (VD.c (.cZ rfl rfl) ?_))); refine VD.c (.agI) (VD.go ?_); refine VC.eR rfl (fun FY => ?_) (fun FY => ?_)
      . try simp only [Bool.and_eq_true, Bool.or_eq_true, Bool.and_eq_false_iff, Bool.or_eq_false_iff, Bool.not_eq_true', Bool.not_eq_false', decide_eq_true_eq, decide_eq_false_iff_not] at FY
        exact absurd FY (by first | (rw [hgm, aaZ MS]; cases decide ((r.2.2.2[j]).2 - (r.2.2.2[j]).1 <= mo n) <;> decide) | (rw [hgm, ab0 MS hgb.1]; decide))
      try simp only [Bool.and_eq_true, Bool.or_eq_true, Bool.and_eq_false_iff, Bool.or_eq_false_iff, Bool.not_eq_true', Bool.not_eq_false', decide_eq_true_eq, decide_eq_false_iff_not] at FY
      refine VC.skip (VC.text ?_); refine J.c (.add rfl rfl (by omega)) (J.c (.move rfl) ?_); refine J.nil ?_; refine ⟨_, [(2, .p dY r), (3, .p dS n), (5, I (mo n)), (6, I (wi n)), (7, .p dJ (fQ r (mo n))), (178, .v aZ r.2.2.2), (179, I ((r.2.2.2.length : Nat) : Int)), (180, I (((j + 1) : Nat) : Int))], ?_, ⟨rfl, rfl, rfl, rfl, rfl, rfl, rfl, rfl, trivial⟩, (j + 1), rfl, rfl, rfl, (by omega)⟩; omega
    refine VD.skip (VD.skip (VD.skip (VD.nw [] ?_))); refine VD.skip (VD.skip (VD.skip (VD.skip ?_))); refine VD.c (.bB rfl rfl) (VD.c (.agI) (VD.go ?_)); refine VC.eR rfl (fun FY => ?_) (fun FY => ?_)
    . exact absurd FY (by first | (rw [hgm, aaZ MS]; cases decide ((r.2.2.2[j]).2 - (r.2.2.2[j]).1 <= mo n) <;> decide) | (rw [hgm, ab0 MS hgb.1]; decide))
    refine VC.skip (VC.text ?_); refine J.c (.add rfl rfl (by omega)) (J.c (.move rfl) ?_); refine J.nil ?_; refine ⟨_, [(2, .p dY r), (3, .p dS n), (5, I (mo n)), (6, I (wi n)), (7, .p dJ (fQ r (mo n))), (178, .v aZ r.2.2.2), (179, I ((r.2.2.2.length : Nat) : Int)), (180, I (((j + 1) : Nat) : Int))], ?_, ⟨rfl, rfl, rfl, rfl, rfl, rfl, rfl, rfl, trivial⟩, (j + 1), rfl, rfl, rfl, (by omega)⟩; omega
  refine VC.exit ?_; refine VC.aV [(2, .p dY r), (3, .p dS n), (6, I (wi n))] ⟨rfl, rfl, rfl, trivial⟩ ?_; exact O0 (r := r) (n := n) H
theorem RU {r : ByteArray × Int × (List Nat) × (List (Int × Int))} {n : Int × Int} {k : Nat} {tj : Nat} (H : vU r n k tj) : VC Tryz.prog OA none (LC 5 (zZ Tryz.f13)) Tryz.f13.ntmps [(2, .p dY r), (3, .p dS n), (5, I (mo n)), (6, I (wi n)), (7, .p dJ (fQ r (mo n))), (8, .v aZ (o5 r (mo n)))] [] (aW Tryz.prog Tryz.f13 (B true)) := by
  refine VC.seq (VC.seq (VC.text ?_)); have rM := H.re; have BZ := dO rM; have hc := H.fil; have uX := H.ahE; have TW := dO uX.1; have W4 := H.n40
  have hL1 : r.2.2.2.length < 1000000 := by have := H.g8; omega
  have hL2 : (fQ r (mo n)).2.2.2.length < 1000000 := by have := TW.2.2.1; omega
  have hL3 : (o5 r (mo n)).length < 1000000 := by have := adX (r := r) (n := mo n); omega
  refine J.c (.fa (.r (.r (.l .o)))) ?_; refine J.r (.ld dG) ?_; refine J.r (.len bW) ?_; refine J.c (.move rfl) ?_; refine J.go (VC.block ?_); refine VC.aV [(2, .p dY r), (3, .p dS n), (5, I (mo n)), (6, I (wi n)), (7, .p dJ (fQ r (mo n))), (8, .v aZ (o5 r (mo n))), (107, I ((r.2.2.1.length : Nat) : Int)), (108, I ((0 : Nat) : Int))] ⟨rfl, rfl, rfl, rfl, rfl, rfl, rfl, rfl, trivial⟩ ?_; refine VC.loop (I := fun kk ff ss => ∃ (i : Nat), kk = r.2.2.1.length - i /\ ff = [(2, .p dY r), (3, .p dS n), (5, I (mo n)), (6, I (wi n)), (7, .p dJ (fQ r (mo n))), (8, .v aZ (o5 r (mo n))), (107, I ((r.2.2.1.length : Nat) : Int)), (108, I ((i : Nat) : Int))] /\ ss = [] /\ (i <= r.2.2.1.length)) ?_ _ _ _ ⟨0, rfl, rfl, rfl, Nat.zero_le _⟩; rintro kk ff ss ⟨i, kJ, rfl, rfl, hi⟩; refine VC.seq (VC.text ?_); refine J.c (.lss) ?_; refine J.go (VC.seq ?_); refine VC.aX rfl (fun c8 => ?_) (fun c8 => ?_)
  . refine VC.skip (VC.seq (VC.block (VC.seq (VC.text ?_)))); refine J.c (.move rfl) (J.c (.assign rfl) ?_); refine J.go (VC.seq (VC.drawn ?_))
    have kQ : i < r.2.2.1.length := by omega
    have hif : i < (fQ r (mo n)).2.2.1.length := by rw [uX.2]; exact kQ
    have nO := xD (n := mo n) hc kQ; have hold := ah4 (n := mo n) rM hc kQ; have jB := ah5 (n := mo n) rM hc kQ; have gL := fun h => PA (r := r) (n := mo n) (t := (i : Int)) h; have hvf := TW.2.2.2.1 _ (List.getElem_mem hif); have hvr := BZ.2.2.2.1 _ (List.getElem_mem kQ); refine VD.c (.fa (.r (.r (.r .o)))) ?_; refine VD.r [] (.ld tK) (.inl rfl) ?_; refine VD.c (.move rfl) ?_; refine VD.call rfl rfl (VF.call (kM (by first | assumption | omega | simp))) ?_; refine VD.c (.not) (VD.c (.move rfl) (VD.nw [] ?_)); refine VD.iB (x := 116) rfl (fun zK => ?_) (fun zK => ?_)
    . try simp only [Bool.and_eq_true, Bool.or_eq_true, Bool.and_eq_false_iff, Bool.or_eq_false_iff, Bool.not_eq_true', Bool.not_eq_false', decide_eq_true_eq, decide_eq_false_iff_not] at zK
      refine VD.c (.fa (.r (.r (.l .o)))) ?_; refine VD.r [] (.ld dG) (.inl rfl) ?_; refine VD.c (.move rfl) (VD.c (.ix (j := i) rfl rfl bW (by omega)) ?_); refine VD.r [] (.ld eN) (.inl rfl) ?_; refine VD.c (.fa (.r (.r (.l .o)))) (VD.nw [] ?_); refine VD.r [] (.ld dG) (.inl rfl) ?_; refine VD.c (.move rfl) (VD.c (.ix (j := i) rfl rfl bW (by omega)) ?_); refine VD.r [] (.ld eN) (.inl rfl) ?_; refine VD.c (.jE (b := .neq) (RJ hvf hvr)) (VD.c (.move rfl) ?_); refine VD.bJ (x := 128) rfl (fun ab5 => ?_) (fun ab5 => ?_)
      . exact absurd (by rw [fK hif, fK kQ] at hold; exact hold (by simpa using zK)) ab5
      refine VD.nw [] (VD.c (.fa (.r (.r (.r .o)))) ?_); refine VD.r [] (.ld tK) (.inl rfl) ?_; refine VD.c (.move rfl) ?_; refine VD.call rfl rfl (VF.call (kM (by first | assumption | omega | simp))) ?_; refine VD.c (.bB rfl rfl) (VD.c (.move rfl) ?_); refine VD.iB (x := 134) rfl (fun ab6 => ?_) (fun ab6 => ?_)
      . exact absurd ab6 (by rw [nO, show Sp.bE r.2.2.2 (i : Int) = false by simpa using zK]; simp)
      refine VD.nw [] (VD.c (.move rfl) (VD.c (.move rfl) ?_)); refine VD.call rfl rfl (VF.call (kM (by first | assumption | omega | simp))) ?_; refine VD.c (.bB rfl rfl) (VD.c (.cZ rfl rfl) (VD.c (.move rfl) ?_)); refine VD.iB (x := 140) rfl (fun RV => ?_) (fun RV => ?_)
      . exact absurd (gL RV) (by rw [show Sp.bE r.2.2.2 (i : Int) = false by simpa using zK]; simp)
      refine VD.nw [] (VD.c (.fa (.r (.r (.r .o)))) ?_); refine VD.r [] (.ld tK) (.inl rfl) ?_; refine VD.c (.move rfl) ?_; refine VD.call rfl rfl (VF.call (kM (by first | assumption | omega | simp))) ?_; refine VD.c (.move rfl) ?_; refine VD.iB (x := 145) rfl (fun AG => ?_) (fun AG => ?_)
      . exact absurd AG (by rw [zK]; decide)
      refine VD.skip (VD.nw [] (VD.skip (VD.skip ?_))); refine VD.skip (VD.skip (VD.skip (VD.skip ?_))); refine VD.skip (VD.nw [] (VD.c (.bB rfl rfl) (VD.c (.bB rfl rfl) ?_))); refine VD.c (.move rfl) (VD.c (.move rfl) (VD.c (.move rfl) ?_)); refine VD.call rfl rfl (VF.call (kM (by first | assumption | omega | simp))) ?_; refine VD.c (.move rfl) (VD.nw [] ?_); refine VD.iB (x := 160) rfl (fun AH => ?_) (fun AH => ?_)
      . exact absurd AH (by rw [RV]; decide)
      refine VD.skip (VD.skip (VD.skip (VD.skip ?_))); refine VD.skip (VD.skip (VD.nw [] (VD.skip ?_))); refine VD.skip (VD.skip (VD.skip (VD.skip ?_))); refine VD.skip (VD.skip (VD.nw [] (VD.c (.bB rfl rfl) ?_))); refine VD.c (.bB rfl rfl) (VD.go ?_); refine VC.uP rfl ?_; refine VC.skip ?_; refine VC.aV [(2, .p dY r), (3, .p dS n), (5, I (mo n)), (6, I (wi n)), (7, .p dJ (fQ r (mo n))), (8, .v aZ (o5 r (mo n))), (107, I ((r.2.2.1.length : Nat) : Int)), (108, I ((i : Nat) : Int))] ⟨rfl, rfl, rfl, rfl, rfl, rfl, rfl, rfl, trivial⟩ ?_; refine VC.text ?_; refine J.c (.add rfl rfl (by omega)) (J.c (.move rfl) ?_); refine J.nil ?_; refine ⟨_, [(2, .p dY r), (3, .p dS n), (5, I (mo n)), (6, I (wi n)), (7, .p dJ (fQ r (mo n))), (8, .v aZ (o5 r (mo n))), (107, I ((r.2.2.1.length : Nat) : Int)), (108, I (((i + 1) : Nat) : Int))], ?_, ⟨rfl, rfl, rfl, rfl, rfl, rfl, rfl, rfl, trivial⟩, (i + 1), rfl, rfl, rfl, (by omega)⟩; omega
    try simp only [Bool.and_eq_true, Bool.or_eq_true, Bool.and_eq_false_iff, Bool.or_eq_false_iff, Bool.not_eq_true', Bool.not_eq_false', decide_eq_true_eq, decide_eq_false_iff_not] at zK
    refine VD.skip (VD.skip (VD.skip (VD.skip ?_))); refine VD.skip (VD.skip (VD.nw [] (VD.skip ?_))); refine VD.skip (VD.skip (VD.skip (VD.skip ?_))); refine VD.skip (VD.skip (VD.nw [] (VD.skip ?_))); refine VD.skip (VD.skip (VD.skip (VD.skip ?_))); refine VD.skip (VD.skip (VD.nw [] (VD.skip ?_))); refine VD.skip (VD.c (.bB rfl rfl) (VD.c (.move rfl) (VD.c (.fa (.r (.r (.r .o)))) ?_))); refine VD.r [] (.ld tK) (.inl rfl) ?_; refine VD.c (.move rfl) (VD.nw [] ?_); refine VD.call rfl rfl (VF.call (kM (by first | assumption | omega | simp))) ?_; refine VD.c (.move rfl) ?_; refine VD.iB (x := 145) rfl (fun AG => ?_) (fun AG => ?_)
    . refine VD.c (.fa (.r (.r (.r .o)))) ?_; refine VD.r [] (.ld tK) (.inl rfl) ?_; refine VD.c (.move rfl) ?_; refine VD.call rfl rfl (VF.call (kM (by first | assumption | omega | simp))) ?_; refine VD.nw [] (VD.c (.move rfl) (VD.c (.move rfl) ?_)); refine VD.call rfl rfl (VF.call (kM (by first | assumption | omega | simp))) ?_; refine VD.c (.agI) (VD.c (.cZ rfl rfl) (VD.c (.bB rfl rfl) (VD.c (.move rfl) ?_))); refine VD.nw [] ?_; refine VD.iB (x := 156) rfl (fun ab7 => ?_) (fun ab7 => ?_)
      . exact absurd ab7 (by rw [nO, AG]; cases Sp.bE (o5 r (mo n)) (i : Int) <;> simp)
      refine VD.c (.move rfl) (VD.c (.move rfl) ?_); refine VD.call rfl rfl (VF.call (kM (by first | assumption | omega | simp))) ?_; refine VD.c (.move rfl) ?_; refine VD.iB (x := 160) rfl (fun AH => ?_) (fun AH => ?_)
      . refine VD.c (.fa (.r (.r (.l .o)))) (VD.nw [] ?_); refine VD.r [] (.ld dG) (.inl rfl) ?_; refine VD.c (.move rfl) (VD.c (.ix (j := i) rfl rfl bW (by omega)) ?_); refine VD.r [] (.ld eN) (.inl rfl) ?_; refine VD.c (.fa (.r (.r (.l .o)))) ?_; refine VD.r [] (.ld dG) (.inl rfl) ?_; refine VD.c (.move rfl) (VD.nw [] (VD.c (.sub rfl rfl (by omega)) ?_)); refine VD.r [] (.max) (.inl rfl) ?_; refine VD.c (.ixZ (k := (max (0 : Int) (((i : Nat) : Int) - (1 : Int)))) rfl rfl bW (by omega) (by omega)) ?_; refine VD.r [] (.ld eN) (.inl rfl) ?_; refine VD.c (.OP .neq) (VD.c (.cZ rfl rfl) (VD.c (.bB rfl rfl) (VD.go ?_))); refine VC.eR rfl (fun r7 => ?_) (fun r7 => ?_)
        . exact absurd r7 (by have h := adV (z := max (0 : Int) (((i : Nat) : Int) - (1 : Int))) hif (by omega) hvf (by have := (jB AH).1; omega) (jB AH).2; rw [h]; decide)
        refine VC.skip ?_; refine VC.aV [(2, .p dY r), (3, .p dS n), (5, I (mo n)), (6, I (wi n)), (7, .p dJ (fQ r (mo n))), (8, .v aZ (o5 r (mo n))), (107, I ((r.2.2.1.length : Nat) : Int)), (108, I ((i : Nat) : Int))] ⟨rfl, rfl, rfl, rfl, rfl, rfl, rfl, rfl, trivial⟩ ?_; refine VC.text ?_; refine J.c (.add rfl rfl (by omega)) (J.c (.move rfl) ?_); refine J.nil ?_; refine ⟨_, [(2, .p dY r), (3, .p dS n), (5, I (mo n)), (6, I (wi n)), (7, .p dJ (fQ r (mo n))), (8, .v aZ (o5 r (mo n))), (107, I ((r.2.2.1.length : Nat) : Int)), (108, I (((i + 1) : Nat) : Int))], ?_, ⟨rfl, rfl, rfl, rfl, rfl, rfl, rfl, rfl, trivial⟩, (i + 1), rfl, rfl, rfl, (by omega)⟩; omega
      refine VD.skip (VD.nw [] (VD.skip (VD.skip ?_))); refine VD.skip (VD.skip (VD.skip (VD.skip ?_))); refine VD.skip (VD.nw [] (VD.skip (VD.skip ?_))); refine VD.skip (VD.skip (VD.skip (VD.c (.bB rfl rfl) ?_))); refine VD.c (.bB rfl rfl) (VD.go ?_); refine VC.uP rfl ?_; refine VC.skip ?_; refine VC.aV [(2, .p dY r), (3, .p dS n), (5, I (mo n)), (6, I (wi n)), (7, .p dJ (fQ r (mo n))), (8, .v aZ (o5 r (mo n))), (107, I ((r.2.2.1.length : Nat) : Int)), (108, I ((i : Nat) : Int))] ⟨rfl, rfl, rfl, rfl, rfl, rfl, rfl, rfl, trivial⟩ ?_; refine VC.text ?_; refine J.c (.add rfl rfl (by omega)) (J.c (.move rfl) ?_); refine J.nil ?_; refine ⟨_, [(2, .p dY r), (3, .p dS n), (5, I (mo n)), (6, I (wi n)), (7, .p dJ (fQ r (mo n))), (8, .v aZ (o5 r (mo n))), (107, I ((r.2.2.1.length : Nat) : Int)), (108, I (((i + 1) : Nat) : Int))], ?_, ⟨rfl, rfl, rfl, rfl, rfl, rfl, rfl, rfl, trivial⟩, (i + 1), rfl, rfl, rfl, (by omega)⟩; omega
    exact absurd AG (by rw [zK]; decide)
  refine VC.exit ?_; refine VC.aV [(2, .p dY r), (3, .p dS n), (5, I (mo n)), (6, I (wi n)), (7, .p dJ (fQ r (mo n)))] ⟨rfl, rfl, rfl, rfl, rfl, trivial⟩ ?_; exact O1 (r := r) (n := n) H
theorem abO {r : ByteArray × Int × (List Nat) × (List (Int × Int))} {n : Int × Int} (hn : (0 <= n.1 /\ n.1 < 256) /\ 0 <= n.2 /\ n.2 < 256) : VF Tryz.prog OA 13 [.v dY r, .v dS n] (B true) := by
  refine VF.enter Tryz.func13 rfl (fun _ _ => rfl) rfl ?_; show VC _ _ _ _ _ [(0, .v dY r), (1, .v dS n)] [] _; refine VC.seq (VC.text ?_); refine J.new (.box) ?_; refine J.new (.box) ?_; refine J.c (.assign rfl) ?_; refine J.go (VC.seq (VC.seq (VC.drawn ?_))); refine VD.call rfl rfl (VF.call (sI )) ?_; refine VD.c (.not) (VD.c (.move rfl) ?_); refine VD.r [] (.ld rQ) (.inl rfl) ?_; refine VD.call rfl rfl (VF.call (YT )) ?_; refine VD.c (.not) (VD.nw [] (VD.c (.bB rfl rfl) (VD.c (.move rfl) ?_))); refine VD.iB (x := 45) rfl (fun PD => ?_) (fun PD => ?_)
  . try simp only [Bool.and_eq_true, Bool.or_eq_true, Bool.and_eq_false_iff, Bool.or_eq_false_iff, Bool.not_eq_true', Bool.not_eq_false', decide_eq_true_eq, decide_eq_false_iff_not] at PD
    refine VD.skip (VD.skip (VD.skip (VD.c (.cZ rfl rfl) ?_))); refine VD.nw [] (VD.c (.move rfl) (VD.skip (VD.skip ?_))); refine VD.skip (VD.skip (VD.c (.cZ rfl rfl) (VD.c (.move rfl) ?_))); refine VD.nw [] (VD.skip (VD.skip (VD.skip ?_))); refine VD.skip (VD.skip (VD.skip (VD.skip ?_))); refine VD.nw [] (VD.c (.cZ rfl rfl) (VD.c (.move rfl) (VD.skip ?_))); refine VD.skip (VD.skip (VD.c (.cZ rfl rfl) (VD.go ?_))); refine VC.uO rfl ?_; refine VC.seq ?_; refine VC.aV [(2, .p dY r), (3, .p dS n)] ⟨rfl, rfl, trivial⟩ ?_; refine VC.text ?_; refine J.call rfl rfl (VF.call (sI )) ?_; refine J.c (.assign rfl) (J.go ?_); refine VC.ret ?_; exact aW.one rfl bP (fF (by rfl))
  try simp only [Bool.and_eq_true, Bool.or_eq_true, Bool.and_eq_false_iff, Bool.or_eq_false_iff, Bool.not_eq_true', Bool.not_eq_false', decide_eq_true_eq, decide_eq_false_iff_not] at PD
  refine VD.r [] (.ld rQ) (.inl rfl) ?_; refine VD.call rfl rfl (VF.call (UP (by have := G0 PD; omega) (by have := G0 PD; omega))) ?_; refine VD.c (.neq) (VD.c (.bB rfl rfl) (VD.nw [] (VD.c (.move rfl) ?_))); refine VD.bJ (x := 50) rfl (fun M9 => ?_) (fun M9 => ?_)
  . refine VD.skip (VD.skip (VD.skip (VD.skip ?_))); refine VD.c (.cZ rfl rfl) (VD.nw [] (VD.c (.move rfl) (VD.skip ?_))); refine VD.skip (VD.skip (VD.skip (VD.skip ?_))); refine VD.skip (VD.nw [] (VD.skip (VD.c (.cZ rfl rfl) ?_))); refine VD.c (.move rfl) (VD.skip (VD.skip (VD.skip ?_))); refine VD.c (.cZ rfl rfl) (VD.go ?_); refine VC.uO rfl ?_; refine VC.seq ?_; refine VC.aV [(2, .p dY r), (3, .p dS n)] ⟨rfl, rfl, trivial⟩ ?_; refine VC.text ?_; refine J.call rfl rfl (VF.call (sI )) ?_; refine J.c (.assign rfl) (J.go ?_); refine VC.ret ?_; exact aW.one rfl bP (fF (by rfl))
  refine VD.c (.fa (.r (.r (.l .o)))) ?_; refine VD.r [] (.ld dG) (.inl rfl) ?_; refine VD.r [] (.len bW) (.inl rfl) ?_; refine VD.c (.eql) (VD.c (.bB rfl rfl) (VD.nw [] (VD.c (.move rfl) ?_))); refine VD.bJ (x := 56) rfl (fun ahK => ?_) (fun ahK => ?_)
  . refine VD.skip (VD.skip (VD.skip (VD.skip ?_))); refine VD.skip (VD.nw [] (VD.skip (VD.skip ?_))); refine VD.c (.cZ rfl rfl) (VD.c (.move rfl) (VD.skip (VD.skip ?_))); refine VD.skip (VD.nw [] (VD.c (.cZ rfl rfl) (VD.go ?_))); refine VC.uO rfl ?_; refine VC.seq ?_; refine VC.aV [(2, .p dY r), (3, .p dS n)] ⟨rfl, rfl, trivial⟩ ?_; refine VC.text ?_; refine J.call rfl rfl (VF.call (sI )) ?_; refine J.c (.assign rfl) (J.go ?_); refine VC.ret ?_; exact aW.one rfl bP (fF (by rfl))
  refine VD.c (.fa (.r (.r (.r .o)))) ?_; refine VD.r [] (.ld tK) (.inl rfl) ?_; refine VD.call rfl rfl (VF.call (ZK (by have := (dO (Classical.not_not.1 M9)).2.2.1; omega) (fun s hs => by have h := dO (Classical.not_not.1 M9); have h2 := h.2.2.2.2 s hs; have h3 := h.2.1; omega))) ?_; refine VD.c (.fa (.r (.r (.l .o)))) ?_; refine VD.r [] (.ld dG) (.inl rfl) ?_; refine VD.nw [] ?_; refine VD.r [] (.len bW) (.inl rfl) ?_; refine VD.c (.eql) (VD.c (.bB rfl rfl) (VD.c (.move rfl) ?_)); refine VD.bJ (x := 65) rfl (fun ahL => ?_) (fun ahL => ?_)
  . refine VD.skip (VD.skip (VD.nw [] (VD.skip ?_))); refine VD.c (.cZ rfl rfl) (VD.go ?_); refine VC.uO rfl ?_; refine VC.seq ?_; refine VC.aV [(2, .p dY r), (3, .p dS n)] ⟨rfl, rfl, trivial⟩ ?_; refine VC.text ?_; refine J.call rfl rfl (VF.call (sI )) ?_; refine J.c (.assign rfl) (J.go ?_); refine VC.ret ?_; exact aW.one rfl bP (fF (by rfl))
  refine VD.c (.fa (.r (.l .o))) ?_; refine VD.r [] (.ld cQ) (.inl rfl) ?_; refine VD.nw [] (VD.c (.gtr) (VD.c (.bB rfl rfl) (VD.go ?_))); refine VC.aX rfl (fun c1 => ?_) (fun c1 => ?_)
  . refine VC.seq ?_; refine VC.aV [(2, .p dY r), (3, .p dS n)] ⟨rfl, rfl, trivial⟩ ?_; refine VC.text ?_; refine J.call rfl rfl (VF.call (sI )) ?_; refine J.c (.assign rfl) (J.go ?_); refine VC.ret ?_; exact aW.one rfl bP (fF (by rfl))
  have hs := G0 PD; have rM : cM r = 0 := Classical.not_not.1 M9; have BZ := dO rM; have hn0 : r.2.2.1.length ≠ 0 := fun h => ahK (by omega)
  have bT : r.2.1 <= 99900 := by omega
  have W4 : r.2.2.1.length <= 40 := by omega
  have hg8 : r.2.2.2.length <= 8 := by omega
  obtain ⟨tj, htj, W3⟩ := adQ rM hn0 ahL; have hmo := ak3 (n := n) hn.1.1; have hwi := ahD (n := n) hn.2.1; obtain ⟨k, hk⟩ : ∃ k : Nat, n.1.tmod (((r.2.2.1.length : Nat) : Int) + (1 : Int)) = (k : Int) := ⟨(n.1.tmod (((r.2.2.1.length : Nat) : Int) + 1)).toNat, (Int.toNat_of_nonneg (Int.tmod_nonneg _ hn.1.1)).symm⟩
  have oW : k <= r.2.2.1.length := by have := Int.tmod_lt_of_pos n.1 (show (0 : Int) < ((r.2.2.1.length : Nat) : Int) + 1 by omega); omega
  have H : vU r n k tj := ⟨rM, hn, bT, hn0, W4, hg8, htj, W3, hk, oW⟩; have hc := H.fil; have uX := H.ahE; have TW := dO uX.1; refine VC.skip (VC.seq ?_); refine VC.aV [(2, .p dY r), (3, .p dS n)] ⟨rfl, rfl, trivial⟩ ?_; refine VC.drawn ?_; refine VD.c (.ixP 0 (.l .o)) ?_; refine VD.r [] (.ld RM) (.inl rfl) ?_; refine VD.c (.wM rfl .i64 (by exact wrap64 (by omega) (by omega))) (VD.c (.rem rfl rfl (by omega)) (VD.c (.ixP 1 (.r .o)) ?_)); refine VD.r [] (.ld RM) (.inl rfl) ?_; refine VD.nw [] (VD.c (.wM rfl .i64 (by exact wrap64 (by omega) (by omega))) (VD.c (.rem rfl rfl (by omega)) (VD.c (.add rfl rfl (by have h := hwi; unfold wi at h; omega)) ?_))); refine VD.c (.assign rfl) (VD.c (.assign rfl) ?_); refine VD.go (VC.seq (VC.text ?_)); refine J.r (.ld rQ) ?_; refine J.call rfl rfl (VF.call (l3 (by omega) (by omega))) ?_; refine J.c (.move rfl) ?_; refine J.call rfl rfl (VF.call (adD (by show r.2.2.1.length < _; omega) (by show r.2.2.2.length < _; omega))) ?_; refine J.c (.move rfl) (J.c (.extract) (J.c (.extract) (J.c (.extract) ?_))); rw [show uB r (n.1.tmod (10 : Int)) = 0 from hc]; refine J.cell (.alloc B4) ?_; intro ww7; refine J.lJ (cs' := [St ((fQ r (mo n)).1), I ((fQ r (mo n)).2.1), .v cL ((fQ r (mo n)).2.2.1), .v aZ ((fQ r (mo n)).2.2.2)]) fP .v ?_; refine J.shut [(7, .p dJ (fQ r (mo n)))] (.cons rfl (.var m0 .refl) .nil) ?_; refine J.c (.assign rfl) (J.c (.assign rfl) ?_); refine J.go (VC.seq (VC.seq (VC.text ?_))); refine J.c (.move rfl) (J.c (.neq) (J.c (.move rfl) ?_)); refine J.cg (r := decide (0 ≠ (0 : Int))) (w := false) [] trivial (fun _ => (.fa (.r (.r (.l .o))))) ?_; refine J.rg (r := decide (0 ≠ (0 : Int))) (w := false) [(91, .p cL ((fQ r (mo n)).2.2.1))] ⟨rfl, trivial⟩ (fun _ => (.ld dG)) ?_; refine J.rg (r := decide (0 ≠ (0 : Int))) (w := false) [(92, .v cL ((fQ r (mo n)).2.2.1))] ⟨rfl, trivial⟩ (fun _ => (.len bW)) ?_; refine J.cg (r := decide (0 ≠ (0 : Int))) (w := false) [] trivial (fun _ => (.fa (.r (.r (.l .o))))) ?_; refine J.rg (r := decide (0 ≠ (0 : Int))) (w := false) [(94, .p cL r.2.2.1)] ⟨rfl, trivial⟩ (fun _ => (.ld dG)) ?_; refine J.rg (r := decide (0 ≠ (0 : Int))) (w := false) [(95, .v cL r.2.2.1)] ⟨rfl, trivial⟩ (fun _ => (.len bW)) ?_; refine J.cg (r := decide (0 ≠ (0 : Int))) (w := false) [(93, I ((((fQ r (mo n)).2.2.1).length : Nat) : Int)), (96, I ((r.2.2.1.length : Nat) : Int))] ⟨rfl, rfl, trivial⟩ (fun _ => (.neq)) ?_; refine J.c (.or) (J.c (.move rfl) ?_); refine J.iB (x := 99) rfl (fun RW => ?_) (fun RW => ?_)
  . try simp only [Bool.and_eq_true, Bool.or_eq_true, Bool.and_eq_false_iff, Bool.or_eq_false_iff, Bool.not_eq_true', Bool.not_eq_false', decide_eq_true_eq, decide_eq_false_iff_not] at RW
    exact absurd RW (by have := uX.2; omega)
  try simp only [Bool.and_eq_true, Bool.or_eq_true, Bool.and_eq_false_iff, Bool.or_eq_false_iff, Bool.not_eq_true', Bool.not_eq_false', decide_eq_true_eq, decide_eq_false_iff_not] at RW
  refine J.r (.ld fP) ?_; refine J.call rfl rfl (VF.call (V9 )) ?_; refine J.call rfl rfl (VF.call (UP (by omega) (by have := TW.2.2.1; omega))) ?_; refine J.c (.neq) (J.c (.bB rfl rfl) (J.go ?_)); refine VC.aX rfl (fun c5 => ?_) (fun c5 => ?_)
  . exact absurd uX.1 c5
  refine VC.skip ?_; refine VC.aV [(2, .p dY r), (3, .p dS n), (5, I (mo n)), (6, I (wi n)), (7, .p dJ (fQ r (mo n))), (8, .v aZ (o5 r (mo n)))] ⟨rfl, rfl, rfl, rfl, rfl, rfl, trivial⟩ ?_; exact RU (r := r) (n := n) H
end Go.Proofs
namespace Go.Fs
open Go.RowKit (Below)
variable {P : Program}
def af3 (fi fj fc : FuncId) (T : TypeId) : FuncId -> List Value -> U -> Option (Value × U) := fun f xs h =>
  bif Nat.beq f fc then
    match xs with
    | [.pointer (some ⟨b, 0, none⟩)] =>
      match h.get b with
      | some (.row e [p, v] true false) =>
        bif Nat.beq e T then
          match p with
          | .pointer none => some (.tuple #[], h.set b (.row e [.pointer (some ⟨b, 0, none⟩), v] true false))
          | .pointer (some ⟨b', 0, none⟩) => bif Nat.beq b' b then some (.tuple #[], h) else none
          | _ => none
        else none
      | _ => none
    | _ => none
  else KE fi fj f xs h
theorem T2 {B : Nat} {w0 : World} {fi fj fc : FuncId} {T : TypeId} (hz : w0.drawn = 0) (hS : cY P B w0 (KE fi fj)) (hc : Enters P fc)
    (hF : ∀ (b : Nat) (w : World), w.cell? ⟨b, 0, none⟩ = some (.pointer none) -> w.shape? b = some (T, 2) -> w.frozen? ⟨b, 0, none⟩ = false ->
      Calls P fc #[.pointer (some ⟨b, 0, none⟩)] w fun e w' => e = .returned (.tuple #[]) /\ w' = w.setCell ⟨b, 0, none⟩ (.pointer (some ⟨b, 0, none⟩)))
    (hU : ∀ (b : Nat) (w : World), w.cell? ⟨b, 0, none⟩ = some (.pointer (some ⟨b, 0, none⟩)) -> Calls P fc #[.pointer (some ⟨b, 0, none⟩)] w fun e w' => e = .returned (.tuple #[]) /\ w' = w) :
    cY P B w0 (af3 fi fj fc T) := by
  intro f xs h v h' hf; unfold af3 at hf
  cases hb : Nat.beq f fc with
  | false =>
    rw [hb] at hf
    exact hS f xs h v h' hf
  | true =>
    have := bV hb; subst this; rw [hb] at hf; simp only [cond_true] at hf; split at hf
    . rename_i b; split at hf
      . rename_i e p u hg; obtain ⟨he, dI⟩ := aT hf; obtain rfl := bV he; refine ⟨hc, fun ρ S w args' hr ha nn => ?_⟩; obtain ⟨SL, cur, k1, k2, k3, k4, k5, k6, k7⟩ := hr.aA b _ hg; have sN : cur.length = 2 := (k6 rfl).symm
        match cur, sN with
        | [p', u'], _ =>
        have hp : VR ρ S p p' := k7 0 (by simp); have hu : VR ρ S u u' := k7 1 (by simp)
        have rF : (ρ b).at 0 = ⟨(ρ b).block, 0, none⟩ := by unfold Loc.at; rw [k2]
        have ao5 : args' = [.pointer (some ⟨(ρ b).block, 0, none⟩)] := by
          have h1 := ha.1
          match args', h1 with
          | [a], _ =>
            have h2 : VR ρ S (.pointer (some ⟨b, 0, none⟩)) a := ha.2 0 (by simp); rw [h2.p7.2, rF]
        subst ao5
        have pZ : w.cell? ⟨(ρ b).block, 0, none⟩ = some p' := by simp [World.cell?, k1]
        split at dI
        . simp only [Option.some.injEq, Prod.mk.injEq] at dI; obtain ⟨rfl, rfl⟩ := dI; obtain rfl := hp.gP rfl; have hC : CallsIn Fence.wide nn P f #[.pointer (some ⟨(ρ b).block, 0, none⟩)] w _ := callsIn_wide.2 (hF (ρ b).block w pZ (by simp [World.shape?, k1]) (CB k1 (by rw [k3]; exact Nat.zero_lt_succ _))); refine hC.mono fun e2 w' v7 => ?_; obtain ⟨rfl, rfl⟩ := v7; refine ⟨ρ, aU.set hr hg rfl rfl rfl rfl rfl (by simp [World.setCell]) (fun k hk => ?_) ?_, VR.tuple' LR.nil⟩
          . simp only [World.setCell, Array.getElem?_modify]; rw [if_neg (fun e0 => hk e0.symm)]
          refine ⟨[.pointer (some ⟨(ρ b).block, 0, none⟩), u'], ?_, k2, k3, k4, Nat.le_refl _, fun _ => rfl, fun i hi => ?_⟩
          . simp only [World.setCell, Array.getElem?_modify, if_pos rfl, k1]; simp
          match i, hi with
          | 0, _ => show VR ρ S (.pointer (some ⟨b, 0, none⟩)) (.pointer (some ⟨(ρ b).block, 0, none⟩)); rw [<- rF]; exact .ptr b 0 SL
          | 1, _ => exact hu
        . rename_i b'; obtain ⟨JT, rG⟩ := aT dI; obtain rfl := bV JT; simp only [Option.some.injEq, Prod.mk.injEq] at rG; obtain ⟨rfl, rfl⟩ := rG; have hp2 := hp.p7.2; rw [rF] at hp2; subst hp2; have hC : CallsIn Fence.wide nn P f #[.pointer (some ⟨(ρ b').block, 0, none⟩)] w _ := callsIn_wide.2 (hU (ρ b').block w pZ); refine hC.mono fun e2 w' v7 => ?_; obtain ⟨rfl, rfl⟩ := v7; exact ⟨ρ, aU.same hr, VR.tuple' LR.nil⟩
        cases dI
      cases hf
    cases hf
end Go.Fs
namespace Go.Fs
open Go.RowKit (Below)
variable {P : Program} {ops : Array Oper} {n : Nat}
def RX : Value -> Value -> Bool
  | .int k a, .int k' b => decide (k = k') && decide (a = b)
  | .bool a, .bool b => decide (a = b)
  | _, _ => false
theorem adY {a b : Value} (h : RX a b = true) : a = b := by
  unfold RX at h; split at h
  . obtain ⟨h1, h2⟩ := aQ h; rw [of_decide_eq_true h1, of_decide_eq_true h2]
  . rw [of_decide_eq_true h]
  cases h
def RY : List Value -> List Value -> Bool
  | [], [] => true
  | a :: r, b :: q => RX a b && RY r q
  | _, _ => false
theorem PE : ∀ {a b : List Value}, RY a b = true -> a = b
  | [], [], _ => rfl
  | [], _ :: _, h => by cases h
  | _ :: _, [], h => by cases h
  | a :: r, b :: q, h => by
    obtain ⟨h1, h2⟩ := aQ (h : (RX a b && RY r q) = true); rw [adY h1, PE h2]
def ZN : bC -> bC -> Bool
  | .row e cs o m, .row e' cs' o' m' => Nat.beq e e' && RY cs cs' && decide (o = o') && decide (m = m')
  | _, _ => false
theorem adZ {a b : bC} (h : ZN a b = true) : a = b := by
  unfold ZN at h; split at h
  . obtain ⟨h, h1⟩ := aQ h; obtain ⟨h, h2⟩ := aQ h; obtain ⟨h, h3⟩ := aQ h; rw [bV h, PE h3, of_decide_eq_true h2, of_decide_eq_true h1]
  cases h
def W6 (rd : List (Nat × bC)) (h : U) : Bool := rd.all fun p => match h.get p.1 with
  | some ob => ZN ob p.2
  | none => false
theorem zL {b : Nat} {ob : bC} : ∀ {l : List (Nat × bC)}, look l b = some ob -> (b, ob) ∈ l
  | [], h => by cases h
  | (c, oc) :: r, h => by
    simp only [look] at h
    cases hc : Nat.beq c b with
    | true =>
      rw [hc] at h; simp only [cond_true, Option.some.injEq] at h
      rw [bV hc, h]; exact List.mem_cons_self
    | false =>
      rw [hc] at h; simp only [cond_false] at h; exact List.mem_cons_of_mem _ (zL h)
theorem ae0 {rd : List (Nat × bC)} {h : U} (hk : W6 rd h = true) {b : Nat} {ob : bC} (hl : look rd b = some ob) : h.get b = some ob := by
  have := List.all_eq_true.1 hk _ (zL hl); simp only at this; split at this
  . rename_i o2 hg; rw [hg, adZ this]
  cases this
def RZ (P : Program) (rd : List (Nat × bC)) (ops : Array Oper) (n : Nat) (o : Oper) (s : dT) : Option dT :=
  match bL ops s.t o, o.op with
  | some true, .load T a =>
    match aB s.t a with
    | .pointer (some p) =>
      match look rd p.block with
      | some ob =>
        match dD P T (aB s.t a) { next := s.h.next, low := s.h.next, aA := [(p.block, ob)] } with
        | some v => (put n s.t o.dst v).map fun t => { s with t, bs := s.bs ++ [aM s.bs o] }
        | none => none
      | none => none
    | _ => none
  | _, _ => none
def qN (P : Program) (rd : List (Nat × bC)) (step : Oper -> (Operand -> Value) -> U -> Option (Value × U)) (ops : Array Oper) (n : Nat) : List Oper -> Nat -> dT -> Option dT
  | [], _, s => bif W6 rd s.h then some s else none
  | o :: r, i, s => bif W6 rd s.h then
      match gJ step ops n o i s with
      | some s' => qN P rd step ops n r (i + 1) s'
      | none => match RZ P rd ops n o s with
        | some s' => qN P rd step ops n r (i + 1) s'
        | none => none
    else none
def MT (P : Program) (h0 : U) (step : Oper -> (Operand -> Value) -> U -> Option (Value × U)) (ops : Array Oper) (n : Nat) : List Oper -> Nat -> dT -> List (Nat × bC) -> List (Nat × bC)
  | [], _, _, l => l
  | o :: r, i, s, l => match gJ step ops n o i s with
    | some s' => MT P h0 step ops n r (i + 1) s' l
    | none => match IX P h0 ops n o s with
      | some (s', b) => match h0.get (b - 1) with
        | some ob => MT P h0 step ops n r (i + 1) s' ((b - 1, ob) :: l)
        | none => l
      | none => l
def J8 (P : Program) (h0 : U) (step : Oper -> (Operand -> Value) -> U -> Option (Value × U)) (ops : Array Oper) (n : Nat) (s : dT) (rd : List (Nat × bC)) : Option dT :=
  bif rd.all fun p => Nat.blt p.1 h0.next then qN P rd step ops n ops.toList 0 s else none
theorem ZO {call : FuncId -> List Value -> U -> Option (Value × U)} {yield : Nat -> List Value -> U -> Option (Value × U)} {X : Nat -> bC -> Prop} {rd : List (Nat × bC)} {o : Oper} {i : Nat} {s s' : dT}
    (hf : RZ P rd ops n o s = some s') (hX : ∀ c ob, look rd c = some ob -> X c ob) :
    s'.bs = s.bs ++ [aM s.bs o] /\ AL (cP P call yield) ops n X o i s s' := by
  unfold RZ at hf; split at hf
  . rename_i T a hw dU; split at hf
    . rename_i p cB; split at hf
      . rename_i ob hg; split at hf
        . rename_i v hv; obtain ⟨t, h3, h4⟩ := Option.map_eq_some_iff.1 hf; subst h4; refine ⟨rfl, .still hw v [(p.block, ob)] (fun c oc hc => ?_) ?_ h3 rfl rfl rfl rfl⟩
          . simp only [look] at hc
            cases BE : Nat.beq p.block c with
            | true =>
              rw [BE] at hc; simp only [cond_true, Option.some.injEq] at hc; obtain rfl := bV BE; subst hc
              exact hX _ _ hg
            | false => rw [BE] at hc; cases hc
          unfold cP; rw [dU]; simp only [hv, Option.map_some]
        cases hf
      cases hf
    cases hf
  cases hf
theorem B6 {call : FuncId -> List Value -> U -> Option (Value × U)} {yield : Nat -> List Value -> U -> Option (Value × U)} {rd : List (Nat × bC)} : ∀ (l : List Oper) (i : Nat) (s s' : dT), qN P rd (cP P call yield) ops n l i s = some s' ->
    ∃ st : Nat -> dT, st i = s /\ st (i + l.length) = s' /\ (∀ q, i <= q -> q <= i + l.length -> W6 rd (st q).h = true) /\
    ∀ j o, l[j]? = some o -> ∀ X : Nat -> bC -> Prop, (∀ c ob, look rd c = some ob -> X c ob) -> (st (i + j + 1)).bs = (st (i + j)).bs ++ [aM (st (i + j)).bs o] /\ AL (cP P call yield) ops n X o (i + j) (st (i + j)) (st (i + j + 1))
  | [], i, s, s', h => by
    simp only [qN] at h; obtain ⟨h1, h2⟩ := aT h; simp only [Option.some.injEq] at h2; subst h2
    exact ⟨fun _ => s, rfl, rfl, fun _ _ _ => h1, fun j o hj => by simp at hj⟩
  | o :: l, i, s, s', h => by
    simp only [qN] at h; obtain ⟨bZ, h⟩ := aT h
    have key : ∀ s1, qN P rd (cP P call yield) ops n l (i + 1) s1 = some s' ->
        (∀ X : Nat -> bC -> Prop, (∀ c ob, look rd c = some ob -> X c ob) -> s1.bs = s.bs ++ [aM s.bs o] /\ AL (cP P call yield) ops n X o i s s1) ->
      ∃ st : Nat -> dT, st i = s /\ st (i + (o :: l).length) = s' /\ (∀ q, i <= q -> q <= i + (o :: l).length -> W6 rd (st q).h = true) /\
        ∀ j o', (o :: l)[j]? = some o' -> ∀ X : Nat -> bC -> Prop, (∀ c ob, look rd c = some ob -> X c ob) -> (st (i + j + 1)).bs = (st (i + j)).bs ++ [aM (st (i + j)).bs o'] /\ AL (cP P call yield) ops n X o' (i + j) (st (i + j)) (st (i + j + 1)) := fun s1 hr hd => by
      obtain ⟨st, h1, h2, hq, h3⟩ := B6 l (i + 1) s1 s' hr; refine ⟨fun k => if k = i then s else st k, by simp, ?_, fun q hq1 JE => ?_, fun j o' hj X hX => ?_⟩
      . simp only [List.length_cons]; rw [if_neg (by omega), <- h2]; congr 1; omega
      . rw [List.length_cons] at JE; by_cases e : q = i
        . subst e; simpa using bZ
        simp only [if_neg e]; exact hq q (by omega) (by omega)
      cases j with
      | zero =>
        simp at hj; subst hj
        simpa [h1] using hd X hX
      | succ j =>
        simp only [List.getElem?_cons_succ] at hj; have := h3 j o' hj X hX; rw [show i + 1 + j = i + (j + 1) by omega] at this; simp only; rw [if_neg (by omega), if_neg (by omega)]; exact this
    split at h
    . rename_i s1 CF; exact key s1 h fun X _ => PX CF
    split at h
    . rename_i s1 CF; exact key s1 h fun X hX => ZO CF hX
    cases h
theorem ZP {call : FuncId -> List Value -> U -> Option (Value × U)} {yield : Nat -> List Value -> U -> Option (Value × U)} {t0 : Tr} {h0 : U} {s : dT} {rd : List (Nat × bC)} (h : J8 P h0 (cP P call yield) ops n ⟨t0, h0, [], [], 0, false⟩ rd = some s) : ∃ st, Trace (cP P call yield) ops n st t0 h0 /\ st ops.size = s := by
  unfold J8 at h; obtain ⟨hb, h⟩ := aT h; obtain ⟨st, h1, h2, hq, h3⟩ := B6 _ _ _ _ h
  have I9 : st ops.size = s := by simpa using h2
  refine ⟨st, ⟨h1, fun i o ho => ?_⟩, I9⟩; have := h3 i o (by simpa using ho) (fun b ob => h0.get b = some ob /\ b < h0.next /\ (b < (st ops.size).h.low \/ ∀ q, q <= ops.size -> (st q).h.get b = some ob)) (fun c ob hc => ?_)
  . simpa only [Nat.zero_add] using this
  have kX : ∀ q, q <= ops.size -> (st q).h.get c = some ob := fun q JE => ae0 (hq q (Nat.zero_le _) (by simpa using JE)) hc; have h0 := kX 0 (Nat.zero_le _); rw [h1] at h0; exact ⟨h0, jA (List.all_eq_true.1 hb _ (zL hc)), .inr kX⟩
variable {B : Nat} {w0 : World} {S : Nat -> Prop} {ρ0 : Ren} {call : FuncId -> List Value -> U -> Option (Value × U)} {yield : Nat -> List Value -> U -> Option (Value × U)} {t0 : Tr} {h0 : U}
theorem ZQ (iZ : lG P B w0 call) (pW : gE P B w0 yield) (bZ : oJ ops = true) {s : dT} {rd : List (Nat × bC)} (hf : J8 P h0 (cP P call yield) ops n ⟨t0, h0, [], [], 0, false⟩ rd = some s)
    {w : World} {a : Act} (hr : HR P ρ0 S B w0 h0 w) (ht : lE ρ0 S t0 n a.tmps) {r : Option Nat} {nn : Nat} {Q : Exit -> Act -> World -> Prop}
    (k : ∀ bY w' a', aU P B w0 ρ0 bY S h0 s.h w w' -> lE bY (Ext S h0 s.h) s.t n a'.tmps -> a'.defers = a.defers -> Q .normal a' w') (t : Nat) :
    wpOpsIn (sU r) nn P ops Q (Region.schedule true ops t) a w := wG iZ pW bZ (ZP hf) hr ht k t
end Go.Fs
namespace Go.Fs
open Go.RowKit (Below)
variable {P : Program} {B : Nat} {w0 : World}
def MU (P : Program) (orc : FuncId -> List Value -> U -> Option (Value × U)) (rec : Rec) : Rec := fun aY c fr h =>
  match c with
  | .region _ ops true => match IY P { next := h.next, low := h.next, aA := h.aA } (cP P (eJ P orc rec) (eK rec)) ops fr.n ⟨fr.t, { next := h.next, low := h.next, aA := h.aA }, [], [], 0, false⟩ with
    | some s => some (.normal, { t := s.t, n := fr.n, marks := fr.marks }, { next := s.h.next, low := min h.low s.h.low, aA := s.h.aA })
    | none => match J8 P { next := h.next, low := h.next, aA := h.aA } (cP P (eJ P orc rec) (eK rec)) ops fr.n ⟨fr.t, { next := h.next, low := h.next, aA := h.aA }, [], [], 0, false⟩ (MT P { next := h.next, low := h.next, aA := h.aA } (cP P (eJ P orc rec) (eK rec)) ops fr.n ops.toList 0 ⟨fr.t, { next := h.next, low := h.next, aA := h.aA }, [], [], 0, false⟩ []) with
      | some s => some (.normal, { t := s.t, n := fr.n, marks := fr.marks }, { next := s.h.next, low := min h.low s.h.low, aA := s.h.aA })
      | none => bH P orc rec aY c fr h
  | c => bH P orc rec aY c fr h
def lH (P : Program) (orc : FuncId -> List Value -> U -> Option (Value × U)) : Nat -> Rec
  | 0 => fun _ _ _ _ => none
  | n + 1 => MU P orc (lH P orc n)
theorem HR.low {ρ : Ren} {S : Nat -> Prop} {h : U} {w : World} (hr : HR P ρ S B w0 h w) (l : Nat) : HR P ρ S B w0 { next := h.next, low := l, aA := h.aA } w :=
  { aA := hr.aA, inj := hr.inj, base := hr.base, ro := hr.ro, ids := hr.ids, pos := hr.pos, below := hr.below, drawn := hr.drawn, size := hr.size }
theorem aU.W7 {ρ bY : Ren} {S : Nat -> Prop} {h h' : U} {w w' : World} {l : Nat} (m : aU P B w0 ρ bY S { next := h.next, low := l, aA := h.aA } h' w w') :
    aU P B w0 ρ bY S h { next := h'.next, low := min h.low h'.low, aA := h'.aA } w w' where
  agree := m.agree
  next := m.next
  hr := m.hr.low _
  frame := ⟨m.frame.os, m.frame.tape, m.frame.output, m.frame.size, m.frame.block⟩
  low := Nat.min_le_left _ _
  aV := fun i hi hl => m.aV i hi (Nat.lt_of_lt_of_le hl (Nat.min_le_right _ _))
  old := m.old
  fresh := fun i o ho hi => by
    obtain ⟨h1, h2⟩ := m.fresh i o ho hi; refine ⟨h1, ?_⟩; rcases h2 with h2 | ⟨j, oj, h3, h4, h5, h6, h7⟩
    . exact .inl h2
    exact .inr ⟨j, oj, h3, h4, h5, Nat.le_trans (Nat.min_le_right _ _) h6, h7⟩
theorem S3 (hP : lW P) {orc : FuncId -> List Value -> U -> Option (Value × U)} (nU : cY P B w0 orc) {m : Nat} {rec : Rec} (jP : pF P B w0 m rec) : pF P B w0 (m + 1) (MU P orc rec) := by
  have iZ : lG P B w0 (eJ P orc rec) := yN hP nU jP; have pW : gE P B w0 (eK rec) := DH jP; have hold := GX hP nU jP; intro aY c fr h e jW h' bZ hf
  cases c with
  | region id ops draw =>
    cases draw with
    | false => exact hold aY _ fr h e jW h' bZ hf
    | true =>
      intro ρ S w a nn Q hr ht hm hs k; simp only [MU] at hf; split at hf
      . rename_i s eZ; simp only [Option.some.injEq, Prod.mk.injEq] at hf; obtain ⟨rfl, rfl, rfl⟩ := hf; refine wpIn_region_draw fun t => ?_; rw [hP.mixed]; exact X4 (h0 := { next := h.next, low := h.next, aA := h.aA }) (call := eJ P orc rec) (yield := eK rec) iZ pW bZ eZ ((hr.drew _).low _) ht (fun cS w1 a1 m1 CK JV => k _ _ _ ⟨(aU.wC m1).W7, CK, by rw [JV]; exact hm.mono fun b hb => ⟨.inl hb, m1.agree b hb⟩⟩) t
      split at hf
      . rename_i s eZ; simp only [Option.some.injEq, Prod.mk.injEq] at hf; obtain ⟨rfl, rfl, rfl⟩ := hf; refine wpIn_region_draw fun t => ?_; rw [hP.mixed]; exact ZQ (h0 := { next := h.next, low := h.next, aA := h.aA }) (call := eJ P orc rec) (yield := eK rec) iZ pW bZ eZ ((hr.drew _).low _) ht (fun cS w1 a1 m1 CK JV => k _ _ _ ⟨(aU.wC m1).W7, CK, by rw [JV]; exact hm.mono fun b hb => ⟨.inl hb, m1.agree b hb⟩⟩) t
      exact hold aY _ fr h e jW h' bZ hf ρ S w a nn Q hr ht hm hs k
  | _ => exact hold aY _ fr h e jW h' bZ hf
theorem ED (hP : lW P) {orc : FuncId -> List Value -> U -> Option (Value × U)} (nU : cY P B w0 orc) : ∀ m, pF P B w0 m (lH P orc m)
  | 0 => fun aY c fr h e jW h' _ hf => by cases hf
  | m + 1 => S3 hP nU (ED hP nU m)
theorem ZR (hP : lW P) {orc : FuncId -> List Value -> U -> Option (Value × U)} (nU : cY P B w0 orc) (m : Nat) : cY P B w0 (mG P (lH P orc m)) := DG hP (ED hP nU m)
theorem W8 (hP : lW P) {w : World} {orc : FuncId -> List Value -> U -> Option (Value × U)} (nU : cY P w.heap.size (wz w) orc) {m : Nat} {f : FuncId} {args : List Value} {v : Value} (ha : args.all af = true)
    (hf : (mG P (lH P orc m) f args ⟨1, 1, []⟩).map (·.1) = some v) (hv : af v = true) :
    Calls P f args.toArray w fun | .returned v', w' => v' = v /\ Below w.heap.size w w' | _, _ => False := by
  obtain ⟨⟨v0, h0⟩, h1, h2⟩ := Option.map_eq_some_iff.1 hf; simp only at h2; subst h2
  have hr : HR P (fun _ => Loc.clean 0 0 0 0) (fun _ => False) w.heap.size (wz w) ⟨1, 1, []⟩ w :=
    { aA := fun i o hi => (by cases hi), inj := fun i j oi oj hi => (by cases hi), base := fun i o hi => (by cases hi), ro := fun i o hi => (by cases hi), ids := fun b hb => hb.elim, pos := by decide,
      below := JI (Below.refl _ _), drawn := Nat.zero_le _, size := Nat.le_refl _ }
  have hc := ((ZR hP nU m) f args _ _ _ h1).2 _ _ w args hr ⟨rfl, fun i hi => .mH (List.all_eq_true.1 ha _ (oL hi))⟩ 0; refine Calls.mono (callsIn_wide.1 hc) fun e w' he => ?_
  cases e with
  | returned v' =>
    obtain ⟨bY, m1, X7⟩ := he
    exact ⟨X7.dN hv, y7 m1.hr.below⟩
  | panicked c => exact he.elim
  | outgrown => exact he.elim
theorem N9 (hP : lW P) {B : Nat} {w0 : World} {O : FuncId -> List Value -> U -> Option (Value × U)} {fa : FuncId} (hS : ∀ w, Below B w0 w -> cY P w.heap.size (wz w) O) {m : Nat}
    (eZ : (mG P (lH P O m) fa [] ⟨1, 1, []⟩).map (·.1) = some (.bool true)) (w : World) (hw : Below B w0 w) :
    Calls P fa #[] w fun | .returned v', w' => v' = .bool true /\ Below w.heap.size w w' | _, _ => False :=
  W8 hP (hS w hw) (args := []) rfl eZ rfl
end Go.Fs
namespace Go.Fs
variable {P : Program} {orc : FuncId -> List Value -> U -> Option (Value × U)}
def CT (P : Program) (orc : FuncId -> List Value -> U -> Option (Value × U)) : Nat -> Nat -> Code -> Fr -> U -> Option (Nat × Code × Fr × U)
  | 0, n, c, fr, h => some (n, c, fr, h)
  | k + 1, n, c, fr, h => match n, c with
    | n + 1, .seq a b => match lH P orc n none a fr h with
      | some (.normal, fr1, h1) => CT P orc k n b fr1 h1
      | _ => none
    | _, _ => none
theorem T3 : ∀ {k n : Nat} {c : Code} {fr : Fr} {h : U} {n' : Nat} {c' : Code} {jW : Fr} {h' : U}, CT P orc k n c fr h = some (n', c', jW, h') -> lH P orc n none c fr h = lH P orc n' none c' jW h'
  | 0, n, c, fr, h, n', c', jW, h', hr => by
    simp only [CT, Option.some.injEq, Prod.mk.injEq] at hr; obtain ⟨rfl, rfl, rfl, rfl⟩ := hr
    rfl
  | k + 1, n, c, fr, h, n', c', jW, h', hr => by
    simp only [CT] at hr; split at hr
    . rename_i n a b; split at hr
      . rename_i fr1 h1 ha; rw [<- T3 hr]; show bH P orc (lH P orc n) none (.seq a b) fr h = _; simp only [bH, ha]
      cases hr
    cases hr
def af6 (P : Program) (fn : Func) (h : U) (x : Ex × Fr × U) : Option Value :=
  bif x.1.goes then
    match iV x.2.1.marks x.2.2 with
    | some h2 => (fX P x.2.1.t h2 fn.results.toList).map gS
    | none => none
  else none
theorem X0 {rec : Rec} {f : FuncId} {args : List Value} {h : U} {fn : Func} {c : Code} (hf : P.funcs[f]? = some fn) (hc : fn.body = some c) (hn : (Nat.blt 4000 fn.ntmps || Nat.blt fn.ntmps args.length) = false) :
    (mG P rec f args h).map (·.1) = (rec none c ⟨iI .leaf 0 args, fn.ntmps, []⟩ { next := h.next, low := h.next, aA := h.aA }).bind (af6 P fn h) := by
  unfold mG kE af6; simp only [hf, hc, hn, cond_false]
  cases rec none c ⟨iI .leaf 0 args, fn.ntmps, []⟩ { next := h.next, low := h.next, aA := h.aA } with
  | none => rfl
  | some x =>
    obtain ⟨e, fr, h1⟩ := x; simp only [Option.bind_some]
    cases e.goes with
    | false => rfl
    | true =>
      simp only [cond_true]
      cases iV fr.marks h1 with
      | none => rfl
      | some h2 =>
        simp only
        cases fX P fr.t h2 fn.results.toList with
        | none => rfl
        | some vs =>
          simp only [Option.map_some]; generalize (!false && (af (gS vs) && Nat.ble h.next h2.low)) = q; cases q <;> rfl
def af5 : Nat -> Code -> Code
  | 0, c => c
  | k + 1, .seq _ b => af5 k b
  | _ + 1, c => c
def I3 : Code -> Option (Array Tmp × Code × Code)
  | .rangeFunc _ ps a b => some (ps, a, b)
  | .seq a b => (I3 a).or (I3 b)
  | .cond _ a b => (I3 a).or (I3 b)
  | .block _ b => I3 b
  | .loop b => I3 b
  | .scope b => I3 b
  | _ => none
def apK (fn : Func) : Array Tmp × Code × Code := (fn.body.bind I3).getD (#[], .skip, .skip)
end Go.Fs
namespace Go.Fs
open Go.RowKit (Below)
variable {P : Program} {B : Nat} {w0 : World}
theorem T1 {fi : FuncId} (hz : w0.drawn = 0) (hi : Enters P fi)
    (hI : ∀ (n : Int) (w : World), Below B w0 w -> -9223372036854775808 <= n -> n <= 9223372036854775807 -> Calls P fi #[.int .i64 n] w fun e w' => e = .returned (.string ⟨(Lib.itoa n).toArray⟩) /\ Below w.heap.size w w') : cY P B w0 (KE fi fi) := by
  intro f xs h v h' hf; unfold KE at hf
  cases hfi : Nat.beq f fi with
  | true =>
    have := bV hfi; subst this; rw [hfi] at hf; simp only [cond_true] at hf; split at hf
    . rename_i n; obtain ⟨hc, dI⟩ := aT hf; obtain ⟨h0, h1⟩ := aQ hc; have h0 := of_decide_eq_true h0; have h1 := of_decide_eq_true h1; simp only [Option.some.injEq, Prod.mk.injEq] at dI; obtain ⟨rfl, rfl⟩ := dI; refine ⟨hi, fun ρ S w args' hr ha nn => ?_⟩; have he : args' = [.int .i64 n] := ha.dN (by rfl); subst he; have hC : CallsIn Fence.wide nn P f #[.int .i64 n] w _ := callsIn_wide.2 (hI n w hr.below (by omega) (by omega)); refine hC.mono fun e w' v7 => ?_; obtain ⟨rfl, hb⟩ := v7; exact ⟨ρ, aU.JJ hr hb (by rw [hz]; exact Nat.zero_le _), by rw [abV h0 h1]; exact .lit rfl⟩
    cases hf
  | false =>
    rw [hfi] at hf; simp only [cond_false] at hf; cases hf
end Go.Fs
