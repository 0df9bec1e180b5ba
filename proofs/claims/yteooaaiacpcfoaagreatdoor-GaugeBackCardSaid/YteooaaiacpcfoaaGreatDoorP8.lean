/- Parts of the proof: an evaluator of the model, what it is sound for, and contracts of functions. No condition. -/
import Derived.Test.YteooaaiacpcfoaaGreatDoorP7
import Derived.Test.YteooaaiacpcfoaaGreatDoorP5
import Derived.Test.YteooaaiacpcfoaaGreatDoorP6
import Derived.Test.YteooaaiacpcfoaaGreatDoorP4
set_option linter.all false
namespace Go.Proofs
open Go.Fs Ieee
set_option maxHeartbeats 400000
theorem DW {s : Int × Int} {a : List (Int × Int)} {t : Int} : Sp.gK (s :: a) t = true ↔ (s.1 <= t /\ t < s.2) \/ Sp.gK a t = true := by
  unfold Sp.gK; simp
theorem FT {a : List (Int × Int)} {c t : Int} (h : ∀ x ∈ a, c < x.1) (hi : Sp.gK a t = true) : c < t := by
  obtain ⟨x, hx, h2⟩ := List.any_eq_true.1 hi; simp only [Bool.and_eq_true, decide_eq_true_eq] at h2; have := h x hx; omega
theorem uH {m : Int} {s : Int × Int} {a : List (Int × Int)} (h : Sp.Canon m (s :: a)) : Sp.Canon m a /\ (s.1 < s.2) /\ ∀ x ∈ a, s.2 < x.1 :=
  ⟨⟨fun x hx => h.1 x (List.mem_cons_of_mem _ hx), (List.pairwise_cons.1 h.2).2⟩, (h.1 s List.mem_cons_self).2.1, (List.pairwise_cons.1 h.2).1⟩
theorem MI {m : Int} : ∀ {a b : List (Int × Int)}, Sp.Canon m a -> Sp.Canon m b -> (∀ t : Int, Sp.gK a t = Sp.gK b t) -> a = b
  | [], [], _, _, _ => rfl
  | [], u :: b, _, hb, h => by
    have h1 := uH hb; have h2 := DW.2 (.inl ⟨Int.le_refl u.1, h1.2.1⟩ : (u.1 <= u.1 /\ u.1 < u.2) \/ Sp.gK b u.1 = true); rw [<- h u.1] at h2
    cases h2
  | s :: a, [], ha, _, h => by
    have h1 := uH ha; have h2 := DW.2 (.inl ⟨Int.le_refl s.1, h1.2.1⟩ : (s.1 <= s.1 /\ s.1 < s.2) \/ Sp.gK a s.1 = true); rw [h s.1] at h2
    cases h2
  | s :: a, u :: b, ha, hb, h => by
    obtain ⟨ca, s0, sa⟩ := uH ha; obtain ⟨cb, u0, ub⟩ := uH hb
    have key : ∀ t, ((s.1 <= t /\ t < s.2) \/ Sp.gK a t = true) ↔ ((u.1 <= t /\ t < u.2) \/ Sp.gK b t = true) := fun t => by rw [<- DW, <- DW, h t]
    have e1 : s.1 = u.1 := by
      have k1 := (key s.1).1 (.inl ⟨Int.le_refl _, s0⟩); have k2 := (key u.1).2 (.inl ⟨Int.le_refl _, u0⟩)
      have k1' : u.1 <= s.1 := by
        rcases k1 with k1 | k1
        . exact k1.1
        have := FT ub k1; omega
      have k2' : s.1 <= u.1 := by
        rcases k2 with k2 | k2
        . exact k2.1
        have := FT sa k2; omega
      omega
    have e2 : s.2 = u.2 := by
      rcases Int.lt_trichotomy s.2 u.2 with bX | he | bX
      . rcases (key s.2).2 (.inl ⟨by omega, bX⟩) with k | k
        . omega
        have := FT sa k; omega
      . exact he
      rcases (key u.2).1 (.inl ⟨by omega, bX⟩) with k | k
      . omega
      have := FT ub k; omega
    have e3 : a = b := MI ca cb fun t => by
      rw [Bool.eq_iff_iff]; constructor
      . intro hi; have := FT sa hi; rcases (key t).1 (.inr hi) with k | k
        . omega
        exact k
      intro hi; have := FT ub hi; rcases (key t).2 (.inr hi) with k | k
      . omega
      exact k
    rw [e3, show s = u from Prod.ext e1 e2]
theorem WU {α : Type} {l : List α} (h : 0 < l.length) : l = l.take (l.length - 1) ++ [l[l.length - 1]'(by omega)] := by
  have h2 := List.take_succ_eq_append_getElem (l := l) (i := l.length - 1) (by omega); rw [show l.length - 1 + 1 = l.length by omega, List.take_length] at h2; exact h2
theorem ae3 {α : Type} {l : List α} {y : α} (h : 0 < l.length) : l.set (l.length - 1) y = l.take (l.length - 1) ++ [y] := by
  rw [List.set_eq_take_append_cons_drop, if_pos (by omega), List.drop_eq_nil_of_le (by omega)]
theorem MJ (out : List (Int × Int)) (i : Nat) : (∃ init x, out = init ++ [x] /\ x.2 = (i : Int) /\ yY out i = init ++ [(x.1, (i : Int) + 1)]) \/ ((out = [] \/ ∃ init x, out = init ++ [x] /\ x.2 ≠ (i : Int)) /\ yY out i = out ++ [((i : Int), (i : Int) + 1)]) := by
  by_cases h0 : 0 < out.length
  . have hs := WU h0; have hx : p9 out (out.length - 1) = out[out.length - 1]'(by omega) := j7 (by omega); by_cases h1 : (p9 out (out.length - 1)).2 = (i : Int)
    . refine .inl ⟨_, _, hs, by rw [<- hx]; exact h1, ?_⟩; rw [abH h0 h1, ae3 h0, hx]
    refine .inr ⟨.inr ⟨_, _, hs, by rw [<- hx]; exact h1⟩, RX (fun hh => h1 hh.2)⟩
  have h2 : out = [] := List.length_eq_zero_iff.1 (by omega); exact .inr ⟨.inl h2, RX (fun hh => h0 hh.1)⟩
theorem WV {l : List Bool} {i : Nat} : eC l (i + 1) = if l.getD i false = true then eC l i else yY (eC l i) i := rfl
theorem uI {l : List Bool} : ∀ i : Nat, Sp.Canon (i : Int) (eC l i)
  | 0 => ⟨fun s hs => (by cases hs), List.Pairwise.nil⟩
  | i + 1 => by
    have ih := uI (l := l) i; rw [WV]; split
    . exact ⟨fun s hs => by have := ih.1 s hs; omega, ih.2⟩
    rcases MJ (eC l i) i with ⟨init, x, e1, e2, e3⟩ | ⟨e1, e3⟩
    . rw [e3]; rw [e1] at ih; have hx := ih.1 x (by simp); obtain ⟨p1, _, p3⟩ := List.pairwise_append.1 ih.2; refine ⟨fun s hs => ?_, List.pairwise_append.2 ⟨p1, List.pairwise_singleton _ _, fun s hs u hu => ?_⟩⟩
      . rcases List.mem_append.1 hs with hs | hs
        . have := ih.1 s (List.mem_append_left _ hs); omega
        rw [List.mem_singleton.1 hs]; show 0 <= x.1 /\ x.1 < (i : Int) + 1 /\ (i : Int) + 1 <= ((i + 1 : Nat) : Int); omega
      rw [List.mem_singleton.1 hu]; exact p3 s hs x (List.mem_singleton.2 rfl)
    rw [e3]
    have bX : ∀ s ∈ eC l i, s.2 < (i : Int) := fun s hs => by
      rcases e1 with e1 | ⟨init, x, e1, e2⟩
      . rw [e1] at hs; cases hs
      rw [e1] at hs ih; have hx := ih.1 x (by simp); rcases List.mem_append.1 hs with hs | hs
      . have := (List.pairwise_append.1 ih.2).2.2 s hs x (List.mem_singleton.2 rfl); omega
      rw [List.mem_singleton.1 hs]; omega
    refine ⟨fun s hs => ?_, List.pairwise_append.2 ⟨ih.2, List.pairwise_singleton _ _, fun s hs u hu => ?_⟩⟩
    . rcases List.mem_append.1 hs with hs | hs
      . have := ih.1 s hs; omega
      rw [List.mem_singleton.1 hs]; show 0 <= (i : Int) /\ (i : Int) < (i : Int) + 1 /\ (i : Int) + 1 <= ((i + 1 : Nat) : Int); omega
    rw [List.mem_singleton.1 hu]; exact bX s hs
theorem DX {l : List Bool} {t : Int} : ∀ i : Nat, (Sp.gK (eC l i) t = true ↔ 0 <= t /\ t < (i : Int) /\ l.getD t.toNat false = false)
  | 0 => ⟨fun h => (by cases h), fun h => by omega⟩
  | i + 1 => by
    have ih := DX (l := l) (t := t) i; have hc := uI (l := l) i; rw [WV]; split
    . rename_i hb; rw [ih]; refine ⟨fun h => ⟨h.1, by omega, h.2.2⟩, fun h => ⟨h.1, ?_, h.2.2⟩⟩; by_cases e : t = (i : Int)
      . have := h.2.2; rw [e, Int.toNat_natCast, hb] at this; cases this
      omega
    rename_i hb
    have hb : l.getD i false = false := by simpa using hb
    have hn : (0 <= t /\ t < ((i + 1 : Nat) : Int) /\ l.getD t.toNat false = false) ↔ ((0 <= t /\ t < (i : Int) /\ l.getD t.toNat false = false) \/ t = (i : Int)) := by
      constructor
      . intro h; by_cases e : t = (i : Int)
        . exact .inr e
        exact .inl ⟨h.1, by omega, h.2.2⟩
      intro h; rcases h with h | h
      . exact ⟨h.1, by omega, h.2.2⟩
      refine ⟨by omega, by omega, ?_⟩; rw [h, Int.toNat_natCast]; exact hb
    rw [hn, <- ih]; rcases MJ (eC l i) i with ⟨init, x, e1, e2, e3⟩ | ⟨e1, e3⟩
    . have hx := hc.1 x (by rw [e1]; simp); rw [e3, e1, Sp.D8, Sp.D8, Bool.or_eq_true, Bool.or_eq_true, Sp.LN, show [x] = [(x.1, x.2)] from rfl, Sp.LN]; constructor
      . intro h; rcases h with h | h
        . exact .inl (.inl h)
        by_cases e : t = (i : Int)
        . exact .inr e
        exact .inl (.inr (by omega))
      intro h; rcases h with (h | h) | h
      . exact .inl h
      . exact .inr (by omega)
      exact .inr (by omega)
    rw [e3, Sp.D8, Bool.or_eq_true, Sp.LN]; constructor
    . intro h; rcases h with h | h
      . exact .inl h
      exact .inr (by omega)
    intro h; rcases h with h | h
    . exact .inl h
    exact .inr (by omega)
theorem BX {n : Nat} {p : Int -> Bool} {t : Nat} (h : t < n) : (j9 n p).getD t false = !p (t : Int) := by
  rw [dP (by rw [gC]; exact h), rM h]
theorem ae4 {n : Nat} {G : List (Int × Int)} (h : Sp.Canon (n : Int) G) : eC (j9 n (Sp.gK G)) n = G := by
  refine MI (uI n) h fun t => ?_; rw [Bool.eq_iff_iff, DX]; constructor
  . intro hh; have h1 := BX (p := Sp.gK G) (show t.toNat < n by omega); rw [hh.2.2, show ((t.toNat : Nat) : Int) = t by omega] at h1; simpa using h1.symm
  intro hh; obtain ⟨x, hx, h2⟩ := List.any_eq_true.1 hh; simp only [Bool.and_eq_true, decide_eq_true_eq] at h2; have h3 := h.1 x hx; refine ⟨by omega, by omega, ?_⟩; rw [BX (show t.toNat < n by omega), show ((t.toNat : Nat) : Int) = t by omega, hh] <;> rfl
theorem n6 {r : bS} (h : bT r = 0) : Sp.Canon (r.2.2.1.length : Nat) r.2.2.2 /\ LO r = false /\ kI r.1 = true := by
  have h0 := (fF h).2.2.2.2; unfold bT at h; split at h
  . rename_i h1; exact absurd h h1
  rename_i h1; split at h
  . rename_i h2; exact absurd h h2
  rename_i h2; split at h
  . cases h
  rename_i h3; have h1 := eO.1 (Classical.not_not.1 h1); have h2 := rL.1 (Classical.not_not.1 h2); have h4 := sM h2.2; have h6 := h1 (cL (!kI r.1) 8) (by simp); rw [mX (by decide)] at h6 h; exact ⟨⟨h0, h4.1.2⟩, h, by simpa using h6⟩
theorem ae5 {l : List (Int × Int)} (h : Sp.Canon 100000 l) (hn : l.length <= 2048) : l9 l = 0 := by
  unfold l9; rw [if_neg (by omega)]; unfold rB; rw [eO]; intro x hx; obtain ⟨j, hj, rfl⟩ := List.mem_map.1 hx; rw [List.mem_range'_1] at hj
  have QM : j < l.length := by omega
  unfold l8; rw [eO]; intro y hy; simp only [List.mem_cons, List.not_mem_nil, or_false] at hy; rcases hy with rfl | rfl
  . rw [j7 QM]; exact H6.2 (h.1 _ (List.getElem_mem QM))
  rw [mX (by decide)]; rcases Nat.eq_zero_or_pos j with h1 | h1
  . subst h1; rfl
  rw [decide_eq_true (show (0 : Int) < (j : Int) by omega), Bool.true_and, decide_eq_false_iff_not, j7 QM, j7 (show j - 1 < l.length by omega)]; have := List.pairwise_iff_getElem.1 h.2 (j - 1) j (by omega) QM (by omega); omega
theorem SD {n lo hi : Int} : kB n lo hi = 0 ↔ lo <= n /\ n <= hi := by
  unfold kB; split
  . exact ⟨fun h => absurd h (by decide), fun h => by omega⟩
  exact ⟨fun _ => by omega, fun _ => rfl⟩
theorem WW {r : bS} : (gS r).length = r.2.2.1.length := gC
theorem aaG {r : bS} {i : Nat} (h : i < r.2.2.1.length) (h2 : i < (gS r).length) : (gS r)[i] = ahA r i := by
  rw [VP h]; exact rM h
theorem ae6 {r : bS} {i : Nat} (h : ∀ x ∈ r.2.2.1, fD x = 0) : fD (r.2.2.1.getD i 0) = 0 := by
  by_cases hi : i < r.2.2.1.length
  . rw [dP hi]; exact h _ (List.getElem_mem hi)
  rw [List.getD_eq_getElem?_getD, List.getElem?_eq_none (by omega)]; decide +kernel
theorem SF {r : bS} (h1 : kI r.1 = true) (h2 : 0 <= r.2.1 /\ r.2.1 <= 100000) (h3 : r.2.2.1.length <= 4096) (h4 : ∀ x ∈ r.2.2.1, fD x = 0) (h5 : Sp.Canon (r.2.2.1.length : Nat) r.2.2.2) (h6 : r.2.2.2.length <= 2048) (h7 : LO r = false) : bT r = 0 := by
  have a1 : BH r = 0 := eO.2 fun x hx => by
    simp only [List.mem_cons, List.not_mem_nil, or_false] at hx; rcases hx with rfl | rfl | rfl
    . rw [h1] <;> rfl
    . exact SD.2 h2
    exact (mX (by decide)).2 (decide_eq_false (by omega))
  have a2 : rV r = 0 := rL.2 ⟨eO.2 fun x hx => by
    obtain ⟨y, hy, rfl⟩ := List.mem_map.1 hx
    exact h4 y hy, ae5 ⟨fun s hs => by have := h5.1 s hs; omega, h5.2⟩ h6⟩
  have a3 : P3 r = false := List.any_eq_false.2 fun s hs => by
    have := h5.1 s hs; simp only [decide_eq_true_eq]; omega
  unfold bT; rw [if_neg (fun h => h a1), if_neg (fun h => h a2), a3, if_neg (by decide), h7] <;> rfl
abbrev tO (r : bS) (l : List Bool) : bS := (r.1, r.2.1, gL r l aS l.length, eC l l.length)
theorem ae7 {r : bS} {l : List Bool} {n : Nat} (hv : ∀ x ∈ r.2.2.1, fD x = 0) : ∀ x ∈ gL r l aS n, fD x = 0 := fun x hx => by
  obtain ⟨j, _, rfl⟩ := List.mem_map.1 hx; split
  . exact (oX (ae6 hv)).2.1
  decide +kernel
theorem nz0 : DA 0 = false := by decide +kernel
theorem ae8 {r : bS} {l : List Bool} (h : bT r = 0) (hl : l.length = r.2.2.1.length) (hn : l.length <= 2048) : bT (tO r l) = 0 := by
  have hr := fF h; have hc := n6 h
  have hk : (gL r l aS l.length).length = l.length := by rw [jV, hl]
  have hg := uI (l := l) l.length; have hgl := BI l l.length; refine SF hc.2.2 hr.1 (by show (gL _ _ _ _).length <= _; omega) (ae7 hr.2.2.2.1) (by show Sp.Canon ((gL _ _ _ _).length : Nat) _; rw [hk]; exact hg) (by show (eC _ _).length <= _; omega) ?_; refine RT (r := tO r l) (fun i hi hh => ?_) fun s hs => ?_
  . have hi : i < (gL r l aS l.length).length := hi; have h2 : Sp.gK (eC l l.length) (i : Int) = true := hh.2; have h3 := ((DX l.length).1 h2).2.2; rw [Int.toNat_natCast] at h3; have h4 : DA ((gL r l aS l.length)[i]) = true := hh.1; rw [zZ (by omega), if_neg (fun hc => by rw [h3] at hc; exact absurd hc.2 (by decide)), nz0] at h4; cases h4
  have := hg.1 s hs; show 0 <= s.1 /\ s.1 <= s.2 /\ s.2 <= ((gL r l aS l.length).length : Nat); omega
theorem WX {r : bS} {l : List Bool} (hl : l.length = r.2.2.1.length) : gS (tO r l) = l := by
  have hk : (gL r l aS l.length).length = l.length := by rw [jV, hl]
  refine List.ext_getElem (by rw [WW]; exact hk) fun i h1 h2 => ?_; rw [aaG (show i < (gL r l aS l.length).length by omega) h1, VP (show i < (gL r l aS l.length).length by omega)]; show (!Sp.gK (eC l l.length) (i : Int)) = l[i]; have h3 := DX (l := l) (t := (i : Int)) l.length; rw [Int.toNat_natCast, dP h2] at h3
  cases hb : l[i] with
  | true =>
    rw [hb] at h3
    cases hi : Sp.gK (eC l l.length) (i : Int) with
    | false => rfl
    | true => exact absurd (h3.1 hi).2.2 (by decide)
  | false =>
    rw [hb] at h3; rw [h3.2 ⟨by omega, by omega, rfl⟩] <;> rfl
end Go.Proofs
namespace Go.Proofs
open Go.Fs Ieee
set_option maxHeartbeats 2000000
theorem ae9 {w : ByteArray} (h : fV w = true) : eK (dY w) = w := by
  rcases MA h with ⟨n, hn, he⟩ | ⟨n, h1, hn, he⟩
  . rw [(DR hn he).1, jG (by omega), <- he, kK]
  rw [(DS h1 hn he).1, PS (by omega), jG (by omega)]; apply vY; rw [hJ, gM, he] <;> rfl
theorem A6 {n : Int} (h : -1000000 <= n /\ n <= 1000000) : fV (eK n) = true /\ dY (eK n) = n /\ WC (eK n) := by
  by_cases h0 : 0 <= n
  . obtain ⟨k, rfl⟩ := Int.eq_ofNat_of_zero_le h0
    have he : aY (eK ((k : Nat) : Int)) = dF k := by rw [jG (by omega), gM]
    have := DR (show k < 1000000000 by omega) he; exact ⟨this.2, this.1, PL ⟨h0, by omega⟩⟩
  obtain ⟨k, rfl⟩ : ∃ k : Nat, n = -(k : Int) := ⟨n.natAbs, by omega⟩
  have he : aY (eK (-((k : Nat) : Int))) = 45 :: dF k := by
    rw [PS (by omega), jG (by omega), hJ, gM] <;> rfl
  have := DS (show 1 <= k by omega) (show k < 1000000000 by omega) he; refine ⟨this.2, this.1, fun c hc => ?_⟩; rw [he] at hc; rcases List.mem_cons.1 hc with rfl | hc
  . decide
  have h2 := PL (n := ((k : Nat) : Int)) ⟨by omega, by omega⟩ c; rw [jG (by omega), gM] at h2; exact h2 hc
theorem aeA : fV gD = false := by rw [IH.1]; exact alL.1
theorem abR {β : Type} {f : β -> ByteArray -> Option β} {b b1 : β} {x : ByteArray} {r : List ByteArray} (h : f b x = some b1) : runT f b (x :: r) = runT f b1 r := by
  rw [runT, h]
theorem abS {β : Type} {f : β -> ByteArray -> Option β} {b : β} : runT f b [] = some b := rfl
def s9 (r : bS) (i : Nat) : Int := if Sp.gK r.2.2.2 (i : Int) = true then 0 else qV (r.2.2.1.getD i 0)
def bK (r : bS) (k : Nat) : n5 := (some (r.1, r.2.1), j9 k (Sp.gK r.2.2.2), (List.range k).map (s9 r))
def bR (r : bS) : n5 := bK r r.2.2.1.length
section
variable {r : bS}
theorem SG (hr : bT r = 0) {i : Nat} (h : i < r.2.2.1.length) : -1024 <= qV r.2.2.1[i] /\ qV r.2.2.1[i] <= 1024 := (mF ((fF hr).2.2.2.1 _ (List.getElem_mem h))).2
theorem alM (hr : bT r = 0) {i : Nat} (h : i < r.2.2.1.length) : -1024 <= s9 r i /\ s9 r i <= 1024 := by
  unfold s9; split
  . omega
  rw [dP h]; exact SG hr h
theorem PW : WC lA := by
  intro c hc
  have : ∀ c ∈ aY lA, c ≠ 32 /\ c ≠ 10 := by decide
  exact this c hc
theorem aeB (hr : bT r = 0) : bY 32 (lO r) = [lA, r.1, eK r.2.1] := by
  have hn := BS (n6 hr).2.2; have hd := A6 (n := r.2.1) (by have := (fF hr).1; omega); refine aaB (by simp) fun w hw => ?_; simp only [List.mem_cons, List.not_mem_nil, or_false] at hw; rcases hw with rfl | rfl | rfl
  . exact fun x hx => (PW x hx).1
  . exact fun x hx => (hn.1 x hx).1
  exact fun x hx => (hd.2.2 x hx).1
theorem ahV (hr : bT r = 0) : ∀ c ∈ aY (lO r), c ≠ 10 := by
  have hn := BS (n6 hr).2.2; have hd := A6 (n := r.2.1) (by have := (fF hr).1; omega); refine WD fun w hw => ?_; simp only [List.mem_cons, List.not_mem_nil, or_false] at hw; rcases hw with rfl | rfl | rfl
  . exact PW
  . exact hn.1
  exact hd.2.2
theorem ahW (hr : bT r = 0) {i : Nat} (h : i < r.2.2.1.length) : ∀ c ∈ aY (tN r i), c ≠ 10 := by
  unfold tN; split
  . have : ∀ c ∈ aY gD, c ≠ 10 := by decide
    exact this
  rw [dP h]; have hb := SG hr h; exact fun c hc => ((A6 (n := qV r.2.2.1[i]) (by omega)).2.2 c hc).2
theorem ahX (hr : bT r = 0) {k : Nat} (h : k < r.2.2.1.length) : DU (bK r k) (tN r k) = true /\ tL (bK r k) (tN r k) = bK r (k + 1) /\ tN r k ≠ ByteArray.empty := by
  have hs : (bK r k).1.isSome = true := rfl; have hb := SG hr h; have hd := A6 (n := qV r.2.2.1[k]) (by omega)
  have e2 : bK r (k + 1) = (some (r.1, r.2.1), j9 k (Sp.gK r.2.2.2) ++ [!Sp.gK r.2.2.2 (k : Int)], (List.range k).map (s9 r) ++ [s9 r k]) := by
    unfold bK; rw [aa2, List.range_succ, List.map_append] <;> rfl
  cases hi : Sp.gK r.2.2.2 (k : Int) with
  | true =>
    have e1 : tN r k = gD := if_pos hi; have e3 : s9 r k = 0 := if_pos hi; rw [e1, w6 hs, FQ hs rfl, e2, hi, e3]
    exact ⟨rfl, rfl, by decide⟩
  | false =>
    have hni : ¬ Sp.gK r.2.2.2 (k : Int) = true := by rw [hi]; decide
    have e1 : tN r k = eK (qV r.2.2.1[k]) := by unfold tN; rw [if_neg hni, dP h]
    have e3 : s9 r k = qV r.2.2.1[k] := by unfold s9; rw [if_neg hni, dP h]
    have mQ : ¬ eK (qV r.2.2.1[k]) = gD := fun e => by rw [e, aeA] at hd; exact absurd hd.1 (by decide)
    have cA : eK (qV r.2.2.1[k]) ≠ ByteArray.empty := fun e => by rw [e, II] at hd; exact absurd hd.1 (by decide)
    rw [e1, w6 hs, FR hs mQ, e2, hi, e3, hd.1, hd.2.1]; exact ⟨by simp, rfl, cA⟩
theorem ahY (hr : bT r = 0) : DU zG (lO r) = true /\ tL zG (lO r) = bK r 0 /\ lO r ≠ ByteArray.empty := by
  have hw := aeB hr; have hs : zG.1.isSome = false := rfl; have h0 := (fF hr).1; have hn := BS (n6 hr).2.2; have hl := FI (n := r.2.1) (by omega); have ht := aoT (W := [lA, r.1, eK r.2.1]) rfl rfl hn.2.1 hl.1; refine ⟨by rw [HG hs, hw]; exact ht.1, ?_, fun e => ?_⟩
  . rw [FP hs, hw, ht.2.1, ht.2.2]; show (some (r.1, pW (eK r.2.1)), ([] : List Bool), ([] : List Int)) = _; rw [hl.2] <;> rfl
  rw [e, A2] at hw; have := congrArg List.length hw; simp at this
theorem MK (hr : bT r = 0) : ∀ k : Nat, k <= r.2.2.1.length -> runT s8 zG (lO r :: oC r k) = some (bK r k)
  | 0, _ => by
    have h := ahY hr
    rw [show lO r :: oC r 0 = [lO r] from rfl, abR (DV h.1), h.2.1, abS]
  | k + 1, hk => by
    have ih := MK hr k (by omega); have h := ahX hr (k := k) (by omega)
    have e : lO r :: oC r (k + 1) = (lO r :: oC r k) ++ [tN r k] := by
      unfold oC; rw [List.range_succ, List.map_append, List.cons_append] <;> rfl
    rw [e, PN ih]; rw [abR (DV h.1), h.2.1, abS]
theorem WY {k : Nat} : (lO r :: oC r k).length = k + 1 := by simp [oC]
theorem PX (hr : bT r = 0) {k : Nat} (hk : k <= r.2.2.1.length) : ∀ x ∈ lO r :: oC r k, ∀ c ∈ aY x, c ≠ 10 := fun x hx => by
  rcases List.mem_cons.1 hx with rfl | hx
  . exact ahV hr
  obtain ⟨i, hi, rfl⟩ := List.mem_map.1 hx; exact ahW hr (Nat.lt_of_lt_of_le (List.mem_range.1 hi) hk)
theorem ahZ (hr : bT r = 0) : mG (cH r) = (some (bR r), r.2.2.1.length + 1) := by
  have nL : bY 10 (cH r) = (lO r :: oC r r.2.2.1.length) ++ [ByteArray.empty] := aaC (PX hr (Nat.le_refl _))
  have cA : cH r ≠ ByteArray.empty := fun e => by
    rw [e, A2] at nL; have := congrArg List.length nL; simp at this
  rw [tM cA, nL, FK (MK hr _ (Nat.le_refl _)), WY, Nat.zero_add]; exact BN rfl
theorem alN (hr : bT r = 0) : bT (oA (bR r)) = 0 := by
  obtain ⟨h1, h2, h3, h4, h5⟩ := fF hr
  have hl : ((List.range r.2.2.1.length).map (s9 r)).length = r.2.2.1.length := by simp
  have hlen : (oA (bR r)).2.2.1.length = r.2.2.1.length := by
    show (((List.range r.2.2.1.length).map (s9 r)).map lZ).length = _; rw [List.length_map, hl]
  refine SF (n6 hr).2.2 h1 (by rw [hlen]; exact h2) (fun x hx => ?_) ⟨fun s hs => (by cases hs), List.Pairwise.nil⟩ (Nat.zero_le _) rfl; obtain ⟨n, hn, rfl⟩ := List.mem_map.1 hx; obtain ⟨i, hi, rfl⟩ := List.mem_map.1 hn; exact (IF (alM hr (List.mem_range.1 hi))).1
theorem ai0 {x : Nat} (hx : fD x = 0) : u32 (aS (lZ (qV x))) = u32 x := by
  have h1 := mF hx; have h2 := IF (n := qV x) h1.2; rw [(oX h2.1).2.2, (mF h2.1).1, h2.2.1, h1.1]
theorem aaH {x y : Nat} {u : Int} (hx : u32 x = some u) (hy : u32 y = some u) : dX .neq .f32 x y = false := by
  rw [(zX hx hy).2.1]; exact decide_eq_false (by simp)
theorem PY (hr : bT r = 0) {i : Nat} (h : i < r.2.2.1.length) (hi : Sp.gK r.2.2.2 (i : Int) = true) : u32 r.2.2.1[i] = some 0 := by
  obtain ⟨h1, h2, h3, h4, h5⟩ := fF hr; have hu := (mF (h4 _ (List.getElem_mem h))).1
  have hnz : ¬ DA r.2.2.1[i] = true := fun e => by
    have := abD (r := r) (fun s hs => by have := h5 s hs; omega) h e hi; rw [(n6 hr).2.1] at this; cases this
  unfold DA at hnz; rw [(zX hu ZZ).2.1] at hnz; have h0 : qV r.2.2.1[i] * 44601490397061246283071436545296723011960832 = 0 := Classical.byContradiction fun e => hnz (decide_eq_true e); rw [hu, h0]
theorem aaI (hr : bT r = 0) : tJ (B0 aS (bR r)) r = true := by
  obtain ⟨h1, h2, h3, h4, h5⟩ := fF hr
  have hg : eC (bR r).2.1 (bR r).2.1.length = r.2.2.2 := by
    show eC (j9 r.2.2.1.length (Sp.gK r.2.2.2)) (j9 r.2.2.1.length (Sp.gK r.2.2.2)).length = _; rw [gC]; exact ae4 (n6 hr).1
  have QB : (oA (bR r)).2.2.1.length = r.2.2.1.length := by
    show (((List.range r.2.2.1.length).map (s9 r)).map lZ).length = _; rw [List.length_map, List.length_map, List.length_range]
  have as9 : rC (gL (oA (bR r)) (bR r).2.1 aS (bR r).2.1.length) r.2.2.1 = true := by
    refine decide_eq_true ⟨by rw [jV, QB], fun i hi => ?_⟩; rw [jV, QB] at hi; rw [dP (by rw [jV, QB]; exact hi), zZ (by rw [QB]; exact hi), dP hi]; have hon : (bR r).2.1.length = r.2.2.1.length := gC; have hb : (bR r).2.1.getD i false = !Sp.gK r.2.2.2 (i : Int) := BX hi
    have hq : (oA (bR r)).2.2.1.getD i 0 = lZ (s9 r i) := by
      show (((List.range r.2.2.1.length).map (s9 r)).map lZ).getD i 0 = _; rw [List.getD_eq_getElem?_getD, List.getElem?_map, List.getElem?_map, List.getElem?_range hi] <;> rfl
    cases nS : Sp.gK r.2.2.2 (i : Int) with
    | true =>
      rw [if_neg (fun hh => by rw [hb, nS] at hh; exact absurd hh.2 (by decide))]
      exact aaH ZZ (PY hr hi nS)
    | false =>
      rw [if_pos ⟨by omega, by rw [hb, nS]; rfl⟩, hq]
      have e3 : s9 r i = qV r.2.2.1[i] := by unfold s9; rw [if_neg (by rw [nS]; decide), dP hi]
      have hx := h4 _ (List.getElem_mem hi); rw [e3]; exact aaH ((ai0 hx).trans (mF hx).1) (mF hx).1
  unfold tJ; rw [show (B0 aS (bR r)).2.2.1 = gL (oA (bR r)) (bR r).2.1 aS (bR r).2.1.length from rfl, as9, show (B0 aS (bR r)).2.2.2 = r.2.2.2 from hg, decide_eq_true (show (B0 aS (bR r)).1 = r.1 from rfl), decide_eq_true (show (B0 aS (bR r)).2.1 = r.2.1 from rfl), decide_eq_true rfl]; rfl
theorem ai1 (hr : bT r = 0) : mG ((cH r).extract 0 ((cH r).size - 1)) = (none, r.2.2.1.length) := by
  have key : ∀ (SH : List ByteArray) (x : ByteArray) (b : n5), lO r :: oC r r.2.2.1.length = SH ++ [x] -> runT s8 zG SH = some b -> x ≠ ByteArray.empty -> mG ((cH r).extract 0 ((cH r).size - 1)) = (none, SH.length) := fun SH x b he eD hx => by
    have h10 := PX hr (Nat.le_refl r.2.2.1.length); rw [he] at h10; have nL : bY 10 (j5 SH ++ x) = SH ++ [x] := BR (h10 x (by simp)) fun y hy => h10 y (List.mem_append_left _ hy)
    have hc : (cH r).extract 0 ((cH r).size - 1) = j5 SH ++ x := by
      unfold cH qD; rw [he]; exact ae0
    rw [hc]
    have cA : j5 SH ++ x ≠ ByteArray.empty := fun e => by
      rw [e, A2] at nL
      cases SH with
      | nil => exact hx (List.cons.inj nL).1.symm
      | cons a l => have := congrArg List.length nL; simp at this
    rw [tM cA, nL, FK eD, Nat.zero_add]; exact BO hx
  match hL : r.2.2.1.length with
  | 0 =>
    have := key [] (lO r) zG (by rw [hL]; rfl) rfl (ahY hr).2.2
    exact this
  | k + 1 =>
    have e : lO r :: oC r r.2.2.1.length = (lO r :: oC r k) ++ [tN r k] := by
      rw [hL]; unfold oC; rw [List.range_succ, List.map_append, List.cons_append] <;> rfl
    have := key _ _ _ e (MK hr k (by omega)) (ahX hr (by omega)).2.2; rw [WY] at this; exact this
end
def HI (b : n5) : List ByteArray := (List.range b.2.1.length).map fun i => if b.2.1.getD i false = true then eK (b.2.2.getD i 0) else gD
theorem ML {o : Option (ByteArray × Int)} {l : List Bool} {n : List Int} {c : Bool} {v : Int} (h : n.length = l.length) : HI (o, l ++ [c], n ++ [v]) = HI (o, l, n) ++ [if c = true then eK v else gD] := by
  unfold HI; show (List.range (l ++ [c]).length).map (fun i => if (l ++ [c]).getD i false = true then eK ((n ++ [v]).getD i 0) else gD) = _; rw [List.length_append, List.length_singleton, List.range_succ, List.map_append]; congr 1
  . refine List.map_congr_left fun i hi => ?_; have hi := List.mem_range.1 hi; rw [dP (by rw [List.length_append]; omega), List.getElem_append_left hi, dP (by rw [List.length_append]; omega), List.getElem_append_left (by omega)]; show _ = if l.getD i false = true then eK (n.getD i 0) else gD; rw [dP hi, dP (by omega)]
  rw [List.map_cons, List.map_nil, dP (by simp), dP (by simp; omega)]; simp [h]
theorem BY : ∀ {ls : List ByteArray} {b b' : n5}, b.1.isSome = true -> b.2.2.length = b.2.1.length -> runT s8 b ls = some b' -> HI b' = HI b ++ ls /\ b'.1 = b.1
  | [], b, b', _, _, h => by
    obtain rfl : b = b' := Option.some.inj h
    exact ⟨(List.append_nil _).symm, rfl⟩
  | x :: r, b, b', hs, hl, h => by
    unfold runT at h
    cases hf : s8 b x with
    | none => rw [hf] at h; cases h
    | some b1 =>
      rw [hf] at h; obtain ⟨hk, rfl⟩ := BW hf; obtain ⟨o, l, n⟩ := b; by_cases hx : x = gD
      . rw [FQ hs hx] at h; obtain ⟨e1, e2⟩ := BY (b := (o, l ++ [false], n ++ [0])) hs (by simp only [List.length_append, List.length_singleton]; exact congrArg (· + 1) hl) h; refine ⟨?_, e2⟩; rw [e1, ML hl, List.append_assoc, hx] <;> rfl
      rw [w6 hs, decide_eq_false hx, Bool.false_or] at hk; rw [FR hs hx] at h; obtain ⟨e1, e2⟩ := BY (b := (o, l ++ [true], n ++ [dY x])) hs (by simp only [List.length_append, List.length_singleton]; exact congrArg (· + 1) hl) h; refine ⟨?_, e2⟩; rw [e1, ML hl, List.append_assoc, if_pos rfl, ae9 hk] <;> rfl
theorem ai2 {x : ByteArray} (h : BT (bY 32 x) = true) : mZ 32 [lA, uX (bY 32 x), eK (dY (pX (bY 32 x)))] = x := by
  have h3 : (bY 32 x).length = 3 := Classical.byContradiction fun e => by rw [aoS e] at h; cases h
  match hW : bY 32 x, h3 with
  | [a, b, c], _ =>
    rw [hW, ahQ] at h; simp only [Bool.and_eq_true, decide_eq_true_eq] at h; obtain ⟨ha, _, hc⟩ := h
    have e : eK (dY c) = c := by rw [MC.2 hc]; exact (M4 hc).1
    show mZ 32 [lA, b, eK (dY c)] = x; rw [e, <- ha, <- hW]; exact FH
theorem ai3 {s : ByteArray} {b : n5} {i : Nat} (h : mG s = (some b, i)) : j5 (mZ 32 [lA, (qY b).1, eK (qY b).2] :: HI b) = s := by
  obtain ⟨cA, ls, h1, h2, _⟩ := MH h
  cases ls with
  | nil =>
    have := FH (c := 10) (s := s); rw [h1] at this
    exact absurd this.symm cA
  | cons x r =>
    unfold runT at h2
    cases hf : s8 zG x with
    | none => rw [hf] at h2; cases h2
    | some b1 =>
      rw [hf] at h2; obtain ⟨hk, rfl⟩ := BW hf; rw [HG rfl] at hk; rw [FP rfl] at h2; obtain ⟨e1, e2⟩ := BY (b := (some (uX (bY 32 x), dY (pX (bY 32 x))), [], [])) rfl rfl h2
      have e3 : qY b = (uX (bY 32 x), dY (pX (bY 32 x))) := by unfold qY; rw [e2] <;> rfl
      rw [e3, e1, ai2 hk]; exact adZ h1
theorem aoX {n : Int} (hb : -1000000000 < n /\ n < 1000000000) (h : fD (lZ n) = 0) : -1024 <= n /\ n <= 1024 := by
  rw [as7 hb] at h; by_cases hl : lvO n = true
  . exact of_decide_eq_true hl
  rw [if_neg hl] at h; cases h
theorem alO {b : n5} : B0 aS b = tO (oA b) b.2.1 := rfl
theorem alP {b : n5} {j : Nat} (hj : j < b.2.2.length) : (oA b).2.2.1.getD j 0 = lZ (b.2.2.getD j 0) := by
  show (b.2.2.map lZ).getD j 0 = _; rw [List.getD_eq_getElem?_getD, List.getElem?_map, List.getElem?_eq_getElem hj, dP hj] <;> rfl
theorem ai4 {n : Int} (hb : -1000000000 < n /\ n < 1000000000) (pK : fD (lZ n) = 0) : qV (aS (lZ n)) = n := by
  have h2 := IF (aoX hb pK); have h4 := oX pK; have h7 := h4.2.2; rw [(mF h4.2.1).1, (mF pK).1, h2.2.1] at h7; have h8 := Option.some.inj h7; omega
theorem ai5 {b : n5} (hlen : b.2.1.length = (oA b).2.2.1.length) (wR : b.2.2.length = b.2.1.length) (hbd : ∀ n ∈ b.2.2, -1000000000 < n /\ n < 1000000000) (hv : ∀ x ∈ (oA b).2.2.1, fD x = 0) {j : Nat} (hj : j < b.2.1.length) : tN (tO (oA b) b.2.1) j = if b.2.1.getD j false = true then eK (b.2.2.getD j 0) else gD := by
  have hth := WX hlen
  have NU : (gL (oA b) b.2.1 aS b.2.1.length).length = b.2.1.length := by rw [jV, hlen]
  have nS := PT (r := tO (oA b) b.2.1) (i := j) (by rw [hth]; exact hj)
  have asA : (gS (tO (oA b) b.2.1))[j]'(by rw [hth]; exact hj) = b.2.1[j] := by simp only [hth]
  rw [asA] at nS; rw [dP hj]
  cases hb : b.2.1[j] with
  | false =>
    rw [hb] at nS; rw [if_neg (by decide)]
    exact if_pos (by simpa using nS.symm)
  | true =>
    rw [hb] at nS
    have hni : Sp.gK (tO (oA b) b.2.1).2.2.2 (j : Int) = false := by simpa using nS.symm
    have hjn : j < b.2.2.length := by omega
    rw [if_pos rfl]; unfold tN; rw [if_neg (by rw [hni]; decide)]
    have e : (tO (oA b) b.2.1).2.2.1.getD j 0 = aS (lZ (b.2.2.getD j 0)) := by
      show (gL (oA b) b.2.1 aS b.2.1.length).getD j 0 = _; rw [dP (by rw [NU]; exact hj), zZ (by rw [<- hlen]; exact hj), if_pos ⟨hj, by rw [dP hj]; exact hb⟩, alP hjn]
    have G9 : b.2.2.getD j 0 ∈ b.2.2 := by rw [dP hjn]; exact List.getElem_mem _
    rw [e, ai4 (hbd _ G9) (hv _ (List.mem_map.2 ⟨_, G9, rfl⟩))]
theorem ai6 {s : ByteArray} {b : n5} {i : Nat} (hs : s.size <= 1000) (h : mG s = (some b, i)) (hc : bT (oA b) = 0) : bT (B0 aS b) = 0 /\ HH (B0 aS b) = s := by
  have hI := WT h
  have hlen : b.2.1.length = (oA b).2.2.1.length := by
    show _ = (b.2.2.map lZ).length; rw [List.length_map, hI.nm]
  obtain ⟨_, ls, h1, _, h3⟩ := MH h; have asB := adX (c := 10) (s := s); rw [h1, List.length_append, List.length_singleton] at asB; have hln := hI.ln
  have cY : b.2.1.length <= 2048 := by omega
  rw [alO]; have iL := ae8 hc hlen cY; refine ⟨iL, ?_⟩
  have NU : (tO (oA b) b.2.1).2.2.1.length = b.2.1.length := by
    show (gL (oA b) b.2.1 aS b.2.1.length).length = _; rw [jV, hlen]
  have asC : oC (tO (oA b) b.2.1) b.2.1.length = HI b := by
    unfold oC HI; exact List.map_congr_left fun j hj => ai5 hlen hI.nm hI.bd (fF hc).2.2.2.1 (List.mem_range.1 hj)
  unfold HH; rw [if_pos iL]; unfold cH qD; rw [NU, asC]; exact ai3 h
end Go.Proofs
namespace Go.Fs
variable {P : Program} {orc : FuncId -> List Value -> Heap -> Option (Value × Heap)} {aR : Option Nat} {h h' h0 h1 h2 hs : Heap} {S S' S0 B G : List Nat} {σ σ' j8 γ ρ : aM} {t t' : Tr} {ms : List Nat} {fl : VL} {ops : Array Oper} {n i mem : Nat} {l : List Oper} {K : VL -> aM -> Prop} {Q : Ex -> VL -> aM -> Prop}
  {d : Tmp} {ty : TypeId} {pos : String} {after : Array Edge} {op : Op} {v : PV} {g : Option (Nat × Bool)} {bs : List Nat} {segs : List (Nat × Nat × Nat)} {tail : Bool} {x : Operand} {T : TypeId} {w : Value} {rd : List (Nat × aU)} {cs : List PV}
section
variable (P orc)
def zB (rd : List (Nat × aU)) (ops : Array Oper) (n : Nat) (l : List Oper) (i : Nat) (s : cM) (Q : cM -> Prop) : Prop := ∃ m s', fX P rd (kZ P orc m) ops n l i s = some s' /\ Q s'
end
theorem zB.nil {s : cM} {QK : cM -> Prop} (aZ : sU rd s.h = true) (hq : QK s) : zB P orc rd ops n [] i s QK := ⟨0, s, by simp only [fX, aZ, cond_true], hq⟩
theorem zB.RA {o : Oper} {s s' : cM} {QK : cM -> Prop} (aZ : sU rd s.h = true) (hn : sC P rd ops n o s = none) (hs : eF (fJ P) ops n o i s = some s') (hl : zB P orc rd ops n l (i + 1) s' QK) : zB P orc rd ops n (o :: l) i s QK := by
  obtain ⟨m, s2, hr, hq⟩ := hl; refine ⟨m, s2, ?_, hq⟩; simp only [fX, aZ, cond_true, hn, sF (zK m) hs]; exact hr
theorem zB.still {o : Oper} {s s' : cM} {QK : cM -> Prop} (aZ : sU rd s.h = true) (hs : sC P rd ops n o s = some s') (hl : zB P orc rd ops n l (i + 1) s' QK) : zB P orc rd ops n (o :: l) i s QK := by
  obtain ⟨m, s2, hr, hq⟩ := hl; refine ⟨m, s2, ?_, hq⟩; simp only [fX, aZ, cond_true, hs]; exact hr
theorem FU {o : Oper} {s : cM} (ho : xW o.op = false) : sC P rd ops n o s = none := by
  unfold sC; split
  . rename_i T a hw cU; rw [cU] at ho; cases ho
  rfl
theorem zB.call {o : Oper} {s : cM} {c : Call} {f : Operand} {g : FuncId} {a b : Array Value} {QK : cM -> Prop} (aZ : sU rd s.h = true) (hw : b9 ops s.t o = some true) (ho : o.op = .call c) (hc : c.callee = .value f) (hf : aA s.t f = .func (.func g) a b)
    (mI : (s.tail && !Nat.beq (s.mem &&& aJ s.bs o) s.mem) = false)
    (hl : nP P orc g (a.toList ++ c.args.toList.map (aA s.t) ++ b.toList) (l4 o s) fun v h' => Nat.blt h'.next s.h.next = false /\ (Nat.ble s.h.next h'.low || Nat.beq (s.mem &&& aJ s.bs o) s.mem) = true /\
      ∃ t', put n s.t o.dst v = some t' /\ zB P orc rd ops n l (i + 1) (jI o i s t' h') QK) : zB P orc rd ops n (o :: l) i s QK := by
  obtain ⟨m, v, h1, hr, fH, oZ, t1, hp, k, s2, l3, hq⟩ := hl; refine ⟨max m k, s2, ?_, hq⟩; have h3 := A9.v8 (P := P) (orc := orc) (Nat.le_max_left m k) _ _ _ _ hr
  have qG : calm o.op = false := by rw [ho]; obtain ⟨cl, as_, lR⟩ := c; obtain rfl : cl = .value f := hc; rfl
  have mO : xW o.op = false := by rw [ho]; rfl
  have hd : eF (kZ P orc (max m k)) ops n o i s = some (jI o i s t1 h1) := by
    unfold eF; simp only [hw, qG, Bool.false_eq_true, if_false, mI, cond_false]; rw [sG ho hc hf]; unfold l4 at h3; rw [h3]; simp only [fH, cond_false, hp]; unfold jI
    cases hx : Nat.ble s.h.next h1.low with
    | true => rfl
    | false =>
      rw [hx] at oZ; simp only [Bool.false_or] at oZ; rw [oZ]; rfl
  simp only [fX, aZ, cond_true, FU mO, hd]; exact mN (wI (Nat.le_max_right m k)) _ _ _ _ l3
structure RdK (h : Heap) (rd : List (Nat × aU)) (b : Nat) (ob : aU) : Prop where
  all : ∀ p ∈ rd, p = (b, ob)
  seen : look rd b = some ob
  get : h.get b = some ob
  same : E6 ob ob = true
theorem RdK.ok {b : Nat} {ob : aU} (R : RdK h rd b ob) : sU rd h = true := List.all_eq_true.2 fun p hp => by
  rw [R.all p hp]; simp only [R.get, R.same]
theorem RdK.next {b : Nat} {ob : aU} (R : RdK h rd b ob) (hg : h'.get b = h.get b) : RdK h' rd b ob := ⟨R.all, R.seen, by rw [hg]; exact R.get, R.same⟩
section
variable (P orc)
def VK (w : Value) (cs : List PV) (ops : Array Oper) (n : Nat) (l : List Oper) (i : Nat) (fl : VL) (σ : aM) (bs : List Nat) (mem : Nat) (K : VL -> aM -> Prop) : Prop :=
  ∀ (rd : List (Nat × aU)) (b : Nat) (ob : aU) (h0 : Heap) (G S0 : List Nat) (t : Tr) (h : Heap) (ms : List Nat) (segs : List (Nat × Nat × Nat)) (tail : Bool), cD w = [b] -> (w, Cell.var cs) ∈ σ -> RdK h rd b ob -> Iv h0 G S0 h σ t ms fl ->
    zB P orc rd ops n l i ⟨t, h, bs, segs, mem, tail⟩ fun s => ∃ dJ σ', Iv h0 G S0 s.h σ' s.t ms dJ /\ K dJ σ'
end
theorem VK.nil (hk : K fl σ) : VK P orc w cs ops n [] i fl σ bs mem K := fun rd b ob h0 G S0 t h ms segs tail hb hm R I => zB.nil R.ok ⟨fl, σ, I, hk⟩
theorem VK.perm (hp : σ.Perm σ') (hk : VK P orc w cs ops n l i fl σ' bs mem K) : VK P orc w cs ops n l i fl σ bs mem K := fun rd b ob h0 G S0 t h ms segs tail hb hm R I => hk rd b ob h0 G S0 t h ms segs tail hb (hp.subset hm) R (I.perm hp)
theorem VK.co {b : Nat} (hc : aF P fl σ op v) (hk : VK P orc w cs ops n l (i + 1) ((d, v) :: fl) σ (bs ++ [b]) mem K)
    (hb : aJ bs ⟨some d, op, ty, pos, after, g⟩ = b := by rfl) (hw : cV ops fl g = some true := by rfl) (hn : (Nat.blt d n && Nat.ble n 4000) = true := by rfl) (hl : xW op = false := by rfl) :
    VK P orc w cs ops n (⟨some d, op, ty, pos, after, g⟩ :: l) i fl σ bs mem K := fun rd b ob h0 G S0 t h ms segs tail jC hm R I => by
  obtain ⟨n1, n2⟩ := fits hn; obtain ⟨u, e1, e2⟩ := hc.2 h (own σ ++ S0) t I.aH.rG I.cells; refine zB.RA (s' := ⟨t.set depth d u, h, bs ++ [_], segs, mem, tail⟩) R.ok (FU hl) ?_ (hk rd b ob h0 G S0 _ h ms segs tail jC hm R (I.set e1 n2)); unfold eF; have sJ : b9 ops t ⟨some d, op, ty, pos, after, g⟩ = some true := cE I.aH hw; simp only [sJ, hc.1, if_true, e2, Nat.beq_refl, cond_true, bN n1, Option.map_some, hb]
theorem VK.c {b : Nat} (hc : aF P fl [] op v) (hk : VK P orc w cs ops n l (i + 1) ((d, v) :: fl) σ (bs ++ [b]) mem K)
    (hb : aJ bs ⟨some d, op, ty, pos, after, g⟩ = b := by rfl) (hw : cV ops fl g = some true := by rfl) (hn : (Nat.blt d n && Nat.ble n 4000) = true := by rfl) (hl : xW op = false := by rfl) :
    VK P orc w cs ops n (⟨some d, op, ty, pos, after, g⟩ :: l) i fl σ bs mem K := fun rd b ob h0 G S0 t h ms segs tail jC hm R I => by
  obtain ⟨n1, n2⟩ := fits hn; obtain ⟨u, e1, e2⟩ := hc.2 h (own σ ++ S0) t I.aH.rG (fun _ hc => by cases hc); refine zB.RA (s' := ⟨t.set depth d u, h, bs ++ [_], segs, mem, tail⟩) R.ok (FU hl) ?_ (hk rd b ob h0 G S0 _ h ms segs tail jC hm R (I.set e1 n2)); unfold eF; have sJ : b9 ops t ⟨some d, op, ty, pos, after, g⟩ = some true := cE I.aH hw; simp only [sJ, hc.1, if_true, e2, Nat.beq_refl, cond_true, bN n1, Option.map_some, hb]
theorem VK.q {b : Nat} {q : Value} (hx : aQ fl x = some (.raw q)) (hq : q = w \/ ∃ k, q = kF w k) (hc : dV P fl σ (.load T x) v) (hk : VK P orc w cs ops n l (i + 1) ((d, v) :: fl) σ (bs ++ [b]) mem K)
    (hb : aJ bs ⟨some d, .load T x, ty, pos, after, g⟩ = b := by rfl) (hw : cV ops fl g = some true := by rfl) (hn : (Nat.blt d n && Nat.ble n 4000) = true := by rfl) :
    VK P orc w cs ops n (⟨some d, .load T x, ty, pos, after, g⟩ :: l) i fl σ bs mem K := fun rd b ob h0 G S0 t h ms segs tail jC hm R I => by
  obtain ⟨n1, n2⟩ := fits hn; have hxq : aA t x = q := (cR I.aH hx : aI _ _ (.raw q) _); obtain ⟨b0, e', vs, h1, h2, h3, h4, h5⟩ := I.cells _ hm; simp only at h1
  obtain rfl : b0 = b := by rw [h1] at jC; simpa [cD] using jC
  obtain ⟨o0, hqb⟩ : ∃ o0, q = .pointer (some ⟨b0, o0, none⟩) := by
    rcases hq with hq | ⟨k, hq⟩
    . exact ⟨0, hq.trans h1⟩
    exact ⟨0 + k, by rw [hq, h1]; rfl⟩
  obtain ⟨u, e1, e2⟩ := hc.2 h (own σ ++ S0) t I.aH.rG I.cells; have cO := e2 h (fun _ _ hg => hg) none 0 "" #[] none
  have hv : eE P T (.pointer (some ⟨b0, o0, none⟩)) h = some u := by
    have h5 : (eE P T (aA t x) h).map (fun v => (v, h)) = some (u, h) := cO; obtain ⟨v', h6, h7⟩ := Option.map_eq_some_iff.1 h5; simp only [Prod.mk.injEq, and_true] at h7; rw [<- hqb, <- hxq, h6, h7]
  refine zB.still (s' := ⟨t.set depth d u, h, bs ++ [_], segs, mem, tail⟩) R.ok ?_ (hk rd b0 ob h0 G S0 _ h ms segs tail jC hm R (I.set e1 n2)); unfold sC; have sJ : b9 ops t ⟨some d, .load T x, ty, pos, after, g⟩ = some true := cE I.aH hw; simp only [sJ, hxq.trans hqb, R.seen, YW (nx := h.next) R.get hv, bN n1, Option.map_some, hb]
theorem VK.SC {b : Nat} {f : Operand} {args : Array Operand} {lR : Array TypeId} {F : PV} {q9 : List PV} {Qr : PV -> aM -> Prop} (γ : aM) (L3 : γ ++ σ = j8) (hf : aQ fl f = some F) (ha : lG fl args.toList = some q9) (hc : D4 P orc F q9 γ Qr) (hm : (w, Cell.var cs) ∈ σ) (hk : ∀ r nE, Qr r nE -> VK P orc w cs ops n l (i + 1) ((d, r) :: fl) (nE ++ σ) (bs ++ [b]) (mem ||| 2 ^ i) K)
    (hb : aJ bs ⟨some d, .call { callee := .value f, args := args, argTypes := lR }, ty, pos, after, g⟩ = b := by rfl) (fU : Nat.beq (mem &&& b) mem = true := by rfl) (hw : cV ops fl g = some true := by rfl) (hn : (Nat.blt d n && Nat.ble n 4000) = true := by rfl) :
    VK P orc w cs ops n (⟨some d, .call { callee := .value f, args := args, argTypes := lR }, ty, pos, after, g⟩ :: l) i fl j8 bs mem K := fun rd b0 ob h0 G S0 t h ms segs tail jC _ R I => by
  subst L3; obtain ⟨n1, n2⟩ := fits hn
  have aoY : l4 ⟨some d, .call { callee := .value f, args := args, argTypes := lR }, ty, pos, after, g⟩ ⟨t, h, bs, segs, mem, tail⟩ = entry h := by
    unfold l4 entry; simp only [hb, fU, cond_true]
  have L := I.lc.aB (h' := entry h) (fun _ => rfl) rfl; have p8 := L.apart; rw [cQ] at p8; obtain ⟨KT, GI, u9⟩ := List.nodup_append.1 p8; obtain ⟨NT, a, c, rfl, hv⟩ := hc; obtain ⟨va, vc, h1, h2, h3⟩ := (cR L.aH hf : aI (entry h) _ (.mR NT a c) (aA t f)); have lW := (h2.append (rF L.aH ha)).append h3; rw [cQ, List.append_assoc] at lW
  have dB : ∀ c ∈ γ, bL (entry h) (own γ ++ (own σ ++ S0)) c.1 c.2 := fun c hc => by
    have := L.cells c (List.mem_append_left _ hc)
    rwa [cQ, List.append_assoc] at this
  refine zB.call (o := ⟨some d, .call { callee := .value f, args := args, argTypes := lR }, ty, pos, after, g⟩) R.ok (cE I.aH hw) rfl rfl h1 (by simp only [hb, fU]; simp) ?_; rw [aoY]; refine (hv (entry h) (own σ ++ S0) _ I.ok L.amE dB KT (fun b hb hm => ?_) lW).mono fun u h' hq => ?_
  . rcases List.mem_append.1 hm with hm | hm
    . exact u9 b hb b hm rfl
    exact L.sep b (by rw [cQ]; exact List.mem_append_left _ hb) hm
  obtain ⟨r, nE, q1, q2, q3⟩ := hq; have e2 := Made.app L q2; have fH : h.next <= h'.next := e2.lH.next; refine ⟨l5 fH, by simp only [hb, fU, Bool.or_true], _, bN n1 t u, ?_⟩; obtain ⟨wT, iE, f1, f2, f3, f4, f5⟩ := ME (i := i) (segs := segs) (mem := mem) (tail := tail) (t := t) (t2 := t.set depth d u) (o := ⟨some d, .call { callee := .value f, args := args, argTypes := lR }, ty, pos, after, g⟩) hb I.ok e2.lH; rw [f1]
  have q3' : aI wT (own (nE ++ σ) ++ S0) r u := by
    rw [cQ, List.append_assoc]; exact q3.nx (dC.aB f2)
  have asD : b0 ∈ own σ := List.mem_flatMap.2 ⟨_, hm, by rw [jC]; exact List.mem_cons_self⟩
  have RZ : wT.get b0 = h.get b0 := by
    rw [f2]; exact q2.lH.get b0 (I.ok b0 _ R.get) fun hbg => u9 b0 hbg b0 asD rfl
  exact hk r nE q1 rd b0 ob h0 G S0 _ _ ms _ iE jC (List.mem_append_right _ hm) (R.next RZ) ((I.made (tE e2 f2 f4)).set q3' n2)
def aaJ (k : Nat) (l : List Oper) : Bool := l.all fun o => match o.op with
  | .fieldAddr _ (.tmp j) _ => Nat.beq j k
  | .fieldAddr .. => false
  | _ => true
def ai7 (l : List Oper) : Bool := l.any fun o => match o.op with
  | .fieldAddr .. => true
  | _ => false
theorem PZ {k b o : Nat} {ob : aU} (hk : t.get k = .pointer (some ⟨b, o, none⟩)) (hg : h.get b = some ob) : ∀ l, aaJ k l = true -> (∀ p ∈ v7 h t l, p = (b, ob)) /\ (ai7 l = true -> look (v7 h t l) b = some ob)
  | [], _ => ⟨fun p hp => (by cases hp), fun e => by cases e⟩
  | q :: r, ha => by
    obtain ⟨d, op, ty, pos, after, g⟩ := q; simp only [aaJ, List.all_cons, Bool.and_eq_true] at ha; obtain ⟨ha1, TE⟩ := ha; obtain ⟨i1, i2⟩ := PZ hk hg r TE
    cases op with
    | fieldAddr T x f =>
      cases x with
      | tmp j =>
        simp only at ha1; obtain rfl := bD ha1
        have he : v7 h t (⟨d, .fieldAddr T (.tmp j) f, ty, pos, after, g⟩ :: r) = (b, ob) :: v7 h t r := by
          show (match aA t (.tmp j) with | _ => _) = _; simp only [v7, aA, hk, hg]
        rw [he]; refine ⟨fun p hp => ?_, fun _ => by simp [look]⟩; rcases List.mem_cons.1 hp with hp | hp
        . exact hp
        exact i1 p hp
      | _ => cases ha1
    | _ => exact ⟨i1, i2⟩
def abT : PV -> Bool
  | .v (.int _) _ => true
  | .v .bool _ => true
  | _ => false
theorem aaK {pv : PV} {u : Value} (hs : abT pv = true) (hr : aI h S pv u) : xV u u = true := by
  unfold abT at hs; split at hs
  . rename_i k z; have : u = .int k z := aE.int hr; rw [this]; simp [xV]
  . rename_i z; have : u = .bool z := aE.bool hr; rw [this]; simp [xV]
  cases hs
theorem HJ : ∀ {cs : List PV} {us : List Value}, cs.all abT = true -> aX h S cs us -> E5 us us = true
  | [], us, _, hr => by rw [show us = [] from hr]; rfl
  | p :: ps, us, hs, ⟨u, r, h1, h2, h3⟩ => by
    rw [List.all_cons, Bool.and_eq_true] at hs; rw [h1]; show (xV u u && E5 r r) = true; rw [aaK hs.1 h2, HJ hs.2 h3]; rfl
theorem U.wG {id k : Nat} {ops : Array Oper} (hw : kN fl k = some (.raw w)) (hm : (w, Cell.var cs) ∈ σ) (hsc : cs.all abT = true) (hx : VK P orc w cs ops n ops.toList 0 fl σ [] 0 fun dJ σ' => Q .normal dJ σ') (hl : xX ops = true := by kernel_rfl) (q7 : wG ops = true := by kernel_rfl) (hf : (aaJ k ops.toList && ai7 ops.toList) = true := by kernel_rfl) : U P orc aR (.region id ops true) n fl σ Q := fun h0 G S0 t h ms I => by
  obtain ⟨f1, f2⟩ := aT hf; have hkw : t.get k = w := I.aH k _ hw; obtain ⟨b, e, vs, h1, h2, h3, h4, h5⟩ := I.cells _ hm; simp only at h1; obtain ⟨r1, r2⟩ := PZ (t := t) (hkw.trans h1) h3 ops.toList f1
  have jC : cD w = [b] := by rw [h1]; rfl
  have gA : E6 (.row e vs true false) (.row e vs true false) = true := by
    simp [E6, HJ hsc h4]
  obtain ⟨m, s, e1, e2⟩ := hx (v7 h t ops.toList) b _ h0 G S0 t h ms [] false jC hm ⟨r1, r2 f2, h3, gA⟩ I; obtain ⟨dJ, σ', e2, e3⟩ := e2; refine ⟨m + 1, .normal, ⟨s.t, n, ms⟩, s.h, ?_, ⟨rfl, dJ, σ', e2, e3⟩⟩; show bA P orc (cX P orc m) aR (.region id ops true) _ h = _; unfold kZ at e1
  have hb : (v7 h t ops.toList).all (fun p => Nat.blt p.1 h.next) = true := List.all_eq_true.2 fun p hp => by
    rw [r1 p hp, Nat.blt_eq]; exact I.ok b _ h3
  simp only [bA, hl, cond_true, sD, q7, C5, hb, e1]
end Go.Fs
namespace Go.Fs
variable {P : Program} {orc : FuncId -> List Value -> Heap -> Option (Value × Heap)} {aR : Option Nat} {h h' h0 h1 h2 hr : Heap} {S S' S0 B G A : List Nat} {σ σ' j8 ρ γ : aM} {t t' : Tr} {ms : List Nat} {fl : VL} {ops : Array Oper} {n i mem : Nat} {l : List Oper} {K : VL -> aM -> Prop} {Q : Ex -> VL -> aM -> Prop}
  {d : Tmp} {ty : TypeId} {pos : String} {after : Array Edge} {op : Op} {v pv : PV} {g : Option (Nat × Bool)} {x y z : Operand} {T T' e : TypeId} {τ τ' : Ty} {bs nw rd chg : List Nat} {segs : List (Nat × Nat × Nat)} {tail tl : Bool} {w w' : Value}
theorem kH.bts {b : Nat} {s1 d1 e1 : TypeId} {acc : ByteArray} (hx : aQ fl x = some (.v (.sl (.int .u8)) (aP acc))) (hs : P.underlying s1 = some (.slice e1)) (he : P.underlying e1 = some (.int .u8)) (hd : P.underlying d1 = some .string)
    (hk : kH P orc ops n l (i + 1) ((d, .v .str acc) :: fl) (fG true d nw) σ ρ (bs ++ [b]) mem tl K)
    (hb : aJ bs ⟨some d, .convert s1 d1 x, ty, pos, after, g⟩ = b := by rfl) (hold : KS nw x = true := by rfl) (hw : cV ops fl g = some true := by rfl) (hn : (Nat.blt d n && Nat.ble n 4000) = true := by rfl) :
    kH P orc ops n (⟨some d, .convert s1 d1 x, ty, pos, after, g⟩ :: l) i fl nw σ ρ bs mem tl K := fun hr h0 G S0 A t h ms rd chg segs tail ht I L => by
  obtain ⟨n1, n2⟩ := fits hn; have hu : aI hr (A ++ S0) (.v (.sl (.int .u8)) (aP acc)) (aA t x) := zR L.aH hx hold; have sJ : b9 ops t ⟨some d, .convert s1 d1 x, ty, pos, after, g⟩ = some true := cE I.aH hw; have I2 := I.set (show aI h (own σ ++ S0) (.v .str acc) (.string acc) from aE.ofStr _) n2; have L2 := L.set (v := .v .str acc) (u := .string acc) (old := true) n2 fun _ => aE.ofStr _
  have ai8 : fJ P ⟨some d, .convert s1 d1 x, ty, pos, after, g⟩ (aA t) { next := h.next, low := h.next, aB := [] } = some (.string acc, { next := h.next, low := h.next, aB := [] }) ->
      vP P orc hr ops n (⟨some d, .convert s1 d1 x, ty, pos, after, g⟩ :: l) i (⟨t, h, bs, segs, mem, tail⟩, rd, chg) fun x => C6 x = true /\ ∃ dJ σ', Iv h0 G S0 x.1.h σ' x.1.t ms dJ /\ K dJ σ' := fun e2 => by
    refine vP.RA (x' := (⟨t.set depth d (.string acc), h, bs ++ [b], segs, mem, tail⟩, rd, chg)) ?_ (hk hr h0 G S0 A _ h ms rd chg segs tail ht I2 L2); unfold fC; simp only [sJ, show calm (Op.convert s1 d1 x) = true from rfl, if_true, e2, Nat.beq_refl, cond_true, bN n1, Option.map_some, hb]
  have FG : ∀ H : Heap, af (aA t x) = false -> fJ P ⟨some d, .convert s1 d1 x, ty, pos, after, g⟩ (aA t) H = (gG P s1 d1 (aA t x) H).map fun v => (v, H) := fun H lV => by
    show (if af (aA t x) = true then _ else (gG P s1 d1 (aA t x) H).map fun v => (v, H)) = _; rw [lV]; rfl
  rcases DO hs he hd hu with ⟨h1, h2⟩ | ⟨b0, o, n', mk, h1, h2, h3⟩
  . refine ai8 ?_; show (if af (aA t x) = true then ((bU P (convert s1 d1 (aA t x))).or (tT P s1 d1 (aA t x))).map (fun v => (v, _)) else _) = _; rw [h1, h2, if_pos (show af (Value.slice none 0 0) = true from rfl)]
    have e2 : bU P (convert s1 d1 (.slice none 0 0)) = some (.string ByteArray.empty) := by
      unfold bU convert; simp only [aD, aG hs, aG hd, Option.bind_some, aG he]; rfl
    rw [e2]; rfl
  have lV : af (aA t x) = false := by rw [h1]; exact abL _ _ _
  by_cases hz : n' = 0
  . refine ai8 ?_; have e3 := h2 hr fun _ e => e; rw [FG _ lV]
    have e4 : gG P s1 d1 (aA t x) { next := h.next, low := h.next, aB := [] } = some (.string acc) := by
      rw [<- e3, h1, hz]; have hc : ∀ H : Heap, cellsOf 1 0 (.slice (some ⟨b0, o, none⟩) 0 mk) H = some [] := fun H => rfl; unfold gG; simp only [hs, he, hd, hc]
    rw [e4]; rfl
  rcases h3 with h3 | ⟨ob, h4, h5⟩
  . exact absurd h3 hz
  have bX := L.ok b0 _ h4
  have e0 : fJ P ⟨some d, .convert s1 d1 x, ty, pos, after, g⟩ (aA t) { next := h.next, low := h.next, aB := [] } = none := by
    rw [FG _ lV, h1]
    have hc : cellsOf 1 n' (.slice (some ⟨b0, o, none⟩) n' mk) { next := h.next, low := h.next, aB := [] } = none := by
      have e2 : Nat.beq (n' * 1) 0 = false := dO (by omega); simp only [cellsOf, oK, cond_true, e2, cond_false]; rfl
    unfold gG; simp only [hs, he, hd, hc]; rfl
  have hq : oE P hr (.convert s1 d1 x) (aA t) h.next = some (.string acc, [b0]) := by
    have wX : Nat.blt b0 hr.next = true := by rw [Nat.blt_eq]; exact bX
    have e5 := h2 { next := h.next, low := h.next, aB := [(b0, ob)] } fun ob' e => by
      rw [h4] at e; obtain rfl := Option.some.inj e; show look [(b0, ob)] b0 = some ob; simp [look]
    rw [h1] at e5; simp only [oE, h1, h4, wX, cond_true, e5, Option.map_some]
  refine vP.RA (x' := (⟨t.set depth d (.string acc), h, bs ++ [b], segs, mem, tail⟩, b0 :: rd, chg)) ?_ (hk hr h0 G S0 A _ h ms _ chg segs tail ht I2 (L2.read ⟨bX, .inr fun hm => h5 (List.mem_append_left _ hm)⟩)); unfold fC; simp only [sJ, show calm (Op.convert s1 d1 x) = true from rfl, if_true, e0, hq, bN n1, Option.map_some, hb]; rfl
def IK (P : Program) (fn : Func) (Q : PV -> aM -> Prop) : Ex -> VL -> aM -> Prop := fun e fl σ => e.goes = true /\ ∃ w e' τ ys r, σ = [(w, Cell.row e' τ ys)] /\ ys ≠ [] /\ fn.results = #[r] /\ rY P fl [] r (.raw w) /\ Q (.raw w) σ
theorem IK.row {fn : Func} {Q : PV -> aM -> Prop} {r : ResultVar} {w : Value} {e : TypeId} {τ : Ty} {ys : List τ.den} (hr : fn.results = #[r]) (h1 : rY P fl [] r (.raw w)) (hy : ys ≠ []) (hQ : Q (.raw w) [(w, Cell.row e τ ys)]) : IK P fn Q .ret fl [(w, Cell.row e τ ys)] :=
  ⟨rfl, w, e, τ, ys, r, rfl, hy, hr, h1, hQ⟩
theorem gZ.ai9 {f : FuncId} {args : List PV} {fn : Func} {c : Code} {Q : PV -> aM -> Prop} (kX : P.funcs[f]? = some fn) (hc : fn.body = some c) (ho : ∀ us h, orc f us h = none) (hn : (Nat.blt 4000 fn.ntmps || Nat.blt fn.ntmps args.length) = false)
    (hb : U P orc none c fn.ntmps (qR 0 args) γ (IK P fn Q)) : gZ P orc f args γ Q := fun h S us aZ hS dB mQ GO ha => by
  have hl := ha.len
  have sK : Nat.blt 4000 fn.ntmps = false /\ Nat.blt fn.ntmps args.length = false := by simpa using hn
  have n3 := gI sK.1; have n4 := gI sK.2; have p5 : aX (entry h) (own γ ++ S) args us := aX.nx (h := h) (h' := entry h) (fun _ _ a b => ⟨a, b⟩) ha
  have I0 : Iv (entry h) (own γ) S (entry h) γ (j6 .leaf 0 us) [] (qR 0 args) := {
    ok := aZ
    s0 := hS.1
    lH := cK.refl _ _
    cells := fun c hc => (dB c hc).aV (fun _ _ => rfl) (fun _ _ a b => ⟨a, b⟩) fun b hb => List.mem_append_left _ (List.mem_flatMap.2 ⟨c, hc, hb⟩)
    new := fun b hb => ⟨.inl hb, GO b hb⟩
    apart := mQ
    mark := fun d hd => by cases hd
    marks := List.nodup_nil
    aH := oU (hS.2.ent dB) p5 (by omega) }
  refine nP.enter kX hc (ho us h) (by rw [hl]; exact hn) ((hb (entry h) (own γ) S _ (entry h) [] I0).mono fun e fr h1 hq => ?_); obtain ⟨_, dJ, σ', nM, he, w, e', τ, ys, r, rfl, p7, G5, bI, hQ⟩ := hq; obtain ⟨h2, d1, d2, d3⟩ := sQ nM.marks fun d hd => (nM.mark d hd).2
  have jL : ∀ b o, h1.get b = some o -> o ≠ .mM -> h2.get b = some o := fun b o hg cA => by
    rw [d3 b (fun hm => cA (by have := (nM.mark b hm).2; rw [hg] at this; exact Option.some.inj this))]; exact hg
  have a2 : cK (entry h) h2 (own γ) := nM.lH.trans d2 fun i hi => .inr (nM.mark i hi).1; have L1 := nM.lc; have Lz : Lc (own [(w, Cell.row e' τ ys)] ++ S) h1 [] fr.t dJ := ⟨L1.ok, L1.lt, (fun c hc => by cases hc), (fun b hb => by cases hb), List.nodup_nil, L1.aH⟩
  have AI : AT P dJ [] fn.results.toList [.raw w] := by rw [G5]; exact .cons bI .nil
  obtain ⟨q8, e1, e2⟩ := AI.ok Lz jL (fun b _ hg cA rS => ⟨jL b _ hg cA, rS⟩); have mD := yJ e2; have iK : gE q8 = w := mD
  obtain ⟨b, rs, m, h3, h4, h5, h6⟩ : ∃ b rs m, w = .slice (some ⟨b, 0, none⟩) ys.length 0 /\ b ∈ own [(w, Cell.row e' τ ys)] ++ S /\ h1.get b = some (.row e' rs true m) /\ bC h1 (own [(w, Cell.row e' τ ys)] ++ S) τ rs ys := by
    rcases nM.cells _ List.mem_cons_self with hx | hx
    . exact absurd hx.2 p7
    exact hx
  have hN : pQ h1 (own [(w, Cell.row e' τ ys)] ++ S) h2 (own [(w, Cell.row e' τ ys)] ++ S) := fun b _ hg cA rS => ⟨jL b _ hg cA, rS⟩; have uB : bL h2 (own [(w, Cell.row e' τ ys)] ++ S) w (Cell.row e' τ ys) := .inr ⟨b, rs, m, h3, h4, jL b _ h5 (by simp), h6.1, fun i hi => (h6.2 i hi).mL hN⟩; refine ⟨he, h2, q8, d1, e1, ?_⟩
  have lV : af (gE q8) = false := by rw [iK, h3]; exact abL _ _ _
  unfold leftOf; rw [lV]; simp only [Bool.false_and, cond_false]; refine ⟨.raw w, _, hQ, ⟨⟨a2.next, a2.get, fun x => a2.ok x, fun e h3 h4 h5 => Nat.le_min.2 ⟨h3, a2.low e (Nat.le_trans h4 (Nat.le_refl _)) h4 h5⟩, fun b hb => ?_, Nat.min_le_left _ _⟩, fun b hb => (nM.new b hb).1, L1.apart, fun c hc => ?_⟩, iK⟩
  . rcases a2.chg b hb with h3 | h3
    . exact .inl h3
    exact .inr (Nat.le_trans (Nat.min_le_right _ _) h3)
  obtain rfl := List.mem_singleton.1 hc; exact uB.aV (fun _ _ => rfl) (fun _ _ a b => ⟨a, b⟩) fun b hb => List.mem_append_left _ (by simpa [own] using hb)
end Go.Fs
namespace Go.Fs
variable {P : Program} {orc : FuncId -> List Value -> Heap -> Option (Value × Heap)} {fl : VL} {σ : aM} {x y : Operand} {T T' : TypeId} {p q : Int} {k : IntKind}
theorem alQ (n : Int) : IntKind.u8.wrap n = n % 256 := by
  unfold IntKind.wrap; simp only [IntKind.signed, IntKind.bits]; simp
theorem WZ (n : Int) : IntKind.u32.wrap n = n % 4294967296 := by
  unfold IntKind.wrap; simp only [IntKind.signed, IntKind.bits]; simp
theorem FV {n : Int} (h : 0 <= n /\ n < 4294967296) : IntKind.u32.wrap n = n := by rw [WZ]; omega
theorem aF.nN {s D : TypeId} (k2 : IntKind) {r : Int} (hw : k2.wrap p = r) (hx : aQ fl x = some (.v (.int k) p) := by rfl) (hb : BB P s D k2 = true := by kernel_rfl) : aF P fl σ (.convert s D x) (.v (.int k2) r) :=
  .conv hx fun h S a ha => by
    obtain rfl := aE.int ha; unfold BB at hb; obtain ⟨b1, b2⟩ := aT hb; obtain ⟨td, hs⟩ := Option.isSome_iff_exists.1 b1; split at b2
    . rename_i k3 hd; obtain rfl : k3 = k2 := of_decide_eq_true b2; refine ⟨.int k3 r, aE.ofInt _ _, rfl, ?_⟩; unfold bU convert; simp only [aD, aG hs, aG hd, Option.bind_some]; show (aC P (Conv.intToInt k3 p)).bind _ = _; simp only [Conv.intToInt, aK, Option.bind_some, hw]; rfl
    cases b2
theorem aF.DY {s D : TypeId} (hx : aQ fl x = some (.v (.int k) p) := by rfl) (hb : BB P s D .u8 = true := by kernel_rfl) : aF P fl σ (.convert s D x) (.v (.int .u8) (p % 256)) := .nN .u8 (alQ p) hx hb
theorem aF.aaL (n : Nat) (m : Int) (hm : m = 2 ^ n) (hn : n <= 31) (hp : 0 <= p) (hx : aQ fl x = some (.v (.int .u32) p) := by rfl) (hy : aQ fl y = some (.v (.int .u64) ((n : Nat) : Int)) := by rfl) : aF P fl σ (.binOp .shr T x y T') (.v (.int .u32) (p / m)) :=
  .rI hx hy (u := .int .u32 (p / m)) (by
    have this : min ((n : Nat) : Int).toNat IntKind.u32.bits = n := by
      rw [Int.toNat_natCast]; exact Nat.min_eq_left (show n <= 32 by omega)
    have e2 : p.fdiv (2 ^ n) = p / m := by
      have h2 : (0 : Int) <= 2 ^ n := Int.pow_nonneg (by decide); rw [hm, Int.fdiv_eq_ediv_of_nonneg _ h2]
    show (aC P (Op.shift .shr .u32 p .u64 ((n : Nat) : Int))).bind _ = _; unfold Op.shift; rw [if_neg (by omega)]; simp only [this]; rw [<- e2]
    rfl) fun h S => aE.ofInt _ _
theorem aF.aaM (n : Nat) (m : Int) (hm : m = 2 ^ n) (hn : n <= 31) (hp : 0 <= p * m /\ p * m < 4294967296) (hx : aQ fl x = some (.v (.int .u32) p) := by rfl) (hy : aQ fl y = some (.v (.int .u64) ((n : Nat) : Int)) := by rfl) : aF P fl σ (.binOp .shl T x y T') (.v (.int .u32) (p * m)) :=
  .rI hx hy (u := .int .u32 (p * m)) (by
    have this : min ((n : Nat) : Int).toNat IntKind.u32.bits = n := by
      rw [Int.toNat_natCast]; exact Nat.min_eq_left (show n <= 32 by omega)
    have e2 : p * 2 ^ n = p * m := by rw [hm]
    show (aC P (Op.shift .shl .u32 p .u64 ((n : Nat) : Int))).bind _ = _; unfold Op.shift; rw [if_neg (by omega)]; simp only [this, e2, FV hp]
    rfl) fun h S => aE.ofInt _ _
theorem aeC {a b : Int} (n : Nat) (hn : n <= 31) (ha : 0 <= a /\ a * 2 ^ n < 4294967296) (hb : 0 <= b /\ b < 2 ^ n) : IntKind.u32.wrap ((BitVec.ofInt 32 (a * 2 ^ n) ||| BitVec.ofInt 32 b).toNat : Int) = a * 2 ^ n + b := by
  obtain ⟨a, rfl⟩ := Int.eq_ofNat_of_zero_le ha.1; obtain ⟨b, rfl⟩ := Int.eq_ofNat_of_zero_le hb.1
  have h1 : ((a : Nat) : Int) * 2 ^ n = ((2 ^ n * a : Nat) : Int) := by rw [Int.mul_comm, Int.natCast_mul, Int.natCast_pow]; rfl
  rw [h1] at ha ⊢
  have sX : b < 2 ^ n := by exact_mod_cast hb.2
  have TE : 2 ^ n * a < 4294967296 := Int.ofNat_lt.1 ha.2
  have hle : 2 ^ n * a + b < 4294967296 := by
    have h2 : 2 ^ n * (a + 1) <= 4294967296 := by
      have hd : (4294967296 : Nat) = 2 ^ n * 2 ^ (32 - n) := by rw [<- Nat.pow_add, show n + (32 - n) = 32 by omega]
      rw [hd] at TE ⊢; have := Nat.lt_of_mul_lt_mul_left TE; exact Nat.mul_le_mul_left _ this
    rw [Nat.mul_add, Nat.mul_one] at h2; omega
  have e1 : (BitVec.ofInt 32 ((2 ^ n * a : Nat) : Int) ||| BitVec.ofInt 32 ((b : Nat) : Int)).toNat = 2 ^ n * a + b := by
    rw [BitVec.toNat_or, BitVec.ofInt_natCast, BitVec.ofInt_natCast, BitVec.toNat_ofNat, BitVec.toNat_ofNat, Nat.mod_eq_of_lt TE, Nat.mod_eq_of_lt (by omega), <- Nat.two_pow_add_eq_or_of_lt sX]
  rw [e1, FV ⟨Int.natCast_nonneg _, Int.ofNat_lt.2 hle⟩, Int.natCast_add]
theorem aF.aiA {a : Int} (n : Nat) (hn : n <= 31) (hp : p = a * 2 ^ n) (ha : 0 <= a /\ a * 2 ^ n < 4294967296) (hb : 0 <= q /\ q < 2 ^ n) (hx : aQ fl x = some (.v (.int .u32) p) := by rfl) (hy : aQ fl y = some (.v (.int .u32) q) := by rfl) : aF P fl σ (.binOp .or T x y T') (.v (.int .u32) (p + q)) :=
  .rI hx hy (u := .int .u32 (p + q)) (by
    have e : binOp .or T (.int .u32 p) (.int .u32 q) = pure (.int .u32 (IntKind.u32.wrap ((BitVec.ofInt 32 p ||| BitVec.ofInt 32 q).toNat : Int))) := rfl; show bU P (do eqGuard .or T x y (.int .u32 p) (.int .u32 q); binOp .or T (.int .u32 p) (.int .u32 q)) = _
    rw [e, hp, aeC n hn ha hb]; rfl) fun h S => aE.ofInt _ _
end Go.Fs
namespace Go.Fs
variable {P : Program} {orc : FuncId -> List Value -> Heap -> Option (Value × Heap)} {aR : Option Nat} {h h' h0 h1 h2 hr : Heap} {S S' S0 B G A : List Nat} {σ σ' j8 ρ γ : aM} {t t' : Tr} {ms : List Nat} {fl : VL} {ops : Array Oper} {n i mem : Nat} {l : List Oper} {K : VL -> aM -> Prop} {Q : Ex -> VL -> aM -> Prop}
  {d d0 d1 : Tmp} {ty ty0 ty1 : TypeId} {pos p0 p1 : String} {after a0 a1 : Array Edge} {op : Op} {v pv : PV} {g : Option (Nat × Bool)} {x y z : Operand} {T T' e : TypeId} {τ τ' : Ty} {w w' : Value}
theorem J.asE {parts : Array (Nat × Operand)} {len : Nat} (xs : List Int) (hT : fW P T e (.int .u8)) (hu8 : P.underlying e = some (.int .u8)) (vC : Nat.beq (P.cellsOf e) 1 = true) (hk : ∀ w0 w, J P orc ops n l ((d1, .raw w) :: (d0, .raw w0) :: fl) ((w, .row e (.int .u8) xs) :: σ) K)
    (hxs : lG fl (parts.toList.map (·.2)) = some (xs.map (PV.v (.int .u8))) := by rfl) (U5 : parts.toList.map (·.1) = List.range' 0 parts.toList.length := by rfl) (hl : len = xs.length := by rfl) (hp0 : 0 < xs.length := by decide) (hp1 : xs.length <= 1000 := by decide)
    (HS : (Nat.blt d0 n && Nat.ble n 4000) = true := by rfl) (JP : (Nat.blt d1 n && Nat.ble n 4000) = true := by rfl) :
    J P orc ops n (⟨some d0, .buildSlice T len parts, ty0, p0, a0, none⟩ :: ⟨some d1, .convert T T (.tmp d0), ty1, p1, a1, none⟩ :: l) fl σ K := fun h0 G S0 t h ms I => by
  obtain ⟨m1, m2⟩ := fits HS; obtain ⟨m3, m4⟩ := fits JP; have L := I.lc; obtain ⟨us, e1, e2, e3⟩ := U4 (h := h) (S := own σ ++ S0) hT hxs U5 hl hp0 hp1 (by decide) I.aH.rG; refine oY.op (cE I.aH rfl) (e3 h _ _ _ _ _) (bN m1 t _) ?_; have U0 : flat us = xs.map (.int .u8) := A0 (h := h) (S := own σ ++ S0) e2
  have hlen : (flat us).length = xs.length := by rw [U0, List.length_map]
  have fK : (h.push (.row e (flat us) true false)).get h.next = some (.row e (flat us) true false) := by rw [Heap.bB]; exact if_pos rfl
  have CQ : ∀ k, k ≠ h.next -> k ≠ h.next + 1 -> (((h.push (.row e (flat us) true false)).drop h.next).push (.row e (flat us) true false)).get k = h.get k := fun k k1 k2 => by
    rw [Heap.bB, if_neg (by exact k2), Heap.cJ, if_neg k1, Heap.bB, if_neg k1]
  have fH : (((h.push (.row e (flat us) true false)).drop h.next).push (.row e (flat us) true false)).next = h.next + 1 + 1 := rfl
  have asF : cK h (((h.push (.row e (flat us) true false)).drop h.next).push (.row e (flat us) true false)) (own σ) := {
    next := by rw [fH]; omega
    get := fun b hb _ => CQ b (by omega) (by omega)
    ok := fun x b o hg => by
      by_cases k1 : b = h.next
      . rw [fH]; omega
      by_cases k2 : b = h.next + 1
      . rw [fH]; omega
      rw [CQ b k1 k2] at hg; have := x b o hg; rw [fH]; omega
    low := fun e' h3 h4 _ => Nat.le_min.2 ⟨h3, h4⟩
    chg := fun b hb => .inl (CQ b (by omega) (by omega))
    uS := Nat.min_le_left _ _ }
  have lD : ∀ b ∈ own ((Value.slice (some ⟨h.next + 1, 0, none⟩) xs.length 0, Cell.row e (.int .u8) xs) :: σ), b ∈ own σ \/ h.next <= b := fun b hb => by
    rw [b7] at hb; rcases List.mem_append.1 hb with hb | hb
    . right; simp [cD] at hb; omega
    exact .inl hb
  have hm : Made S0 h (((h.push (.row e (flat us) true false)).drop h.next).push (.row e (flat us) true false)) σ ((.slice (some ⟨h.next + 1, 0, none⟩) xs.length 0, .row e (.int .u8) xs) :: σ) := {
    lH := asF
    new := lD
    apart := by
      rw [b7]; show ([h.next + 1] ++ own σ).Nodup; rw [List.singleton_append, List.nodup_cons]; refine ⟨fun hb => ?_, L.apart⟩; have := L.lt _ (List.mem_append_left _ hb); omega
    cells := fun c hc => by
      rcases List.mem_cons.1 hc with rfl | hc
      . refine .inr ⟨h.next + 1, flat us, false, rfl, ?_, by rw [Heap.bB]; exact if_pos rfl, ?_⟩
        . rw [b7]; exact List.mem_append_left _ (List.mem_append_left _ (by simp [cD]))
        refine ⟨e2.1, fun i hi => ?_⟩
        exact cG.nx (τ := .int .u8) (h := h) (h' := ((h.push (.row e (flat us) true false)).drop h.next).push (.row e (flat us) true false)) (S := own σ ++ S0) (fun b o hg hb => by
          have bX := I.ok b o hg; refine ⟨by rw [CQ b (by omega) (by omega)]; exact hg, fun mT => ?_⟩; rcases List.mem_append.1 mT with mT | mT
          . rcases lD b mT with h3 | h3
            . exact hb (List.mem_append_left _ h3)
            omega
          exact hb (List.mem_append_right _ mT)) (e2.2 i hi)
      refine (L.cells c hc).aV (fun b hb => ?_) (fun b o hg hb => ?_) fun b hb => ?_
      . have := L.lt b (List.mem_append_left _ (List.mem_flatMap.2 ⟨c, hc, hb⟩)); exact CQ b (by omega) (by omega)
      . have bX := I.ok b o hg; refine ⟨by rw [CQ b (by omega) (by omega)]; exact hg, fun mT => ?_⟩; rcases List.mem_append.1 mT with mT | mT
        . rcases lD b mT with h3 | h3
          . exact hb (List.mem_append_left _ h3)
          omega
        exact hb (List.mem_append_right _ mT)
      rw [b7]
      exact List.mem_append_left _ (List.mem_append_right _ (List.mem_flatMap.2 ⟨c, hc, hb⟩)) }
  have I2 := ((I.made hm).set (d := d0) (v := .raw (.slice (some ⟨h.next, 0, none⟩) xs.length 0)) (u := .slice (some ⟨h.next, 0, none⟩) xs.length 0) rfl m2).set (d := d1) (v := .raw (.slice (some ⟨h.next + 1, 0, none⟩) xs.length 0)) (u := .slice (some ⟨h.next + 1, 0, none⟩) xs.length 0) rfl m4; obtain ⟨m, t2, h2, hr, hq⟩ := hk (.slice (some ⟨h.next, 0, none⟩) xs.length 0) (.slice (some ⟨h.next + 1, 0, none⟩) xs.length 0) h0 G S0 _ _ ms I2; refine ⟨m, t2, h2, ?_, hq⟩
  have bI : aA (t.set depth d0 (.slice (some ⟨h.next, 0, none⟩) xs.length 0)) (.tmp d0) = .slice (some ⟨h.next, 0, none⟩) xs.length 0 := by
    show (t.set depth d0 _).get d0 = _; rw [vH t d0 _ d0 m2]; simp
  have x7 : P.underlying T = some (.slice e) := hT.sl.sl
  have FG : qF P orc m ⟨some d1, .convert T T (.tmp d0), ty1, p1, a1, none⟩ (aA (t.set depth d0 (.slice (some ⟨h.next, 0, none⟩) xs.length 0))) (h.push (.row e (flat us) true false)) = some (.slice (some ⟨h.next + 1, 0, none⟩) xs.length 0, ((h.push (.row e (flat us) true false)).drop h.next).push (.row e (flat us) true false)) := by
    unfold qF pF
    have e4 : bQ P (dL P orc (cX P orc m)) (eG (cX P orc m)) ⟨some d1, .convert T T (.tmp d0), ty1, p1, a1, none⟩ (aA (t.set depth d0 (.slice (some ⟨h.next, 0, none⟩) xs.length 0))) (h.push (.row e (flat us) true false)) = none := by
      show (if af (aA _ (.tmp d0)) = true then _ else (gG P T T (aA _ (.tmp d0)) _).map fun v => (v, _)) = _; rw [bI, abL]
      have : gG P T T (.slice (some ⟨h.next, 0, none⟩) xs.length 0) (h.push (.row e (flat us) true false)) = none := by
        unfold gG; simp only [x7, hu8]
      rw [this]; rfl
    rw [e4]; unfold xT
    have hB : uY P ⟨some d1, .convert T T (.tmp d0), ty1, p1, a1, none⟩ (aA (t.set depth d0 (.slice (some ⟨h.next, 0, none⟩) xs.length 0))) (h.push (.row e (flat us) true false)) = some (.slice (some ⟨h.next + 1, 0, none⟩) xs.length 0, ((h.push (.row e (flat us) true false)).drop h.next).push (.row e (flat us) true false)) := by
      unfold uY; simp only [bI, x7, hu8, fK, Nat.beq_refl, hlen, vC, Bool.and_self, cond_true]; rfl
    rw [hB]
  simp only [oG, cE (o := ⟨some d1, .convert T T (.tmp d0), ty1, p1, a1, none⟩) (I.aH.set (show aI h (own σ ++ S0) (.raw (.slice (some ⟨h.next, 0, none⟩) xs.length 0)) _ from rfl) m2) (show cV ops _ none = some true from rfl), FG, bN m3 _ _]; exact hr
theorem X0 {s x : Value} (hT : P.underlying T = some (.slice e)) (hS : P.underlying T' = some .string) : dR P #[T, T'] s x h = dR P #[T, T] s x h := by
  unfold dR; simp only [List.getElem?_toArray, List.getElem?_cons_zero, List.getElem?_cons_succ, hT, hS]; rfl
theorem bO.aaN {xs : List Int} {s : ByteArray} (hT : fW P T e (.int .u8)) (hS : P.underlying T' = some .string) (hx : aQ fl x = some (.raw w)) (hy : aQ fl y = some (.v .str s)) (hp : 0 < s.size) (cY : xs.length + s.size <= 1000000) :
    bO P fl ((w, .row e (.int .u8) xs) :: σ) (.call { callee := .builtin .append, args := #[x, y], argTypes := #[T, T'] }) fun v σ' => ∃ w', v = .raw w' /\ σ' = (w', .row e (.int .u8) (xs ++ aP s)) :: σ :=
  ⟨rfl, fun S0 h t L => by
    have h1 : aA t x = w := cR L.aH hx; have h2 : aA t y = .string s := aE.str (cR L.aH hy); have hc := L.cells _ List.mem_cons_self; have wX := eI s
    have cO : ∀ u h', dR P #[T, T'] w (.string s) h = some (u, h') -> ∀ (d : Option Tmp) (ty : TypeId) (pos : String) (after : Array Edge) (g : Option (Nat × Bool)), fJ P ⟨d, .call { callee := .builtin .append, args := #[x, y], argTypes := #[T, T'] }, ty, pos, after, g⟩ (aA t) h = some (u, h') := fun u h' e _ _ _ _ _ => by
      show dR P #[T, T'] (aA t x) (aA t y) h = _; rw [h1, h2, e]
    have oV : ((s.extract 0 s.size).data.map fun b => Value.int .u8 b.toNat).toList = jQ s := by
      have : s.extract 0 s.size = s := ByteArray.extract_zero_size; rw [this, Array.toList_map, jQ, aP, List.map_map]; rfl
    have cA : bC h (own ((w, .row e (.int .u8) xs) :: σ) ++ S0) (.int .u8) (jQ s) (aP s) := ⟨by rw [yZ, wX]; simp [Ty.size], fun i hi => by
      show ((jQ s).drop (i * 1)).take 1 = [.int .u8 (aP s)[i]]
      have nA : i < (jQ s).length := by rw [yZ]; omega
      rw [Nat.mul_one, List.drop_eq_getElem_cons nA]
      simp [jQ]⟩
    obtain ⟨h', KH, e1, e2, e3, e4⟩ := OT hT hT L.ok hc (u := .string s) (news := jQ s) (fun i z hi _ => by
      have hi : i.size = 1 := hi; show (match lB (.string s) with | some m => (cellsOf i.size m (.string s) h).map fun cs => (m, cs) | none => none) = _
      simp only [lB, cellsOf, oV, Option.map_some, wX]) cA (by omega) (by omega)
    refine ⟨_, h', .raw (.slice (some ⟨h.next, 0, none⟩) (xs.length + (aP s).length) 0), _, ⟨_, rfl, rfl⟩, Made.head L e2 (fun b hb => .inr (by simp [cD] at hb; omega)) (by simp [cD]) fun hN => ?_, rfl, cO _ _ (by rw [X0 hT.sl.sl hS]; exact e1)⟩
    exact .inr ⟨h.next, KH, true, by rw [List.length_append], List.mem_append_left _ (by rw [b7]; simp [cD]), e3, e4 _ hN⟩⟩
theorem J.aaN {xs : List Int} {s : ByteArray} (hx : aQ fl x = some (.raw w)) (hy : aQ fl y = some (.v .str s)) (hT : fW P T e (.int .u8)) (hS : P.underlying T' = some .string) (hp : 0 < s.size) (cY : xs.length + s.size <= 1000000) (hk : ∀ w', J P orc ops n l ((d, .raw w') :: fl) ((w', .row e (.int .u8) (xs ++ aP s)) :: σ) K)
    (hw : cV ops fl g = some true := by rfl) (hn : (Nat.blt d n && Nat.ble n 4000) = true := by rfl) :
    J P orc ops n (⟨some d, .call { callee := .builtin .append, args := #[x, y], argTypes := #[T, T'] }, ty, pos, after, g⟩ :: l) fl ((w, .row e (.int .u8) xs) :: σ) K :=
  J.mk (bO.aaN hT hS hx hy hp cY) (by rintro _ _ ⟨w', rfl, rfl⟩; exact hk w') hw hn
def mH (l : List Int) : ByteArray := ⟨(l.map fun x => UInt8.ofNat x.toNat).toArray⟩
theorem DZ : ∀ {l : List Int}, (∀ x ∈ l, 0 <= x /\ x < 256) -> aP (mH l) = l := fun {l} hl => by
  unfold aP mH; simp only [List.map_map]
  conv => rhs; rw [<- List.map_id l]
  refine List.map_congr_left fun x hx => ?_; obtain ⟨h0, h1⟩ := hl x hx; show (((UInt8.ofNat x.toNat).toNat : Nat) : Int) = x; rw [UInt8.toNat_ofNat']; omega
theorem SI (s : ByteArray) : mH (aP s) = s := by
  unfold aP mH; simp only [List.map_map]; refine ByteArray.ext ?_; show (s.data.toList.map _).toArray = s.data
  have : (s.data.toList.map ((fun x : Int => UInt8.ofNat x.toNat) ∘ fun c : UInt8 => ((c.toNat : Nat) : Int))) = s.data.toList := by
    conv => rhs; rw [<- List.map_id s.data.toList]
    refine List.map_congr_left fun x _ => ?_; show UInt8.ofNat ((x.toNat : Nat) : Int).toNat = x; rw [Int.toNat_natCast, UInt8.ofNat_toNat]
  rw [this]
theorem X1 {s : ByteArray} : ∀ x ∈ aP s, 0 <= x /\ x < 256 := fun x hx => by
  obtain ⟨c, _, rfl⟩ := List.mem_map.1 hx; have := c.toNat_lt; omega
end Go.Fs
namespace Go.Proofs
open Go.Fs Ieee
set_option maxHeartbeats 2000000
abbrev pY : Ty := (.sl (.int .u8))
theorem vt5 : gQ Tryz.prog 5 (.int .u8) := iY (by kernel_rfl)
theorem eB : fW Tryz.prog 26 5 (.int .u8) := u7 (by kernel_rfl)
def bH (u : Int) : List Int := [u / 16777216 % 256, u / 65536 % 256, u / 256 % 256, u % 256]
theorem oO (u : Int) : (bH u).length = 4 := rfl
theorem r4 {u : Int} : ∀ x ∈ bH u, 0 <= x /\ x < 256 := fun x hx => by
  simp only [bH, List.mem_cons, List.not_mem_nil, or_false] at hx; rcases hx with rfl | rfl | rfl | rfl <;> omega
def uJ (l : List Int) : Int := l.getD 0 0 * 16777216 + l.getD 1 0 * 65536 + l.getD 2 0 * 256 + l.getD 3 0
theorem MM {u : Int} (h : 0 <= u /\ u < 4294967296) (r : List Int) : uJ (bH u ++ r) = u := by
  show u / 16777216 % 256 * 16777216 + u / 65536 % 256 * 65536 + u / 256 % 256 * 256 + u % 256 = u; omega
def jX (l : List Int) : Prop := ∀ x ∈ l, 0 <= x /\ x < 256
theorem dU {l : List Int} (h : jX l) (n : Nat) : jX (l.drop n) := fun x hx => h x (List.mem_of_mem_drop hx)
theorem zC {l : List Int} (h : jX l) (n : Nat) : jX (l.take n) := fun x hx => h x (List.mem_of_mem_take hx)
theorem lQ {l : List Int} (h : jX l) {i : Nat} (hi : i < l.length) : 0 <= l[i] /\ l[i] < 256 := h _ (List.getElem_mem hi)
theorem A7 {l : List Int} (h : jX l) (h4 : 4 <= l.length) : 0 <= uJ l /\ uJ l < 4294967296 := by
  have h0 := lQ h (show 0 < l.length by omega); have h1 := lQ h (show 1 < l.length by omega); have h2 := lQ h (show 2 < l.length by omega); have h3 := lQ h (show 3 < l.length by omega); unfold uJ; rw [getD_at (show 0 < l.length by omega), getD_at (show 1 < l.length by omega), getD_at (show 2 < l.length by omega), getD_at (show 3 < l.length by omega)]; omega
theorem aiB {l : List Int} (h4 : 4 <= l.length) : uJ l = (l[0] : Int) * (16777216 : Int) + (l[1] : Int) * (65536 : Int) + (l[2] : Int) * (256 : Int) + (l[3] : Int) := by
  unfold uJ; rw [getD_at (show 0 < l.length by omega), getD_at (show 1 < l.length by omega), getD_at (show 2 < l.length by omega), getD_at (show 3 < l.length by omega)]
theorem w8 {w_s : Value} {s : List Int} {u : Int} (h0 : 0 <= u) (hl : s.length <= 900000) : gZ Tryz.prog OA 38 [.raw w_s, .v (.int .u32) u] [(w_s, .row 5 (.int .u8) s)] (fun r g => ∃ w, r = .raw w /\ g = [(w, .row 5 (.int .u8) (s ++ bH u))]) := by
  refine gZ.ai9 Tryz.func38 rfl (fun _ _ => rfl) rfl ?_; show U _ _ _ _ _ [(0, .raw w_s), (1, .v (.int .u32) u)] [(w_s, .row 5 (.int .u8) s)] _; refine U.seq (U.text ?_); refine J.c (.assign rfl) ?_; refine J.go (U.seq (U.text ?_)); refine J.c (.move rfl) (J.c (.move rfl) (J.c ((.aaL 24 16777216 (by decide) (by decide) h0)) (J.c (.DY) ?_))); refine J.c (.move rfl) (J.c ((.aaL 16 65536 (by decide) (by decide) h0)) (J.c (.DY) (J.c (.move rfl) ?_))); refine J.c ((.aaL 8 256 (by decide) (by decide) h0)) (J.c (.DY) (J.c (.move rfl) (J.c (.DY) ?_))); refine J.new (.lit [(u / 16777216 % 256), (u / 65536 % 256), (u / 256 % 256), (u % 256)] eB) ?_; refine J.app rfl rfl eB eB (by simp; omega) ?_; intro eT; refine J.c (.assign rfl) (J.go ?_); refine U.ret ?_; exact IK.row rfl b6 (by simp) ⟨eT, rfl, (by rfl)⟩
theorem w9 {s : List Int} (hb : jX s) (h4 : 4 <= s.length) : VF Tryz.prog OA 44 [.v pY s] (.v (.int .u32) (uJ s)) := by
  refine VF.enter Tryz.func44 rfl (fun _ _ => rfl) rfl ?_; show U _ _ _ _ _ [(0, .v pY s)] [] _; refine U.seq (U.text ?_); refine J.c (.assign rfl) ?_; refine J.go (U.seq (U.drawn ?_)); have b0 := lQ hb (show 0 < s.length by omega); have b1 := lQ hb (show 1 < s.length by omega); have b2 := lQ hb (show 2 < s.length by omega); have b3 := lQ hb (show 3 < s.length by omega); refine VD.c (.move rfl) (VD.c (.ix (j := 0) rfl rfl eB (by omega)) ?_); refine VD.r [] (.ld vt5) (.inl rfl) ?_; refine VD.c ((.nN (p := s[0]) .u32 (FV (by omega)))) (VD.c ((.aaM (p := s[0]) 24 16777216 (by decide) (by decide) (by omega))) (VD.c (.move rfl) (VD.nw [] ?_))); refine VD.c (.ix (j := 1) rfl rfl eB (by omega)) ?_; refine VD.r [] (.ld vt5) (.inl rfl) ?_; refine VD.c ((.nN (p := s[1]) .u32 (FV (by omega)))) (VD.c ((.aaM (p := s[1]) 16 65536 (by decide) (by decide) (by omega))) (VD.c ((.aiA (p := s[0] * 16777216) (q := s[1] * 65536) (a := s[0]) 24 (by decide) rfl (by omega) (by omega))) (VD.c (.move rfl) ?_))); refine VD.c (.ix (j := 2) rfl rfl eB (by omega)) (VD.nw [] ?_); refine VD.r [] (.ld vt5) (.inl rfl) ?_; refine VD.c ((.nN (p := s[2]) .u32 (FV (by omega)))) (VD.c ((.aaM (p := s[2]) 8 256 (by decide) (by decide) (by omega))) (VD.c ((.aiA (p := s[0] * 16777216 + s[1] * 65536) (q := s[2] * 256) (a := s[0] * 256 + s[1]) 16 (by decide) (by omega) (by omega) (by omega))) (VD.c (.move rfl) ?_))); refine VD.c (.ix (j := 3) rfl rfl eB (by omega)) ?_; refine VD.r [] (.ld vt5) (.inl rfl) ?_; refine VD.nw [] (VD.c ((.nN (p := s[3]) .u32 (FV (by omega)))) (VD.c ((.aiA (p := s[0] * 16777216 + s[1] * 65536 + s[2] * 256) (q := s[3]) (a := s[0] * 65536 + s[1] * 256 + s[2]) 8 (by decide) (by omega) (by omega) (by omega))) (VD.c (.assign rfl) ?_))); refine VD.go ?_; refine U.ret ?_; exact aW.one rfl b6 (dM (by exact (aiB h4).symm))
theorem aeD {x : Nat} : VF Tryz.prog OA 39 [.v (.bJ .f32) x] (.v (.int .u32) ((x : Nat) : Int)) :=
  VF.RL (e := Extern.MathFloatBits.float32bits) Tryz.func39 (fun _ _ => rfl) (by kernel_rfl) (by kernel_rfl) (by kernel_rfl) (w := .int .u32 ((x : Nat) : Int)) rfl fun _ _ => aE.ofInt _ _
theorem aeE {n : Int} : VF Tryz.prog OA 45 [.v (.int .u32) n] (.v (.bJ .f32) n.toNat) :=
  VF.ab7 (e := Extern.MathFloatBits.float32frombits) Tryz.func45 (fun _ _ => rfl) (by kernel_rfl) (by kernel_rfl) (by kernel_rfl) (w := .float .f32 n.toNat) rfl fun _ _ => aE.yH _ _
end Go.Proofs
namespace Go.Proofs
open Go.Fs Ieee
set_option maxHeartbeats 2000000
theorem aeF {r : bS} (h : bT r = 0) : 0 < r.1.size /\ r.1.size <= 24 := by
  unfold bT at h; split at h
  . rename_i h1; exact absurd h h1
  rename_i h1; have h1 := eO.1 (Classical.not_not.1 h1) (cL (!kI r.1) 8) (by simp); rw [mX (by decide)] at h1
  have h2 : kI r.1 = true := by simpa using h1
  have h3 := of_decide_eq_true h2; omega
def dI (n : Int) : Int := n % 4294967296
theorem X2 (n : Int) : IntKind.u32.wrap n = dI n := WZ n
theorem zD (n : Int) : 0 <= dI n := Int.emod_nonneg _ (by decide)
def eY (l : List (Int × Int)) : List Int := l.flatMap fun s => bH (dI s.1) ++ bH (dI s.2)
theorem MN {l : List (Int × Int)} {i : Nat} (h : i < l.length) : eY (l.take (i + 1)) = eY (l.take i) ++ (bH (dI l[i].1) ++ bH (dI l[i].2)) := by
  unfold eY; rw [List.take_succ_eq_append_getElem h, List.flatMap_append, List.flatMap_singleton]
theorem r5 : ∀ l : List (Int × Int), (eY l).length = 8 * l.length
  | [] => rfl
  | s :: l => by
    show ((bH (dI s.1) ++ bH (dI s.2)) ++ eY l).length = _; rw [List.length_append, r5 l]; simp only [bH, List.length_append, List.length_cons, List.length_nil]; omega
def gN (l : List Nat) : List Int := l.flatMap fun x => bH ((aS x : Nat) : Int)
theorem MO {l : List Nat} {i : Nat} (h : i < l.length) : gN (l.take (i + 1)) = gN (l.take i) ++ bH ((aS l[i] : Nat) : Int) := by
  unfold gN; rw [List.take_succ_eq_append_getElem h, List.flatMap_append, List.flatMap_singleton]
theorem A8 : ∀ l : List Nat, (gN l).length = 4 * l.length
  | [] => rfl
  | x :: l => by
    show (bH _ ++ gN l).length = _; rw [List.length_append, A8 l]; simp only [bH, List.length_cons, List.length_nil]; omega
def rU (r : bS) : List Int := [84, 73, 68, 69] ++ [(r.1.size : Int) % 256] ++ aP r.1
def kT (r : bS) : List Int := rU r ++ bH (dI r.2.1) ++ bH (dI (r.2.2.1.length : Nat)) ++ bH (dI (r.2.2.2.length : Nat))
def cI (r : bS) : List Int := kT r ++ eY r.2.2.2 ++ gN r.2.2.1
theorem BZ (r : bS) : (rU r).length = 5 + r.1.size := by
  unfold rU; rw [List.length_append, eI] <;> rfl
theorem sS (r : bS) : (kT r).length = 17 + r.1.size := by
  unfold kT; simp only [List.length_append, BZ, oO]; omega
theorem aeG (r : bS) : (cI r).length = 17 + r.1.size + 8 * r.2.2.2.length + 4 * r.2.2.1.length := by
  unfold cI; rw [List.length_append, List.length_append, sS, r5, A8]
end Go.Proofs
namespace Go.Proofs
open Go.Fs Ieee
set_option maxHeartbeats 2000000
abbrev y69 : Ty := (.pair (.int .i64) (.pair (.int .i64) (.int .i64)))
theorem asG : tG Tryz.prog 69 y69 := rK (z := .agg #[.int .i64 0, .int .i64 0, .int .i64 0]) (by kernel_rfl) rfl rfl
theorem asH : GN Tryz.prog 69 y69 [(0, 1), (1, 1), (2, 1)] := D3 asG rfl (by kernel_rfl)
theorem aiC {r : ByteArray × Int × (List Nat) × (List (Int × Int))} (hl : r.2.2.1.length < 1000000) (hg : r.2.2.2.length < 1000000) : VF Tryz.prog OA 8 [.v jP r] (.nD [.v pY (if bT r = 0 then cI r else []), I (bT r)]) := by
  refine VF.enter Tryz.func8 rfl (fun _ _ => rfl) rfl ?_; show U _ _ _ _ _ [(0, .v jP r)] [] _; refine U.seq (U.text ?_); refine J.new (.box) ?_; refine J.c (.assign rfl) (J.c (.assign rfl) ?_); refine J.go (U.seq (U.seq (U.text ?_))); refine J.r (.ld dT) ?_; refine J.call rfl rfl (VF.call (DB hl hg)) ?_; refine J.c (.assign rfl) ?_; refine J.go (U.seq (U.text ?_)); refine J.c (.move rfl) (J.c (.neq) (J.go ?_)); refine U.b8 rfl (fun c2 => ?_) (fun c2 => ?_)
  . have cA : ¬ bT r = 0 := c2; refine U.seq (U.text ?_); refine J.c (.move rfl) (J.c (.assign rfl) (J.c (.assign rfl) (J.go ?_))); refine U.ret ?_; exact aW.two rfl (evC .nil) b6 (eS (by rw [if_neg cA])) (dM (by rfl))
  have hr : bT r = 0 := Classical.not_not.1 c2; obtain ⟨hs, iR, CQ, hv, nL⟩ := fF hr; obtain ⟨HS, JP⟩ := aeF hr; refine U.skip (U.seq (U.text ?_)); refine J.asE [(84 : Int), (73 : Int), (68 : Int), (69 : Int)] eB (by kernel_rfl) (by kernel_rfl) ?_; intro wv1 eT; refine J.c (.fa (.l .o)) ?_; refine J.r (.ld BG) ?_; refine J.r (.rJ) ?_; refine J.c (.DY) ?_; refine J.new (.lit [((r.1.size : Int) % 256)] eB) ?_; refine J.app rfl rfl eB eB (by simp) ?_; intro pA; refine J.c (.assign rfl) ?_; refine J.go (U.seq (U.text ?_)); refine J.c (.move rfl) (J.c (.fa (.l .o)) ?_); refine J.r (.ld BG) ?_; refine J.aaN rfl rfl eB (by kernel_rfl) (by exact HS) (by simp only [List.length_append, List.length_cons, List.length_nil]; omega) ?_; intro DC; refine J.c (.assign rfl) ?_; refine J.go (U.seq (U.seq (U.text ?_))); refine J.c (.fa (.r (.l .o))) ?_; refine J.r (.ld kO) ?_; refine J.c (.fa (.r (.r (.l .o)))) ?_; refine J.r (.ld j0) ?_; refine J.r (.len eU) ?_; refine J.c (.fa (.r (.r (.r .o)))) ?_; refine J.r (.ld o5) ?_; refine J.r (.len dZ) ?_; refine J.c (.build (r.2.1, ((r.2.2.1.length : Nat) : Int), ((r.2.2.2.length : Nat) : Int)) asH) (J.c (.move rfl) ?_); refine J.go (U.block ?_); refine U.IE ?_; refine U.seq ?_; refine U.aV [(1, .p jP r), (5, .raw DC), (37, .v y69 (r.2.1, ((r.2.2.1.length : Nat) : Int), ((r.2.2.2.length : Nat) : Int))), (38, I (0 : Int))] ⟨rfl, rfl, rfl, rfl, trivial⟩ ?_; refine U.text ?_; refine J.c (.lss) ?_; refine J.go (U.seq ?_); refine U.x6 rfl ?_; refine U.skip (U.seq (U.block (U.seq (U.text ?_)))); refine J.c (.ixA 0 (τ' := (.int .i64)) (dy := r.2.1) (.l .o)) (J.c (.assign rfl) ?_); refine J.go (U.text ?_); refine J.c (.move rfl) (J.c (.move rfl) (J.c ((.nN .u32 (X2 _))) ?_)); refine J.qT [(DC, .row 5 (.int .u8) (([(84 : Int), (73 : Int), (68 : Int), (69 : Int)] ++ [((r.1.size : Int) % 256)]) ++ aP r.1))] rfl rfl rfl (gZ.call (w8 (zD _) (by simp only [List.length_append, List.length_cons, List.length_nil, eI, oO]; omega))) ?_; rintro _ _ ⟨ww4, rfl, rfl⟩; show J _ _ _ _ _ _ [(ww4, .row 5 (.int .u8) ((([(84 : Int), (73 : Int), (68 : Int), (69 : Int)] ++ [((r.1.size : Int) % 256)]) ++ aP r.1) ++ bH (dI r.2.1)))] _; refine J.c (.assign rfl) ?_; refine J.nil (U.text ?_); refine J.c (.add rfl rfl (by decide)) (J.c (.move rfl) ?_); refine J.nil ?_; refine U.IE ?_; refine U.seq (U.text ?_); refine J.c (.lss) ?_; refine J.go (U.seq ?_); refine U.x6 rfl ?_; refine U.skip (U.seq (U.block (U.seq (U.text ?_)))); refine J.c (.ixA 1 (τ' := (.int .i64)) (dy := ((r.2.2.1.length : Nat) : Int)) (.r (.l .o))) (J.c (.assign rfl) ?_); refine J.go (U.text ?_); refine J.c (.move rfl) (J.c (.move rfl) (J.c ((.nN .u32 (X2 _))) ?_)); refine J.qT [(ww4, .row 5 (.int .u8) ((([(84 : Int), (73 : Int), (68 : Int), (69 : Int)] ++ [((r.1.size : Int) % 256)]) ++ aP r.1) ++ bH (dI r.2.1)))] rfl rfl rfl (gZ.call (w8 (zD _) (by simp only [List.length_append, List.length_cons, List.length_nil, eI, oO]; omega))) ?_; rintro _ _ ⟨WQ, rfl, rfl⟩; show J _ _ _ _ _ _ [(WQ, .row 5 (.int .u8) (((([(84 : Int), (73 : Int), (68 : Int), (69 : Int)] ++ [((r.1.size : Int) % 256)]) ++ aP r.1) ++ bH (dI r.2.1)) ++ bH (dI ((r.2.2.1.length : Nat) : Int))))] _; refine J.c (.assign rfl) ?_; refine J.nil (U.text ?_); refine J.c (.add rfl rfl (by decide)) (J.c (.move rfl) ?_); refine J.nil ?_; refine U.IE ?_; refine U.seq (U.text ?_); refine J.c (.lss) ?_; refine J.go (U.seq ?_); refine U.x6 rfl ?_; refine U.skip (U.seq (U.block (U.seq (U.text ?_)))); refine J.c (.ixA 2 (τ' := (.int .i64)) (dy := ((r.2.2.2.length : Nat) : Int)) (.r (.r .o))) (J.c (.assign rfl) ?_); refine J.go (U.text ?_); refine J.c (.move rfl) (J.c (.move rfl) (J.c ((.nN .u32 (X2 _))) ?_)); refine J.qT [(WQ, .row 5 (.int .u8) (((([(84 : Int), (73 : Int), (68 : Int), (69 : Int)] ++ [((r.1.size : Int) % 256)]) ++ aP r.1) ++ bH (dI r.2.1)) ++ bH (dI ((r.2.2.1.length : Nat) : Int))))] rfl rfl rfl (gZ.call (w8 (zD _) (by simp only [List.length_append, List.length_cons, List.length_nil, eI, oO]; omega))) ?_; rintro _ _ ⟨O6, rfl, rfl⟩; show J _ _ _ _ _ _ [(O6, .row 5 (.int .u8) ((((([(84 : Int), (73 : Int), (68 : Int), (69 : Int)] ++ [((r.1.size : Int) % 256)]) ++ aP r.1) ++ bH (dI r.2.1)) ++ bH (dI ((r.2.2.1.length : Nat) : Int))) ++ bH (dI ((r.2.2.2.length : Nat) : Int))))] _; refine J.c (.assign rfl) ?_; refine J.nil (U.text ?_); refine J.c (.add rfl rfl (by decide)) (J.c (.move rfl) ?_); refine J.nil ?_; refine U.IE ?_; refine U.seq (U.text ?_); refine J.c (.lss) ?_; refine J.go (U.seq ?_); refine U.BA rfl ?_; refine U.exit (U.seq (U.seq ?_)); refine U.aV [(1, .p jP r), (5, .raw O6)] ⟨rfl, rfl, trivial⟩ ?_; refine U.text ?_; refine J.c (.fa (.r (.r (.r .o)))) ?_; refine J.r (.ld o5) ?_; refine J.r (.len dZ) ?_; refine J.c (.move rfl) ?_; rw [show [(84 : Int), 73, 68, 69] ++ [((r.1.size : Int) % 256)] ++ aP r.1 ++ bH (dI r.2.1) ++ bH (dI (r.2.2.1.length : Nat)) ++ bH (dI (r.2.2.2.length : Nat)) = kT r ++ eY (r.2.2.2.take 0) from (List.append_nil (kT r)).symm]; refine J.go (U.block ?_); refine U.aV [(1, .p jP r), (5, .raw O6), (47, .v cW r.2.2.2), (48, I ((r.2.2.2.length : Nat) : Int)), (49, I ((0 : Nat) : Int))] ⟨rfl, rfl, rfl, rfl, rfl, trivial⟩ ?_; refine U.loop (I := fun kk ff ss => ∃ (i : Nat) (out : Value), kk = r.2.2.2.length - i /\ ff = [(1, .p jP r), (5, .raw out), (47, .v cW r.2.2.2), (48, I ((r.2.2.2.length : Nat) : Int)), (49, I ((i : Nat) : Int))] /\ ss = [(out, .row 5 (.int .u8) (kT r ++ eY (r.2.2.2.take i)))] /\ (i <= r.2.2.2.length)) ?_ _ _ _ ⟨0, O6, rfl, rfl, rfl, Nat.zero_le _⟩; rintro kk ff ss ⟨i, out, ED, rfl, rfl, hi⟩; refine U.seq (U.text ?_); refine J.c (.lss) ?_; refine J.go (U.seq ?_); refine U.b8 rfl (fun c12 => ?_) (fun c12 => ?_)
  . refine U.skip (U.seq (U.block (U.seq (U.text ?_)))); refine J.c (.ix (j := i) rfl rfl dZ (by omega)) ?_; refine J.r (.ld tI) ?_; refine J.cell (.alloc UY) ?_; intro ww7; refine J.lJ (cs' := [I ((r.2.2.2[i]).1), I ((r.2.2.2[i]).2)]) tI .v ?_; refine J.go ?_; refine U.wG (k := 9) (w := ww7) rfl m0 rfl ?_; refine VK.c (.move rfl) ?_; refine VK.co (.mS (k := 0) m0) ?_; refine VK.q rfl (.inr ⟨_, rfl⟩) (.tR (k := 0) m0 kO) ?_; refine VK.c ((.nN .u32 (X2 _))) ?_; refine VK.perm jT ?_; refine VK.SC [(out, .row 5 (.int .u8) (kT r ++ eY (r.2.2.2.take i)))] rfl rfl rfl (gZ.call (w8 (zD _) (by have := r5 (r.2.2.2.take i); have := sS r; have := List.length_take_le i r.2.2.2; simp only [List.length_append, oO] at *; omega))) m0 ?_; rintro _ _ ⟨ww8, rfl, rfl⟩; show VK _ _ _ _ _ _ _ _ _ [(ww8, .row 5 (.int .u8) ((kT r ++ eY (r.2.2.2.take i)) ++ bH (dI r.2.2.2[i].1))), (ww7, .var [I ((r.2.2.2[i]).1), I ((r.2.2.2[i]).2)])] _ _ _; refine VK.co (.mS (k := 1) m1) ?_; refine VK.q rfl (.inr ⟨_, rfl⟩) (.tR (k := 1) m1 kO) ?_; refine VK.c ((.nN .u32 (X2 _))) ?_; refine VK.SC [(ww8, .row 5 (.int .u8) ((kT r ++ eY (r.2.2.2.take i)) ++ bH (dI r.2.2.2[i].1)))] rfl rfl rfl (gZ.call (w8 (zD _) (by have := r5 (r.2.2.2.take i); have := sS r; have := List.length_take_le i r.2.2.2; simp only [List.length_append, oO] at *; omega))) m0 ?_; rintro _ _ ⟨VI, rfl, rfl⟩; show VK _ _ _ _ _ _ _ _ _ [(VI, .row 5 (.int .u8) (((kT r ++ eY (r.2.2.2.take i)) ++ bH (dI r.2.2.2[i].1)) ++ bH (dI r.2.2.2[i].2))), (ww7, .var [I ((r.2.2.2[i]).1), I ((r.2.2.2[i]).2)])] _ _ _; refine VK.c (.assign rfl) ?_; refine VK.nil ?_; refine U.text ?_; refine J.c (.add rfl rfl (by omega)) (J.c (.move rfl) ?_); refine J.perm jT ?_; refine J.forget ?_; refine J.nil ?_; refine ⟨_, [(1, .p jP r), (5, .raw VI), (47, .v cW r.2.2.2), (48, I ((r.2.2.2.length : Nat) : Int)), (49, I (((i + 1) : Nat) : Int))], ?_, ⟨rfl, rfl, rfl, rfl, rfl, trivial⟩, (i + 1), VI, rfl, rfl, (by first | (rw [MN (by omega)]; simp only [List.append_assoc]; done) | (rw [MO (by omega)]; simp only [List.append_assoc]; done)), (by omega)⟩; omega
  refine U.exit (U.seq (U.seq (U.text ?_))); refine J.c (.fa (.r (.r (.l .o)))) ?_; refine J.r (.ld j0) ?_; refine J.r (.len eU) ?_; refine J.c (.move rfl) ?_; rw [show kT r ++ eY (r.2.2.2.take i) = kT r ++ eY r.2.2.2 ++ gN (r.2.2.1.take 0) by rw [List.take_of_length_le (show r.2.2.2.length <= i by omega)]; exact (List.append_nil _).symm]; refine J.go (U.block ?_); refine U.aV [(5, .raw out), (64, .v eZ r.2.2.1), (65, I ((r.2.2.1.length : Nat) : Int)), (66, I ((0 : Nat) : Int))] ⟨rfl, rfl, rfl, rfl, trivial⟩ ?_; refine U.loop (I := fun kk ff ss => ∃ (i : Nat) (out : Value), kk = r.2.2.1.length - i /\ ff = [(5, .raw out), (64, .v eZ r.2.2.1), (65, I ((r.2.2.1.length : Nat) : Int)), (66, I ((i : Nat) : Int))] /\ ss = [(out, .row 5 (.int .u8) (kT r ++ eY r.2.2.2 ++ gN (r.2.2.1.take i)))] /\ (i <= r.2.2.1.length)) ?_ _ _ _ ⟨0, out, rfl, rfl, rfl, Nat.zero_le _⟩; rintro kk ff ss ⟨i, out, hk4, rfl, rfl, hi⟩; refine U.seq (U.text ?_); refine J.c (.lss) ?_; refine J.go (U.seq ?_); refine U.b8 rfl (fun c17 => ?_) (fun c17 => ?_)
  . have FB : i < r.2.2.1.length := by omega
    have hpz : single.add r.2.2.1[i] 0 = some (aS r.2.2.1[i]) := (oX (hv _ (List.getElem_mem FB))).1; refine U.skip (U.seq (U.block (U.seq (U.text ?_)))); refine J.c (.ix (j := i) rfl rfl eU (by omega)) ?_; refine J.r (.ld yU) ?_; refine J.c (.assign rfl) ?_; refine J.go (U.text ?_); refine J.c (.move rfl) (J.c (.move rfl) (J.c (.RJ (ab8 hpz)) ?_)); refine J.call rfl rfl (VF.call (aeD )) ?_; refine J.qT [(out, .row 5 (.int .u8) (kT r ++ eY r.2.2.2 ++ gN (r.2.2.1.take i)))] rfl rfl rfl (gZ.call (w8 (Int.natCast_nonneg _) (by have := A8 (r.2.2.1.take i); have := r5 r.2.2.2; have := sS r; have := List.length_take_le i r.2.2.1; simp only [List.length_append, oO] at *; omega))) ?_; rintro _ _ ⟨HA, rfl, rfl⟩; show J _ _ _ _ _ _ [(HA, .row 5 (.int .u8) ((kT r ++ eY r.2.2.2 ++ gN (r.2.2.1.take i)) ++ bH (((aS r.2.2.1[i]) : Nat) : Int)))] _; refine J.c (.assign rfl) ?_; refine J.nil (U.text ?_); refine J.c (.add rfl rfl (by omega)) (J.c (.move rfl) ?_); refine J.nil ?_; refine ⟨_, [(5, .raw HA), (64, .v eZ r.2.2.1), (65, I ((r.2.2.1.length : Nat) : Int)), (66, I (((i + 1) : Nat) : Int))], ?_, ⟨rfl, rfl, rfl, rfl, trivial⟩, (i + 1), HA, rfl, rfl, (by first | (rw [MN (by omega)]; simp only [List.append_assoc]; done) | (rw [MO (by omega)]; simp only [List.append_assoc]; done)), (by omega)⟩; omega
  refine U.exit (U.seq (U.text ?_)); refine J.c (.move rfl) (J.c (.assign rfl) (J.c (.assign rfl) (J.go ?_))); refine U.ret ?_; exact aW.two rfl (evC (.row m0)) b6 (eS (by rw [if_pos hr, List.take_of_length_le (show r.2.2.1.length <= i by omega)]; rfl)) (dM (by exact hr.symm))
end Go.Proofs
namespace Go.Proofs
open Go.Fs Ieee
set_option maxHeartbeats 4000000
def eL (l : List Int) : Nat := (uJ l).toNat
theorem X3 {l : List Int} (hb : jX l) (h4 : 4 <= l.length) : ((eL l : Nat) : Int) = uJ l := Int.toNat_of_nonneg (A7 hb h4).1
theorem wN {l : List Int} (hb : jX l) (h4 : 4 <= l.length) : IntKind.i64.wrap (uJ l) = ((eL l : Nat) : Int) := by
  have := A7 hb h4; rw [X3 hb h4, wrap64 (by omega) (by omega)]
def C0 : ByteArray := ⟨#[84, 73, 68, 69]⟩
def gV (s : List Int) : Nat := (s.getD 4 0).toNat
def jR (s : List Int) : Nat := eL (s.drop (5 + gV s + 4))
def dG (s : List Int) : Nat := eL (s.drop (5 + gV s + 8))
def bM (s : List Int) : List Int := s.drop (5 + gV s + 12)
def rO (d : List Int) (k : Nat) : List (Int × Int) := (List.range k).map fun i => (((eL (d.drop (8 * i)) : Nat) : Int), ((eL (d.drop (8 * i + 4)) : Nat) : Int))
def pZ (d : List Int) (k : Nat) : List Nat := (List.range k).map fun i => eL (d.drop (4 * i))
theorem Q0 (d : List Int) (k : Nat) : (rO d k).length = k := by simp [rO]
theorem Q1 (d : List Int) (k : Nat) : (pZ d k).length = k := by simp [pZ]
theorem aaO (d : List Int) (k : Nat) : rO d (k + 1) = rO d k ++ [(((eL (d.drop (8 * k)) : Nat) : Int), ((eL (d.drop (8 * k + 4)) : Nat) : Int))] := by
  unfold rO; rw [List.range_succ, List.map_append] <;> rfl
theorem aaP (d : List Int) (k : Nat) : pZ d (k + 1) = pZ d k ++ [eL (d.drop (4 * k))] := by
  unfold pZ; rw [List.range_succ, List.map_append] <;> rfl
def zE (s : List Int) : bS := (mH ((s.drop 5).take (gV s)), ((eL (s.drop (5 + gV s)) : Nat) : Int), pZ ((bM s).drop (8 * dG s)) (jR s), rO (bM s) (dG s))
def HK (s : List Int) (k : Nat) : bS := (mH ((s.drop 5).take (gV s)), ((eL (s.drop (5 + gV s)) : Nat) : Int), pZ ((bM s).drop (8 * dG s)) k, rO (bM s) (dG s))
theorem X4 {s : List Int} {k : Nat} (h : k = jR s) : HK s k = zE s := by rw [h] <;> rfl
def HL (l : List Nat) : Bool := l.any fun x => decide (x = 2147483648)
def hY (s : List Int) : Int :=
  if 4000000 < s.length then 27 else if s.length < 5 then 29 else if mH (s.take 4) ≠ C0 then 1 else if s.length < 5 + gV s + 12 then 29
  else if (bM s).length < 8 * dG s + 4 * jR s then 29 else if 8 * dG s + 4 * jR s < (bM s).length then 2
  else if HL (zE s).2.2.1 = true then 1 else bT (zE s)
def nG (s : List Int) : bS := if hY s = 0 then zE s else P8
theorem asI {s : List Int} (h : 4000000 < s.length) : hY s = 27 := if_pos h
theorem asJ {s : List Int} (h1 : ¬ 4000000 < s.length) (h : s.length < 5) : hY s = 29 := by rw [hY, if_neg h1, if_pos h]
theorem asK {s : List Int} (h1 : ¬ 4000000 < s.length) (h2 : ¬ s.length < 5) (h : mH (s.take 4) ≠ C0) : hY s = 1 := by rw [hY, if_neg h1, if_neg h2, if_pos h]
theorem amU {s : List Int} (h1 : ¬ 4000000 < s.length) (h2 : ¬ s.length < 5) (h3 : ¬ mH (s.take 4) ≠ C0) (h : s.length < 5 + gV s + 12) : hY s = 29 := by rw [hY, if_neg h1, if_neg h2, if_neg h3, if_pos h]
structure xF (s : List Int) : Prop where
  h1 : ¬ 4000000 < s.length
  h2 : ¬ s.length < 5
  h3 : ¬ mH (s.take 4) ≠ C0
  h4 : ¬ s.length < 5 + gV s + 12
theorem amV {s : List Int} (k : xF s) (h : (bM s).length < 8 * dG s + 4 * jR s) : hY s = 29 := by rw [hY, if_neg k.h1, if_neg k.h2, if_neg k.h3, if_neg k.h4, if_pos h]
theorem amW {s : List Int} (k : xF s) (h : 8 * dG s + 4 * jR s < (bM s).length) : hY s = 2 := by rw [hY, if_neg k.h1, if_neg k.h2, if_neg k.h3, if_neg k.h4, if_neg (by omega), if_pos h]
theorem asL {s : List Int} (k : xF s) (hl : (bM s).length = 8 * dG s + 4 * jR s) (h : HL (zE s).2.2.1 = true) : hY s = 1 := by rw [hY, if_neg k.h1, if_neg k.h2, if_neg k.h3, if_neg k.h4, if_neg (by omega), if_neg (by omega), if_pos h]
theorem amX {s : List Int} (k : xF s) (hl : (bM s).length = 8 * dG s + 4 * jR s) (h : ¬ HL (zE s).2.2.1 = true) : hY s = bT (zE s) := by rw [hY, if_neg k.h1, if_neg k.h2, if_neg k.h3, if_neg k.h4, if_neg (by omega), if_neg (by omega), if_neg h]
theorem aeH {s : List Int} : (bM s).length = s.length - (5 + gV s + 12) := List.length_drop
theorem aiD {s : List Int} (hb : jX s) (h : 4 < s.length) : ((gV s : Nat) : Int) = s[4] /\ gV s < 256 := by
  have h2 := lQ hb h; unfold gV; rw [getD_at h]; omega
theorem wSz {s : List Int} (hb : jX s) (h : 4 < s.length) : IntKind.i64.wrap s[4] = ((gV s : Nat) : Int) := by
  have h2 := lQ hb h; have h3 := (aiD hb h).1; rw [wrap64 (by omega) (by omega), h3]
theorem sT {s : List Int} (h : hY s ≠ 0) : nG s = P8 := if_neg h
theorem alR {d : List Int} {n i : Nat} (hi : i < n) (h : eL (d.drop (4 * i)) = 2147483648) : HL (pZ d n) = true := by
  unfold HL pZ; rw [List.any_map]; exact List.any_eq_true.2 ⟨i, List.mem_range.2 hi, by simpa using h⟩
theorem alS {d : List Int} {n : Nat} (h : ∀ i, i < n -> eL (d.drop (4 * i)) ≠ 2147483648) : ¬ HL (pZ d n) = true := by
  unfold HL pZ; rw [List.any_map]; intro h2; obtain ⟨i, hi, h3⟩ := List.any_eq_true.1 h2; exact h i (List.mem_range.1 hi) (by simpa using h3)
theorem wN2 {l l' : List Int} (he : l = l') (hb : jX l') (h4 : 4 <= l'.length) : IntKind.i64.wrap (uJ l) = ((eL l' : Nat) : Int) := by subst he; exact wN hb h4
theorem FW {a : Int} {r : List Int} (h : a ≠ 0) : dH (cL true a :: r) ≠ 0 := by
  show (if a = 0 then _ else a) ≠ 0; rw [if_neg h]; exact h
theorem MP {a b : Int} {r : List Int} (h : a ≠ 0) : dH (cL false b :: cL true a :: r) ≠ 0 := by
  show (if (0 : Int) = 0 then dH (cL true a :: r) else 0) ≠ 0; rw [if_pos rfl]; exact FW h
def E0 (s : List Int) : Int := dH [cL (decide ((4000000 : Int) < ((s.length : Nat) : Int))) (27 : Int), cL (decide (((s.length : Nat) : Int) < (5 : Int))) (29 : Int)]
theorem aeI {s : List Int} (h : E0 s ≠ 0) : hY s = E0 s := by
  by_cases h1 : 4000000 < s.length
  . rw [asI h1]; unfold E0; rw [decide_eq_true (show (4000000 : Int) < ((s.length : Nat) : Int) by omega)] <;> rfl
  by_cases h2 : s.length < 5
  . rw [asJ h1 h2]; unfold E0; rw [decide_eq_false (show ¬ (4000000 : Int) < ((s.length : Nat) : Int) by omega), decide_eq_true (show ((s.length : Nat) : Int) < 5 by omega)] <;> rfl
  exact absurd (by unfold E0; rw [decide_eq_false (show ¬ (4000000 : Int) < ((s.length : Nat) : Int) by omega), decide_eq_false (show ¬ ((s.length : Nat) : Int) < 5 by omega)]; rfl) h
theorem aiE {s : List Int} (h : ¬ E0 s ≠ 0) : ¬ 4000000 < s.length /\ ¬ s.length < 5 := by
  refine ⟨fun h1 => h (by unfold E0; rw [decide_eq_true (show (4000000 : Int) < ((s.length : Nat) : Int) by omega)]; exact FW (by decide)), fun h2 => h ?_⟩; unfold E0; rw [decide_eq_false (show ¬ (4000000 : Int) < ((s.length : Nat) : Int) by omega), decide_eq_true (show ((s.length : Nat) : Int) < 5 by omega)]; exact MP (by decide)
def B1 (a b : Int) : Int := dH [cL (decide (a < b)) (29 : Int), cL (decide (b < a)) (2 : Int)]
theorem aeJ {s : List Int} (k : xF s) (h : B1 ((bM s).length : Nat) (8 * ((dG s : Nat) : Int) + 4 * ((jR s : Nat) : Int)) ≠ 0) : hY s = B1 ((bM s).length : Nat) (8 * ((dG s : Nat) : Int) + 4 * ((jR s : Nat) : Int)) := by
  by_cases h1 : (bM s).length < 8 * dG s + 4 * jR s
  . rw [amV k h1]; unfold B1; rw [decide_eq_true (by omega)] <;> rfl
  by_cases h2 : 8 * dG s + 4 * jR s < (bM s).length
  . rw [amW k h2]; unfold B1; rw [decide_eq_false (by omega), decide_eq_true (by omega)] <;> rfl
  exact absurd (by unfold B1; rw [decide_eq_false (by omega), decide_eq_false (by omega)]; rfl) h
theorem aiF {a b : Int} (h : ¬ B1 a b ≠ 0) : a = b := by
  by_cases h1 : a < b
  . exact absurd (by unfold B1; rw [decide_eq_true h1]; exact FW (by decide)) h
  by_cases h2 : b < a
  . exact absurd (by unfold B1; rw [decide_eq_false h1, decide_eq_true h2]; exact MP (by decide)) h
  omega
theorem aiG {s : List Int} : (s.drop 5).drop (gV s + 12) = bM s := by
  rw [List.drop_drop, <- Nat.add_assoc] <;> rfl
theorem aiH {s : List Int} (hb : jX s) (h : 5 + gV s + 12 <= s.length) : dG s < 4294967296 /\ jR s < 4294967296 := by
  have h1 := A7 (dU hb (5 + gV s + 8)) (by rw [List.length_drop]; omega); have h2 := A7 (dU hb (5 + gV s + 4)) (by rw [List.length_drop]; omega); unfold dG jR eL; omega
theorem MQ {s : List Int} (hb : jX s) (hl : s.length < 1000000) : VF Tryz.prog OA 10 [.v pY s] (.nD [.v jP (nG s), I (hY s)]) := by
  refine VF.enter Tryz.func10 rfl (fun _ _ => rfl) rfl ?_; show U _ _ _ _ _ [(0, .v pY s)] [] _; refine U.seq (U.text ?_); refine J.cell (.alloc uD) ?_; intro eT; refine J.c (.assign rfl) ?_; refine J.go (U.seq (U.seq (U.text ?_))); refine J.c (.move rfl) ?_; refine J.r (.len eB) ?_; refine J.c (.gtr) ?_; refine J.call rfl rfl (VF.call (gR )) ?_; refine J.c (.move rfl) ?_; refine J.r (.len eB) ?_; refine J.c (.lss) ?_; refine J.call rfl rfl (VF.call (gR )) ?_; refine J.new (.lit [cL (decide ((4000000 : Int) < ((s.length : Nat) : Int))) (27 : Int), cL (decide (((s.length : Nat) : Int) < (5 : Int))) (29 : Int)] xB) ?_; refine J.call rfl rfl (VF.call (oN (by first | assumption | omega | simp))) ?_; rw [show dH [cL (decide ((4000000 : Int) < ((s.length : Nat) : Int))) (27 : Int), cL (decide (((s.length : Nat) : Int) < (5 : Int))) (29 : Int)] = E0 s from rfl]; refine J.c (.assign rfl) ?_; refine J.go (U.seq (U.text ?_)); refine J.c (.move rfl) (J.c (.neq) (J.go ?_)); refine U.b8 rfl (fun c2 => ?_) (fun c2 => ?_)
  . have CF := aeI c2; refine U.seq (U.text ?_); refine J.c (.build (ByteArray.empty, 0, [], []) uE) (J.c (.move rfl) ?_); refine J.lJ (cs' := [St ByteArray.empty, I 0, .v eZ [], .v cW []]) dT .v ?_; refine J.c (.assign rfl) (J.go ?_); refine U.ret ?_; exact aW.two rfl (.cell (x := (ByteArray.empty, 0, [], [])) rfl m0 dT .refl) b6 (eS (by exact (sT (by rw [CF]; exact c2)).symm)) (dM (by exact CF.symm))
  obtain ⟨k1, k2⟩ := aiE c2; refine U.skip (U.seq (U.seq (U.text ?_))); refine J.c (.move rfl) ?_; refine J.r (.GH rfl rfl eB (by omega)) ?_; refine J.bts (e1 := 5) (acc := mH (s.take ((4 : Int)).toNat)) (by rw [DZ (zC hb _)]; rfl) (by kernel_rfl) (by kernel_rfl) (by kernel_rfl) ?_; refine J.c (.ab4) (J.go ?_); refine U.b8 rfl (fun c4 => ?_) (fun c4 => ?_)
  . have N6 : hY s = 1 := asK k1 k2 c4; refine U.seq (U.text ?_); refine J.c (.build (ByteArray.empty, 0, [], []) uE) ?_; refine J.lJ (cs' := [St ByteArray.empty, I 0, .v eZ [], .v cW []]) dT .v ?_; refine J.c (.assign rfl) (J.go ?_); refine U.ret ?_; exact aW.two rfl (.cell (x := (ByteArray.empty, 0, [], [])) rfl m0 dT .refl) b6 (eS (by exact (sT (by rw [N6]; decide)).symm)) (dM (by exact N6.symm))
  refine U.skip (U.seq (U.text ?_)); refine J.c (.move rfl) (J.c (.ix (j := 4) rfl rfl eB (by omega)) ?_); refine J.r (.ld vt5) ?_; refine J.c ((.nN .i64 (wSz hb (by omega)))) (J.c (.assign rfl) ?_); refine J.go (U.seq (U.text ?_)); have hz := (aiD hb (show 4 < s.length by omega)).2; have hl5 : (s.drop 5).length = s.length - 5 := List.length_drop; have hl6 : (s.drop (Int.toNat 5)).length = s.length - 5 := List.length_drop; refine J.c (.move rfl) ?_; refine J.r (.xL rfl rfl eB (by omega)) ?_; refine J.c (.assign rfl) ?_; refine J.go (U.seq (U.seq (U.text ?_))); refine J.c (.move rfl) ?_; refine J.r (.len eB) ?_; refine J.c (.move rfl) (J.c (.add rfl rfl (by omega)) (J.c (.lss) (J.go ?_))); refine U.b8 rfl (fun c8 => ?_) (fun c8 => ?_)
  . have hd3 : hY s = 29 := amU k1 k2 c4 (by omega); refine U.seq ?_; refine U.aV [(0, .v pY (s.drop 5)), (2, .raw eT), (5, I ((gV s : Nat) : Int))] ⟨rfl, rfl, rfl, trivial⟩ ?_; refine U.text ?_; refine J.c (.build (ByteArray.empty, 0, [], []) uE) ?_; refine J.lJ (cs' := [St ByteArray.empty, I 0, .v eZ [], .v cW []]) dT .v ?_; refine J.c (.assign rfl) (J.go ?_); refine U.ret ?_; exact aW.two rfl (.cell (x := (ByteArray.empty, 0, [], [])) rfl m0 dT .refl) b6 (eS (by exact (sT (by rw [hd3]; decide)).symm)) (dM (by exact hd3.symm))
  have hlen : 5 + gV s + 12 <= s.length := by omega
  have kd : xF s := ⟨k1, k2, c4, by omega⟩; obtain ⟨hG, hL⟩ := aiH hb hlen; have hb5 := dU hb 5; have wX := aeH (s := s); have wP : jX (bM s) := dU hb _; refine U.skip (U.seq ?_); refine U.aV [(0, .v pY (s.drop 5)), (2, .raw eT), (5, I ((gV s : Nat) : Int))] ⟨rfl, rfl, rfl, trivial⟩ ?_; refine U.late [(eT, .var [St ByteArray.empty, I (0 : Int), .v eZ [], .v cW []])] ⟨[], rfl⟩ ?_; refine kH.c (.move rfl) ?_; refine kH.c (.move rfl) ?_; refine kH.sl rfl (.GH rfl rfl eB (by omega)) ?_; refine kH.bts (e1 := 5) (acc := mH ((s.drop 5).take (((gV s : Nat) : Int)).toNat)) (by rw [DZ (zC (dU hb 5) _)]; rfl) (by kernel_rfl) (by kernel_rfl) (by kernel_rfl) ?_; refine kH.c (.move rfl) ?_; refine kH.c (.move rfl) ?_; refine kH.nws [] ?_; refine kH.sl rfl (.xL rfl rfl eB (by omega)) ?_; refine kH.x8 rfl rfl (VF.call (w9 (dU hb5 _) (by rw [List.length_drop]; omega))) ?_; refine kH.c ((.nN .i64 (wN2 (l := (s.drop 5).drop (gV s)) (l' := s.drop (5 + gV s)) (by rw [List.drop_drop]) (dU hb _) (by rw [List.length_drop]; omega)))) ?_; refine kH.c (.akX (cs := [St (mH ((s.drop 5).take (((gV s : Nat) : Int)).toNat)), I ((eL (s.drop (5 + gV s)) : Nat) : Int), tH, tH]) uE rfl) ?_; refine kH.aoR (.alloc uD) ?_; intro pA; refine kH.AH (bO.pS (k := 0) dT (.ag9 rfl rfl) (Nat.le_of_ble_eq_true rfl) (.inr ⟨rfl, rfl⟩) rfl rfl) (RB.store rfl (.inl rfl)) ⟨[], rfl⟩ ?_; rintro _ _ ⟨rfl, rfl⟩; refine ⟨⟨[(pA, .var [St (mH ((s.drop 5).take (((gV s : Nat) : Int)).toNat)), I ((eL (s.drop (5 + gV s)) : Nat) : Int), tH, tH])], rfl⟩, ?_⟩; refine kH.go ?_; refine U.seq (U.drawn ?_); refine VD.c (.move rfl) (VD.c (.move rfl) (VD.c (.add rfl rfl (by omega)) ?_)); refine VD.r [] (.xL rfl rfl eB (by omega)) (.inl rfl) ?_; refine VD.call rfl rfl (VF.call (w9 (dU hb5 _) (by rw [List.length_drop]; omega))) ?_; refine VD.c ((.nN .i64 (show IntKind.i64.wrap (uJ ((s.drop 5).drop (gV s + 4))) = ((jR s : Nat) : Int) from wN2 (l := (s.drop 5).drop (gV s + 4)) (l' := s.drop (5 + gV s + 4)) (by rw [List.drop_drop, <- Nat.add_assoc]) (dU hb _) (by rw [List.length_drop]; omega)))) (VD.nw [] (VD.c (.move rfl) (VD.c (.move rfl) ?_))); refine VD.c (.add rfl rfl (by omega)) ?_; refine VD.r [] (.xL rfl rfl eB (by omega)) (.inl rfl) ?_; refine VD.call rfl rfl (VF.call (w9 (dU hb5 _) (by rw [List.length_drop]; omega))) ?_; refine VD.c ((.nN .i64 (show IntKind.i64.wrap (uJ ((s.drop 5).drop (gV s + 8))) = ((dG s : Nat) : Int) from wN2 (l := (s.drop 5).drop (gV s + 8)) (l' := s.drop (5 + gV s + 8)) (by rw [List.drop_drop, <- Nat.add_assoc]) (dU hb _) (by rw [List.length_drop]; omega)))) (VD.c (.assign rfl) (VD.nw [] (VD.c (.assign rfl) ?_))); refine VD.go (U.seq (U.text ?_)); refine J.c (.move rfl) (J.c (.move rfl) (J.c (.add rfl rfl (by omega)) ?_)); refine J.r (.xL rfl rfl eB (by omega)) ?_; rw [show (s.drop 5).drop (((gV s : Nat) : Int) + (12 : Int)).toNat = bM s from aiG]; refine J.c (.assign rfl) ?_; refine J.go (U.seq (U.seq (U.text ?_))); refine J.c (.move rfl) ?_; refine J.r (.len eB) ?_; refine J.c (.move rfl) (J.c (.mul rfl rfl (by omega)) (J.c (.move rfl) (J.c (.mul rfl rfl (by omega)) ?_))); refine J.c (.add rfl rfl (by omega)) (J.c (.lss) ?_); refine J.call rfl rfl (VF.call (gR )) ?_; refine J.c (.move rfl) ?_; refine J.r (.len eB) ?_; refine J.c (.move rfl) (J.c (.mul rfl rfl (by omega)) (J.c (.move rfl) (J.c (.mul rfl rfl (by omega)) ?_))); refine J.c (.add rfl rfl (by omega)) (J.c (.gtr) ?_); refine J.call rfl rfl (VF.call (gR )) ?_; refine J.new (.lit [cL (decide ((((bM s).length : Nat) : Int) < (((8 : Int) * ((dG s : Nat) : Int)) + ((4 : Int) * ((jR s : Nat) : Int))))) (29 : Int), cL (decide ((((8 : Int) * ((dG s : Nat) : Int)) + ((4 : Int) * ((jR s : Nat) : Int))) < (((bM s).length : Nat) : Int))) (2 : Int)] xB) ?_; refine J.call rfl rfl (VF.call (oN (by first | assumption | omega | simp))) ?_; rw [show dH [cL (decide ((((bM s).length : Nat) : Int) < (((8 : Int) * ((dG s : Nat) : Int)) + ((4 : Int) * ((jR s : Nat) : Int))))) (29 : Int), cL (decide ((((8 : Int) * ((dG s : Nat) : Int)) + ((4 : Int) * ((jR s : Nat) : Int))) < (((bM s).length : Nat) : Int))) (2 : Int)] = B1 ((bM s).length : Nat) (8 * ((dG s : Nat) : Int) + 4 * ((jR s : Nat) : Int)) from rfl]; refine J.c (.assign rfl) ?_; refine J.go (U.seq ?_); refine U.aV [(0, .v pY (bM s)), (2, .raw eT), (6, .raw pA), (8, I ((dG s : Nat) : Int)), (9, I (B1 ((bM s).length : Nat) (8 * ((dG s : Nat) : Int) + 4 * ((jR s : Nat) : Int))))] ⟨rfl, rfl, rfl, rfl, rfl, trivial⟩ ?_; refine U.text ?_; refine J.c (.move rfl) (J.c (.neq) (J.go ?_)); refine U.b8 rfl (fun c14 => ?_) (fun c14 => ?_)
  . have hd4 := aeJ kd c14; refine U.seq (U.text ?_); refine J.c (.build (ByteArray.empty, 0, [], []) uE) (J.c (.move rfl) ?_); refine J.perm jT ?_; refine J.lJ (cs' := [St ByteArray.empty, I 0, .v eZ [], .v cW []]) dT .v ?_; refine J.c (.assign rfl) (J.go ?_); refine U.ret ?_; exact aW.two rfl (.cell (x := (ByteArray.empty, 0, [], [])) rfl m0 dT .refl) b6 (eS (by exact (sT (by rw [hd4]; exact c14)).symm)) (dM (by exact hd4.symm))
  have HS : (bM s).length = 8 * dG s + 4 * jR s := by have := aiF c14; omega
  refine U.skip (U.seq (U.block ?_)); refine U.cell0 53 kP ?_; refine U.aV [(0, .v pY ((bM s).drop (8 * 0))), (2, .raw eT), (6, .raw pA), (8, I ((dG s - 0 : Nat) : Int))] ⟨rfl, rfl, rfl, rfl, trivial⟩ ?_; refine U.loop (I := fun kk ff ss => ∃ (j : Nat) (wg : Value), kk = dG s - j /\ ff = [(0, .v pY ((bM s).drop (8 * j))), (2, .raw eT), (6, .raw pA), (8, I ((dG s - j : Nat) : Int))] /\ ss = [(wg, .row 53 kP (rO (bM s) j)), (pA, .var [St (mH ((s.drop 5).take (((gV s : Nat) : Int)).toNat)), I ((eL (s.drop (5 + gV s)) : Nat) : Int), tH, .raw wg]), (eT, .var [St ByteArray.empty, I (0 : Int), .v eZ [], .v cW []])] /\ (j <= dG s)) ?_ _ _ _ ⟨0, (.slice none 0 0), rfl, rfl, rfl, (by omega)⟩; rintro kk ff ss ⟨j, wg, oL, rfl, rfl, hj⟩; refine U.seq (U.seq (U.text ?_)); refine J.c (.move rfl) (J.c (.gtr) (J.go ?_)); refine U.b8 rfl (fun vS => ?_) (fun vS => ?_)
  . have hj1 : j < dG s := by omega
    have hlj : ((bM s).drop (8 * j)).length = (bM s).length - 8 * j := List.length_drop; have y3 : jX ((bM s).drop (8 * j)) := dU wP _; refine U.skip (U.seq (U.block (U.seq (U.drawn ?_)))); refine VD.co (.mS (k := 3) m1) ?_; refine VD.r [(wg, .row 53 kP (rO (bM s) j)), (pA, .var [St (mH ((s.drop 5).take (((gV s : Nat) : Int)).toNat)), I ((eL (s.drop (5 + gV s)) : Nat) : Int), tH, .raw wg]), (eT, .var [St ByteArray.empty, I (0 : Int), .v eZ [], .v cW []])] (.tR (k := 3) m1 o5) (.inr ⟨rfl, rfl⟩) ?_; refine VD.c (.move rfl) ?_; refine VD.call rfl rfl (VF.call (w9 y3 (by omega))) ?_; refine VD.c ((.nN .i64 (wN y3 (by omega)))) (VD.c (.move rfl) (VD.nw [] ?_)); refine VD.r [] (.xL rfl rfl eB (by omega)) (.inl rfl) ?_; refine VD.call rfl rfl (VF.call (w9 (dU y3 _) (by rw [List.length_drop]; omega))) ?_; refine VD.c ((.nN .i64 (wN2 (l := ((bM s).drop (8 * j)).drop 4) (l' := (bM s).drop (8 * j + 4)) (by rw [List.drop_drop]) (dU wP _) (by rw [List.length_drop]; omega)))) (VD.c (.build (((eL ((bM s).drop (8 * j)) : Nat) : Int), ((eL ((bM s).drop (8 * j + 4)) : Nat) : Int)) amL) ?_); refine VD.new (.lit [(((eL ((bM s).drop (8 * j)) : Nat) : Int), ((eL ((bM s).drop (8 * j + 4)) : Nat) : Int))] dZ) ?_; refine VD.mk (bO.app dZ dZ rfl rfl (by have := Q0 (bM s) j; simp only [List.length_singleton]; omega)) ?_; rintro _ _ tl3 ⟨DC, rfl, rfl⟩; refine VD.co (.mS (k := 3) m1) ?_; refine VD.perm jT ?_; refine VD.one m1 fun ho4 => ?_; refine VD.AH (bO.pS (k := 3) o5 (.raw rfl (vQ ho4) ho4) (Nat.le_of_ble_eq_true rfl) (.inl rfl) rfl rfl) ?_; rintro _ _ tl5 ⟨rfl, rfl⟩; refine VD.go (U.text ?_); refine J.c (.move rfl) ?_; refine J.r (.xL rfl rfl eB (by omega)) ?_; refine J.c (.assign rfl) ?_; refine J.nil (U.text ?_); refine J.c (.move rfl) (J.c (.sub rfl rfl (by omega)) (J.c (.assign rfl) ?_)); refine J.perm lY ?_; refine J.perm jT ?_; refine J.perm lY ?_; refine J.nil ?_; refine ⟨_, [(0, .v pY ((bM s).drop (8 * (j + 1)))), (2, .raw eT), (6, .raw pA), (8, I ((dG s - (j + 1) : Nat) : Int))], ?_, ⟨xA rfl (by rw [List.drop_drop] <;> rfl), rfl, rfl, slI rfl (by omega), trivial⟩, (j + 1), DC, rfl, rfl, (by rw [aaO] <;> rfl), (by omega)⟩; omega
  obtain rfl : j = dG s := by omega
  have hlD : ((bM s).drop (8 * dG s)).length = (bM s).length - 8 * dG s := List.length_drop; have hbD : jX ((bM s).drop (8 * dG s)) := dU wP _; refine U.exit (U.seq (U.block ?_)); refine U.cell0 68 (.bJ .f32) ?_; refine U.aV [(0, .v pY (((bM s).drop (8 * dG s)).drop (4 * 0))), (2, .raw eT), (6, .raw pA)] ⟨rfl, rfl, rfl, trivial⟩ ?_; refine U.loop (I := fun kk ff ss => ∃ (k : Nat) (wl : Value), kk = jR s - k /\ ff = [(0, .v pY (((bM s).drop (8 * dG s)).drop (4 * k))), (2, .raw eT), (6, .raw pA)] /\ ss = [(wl, .row 68 (.bJ .f32) (pZ ((bM s).drop (8 * dG s)) k)), (wg, .row 53 kP (rO (bM s) (dG s))), (pA, .var [St (mH ((s.drop 5).take (((gV s : Nat) : Int)).toNat)), I ((eL (s.drop (5 + gV s)) : Nat) : Int), .raw wl, .raw wg]), (eT, .var [St ByteArray.empty, I (0 : Int), .v eZ [], .v cW []])] /\ (k <= jR s) /\ (∀ i, i < k -> eL (((bM s).drop (8 * dG s)).drop (4 * i)) ≠ 2147483648)) ?_ _ _ _ ⟨0, (.slice none 0 0), rfl, rfl, rfl, (by omega), (by exact fun i h => absurd h (by omega))⟩; rintro kk ff ss ⟨k, wl, ED, rfl, rfl, hk, hn⟩; refine U.seq (U.seq (U.text ?_)); refine J.c (.move rfl) ?_; refine J.r (.len eB) ?_; refine J.c (.gtr) (J.go ?_); refine U.b8 rfl (fun c20 => ?_) (fun c20 => ?_)
  . have q7 : (((bM s).drop (8 * dG s)).drop (4 * k)).length = ((bM s).drop (8 * dG s)).length - 4 * k := List.length_drop
    have hk1 : k < jR s := by omega
    have jC : jX (((bM s).drop (8 * dG s)).drop (4 * k)) := dU hbD _; refine U.skip (U.seq (U.block (U.seq (U.text ?_)))); refine J.c (.move rfl) ?_; refine J.call rfl rfl (VF.call (w9 jC (by omega))) ?_; refine J.c (.assign rfl) ?_; refine J.go (U.seq (U.seq (U.text ?_))); refine J.c (.move rfl) (J.c (.eql) (J.go ?_)); refine U.b8 rfl (fun NZ => ?_) (fun NZ => ?_)
    . have hd5 : hY s = 1 := asL kd HS (alR hk1 (by unfold eL; rw [NZ]; rfl)); refine U.seq (U.text ?_); refine J.c (.build (ByteArray.empty, 0, [], []) uE) ?_; refine J.perm jD ?_; refine J.lJ (cs' := [St ByteArray.empty, I 0, .v eZ [], .v cW []]) dT .v ?_; refine J.c (.assign rfl) (J.go ?_); refine U.ret ?_; exact aW.two rfl (.cell (x := (ByteArray.empty, 0, [], [])) rfl m0 dT .refl) b6 (eS (by exact (sT (by rw [hd5]; decide)).symm)) (dM (by exact hd5.symm))
    have hnk : eL (((bM s).drop (8 * dG s)).drop (4 * k)) ≠ 2147483648 := fun e => NZ (by have := X3 jC (by omega); rw [e] at this; exact this.symm); refine U.skip (U.drawn ?_); refine VD.co (.mS (k := 2) m2) ?_; refine VD.r [(wl, .row 68 (.bJ .f32) (pZ ((bM s).drop (8 * dG s)) k)), (wg, .row 53 kP (rO (bM s) (dG s))), (pA, .var [St (mH ((s.drop 5).take (((gV s : Nat) : Int)).toNat)), I ((eL (s.drop (5 + gV s)) : Nat) : Int), .raw wl, .raw wg]), (eT, .var [St ByteArray.empty, I (0 : Int), .v eZ [], .v cW []])] (.tR (k := 2) m2 j0) (.inr ⟨rfl, rfl⟩) ?_; refine VD.c (.move rfl) ?_; refine VD.call rfl rfl (VF.call (aeE )) ?_; refine VD.new (.lit [(uJ (((bM s).drop (8 * dG s)).drop (4 * k))).toNat] eU) ?_; refine VD.mk (bO.app eU eU rfl rfl (by have := Q1 ((bM s).drop (8 * dG s)) k; simp only [List.length_singleton]; omega)) ?_; rintro _ _ tl6 ⟨O6, rfl, rfl⟩; refine VD.nw [127, 126] ?_; refine VD.co (.mS (k := 2) m2) ?_; refine VD.perm lY ?_; refine VD.one m1 fun ho7 => ?_; refine VD.AH (bO.pS (k := 2) j0 (.raw rfl (vQ ho7) ho7) (Nat.le_of_ble_eq_true rfl) (.inl rfl) rfl rfl) ?_; rintro _ _ tl8 ⟨rfl, rfl⟩; refine VD.nil ?_; refine U.text ?_; refine J.c (.move rfl) ?_; refine J.r (.xL rfl rfl eB (by omega)) ?_; refine J.c (.assign rfl) ?_; refine J.perm jD ?_; refine J.perm jT ?_; refine J.perm jD ?_; refine J.perm jD ?_; refine J.nil ?_; refine ⟨_, [(0, .v pY (((bM s).drop (8 * dG s)).drop (4 * (k + 1)))), (2, .raw eT), (6, .raw pA)], ?_, ⟨xA rfl (by rw [List.drop_drop] <;> rfl), rfl, rfl, trivial⟩, (k + 1), O6, rfl, rfl, (by rw [aaP] <;> rfl), (by omega), (by exact fun i h => if e : i = k then (by subst e; exact hnk) else hn i (by omega))⟩; omega
  have q7 : (((bM s).drop (8 * dG s)).drop (4 * k)).length = ((bM s).drop (8 * dG s)).length - 4 * k := List.length_drop
  have ED : k = jR s := by omega
  have hng := alS (n := jR s) fun i hi => hn i (by omega)
  have hd6 : hY s = bT (HK s k) := by rw [X4 ED]; exact amX kd HS hng
  refine U.exit (U.seq (U.seq ?_)); refine U.perm lY ?_; refine U.perm lY ?_; refine U.perm lY ?_; refine U.L8 [(wl, .row 68 (.bJ .f32) (pZ ((bM s).drop (8 * dG s)) k)), (wg, .row 53 kP (rO (bM s) (dG s))), (pA, .var [St (mH ((s.drop 5).take (((gV s : Nat) : Int)).toNat)), I ((eL (s.drop (5 + gV s)) : Nat) : Int), .raw wl, .raw wg])] [(6, .p jP (HK s k))] rfl (.cons rfl (.var m2 (.cons .same (.cons .same (.cons (.row m0) (.cons (.row m1) .nil))))) .nil) ?_; refine U.text ?_; refine J.r (.ld dT) ?_; refine J.call rfl rfl (VF.call (DB (by show (pZ _ _).length < 1000000; rw [Q1]; omega) (by show (rO _ _).length < 1000000; rw [Q0]; omega))) ?_; refine J.c (.assign rfl) ?_; refine J.go (U.seq (U.text ?_)); refine J.c (.move rfl) (J.c (.neq) (J.go ?_)); refine U.b8 rfl (fun c27 => ?_) (fun c27 => ?_)
  . refine U.seq (U.text ?_); refine J.c (.build (ByteArray.empty, 0, [], []) uE) (J.c (.move rfl) ?_); refine J.lJ (cs' := [St ByteArray.empty, I 0, .v eZ [], .v cW []]) dT .v ?_; refine J.c (.assign rfl) (J.go ?_); refine U.ret ?_; exact aW.two rfl (.cell (x := (ByteArray.empty, 0, [], [])) rfl m0 dT .refl) b6 (eS (by exact (sT (by rw [hd6]; exact c27)).symm)) (dM (by exact hd6.symm))
  refine U.skip (U.seq (U.text ?_)); refine J.r (.ld dT) ?_; refine J.lJ (cs' := [St ((HK s k).1), I ((HK s k).2.1), .v eZ ((HK s k).2.2.1), .v cW ((HK s k).2.2.2)]) dT .v ?_; refine J.c (.assign rfl) (J.go ?_); refine U.ret ?_; exact aW.two rfl (.cell (x := HK s k) rfl m0 dT .refl) b6 (eS (by rw [X4 ED]; exact (if_pos (by rw [hd6]; exact Classical.not_not.1 c27)).symm)) (dM (by rw [hd6]; exact (Classical.not_not.1 c27).symm))
end Go.Proofs
namespace Go.Proofs
open Go.Fs Ieee
set_option maxHeartbeats 2000000
theorem aeK : u32 2147483648 = some 0 := by decide +kernel
theorem MR {s : Bool} {k : Nat} (h : k <= 2139095040) : single.word s k < 4294967296 := by
  unfold Format.word; rw [M6]; split <;> omega
theorem X5 {s : Bool} {m : Nat} {p : Int} : single.nearest s m p < 4294967296 := by
  unfold Format.nearest; split
  . exact MR (Nat.zero_le _)
  exact MR (Nat.le_trans (Nat.min_le_right _ _) (Nat.le_of_eq HE))
theorem aeL (d : Datum) : single.write d < 4294967296 := by
  cases d with
  | number s m p => exact X5
  | infinity s => exact MR (Nat.le_of_eq HE)
  | nan s t =>
    show single.word s (single.infRung + t % single.binade) < _; unfold Format.word; rw [M6, HE, WE]; have := Nat.mod_lt t (show 0 < 8388608 by decide); split <;> omega
theorem aiI {x : Nat} : aS x < 4294967296 := by
  unfold aS Format.add
  cases (single.read x).sum (single.read 0) with
  | none => decide
  | some d => exact aeL d
theorem alT : single.read 0 = .number false 0 (-149) := by decide
theorem X6 {x : Nat} (h : u32 x = some 0) : aS x = 0 := by
  obtain ⟨s, m, p, h1, h2, h3⟩ := Format.dW h
  have hm : m = 0 := by
    have h4 : m * 2 ^ (p - single.leastPlace).toNat = 0 := by
      have := congrArg Int.natAbs h3; rw [mV] at this; exact this.symm
    rcases Nat.mul_eq_zero.1 h4 with h | h
    . exact h
    exact absurd h (Nat.ne_of_gt (Nat.two_pow_pos _))
  subst hm; unfold aS Format.add; rw [h1, alT]; show (Option.map single.write (some (Datum.number _ _ _))).getD 0 = 0
  have e : signed s 0 (p - min p (-149)).toNat + signed false 0 ((-149) - min p (-149)).toNat = 0 := by
    cases s <;> simp [signed]
  simp only [e, if_true, Bool.and_false, Option.map_some, Option.getD_some]; rfl
theorem aiJ {x : Nat} (hx : fD x = 0) : aS x ≠ 2147483648 := fun e => by
  have h1 := (oX hx).2.2; rw [e, aeK] at h1; rw [X6 h1.symm] at e; cases e
theorem aaQ {v : Nat} (h : v < 4294967296) (r : List Int) : eL (bH ((v : Nat) : Int) ++ r) = v := by
  unfold eL; rw [MM (by omega)] <;> rfl
theorem wA {n : Int} (h : 0 <= n /\ n < 4294967296) (r : List Int) : ((eL (bH (dI n) ++ r) : Nat) : Int) = n := by
  have e : dI n = n := Int.emod_eq_of_lt h.1 h.2; unfold eL; rw [e, MM h]; omega
theorem aaR (d : List Int) (n : Nat) : pZ d (n + 1) = eL d :: pZ (d.drop 4) n := by
  unfold pZ; rw [List.range_succ_eq_map, List.map_cons, List.map_map]; congr 1; refine List.map_congr_left fun i _ => ?_; show eL (d.drop (4 * (i + 1))) = eL ((d.drop 4).drop (4 * i)); rw [List.drop_drop, show 4 + 4 * i = 4 * (i + 1) by omega]
theorem MS : ∀ (l : List Nat) (rest : List Int), pZ (gN l ++ rest) l.length = l.map aS
  | [], _ => rfl
  | x :: l, rest => by
    have e : gN (x :: l) ++ rest = bH ((aS x : Nat) : Int) ++ (gN l ++ rest) := by
      unfold gN; rw [List.flatMap_cons, List.append_assoc]
    rw [e, List.length_cons, aaR, aaQ aiI, show (bH ((aS x : Nat) : Int) ++ (gN l ++ rest)).drop 4 = gN l ++ rest from rfl, MS l rest, List.map_cons]
theorem aaS (d : List Int) (n : Nat) : rO d (n + 1) = (((eL d : Nat) : Int), ((eL (d.drop 4) : Nat) : Int)) :: rO (d.drop 8) n := by
  unfold rO; rw [List.range_succ_eq_map, List.map_cons, List.map_map]; congr 1; refine List.map_congr_left fun i _ => ?_; show (((eL (d.drop (8 * (i + 1))) : Nat) : Int), ((eL (d.drop (8 * (i + 1) + 4)) : Nat) : Int)) = (((eL ((d.drop 8).drop (8 * i)) : Nat) : Int), ((eL ((d.drop 8).drop (8 * i + 4)) : Nat) : Int)); rw [List.drop_drop, List.drop_drop, show 8 + 8 * i = 8 * (i + 1) by omega, show 8 + (8 * i + 4) = 8 * (i + 1) + 4 by omega]
theorem MT : ∀ (l : List (Int × Int)) (rest : List Int), (∀ s ∈ l, (0 <= s.1 /\ s.1 < 4294967296) /\ 0 <= s.2 /\ s.2 < 4294967296) -> rO (eY l ++ rest) l.length = l
  | [], _, _ => rfl
  | s :: l, rest, h => by
    have hs := h s List.mem_cons_self
    have e : eY (s :: l) ++ rest = bH (dI s.1) ++ (bH (dI s.2) ++ (eY l ++ rest)) := by
      unfold eY; rw [List.flatMap_cons, List.append_assoc, List.append_assoc]
    rw [e, List.length_cons, aaS, wA hs.1, show (bH (dI s.1) ++ (bH (dI s.2) ++ (eY l ++ rest))).drop 4 = bH (dI s.2) ++ (eY l ++ rest) from rfl, wA hs.2, show (bH (dI s.1) ++ (bH (dI s.2) ++ (eY l ++ rest))).drop 8 = eY l ++ rest from rfl, MT l rest fun x hx => h x (List.mem_cons_of_mem _ hx)]
section
variable {r : bS}
theorem aiK (h : r.1.size <= 24) (e : List Int) : gV (rU r ++ e) = r.1.size /\ mH ((rU r ++ e).take 4) = C0 /\ (rU r ++ e).drop (5 + r.1.size) = e := by
  refine ⟨?_, ?_, ?_⟩
  . show (((r.1.size : Int) % 256)).toNat = _; omega
  . show mH [84, 73, 68, 69] = C0; decide +kernel
  exact List.drop_left' (BZ r)
theorem abU (d : List Int) : kT r ++ d = rU r ++ (bH (dI r.2.1) ++ (bH (dI (r.2.2.1.length : Nat)) ++ (bH (dI (r.2.2.2.length : Nat)) ++ d))) := by
  unfold kT; simp only [List.append_assoc]
structure asM (r : bS) (s d : List Int) : Prop where
  sz : gV s = r.1.size
  aiL : mH (s.take 4) = C0
  nm : mH ((s.drop 5).take (gV s)) = r.1
  start : ((eL (s.drop (5 + gV s)) : Nat) : Int) = r.2.1
  nl : jR s = r.2.2.1.length
  ng : dG s = r.2.2.2.length
  body : bM s = d
  len : s.length = 17 + r.1.size + d.length
theorem SJ (hr : bT r = 0) (d : List Int) : asM r (kT r ++ d) d := by
  obtain ⟨h1, h2, h3, _, _⟩ := fF hr; have hn := r3 hr; have e := abU (r := r) d; have hs := aiK (r := r) hn.2 (bH (dI r.2.1) ++ (bH (dI (r.2.2.1.length : Nat)) ++ (bH (dI (r.2.2.2.length : Nat)) ++ d))); rw [<- e] at hs; obtain ⟨a1, a2, a3⟩ := hs
  have dk : ∀ k, (kT r ++ d).drop (5 + gV (kT r ++ d) + k) = (bH (dI r.2.1) ++ (bH (dI (r.2.2.1.length : Nat)) ++ (bH (dI (r.2.2.2.length : Nat)) ++ d))).drop k := fun k => by
    rw [a1, <- List.drop_drop, a3]
  have d0 := dk 0; rw [Nat.add_zero, List.drop_zero] at d0; refine ⟨a1, a2, ?_, ?_, ?_, ?_, ?_, ?_⟩
  . rw [a1, e]; unfold rU; show mH (((aP r.1) ++ _).take r.1.size) = r.1; rw [List.take_left' (eI r.1)]; exact SI r.1
  . rw [d0, wA (by omega)]
  . unfold jR; rw [dk 4]; show eL (bH (dI (r.2.2.1.length : Nat)) ++ _) = _; have := wA (n := ((r.2.2.1.length : Nat) : Int)) (by omega) (bH (dI (r.2.2.2.length : Nat)) ++ d); omega
  . unfold dG; rw [dk 8]; show eL (bH (dI (r.2.2.2.length : Nat)) ++ _) = _; have := wA (n := ((r.2.2.2.length : Nat) : Int)) (by omega) d; omega
  . unfold bM; rw [dk 12] <;> rfl
  rw [List.length_append, sS]
theorem FX : cI r = kT r ++ (eY r.2.2.2 ++ gN r.2.2.1) := by
  unfold cI; rw [List.append_assoc]
theorem SK : (eY r.2.2.2 ++ gN r.2.2.1).length = 8 * r.2.2.2.length + 4 * r.2.2.1.length := by rw [List.length_append, r5, A8]
theorem Q2 (hr : bT r = 0) : zE (cI r) = (r.1, r.2.1, r.2.2.1.map aS, r.2.2.2) := by
  obtain ⟨h1, h2, h3, _, h5⟩ := fF hr; have k := SJ hr (eY r.2.2.2 ++ gN r.2.2.1); rw [<- FX] at k
  have hg := MT r.2.2.2 (gN r.2.2.1) fun s hs => by have := h5 s hs; omega
  have hl := MS r.2.2.1 []; rw [List.append_nil] at hl; unfold zE; rw [k.nm, k.start, k.nl, k.ng, k.body, hg, List.drop_left' (r5 _), hl]
theorem aeM (hr : bT r = 0) : bT (r.1, r.2.1, r.2.2.1.map aS, r.2.2.2) = 0 := by
  obtain ⟨h1, h2, h3, h4, h5⟩ := fF hr; have hc := n6 hr; have hl : (r.2.2.1.map aS).length = r.2.2.1.length := List.length_map _; refine SF (r := (r.1, r.2.1, r.2.2.1.map aS, r.2.2.2)) hc.2.2 h1 (by show (r.2.2.1.map aS).length <= _; omega) (fun x hx => ?_) (by show Sp.Canon ((r.2.2.1.map aS).length : Nat) _; rw [hl]; exact hc.1) h3 ?_
  . obtain ⟨y, hy, rfl⟩ := List.mem_map.1 hx; exact (oX (h4 y hy)).2.1
  refine RT (r := (r.1, r.2.1, r.2.2.1.map aS, r.2.2.2)) (fun i hi hh => ?_) fun s hs => by
    have := h5 s hs; show 0 <= s.1 /\ s.1 <= s.2 /\ s.2 <= ((r.2.2.1.map aS).length : Nat); omega
  have hi : i < (r.2.2.1.map aS).length := hi
  have jB : i < r.2.2.1.length := by omega
  have h6 : DA ((r.2.2.1.map aS)[i]) = true := hh.1; rw [List.getElem_map, X6 (PY hr jB hh.2), nz0] at h6; cases h6
theorem aiM (hr : bT r = 0) : hY (cI r) = 0 /\ tJ (nG (cI r)) r = true := by
  obtain ⟨h1, h2, h3, h4, h5⟩ := fF hr; have hn := r3 hr; have k := SJ hr (eY r.2.2.2 ++ gN r.2.2.1); rw [<- FX] at k; have wX := SK (r := r); have hlen := k.len; have ok : xF (cI r) := ⟨by omega, by omega, fun h => h k.aiL, by rw [k.sz]; omega⟩; have hD := Q2 hr
  have hng : ¬ HL (zE (cI r)).2.2.1 = true := fun h => by
    rw [hD] at h; obtain ⟨x, hx, h6⟩ := List.any_eq_true.1 h; obtain ⟨y, hy, rfl⟩ := List.mem_map.1 hx; exact aiJ (h4 y hy) (of_decide_eq_true h6)
  have hE : hY (cI r) = 0 := by
    rw [amX ok (by rw [k.body, k.ng, k.nl]; exact wX) hng, hD]; exact aeM hr
  refine ⟨hE, ?_⟩; rw [show nG (cI r) = zE (cI r) from if_pos hE, hD]; unfold tJ
  have hs : rC (r.2.2.1.map aS) r.2.2.1 = true := by
    refine decide_eq_true ⟨List.length_map _, fun i hi => ?_⟩
    have jB : i < r.2.2.1.length := by rwa [List.length_map] at hi
    rw [dP hi, dP jB, List.getElem_map]; have hx := h4 _ (List.getElem_mem jB); exact aaH ((oX hx).2.2.trans (mF hx).1) (mF hx).1
  rw [hs, decide_eq_true rfl, decide_eq_true rfl, decide_eq_true rfl] <;> rfl
theorem aeN (hr : bT r = 0) {x : Int} : hY (cI r ++ [x]) = 2 := by
  obtain ⟨h1, h2, h3, h4, h5⟩ := fF hr; have hn := r3 hr; have k := SJ hr ((eY r.2.2.2 ++ gN r.2.2.1) ++ [x]); rw [<- List.append_assoc, <- FX] at k; have wX := SK (r := r); have hlen := k.len
  have hb : ((eY r.2.2.2 ++ gN r.2.2.1) ++ [x]).length = 8 * r.2.2.2.length + 4 * r.2.2.1.length + 1 := by rw [List.length_append, wX] <;> rfl
  have ok : xF (cI r ++ [x]) := ⟨by omega, by omega, fun h => h k.aiL, by rw [k.sz]; omega⟩; exact amW ok (by rw [k.body, k.ng, k.nl]; omega)
theorem aeO (hr : bT r = 0) : hY ((cI r).take ((cI r).length - 1)) = 29 := by
  obtain ⟨h1, h2, h3, h4, h5⟩ := fF hr; have hn := r3 hr; have wX := SK (r := r); have yA := sS r
  have uU : (cI r).length = (kT r).length + (eY r.2.2.2 ++ gN r.2.2.1).length := by rw [FX, List.length_append]
  by_cases h0 : (eY r.2.2.2 ++ gN r.2.2.1).length = 0
  . have e : (cI r).take ((cI r).length - 1) = rU r ++ ((bH (dI r.2.1) ++ (bH (dI (r.2.2.1.length : Nat)) ++ (bH (dI (r.2.2.2.length : Nat)) ++ [])))).take 11 := by
      have h6 : eY r.2.2.2 ++ gN r.2.2.1 = [] := List.length_eq_zero_iff.1 h0; rw [uU, h0, FX, h6, abU, Nat.add_zero, yA, show 17 + r.1.size - 1 = (rU r).length + 11 by rw [BZ]; omega]; exact List.take_length_add_append 11
    have hs := aiK (r := r) hn.2 (((bH (dI r.2.1) ++ (bH (dI (r.2.2.1.length : Nat)) ++ (bH (dI (r.2.2.2.length : Nat)) ++ [])))).take 11)
    have hl : ((cI r).take ((cI r).length - 1)).length = 16 + r.1.size := by rw [List.length_take]; omega
    rw [<- e] at hs; exact amU (by omega) (by omega) (fun h => h hs.2.1) (by rw [hs.1]; omega)
  have e : (cI r).take ((cI r).length - 1) = kT r ++ (eY r.2.2.2 ++ gN r.2.2.1).take ((eY r.2.2.2 ++ gN r.2.2.1).length - 1) := by
    rw [uU, show (kT r).length + (eY r.2.2.2 ++ gN r.2.2.1).length - 1 = (kT r).length + ((eY r.2.2.2 ++ gN r.2.2.1).length - 1) by omega, FX]; exact List.take_length_add_append _
  have k := SJ hr ((eY r.2.2.2 ++ gN r.2.2.1).take ((eY r.2.2.2 ++ gN r.2.2.1).length - 1))
  have bX : ((eY r.2.2.2 ++ gN r.2.2.1).take ((eY r.2.2.2 ++ gN r.2.2.1).length - 1)).length = (eY r.2.2.2 ++ gN r.2.2.1).length - 1 := by rw [List.length_take]; omega
  rw [<- e] at k; have hlen := k.len; have ok : xF ((cI r).take ((cI r).length - 1)) := ⟨by omega, by omega, fun h => h k.aiL, by rw [k.sz]; omega⟩; exact amV ok (by rw [k.body, k.ng, k.nl]; omega)
end
end Go.Proofs
namespace Go.Proofs
open Go.Fs Ieee
set_option maxHeartbeats 4000000
theorem MU {r : bS} : jX (cI r) := fun x hx => by
  unfold cI at hx; rcases List.mem_append.1 hx with hx | hx
  . rcases List.mem_append.1 hx with hx | hx
    . unfold kT rU at hx; simp only [List.mem_append] at hx; rcases hx with (((((hx | hx) | hx) | hx) | hx) | hx)
      . simp only [List.mem_cons, List.not_mem_nil, or_false] at hx; omega
      . simp only [List.mem_cons, List.not_mem_nil, or_false] at hx; subst hx; omega
      . exact X1 x hx
      . exact r4 x hx
      . exact r4 x hx
      exact r4 x hx
    obtain ⟨s, _, hx⟩ := List.mem_flatMap.1 hx; rcases List.mem_append.1 hx with hx | hx
    . exact r4 x hx
    exact r4 x hx
  obtain ⟨s, _, hx⟩ := List.mem_flatMap.1 hx; exact r4 x hx
theorem aiN {l : List Int} (h : jX l) : jX (l ++ [0]) := fun x hx => by
  rcases List.mem_append.1 hx with hx | hx
  . exact h x hx
  rw [List.mem_singleton.1 hx]; decide
theorem aeP {s : ByteArray} (hs : s.size <= 1000) (h : qC s = 0) : bT (iM aS s) = 0 /\ HH (iM aS s) = s := by
  cases hp : mG s with
  | mk o i =>
    cases o with
    | none => rw [(qZ (f := aS) hp).2.2] at h; cases h
    | some b =>
      by_cases hc : bT (oA b) = 0
      . rw [(A5 (f := aS) hp hc).1]; exact ai6 hs hp hc
      rw [(BU (f := aS) hp hc).2.2] at h; exact absurd h hc
theorem alU {r : bS} (hr : bT r = 0) : 3 <= (cH r).size /\ (cH r).size <= 61 + 61 * r.2.2.1.length := by
  refine ⟨?_, MD hr (Nat.le_refl _)⟩; have e := congrArg ByteArray.size (aaF (a := r.1) (d := eK r.2.1)); rw [ByteArray.size_append, ByteArray.size_append, ByteArray.size_append, ByteArray.size_append] at e; have z1 : (⟨#[103, 97, 117, 103, 101, 32]⟩ : ByteArray).size = 6 := rfl; show 3 <= ((lO r ++ xR) ++ j5 (oC r r.2.2.1.length)).size; rw [ByteArray.size_append]; unfold lO; omega
theorem TN {r : ByteArray × Int × (List Nat) × (List (Int × Int))} {s : ByteArray} : VF Tryz.prog OA 5 [.v pV r, St s] (B true) := by
  refine VF.enter Tryz.func5 rfl (fun _ _ => rfl) rfl ?_; show U _ _ _ _ _ [(0, .v pV r), (1, St s)] [] _; refine U.seq (U.text ?_); refine J.new (.box) ?_; refine J.c (.assign rfl) ?_; refine J.go (U.seq (U.seq (U.text ?_))); refine J.call rfl rfl (VF.call (F4 )) ?_; refine J.c (.not) (J.c (.move rfl) ?_); refine J.r (.ld H9) ?_; refine J.call rfl rfl (VF.call (ZQ )) ?_; refine J.c (.not) (J.c (.dK rfl rfl) (J.c (.move rfl) ?_)); refine J.splitB (x := 33) rfl (fun aiO => ?_) (fun aiO => ?_)
  . try simp only [Bool.and_eq_true, Bool.or_eq_true, Bool.and_eq_false_iff, Bool.or_eq_false_iff, Bool.not_eq_true', Bool.not_eq_false', decide_eq_true_eq, decide_eq_false_iff_not] at aiO
    refine J.skip (J.skip (J.skip (J.c (.iD rfl rfl) ?_))); refine J.c (.move rfl) (J.skip (J.skip (J.skip ?_))); refine J.c (.iD rfl rfl) (J.go ?_); refine U.x6 rfl ?_; refine U.seq (U.text ?_); refine J.call rfl rfl (VF.call (F4 )) ?_; refine J.c (.assign rfl) (J.go ?_); refine U.ret ?_; exact aW.one rfl b6 (eS (by rfl))
  try simp only [Bool.and_eq_true, Bool.or_eq_true, Bool.and_eq_false_iff, Bool.or_eq_false_iff, Bool.not_eq_true', Bool.not_eq_false', decide_eq_true_eq, decide_eq_false_iff_not] at aiO
  have hsh : uF r = true := by simp_all
  have hs := adG hsh
  have hl : r.2.2.1.length < 1000000 := by omega
  have hg : r.2.2.2.length < 1000000 := by omega
  refine J.r (.ld H9) ?_; refine J.call rfl rfl (VF.call (ah3 hl hg)) ?_; refine J.c (.neq) (J.c (.dK rfl rfl) (J.c (.move rfl) ?_)); refine J.cg (r := decide (bT r ≠ (0 : Int))) (w := false) [] trivial (fun _ => (.move rfl)) ?_; refine J.rg (r := decide (bT r ≠ (0 : Int))) (w := false) [(39, St s)] ⟨rfl, trivial⟩ (fun _ => (.rJ)) ?_; refine J.cg (r := decide (bT r ≠ (0 : Int))) (w := false) [(40, I ((s.size : Nat) : Int))] ⟨rfl, trivial⟩ (fun _ => (.gtr)) ?_; refine J.c (.or) (J.go ?_); refine U.fN rfl (fun c1 => ?_) (fun c1 => ?_)
  . try simp only [Bool.and_eq_true, Bool.or_eq_true, Bool.and_eq_false_iff, Bool.or_eq_false_iff, Bool.not_eq_true', Bool.not_eq_false', decide_eq_true_eq, decide_eq_false_iff_not] at c1
    refine U.seq (U.text ?_); refine J.call rfl rfl (VF.call (F4 )) ?_; refine J.c (.assign rfl) (J.go ?_); refine U.ret ?_; exact aW.one rfl b6 (eS (by rfl))
  try simp only [Bool.and_eq_true, Bool.or_eq_true, Bool.and_eq_false_iff, Bool.or_eq_false_iff, Bool.not_eq_true', Bool.not_eq_false', decide_eq_true_eq, decide_eq_false_iff_not] at c1
  have hz : bT r = 0 := Classical.not_not.1 c1.1
  have hss : s.size <= 1000 := by have := c1.2; omega
  have h40 : r.2.2.1.length <= 40 := by have := (fF hz).2.1; omega
  have AI := alU hz; have hpr : HH r = cH r := if_pos hz; obtain ⟨p1, p2, p3⟩ := A5 (f := aS) (ahZ hz) (alN hz)
  have p4 : tJ (iM aS (cH r)) r = true := by rw [p1]; exact aaI hz
  obtain ⟨d1, d2⟩ := aiM hz; have uU := aeG r; have hg8 : r.2.2.2.length <= 2048 := (fF hz).2.2.1; have atZ := (r3 hz).2; have hq := PU (f := aS) (s := cH r); have xO := PU (f := aS) (s := s); have hdr : nG (cI r) = (r.1, r.2.1, r.2.2.1.map aS, r.2.2.2) := (if_pos d1).trans (Q2 hz)
  have hd3 : (nG (cI r)).2.2.1.length < 1000000 := by rw [hdr]; show (r.2.2.1.map aS).length < _; rw [List.length_map]; omega
  have hd4 : (nG (cI r)).2.2.2.length < 1000000 := by rw [hdr]; exact hg
  obtain ⟨n1, n2, n3⟩ := qZ (f := aS) (ai1 hz)
  have hen : ((((cH r).size : Nat) : Int) - (1 : Int)).toNat = (cH r).size - 1 := by omega
  have hec : ((((cI r).length : Nat) : Int) - (1 : Int)).toNat = (cI r).length - 1 := by omega
  refine U.skip (U.seq (U.text ?_)); refine J.r (.ld H9) ?_; refine J.call rfl rfl (VF.call (H8 hl hg)) ?_; refine J.call rfl rfl (VF.call (MG hl hg)) ?_; refine J.c (.move rfl) (J.c (.extract) (J.c (.extract) (J.c (.assign rfl) ?_))); refine J.c (.assign rfl) ?_; rw [hpr, hz]; refine J.go (U.seq (U.text ?_)); refine J.c (.move rfl) ?_; refine J.call rfl rfl (VF.call (BV (by omega))) ?_; refine J.c (.move rfl) (J.c (.extract) (J.c (.extract) (J.c (.extract) ?_))); refine J.cell (.alloc uD) ?_; intro eT; refine J.lJ (cs' := [St ((iM aS (cH r)).1), I ((iM aS (cH r)).2.1), .v eZ ((iM aS (cH r)).2.2.1), .v cW ((iM aS (cH r)).2.2.2)]) dT .v ?_; refine J.shut [(7, .p jP (iM aS (cH r)))] (.cons rfl (.var m0 .refl) .nil) ?_; refine J.c (.assign rfl) (J.c (.assign rfl) ?_); rw [p2, p3]; refine J.go (U.seq ?_); refine U.aV [(1, St s), (2, .p pV r), (5, St (cH r)), (6, I 0), (7, .p jP (iM aS (cH r))), (8, I 0), (9, I 0)] ⟨rfl, rfl, rfl, rfl, rfl, rfl, rfl, trivial⟩ ?_; refine U.text ?_; refine J.r (.ld H9) ?_; refine J.call rfl rfl (VF.call (H8 hl hg)) ?_; refine J.call rfl rfl (VF.call (aiC hl hg)) ?_; refine J.c (.move rfl) (J.c (.extract) (J.c (.extract) (J.c (.assign rfl) ?_))); refine J.c (.assign rfl) ?_; rw [if_pos hz, hz]; refine J.go (U.seq (U.text ?_)); refine J.cell (.U6 rN) ?_; intro pA; refine J.c (.move rfl) ?_; refine J.app rfl rfl rN rN (by simp only [List.length_nil]; omega) ?_; intro DC; refine J.shut [(65, .v W7 (cI r))] (.cons rfl (.row m0) .nil) ?_; refine J.call rfl rfl (VF.call (MQ MU (by omega))) ?_; refine J.c (.move rfl) (J.c (.extract) (J.c (.extract) ?_)); refine J.cell (.alloc uD) ?_; intro ww4; refine J.lJ (cs' := [St ((nG (cI r)).1), I ((nG (cI r)).2.1), .v eZ ((nG (cI r)).2.2.1), .v cW ((nG (cI r)).2.2.2)]) dT .v ?_; refine J.shut [(12, .p jP (nG (cI r)))] (.cons rfl (.var m0 .refl) .nil) ?_; refine J.c (.assign rfl) ?_; rw [d1]; refine J.go (U.seq (U.seq (U.drawn ?_))); refine VD.c (.move rfl) (VD.c (.move rfl) (VD.c (.add rfl rfl (by omega)) (VD.c (.move rfl) ?_))); refine VD.c (.add rfl rfl (by omega)) (VD.c (.move rfl) (VD.nw [] (VD.c (.add rfl rfl (by omega)) ?_))); refine VD.c (.neq) (VD.c (.move rfl) ?_); refine VD.jK (x := 77) rfl (fun amY => ?_) (fun amY => ?_)
  . exact absurd amY (by decide)
  refine VD.c (.move rfl) (VD.c (.neq) (VD.c (.dK rfl rfl) (VD.nw [] ?_))); refine VD.c (.move rfl) ?_; refine VD.jK (x := 81) rfl (fun aiP => ?_) (fun aiP => ?_)
  . exact absurd rfl aiP
  refine VD.r [] (.ld dT) (.inl rfl) ?_; refine VD.call rfl rfl (VF.call (VN )) ?_; refine VD.r [] (.ld H9) (.inl rfl) ?_; refine VD.x8 rfl rfl (VF.call (DI hq.1 hq.2 hg)) ?_; refine VD.c (.not) (VD.nw [83] (VD.c (.dK rfl rfl) (VD.c (.move rfl) ?_))); refine VD.splitB (x := 88) rfl (fun MV => ?_) (fun MV => ?_)
  . try simp only [Bool.and_eq_true, Bool.or_eq_true, Bool.and_eq_false_iff, Bool.or_eq_false_iff, Bool.not_eq_true', Bool.not_eq_false', decide_eq_true_eq, decide_eq_false_iff_not] at MV
    rw [p4] at MV; cases MV
  try simp only [Bool.and_eq_true, Bool.or_eq_true, Bool.and_eq_false_iff, Bool.or_eq_false_iff, Bool.not_eq_true', Bool.not_eq_false', decide_eq_true_eq, decide_eq_false_iff_not] at MV
  refine VD.r [] (.ld dT) (.inl rfl) ?_; refine VD.call rfl rfl (VF.call (VN )) ?_; refine VD.r [] (.ld H9) (.inl rfl) ?_; refine VD.x8 rfl rfl (VF.call (DI hd3 hd4 hg)) ?_; refine VD.nw [90, 83] (VD.c (.not) (VD.c (.dK rfl rfl) (VD.c (.move rfl) ?_))); refine VD.splitB (x := 95) rfl (fun MW => ?_) (fun MW => ?_)
  . try simp only [Bool.and_eq_true, Bool.or_eq_true, Bool.and_eq_false_iff, Bool.or_eq_false_iff, Bool.not_eq_true', Bool.not_eq_false', decide_eq_true_eq, decide_eq_false_iff_not] at MW
    rw [d2] at MW; cases MW
  try simp only [Bool.and_eq_true, Bool.or_eq_true, Bool.and_eq_false_iff, Bool.or_eq_false_iff, Bool.not_eq_true', Bool.not_eq_false', decide_eq_true_eq, decide_eq_false_iff_not] at MW
  refine VD.c (.move rfl) ?_; refine VD.r [] (.rJ) (.inl rfl) ?_; refine VD.c (.lss) (VD.nw [90, 83] (VD.c (.dK rfl rfl) (VD.c (.move rfl) ?_))); refine VD.jK (x := 100) rfl (fun aoZ => ?_) (fun aoZ => ?_)
  . omega
  refine VD.c (.move rfl) ?_; refine VD.r [] (.len rN) (.inl rfl) ?_; refine VD.c (.lss) (VD.c (.dK rfl rfl) (VD.go ?_)); refine U.b8 rfl (fun c7 => ?_) (fun c7 => ?_)
  . refine U.seq ?_; refine U.aV [(1, St s), (2, .p pV r), (5, St (cH r)), (10, .v W7 (cI r))] ⟨rfl, rfl, rfl, rfl, trivial⟩ ?_; refine U.text ?_; refine J.c (.assign rfl) (J.go ?_); refine U.ret ?_; exact aW.one rfl b6 (eS (by exfalso; omega))
  refine U.skip (U.seq (U.seq ?_)); refine U.aV [(1, St s), (2, .p pV r), (5, St (cH r)), (10, .v W7 (cI r))] ⟨rfl, rfl, rfl, rfl, trivial⟩ ?_; refine U.text ?_; refine J.c (.move rfl) ?_; refine J.call rfl rfl (VF.call (BV (by omega))) ?_; refine J.c (.move rfl) (J.c (.extract) (J.c (.extract) (J.c (.extract) ?_))); refine J.cell (.alloc uD) ?_; intro WQ; refine J.lJ (cs' := [St ((iM aS s).1), I ((iM aS s).2.1), .v eZ ((iM aS s).2.2.1), .v cW ((iM aS s).2.2.2)]) dT .v ?_; refine J.shut [(14, .p jP (iM aS s))] (.cons rfl (.var m0 .refl) .nil) ?_; refine J.c (.assign rfl) (J.c (.assign rfl) ?_); refine J.go (U.seq (U.text ?_)); refine J.c (.move rfl) (J.c (.eql) (J.go ?_)); refine U.join [(2, .p pV r), (5, St (cH r)), (10, .v W7 (cI r))] [] ?_ ?_; refine U.b8 rfl (fun F8 => ?_) (fun F8 => ?_)
  . obtain ⟨b1, b2⟩ := aeP hss F8; refine U.seq (U.text ?_); refine J.r (.ld dT) ?_; refine J.call rfl rfl (VF.call (MG xO.1 xO.2)) ?_; refine J.c (.move rfl) (J.c (.extract) (J.c (.extract) (J.c (.assign rfl) ?_))); refine J.c (.assign rfl) ?_; refine J.go (U.seq (U.text ?_)); refine J.c (.move rfl) (J.c (.neq) (J.c (.move rfl) ?_)); refine J.cg (r := decide (bT (iM aS s) ≠ (0 : Int))) (w := false) [] trivial (fun _ => (.move rfl)) ?_; refine J.cg (r := decide (bT (iM aS s) ≠ (0 : Int))) (w := false) [] trivial (fun _ => (.move rfl)) ?_; refine J.cg (r := decide (bT (iM aS s) ≠ (0 : Int))) (w := false) [(121, St (HH (iM aS s))), (122, St s)] ⟨rfl, rfl, trivial⟩ (fun _ => (.ab4)) ?_; refine J.c (.or) (J.go ?_); refine U.fN rfl (fun c12 => ?_) (fun c12 => ?_)
    . try simp only [Bool.and_eq_true, Bool.or_eq_true, Bool.and_eq_false_iff, Bool.or_eq_false_iff, Bool.not_eq_true', Bool.not_eq_false', decide_eq_true_eq, decide_eq_false_iff_not] at c12
      refine U.seq (U.text ?_); refine J.c (.assign rfl) (J.go ?_); refine U.ret ?_; exact aW.one rfl b6 (eS (by exfalso; simp [b1, b2] at c12))
    try simp only [Bool.and_eq_true, Bool.or_eq_true, Bool.and_eq_false_iff, Bool.or_eq_false_iff, Bool.not_eq_true', Bool.not_eq_false', decide_eq_true_eq, decide_eq_false_iff_not] at c12
    refine U.skip ?_; exact ⟨⟨rfl, rfl, rfl, trivial⟩, rfl⟩
  . refine U.skip ?_; exact ⟨⟨rfl, rfl, rfl, trivial⟩, rfl⟩
  refine U.seq (U.text ?_); refine J.c (.move rfl) (J.c (.move rfl) ?_); refine J.r (.rJ) ?_; refine J.c (.sub rfl rfl (by omega)) ?_; refine J.r (.aa5 (by kernel_rfl) rfl rfl (by omega)) ?_; refine J.call rfl rfl (VF.call (BV (by rw [ByteArray.size_extract]; omega))) ?_; refine J.c (.move rfl) (J.c (.extract) (J.c (.extract) (J.c (.extract) ?_))); refine J.cell (.alloc uD) ?_; intro O6; refine J.lJ (cs' := [St ((iM aS ((cH r).extract 0 (((((cH r).size : Nat) : Int) - (1 : Int))).toNat)).1), I ((iM aS ((cH r).extract 0 (((((cH r).size : Nat) : Int) - (1 : Int))).toNat)).2.1), .v eZ ((iM aS ((cH r).extract 0 (((((cH r).size : Nat) : Int) - (1 : Int))).toNat)).2.2.1), .v cW ((iM aS ((cH r).extract 0 (((((cH r).size : Nat) : Int) - (1 : Int))).toNat)).2.2.2)]) dT .v ?_; refine J.shut [(19, .p jP (iM aS ((cH r).extract 0 (((((cH r).size : Nat) : Int) - (1 : Int))).toNat)))] (.cons rfl (.var m0 .refl) .nil) ?_; refine J.c (.assign rfl) (J.c (.assign rfl) ?_); refine J.go (U.seq (U.text ?_)); refine J.cell (.U6 rN) ?_; intro ww7; refine J.c (.move rfl) (J.c (.move rfl) ?_); refine J.r (.len rN) ?_; refine J.c (.sub rfl rfl (by omega)) ?_; refine J.r (.GH rfl rfl rN (by omega)) ?_; refine J.app rfl rfl rN rN (by simp only [List.length_nil, List.length_take]; omega) ?_; intro ww8; refine J.shut [(142, .v W7 ((cI r).take (((((cI r).length : Nat) : Int) - (1 : Int))).toNat))] (.cons rfl (.row m0) .nil) ?_; refine J.call rfl rfl (VF.call (MQ (zC MU _) (by rw [List.length_take]; omega))) ?_; refine J.c (.move rfl) (J.c (.extract) (J.c (.extract) ?_)); refine J.cell (.alloc uD) ?_; intro VI; refine J.lJ (cs' := [St ((nG ((cI r).take (((((cI r).length : Nat) : Int) - (1 : Int))).toNat)).1), I ((nG ((cI r).take (((((cI r).length : Nat) : Int) - (1 : Int))).toNat)).2.1), .v eZ ((nG ((cI r).take (((((cI r).length : Nat) : Int) - (1 : Int))).toNat)).2.2.1), .v cW ((nG ((cI r).take (((((cI r).length : Nat) : Int) - (1 : Int))).toNat)).2.2.2)]) dT .v ?_; refine J.shut [(22, .p jP (nG ((cI r).take (((((cI r).length : Nat) : Int) - (1 : Int))).toNat)))] (.cons rfl (.var m0 .refl) .nil) ?_; refine J.c (.assign rfl) ?_; refine J.go (U.seq ?_); refine U.aV [(2, .p pV r), (10, .v W7 (cI r)), (20, I (w7 ((cH r).extract 0 (((((cH r).size : Nat) : Int) - (1 : Int))).toNat))), (21, I (qC ((cH r).extract 0 (((((cH r).size : Nat) : Int) - (1 : Int))).toNat))), (23, I (hY ((cI r).take (((((cI r).length : Nat) : Int) - (1 : Int))).toNat)))] ⟨rfl, rfl, rfl, rfl, rfl, trivial⟩ ?_; refine U.text ?_; refine J.cell (.U6 rN) ?_; intro HA; refine J.c (.move rfl) ?_; refine J.app rfl rfl rN rN (by simp only [List.length_nil]; omega) ?_; intro au0; refine J.new (.lit [(0 : Int)] rN) ?_; refine J.app rfl rfl rN rN (by simp only [List.nil_append, List.length_append, List.length_singleton]; omega) ?_; intro au1; refine J.shut [(151, .v W7 (cI r ++ [(0 : Int)]))] (.cons rfl (.row m0) .nil) ?_; refine J.call rfl rfl (VF.call (MQ (aiN MU) (by rw [List.length_append, List.length_singleton]; omega))) ?_; refine J.c (.move rfl) (J.c (.extract) (J.c (.extract) ?_)); refine J.cell (.alloc uD) ?_; intro au2; refine J.lJ (cs' := [St ((nG (cI r ++ [(0 : Int)])).1), I ((nG (cI r ++ [(0 : Int)])).2.1), .v eZ ((nG (cI r ++ [(0 : Int)])).2.2.1), .v cW ((nG (cI r ++ [(0 : Int)])).2.2.2)]) dT .v ?_; refine J.shut [(24, .p jP (nG (cI r ++ [(0 : Int)])))] (.cons rfl (.var m0 .refl) .nil) ?_; refine J.c (.assign rfl) ?_; refine J.go (U.seq (U.text ?_)); refine J.c (.move rfl) (J.c (.eql) (J.c (.move rfl) ?_)); refine J.cg (r := decide (qC ((cH r).extract 0 (((((cH r).size : Nat) : Int) - (1 : Int))).toNat) = (26 : Int))) (w := true) [] trivial (fun _ => (.move rfl)) ?_; refine J.cg (r := decide (qC ((cH r).extract 0 (((((cH r).size : Nat) : Int) - (1 : Int))).toNat) = (26 : Int))) (w := true) [] trivial (fun _ => (.fa (.r (.r (.l .o))))) ?_; refine J.rg (r := decide (qC ((cH r).extract 0 (((((cH r).size : Nat) : Int) - (1 : Int))).toNat) = (26 : Int))) (w := true) [(159, .p eZ r.2.2.1)] ⟨rfl, trivial⟩ (fun _ => (.ld j0)) ?_; refine J.rg (r := decide (qC ((cH r).extract 0 (((((cH r).size : Nat) : Int) - (1 : Int))).toNat) = (26 : Int))) (w := true) [(160, .v eZ r.2.2.1)] ⟨rfl, trivial⟩ (fun _ => (.len eU)) ?_; refine J.cg (r := decide (qC ((cH r).extract 0 (((((cH r).size : Nat) : Int) - (1 : Int))).toNat) = (26 : Int))) (w := true) [(158, I (w7 ((cH r).extract 0 (((((cH r).size : Nat) : Int) - (1 : Int))).toNat))), (161, I ((r.2.2.1.length : Nat) : Int))] ⟨rfl, rfl, trivial⟩ (fun _ => (.eql)) ?_; refine J.c (.and) (J.c (.move rfl) ?_); refine J.cg (r := ((decide (qC ((cH r).extract 0 (((((cH r).size : Nat) : Int) - (1 : Int))).toNat) = (26 : Int))) && (decide (w7 ((cH r).extract 0 (((((cH r).size : Nat) : Int) - (1 : Int))).toNat) = ((r.2.2.1.length : Nat) : Int))))) (w := true) [] trivial (fun _ => (.move rfl)) ?_; refine J.cg (r := ((decide (qC ((cH r).extract 0 (((((cH r).size : Nat) : Int) - (1 : Int))).toNat) = (26 : Int))) && (decide (w7 ((cH r).extract 0 (((((cH r).size : Nat) : Int) - (1 : Int))).toNat) = ((r.2.2.1.length : Nat) : Int))))) (w := true) [(165, I (hY ((cI r).take (((((cI r).length : Nat) : Int) - (1 : Int))).toNat)))] ⟨rfl, trivial⟩ (fun _ => (.eql)) ?_; refine J.c (.and) (J.c (.move rfl) ?_); refine J.cg (r := (((decide (qC ((cH r).extract 0 (((((cH r).size : Nat) : Int) - (1 : Int))).toNat) = (26 : Int))) && (decide (w7 ((cH r).extract 0 (((((cH r).size : Nat) : Int) - (1 : Int))).toNat) = ((r.2.2.1.length : Nat) : Int)))) && (decide (hY ((cI r).take (((((cI r).length : Nat) : Int) - (1 : Int))).toNat) = (29 : Int))))) (w := true) [] trivial (fun _ => (.move rfl)) ?_; refine J.cg (r := (((decide (qC ((cH r).extract 0 (((((cH r).size : Nat) : Int) - (1 : Int))).toNat) = (26 : Int))) && (decide (w7 ((cH r).extract 0 (((((cH r).size : Nat) : Int) - (1 : Int))).toNat) = ((r.2.2.1.length : Nat) : Int)))) && (decide (hY ((cI r).take (((((cI r).length : Nat) : Int) - (1 : Int))).toNat) = (29 : Int))))) (w := true) [(169, I (hY (cI r ++ [(0 : Int)])))] ⟨rfl, trivial⟩ (fun _ => (.eql)) ?_; refine J.c (.and) (J.c (.assign rfl) (J.go ?_)); refine U.ret ?_; exact aW.one rfl b6 (eS (by rw [hen, hec, n2, n3, aeO hz, aeN hz]; simp))
end Go.Proofs
namespace Go.Fs
open Go.RowKit (Below)
variable {P : Program}
def aiQ (fi fj fc : FuncId) (T : TypeId) : FuncId -> List Value -> Heap -> Option (Value × Heap) := fun f xs h =>
  bif Nat.beq f fc then
    match xs with
    | [.pointer (some ⟨b, 0, none⟩)] =>
      match h.get b with
      | some (.row e [p, v] true false) =>
        bif Nat.beq e T then
          match p with
          | .pointer none => some (.tuple #[], h.set b (.row e [.pointer (some ⟨b, 0, none⟩), v] true false))
          | .pointer (some ⟨b', 0, none⟩) => bif Nat.beq b' b then some (.tuple #[], h) else none
          | _ => none
        else none
      | _ => none
    | _ => none
  else LG fi fj f xs h
theorem X7 {B : Nat} {w0 : World} {fi fj fc : FuncId} {T : TypeId} (hz : w0.drawn = 0) (hS : cB P B w0 (LG fi fj)) (hc : Enters P fc)
    (hF : ∀ (b : Nat) (w : World), w.cell? ⟨b, 0, none⟩ = some (.pointer none) -> w.shape? b = some (T, 2) -> w.frozen? ⟨b, 0, none⟩ = false ->
      Calls P fc #[.pointer (some ⟨b, 0, none⟩)] w fun e w' => e = .returned (.tuple #[]) /\ w' = w.setCell ⟨b, 0, none⟩ (.pointer (some ⟨b, 0, none⟩)))
    (hU : ∀ (b : Nat) (w : World), w.cell? ⟨b, 0, none⟩ = some (.pointer (some ⟨b, 0, none⟩)) -> Calls P fc #[.pointer (some ⟨b, 0, none⟩)] w fun e w' => e = .returned (.tuple #[]) /\ w' = w) :
    cB P B w0 (aiQ fi fj fc T) := by
  intro f xs h v h' hf; unfold aiQ at hf
  cases hb : Nat.beq f fc with
  | false =>
    rw [hb] at hf
    exact hS f xs h v h' hf
  | true =>
    have := bD hb; subst this; rw [hb] at hf; simp only [cond_true] at hf; split at hf
    . rename_i b; split at hf
      . rename_i e p u hg; obtain ⟨he, cT⟩ := aL hf; obtain rfl := bD he; refine ⟨hc, fun ρ S w args' hr ha nn => ?_⟩; obtain ⟨hsb, cur, k1, k2, k3, k4, k5, k6, k7⟩ := hr.aB b _ hg; have sE : cur.length = 2 := (k6 rfl).symm
        match cur, sE with
        | [p', u'], _ =>
        have hp : VR ρ S p p' := k7 0 (by simp); have hu : VR ρ S u u' := k7 1 (by simp)
        have sW : (ρ b).at 0 = ⟨(ρ b).block, 0, none⟩ := by unfold Loc.at; rw [k2]
        have asN : args' = [.pointer (some ⟨(ρ b).block, 0, none⟩)] := by
          have h1 := ha.1
          match args', h1 with
          | [a], _ =>
            have h2 : VR ρ S (.pointer (some ⟨b, 0, none⟩)) a := ha.2 0 (by simp); rw [h2.pH.2, sW]
        subst asN
        have oH : w.cell? ⟨(ρ b).block, 0, none⟩ = some p' := by simp [World.cell?, k1]
        split at cT
        . simp only [Option.some.injEq, Prod.mk.injEq] at cT; obtain ⟨rfl, rfl⟩ := cT; obtain rfl := hp.fY rfl; have hC : CallsIn Fence.wide nn P f #[.pointer (some ⟨(ρ b).block, 0, none⟩)] w _ := callsIn_wide.2 (hF (ρ b).block w oH (by simp [World.shape?, k1]) (wL k1 (by rw [k3]; exact Nat.zero_lt_succ _))); refine hC.mono fun e2 w' nX => ?_; obtain ⟨rfl, rfl⟩ := nX; refine ⟨ρ, aO.set hr hg rfl rfl rfl rfl rfl (by simp [World.setCell]) (fun k hk => ?_) ?_, VR.tuple' LR.nil⟩
          . simp only [World.setCell, Array.getElem?_modify]; rw [if_neg (fun e0 => hk e0.symm)]
          refine ⟨[.pointer (some ⟨(ρ b).block, 0, none⟩), u'], ?_, k2, k3, k4, Nat.le_refl _, fun _ => rfl, fun i hi => ?_⟩
          . simp only [World.setCell, Array.getElem?_modify, if_pos rfl, k1]; simp
          match i, hi with
          | 0, _ => show VR ρ S (.pointer (some ⟨b, 0, none⟩)) (.pointer (some ⟨(ρ b).block, 0, none⟩)); rw [<- sW]; exact .ptr b 0 hsb
          | 1, _ => exact hu
        . rename_i b'; obtain ⟨wP, rQ⟩ := aL cT; obtain rfl := bD wP; simp only [Option.some.injEq, Prod.mk.injEq] at rQ; obtain ⟨rfl, rfl⟩ := rQ; have hp2 := hp.pH.2; rw [sW] at hp2; subst hp2; have hC : CallsIn Fence.wide nn P f #[.pointer (some ⟨(ρ b').block, 0, none⟩)] w _ := callsIn_wide.2 (hU (ρ b').block w oH); refine hC.mono fun e2 w' nX => ?_; obtain ⟨rfl, rfl⟩ := nX; exact ⟨ρ, aO.same hr, VR.tuple' LR.nil⟩
        cases cT
      cases hf
    cases hf
end Go.Fs
namespace Go.Fs
open Go.RowKit (Below)
variable {P : Program} {B : Nat} {w0 : World}
def MX (P : Program) (orc : FuncId -> List Value -> Heap -> Option (Value × Heap)) (rec : Rec) : Rec := fun aR c fr h =>
  match c with
  | .region _ ops true => match I7 P { next := h.next, low := h.next, aB := h.aB } (bQ P (dL P orc rec) (eG rec)) ops fr.n ⟨fr.t, { next := h.next, low := h.next, aB := h.aB }, [], [], 0, false⟩ with
    | some s => some (.normal, { t := s.t, n := fr.n, marks := fr.marks }, { next := s.h.next, low := min h.low s.h.low, aB := s.h.aB })
    | none => match IA P { next := h.next, low := h.next, aB := h.aB } (bQ P (dL P orc rec) (eG rec)) ops fr.n ⟨fr.t, { next := h.next, low := h.next, aB := h.aB }, [], [], 0, false⟩ (L9 P { next := h.next, low := h.next, aB := h.aB } (bQ P (dL P orc rec) (eG rec)) ops fr.n ops.toList 0 ⟨fr.t, { next := h.next, low := h.next, aB := h.aB }, [], [], 0, false⟩ []) with
      | some s => some (.normal, { t := s.t, n := fr.n, marks := fr.marks }, { next := s.h.next, low := min h.low s.h.low, aB := s.h.aB })
      | none => bA P orc rec aR c fr h
  | c => bA P orc rec aR c fr h
def zF (P : Program) (orc : FuncId -> List Value -> Heap -> Option (Value × Heap)) : Nat -> Rec
  | 0 => fun _ _ _ _ => none
  | n + 1 => MX P orc (zF P orc n)
theorem HR.low {ρ : Ren} {S : Nat -> Prop} {h : Heap} {w : World} (hr : HR P ρ S B w0 h w) (l : Nat) : HR P ρ S B w0 { next := h.next, low := l, aB := h.aB } w :=
  { aB := hr.aB, inj := hr.inj, base := hr.base, ro := hr.ro, ids := hr.ids, pos := hr.pos, below := hr.below, drawn := hr.drawn, size := hr.size }
theorem aO.X8 {ρ bG : Ren} {S : Nat -> Prop} {h h' : Heap} {w w' : World} {l : Nat} (m : aO P B w0 ρ bG S { next := h.next, low := l, aB := h.aB } h' w w') :
    aO P B w0 ρ bG S h { next := h'.next, low := min h.low h'.low, aB := h'.aB } w w' where
  agree := m.agree
  next := m.next
  hr := m.hr.low _
  frame := ⟨m.frame.os, m.frame.tape, m.frame.output, m.frame.size, m.frame.block⟩
  low := Nat.min_le_left _ _
  aV := fun i hi hl => m.aV i hi (Nat.lt_of_lt_of_le hl (Nat.min_le_right _ _))
  old := m.old
  fresh := fun i o ho hi => by
    obtain ⟨h1, h2⟩ := m.fresh i o ho hi; refine ⟨h1, ?_⟩; rcases h2 with h2 | ⟨j, oj, h3, h4, h5, h6, h7⟩
    . exact .inl h2
    exact .inr ⟨j, oj, h3, h4, h5, Nat.le_trans (Nat.min_le_right _ _) h6, h7⟩
theorem SL (hP : k9 P) {orc : FuncId -> List Value -> Heap -> Option (Value × Heap)} (jY : cB P B w0 orc) {m : Nat} {rec : Rec} (iL : oF P B w0 m rec) : oF P B w0 (m + 1) (MX P orc rec) := by
  have gX : lF P B w0 (dL P orc rec) := yN hP jY iL; have p7 : fT P B w0 (eG rec) := CT iL; have hold := GR hP jY iL; intro aR c fr h e iO h' aZ hf
  cases c with
  | region id ops draw =>
    cases draw with
    | false => exact hold aR _ fr h e iO h' aZ hf
    | true =>
      intro ρ S w a nn Q hr ht hm hs k; simp only [MX] at hf; split at hf
      . rename_i s eD; simp only [Option.some.injEq, Prod.mk.injEq] at hf; obtain ⟨rfl, rfl, rfl⟩ := hf; refine wpIn_region_draw fun t => ?_; rw [hP.mixed]; exact Y7 (h0 := { next := h.next, low := h.next, aB := h.aB }) (call := dL P orc rec) (yield := eG rec) gX p7 aZ eD ((hr.drew _).low _) ht (fun cP w1 a1 m1 CH CF => k _ _ _ ⟨(aO.tX m1).X8, CH, by rw [CF]; exact hm.mono fun b hb => ⟨.inl hb, m1.agree b hb⟩⟩) t
      split at hf
      . rename_i s eD; simp only [Option.some.injEq, Prod.mk.injEq] at hf; obtain ⟨rfl, rfl, rfl⟩ := hf; refine wpIn_region_draw fun t => ?_; rw [hP.mixed]; exact YR (h0 := { next := h.next, low := h.next, aB := h.aB }) (call := dL P orc rec) (yield := eG rec) gX p7 aZ eD ((hr.drew _).low _) ht (fun cP w1 a1 m1 CH CF => k _ _ _ ⟨(aO.tX m1).X8, CH, by rw [CF]; exact hm.mono fun b hb => ⟨.inl hb, m1.agree b hb⟩⟩) t
      exact hold aR _ fr h e iO h' aZ hf ρ S w a nn Q hr ht hm hs k
  | _ => exact hold aR _ fr h e iO h' aZ hf
theorem xG (hP : k9 P) {orc : FuncId -> List Value -> Heap -> Option (Value × Heap)} (jY : cB P B w0 orc) : ∀ m, oF P B w0 m (zF P orc m)
  | 0 => fun aR c fr h e iO h' _ hf => by cases hf
  | m + 1 => SL hP jY (xG hP jY m)
end Go.Fs
namespace Go.Fs
variable {P : Program} {orc : FuncId -> List Value -> Heap -> Option (Value × Heap)}
def rD (P : Program) (orc : FuncId -> List Value -> Heap -> Option (Value × Heap)) : Nat -> Nat -> Code -> Fr -> Heap -> Option (Nat × Code × Fr × Heap)
  | 0, n, c, fr, h => some (n, c, fr, h)
  | k + 1, n, c, fr, h => match n, c with
    | n + 1, .seq a b => match zF P orc n none a fr h with
      | some (.normal, fr1, h1) => rD P orc k n b fr1 h1
      | _ => none
    | _, _ => none
def aiR (P : Program) (fn : Func) (h : Heap) (x : Ex × Fr × Heap) : Option Value :=
  bif x.1.goes then
    match jS x.2.1.marks x.2.2 with
    | some h2 => (iT P x.2.1.t h2 fn.results.toList).map gE
    | none => none
  else none
theorem aaT {rec : Rec} {f : FuncId} {args : List Value} {h : Heap} {fn : Func} {c : Code} (hf : P.funcs[f]? = some fn) (hc : fn.body = some c) (hn : (Nat.blt 4000 fn.ntmps || Nat.blt fn.ntmps args.length) = false) :
    (nO P rec f args h).map (·.1) = (rec none c ⟨j6 .leaf 0 args, fn.ntmps, []⟩ { next := h.next, low := h.next, aB := h.aB }).bind (aiR P fn h) := by
  unfold nO n8 aiR; simp only [hf, hc, hn, cond_false]
  cases rec none c ⟨j6 .leaf 0 args, fn.ntmps, []⟩ { next := h.next, low := h.next, aB := h.aB } with
  | none => rfl
  | some x =>
    obtain ⟨e, fr, h1⟩ := x; simp only [Option.bind_some]
    cases e.goes with
    | false => rfl
    | true =>
      simp only [cond_true]
      cases jS fr.marks h1 with
      | none => rfl
      | some h2 =>
        simp only
        cases iT P fr.t h2 fn.results.toList with
        | none => rfl
        | some vs =>
          simp only [Option.map_some]; generalize (!false && (af (gE vs) && Nat.ble h.next h2.low)) = q; cases q <;> rfl
def MY : Nat -> Code -> Code
  | 0, c => c
  | k + 1, .seq _ b => MY k b
  | _ + 1, c => c
end Go.Fs
namespace Go.Fs
open Go.RowKit (Below)
variable {P : Program}
def gv : Value -> Bool
  | .func (.func _) ⟨[]⟩ ⟨[]⟩ => true
  | v => dQ v
theorem VR.ap0 {ρ : Ren} {S : Nat -> Prop} {v : Value} (h : gv v = true) : VR ρ S v v := by
  unfold gv at h; split at h
  . exact .func _ _ _ _ _ rfl (fun i h => absurd h (by simp)) rfl (fun i h => absurd h (by simp))
  exact .lit h
def zH (n : Nat) (L : List (Nat × TypeId × List Value)) : Heap := ⟨n, n, L.map fun x => (x.1 + 1, .row x.2.1 x.2.2 false true)⟩
def ap1 (P : Program) : Ren := fun b => Loc.clean (b - 1) 0 0 (P.cellsOf (((P.globals[b - 1]?).map (·.type)).getD 0))
structure FY (P : Program) (B : Nat) (w : World) (x : Nat × TypeId × List Value) : Prop where
  type : (P.globals[x.1]?).map (·.type) = some x.2.1
  only : ∀ (g : Nat) gl, P.globals[g]? = some gl -> gl.type = x.2.1 -> g = x.1
  block : x.1 < B
  cells : ∀ i, i < x.2.2.length -> w.cell? ⟨x.1, i, none⟩ = some (x.2.2.getD i undef)
  aiS : x.2.2.all gv = true
theorem FY.below {B : Nat} {w w' : World} {x : Nat × TypeId × List Value} (h : FY P B w x) (hb : Below B w w') : FY P B w' x :=
  ⟨h.type, h.only, h.block, fun i hi => (World.cell?_of_block (a := ⟨x.1, i, none⟩) (hb.block _ h.block)).trans (h.cells i hi), h.aiS⟩
theorem tP {n : Nat} : ∀ {L : List (Nat × TypeId × List Value)} {i : Nat} {o : aU}, (zH n L).get i = some o -> ∃ x ∈ L, i = x.1 + 1 /\ o = .row x.2.1 x.2.2 false true
  | [], i, o, h => by cases h
  | x :: L, i, o, h => by
    simp only [zH, Heap.get, List.map_cons, look] at h
    cases hb : Nat.beq (x.1 + 1) i with
    | true =>
      rw [hb] at h
      exact ⟨x, List.mem_cons_self, (bD hb).symm, (Option.some.inj h).symm⟩
    | false =>
      rw [hb] at h; obtain ⟨y, hy, h1, h2⟩ := tP (n := n) (L := L) (i := i) (o := o) h; exact ⟨y, List.mem_cons_of_mem _ hy, h1, h2⟩
theorem aeQ {w : World} {n : Nat} {L : List (Nat × TypeId × List Value)} (hn : ∀ x ∈ L, x.1 + 1 < n) (hp : 0 < n) (hL : ∀ x ∈ L, FY P w.heap.size w x) :
    HR P (ap1 P) (fun b => ∃ x ∈ L, b = x.1 + 1) w.heap.size (wz w) (zH n L) w where
  aB := fun i o hi => by
    obtain ⟨x, hx, rfl, rfl⟩ := tP hi; have h := hL x hx; refine ⟨⟨x, hx, rfl⟩, ?_, fun j hj => ?_, fun _ g gl h1 h2 => ?_⟩
    . show P.cellsOf (((P.globals[x.1 + 1 - 1]?).map (·.type)).getD 0) = _; rw [Nat.add_sub_cancel, h.type]; rfl
    . refine ⟨x.2.2.getD j undef, ?_, .ap0 (List.all_eq_true.1 h.aiS _ (nB hj))⟩; show w.cell? ⟨x.1 + 1 - 1, 0 + j, none⟩ = _; rw [Nat.add_sub_cancel, Nat.zero_add]; exact h.cells j hj
    exact ⟨(h.only g gl h1 h2).symm, rfl⟩
  inj := fun i j oi oj hi _ ho => by
    obtain ⟨x, hx, rfl, rfl⟩ := tP hi; cases ho
  base := fun i o hi ho => by
    obtain ⟨x, hx, rfl, rfl⟩ := tP hi; cases ho
  ro := fun i o hi _ => by
    obtain ⟨x, hx, rfl, rfl⟩ := tP hi; exact (hL x hx).block
  ids := fun b ⟨x, hx, hb⟩ => by
    subst hb; exact ⟨hn x hx, Nat.succ_ne_zero _⟩
  pos := hp
  below := IW (Below.refl _ _)
  drawn := Nat.zero_le _
  size := Nat.le_refl _
end Go.Fs
namespace Go.Fs
open Go.RowKit (Below)
variable {P : Program} {ρ bG : Ren} {S S' : Nat -> Prop} {B : Nat} {w0 w w' w1 w2 : World} {h h' h1 h2 : Heap}
def SM (n0 : Nat) (aV : List Nat) : List (Nat × aU) -> List (Nat × aU)
  | [] => []
  | x :: r => bif Nat.blt x.1 n0 || aV.any (Nat.beq x.1) then x :: SM n0 aV r else SM n0 aV r
def gcH (n0 : Nat) (aV : List Nat) (h : Heap) : Heap := ⟨h.next, h.low, SM n0 aV h.aB⟩
theorem q5 {n0 : Nat} {aV : List Nat} {i : Nat} {o : aU} : ∀ {L : List (Nat × aU)}, look (SM n0 aV L) i = some o -> look L i = some o
  | [], h => h
  | x :: L, h => by
    unfold SM at h
    cases hk : (Nat.blt x.1 n0 || aV.any (Nat.beq x.1)) with
    | true =>
      rw [hk] at h; simp only [cond_true, look] at h ⊢
      cases hb : Nat.beq x.1 i with
      | true => rw [hb] at h; exact h
      | false => rw [hb] at h; exact q5 h
    | false =>
      rw [hk] at h; simp only [cond_false] at h; simp only [look]
      cases hb : Nat.beq x.1 i with
      | false => exact q5 h
      | true =>
        exfalso; have e := bD hb
        have mO : ∀ {L : List (Nat × aU)}, look (SM n0 aV L) i = none := by
          intro L
          induction L with
          | nil => rfl
          | cons y L ih =>
            unfold SM
            cases ED : (Nat.blt y.1 n0 || aV.any (Nat.beq y.1)) with
            | false => exact ih
            | true =>
              simp only [cond_true, look]
              cases sX : Nat.beq y.1 i with
              | false => exact ih
              | true => rw [bD sX, <- e, hk] at ED; cases ED
        rw [mO] at h; cases h
theorem SN {n0 : Nat} {aV : List Nat} {i : Nat} (hi : i < n0) : ∀ {L : List (Nat × aU)}, look (SM n0 aV L) i = look L i
  | [] => rfl
  | x :: L => by
    unfold SM
    cases hb : Nat.beq x.1 i with
    | true =>
      have hx : Nat.blt x.1 n0 = true := by rw [bD hb]; show Nat.ble (i + 1) n0 = true; rw [Nat.ble_eq]; omega
      simp only [hx, Bool.true_or, cond_true, look, hb]
    | false =>
      cases hk : (Nat.blt x.1 n0 || aV.any (Nat.beq x.1)) with
      | true => simp only [cond_true, look, hb, cond_false]; exact SN hi
      | false => simp only [cond_false, look, hb]; exact SN hi
theorem HR.gc {n0 : Nat} {aV : List Nat} (hr : HR P ρ S B w0 h w) : HR P ρ S B w0 (gcH n0 aV h) w :=
  { aB := fun i o hi => hr.aB i o (q5 hi), inj := fun i j oi oj hi hj => hr.inj i j oi oj (q5 hi) (q5 hj), base := fun i o hi => hr.base i o (q5 hi), ro := fun i o hi => hr.ro i o (q5 hi), ids := hr.ids, pos := hr.pos,
    below := hr.below, drawn := hr.drawn, size := hr.size }
theorem aO.gc {n0 : Nat} {aV : List Nat} (hn : h.next <= n0) (m : aO P B w0 ρ bG S h h1 w w1) : aO P B w0 ρ bG S h (gcH n0 aV h1) w w1 where
  agree := m.agree
  next := m.next
  hr := m.hr.gc
  frame := m.frame
  low := m.low
  aV := fun i hi hl => (SN (by omega)).trans (m.aV i hi hl)
  old := fun i o hi hl => m.old i o (q5 hi) hl
  fresh := fun i o hi hl => m.fresh i o (q5 hi) hl
def E1 (P : Program) (orc : FuncId -> List Value -> Heap -> Option (Value × Heap)) (n0 : Nat) : List (Nat × List Nat) -> Nat -> Code -> Fr -> Heap -> Option (Ex × Fr × Heap)
  | [], n, c, fr, h => zF P orc n none c fr h
  | (k, aV) :: ks, n, c, fr, h => match rD P orc k n c fr h with
    | some (n1, c1, fr1, h1) => E1 P orc n0 ks n1 c1 fr1 (gcH n0 aV h1)
    | none => none
theorem MZ (hP : k9 P) {orc : FuncId -> List Value -> Heap -> Option (Value × Heap)} (jY : cB P B w0 orc) : ∀ {k n : Nat} {c : Code} {fr : Fr} {h : Heap} {n1 : Nat} {c1 : Code} {fr1 : Fr} {h1 : Heap}, codeOk c = true -> rD P orc k n c fr h = some (n1, c1, fr1, h1) ->
    codeOk c1 = true /\ ∀ {ρ : Ren} {S : Nat -> Prop} {w : World} {a : Act} {nn : Nat} {Q : Exit -> Act -> World -> Prop}, HR P ρ S B w0 h w -> kL ρ S fr.t fr.n a.tmps -> pN ρ S fr.marks a.defers ->
      (∀ bG w' a', pO P B w0 ρ bG S h w fr1 h1 w' a' -> c1.wpIn (lE none) nn P Q a' w') -> c.wpIn (lE none) nn P Q a w
  | 0, n, c, fr, h, n1, c1, fr1, h1, aZ, hr => by
    simp only [rD, Option.some.injEq, Prod.mk.injEq] at hr; obtain ⟨rfl, rfl, rfl, rfl⟩ := hr
    exact ⟨aZ, fun hR ht hm k => k _ _ _ ⟨aO.same hR, ht.mono fun b hb => ⟨.inl hb, rfl⟩, hm.mono fun b hb => ⟨.inl hb, rfl⟩⟩⟩
  | k + 1, n, c, fr, h, n1, c1, fr1, h1, aZ, hr => by
    simp only [rD] at hr; split at hr
    . rename_i n x y; split at hr
      . rename_i IS h2 hx; obtain ⟨UG, YV⟩ := aT (show (codeOk x && codeOk y) = true from aZ); obtain ⟨g1, g2⟩ := MZ hP jY YV hr; refine ⟨g1, fun {ρ S w a nn Q} hR ht hm kk => wpIn_seq ?_⟩; refine (xG hP jY n none x fr h _ IS h2 UG hx ρ S w a nn _ hR ht hm (fun l hl => by cases hl) fun cP w1 a1 p1 => ?_).wpIn; show y.wpIn (lE none) nn P Q a1 w1; exact g2 p1.cC.hr p1.tmps p1.marks fun iS w2 a2 p2 => kk _ _ _ (pO.trans (fr1 := IS) (a1 := a1) p1.cC p2)
      cases hr
    cases hr
theorem HM (hP : k9 P) {orc : FuncId -> List Value -> Heap -> Option (Value × Heap)} (jY : cB P B w0 orc) {n0 : Nat} : ∀ {ks : List (Nat × List Nat)} {n : Nat} {c : Code} {fr : Fr} {h : Heap} {e : Ex} {iO : Fr} {h' : Heap}, codeOk c = true -> E1 P orc n0 ks n c fr h = some (e, iO, h') ->
    ∀ {g : Heap} {ρ0 ρ : Ren} {S : Nat -> Prop} {w w' : World} {a : Act} {nn : Nat} {Q : Exit -> Act -> World -> Prop}, g.next <= n0 -> aO P B w0 ρ0 ρ S g h w w' -> kL ρ (Ext S g h) fr.t fr.n a.tmps -> pN ρ (Ext S g h) fr.marks a.defers ->
      (∀ bG w2 a', pO P B w0 ρ0 bG S g w iO h' w2 a' -> Q (TQ e) a' w2) -> c.wpIn (lE none) nn P Q a w'
  | [], n, c, fr, h, e, iO, h', aZ, hr, g, ρ0, ρ, S, w, w', a, nn, Q, hg, m, ht, hm, k =>
    (xG hP jY n none c fr h e iO h' aZ hr ρ _ w' a nn Q m.hr ht hm (fun l hl => by cases hl) fun cP w1 a1 p1 => k _ _ _ (pO.trans (fr1 := fr) (a1 := a) m p1)).wpIn
  | (j, aV) :: ks, n, c, fr, h, e, iO, h', aZ, hr, g, ρ0, ρ, S, w, w', a, nn, Q, hg, m, ht, hm, k => by
    simp only [E1] at hr; split at hr
    . rename_i n1 c1 fr1 h1 hx; obtain ⟨g1, g2⟩ := MZ hP jY aZ hx; refine g2 m.hr ht hm fun cP w1 a1 p1 => ?_; have q := pO.trans (fr1 := fr) (a1 := a) m p1; exact HM hP jY g1 hr hg (q.cC.gc hg) q.tmps q.marks k
    cases hr
def fsG (P : Program) (orc : FuncId -> List Value -> Heap -> Option (Value × Heap)) (n0 n : Nat) (ks : List (Nat × List Nat)) : Rec := fun aR c fr h =>
  match aR, c with
  | none, .seq x y => bif Nat.ble h.next n0 then E1 P orc n0 ks n (.seq x y) fr h else none
  | _, _ => none
def ap2 : Code -> Bool
  | .seq _ _ => true
  | _ => false
theorem alV {orc : FuncId -> List Value -> Heap -> Option (Value × Heap)} {n0 n : Nat} {ks : List (Nat × List Nat)} {c : Code} {fr : Fr} {h : Heap} (hc : ap2 c = true) (hn : Nat.ble h.next n0 = true) : fsG P orc n0 n ks none c fr h = E1 P orc n0 ks n c fr h := by
  cases c with
  | seq x y =>
    show (bif Nat.ble h.next n0 then _ else _) = _
    rw [hn]; rfl
  | _ => cases hc
theorem aaU (hP : k9 P) {orc : FuncId -> List Value -> Heap -> Option (Value × Heap)} (jY : cB P B w0 orc) {n0 n : Nat} {ks : List (Nat × List Nat)} : oF P B w0 0 (fsG P orc n0 n ks) := by
  intro aR c fr h e iO h' aZ hf ρ S w a nn Q hr ht hm hs k; unfold fsG at hf; split at hf
  . rename_i x y; obtain ⟨hn, hq⟩ := aL hf; show Code.wpIn (lE none) nn P (.seq x y) Q a w; exact HM hP jY aZ hq (eP hn) (aO.same hr) (ht.mono fun b hb => ⟨.inl hb, rfl⟩) (hm.mono fun b hb => ⟨.inl hb, rfl⟩) k
  cases hf
theorem FZ {orc : FuncId -> List Value -> Heap -> Option (Value × Heap)} {n0 k n : Nat} {aV : List Nat} {ks : List (Nat × List Nat)} {c : Code} {fr : Fr} {h : Heap} {n' : Nat} {c' : Code} {iO : Fr} {h' : Heap} (hr : (rD P orc k n c fr h).map (fun x => (x.1, x.2.1, x.2.2.1, gcH n0 aV x.2.2.2)) = some (n', c', iO, h')) : E1 P orc n0 ((k, aV) :: ks) n c fr h = E1 P orc n0 ks n' c' iO h' := by
  simp only [E1]
  cases hx : rD P orc k n c fr h with
  | none => rw [hx] at hr; cases hr
  | some x =>
    obtain ⟨n1, c1, fr1, h1⟩ := x; rw [hx] at hr; simp only [Option.map_some, Option.some.injEq, Prod.mk.injEq] at hr; obtain ⟨rfl, rfl, rfl, rfl⟩ := hr; rfl
theorem X9 (hP : k9 P) {w : World} {orc : FuncId -> List Value -> Heap -> Option (Value × Heap)} (jY : cB P w.heap.size (wz w) orc) {ρ : Ren} {S : Nat -> Prop} {g : Heap} (hr : HR P ρ S w.heap.size (wz w) g w) {n0 n : Nat} {ks : List (Nat × List Nat)} {f : FuncId} {args : List Value} {v : Value} (ha : args.all af = true)
    (hf : (nO P (fsG P orc n0 n ks) f args g).map (·.1) = some v) (hv : af v = true) :
    Calls P f args.toArray w fun | .returned v', w' => v' = v /\ Below w.heap.size w w' | _, _ => False := by
  obtain ⟨⟨v0, h1⟩, h2, h3⟩ := Option.map_eq_some_iff.1 hf; simp only at h3; subst h3; have hc := ((CS hP (aaU hP jY)) f args _ _ _ h2).2 _ _ w args hr ⟨rfl, fun i hi => .lS (List.all_eq_true.1 ha _ (nB hi))⟩ 0; refine Calls.mono (callsIn_wide.1 hc) fun e w' he => ?_
  cases e with
  | returned v' =>
    obtain ⟨bG, m1, KF⟩ := he
    exact ⟨KF.dD hv, vA m1.hr.below⟩
  | panicked c => exact he.elim
  | outgrown => exact he.elim
theorem N0 (hP : k9 P) {B : Nat} {w0 : World} {O : FuncId -> List Value -> Heap -> Option (Value × Heap)} {fa : FuncId} {n : Nat} {L : List (Nat × TypeId × List Value)} (hn : ∀ x ∈ L, x.1 + 1 < n) (hp : 0 < n) (hL : ∀ x ∈ L, FY P B w0 x) (hB : ∀ w, Below B w0 w -> B <= w.heap.size) (hS : ∀ w, Below B w0 w -> cB P w.heap.size (wz w) O) {n0 m : Nat} {ks : List (Nat × List Nat)}
    (eD : (nO P (fsG P O n0 m ks) fa [] (zH n L)).map (·.1) = some (.bool true)) (w : World) (hw : Below B w0 w) :
    Calls P fa #[] w fun | .returned v', w' => v' = .bool true /\ Below w.heap.size w w' | _, _ => False :=
  X9 hP (hS w hw) (aeQ hn hp fun x hx => let h := (hL x hx).below hw; ⟨h.type, h.only, Nat.lt_of_lt_of_le h.block (hB w hw), h.cells, h.aiS⟩) (args := []) rfl eD rfl
end Go.Fs
namespace Go.Fs
open Go.RowKit (Below)
variable {P : Program} {B : Nat} {w0 : World}
theorem XA {fi : FuncId} (hz : w0.drawn = 0) (hi : Enters P fi)
    (hI : ∀ (n : Int) (w : World), Below B w0 w -> -9223372036854775808 <= n -> n <= 9223372036854775807 -> Calls P fi #[.int .i64 n] w fun e w' => e = .returned (.string ⟨(Lib.itoa n).toArray⟩) /\ Below w.heap.size w w') : cB P B w0 (LG fi fi) := by
  intro f xs h v h' hf; unfold LG at hf
  cases hfi : Nat.beq f fi with
  | true =>
    have := bD hfi; subst this; rw [hfi] at hf; simp only [cond_true] at hf; split at hf
    . rename_i n; obtain ⟨hc, cT⟩ := aL hf; obtain ⟨h0, h1⟩ := aT hc; have h0 := of_decide_eq_true h0; have h1 := of_decide_eq_true h1; simp only [Option.some.injEq, Prod.mk.injEq] at cT; obtain ⟨rfl, rfl⟩ := cT; refine ⟨hi, fun ρ S w args' hr ha nn => ?_⟩; have he : args' = [.int .i64 n] := ha.dD (by rfl); subst he; have hC : CallsIn Fence.wide nn P f #[.int .i64 n] w _ := callsIn_wide.2 (hI n w hr.below (by omega) (by omega)); refine hC.mono fun e w' nX => ?_; obtain ⟨rfl, hb⟩ := nX; exact ⟨ρ, aO.B4 hr hb (by rw [hz]; exact Nat.zero_le _), by rw [acP h0 h1]; exact .lit rfl⟩
    cases hf
  | false =>
    rw [hfi] at hf; simp only [cond_false] at hf; cases hf
end Go.Fs
