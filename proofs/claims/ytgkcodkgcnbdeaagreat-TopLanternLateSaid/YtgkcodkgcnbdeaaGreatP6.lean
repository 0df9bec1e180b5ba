/- Parts of the proof: an evaluator of the model, what it is sound for, and contracts of functions. No condition. -/
import Derived.Test.YtgkcodkgcnbdeaaGreatP5
import Derived.Sort.AssemblyPlain
import Derived.Shelf.SlSortCmp.InsertionK
import Derived.Lib.QuietBelow
import Derived.Test.YtgkcodkgcnbdeaaGreatP4
import Derived.Test.YtgkcodkgcnbdeaaGreatChecked
set_option linter.all false
namespace Go.Fs
variable {α : Type} {lt : α -> α -> Bool} {d : α} {ys : List α} {a b m n s e i j k : Nat}
def tD (ys : List α) (a b : Nat) (d : α) : Nat -> List α
  | 0 => ys
  | n + 1 => swp (tD ys a b d n) (a + n) (b + n) d
theorem pO : ∀ {n : Nat}, (tD ys a b d n).length = ys.length
  | 0 => rfl
  | n + 1 => by rw [tD, tC, pO]
theorem AA {k : Nat} : ∀ {n : Nat}, a + n <= b -> b + n <= ys.length -> (tD ys a b d n).getD k d = if a <= k /\ k < a + n then ys.getD (b + (k - a)) d else if b <= k /\ k < b + n then ys.getD (a + (k - b)) d else ys.getD k d
  | 0, _, _ => by rw [if_neg (by omega), if_neg (by omega)]; rfl
  | n + 1, h1, h2 => by
    rw [tD, EO (by rw [pO]; omega) (by rw [pO]; omega)]; by_cases hk : k = b + n
    . subst hk; rw [if_pos rfl, if_neg (by omega), if_pos (by omega), AA (by omega) (by omega), if_neg (by omega), if_neg (by omega)]; congr 1; omega
    rw [if_neg hk]; by_cases nU : k = a + n
    . subst nU; rw [if_pos rfl, if_pos (by omega), AA (by omega) (by omega), if_neg (by omega), if_neg (by omega)]; congr 1; omega
    rw [if_neg nU, AA (by omega) (by omega)]; by_cases h3 : a <= k /\ k < a + n
    . rw [if_pos h3, if_pos (show a <= k /\ k < a + (n + 1) by omega)]
    rw [if_neg h3, if_neg (show ¬ (a <= k /\ k < a + (n + 1)) by omega)]; by_cases h4 : b <= k /\ k < b + n
    . rw [if_pos h4, if_pos (show b <= k /\ k < b + (n + 1) by omega)]
    rw [if_neg h4, if_neg (show ¬ (b <= k /\ k < b + (n + 1)) by omega)]
def cT (ys : List α) (a m b : Nat) : List α := ys.take a ++ ((ys.drop m).take (b - m) ++ ((ys.drop a).take (m - a) ++ ys.drop b))
theorem gB (h1 : a <= m) (h2 : m <= b) (h3 : b <= ys.length) : (cT ys a m b).length = ys.length := by
  unfold cT; simp only [List.length_append, List.length_take, List.length_drop]; omega
theorem iL (h1 : a <= m) (h2 : m <= b) (h3 : b <= ys.length) : (cT ys a m b).getD k d = if k < a then ys.getD k d else if k < a + (b - m) then ys.getD (m + (k - a)) d else if k < b then ys.getD (a + (k - (a + (b - m)))) d else ys.getD k d := by
  have l1 : (ys.take a).length = a := by rw [List.length_take]; omega
  have l2 : ((ys.drop m).take (b - m)).length = b - m := by rw [List.length_take, List.length_drop]; omega
  have l3 : ((ys.drop a).take (m - a)).length = m - a := by rw [List.length_take, List.length_drop]; omega
  unfold cT; simp only [List.getD_eq_getElem?_getD]; by_cases h4 : k < a
  . rw [if_pos h4, List.getElem?_append_left (by omega), List.getElem?_take, if_pos h4]
  rw [if_neg h4, List.getElem?_append_right (by omega), l1]; by_cases h5 : k < a + (b - m)
  . rw [if_pos h5, List.getElem?_append_left (by omega), List.getElem?_take, if_pos (by omega), List.getElem?_drop]
  rw [if_neg h5, List.getElem?_append_right (by omega), l2]; by_cases h6 : k < b
  . rw [if_pos h6, List.getElem?_append_left (by omega), List.getElem?_take, if_pos (by omega), List.getElem?_drop, Nat.sub_sub]
  rw [if_neg h6, List.getElem?_append_right (by omega), l3, List.getElem?_drop]; congr 2; omega
theorem wX (h : a = m \/ m = b) (h1 : a <= m) (h2 : m <= b) (h3 : b <= ys.length) : cT ys a m b = ys := by
  rcases h with rfl | rfl
  . unfold cT; rw [Nat.sub_self, List.take_zero, List.nil_append]
    conv => rhs; rw [<- List.take_append_drop a ys, <- List.take_append_drop (b - a) (ys.drop a), List.drop_drop, show a + (b - a) = b by omega]
  unfold cT; rw [Nat.sub_self, List.take_zero, List.nil_append]
  conv => rhs; rw [<- List.take_append_drop a ys, <- List.take_append_drop (m - a) (ys.drop a), List.drop_drop, show a + (m - a) = m by omega]
theorem OT (h1 : j < i) (h2 : i <= m) (h3 : m + j <= ys.length) : cT (tD ys (m - i) m d j) (m - i + j) m (m + j) = cT ys (m - i) m (m + j) := by
  have hl : (tD ys (m - i) m d j).length = ys.length := pO; refine A9 d (by rw [gB (by omega) (by omega) (by omega), gB (by omega) (by omega) (by omega), hl]) fun k hk => ?_; rw [iL (by omega) (by omega) (by omega), iL (by omega) (by omega) (by omega)]; simp only [AA (ys := ys) (a := m - i) (b := m) (n := j) (d := d) (by omega) (by omega)]
  repeat' split
  all_goals first | omega | rfl | (congr 1; omega)
theorem OU (h1 : i < j) (h2 : i <= m) (h3 : m + j <= ys.length) : cT (tD ys (m - i) (m + j - i) d i) (m - i) m (m + j - i) = cT ys (m - i) m (m + j) := by
  have hl : (tD ys (m - i) (m + j - i) d i).length = ys.length := pO; refine A9 d (by rw [gB (by omega) (by omega) (by omega), gB (by omega) (by omega) (by omega), hl]) fun k hk => ?_; rw [iL (by omega) (by omega) (by omega), iL (by omega) (by omega) (by omega)]; simp only [AA (ys := ys) (a := m - i) (b := m + j - i) (n := i) (d := d) (by omega) (by omega)]
  repeat' split
  all_goals first | omega | rfl | (congr 1; omega)
theorem aeR (h2 : i <= m) (h3 : m + i <= ys.length) : tD ys (m - i) m d i = cT ys (m - i) m (m + i) := by
  have hl : (tD ys (m - i) m d i).length = ys.length := pO; refine A9 d (by rw [gB (by omega) (by omega) (by omega), hl]) fun k hk => ?_; rw [iL (by omega) (by omega) (by omega), AA (by omega) (by omega)]
  repeat' split
  all_goals first | omega | rfl | (congr 1; omega)
theorem aeS (h1 : a <= k) (h3 : k + 2 <= ys.length) : swp (cT ys a (a + 1) (k + 1)) k (k + 1) d = cT ys a (a + 1) (k + 2) := by
  have hl : (cT ys a (a + 1) (k + 1)).length = ys.length := gB (by omega) (by omega) (by omega); refine A9 d (by rw [tC, hl, gB (by omega) (by omega) (by omega)]) fun q hq => ?_; rw [EO (by omega) (by omega)]; simp only [iL (ys := ys) (a := a) (m := a + 1) (b := k + 1) (d := d) (by omega) (by omega) (by omega), iL (ys := ys) (a := a) (m := a + 1) (b := k + 2) (d := d) (by omega) (by omega) (by omega)]
  repeat' split
  all_goals first | omega | rfl | (congr 1; omega)
theorem aeT (h1 : k < m) (h3 : m + 1 <= ys.length) : swp (cT ys (k + 1) m (m + 1)) (k + 1) k d = cT ys k m (m + 1) := by
  have hl : (cT ys (k + 1) m (m + 1)).length = ys.length := gB (by omega) (by omega) (by omega); refine A9 d (by rw [tC, hl, gB (by omega) (by omega) (by omega)]) fun q hq => ?_; rw [EO (by omega) (by omega)]; simp only [iL (ys := ys) (a := k + 1) (m := m) (b := m + 1) (d := d) (by omega) (by omega) (by omega), iL (ys := ys) (a := k) (m := m) (b := m + 1) (d := d) (by omega) (by omega) (by omega)]
  repeat' split
  all_goals first | omega | rfl | (congr 1; omega)
theorem four (h1 : s <= m) (h2 : m <= e) : ys = ys.take s ++ ((ys.drop s).take (m - s) ++ ((ys.drop m).take (e - m) ++ ys.drop e)) := by
  conv => lhs; rw [<- List.take_append_drop s ys, <- List.take_append_drop (m - s) (ys.drop s), List.drop_drop, show s + (m - s) = m by omega, <- List.take_append_drop (e - m) (ys.drop m), List.drop_drop, show m + (e - m) = e by omega]
theorem OV {x : α} (h : e <= ys.length) (hx : x ∈ (ys.drop s).take (e - s)) : ∃ p, s <= p /\ p < e /\ ys.getD p d = x := by
  obtain ⟨p, hp, rfl⟩ := List.getElem_of_mem hx; rw [List.length_take, List.length_drop] at hp; refine ⟨s + p, by omega, by omega, ?_⟩; rw [eC _ _ (by omega)]; simp
theorem aeU (W : dO lt) (ha : a <= s) (h1 : s <= m) (h2 : m <= e) (hb : e <= b) (h3 : e <= ys.length) (h : ∀ p q, s <= p -> p < m -> m <= q -> q < e -> lt (ys.getD q d) (ys.getD p d) = true) : lJ lt ys (cT ys s m e) a b := by
  have key : lJ lt ys (cT ys s m e) s e := by
    have l1 : (ys.take s).length = s := by rw [List.length_take]; omega
    refine ⟨gB h1 h2 h3, ?_, ?_, ?_⟩
    . unfold cT; rw [List.take_append_of_le_length (by omega), List.take_of_length_le (by omega)]
    . have l2 : (ys.take s ++ (ys.drop m).take (e - m)).length + ((ys.drop s).take (m - s)).length = e := by simp only [List.length_append, List.length_take, List.length_drop]; omega
      unfold cT; rw [<- List.append_assoc]; exact GL l2
    conv => arg 2; rw [four (ys := ys) h1 h2]
    exact bC.swap W fun x hx y hy => by
      obtain ⟨p, p1, p2, rfl⟩ := OV (d := d) (by omega) hx; obtain ⟨q, q1, q2, rfl⟩ := OV (d := d) h3 hy
      cases he : eqv lt (ys.getD p d) (ys.getD q d) with
      | false => rfl
      | true => have := (gU.1 he).2; rw [h p q p1 p2 q1 q2] at this; cases this
  exact key.wider ha hb
theorem wY (W : dO lt) (uS : a <= b) (hb : b <= ys.length) (h : dP lt d ys a b) : bI lt ys a b = ys := (z7 W uS hb (lJ.refl ys a b) h).symm
theorem dP.short (h : b <= a + 1) : dP lt d ys a b := fun p q _ _ _ => by omega
theorem dP.le (W : dO lt) (h : dP lt d ys a b) {p q : Nat} (h1 : a <= p) (h2 : p <= q) (h3 : q < b) : lt (ys.getD q d) (ys.getD p d) = false := by
  rcases Nat.lt_or_eq_of_le h2 with h4 | h4
  . exact h p q h1 h4 h3
  subst h4; exact W.irr _
theorem XL (W : dO lt) {xs zs : List α} {mid : Nat} (aj0 : lJ lt xs zs a b) (h1 : a <= mid) (h2 : mid <= b) (hb : b <= xs.length) (hc : ∀ p q, a <= p -> p < mid -> mid <= q -> q < b -> lt (zs.getD q d) (zs.getD p d) = false) : bI lt (bI lt zs a mid) mid b = bI lt xs a b := by
  have XM := aj0.len; have s1 : lJ lt zs (bI lt zs a mid) a mid := gE W h1 (by omega); have hyl := s1.len; have s2 : lJ lt (bI lt zs a mid) (bI lt (bI lt zs a mid) mid b) mid b := gE W h2 (by omega); refine z7 W (d := d) (by omega) hb (aj0.trans ((s1.wider (Nat.le_refl _) h2).trans (s2.wider h1 (Nat.le_refl _)))) fun p q p1 p2 p3 => ?_; by_cases hq : q < mid
  . rw [s2.below hq, s2.below (by omega)]; exact z8 W h1 (by omega) p q p1 p2 hq
  by_cases hp : p < mid
  . rw [s2.below hp]; obtain ⟨p', a1, a2, a3⟩ := s1.aiZ W (d := d) (by omega) p1 hp; obtain ⟨q', b1, b2, b3⟩ := s2.aiZ W (d := d) (by omega) (show mid <= q by omega) p3; rw [<- a3, <- b3, s1.wW b1]; exact hc p' q' a1 a2 b1 b2
  exact z8 W h2 (by omega) p q (by omega) p2 p3
structure Cut (lt : α -> α -> Bool) (d : α) (ys : List α) (a m b s e : Nat) : Prop where
  le : s <= m /\ m <= e /\ a <= s /\ e <= b
  lo : a < s -> e < b -> lt (ys.getD e d) (ys.getD (s - 1) d) = false
  hi : s < m -> m < e -> lt (ys.getD (e - 1) d) (ys.getD s d) = true
theorem Cut.strict (W : dO lt) (C : Cut lt d ys a m b s e) (hA : dP lt d ys a m) (hB : dP lt d ys m b) : ∀ p q, s <= p -> p < m -> m <= q -> q < e -> lt (ys.getD q d) (ys.getD p d) = true := fun p q p1 p2 q1 q2 => by
  obtain ⟨c1, c2, c3, c4⟩ := C.le; have h1 := C.hi (by omega) (by omega)
  cases h2 : lt (ys.getD q d) (ys.getD p d) with
  | true => rfl
  | false =>
    have h3 := W.neg _ _ _ h2 (hA.le W (p := s) (q := p) c3 p1 p2); have h4 := W.neg _ _ _ (hB.le W (p := q) (q := e - 1) q1 (by omega) (by omega)) h3; rw [h1] at h4; cases h4
theorem Cut.rG (W : dO lt) (C : Cut lt d ys a m b s e) (hA : dP lt d ys a m) (hB : dP lt d ys m b) (hb : b <= ys.length) : lJ lt ys (cT ys s m e) a b := by
  obtain ⟨c1, c2, c3, c4⟩ := C.le; exact aeU W (d := d) c3 c1 c2 c4 (by omega) (C.strict W hA hB)
theorem Cut.akK (W : dO lt) (C : Cut lt d ys a m b s e) (hA : dP lt d ys a m) (hB : dP lt d ys m b) (hb : b <= ys.length) : ∀ p q, a <= p -> p < s + (e - m) -> s + (e - m) <= q -> q < b -> lt ((cT ys s m e).getD q d) ((cT ys s m e).getD p d) = false := fun p q p1 p2 q1 q2 => by
  obtain ⟨c1, c2, c3, c4⟩ := C.le; have bR := C.strict W hA hB; rw [iL c1 c2 (by omega), iL c1 c2 (by omega), if_neg (show ¬ q < s by omega), if_neg (show ¬ q < s + (e - m) by omega)]; by_cases hp : p < s
  . rw [if_pos hp]; by_cases hq : q < e
    . rw [if_pos hq]; exact hA.le W p1 (by omega) (by omega)
    rw [if_neg hq]; have h1 := C.lo (by omega) (by omega); exact W.neg _ _ _ (hB.le W (p := e) (q := q) c2 (by omega) q2) (W.neg _ _ _ h1 (hA.le W (p := p) (q := s - 1) p1 (by omega) (by omega)))
  rw [if_neg hp, if_pos p2]; by_cases hq : q < e
  . rw [if_pos hq]; exact W.asym _ _ (bR _ _ (by omega) (by omega) (by omega) (by omega))
  rw [if_neg hq]; exact hB.le W (by omega) (by omega) q2
theorem Cut.four (C : Cut lt d ys a m b s e) (hA : dP lt d ys a m) (hB : dP lt d ys m b) (hb : b <= ys.length) : dP lt d (cT ys s m e) a s /\ dP lt d (cT ys s m e) s (s + (e - m)) /\ dP lt d (cT ys s m e) (s + (e - m)) e /\ dP lt d (cT ys s m e) e b := by
  obtain ⟨c1, c2, c3, c4⟩ := C.le; have e0 : ∀ k, (cT ys s m e).getD k d = _ := fun k => iL c1 c2 (by omega); refine ⟨fun p q p1 p2 p3 => ?_, fun p q p1 p2 p3 => ?_, fun p q p1 p2 p3 => ?_, fun p q p1 p2 p3 => ?_⟩
  . rw [e0, e0, if_pos (by omega), if_pos (by omega)]; exact hA p q p1 p2 (by omega)
  . rw [e0, e0, if_neg (by omega), if_pos (by omega), if_neg (by omega), if_pos (by omega)]; exact hB _ _ (by omega) (by omega) (by omega)
  . rw [e0, e0, if_neg (by omega), if_neg (by omega), if_pos (by omega), if_neg (by omega), if_neg (by omega), if_pos (by omega)]; exact hA _ _ (by omega) (by omega) (by omega)
  rw [e0, e0, if_neg (by omega), if_neg (by omega), if_neg (by omega), if_neg (by omega), if_neg (by omega), if_neg (by omega)]; exact hB _ _ (by omega) (by omega) (by omega)
theorem abC (W : dO lt) (h1 : a + 1 <= e) (h2 : e <= b) (hB : dP lt d ys (a + 1) b) (hb : b <= ys.length) (hx : e < b -> lt (ys.getD e d) (ys.getD a d) = false) (hy : a + 1 < e -> lt (ys.getD (e - 1) d) (ys.getD a d) = true) : cT ys a (a + 1) e = bI lt ys a b := by
  have C : Cut lt d ys a (a + 1) b a e := ⟨⟨by omega, h1, Nat.le_refl _, h2⟩, fun h => by omega, fun _ h => hy h⟩; have hA : dP lt d ys a (a + 1) := dP.short (Nat.le_refl _); have bR := C.strict W hA hB; refine z7 W (d := d) (by omega) hb (C.rG W hA hB hb) fun p q p1 p2 p3 => ?_; rw [iL (by omega) h1 (by omega), iL (by omega) h1 (by omega), if_neg (show ¬ q < a by omega), if_neg (show ¬ p < a by omega)]; by_cases hq : q < a + (e - (a + 1))
  . rw [if_pos hq, if_pos (by omega)]; exact hB _ _ (by omega) (by omega) (by omega)
  rw [if_neg hq]; by_cases wE : q < e
  . rw [if_pos wE, if_pos (by omega)]; exact W.asym _ _ (bR _ _ (by omega) (by omega) (by omega) (by omega))
  rw [if_neg wE]; by_cases hp : p < a + (e - (a + 1))
  . rw [if_pos hp]; exact hB _ _ (by omega) (by omega) p3
  rw [if_neg hp]; by_cases X2 : p < e
  . rw [if_pos X2, show a + (p - (a + (e - (a + 1)))) = a by omega]; exact W.neg _ _ _ (hB.le W (p := e) (q := q) h1 (by omega) p3) (hx (by omega))
  rw [if_neg X2]; exact hB _ _ (by omega) p2 p3
theorem XN (W : dO lt) (h1 : a <= s) (h2 : s <= m) (hA : dP lt d ys a m) (hb : m + 1 <= ys.length) (hx : a < s -> lt (ys.getD m d) (ys.getD (s - 1) d) = false) (hy : s < m -> lt (ys.getD m d) (ys.getD s d) = true) : cT ys s m (m + 1) = bI lt ys a (m + 1) := by
  have C : Cut lt d ys a m (m + 1) s (m + 1) := ⟨⟨h2, by omega, h1, Nat.le_refl _⟩, fun _ h => by omega, fun h _ => hy h⟩; have hB : dP lt d ys m (m + 1) := dP.short (Nat.le_refl _); have bR := C.strict W hA hB; refine z7 W (d := d) (by omega) hb (C.rG W hA hB hb) fun p q p1 p2 p3 => ?_; rw [iL h2 (by omega) (by omega), iL h2 (by omega) (by omega)]; by_cases hq : q < s
  . rw [if_pos hq, if_pos (by omega)]; exact hA _ _ p1 p2 (by omega)
  rw [if_neg hq]; by_cases wE : q < s + (m + 1 - m)
  . rw [if_pos wE, if_pos (by omega), show m + (q - s) = m by omega]; exact W.neg _ _ _ (hx (by omega)) (hA.le W (p := p) (q := s - 1) p1 (by omega) (by omega))
  rw [if_neg wE, if_pos (by omega)]; by_cases hp : p < s
  . rw [if_pos hp]; exact hA _ _ p1 (by omega) (by omega)
  rw [if_neg hp]; by_cases X2 : p < s + (m + 1 - m)
  . rw [if_pos X2]; exact W.asym _ _ (bR _ _ (by omega) (by omega) (by omega) (by omega))
  rw [if_neg X2, if_pos (by omega)]; exact hA _ _ (by omega) (by omega) (by omega)
theorem LN (W : dO lt) (C : Cut lt d ys a m b s e) (hA : dP lt d ys a m) (hB : dP lt d ys m b) (hb : b <= ys.length) {mid : Nat} (hm : mid = s + (e - m)) : bI lt (bI lt (cT ys s m e) a mid) mid b = bI lt ys a b := by
  subst hm; obtain ⟨c1, c2, c3, c4⟩ := C.le; exact XL W (C.rG W hA hB hb) (by omega) (by omega) hb (C.akK W hA hB hb)
theorem aeV (W : dO lt) (C : Cut lt d ys a m b s e) (hA : dP lt d ys a m) (hB : dP lt d ys m b) (hb : b <= ys.length) {mid : Nat} (hm : mid = s + (e - m)) (h : ¬ (a < s /\ s < mid)) : bI lt (cT ys s m e) a mid = cT ys s m e := by
  obtain ⟨c1, c2, c3, c4⟩ := C.le; obtain ⟨f1, f2, f3, f4⟩ := C.four hA hB hb; have hl := gB (ys := ys) c1 c2 (by omega : e <= ys.length); refine wY W (d := d) (by omega) (by omega) ?_; by_cases h1 : a < s
  . rw [show mid = s by omega]; exact f1
  rw [hm, show a = s by omega]; exact f2
theorem aeW (W : dO lt) (C : Cut lt d ys a m b s e) (hA : dP lt d ys a m) (hB : dP lt d ys m b) (hb : b <= ys.length) {mid : Nat} (hm : mid = s + (e - m)) (h : ¬ (mid < e /\ e < b)) : bI lt (cT ys s m e) a mid = bI lt ys a b := by
  obtain ⟨c1, c2, c3, c4⟩ := C.le; obtain ⟨f1, f2, f3, f4⟩ := C.four hA hB hb; have hl := gB (ys := ys) c1 c2 (by omega : e <= ys.length); have hs : lJ lt (cT ys s m e) (bI lt (cT ys s m e) a mid) a mid := gE W (by omega) (by omega); rw [<- LN W C hA hB hb hm]; refine (wY W (d := d) (by omega) (by rw [hs.len]; omega) fun p q p1 p2 p3 => ?_).symm; rw [hs.wW p1, hs.wW (by omega)]; by_cases h1 : mid < e
  . have : e = b := by omega
    subst this; subst hm; exact f3 p q p1 p2 p3
  have : mid = e := by omega
  rw [this] at p1; exact f4 p q p1 p2 p3
theorem abD (W : dO lt) (C : Cut lt d ys a m b s e) (hA : dP lt d ys a m) (hB : dP lt d ys m b) (hb : b <= ys.length) {mid : Nat} (hm : mid = s + (e - m)) : dP lt d (bI lt (cT ys s m e) a mid) mid e /\ dP lt d (bI lt (cT ys s m e) a mid) e b := by
  obtain ⟨c1, c2, c3, c4⟩ := C.le; obtain ⟨f1, f2, f3, f4⟩ := C.four hA hB hb; have hl := gB (ys := ys) c1 c2 (by omega : e <= ys.length); have hs : lJ lt (cT ys s m e) (bI lt (cT ys s m e) a mid) a mid := gE W (by omega) (by omega); refine ⟨fun p q p1 p2 p3 => ?_, fun p q p1 p2 p3 => ?_⟩
  . rw [hs.wW p1, hs.wW (by omega)]; exact f3 p q (by omega) p2 p3
  rw [hs.wW (by omega), hs.wW (by omega)]; exact f4 p q p1 p2 p3
def Blk (lt : α -> α -> Bool) (d : α) (ys : List α) (z n : Nat) : Prop := ∀ p q, p < q -> q < n -> p / z = q / z -> lt (ys.getD q d) (ys.getD p d) = false
theorem vN (W : dO lt) {z c : Nat} (h : Blk lt d ys z a) (hz : 0 < z) (ha : a = c * z) (uS : a <= b) (hb : b <= a + z) (hl : b <= ys.length) : Blk lt d (bI lt ys a b) z b := fun p q p1 p2 p3 => by
  have hs : lJ lt ys (bI lt ys a b) a b := gE W uS hl; by_cases hq : q < a
  . rw [hs.below hq, hs.below (by omega)]; exact h p q p1 hq p3
  by_cases hp : p < a
  . exfalso; have h1 : q / z = c := Nat.div_eq_of_lt_le (by omega) (by rw [Nat.add_mul]; omega); rw [h1] at p3; have h2 := Nat.div_mul_le_self p z
    have h3 : p < c * z := by omega
    have h4 : p / z < c := (Nat.div_lt_iff_lt_mul hz).2 h3; omega
  exact z8 W uS hl p q (by omega) p1 p2
theorem XO (W : dO lt) {z b' : Nat} (h : ∀ p q, a <= p -> p < q -> q < n -> p / z = q / z -> lt (ys.getD q d) (ys.getD p d) = false) (uS : a <= b') (hl : b' <= ys.length) : ∀ p q, b' <= p -> p < q -> q < n -> p / z = q / z -> lt ((bI lt ys a b').getD q d) ((bI lt ys a b').getD p d) = false := fun p q p1 p2 p3 p4 => by
  have hs : lJ lt ys (bI lt ys a b') a b' := gE W uS hl; rw [hs.wW p1, hs.wW (by omega)]; exact h p q (by omega) p2 p3 p4
theorem aeX (W : dO lt) {xs : List α} {z : Nat} (h : Blk lt d ys z ys.length) (hz : ys.length <= z) (hs : bC lt xs ys) (hl : ys.length = xs.length) : ys = lA lt xs := by
  have h1 : dP lt d ys 0 ys.length := fun p q _ p2 p3 => h p q p2 p3 (by rw [Nat.div_eq_of_lt (by omega), Nat.div_eq_of_lt (by omega)]); have h2 := OS (Nat.le_refl _) h1; rw [List.take_length, List.drop_zero] at h2; exact (GK W h2 hs).symm
end Go.Fs
namespace Go.Fs
variable {P : Program} {orc : FuncId -> List Value -> aA -> Option (Value × aA)} {h h' h0 h1 h2 : aA} {S S' S0 B G : List Nat} {σ aQ oI : aX} {t t' : Tr} {ms : List Nat} {fl : VL} {ops : Array Oper} {n i mem : Nat} {l : List Oper} {K : VL -> aX -> Prop} {Q : Ex -> VL -> aX -> Prop}
  {d : Tmp} {ty : TypeId} {pos : String} {after : Array Edge} {op : Op} {v pv : PV} {g : Option (Nat × Bool)} {x y z : Operand} {T T' e : TypeId} {τ τ' : Ty} {w : Value}
theorem aI.R6 {p q : Int} (hx : aY fl x = some (.v (.int .u64) p)) (hy : aY fl y = some (.v (.int .u64) q)) (hq : 0 <= q /\ q <= 64) : aI P fl σ (.binOp .shr T x y T') (.v (.int .u64) (p.fdiv (2 ^ q.toNat))) :=
  .sX hx hy (u := .int .u64 (p.fdiv (2 ^ q.toNat))) (by have this : min q.toNat IntKind.u64.bits = q.toNat := Nat.min_eq_left (show q.toNat <= 64 by omega); show (aE P (Op.shift .shr .u64 p .u64 q)).bind _ = _; unfold Op.shift; rw [if_neg (by omega)]; simp only [this]; rfl) fun h S => aG.ofInt _ _
theorem oY (i j : Nat) : (((i : Nat) : Int) + ((j : Nat) : Int)).fdiv (2 ^ (1 : Int).toNat) = (((i + j) / 2 : Nat) : Int) := by
  have e : (2 ^ (1 : Int).toNat : Int) = 2 := by decide
  rw [e, Int.fdiv_eq_ediv_of_nonneg _ (by decide)]; omega
theorem dC.q6 {xs : List τ.den} {j : Nat} (d : τ.den) (hx : aY fl x = some (.raw (iO w τ.size j))) (hm : (w, Cell.row T τ xs) ∈ σ) (hT : fL P T τ) (hj : j < xs.length) : dC P fl σ (.load T x) (.v τ (xs.getD j d)) := by
  rw [eC xs d hj]; exact dC.ldO hx hm hT hj
theorem cR.same (hg : ∀ b o, h.get b = some o -> h2.get b = some o) : ∀ {τ : Ty} {cs : List Value} {x y : τ.den}, cR h S τ cs x -> cR h2 S' τ cs y -> x = y := by
  intro τ
  induction τ with
  | int k => intro cs x y hx hy; have FQ : cs = [.int k x] := hx; have zA : cs = [.int k y] := hy; rw [FQ] at zA; simpa using zA
  | bool => intro cs x y hx hy; have FQ : cs = [.bool x] := hx; have zA : cs = [.bool y] := hy; rw [FQ] at zA; simpa using zA
  | str => intro cs x y hx hy; have FQ : cs = [.string x] := hx; have zA : cs = [.string y] := hy; rw [FQ] at zA; simpa using zA
  | bQ k => intro cs x y hx hy; have FQ : cs = [.float k x] := hx; have zA : cs = [.float k y] := hy; rw [FQ] at zA; simpa using zA
  | unit => intro cs x y _ _; rfl
  | fn =>
    intro cs x y hx hy; have FQ : cs = [SV x] := hx; have zA : cs = [SV y] := hy; rw [FQ] at zA
    have h3 : SV x = SV y := by simpa using zA
    cases x with
    | none => cases y with
      | none => rfl
      | some b => cases h3
    | some a => cases y with
      | none => cases h3
      | some b => injection h3 with h4; injection h4 with h5; rw [h5]
  | jT =>
    intro cs x y hx hy; have FQ : cs = [E1 x] := hx; have zA : cs = [E1 y] := hy; rw [FQ] at zA
    have h3 : E1 x = E1 y := by simpa using zA
    cases x with
    | none => cases y with
      | none => rfl
      | some b => cases h3
    | some a => cases y with
      | none => cases h3
      | some b =>
        obtain ⟨a1, a2⟩ := a; obtain ⟨b1, b2⟩ := b; simp only [E1, Value.slice.injEq, Option.some.injEq, Addr.mk.injEq, and_true, true_and] at h3
        rw [h3.1, h3.2]
  | pair a b wP wQ => intro cs x y hx hy; exact Prod.ext (wP hx.1 hy.1) (wQ hx.2 hy.2)
  | sl e ih =>
    rintro cs x y ⟨v, h1, hv⟩ ⟨v', nR, nJ⟩
    obtain rfl : v = v' := by rw [h1] at nR; simpa using nR
    have key : List.length (x : List e.den) = List.length (y : List e.den) /\ ∀ i (hi : i < List.length (x : List e.den)) (hj : i < List.length (y : List e.den)), (x : List e.den)[i] = (y : List e.den)[i] := by
      rcases hv with ⟨rfl, rfl⟩ | ⟨b, o, mk, rfl, hv⟩
      . rcases nJ with ⟨_, rfl⟩ | ⟨_, _, _, h3, _⟩
        . exact ⟨rfl, fun i hi => absurd hi (Nat.not_lt_zero i)⟩
        cases h3
      rcases nJ with ⟨h3, _⟩ | ⟨b', o', mk', h3, nJ⟩
      . cases h3
      injection h3 with h4 h5 h6; injection h4 with h7; injection h7 with h8 h9 h10; subst h8; subst h9; refine ⟨h5, fun i hi hj => ?_⟩; rcases hv with rfl | ⟨_, e1, rs, ow, mo, g1, _, g3⟩
      . exact absurd hi (Nat.not_lt_zero i)
      rcases nJ with rfl | ⟨_, e1', SY, ow', mo', g1', _, g3'⟩
      . exact absurd hj (Nat.not_lt_zero i)
      have R7 := hg _ _ g1; rw [g1'] at R7; injection R7 with h12; injection h12 with _ h13; subst h13; exact ih (g3 i hi) (g3' i hj)
    exact List.ext_getElem key.1 key.2
  | mp a b wP wQ =>
    rintro cs x y ⟨v, h1, hv⟩ ⟨v', nR, nJ⟩
    obtain rfl : v = v' := by rw [h1] at nR; simpa using nR
    have key : List.length (x : List (a.den × b.den)) = List.length (y : List (a.den × b.den)) /\ ∀ i (hi : i < List.length (x : List (a.den × b.den))) (hj : i < List.length (y : List (a.den × b.den))), (x : List (a.den × b.den))[i] = (y : List (a.den × b.den))[i] := by
      rcases hv with ⟨rfl, rfl⟩ | ⟨bb, es, c, rfl, _, g1, g2, g3⟩
      . rcases nJ with ⟨_, rfl⟩ | ⟨_, _, _, h3, _⟩
        . exact ⟨rfl, fun i hi => absurd hi (Nat.not_lt_zero i)⟩
        cases h3
      rcases nJ with ⟨h3, _⟩ | ⟨b', eL, c', h3, _, g1', g2', g3'⟩
      . cases h3
      injection h3 with h4; injection h4 with h5; subst h5; have R7 := hg _ _ g1; rw [g1'] at R7; injection R7 with h12; injection h12 with h13 _; subst h13; refine ⟨g2.symm.trans g2', fun i hi hj => ?_⟩; have q1 := g3 i hi (by omega); have q2 := g3' i hj (by omega); exact Prod.ext (wP q1.1.2 q2.1.2) (wQ q1.2.2 q2.2.2)
    exact List.ext_getElem key.1 key.2
theorem bS.row_one (hg : ∀ b o, h.get b = some o -> h2.get b = some o) {ys zs : List τ.den} (h1 : bS h S w (.row e τ ys)) (h3 : bS h2 S' w (.row e τ zs)) : ys = zs := by
  rcases h1 with ⟨rfl, rfl⟩ | ⟨b, rs, m, rfl, _, g1, g2⟩
  . rcases h3 with ⟨_, rfl⟩ | ⟨_, _, _, h3, _⟩
    . rfl
    cases h3
  rcases h3 with ⟨h3, _⟩ | ⟨b', SY, m', h3, _, g1', g2'⟩
  . cases h3
  injection h3 with h4 h5 h6; injection h4 with h7; injection h7 with h8; subst h8; have R7 := hg _ _ g1; rw [g1'] at R7; injection R7 with h12; injection h12 with _ h13; subst h13; exact List.ext_getElem h5 fun i hi hj => cR.same hg (g2.2 i hi) (g2'.2 i hj)
def akL (fn : Func) (w : Value) (e : TypeId) (τ : Ty) (zs : List τ.den) : Ex -> VL -> aX -> Prop := fun ex _ σ => ex.kB = true /\ fn.results = #[] /\ σ = [(w, .row e τ zs)]
theorem gS.AB {f : FuncId} {args : List PV} {fn : Func} {c : Code} {ys zs : List τ.den} (l5 : P.funcs[f]? = some fn) (hc : fn.body = some c) (ho : ∀ us h, orc f us h = none) (hn : (Nat.blt 4000 fn.ntmps || Nat.blt fn.ntmps args.length) = false)
    (hb : U P orc none c fn.ntmps (pJ 0 args) [(w, .row e τ ys)] (akL fn w e τ zs)) : gS P orc f args [(w, .row e τ ys)] (fun r g => r = .kL [] /\ g = [(w, .row e τ zs)]) := fun h S us bW hS dD jT yR ha => by
  have hl := ha.len
  have tO : Nat.blt 4000 fn.ntmps = false /\ Nat.blt fn.ntmps args.length = false := by simpa using hn
  have n3 := j8 tO.1; have n4 := j8 tO.2; have mI : bA (entry h) (own [(w, .row e τ ys)] ++ S) args us := bA.nx (h := h) (h' := entry h) (fun _ _ a b => ⟨a, b⟩) ha
  have I0 : Iv (entry h) (own [(w, .row e τ ys)]) S (entry h) [(w, .row e τ ys)] (kZ .leaf 0 us) [] (pJ 0 args) := {
    ok := bW
    s0 := hS.1
    gC := cO.refl _ _
    cells := fun c hc => (dD c hc).aW (fun _ _ => rfl) (fun _ _ a b => ⟨a, b⟩) fun b hb => List.mem_append_left _ (List.mem_flatMap.2 ⟨c, hc, hb⟩)
    new := fun b hb => ⟨.inl hb, yR b hb⟩
    apart := jT
    mark := fun d hd => by cases hd
    marks := List.nodup_nil
    aH := oX (hS.2.ent dD) mI (by omega) }
  refine rC.enter l5 hc (ho us h) (by rw [hl]; exact hn) ((hb (entry h) (own [(w, .row e τ ys)]) S _ (entry h) [] I0).mono fun ex fr h1 hq => ?_); obtain ⟨_, eQ, aQ, jH, he, hr, rfl⟩ := hq; obtain ⟨h2, d1, d2, d3⟩ := sD jH.marks fun d hd => (jH.mark d hd).2
  have jU : ∀ b o, h1.get b = some o -> o ≠ .iR -> h2.get b = some o := fun b o hg cM => by
    rw [d3 b (fun hm => cM (by have := (jH.mark b hm).2; rw [hg] at this; exact Option.some.inj this))]; exact hg
  have a2 : cO (entry h) h2 (own [(w, .row e τ ys)]) := jH.gC.trans d2 fun i hi => .inr (jH.mark i hi).1
  have u9 : bS h2 (own [(w, .row e τ zs)] ++ S) w (.row e τ zs) := by
    have hx : bS h1 (own [(w, .row e τ zs)] ++ S) w (.row e τ zs) := jH.cells _ List.mem_cons_self; have hN : pI h1 (own [(w, .row e τ zs)] ++ S) h2 (own [(w, .row e τ zs)] ++ S) := fun b _ hg cM sN => ⟨jU b _ hg cM, sN⟩; rcases hx with hx | ⟨b, rs, m, h3, h4, h5, h6⟩
    . exact .inl hx
    exact .inr ⟨b, rs, m, h3, h4, jU b _ h5 (by simp), h6.1, fun i hi => (h6.2 i hi).mG hN⟩
  have kK : own [(w, Cell.row e τ zs)] = own [(w, Cell.row e τ ys)] := rfl; have Z8 : ∀ hh SS, aJ hh SS (.kL []) (iM []) := fun hh SS => ⟨[], rfl, rfl⟩; refine ⟨he, h2, [], d1, by rw [hr]; rfl, ?_⟩; unfold leftOf
  cases pW : (af (iM []) && Nat.ble h.next h2.low) with
  | true =>
    obtain ⟨_, dV⟩ := b6 pW; have dV := fP dV
    have k8 : ∀ b, b < h.next -> h2.get b = h.get b := fun b hb => by
      rcases a2.chg b hb with h3 | h3
      . exact h3
      omega
    have e0 : ys = zs := bS.row_one (fun b o hg => by rw [k8 b (bW b o hg)]; exact hg) (dD _ List.mem_cons_self) u9; subst e0
    exact ⟨.kL [], _, ⟨rfl, rfl⟩, ⟨cO.refl _ _, fun b hb => .inl hb, jT, dD⟩, Z8 _ _⟩
  | false =>
    refine ⟨.kL [], _, ⟨rfl, rfl⟩, ⟨⟨a2.next, a2.get, fun x => a2.ok x, fun e h3 h4 h5 => Nat.le_min.2 ⟨h3, a2.low e h4 h4 h5⟩, fun b hb => ?_, Nat.min_le_left _ _⟩, fun b hb => .inl hb, jT, fun c hc => ?_⟩, Z8 _ _⟩
    . rcases a2.chg b hb with h3 | h3
      . exact .inl h3
      exact .inr (Nat.le_trans (Nat.min_le_right _ _) h3)
    rw [List.mem_singleton.1 hc]; exact u9.aW (fun _ _ => rfl) (fun _ _ a b => ⟨a, b⟩) fun b hb => List.mem_append_left _ (by rw [show own [(w, Cell.row e τ zs)] = cW w from by simp [own]]; exact hb)
end Go.Fs
namespace Go.Fs
variable {P : Program} {orc : FuncId -> List Value -> aA -> Option (Value × aA)} {b7 : Option Nat} {h h' h0 h1 h2 : aA} {S S' S0 B G : List Nat} {σ aQ oI : aX} {t t' : Tr} {ms : List Nat} {fl : VL} {ops : Array Oper} {n i mem : Nat} {l : List Oper} {K : VL -> aX -> Prop} {Q : Ex -> VL -> aX -> Prop}
  {d : Tmp} {ty : TypeId} {pos : String} {after : Array Edge} {op : Op} {v pv : PV} {g : Option (Nat × Bool)} {x y z : Operand} {T T' e : TypeId} {τ τ' : Ty} {w : Value}
theorem U.ahT {c : Code} {xs : List τ.den} {k : Nat} (hk : xs.length = k) (hx : U P orc b7 c n fl ((w, .row e τ xs) :: σ) Q) : U P orc b7 c n fl ((w, .cap e k τ xs) :: σ) Q := fun h0 G S0 t h ms I => by
  refine hx h0 G S0 t h ms { I with cells := fun c hc => ?_, new := I.new, apart := I.apart, aH := I.aH }; rcases List.mem_cons.1 hc with rfl | hc
  . obtain ⟨b, rs, m, h1, h2, h3, h4, h5, h6⟩ := I.cells _ List.mem_cons_self; subst hk; exact .inr ⟨b, rs, m, h1, h2, h3, by rwa [List.take_of_length_le (Nat.le_of_eq h4)] at h6⟩
  exact I.cells c (List.mem_cons_of_mem _ hc)
theorem mL.cellsOf {v : Value} {ys : List τ.den} (hv : mL h S τ v ys) (hp : 0 < τ.size) : q4 v = some ys.length /\ ∃ vs, Fs.cellsOf τ.size ys.length v h = some vs /\ cE h S τ vs ys := by
  rcases hv with ⟨rfl, rfl⟩ | ⟨b, o, mk, rfl, hv⟩
  . exact ⟨rfl, [], rfl, cE.nil⟩
  refine ⟨rfl, ?_⟩
  have e1 : Nat.ble ys.length ys.length = true := by rw [Nat.ble_eq]; exact Nat.le_refl _
  by_cases hz : ys.length = 0
  . obtain rfl := List.eq_nil_of_length_eq_zero hz; refine ⟨[], ?_, cE.nil⟩; simp only [Fs.cellsOf, List.length_nil, Nat.zero_mul]; rfl
  rcases hv with rfl | ⟨h1, e', rs, own, more, h2, h3, h4⟩
  . exact absurd rfl hz
  have e2 : Nat.beq (ys.length * τ.size) 0 = false := eD (Nat.ne_of_gt (Nat.mul_pos (Nat.pos_of_ne_zero hz) hp))
  have e3 : Nat.ble (o + ys.length * τ.size) rs.length = true := by rw [Nat.ble_eq]; exact h3
  refine ⟨(rs.drop o).take (ys.length * τ.size), ?_, ?_, fun i hi => ?_⟩
  . simp only [Fs.cellsOf, e1, cond_true, e2, cond_false, h2, e3]
  . rw [List.length_take, List.length_drop]; omega
  have h9 : (i + 1) * τ.size <= ys.length * τ.size := Nat.mul_le_mul_right _ hi; rw [Nat.add_mul, Nat.one_mul] at h9; have := h4 i hi; rw [List.drop_take, List.take_take, List.drop_drop, Nat.min_eq_left (by omega)]; exact this
theorem cA.akM {xs ys : List τ.den} (hT : eX P T e τ) (hl : ys.length = xs.length) (hx : aY fl x = some (.raw w)) (hy : aY fl y = some (.v (.sl τ) ys)) :
    cA P fl ((w, .row e τ xs) :: σ) (.call { callee := .builtin .copy, args := #[x, y], argTypes := #[T, T'] }) fun v aQ => v = .v (.int .i64) ((ys.length : Nat) : Int) /\ aQ = (w, .row e τ ys) :: σ :=
  ⟨rfl, fun S0 h t L => by
    have h1 : aC t x = w := eH L.aH hx; have hu := (eH L.aH hy : aG h _ (.sl τ) (aC t y) ys).sl; obtain ⟨i, z, nZ, lU, EB, vJ, wT, EC, KV⟩ := hT.sl.info; obtain ⟨c1, vs, c2, c3⟩ := hu.cellsOf hT.sl.pos; have S3 : Nat.min ys.length xs.length = ys.length := Nat.min_eq_left (Nat.le_of_eq hl); have PO : vs.length = ys.length * τ.size := c3.1; have hvo : vs.all aU = true := cE.oC _ _ c3; rcases L.cells _ List.mem_cons_self with ⟨hw, rfl⟩ | ⟨b, rs, m, h3, h4, h5, h6⟩
    . obtain rfl := List.eq_nil_of_length_eq_zero hl; have hw' : w = .slice none 0 0 := hw; obtain rfl := List.eq_nil_of_length_eq_zero (by rw [PO]; simp : vs.length = 0); refine ⟨.int .i64 ((0 : Nat) : Int), h, .v (.int .i64) ((0 : Nat) : Int), _, ⟨rfl, rfl⟩, Made.same L (cO.refl _ _), aG.ofInt _ _, fun _ _ _ _ _ => ?_⟩; show (rT P #[T, T'] (aC t x) (aC t y) h) = _; rw [h1, hw']; have c1' : q4 (aC t y) = some 0 := c1; have oN : Fs.cellsOf τ.size 0 (aC t y) h = some [] := c2; simp only [rT, List.getElem?_toArray, List.getElem?_cons_zero, hT.sl.sl, nZ, c1', show q4 (.slice none 0 0) = some 0 from rfl, lU, show Nat.min 0 0 = 0 from rfl, oN, List.length_nil, Nat.zero_mul]; rfl
    have hw : w = _ := h3
    have pY : cW w = [b] := by rw [hw]; rfl
    have CJ := h6.1; have jQ : cE h (own ((w, Cell.row e τ xs) :: σ) ++ S0) τ vs ys := c3; by_cases hz : ys.length = 0
    . obtain rfl := List.eq_nil_of_length_eq_zero hz; obtain rfl := List.eq_nil_of_length_eq_zero (by rw [<- hl]; rfl : xs.length = 0); refine ⟨.int .i64 ((0 : Nat) : Int), h, .v (.int .i64) ((0 : Nat) : Int), _, ⟨rfl, rfl⟩, Made.same L (cO.refl _ _), aG.ofInt _ _, fun _ _ _ _ _ => ?_⟩; show (rT P #[T, T'] (aC t x) (aC t y) h) = _; rw [h1, hw]; obtain rfl := List.eq_nil_of_length_eq_zero (by rw [PO]; simp : vs.length = 0); have c1' : q4 (aC t y) = some 0 := c1; have oN : Fs.cellsOf τ.size 0 (aC t y) h = some [] := c2; simp only [rT, List.getElem?_toArray, List.getElem?_cons_zero, hT.sl.sl, nZ, c1', List.length_nil, show ∀ q m, q4 (.slice q 0 m) = some 0 from fun _ _ => rfl, lU, show Nat.min 0 0 = 0 from rfl, oN, Nat.zero_mul]; rfl
    refine ⟨.int .i64 ((ys.length : Nat) : Int), h.set b (.row e vs true m), .v (.int .i64) ((ys.length : Nat) : Int), _, ⟨rfl, rfl⟩, Made.head L (cO.set h5 (by rw [pY]; simp)) (fun b hb => .inl hb) (by rw [pY]; simp) fun hN => ?_, aG.ofInt _ _, fun _ _ _ _ _ => ?_⟩
    . refine .inr ⟨b, _, m, by rw [hl]; exact h3, ?_, by rw [aA.cZ h5, if_pos rfl], jQ.nx hN⟩; rw [bE]; exact List.mem_append_left _ (List.mem_append_left _ (by rw [pY]; simp))
    show (rT P #[T, T'] (aC t x) (aC t y) h) = _; have e2 : Nat.beq (ys.length * τ.size) 0 = false := eD (Nat.ne_of_gt (Nat.mul_pos (Nat.pos_of_ne_zero hz) hT.sl.pos))
    have e3 : Nat.ble (0 + ys.length * τ.size) rs.length = true := by rw [Nat.ble_eq, CJ, hl]; omega
    have e4 : Nat.beq vs.length (ys.length * τ.size) = true := by rw [PO]; exact Nat.beq_refl _
    have e5 : cU rs 0 vs = vs := SZ (by rw [PO, CJ, hl]); rw [h1, hw]; simp only [rT, List.getElem?_toArray, List.getElem?_cons_zero, hT.sl.sl, nZ, c1, show ∀ q m, q4 (.slice q xs.length m) = some xs.length from fun _ _ => rfl, lU]
    simp only [show Nat.min ys.length xs.length = ys.length from S3, c2, e4, hvo, Bool.and_self, cond_true, e2, cond_false, h5, e3, e5]⟩
theorem J.copy {xs ys : List τ.den} (hx : aY fl x = some (.raw w)) (hy : aY fl y = some (.v (.sl τ) ys)) (hT : eX P T e τ) (hl : ys.length = xs.length) (hk : J P orc ops n l ((d, .v (.int .i64) ((ys.length : Nat) : Int)) :: fl) ((w, .row e τ ys) :: σ) K) (hw : cX ops fl g = some true := by rfl) (hn : (Nat.blt d n && Nat.ble n 4000) = true := by rfl) :
    J P orc ops n (⟨some d, .call { callee := .builtin .copy, args := #[x, y], argTypes := #[T, T'] }, ty, pos, after, g⟩ :: l) fl ((w, .row e τ xs) :: σ) K :=
  J.mk (cA.akM hT hl hx hy) (by rintro _ _ ⟨rfl, rfl⟩; exact hk) hw hn
end Go.Fs
namespace Go.Fs
variable {P : Program} {orc : FuncId -> List Value -> aA -> Option (Value × aA)} {b7 : Option Nat} {h h' h0 h1 h2 : aA} {S S' S0 B G : List Nat} {σ aQ oI : aX} {t t' : Tr} {ms : List Nat} {fl : VL} {ops : Array Oper} {n i mem : Nat} {l : List Oper} {K : VL -> aX -> Prop} {Q : Ex -> VL -> aX -> Prop}
  {d : Tmp} {ty : TypeId} {pos : String} {after : Array Edge} {op : Op} {v pv : PV} {g : Option (Nat × Bool)} {x y z : Operand} {T T' e : TypeId} {τ τ' : Ty} {w : Value}
inductive TU : (τ : Ty) -> τ.den -> Nat -> (τ' : Ty) -> τ'.den -> τ.den -> Prop where
  | o {τ : Ty} {x y : τ.den} : TU τ x 0 τ y y
  | l {a b : Ty} {x : (Ty.pair a b).den} {k : Nat} {τ' : Ty} {y : τ'.den} {z : a.den} (hs : TU a x.1 k τ' y z) : TU (.pair a b) x k τ' y (z, x.2)
  | r {a b : Ty} {x : (Ty.pair a b).den} {k k' : Nat} {τ' : Ty} {y : τ'.den} {z : b.den} (hs : TU b x.2 k τ' y z) (hk : k' = a.size + k := by rfl) : TU (.pair a b) x k' τ' y (x.1, z)
end Go.Fs
namespace Go.Fs
variable {P : Program} {orc : FuncId -> List Value -> aA -> Option (Value × aA)} {b7 : Option Nat} {h h' h0 h1 h2 : aA} {S S' S0 B G : List Nat} {σ aQ oI : aX} {t t' : Tr} {ms : List Nat} {fl : VL} {ops : Array Oper} {n i mem : Nat} {l : List Oper} {K : VL -> aX -> Prop} {Q : Ex -> VL -> aX -> Prop}
  {d : Tmp} {ty : TypeId} {pos : String} {after : Array Edge} {op : Op} {v pv : PV} {g : Option (Nat × Bool)} {x y z : Operand} {T T' e : TypeId} {τ τ' : Ty} {w : Value}
end Go.Fs
namespace Go.Fs
variable {P : Program} {orc : FuncId -> List Value -> aA -> Option (Value × aA)} {b7 : Option Nat} {h h' h0 h1 h2 : aA} {S S' S0 B G : List Nat} {σ aQ oI : aX} {t t' : Tr} {ms : List Nat} {fl : VL} {ops : Array Oper} {n i mem : Nat} {l : List Oper} {K : VL -> aX -> Prop} {Q : Ex -> VL -> aX -> Prop}
  {d : Tmp} {ty : TypeId} {pos : String} {after : Array Edge} {op : Op} {v pv : PV} {g : Option (Nat × Bool)} {x y z : Operand} {T T' e : TypeId} {τ τ' : Ty} {w : Value} {ρ : aX} {bs nw : List Nat} {tl : Bool}
theorem NI {i : TypeInfo} {b m : Nat} {news : List Value} {u : Value} (hp : 0 < i.size) (hg : h.get b = some (.row e [] true false)) (hf : kX e i (.slice (some ⟨b, 0, none⟩) 0 0) m news h = some (u, h')) : h.low <= h'.low := by
  unfold kX at hf
  have z1 : (Nat.beq m 0 && Nat.beq 0 1) = false := by rw [show Nat.beq 0 1 = false from rfl]; simp
  simp only [z1, cond_false, hg] at hf; obtain ⟨_, hf⟩ := aT hf; simp only [show Nat.beq 0 1 = false from rfl, show Nat.beq 0 0 = true from rfl, Bool.and_self, cond_false, cond_true] at hf
  cases hb : Nat.ble (0 + (0 + m) * i.size) ([] : List Value).length with
  | true =>
    rw [hb] at hf; have h1 := fP hb
    have hm : m = 0 := by
      simp only [Nat.zero_add, List.length_nil, Nat.le_zero_eq, Nat.mul_eq_zero] at h1; omega
    subst hm; simp only [cond_true, show Nat.beq 0 0 = true from rfl, Option.some.injEq, Prod.mk.injEq] at hf
    rw [<- hf.2]; exact Nat.le_refl _
  | false =>
    rw [hb] at hf; simp only [cond_false, Bool.not_false, cond_true, Option.some.injEq] at hf; unfold grown at hf; simp only [Prod.mk.injEq] at hf; rw [<- hf.2]; exact Nat.le_refl _
theorem IM {b : Nat} {xv u : Value} (hT : eX P T e τ) (sY : eX P T' e τ) (hg : h.get b = some (.row e [] true false)) (hf : dQ P #[T, T'] (.slice (some ⟨b, 0, none⟩) 0 0) xv h = some (u, h')) : h.low <= h'.low := by
  obtain ⟨i, z, nZ, lU, EB, vJ, wT, _⟩ := hT.sl.info; have nF := hT.sl.pos; unfold dQ at hf; simp only [List.getElem?_toArray, List.getElem?_cons_zero, List.getElem?_cons_succ, hT.sl.sl, sY.sl.sl, nZ, wT] at hf; split at hf
  . obtain ⟨_, hf⟩ := aT hf; exact NI (by omega) hg hf
  cases hf
end Go.Fs
namespace Go.Fs
variable {P : Program} {O : FuncId -> List Value -> aA -> Option (Value × aA)} {h h' : aA} {S : List Nat}
end Go.Fs
namespace Go.Fs
open Go.RowKit (Below)
open Go.Sort Go.Proofs
abbrev Cl3 := Int × Int × ByteArray
def HP (x : Cl3) : List Value := [.int .i64 x.1, .int .i64 x.2.1, .string x.2.2]
theorem OW : ∀ xs : List Cl3, (xs.flatMap HP).length = xs.length * 3
  | [] => rfl
  | x :: r => by rw [List.flatMap_cons, List.length_append, OW r]; simp [HP]; omega
def jF (a b : Int) : Int := Lib.compareInt a b
variable {P : Program} {O : FuncId -> List Value -> aA -> Option (Value × aA)} {h h' : aA} {S : List Nat}
end Go.Fs
namespace Go.Fs
open Go.RowKit (Below)
open Go.Sort Go.Proofs Go.Shelf
variable {P : Program}
def aeY : FuncId -> List Value -> aA -> Option (Value × aA) := fun _ _ _ => none
theorem HQ {B : Nat} {w0 : World} : eN P B w0 aeY := fun f xs h v h' hf => by cases hf
theorem gQ (ys : List Cl3) : flatK HP 3 ys.toArray = (ys.flatMap HP).toArray := by
  refine ext_get! (by rw [size_flatK, List.size_toArray, List.size_toArray, OW]) fun t ht => ?_
  have ht' : t < ys.length * 3 := by simpa using ht
  rw [get_flatK _ _ _ _ (by simpa using ht')]
  have key : ∀ (zs : List Cl3) (t : Nat), t < zs.length * 3 -> (zs.flatMap HP)[t]! = (HP (zs[t / 3]!))[t % 3]! := by
    intro zs
    induction zs with
    | nil => intro t ht; simp at ht
    | cons z zs ih =>
      intro t ht; rw [List.flatMap_cons]; by_cases h3 : t < 3
      . have e1 : t / 3 = 0 := by omega
        have e2 : t % 3 = t := by omega
        rw [e1, e2]; simp [HP]; rcases t with _ | _ | _ | t
        . rfl
        . rfl
        . rfl
        omega
      obtain ⟨u, rfl⟩ : ∃ u, t = u + 3 := ⟨t - 3, by omega⟩
      have e1 : (u + 3) / 3 = u / 3 + 1 := by omega
      have e2 : (u + 3) % 3 = u % 3 := by omega
      rw [e1, e2]; have := ih u (by simp at ht; omega); simpa [HP] using this
  have := key ys t ht'; simpa using this.symm
end Go.Fs
namespace Go.Fs
open Go.RowKit (Below)
variable {P : Program}
def aeZ (fa : FuncId) (O : FuncId -> List Value -> aA -> Option (Value × aA)) : FuncId -> List Value -> aA -> Option (Value × aA) := fun f xs h =>
  bif Nat.beq f fa then
    match xs with
    | [] => some (.bool true, h)
    | _ => none
  else O f xs h
theorem TV {B : Nat} {w0 : World} {fa : FuncId} {O : FuncId -> List Value -> aA -> Option (Value × aA)} (hz : w0.drawn = 0) (hS : eN P B w0 O) (ha : Enters P fa)
    (hA : ∀ w, Below B w0 w -> Calls P fa #[] w fun | .returned v', w' => v' = .bool true /\ Below w.heap.size w w' | _, _ => False) : eN P B w0 (aeZ fa O) := by
  intro f xs h v h' hf; unfold aeZ at hf
  cases hb : Nat.beq f fa with
  | true =>
    have := bU hb; subst this; rw [hb] at hf; simp only [cond_true] at hf; split at hf
    . simp only [Option.some.injEq, Prod.mk.injEq] at hf; obtain ⟨rfl, rfl⟩ := hf; refine ⟨ha, fun ρ S w args' hr har nn => ?_⟩; have he : args' = [] := List.eq_nil_of_length_eq_zero har.1.symm; subst he; have hC : CallsIn Fence.wide nn P f #[] w _ := callsIn_wide.2 (hA w hr.below); refine hC.mono fun e w' KI => ?_
      cases e with
      | returned v' =>
        obtain ⟨rfl, hb⟩ := KI
        exact ⟨ρ, aZ.VM hr hb (by rw [hz]; exact Nat.zero_le _), .lit rfl⟩
      | panicked c => exact KI.elim
      | outgrown => exact KI.elim
    cases hf
  | false =>
    rw [hb] at hf; exact hS f xs h v h' hf
end Go.Fs
namespace Go.Proofs
open Go.Fs
def OA := aeZ 7 aeY
abbrev fK : Ty := (.sl (.int .i64))
abbrev LO : Ty := (.sl (.int .i64))
theorem bP : fL Tryz.prog 3 (.int .i64) := dW (by kernel_rfl)
theorem LP : fL Tryz.prog 44 (.int .i64) := dW (by kernel_rfl)
theorem dG : eX Tryz.prog 47 3 (.int .i64) := pG (by kernel_rfl)
theorem k9 : eX Tryz.prog 116 44 (.int .i64) := pG (by kernel_rfl)
def cJ (c : Bool) (e : Int) : Int := bif c then e else 0
theorem jL {c : Bool} {e : Int} : VF Tryz.prog OA 48 [B c, I e] (I (cJ c e)) := by
  refine VF.enter Tryz.func48 rfl (fun _ _ => rfl) rfl ?_; show U _ _ _ _ _ [(0, B c), (1, I e)] [] _; refine U.seq (U.text ?_); refine J.c (.assign rfl) ?_; refine J.go (U.seq (U.seq (U.text ?_))); refine J.c (.move rfl) (J.go ?_); refine U.eE rfl (fun c1 => ?_) (fun c1 => ?_)
  . subst c1; refine U.seq (U.text ?_); refine J.c (.move rfl) (J.c (.assign rfl) (J.go ?_)); refine U.ret ?_; exact aS.one rfl bO (dF (by rfl))
  subst c1; refine U.skip (U.seq (U.text ?_)); refine J.c (.assign rfl) (J.go ?_); refine U.ret ?_; exact aS.one rfl bO (dF (by rfl))
def aM (n lo hi : Int) : Int := if n < lo \/ hi < n then 3 else 0
theorem iE {n : Int} {lo : Int} {hi : Int} : VF Tryz.prog OA 39 [I n, I lo, I hi] (I (aM n lo hi)) := by
  refine VF.enter Tryz.func39 rfl (fun _ _ => rfl) rfl ?_; show U _ _ _ _ _ [(0, I n), (1, I lo), (2, I hi)] [] _; refine U.seq (U.text ?_); refine J.c (.assign rfl) ?_; refine J.go (U.seq (U.seq (U.text ?_))); refine J.c (.move rfl) (J.c (.move rfl) (J.c (.lss) (J.c (.move rfl) ?_))); refine J.cg (r := decide (n < lo)) (w := false) [] trivial (fun _ => (.move rfl)) ?_; refine J.cg (r := decide (n < lo)) (w := false) [] trivial (fun _ => (.move rfl)) ?_; refine J.cg (r := decide (n < lo)) (w := false) [(11, I n), (12, I hi)] ⟨rfl, rfl, trivial⟩ (fun _ => (.gtr)) ?_; refine J.c (.or) (J.go ?_); refine U.eE rfl (fun c1 => ?_) (fun c1 => ?_)
  . try simp only [Bool.and_eq_true, Bool.or_eq_true, Bool.and_eq_false_iff, Bool.or_eq_false_iff, Bool.not_eq_true', Bool.not_eq_false', decide_eq_true_eq, decide_eq_false_iff_not] at c1
    refine U.seq (U.text ?_); refine J.c (.assign rfl) (J.go ?_); refine U.ret ?_; exact aS.one rfl bO (dF (by simp only [aM, <- Bool.decide_or, decide_eq_true_eq, decide_eq_false_iff_not, Bool.or_eq_true, Bool.or_eq_false_iff] at *; first | rw [if_pos (by omega)] | rw [if_neg (by omega)]))
  try simp only [Bool.and_eq_true, Bool.or_eq_true, Bool.and_eq_false_iff, Bool.or_eq_false_iff, Bool.not_eq_true', Bool.not_eq_false', decide_eq_true_eq, decide_eq_false_iff_not] at c1
  refine U.skip (U.seq (U.text ?_)); refine J.c (.assign rfl) (J.go ?_); refine U.ret ?_; exact aS.one rfl bO (dF (by simp only [aM, <- Bool.decide_or, decide_eq_true_eq, decide_eq_false_iff_not, Bool.or_eq_true, Bool.or_eq_false_iff] at *; first | rw [if_pos (by omega)] | rw [if_neg (by omega)]))
theorem R8 {n lo hi : Int} : cJ (decide (n < lo) || decide (hi < n)) 3 = aM n lo hi := by
  unfold cJ aM; by_cases h1 : n < lo <;> by_cases h2 : hi < n <;> simp [h1, h2]
theorem gF {n : Int} {lo : Int} {hi : Int} : VF Tryz.prog OA 50 [I n, I lo, I hi] (I (aM n lo hi)) := by
  refine VF.enter Tryz.func50 rfl (fun _ _ => rfl) rfl ?_; show U _ _ _ _ _ [(0, I n), (1, I lo), (2, I hi)] [] _; refine U.seq (U.text ?_); refine J.c (.assign rfl) ?_; refine J.go (U.seq (U.text ?_)); refine J.c (.move rfl) (J.c (.move rfl) (J.c (.lss) (J.c (.move rfl) ?_))); refine J.cg (r := decide (n < lo)) (w := false) [] trivial (fun _ => (.move rfl)) ?_; refine J.cg (r := decide (n < lo)) (w := false) [] trivial (fun _ => (.move rfl)) ?_; refine J.cg (r := decide (n < lo)) (w := false) [(11, I n), (12, I hi)] ⟨rfl, rfl, trivial⟩ (fun _ => (.gtr)) ?_; refine J.c (.or) ?_; refine J.call rfl rfl (VF.call (jL )) ?_; refine J.c (.assign rfl) (J.go ?_); refine U.ret ?_; exact aS.one rfl bO (dF (by exact R8))
def aO : List Int -> Int
  | [] => 0
  | x :: r => if x = 0 then aO r else x
theorem nB {xs : List Int} {j : Nat} (hj : j < xs.length) : aO (xs.drop j) = if xs[j] = 0 then aO (xs.drop (j + 1)) else xs[j] := by
  rw [List.drop_eq_getElem_cons hj] <;> rfl
theorem zB {xs : List Int} {j : Nat} (hj : xs.length <= j) : aO (xs.drop j) = 0 := by rw [List.drop_eq_nil_of_le hj] <;> rfl
theorem fO {l : List Int} (hl : l.length < 1000000) : VF Tryz.prog OA 20 [.v LO l] (I (aO l)) := by
  refine VF.enter Tryz.func20 rfl (fun _ _ => rfl) rfl ?_; show U _ _ _ _ _ [(0, .v LO l)] [] _; refine U.seq (U.text ?_); refine J.c (.assign rfl) ?_; refine J.go (U.seq (U.seq (U.text ?_))); refine J.c (.move rfl) ?_; refine J.r (.len k9) ?_; refine J.c (.move rfl) ?_; refine J.go (U.block ?_); refine U.aW [(5, .v LO l), (6, I ((l.length : Nat) : Int)), (7, I ((0 : Nat) : Int))] ⟨rfl, rfl, rfl, trivial⟩ ?_; refine U.loop (I := fun kk ff ss => ∃ (j : Nat), kk = l.length - j /\ ff = [(5, .v LO l), (6, I ((l.length : Nat) : Int)), (7, I ((j : Nat) : Int))] /\ ss = [] /\ (j <= l.length) /\ (aO l = aO (l.drop j))) ?_ _ _ _ ⟨0, rfl, rfl, rfl, Nat.zero_le _, (by rfl)⟩; rintro kk ff ss ⟨j, iI, rfl, rfl, hj, hf⟩; refine U.seq (U.text ?_); refine J.c (.lss) ?_; refine J.go (U.seq ?_); refine U.aN rfl (fun c2 => ?_) (fun c2 => ?_)
  . refine U.skip (U.seq (U.block (U.seq (U.text ?_)))); refine J.c (.ix (j := j) rfl rfl k9 (by omega)) ?_; refine J.r (.ld LP) ?_; refine J.c (.assign rfl) ?_; refine J.go (U.seq (U.text ?_)); refine J.c (.move rfl) (J.c (.neq) (J.go ?_)); refine U.aN rfl (fun c4 => ?_) (fun c4 => ?_)
    . refine U.seq (U.text ?_); refine J.c (.move rfl) (J.c (.assign rfl) (J.go ?_)); refine U.ret ?_; exact aS.one rfl bO (dF (by rw [hf, nB (by omega), if_neg c4]))
    refine U.skip (U.text ?_); refine J.c (.add rfl rfl (by omega)) (J.c (.move rfl) ?_); refine J.nil ?_; refine ⟨_, [(5, .v LO l), (6, I ((l.length : Nat) : Int)), (7, I (((j + 1) : Nat) : Int))], ?_, ⟨rfl, rfl, rfl, trivial⟩, (j + 1), rfl, rfl, rfl, (by omega), (by rw [hf, nB (by omega), if_pos (by simpa using c4)])⟩; omega
  refine U.exit (U.seq (U.text ?_)); refine J.c (.assign rfl) (J.go ?_); refine U.ret ?_; exact aS.one rfl bO (dF (by rw [hf, zB (by omega)]))
theorem CS {l : List Int} (hl : l.length < 1000000) : VF Tryz.prog OA 38 [.v fK l] (I (aO l)) := by
  refine VF.enter Tryz.func38 rfl (fun _ _ => rfl) rfl ?_; show U _ _ _ _ _ [(0, .v fK l)] [] _; refine U.seq (U.text ?_); refine J.c (.assign rfl) ?_; refine J.go (U.seq (U.seq (U.text ?_))); refine J.c (.assign rfl) ?_; refine J.go (U.block ?_); refine U.aW [(0, .v fK l), (3, I ((0 : Nat) : Int))] ⟨rfl, rfl, trivial⟩ ?_; refine U.loop (I := fun kk ff ss => ∃ (j : Nat), kk = l.length - j /\ ff = [(0, .v fK l), (3, I ((j : Nat) : Int))] /\ ss = [] /\ (j <= l.length) /\ (aO l = aO (l.drop j))) ?_ _ _ _ ⟨0, rfl, rfl, rfl, Nat.zero_le _, (by rfl)⟩; rintro kk ff ss ⟨j, iI, rfl, rfl, hj, hf⟩; refine U.seq (U.seq (U.text ?_)); refine J.c (.move rfl) (J.c (.move rfl) ?_); refine J.r (.len dG) ?_; refine J.c (.lss) (J.go ?_); refine U.aN rfl (fun c2 => ?_) (fun c2 => ?_)
  . refine U.skip (U.seq (U.block (U.seq (U.text ?_)))); refine J.c (.move rfl) (J.c (.move rfl) (J.c (.ix (j := j) rfl rfl dG (by omega)) ?_)); refine J.r (.ld bP) ?_; refine J.c (.neq) (J.go ?_); refine U.aN rfl (fun c4 => ?_) (fun c4 => ?_)
    . refine U.seq (U.text ?_); refine J.c (.move rfl) (J.c (.move rfl) (J.c (.ix (j := j) rfl rfl dG (by omega)) ?_)); refine J.r (.ld bP) ?_; refine J.c (.assign rfl) (J.go ?_); refine U.ret ?_; exact aS.one rfl bO (dF (by rw [hf, nB (by omega), if_neg c4]))
    refine U.skip (U.text ?_); refine J.c (.move rfl) (J.c (.add rfl rfl (by omega)) (J.c (.assign rfl) ?_)); refine J.nil ?_; refine ⟨_, [(0, .v fK l), (3, I (((j + 1) : Nat) : Int))], ?_, ⟨rfl, rfl, trivial⟩, (j + 1), rfl, rfl, rfl, (by omega), (by rw [hf, nB (by omega), if_pos (by simpa using c4)])⟩; omega
  refine U.exit (U.seq (U.text ?_)); refine J.c (.assign rfl) (J.go ?_); refine U.ret ?_; exact aS.one rfl bO (dF (by rw [hf, zB (by omega)]))
theorem XP {F : Int -> Int} {l : List Int} {f : PV} (hl : l.length < 100000) (hf : ∀ x ∈ l, l7 Tryz.prog OA f [I x] (.v (.int .i64) (F x))) : VF Tryz.prog OA 63 [.v fK l, f] (.v LO (l.map F)) := by
  refine VF.enter Tryz.func63 rfl (fun _ _ => rfl) rfl ?_; show U _ _ _ _ _ [(0, .v fK l), (1, f)] [] _; refine U.seq (U.text ?_); refine J.c (.assign rfl) ?_; refine J.go (U.seq (U.text ?_)); refine J.c (.assign rfl) ?_; refine J.go (U.seq (U.seq (U.text ?_))); refine J.c (.move rfl) ?_; refine J.r (.len dG) ?_; refine J.c (.move rfl) ?_; refine J.go (U.block ?_); refine U.oG 44 (.int .i64) ?_; refine U.aW [(1, f), (5, .raw (.slice none 0 0)), (8, .v fK l), (9, I ((l.length : Nat) : Int)), (10, I ((0 : Nat) : Int))] ⟨rfl, rfl, rfl, rfl, rfl, trivial⟩ ?_; refine U.loop (I := fun kk ff ss => ∃ (j : Nat) (out : Value), kk = l.length - j /\ ff = [(1, f), (5, .raw out), (8, .v fK l), (9, I ((l.length : Nat) : Int)), (10, I ((j : Nat) : Int))] /\ ss = [(out, .row 44 (.int .i64) ((l.take j).map F))] /\ (j <= l.length)) ?_ _ _ _ ⟨0, (.slice none 0 0), rfl, rfl, rfl, Nat.zero_le _⟩; rintro kk ff ss ⟨j, out, iI, rfl, rfl, hj⟩; refine U.seq (U.text ?_); refine J.c (.lss) ?_; refine J.go (U.seq ?_); refine U.aN rfl (fun c3 => ?_) (fun c3 => ?_)
  . refine U.skip (U.seq (U.block (U.seq (U.text ?_)))); refine J.c (.ix (j := j) rfl rfl dG (by omega)) ?_; refine J.r (.ld bP) ?_; refine J.c (.assign rfl) ?_; refine J.go (U.text ?_); refine J.c (.move rfl) (J.c (.move rfl) (J.c (.move rfl) ?_)); refine J.call rfl rfl ((hf _ (List.getElem_mem _)) ) ?_; refine J.new (.lit [F (l[j])] k9) ?_; refine J.app rfl rfl k9 k9 (by simp; omega) ?_; intro fV; refine J.c (.assign rfl) ?_; refine J.nil (U.text ?_); refine J.c (.add rfl rfl (by omega)) (J.c (.move rfl) ?_); refine J.nil ?_; refine ⟨_, [(1, f), (5, .raw fV), (8, .v fK l), (9, I ((l.length : Nat) : Int)), (10, I (((j + 1) : Nat) : Int))], ?_, ⟨rfl, rfl, rfl, rfl, rfl, trivial⟩, (j + 1), fV, rfl, rfl, (by rw [List.take_succ_eq_append_getElem (by omega), List.map_append] <;> rfl), (by omega)⟩; omega
  refine U.exit (U.seq (U.text ?_)); refine J.c (.move rfl) (J.c (.assign rfl) (J.go ?_)); refine U.ret ?_; exact aS.one rfl (uV (.row m0)) (eZ (by rw [List.take_of_length_le (by omega)]))
theorem af2 {n : Int} : VF Tryz.prog OA 64 [I n] (I (aM n (-64) 64)) := by
  refine VF.enter Tryz.func64 rfl (fun _ _ => rfl) rfl ?_; show U _ _ _ _ _ [(0, I n)] [] _; refine U.seq (U.text ?_); refine J.c (.assign rfl) ?_; refine J.go (U.seq (U.text ?_)); refine J.c (.move rfl) ?_; refine J.call rfl rfl (VF.call (gF )) ?_; refine J.c (.assign rfl) (J.go ?_); refine U.ret ?_; exact aS.one rfl bO (dF (by first | rfl | simp))
end Go.Proofs
namespace Go.Proofs
open Go.Fs
abbrev tR : Ty := (.pair (.sl (.int .i64)) (.pair (.int .i64) (.int .i64)))
theorem HS : fL Tryz.prog 47 fK := dW (by kernel_rfl)
theorem vO {p : Prop} {inst : Decidable p} {e : Int} (h : p) : cJ (@decide p inst) e = e := by rw [decide_eq_true h] <;> rfl
theorem zC {p : Prop} {inst : Decidable p} {e : Int} (h : ¬ p) : cJ (@decide p inst) e = 0 := by rw [decide_eq_false h] <;> rfl
def af3 (l : List Int) : Int := aO (l.map fun x => aM x (-64) 64)
def qM (t : List Int × Int × Int) : Int := aO [cJ (decide ((t.1.length : Int) = 0)) 12, cJ (decide ((8 : Int) < t.1.length)) 5, af3 t.1, aM t.2.1 0 8, aM t.2.2 (-1024) 1024]
theorem CT {t : (List Int) × Int × Int} (hl : t.1.length < 100000) : VF Tryz.prog OA 33 [.v tR t] (I (qM t)) := by
  refine VF.enter Tryz.func33 rfl (fun _ _ => rfl) rfl ?_; show U _ _ _ _ _ [(0, .v tR t)] [] _; refine U.seq (U.text ?_); refine J.new (.box) ?_; refine J.c (.assign rfl) ?_; refine J.go (U.seq (U.text ?_)); refine J.c (.fa (.l .o)) ?_; refine J.r (.ld HS) ?_; refine J.call rfl rfl (VF.call (XP (F := fun x => aM x (-64) 64) hl (fun _ _ => VF.call af2))) ?_; refine J.call rfl rfl (VF.call (fO (by simpa using (by omega : t.1.length < 1000000)))) ?_; refine J.c (.assign rfl) ?_; refine J.go (U.seq (U.drawn ?_)); refine VD.c (.fa (.l .o)) ?_; refine VD.r [] (.ld HS) (.inl rfl) ?_; refine VD.r [] (.len dG) (.inl rfl) ?_; refine VD.c (.eql) ?_; refine VD.call rfl rfl (VF.call (jL )) ?_; refine VD.c (.fa (.l .o)) (VD.nw [] ?_); refine VD.r [] (.ld HS) (.inl rfl) ?_; refine VD.r [] (.len dG) (.inl rfl) ?_; refine VD.c (.gtr) ?_; refine VD.call rfl rfl (VF.call (jL )) ?_; refine VD.c (.move rfl) (VD.c (.fa (.r (.l .o))) ?_); refine VD.r [] (.ld bP) (.inl rfl) ?_; refine VD.nw [] ?_; refine VD.call rfl rfl (VF.call (gF )) ?_; refine VD.c (.fa (.r (.r .o))) ?_; refine VD.r [] (.ld bP) (.inl rfl) ?_; refine VD.call rfl rfl (VF.call (gF )) ?_; refine VD.new (.lit [cJ (decide (((t.1.length : Nat) : Int) = (0 : Int))) (12 : Int), cJ (decide ((8 : Int) < ((t.1.length : Nat) : Int))) (5 : Int), aO (t.1.map (fun x => aM x (-64) 64)), aM t.2.1 (0 : Int) (8 : Int), aM t.2.2 (-1024 : Int) (1024 : Int)] k9) ?_; refine VD.oH rfl rfl (VF.call (fO (by simp))) ?_; refine VD.c (.assign rfl) (VD.go ?_); refine U.ret ?_; exact aS.one rfl bO (dF (by rfl))
def kF (a l : List Int) (i : Nat) : Nat -> Int
  | 0 => 0
  | k + 1 => kF a l i k + a.getD k 0 * l.getD (max 0 ((i : Int) - k)).toNat 0
def AD (t : List Int × Int × Int) (l : List Int) : List Int := (List.range l.length).map fun i => (kF t.1 l i t.1.length).fdiv (2 ^ t.2.1.toNat) + t.2.2
structure OkT (t : List Int × Int × Int) : Prop where
  af4 : ∀ x ∈ t.1, -64 <= x /\ x <= 64
  len : t.1.length <= 8
  shift : 0 <= t.2.1 /\ t.2.1 <= 8
  off : -1024 <= t.2.2 /\ t.2.2 <= 1024
structure OkL (l : List Int) : Prop where
  all : ∀ x ∈ l, -1048576 <= x /\ x <= 1048576
  len : l.length <= 96
theorem ER {l : List Int} (i : Nat) : l.getD i 0 = 0 \/ l.getD i 0 ∈ l := by
  by_cases h : i < l.length
  . right; simp [List.getD, h]
  left; simp [List.getD, List.getElem?_eq_none (by omega : l.length <= i)]
theorem CU {a b A B : Int} (h1 : -A <= a /\ a <= A) (h2 : -B <= b /\ b <= B) : -(A * B) <= a * b /\ a * b <= A * B := by
  have hA : 0 <= A := by omega
  have hB : 0 <= B := by omega
  have e1 : 0 <= (A - a) * (B + b) := Int.mul_nonneg (by omega) (by omega); have e2 : 0 <= (A + a) * (B - b) := Int.mul_nonneg (by omega) (by omega); have e3 : 0 <= (A - a) * (B - b) := Int.mul_nonneg (by omega) (by omega); have e4 : 0 <= (A + a) * (B + b) := Int.mul_nonneg (by omega) (by omega); simp only [Int.sub_mul, Int.add_mul, Int.mul_sub, Int.mul_add] at e1 e2 e3 e4; constructor <;> omega
theorem LQ {a l : List Int} (ha : ∀ x ∈ a, -64 <= x /\ x <= 64) (hl : ∀ x ∈ l, -1048576 <= x /\ x <= 1048576) (i j : Nat) : -67108864 <= a.getD i 0 * l.getD j 0 /\ a.getD i 0 * l.getD j 0 <= 67108864 := by
  have h1 : -64 <= a.getD i 0 /\ a.getD i 0 <= 64 := by
    rcases ER (l := a) i with h | h
    . rw [h]; decide
    exact ha _ h
  have h2 : -1048576 <= l.getD j 0 /\ l.getD j 0 <= 1048576 := by
    rcases ER (l := l) j with h | h
    . rw [h]; decide
    exact hl _ h
  exact CU (A := 64) (B := 1048576) h1 h2
theorem uX {a l : List Int} (ha : ∀ x ∈ a, -64 <= x /\ x <= 64) (hl : ∀ x ∈ l, -1048576 <= x /\ x <= 1048576) (i : Nat) : ∀ k : Nat, -(67108864 * (k : Int)) <= kF a l i k /\ kF a l i k <= 67108864 * (k : Int)
  | 0 => by simp [kF]
  | k + 1 => by
    have h1 := uX ha hl i k; have h2 := LQ ha hl k (max 0 ((i : Int) - k)).toNat; simp only [kF]; constructor <;> (push_cast; omega)
theorem getD_eq {l : List Int} {i : Nat} (h : i < l.length) : l[i] = l.getD i 0 := by simp [List.getD, h]
theorem TW {n : Int} {s : Nat} (h : -1000000000 <= n /\ n <= 1000000000) : -1000000000 <= n.fdiv (2 ^ s) /\ n.fdiv (2 ^ s) <= 1000000000 := by
  have hp : (0 : Int) < 2 ^ s := Int.pow_pos (by decide); rw [Int.fdiv_eq_ediv_of_nonneg _ (Int.le_of_lt hp)]; have h1 : (1 : Int) <= 2 ^ s := hp; constructor
  . have : -1000000000 * 2 ^ s <= n := by
      have : (-1000000000 : Int) * 2 ^ s <= -1000000000 * 1 := Int.mul_le_mul_of_nonpos_left (by decide) h1; omega
    exact (Int.le_ediv_iff_mul_le hp).2 this
  refine Int.ediv_le_of_le_mul hp ?_; have : (1000000000 : Int) * 1 <= 1000000000 * 2 ^ s := Int.mul_le_mul_of_nonneg_left h1 (by decide); omega
theorem TX {t : (List Int) × Int × Int} {l : List Int} (ht : OkT t) (hl : OkL l) : VF Tryz.prog OA 37 [.v tR t, .v fK l] (.v fK (AD t l)) := by
  refine VF.enter Tryz.func37 rfl (fun _ _ => rfl) rfl ?_; show U _ _ _ _ _ [(0, .v tR t), (1, .v fK l)] [] _; refine U.seq (U.text ?_); refine J.new (.box) ?_; refine J.c (.assign rfl) ?_; refine J.go (U.seq (U.text ?_)); refine J.c (.assign rfl) ?_; refine J.go (U.seq (U.seq (U.text ?_))); refine J.c (.move rfl) ?_; refine J.r (.len dG) ?_; refine J.c (.move rfl) ?_; refine J.go (U.block ?_); refine U.oG 3 (.int .i64) ?_; refine U.aW [(1, .v fK l), (2, .p tR t), (5, .raw (.slice none 0 0)), (11, I ((l.length : Nat) : Int)), (12, I ((0 : Nat) : Int))] ⟨rfl, rfl, rfl, rfl, rfl, trivial⟩ ?_; refine U.loop (I := fun kk ff ss => ∃ (j : Nat) (out : Value), kk = l.length - j /\ ff = [(1, .v fK l), (2, .p tR t), (5, .raw out), (11, I ((l.length : Nat) : Int)), (12, I ((j : Nat) : Int))] /\ ss = [(out, .row 3 (.int .i64) ((List.range j).map fun i => (kF t.1 l i t.1.length).fdiv (2 ^ t.2.1.toNat) + t.2.2))] /\ (j <= l.length)) ?_ _ _ _ ⟨0, (.slice none 0 0), rfl, rfl, rfl, Nat.zero_le _⟩; rintro kk ff ss ⟨j, out, iI, rfl, rfl, hj⟩; have h8 := hl.len; have h9 := ht.len; have h10 := ht.shift; have R7 := ht.off; refine U.seq (U.text ?_); refine J.c (.lss) ?_; refine J.go (U.seq ?_); refine U.aN rfl (fun c3 => ?_) (fun c3 => ?_)
  . refine U.skip (U.seq (U.block (U.seq (U.text ?_)))); refine J.c (.move rfl) (J.c (.assign rfl) ?_); refine J.go (U.seq (U.text ?_)); refine J.c (.assign rfl) ?_; refine J.go (U.seq (U.seq (U.text ?_))); refine J.c (.fa (.l .o)) ?_; refine J.r (.ld HS) ?_; refine J.r (.len dG) ?_; refine J.c (.move rfl) ?_; refine J.go (U.block ?_); refine U.aW [(1, .v fK l), (2, .p tR t), (5, .raw out), (6, I ((j : Nat) : Int)), (7, I (kF t.1 l j 0)), (11, I ((l.length : Nat) : Int)), (12, I ((j : Nat) : Int)), (16, .v fK t.1), (17, I ((t.1.length : Nat) : Int)), (18, I ((0 : Nat) : Int))] ⟨rfl, rfl, rfl, rfl, rfl, rfl, rfl, rfl, rfl, rfl, trivial⟩ ?_; refine U.loop (I := fun kk ff ss => ∃ (q : Nat), kk = t.1.length - q /\ ff = [(1, .v fK l), (2, .p tR t), (5, .raw out), (6, I ((j : Nat) : Int)), (7, I (kF t.1 l j q)), (11, I ((l.length : Nat) : Int)), (12, I ((j : Nat) : Int)), (16, .v fK t.1), (17, I ((t.1.length : Nat) : Int)), (18, I ((q : Nat) : Int))] /\ ss = [(out, .row 3 (.int .i64) ((List.range j).map fun i => (kF t.1 l i t.1.length).fdiv (2 ^ t.2.1.toNat) + t.2.2))] /\ (q <= t.1.length)) ?_ _ _ _ ⟨0, rfl, rfl, rfl, Nat.zero_le _⟩; rintro kk ff ss ⟨q, nU, rfl, rfl, hq⟩; refine U.seq (U.text ?_); refine J.c (.lss) ?_; refine J.go (U.seq ?_); refine U.aN rfl (fun c7 => ?_) (fun c7 => ?_)
    . refine U.skip (U.seq (U.block (U.seq (U.text ?_)))); refine J.c (.move rfl) (J.c (.ix (j := q) rfl rfl dG (by omega)) ?_); refine J.r (.ld bP) ?_; refine J.c (.assign rfl) (J.c (.assign rfl) ?_); refine J.go (U.text ?_); refine J.c (.move rfl) (J.c (.move rfl) (J.c (.move rfl) (J.c (.move rfl) ?_))); refine J.c (.move rfl) (J.c (.sub rfl rfl (by omega)) (J.c (.imax) (J.c (.WO (k := (max (0 : Int) (((j : Nat) : Int) - ((q : Nat) : Int)))) rfl rfl dG (by omega) (by omega)) ?_))); refine J.r (.ld bP) ?_; have b1 := uX ht.af4 hl.all j q
      have b2 : -67108864 <= t.1[q] * l[Int.toNat (max (0 : Int) (((j : Nat) : Int) - ((q : Nat) : Int)))] /\ t.1[q] * l[Int.toNat (max (0 : Int) (((j : Nat) : Int) - ((q : Nat) : Int)))] <= 67108864 := by rw [getD_eq, getD_eq]; exact LQ ht.af4 hl.all _ _
      refine J.c (.mul rfl rfl (by omega)) (J.c (.add rfl rfl (by omega)) (J.c (.assign rfl) ?_)); refine J.nil (U.text ?_); refine J.c (.add rfl rfl (by omega)) (J.c (.move rfl) ?_); refine J.nil ?_
      have eT : kF t.1 l j (q + 1) = kF t.1 l j q + t.1[q] * l[Int.toNat (max (0 : Int) (((j : Nat) : Int) - ((q : Nat) : Int)))] := by rw [kF, getD_eq, getD_eq]
      
      refine ⟨_, [(1, .v fK l), (2, .p tR t), (5, .raw out), (6, I ((j : Nat) : Int)), (7, I (kF t.1 l j (q + 1))), (11, I ((l.length : Nat) : Int)), (12, I ((j : Nat) : Int)), (16, .v fK t.1), (17, I ((t.1.length : Nat) : Int)), (18, I (((q + 1) : Nat) : Int))], ?_, ⟨rfl, rfl, rfl, rfl, iK rfl (by exact eT.symm), rfl, rfl, rfl, rfl, rfl, trivial⟩, (q + 1), rfl, rfl, rfl, (by omega)⟩; omega
    refine U.exit (U.drawn ?_); refine VD.c (.move rfl) (VD.c (.move rfl) (VD.c (.fa (.r (.l .o))) ?_)); refine VD.r [] (.ld bP) (.inl rfl) ?_; have b3 := uX ht.af4 hl.all j q; have b4 := TW (n := kF t.1 l j q) (s := t.2.1.toNat) (by omega); refine VD.c (.shr rfl rfl (by omega)) (VD.c (.fa (.r (.r .o))) (VD.nw [] ?_)); refine VD.r [] (.ld bP) (.inl rfl) ?_; refine VD.c (.add rfl rfl (by omega)) ?_; refine VD.new (.lit [(((kF t.1 l j q).fdiv (2 ^ (t.2.1).toNat)) + t.2.2)] dG) ?_; refine VD.mk (cA.app dG dG rfl rfl (by simp; omega)) ?_; rintro _ _ tl1 ⟨fV, rfl, rfl⟩; refine VD.c (.assign rfl) ?_; refine VD.nil ?_; refine U.text ?_; refine J.c (.add rfl rfl (by omega)) (J.c (.move rfl) ?_); refine J.nil ?_; refine ⟨_, [(1, .v fK l), (2, .p tR t), (5, .raw fV), (11, I ((l.length : Nat) : Int)), (12, I (((j + 1) : Nat) : Int))], ?_, ⟨rfl, rfl, rfl, rfl, rfl, trivial⟩, (j + 1), fV, rfl, rfl, (by obtain rfl : q = t.1.length := (by omega); rw [List.range_succ, List.map_append] <;> rfl), (by omega)⟩; omega
  refine U.exit (U.seq (U.text ?_)); refine J.c (.move rfl) (J.c (.assign rfl) (J.go ?_)); refine U.ret ?_; exact aS.one rfl (uV (.row m0)) (eZ (by rw [AD, show j = l.length by omega]))
end Go.Proofs
namespace Go.Proofs
open Go.Fs
theorem bK {l : List Int} : aO l = 0 ↔ ∀ x ∈ l, x = 0 := by
  induction l with
  | nil => simp [aO]
  | cons x l ih => by_cases h : x = 0 <;> simp [aO, h, ih]
theorem fW {n lo hi : Int} : aM n lo hi = 0 ↔ lo <= n /\ n <= hi := by
  unfold aM; split <;> simp <;> omega
theorem NJ {t : List Int × Int × Int} (h : qM t = 0) : OkT t := by
  rw [qM, bK] at h; simp only [List.mem_cons, List.not_mem_nil, or_false, forall_eq_or_imp, forall_eq] at h; obtain ⟨h1, h2, h3, h4, h5⟩ := h; refine ⟨fun x hx => ?_, ?_, fW.1 h4, fW.1 h5⟩
  . rw [af3, bK] at h3; exact fW.1 (h3 _ (List.mem_map_of_mem hx))
  by_cases hc : (8 : Int) < t.1.length
  . rw [vO hc] at h2; simp at h2
  omega
theorem jW (a b : List Int) : aO (a ++ b) = if aO a = 0 then aO b else aO a := by
  induction a with
  | nil => simp [aO]
  | cons x a ih => by_cases h : x = 0 <;> simp [aO, h, ih]
theorem NK {a : List Int} {b : List Int} (hla : a.length < 1000000) : VF Tryz.prog OA 14 [.v fK a, .v fK b] (B (decide (a = b))) := by
  refine VF.enter Tryz.func14 rfl (fun _ _ => rfl) rfl ?_; show U _ _ _ _ _ [(0, .v fK a), (1, .v fK b)] [] _; refine U.seq (U.text ?_); refine J.c (.assign rfl) ?_; refine J.go (U.seq (U.seq (U.text ?_))); refine J.c (.move rfl) ?_; refine J.r (.len dG) ?_; refine J.c (.move rfl) ?_; refine J.r (.len dG) ?_; refine J.c (.neq) (J.go ?_); refine U.aN rfl (fun c1 => ?_) (fun c1 => ?_)
  . refine U.seq (U.text ?_); refine J.c (.assign rfl) (J.go ?_); refine U.ret ?_; exact aS.one rfl bO (eZ (by refine (decide_eq_false fun he => ?_).symm; subst he; omega))
  refine U.skip (U.seq (U.seq (U.text ?_))); refine J.c (.assign rfl) ?_; refine J.go (U.block ?_); refine U.aW [(0, .v fK a), (1, .v fK b), (5, I ((0 : Nat) : Int))] ⟨rfl, rfl, rfl, trivial⟩ ?_; refine U.loop (I := fun kk ff ss => ∃ (j : Nat), kk = a.length - j /\ ff = [(0, .v fK a), (1, .v fK b), (5, I ((j : Nat) : Int))] /\ ss = [] /\ (j <= a.length) /\ (a.take j = b.take j)) ?_ _ _ _ ⟨0, rfl, rfl, rfl, Nat.zero_le _, (by simp)⟩; rintro kk ff ss ⟨j, iI, rfl, rfl, hj, hf⟩; refine U.seq (U.seq (U.text ?_)); refine J.c (.move rfl) (J.c (.move rfl) ?_); refine J.r (.len dG) ?_; refine J.c (.lss) (J.go ?_); refine U.aN rfl (fun c4 => ?_) (fun c4 => ?_)
  . refine U.skip (U.seq (U.block (U.seq (U.drawn ?_)))); refine VD.c (.move rfl) (VD.c (.move rfl) (VD.c (.ix (j := j) rfl rfl dG (by omega)) ?_)); refine VD.r [] (.ld bP) (.inl rfl) ?_; refine VD.c (.move rfl) (VD.c (.move rfl) (VD.nw [] (VD.c (.ix (j := j) rfl rfl dG (by omega)) ?_))); refine VD.r [] (.ld bP) (.inl rfl) ?_; refine VD.c (.neq) (VD.go ?_); refine U.aN rfl (fun c6 => ?_) (fun c6 => ?_)
    . refine U.seq (U.text ?_); refine J.c (.assign rfl) (J.go ?_); refine U.ret ?_; exact aS.one rfl bO (eZ (by refine (decide_eq_false fun he => ?_).symm; subst he; exact c6 rfl))
    refine U.skip (U.text ?_); refine J.c (.move rfl) (J.c (.add rfl rfl (by omega)) (J.c (.assign rfl) ?_)); refine J.nil ?_; refine ⟨_, [(0, .v fK a), (1, .v fK b), (5, I (((j + 1) : Nat) : Int))], ?_, ⟨rfl, rfl, rfl, trivial⟩, (j + 1), rfl, rfl, rfl, (by omega), (by rw [List.take_succ_eq_append_getElem (by omega), List.take_succ_eq_append_getElem (by omega), hf, show a[j] = b[j] by omega])⟩; omega
  refine U.exit (U.seq (U.text ?_)); refine J.c (.assign rfl) (J.go ?_); refine U.ret ?_; exact aS.one rfl bO (eZ (by refine (decide_eq_true ?_).symm; rw [List.take_of_length_le (by omega), List.take_of_length_le (by omega)] at hf; exact hf))
theorem AE : VF Tryz.prog OA 7 [] (B true) := VF.PJ (fun _ => rfl) fun _ _ => ⟨rfl, rfl⟩
end Go.Proofs
namespace Go.Proofs
open Go.Fs
theorem vP {α : Type} {f : α -> Int} {l : List α} {j : Nat} (hj : j < l.length) : aO ((l.drop j).map f) = if f l[j] = 0 then aO ((l.drop (j + 1)).map f) else f l[j] := by
  rw [List.drop_eq_getElem_cons hj] <;> rfl
theorem IN {α : Type} {f : α -> Int} {l : List α} {j : Nat} (hj : l.length <= j) : aO ((l.drop j).map f) = 0 := by rw [List.drop_eq_nil_of_le hj] <;> rfl
def O9 (l : List (Int × List Int)) : Nat := (l.map fun c => c.2.length).headD 0
end Go.Proofs
namespace Go.Proofs
open Go.Fs
structure OkC (n : Nat) (c : Int × List Int) : Prop where
  w : 1 <= c.1 /\ c.1 <= 1000
  len : c.2.length = n
  pos : 0 < n
  top : n <= 96
  all : ∀ x ∈ c.2, -1048576 <= x /\ x <= 1048576
structure OkE (l : List (Int × List Int)) : Prop where
  pos : 0 < l.length
  top : l.length <= 16
  all : ∀ c ∈ l, OkC (O9 l) c
structure OkB (b : Int × Int) : Prop where
  lo : -1048576 <= b.1 /\ b.1 <= 1048576
  hi : -1048576 <= b.2 /\ b.2 <= 1048576
  le : b.1 <= b.2
theorem uB {p : Prop} {inst : Decidable p} {e : Int} (he : e ≠ 0) (h : cJ (@decide p inst) e = 0) : ¬ p := fun hp => he (by rw [vO hp] at h; exact h)
end Go.Proofs
namespace Go.Proofs
open Go.Fs
end Go.Proofs
namespace Go.Proofs
open Go.Fs
end Go.Proofs
namespace Go.Proofs
open Go.Fs
theorem abE {c : Bool} {e : Int} : VF Tryz.prog OA 73 [B c, I e] (I (cJ c e)) := by
  refine VF.enter Tryz.func73 rfl (fun _ _ => rfl) rfl ?_; show U _ _ _ _ _ [(0, B c), (1, I e)] [] _; refine U.seq (U.text ?_); refine J.c (.assign rfl) ?_; refine J.go (U.seq (U.seq (U.text ?_))); refine J.c (.move rfl) (J.go ?_); refine U.eE rfl (fun c1 => ?_) (fun c1 => ?_)
  . subst c1; refine U.seq (U.text ?_); refine J.c (.move rfl) (J.c (.assign rfl) (J.go ?_)); refine U.ret ?_; exact aS.one rfl bO (dF (by rfl))
  subst c1; refine U.skip (U.seq (U.text ?_)); refine J.c (.assign rfl) (J.go ?_); refine U.ret ?_; exact aS.one rfl bO (dF (by rfl))
theorem iX (x : Int) : aO [x] = x := by
  show (if x = 0 then 0 else x) = x; split <;> omega
end Go.Proofs
namespace Go.Proofs
open Go.Fs Ieee
theorem w16 : u32 1098907648 = some (16 * 713623846352979940529142984724747568191373312) := by decide +kernel
theorem wz : u32 0 = some 0 := by decide +kernel
theorem w64 : u32 1115684864 = some 45671926166590716193865151022383844364247891968 := by decide +kernel
theorem amM : u32 3263168512 = some (-45671926166590716193865151022383844364247891968) := by decide +kernel
theorem aj1 {n : Int} (h : -100000 <= n /\ n <= 100000) : fit n := ⟨by omega, by omega⟩
theorem TY {u : Int} (h : u.natAbs <= 45671926166590716193865151022383844364247891968) : -1024 <= (16 * u).tdiv 713623846352979940529142984724747568191373312 /\ (16 * u).tdiv 713623846352979940529142984724747568191373312 <= 1024 := by
  have h1 := Int.mul_tdiv_add_tmod (16 * u) 713623846352979940529142984724747568191373312; have h2 := Int.tmod_lt_of_pos (16 * u) (show (0 : Int) < 713623846352979940529142984724747568191373312 by decide)
  have h3 : -713623846352979940529142984724747568191373312 < (16 * u).tmod 713623846352979940529142984724747568191373312 := by
    have h4 := Int.tmod_lt_of_pos (-(16 * u)) (show (0 : Int) < 713623846352979940529142984724747568191373312 by decide); rw [Int.neg_tmod] at h4; omega
  omega
theorem af5 {u : Int} {x : Nat} (hu : u32 x = some u) (h0 : u.natAbs <= 45671926166590716193865151022383844364247891968) : VF Tryz.prog OA 45 [.v (.bQ .f32) x] (I ((16 * u).tdiv 713623846352979940529142984724747568191373312)) := by
  refine VF.enter Tryz.func45 rfl (fun _ _ => rfl) rfl ?_; show U _ _ _ _ _ [(0, .v (.bQ .f32) x)] [] _; refine U.seq (U.text ?_); refine J.c (.assign rfl) ?_; refine J.go (U.seq (U.text ?_)); refine J.c (.move rfl) ?_; obtain ⟨r, hr, jZ⟩ := aeI w16 hu h0; have hf := TY h0; refine J.c (.fop (R2 hr)) (J.c (.aiW (OI (toInt32 jZ)) (aj1 (by omega))) (J.c (.assign rfl) (J.go ?_))); refine U.ret ?_; exact aS.one rfl bO (dF (by first | rfl | simp))
theorem ES {x : Nat} (hx : kN x = 0) : VF Tryz.prog OA 67 [.v (.bQ .f32) x] (I (kU x)) := by
  refine VF.enter Tryz.func67 rfl (fun _ _ => rfl) rfl ?_; show U _ _ _ _ _ [(0, .v (.bQ .f32) x)] [] _; refine U.seq (U.text ?_); refine J.c (.assign rfl) ?_; refine J.go (U.seq (U.text ?_)); refine J.c (.move rfl) ?_; obtain ⟨hu, h0, h1⟩ := QZ hx; obtain ⟨r, hr, jZ⟩ := ahD w16 hu (by omega); have hs := aeJ (u := kU x * 44601490397061246283071436545296723011960832) rfl; have ht := toInt32 jZ; rw [hs] at ht; refine J.c (.fop (R2 hr)) (J.c (.aiW (OI ht) (aj1 (by omega))) (J.c (.assign rfl) (J.go ?_))); refine U.ret ?_; exact aS.one rfl bO (dF (by first | rfl | simp))
theorem af6 {u : Int} {x : Nat} (hu : u32 x = some u) : VF Tryz.prog OA 86 [.v (.bQ .f32) x] (I (kN x)) := by
  refine VF.enter Tryz.func86 rfl (fun _ _ => rfl) rfl ?_; show U _ _ _ _ _ [(0, .v (.bQ .f32) x)] [] _; refine U.seq (U.text ?_); refine J.c (.assign rfl) ?_; refine J.go (U.seq (U.seq (U.text ?_))); refine J.c (.move rfl) (J.c (.move rfl) ?_); obtain ⟨r, hr, hr0⟩ := TI hu; refine J.c (.fop (ZO hr)) (J.c (.yW (b := .neq) (EM hr0 wz).2.1) (J.go ?_)); refine U.aN rfl (fun c1 => ?_) (fun c1 => ?_)
  . exact absurd rfl c1
  refine U.skip (U.seq (U.seq (U.text ?_))); refine J.c (.move rfl) (J.c (.yW (b := .lss) (EM hu amM).2.2.1) (J.c (.move rfl) ?_)); refine J.cg (r := decide (u < -45671926166590716193865151022383844364247891968)) (w := false) [] trivial (fun _ => (.move rfl)) ?_; refine J.cg (r := decide (u < -45671926166590716193865151022383844364247891968)) (w := false) [(10, .v (.bQ .f32) x)] ⟨rfl, trivial⟩ (fun _ => (.yW (b := .gtr) (EM hu w64).2.2.2.2.1)) ?_; refine J.c (.or) (J.go ?_); refine U.eE rfl (fun c3 => ?_) (fun c3 => ?_)
  . try simp only [Bool.and_eq_true, Bool.or_eq_true, Bool.and_eq_false_iff, Bool.or_eq_false_iff, Bool.not_eq_true', Bool.not_eq_false', decide_eq_true_eq, decide_eq_false_iff_not] at c3
    refine U.seq (U.text ?_); refine J.c (.assign rfl) (J.go ?_); refine U.ret ?_; exact aS.one rfl bO (dF (by unfold kN; rw [hu]; simp only; rw [if_neg (by omega)]))
  try simp only [Bool.and_eq_true, Bool.or_eq_true, Bool.and_eq_false_iff, Bool.or_eq_false_iff, Bool.not_eq_true', Bool.not_eq_false', decide_eq_true_eq, decide_eq_false_iff_not] at c3
  refine U.skip (U.seq (U.text ?_)); refine J.c (.move rfl) ?_
  have hb : -45671926166590716193865151022383844364247891968 <= u /\ u <= 45671926166590716193865151022383844364247891968 := by omega
  have hf := TY (u := u) (by omega); obtain ⟨r2, jZ, hr3⟩ := aeI w16 hu (by omega); have hi := ofInt32 (n := (16 * u).tdiv 713623846352979940529142984724747568191373312) (by omega); refine J.call rfl rfl (VF.call (af5 (u := u) hu (by omega))) ?_; refine J.c (.amB .f32) (J.c (.move rfl) (J.c (.fop (R2 jZ)) (J.c (.yW (b := .neq) (EM hi hr3).2.1) ?_))); refine J.call rfl rfl (VF.call (abE )) ?_; refine J.c (.assign rfl) (J.go ?_); refine U.ret ?_; exact aS.one rfl bO (dF (by unfold kN cJ; rw [hu]; simp only; have hw := R0 hb; by_cases h1 : u % 44601490397061246283071436545296723011960832 = 0 <;> simp [h1, hw, hb]))
theorem af7 {x : Nat} (hu : u32 x = none) : VF Tryz.prog OA 86 [.v (.bQ .f32) x] (I (kN x)) := by
  refine VF.enter Tryz.func86 rfl (fun _ _ => rfl) rfl ?_; show U _ _ _ _ _ [(0, .v (.bQ .f32) x)] [] _; refine U.seq (U.text ?_); refine J.c (.assign rfl) ?_; refine J.go (U.seq (U.seq (U.text ?_))); refine J.c (.move rfl) (J.c (.move rfl) (J.c (.amA (ahJ hu)) (J.c (.aeK (r := true) rfl) ?_))); refine J.go ?_; refine U.rI rfl ?_; refine U.seq (U.text ?_); refine J.c (.assign rfl) (J.go ?_); refine U.ret ?_; exact aS.one rfl bO (dF (by unfold kN; rw [hu]))
theorem ahU {x : Nat} : VF Tryz.prog OA 86 [.v (.bQ .f32) x] (I (kN x)) := by
  cases hu : u32 x with
  | none => exact af7 hu
  | some u => exact af6 hu
theorem v16 : u64 4625196817309499392 = some ((16 : Int) * ((713623846352979940529142984724747568191373312 * kW : Nat) : Int)) := by decide +kernel
theorem v64 : u64 4634204016564240384 = some ((45671926166590716193865151022383844364247891968 : Int) * ((kW : Nat) : Int)) := by decide +kernel
theorem amN : u64 13857576053419016192 = some ((-45671926166590716193865151022383844364247891968 : Int) * ((kW : Nat) : Int)) := by decide +kernel
theorem abF {f : Format} {x : Nat} {u : Int} (h : f.dX x = some u) : f.order x x = some .eq := by
  rw [Format.EI h h, EJ, if_neg (by omega), if_pos rfl]
theorem abG {b : Nat} : VF Tryz.prog OA 100 [.v (.bQ .f64) b] (.v (.int .u64) ((b : Nat) : Int)) :=
  VF.ZN (e := Extern.MathFloatBits.float64bits) Tryz.func100 (fun _ _ => rfl) (by kernel_rfl) (by kernel_rfl) (by kernel_rfl) (w := .int .u64 ((b : Nat) : Int)) rfl fun _ _ => aG.ofInt _ _
theorem abH {n : Nat} : VF Tryz.prog OA 99 [.v (.int .u64) ((n : Nat) : Int)] (.v (.bQ .f64) n) :=
  VF.ahI (e := Extern.MathFloatBits.float64frombits) Tryz.func99 (fun _ _ => rfl) (by kernel_rfl) (by kernel_rfl) (by kernel_rfl) (w := .float .f64 n) rfl fun _ _ => aG.CI _ _
theorem XQ {y : Nat} (hy : ∃ u, u64 y = some u) : VF Tryz.prog OA 92 [.v (.bQ .f64) y] (.v (.bQ .f64) (double.write ((double.read y).integral .down))) := by
  obtain ⟨u, hu⟩ := hy; obtain ⟨s, m, p, h1, _, _⟩ := Format.fN hu; exact VF.ZN (e := Extern.MathFloor.toIntegral "math.archFloor" .down) Tryz.func92 (fun _ _ => rfl) (by kernel_rfl) (by kernel_rfl) (by kernel_rfl) (w := .float .f64 (double.write ((double.read y).integral .down))) (XA h1) fun _ _ => aG.CI _ _
theorem XR {y : Nat} (hy : ∃ u, u64 y = some u) : VF Tryz.prog OA 71 [.v (.bQ .f64) y] (.v (.bQ .f64) (double.write ((double.read y).integral .down))) := by
  refine VF.enter Tryz.func71 rfl (fun _ _ => rfl) rfl ?_; show U _ _ _ _ _ [(0, .v (.bQ .f64) y)] [] _; refine U.seq (U.text ?_); refine J.c (.assign rfl) ?_; refine J.go (U.seq ?_); refine U.rI rfl ?_; refine U.seq (U.text ?_); refine J.c (.move rfl) ?_; refine J.call rfl rfl (VF.call (XQ (by first | assumption | omega))) ?_; refine J.c (.assign rfl) (J.go ?_); refine U.ret ?_; exact aS.one rfl bO (eZ (by first | rfl | simp))
theorem TZ {y : Nat} (hy : double.order y y = some .eq) : VF Tryz.prog OA 69 [.v (.bQ .f64) y] (B false) := by
  refine VF.enter Tryz.func69 rfl (fun _ _ => rfl) rfl ?_; show U _ _ _ _ _ [(0, .v (.bQ .f64) y)] [] _; refine U.seq (U.text ?_); refine J.c (.assign rfl) ?_; refine J.go (U.seq (U.text ?_)); refine J.c (.move rfl) (J.c (.move rfl) (J.c (.yW (b := .neq) (r := false) (X9 hy)) (J.c (.assign rfl) ?_))); refine J.go ?_; refine U.ret ?_; exact aS.one rfl bO (eZ (by first | rfl | simp))
theorem af8 {b : Nat} : VF Tryz.prog OA 91 [.v (.bQ .f64) b] (.v (.bQ .f64) (b % 9223372036854775808)) := by
  refine VF.enter Tryz.func91 rfl (fun _ _ => rfl) rfl ?_; show U _ _ _ _ _ [(0, .v (.bQ .f64) b)] [] _; refine U.seq (U.text ?_); refine J.c (.assign rfl) ?_; refine J.go (U.seq (U.text ?_)); refine J.c (.move rfl) ?_; refine J.call rfl rfl (VF.call (abG )) ?_; refine J.c (.XB rfl rfl) ?_; refine J.call rfl rfl (VF.call (abH )) ?_; refine J.c (.assign rfl) (J.go ?_); refine U.ret ?_; exact aS.one rfl bO (eZ (by first | rfl | simp))
theorem U0 {y : Nat} {s : Int} (hs : s = 0) : VF Tryz.prog OA 70 [.v (.bQ .f64) y, I s] (B (fC .gtr .f64 (y % 9223372036854775808) 9218868437227405311)) := by
  refine VF.enter Tryz.func70 rfl (fun _ _ => rfl) rfl ?_; show U _ _ _ _ _ [(0, .v (.bQ .f64) y), (1, I s)] [] _; refine U.seq (U.text ?_); refine J.c (.assign rfl) ?_; refine J.go (U.seq (U.seq (U.text ?_))); refine J.c (.move rfl) (J.c (.eql) (J.go ?_)); refine U.aN rfl (fun c1 => ?_) (fun c1 => ?_)
  . refine U.text ?_; refine J.c (.move rfl) ?_; refine J.call rfl rfl (VF.call (af8 )) ?_; refine J.c (.assign rfl) ?_; refine J.go (U.seq (U.text ?_)); refine J.c (.move rfl) (J.c (.ZK .gtr) (J.c (.assign rfl) (J.go ?_))); refine U.ret ?_; exact aS.one rfl bO (eZ (by first | rfl | simp))
  exact absurd hs c1
theorem neW {r : Nat} {u : Int} (hr : u64 r = some (16 * (u * (kW : Nat)))) (hg : (decide (45671926166590716193865151022383844364247891968 < u) || decide (u < -45671926166590716193865151022383844364247891968)) = false) : fC .neq .f64 r (double.write ((double.read r).integral .down)) = decide (u % 44601490397061246283071436545296723011960832 ≠ 0) := by
  have hb : -45671926166590716193865151022383844364247891968 <= u /\ u <= 45671926166590716193865151022383844364247891968 := by simp at hg; omega
  rw [(J4 hr (ahG hr hb)).2.1]; exact decide_eq_decide.2 (not_congr X8)
theorem af9 {u : Int} {x : Nat} (hu : u32 x = some u) : VF Tryz.prog OA 42 [.v (.bQ .f32) x] (I (kN x)) := by
  refine VF.enter Tryz.func42 rfl (fun _ _ => rfl) rfl ?_; show U _ _ _ _ _ [(0, .v (.bQ .f32) x)] [] _; refine U.seq (U.text ?_); refine J.c (.assign rfl) ?_; refine J.go (U.seq (U.text ?_)); refine J.c (.move rfl) ?_; have hb := X6 hu; have hy := X4 hu hb; obtain ⟨r, hr, jZ⟩ := ahF v16 hu hy hb; refine J.c (.X4 hu hy) (J.c (.assign rfl) ?_); refine J.go (U.seq (U.seq (U.text ?_))); refine J.c (.move rfl) ?_; refine J.call rfl rfl (VF.call (TZ (abF hy))) ?_; refine J.c (.move rfl) (J.c (.move rfl) ?_); refine J.call rfl rfl (VF.call (U0 rfl)) ?_; refine J.c (.iD rfl rfl) (J.go ?_); refine U.eE rfl (fun c2 => ?_) (fun c2 => ?_)
  . rw [(J4 (XC hy) akE).2.2.2.2.1] at c2; simp at c2; have := XD hb; omega
  refine U.skip (U.seq (U.seq (U.text ?_))); refine J.c (.move rfl) (J.c (.yW (b := .gtr) (r := decide (45671926166590716193865151022383844364247891968 < u)) ((J4 hy v64).2.2.2.2.1.trans (decide_eq_decide.2 (Int.mul_lt_mul_right J3)))) (J.c (.move rfl) ?_)); refine J.cg (r := decide (45671926166590716193865151022383844364247891968 < u)) (w := false) [] trivial (fun _ => (.move rfl)) ?_; refine J.cg (r := decide (45671926166590716193865151022383844364247891968 < u)) (w := false) [(15, .v (.bQ .f64) (double.write (single.read x)))] ⟨rfl, trivial⟩ (fun _ => (.yW (b := .lss) (r := decide (u < -45671926166590716193865151022383844364247891968)) ((J4 hy amN).2.2.1.trans (decide_eq_decide.2 (Int.mul_lt_mul_right J3))))) ?_; refine J.c (.or) (J.c (.move rfl) ?_); refine J.cg (r := ((decide (45671926166590716193865151022383844364247891968 < u)) || (decide (u < -45671926166590716193865151022383844364247891968)))) (w := false) [] trivial (fun _ => (.move rfl)) ?_; refine J.cg (r := ((decide (45671926166590716193865151022383844364247891968 < u)) || (decide (u < -45671926166590716193865151022383844364247891968)))) (w := false) [(19, .v (.bQ .f64) (double.write (single.read x)))] ⟨rfl, trivial⟩ (fun _ => (.fop (ZP hr))) ?_; refine J.cg (r := ((decide (45671926166590716193865151022383844364247891968 < u)) || (decide (u < -45671926166590716193865151022383844364247891968)))) (w := false) [] trivial (fun _ => (.move rfl)) ?_; refine J.cg (r := ((decide (45671926166590716193865151022383844364247891968 < u)) || (decide (u < -45671926166590716193865151022383844364247891968)))) (w := false) [(21, .v (.bQ .f64) (double.write (single.read x)))] ⟨rfl, trivial⟩ (fun _ => (.fop (ZP hr))) ?_; refine J.L3 (r0 := ((decide (45671926166590716193865151022383844364247891968 < u)) || (decide (u < -45671926166590716193865151022383844364247891968)))) (w := false) [(22, .v (.bQ .f64) r)] ⟨rfl, trivial⟩ rfl rfl .same .refl rfl (fun _ => VF.call (XR ⟨_, jZ⟩)) ?_; refine J.cg (r := ((decide (45671926166590716193865151022383844364247891968 < u)) || (decide (u < -45671926166590716193865151022383844364247891968)))) (w := false) [(20, .v (.bQ .f64) r), (23, .v (.bQ .f64) (double.write ((double.read r).integral .down)))] ⟨rfl, rfl, trivial⟩ (fun jU => have afA : ((decide (45671926166590716193865151022383844364247891968 < u)) || (decide (u < -45671926166590716193865151022383844364247891968))) = false := (by simpa using jU); (.yW (b := .neq) (neW jZ afA))) ?_; refine J.c (.or) (J.go ?_); refine U.eE rfl (fun c4 => ?_) (fun c4 => ?_)
  . try simp only [Bool.and_eq_true, Bool.or_eq_true, Bool.and_eq_false_iff, Bool.or_eq_false_iff, Bool.not_eq_true', Bool.not_eq_false', decide_eq_true_eq, decide_eq_false_iff_not] at c4
    refine U.seq (U.text ?_); refine J.c (.assign rfl) (J.go ?_); refine U.ret ?_; exact aS.one rfl bO (dF (by unfold kN; rw [hu]; simp only; rw [if_neg]; omega))
  try simp only [Bool.and_eq_true, Bool.or_eq_true, Bool.and_eq_false_iff, Bool.or_eq_false_iff, Bool.not_eq_true', Bool.not_eq_false', decide_eq_true_eq, decide_eq_false_iff_not] at c4
  refine U.skip (U.seq (U.text ?_)); refine J.c (.assign rfl) (J.go ?_); refine U.ret ?_; exact aS.one rfl bO (dF (by unfold kN; rw [hu]; simp only; rw [if_pos]; omega))
theorem afB {s : Bool} {x : Nat} (hu : single.read x = .infinity s) : VF Tryz.prog OA 42 [.v (.bQ .f32) x] (I (kN x)) := by
  refine VF.enter Tryz.func42 rfl (fun _ _ => rfl) rfl ?_; show U _ _ _ _ _ [(0, .v (.bQ .f32) x)] [] _; refine U.seq (U.text ?_); refine J.c (.assign rfl) ?_; refine J.go (U.seq (U.text ?_)); refine J.c (.move rfl) (J.c (.ahK hu) (J.c (.assign rfl) ?_)); refine J.go (U.seq (U.seq (U.text ?_))); refine J.c (.move rfl) ?_; refine J.call rfl rfl (VF.call (TZ (by cases s <;> decide +kernel))) ?_; refine J.c (.move rfl) (J.c (.move rfl) ?_); refine J.call rfl rfl (VF.call (U0 rfl)) ?_; refine J.c (.iD rfl rfl) (J.go ?_); refine U.eE rfl (fun c2 => ?_) (fun c2 => ?_)
  . refine U.seq (U.text ?_); refine J.c (.assign rfl) (J.go ?_); refine U.ret ?_; exact aS.one rfl bO (dF (by unfold kN u32 Format.dX; rw [hu]))
  exact absurd c2 (by cases s <;> decide +kernel)
theorem abI : VF Tryz.prog OA 69 [.raw (jM .f64)] (B true) := by
  refine VF.enter Tryz.func69 rfl (fun _ _ => rfl) rfl ?_; show U _ _ _ _ _ [(0, .raw (jM .f64))] [] _; refine U.seq (U.text ?_); refine J.c (.assign rfl) ?_; refine J.go (U.seq (U.text ?_)); refine J.c (.move rfl) (J.c (.move rfl) (J.c (.ab7 (k := .f64) (r := true) rfl) (J.c (.assign rfl) ?_))); refine J.go ?_; refine U.ret ?_; exact aS.one rfl bO rfl
theorem afC {s : Bool} {m : Nat} {x : Nat} (hu : single.read x = .nan s m) : VF Tryz.prog OA 42 [.v (.bQ .f32) x] (I (kN x)) := by
  refine VF.enter Tryz.func42 rfl (fun _ _ => rfl) rfl ?_; show U _ _ _ _ _ [(0, .v (.bQ .f32) x)] [] _; refine U.seq (U.text ?_); refine J.c (.assign rfl) ?_; refine J.go (U.seq (U.text ?_)); refine J.c (.move rfl) (J.c (.ahL hu) (J.c (.assign rfl) ?_)); refine J.go (U.seq (U.seq (U.text ?_))); refine J.c (.move rfl) ?_; refine J.call rfl rfl (VF.call (abI )) ?_; refine J.c (.move rfl) (J.skip (J.skip (J.c (.mN rfl rfl) ?_))); refine J.go ?_; refine U.rI rfl ?_; refine U.seq (U.text ?_); refine J.c (.assign rfl) (J.go ?_); refine U.ret ?_; exact aS.one rfl bO (dF (by unfold kN u32 Format.dX; rw [hu]))
theorem ahV {x : Nat} : VF Tryz.prog OA 42 [.v (.bQ .f32) x] (I (kN x)) := by
  cases hu : u32 x with
  | some u => exact af9 hu
  | none =>
    rcases Format.HK hu with ⟨s, h⟩ | ⟨s, m, h⟩
    . exact afB h
    exact afC h
end Go.Proofs
namespace Go.Proofs
open Go.Fs
end Go.Proofs
namespace Go.Proofs
open Go.Fs
theorem U1 {x : Int} : VF Tryz.prog OA 90 [I x] (B false) := by
  refine VF.enter Tryz.func90 rfl (fun _ _ => rfl) rfl ?_; show U _ _ _ _ _ [(0, I x)] [] _; refine U.seq (U.text ?_); refine J.c (.assign rfl) ?_; refine J.go (U.seq (U.text ?_)); refine J.c (.move rfl) (J.c (.move rfl) (J.c (.neq) (J.c (.assign rfl) ?_))); refine J.go ?_; refine U.ret ?_; exact aS.one rfl bO (eZ (by simp))
end Go.Proofs
namespace Go.Proofs
open Go.Fs
structure OkQ (l : List (Int × List Int)) (i : Int) (s : Int × Int) : Prop where
  ens : OkE l
  ix : 0 <= i /\ i < (O9 l : Nat)
  sh : 0 <= s.1 /\ s.1 <= s.2 /\ 1 <= s.2 /\ s.2 <= 999999999
end Go.Proofs
namespace Go.Proofs
open Go.Fs
end Go.Proofs
namespace Go.Proofs
open Ieee
def vQ (F : List (List Nat)) (r c : Nat) : Int := kU ((F.getD r []).getD c 0)
def NL (F : List (List Nat)) (p : Int × Int) : Int :=
  let r := (p.1 / 4).toNat; let c := (p.2 / 4).toNat; let y := p.1 % 4; let x := p.2 % 4
  let d := min (r + 1) (F.length - 1); let e := min (c + 1) ((F.getD 0 []).length - 1)
  (4 - y) * (4 - x) * vQ F r c + (4 - y) * x * vQ F r e + y * (4 - x) * vQ F d c + y * x * vQ F d e
end Go.Proofs
namespace Go.Proofs
open Go.Fs Ieee
abbrev iF : Ty := (.sl (.bQ .f32))
abbrev BD : Ty := (.pair (.int .i64) (.int .i64))
abbrev ZT : Ty := (.sl (.sl (.bQ .f32)))
abbrev U2 : Ty := (.pair (.int .i64) (.pair (.int .i64) (.pair (.int .i64) (.int .i64))))
theorem nH : fL Tryz.prog 38 iF := dW (by kernel_rfl)
theorem BQ : fL Tryz.prog 68 (.bQ .f32) := dW (by kernel_rfl)
theorem afD : fL Tryz.prog 140 U2 := dW (by kernel_rfl)
theorem hD : eX Tryz.prog 38 68 (.bQ .f32) := pG (by kernel_rfl)
theorem wZ : eX Tryz.prog 100 38 iF := pG (by kernel_rfl)
theorem afE : lI Tryz.prog 140 U2 := gR (z := .agg #[.int .i64 0, .int .i64 0, .int .i64 0, .int .i64 0]) (by kernel_rfl) rfl rfl
theorem XS : yQ Tryz.prog 140 U2 [(0, 1), (1, 1), (2, 1), (3, 1)] := r9 afE rfl (by kernel_rfl)
def wid (F : List (List Nat)) : Nat := (F.headD []).length
theorem ZU {F : List (List Nat)} (h : 0 < F.length) : F[0].length = wid F := by
  cases F with
  | nil => simp at h
  | cons x l => rfl
def uC (p : Int × Int) (R C : Int) : Int := aO [aM p.1 0 (4 * (R - 1)), aM p.2 0 (4 * (C - 1))]
structure U3 (F : List (List Nat)) : Prop where
  pos : 0 < F.length
  top : F.length <= 8
  amO : 0 < wid F
  aj2 : wid F <= 8
  row : ∀ r ∈ F, r.length = wid F
  lv : ∀ r ∈ F, ∀ x ∈ r, kN x = 0
theorem XT {p : Int × Int} {R C : Int} (h : uC p R C = 0) : (0 <= p.1 /\ p.1 <= 4 * (R - 1)) /\ (0 <= p.2 /\ p.2 <= 4 * (C - 1)) := by
  unfold uC at h; rw [bK] at h; exact ⟨fW.1 (h _ (by simp)), fW.1 (h _ (by simp))⟩
theorem XU {F : Nat -> Int} {l : List Nat} {f : PV} (hl : l.length < 100000) (hf : ∀ x ∈ l, l7 Tryz.prog OA f [.v (.bQ .f32) x] (I (F x))) : VF Tryz.prog OA 85 [.v iF l, f] (.v LO (l.map F)) := by
  refine VF.enter Tryz.func85 rfl (fun _ _ => rfl) rfl ?_; show U _ _ _ _ _ [(0, .v iF l), (1, f)] [] _; refine U.seq (U.text ?_); refine J.c (.assign rfl) ?_; refine J.go (U.seq (U.text ?_)); refine J.c (.assign rfl) ?_; refine J.go (U.seq (U.seq (U.text ?_))); refine J.c (.move rfl) ?_; refine J.r (.len hD) ?_; refine J.c (.move rfl) ?_; refine J.go (U.block ?_); refine U.oG 44 (.int .i64) ?_; refine U.aW [(1, f), (5, .raw (.slice none 0 0)), (8, .v iF l), (9, I ((l.length : Nat) : Int)), (10, I ((0 : Nat) : Int))] ⟨rfl, rfl, rfl, rfl, rfl, trivial⟩ ?_; refine U.loop (I := fun kk ff ss => ∃ (j : Nat) (out : Value), kk = l.length - j /\ ff = [(1, f), (5, .raw out), (8, .v iF l), (9, I ((l.length : Nat) : Int)), (10, I ((j : Nat) : Int))] /\ ss = [(out, .row 44 (.int .i64) ((l.take j).map F))] /\ (j <= l.length)) ?_ _ _ _ ⟨0, (.slice none 0 0), rfl, rfl, rfl, Nat.zero_le _⟩; rintro kk ff ss ⟨j, out, iI, rfl, rfl, hj⟩; refine U.seq (U.text ?_); refine J.c (.lss) ?_; refine J.go (U.seq ?_); refine U.aN rfl (fun c3 => ?_) (fun c3 => ?_)
  . refine U.skip (U.seq (U.block (U.seq (U.text ?_)))); refine J.c (.ix (j := j) rfl rfl hD (by omega)) ?_; refine J.r (.ld BQ) ?_; refine J.c (.assign rfl) ?_; refine J.go (U.text ?_); refine J.c (.move rfl) (J.c (.move rfl) (J.c (.move rfl) ?_)); refine J.call rfl rfl ((hf _ (List.getElem_mem _)) ) ?_; refine J.new (.lit [F (l[j])] k9) ?_; refine J.app rfl rfl k9 k9 (by simp; omega) ?_; intro fV; refine J.c (.assign rfl) ?_; refine J.nil (U.text ?_); refine J.c (.add rfl rfl (by omega)) (J.c (.move rfl) ?_); refine J.nil ?_; refine ⟨_, [(1, f), (5, .raw fV), (8, .v iF l), (9, I ((l.length : Nat) : Int)), (10, I (((j + 1) : Nat) : Int))], ?_, ⟨rfl, rfl, rfl, rfl, rfl, trivial⟩, (j + 1), fV, rfl, rfl, (by rw [List.take_succ_eq_append_getElem (by omega), List.map_append] <;> rfl), (by omega)⟩; omega
  refine U.exit (U.seq (U.text ?_)); refine J.c (.move rfl) (J.c (.assign rfl) (J.go ?_)); refine U.ret ?_; exact aS.one rfl (uV (.row m0)) (eZ (by rw [List.take_of_length_le (by omega)]))
theorem XV {p : Int × Int} {R : Int} {C : Int} (hR : 0 <= R /\ R <= 100000) (hC : 0 <= C /\ C <= 100000) : VF Tryz.prog OA 32 [.v BD p, I R, I C] (I (uC p R C)) := by
  refine VF.enter Tryz.func32 rfl (fun _ _ => rfl) rfl ?_; show U _ _ _ _ _ [(0, .v BD p), (1, I R), (2, I C)] [] _; refine U.seq (U.text ?_); refine J.new (.box) ?_; refine J.c (.assign rfl) ?_; refine J.go (U.seq (U.drawn ?_)); refine VD.c (.fa (.l .o)) ?_; refine VD.r [] (.ld bP) (.inl rfl) ?_; refine VD.c (.move rfl) (VD.c (.sub rfl rfl (by omega)) (VD.c (.mul rfl rfl (by omega)) ?_)); refine VD.call rfl rfl (VF.call (gF )) ?_; refine VD.nw [] (VD.c (.fa (.r .o)) ?_); refine VD.r [] (.ld bP) (.inl rfl) ?_; refine VD.c (.move rfl) (VD.c (.sub rfl rfl (by omega)) (VD.c (.mul rfl rfl (by omega)) ?_)); refine VD.call rfl rfl (VF.call (gF )) ?_; refine VD.new (.lit [aM p.1 (0 : Int) ((4 : Int) * (R - (1 : Int))), aM p.2 (0 : Int) ((4 : Int) * (C - (1 : Int)))] k9) ?_; refine VD.nw [19] ?_; refine VD.oH rfl rfl (VF.call (fO (by simp))) ?_; refine VD.c (.assign rfl) (VD.go ?_); refine U.ret ?_; exact aS.one rfl bO (dF (by first | rfl | simp))
theorem zD {F : List (List Nat)} {r c : Nat} (hr : r < F.length) (hc : c < F[r].length) : kU (F[r][c]) = vQ F r c := by
  unfold vQ; rw [List.getD_eq_getElem?_getD, List.getD_eq_getElem?_getD, List.getElem?_eq_getElem hr, Option.getD_some, List.getElem?_eq_getElem hc, Option.getD_some]
theorem ET {F : List (List Nat)} (h : U3 F) {r c : Nat} (hr : r < F.length) (hc : c < F[r].length) : kN (F[r][c]) = 0 := h.lv _ (List.getElem_mem hr) _ (List.getElem_mem hc)
theorem afF {F : List (List Nat)} : (F.getD 0 []).length = wid F := by cases F <;> rfl
theorem afG {F : List (List Nat)} {p : Int × Int} {a : Int} (h1 : vQ F (p.1 / 4).toNat (p.2 / 4).toNat = a) (h2 : vQ F (p.1 / 4).toNat (min ((p.2 / 4).toNat + 1) (wid F - 1)) = a) (h3 : vQ F (min ((p.1 / 4).toNat + 1) (F.length - 1)) (p.2 / 4).toNat = a) (h4 : vQ F (min ((p.1 / 4).toNat + 1) (F.length - 1)) (min ((p.2 / 4).toNat + 1) (wid F - 1)) = a) : 16 * a = NL F p := by
  unfold NL; simp only [afF, h1, h2, h3, h4]; generalize p.1 % 4 = y; generalize p.2 % 4 = x; rw [<- Int.add_mul, <- Int.add_mul, <- Int.add_mul]; congr 1; simp only [Int.sub_mul, Int.mul_sub]; omega
theorem vR {F : List (List Nat)} (h : U3 F) {r c : Nat} (hr : r < F.length) (hc : c < F[r].length) : -1024 <= kU (F[r][c]) /\ kU (F[r][c]) <= 1024 := (QZ (ET h hr hc)).2
theorem R9 {a b s : Int} (ha : 0 <= a /\ a <= 4) (hb : 0 <= b /\ b <= 4) (hs : -1024 <= s /\ s <= 1024) : -16384 <= a * b * s /\ a * b * s <= 16384 := by
  have h0 : 0 <= a * b := Int.mul_nonneg ha.1 hb.1; have h1 : a * b <= 4 * 4 := Int.mul_le_mul ha.2 hb.2 hb.1 (by decide)
  have h2 : a * b * s <= 16 * 1024 := by
    by_cases hn : 0 <= s
    . exact Int.mul_le_mul (by omega) hs.2 hn (by decide)
    have := Int.mul_nonneg h0 (show 0 <= -s by omega); rw [Int.mul_neg] at this; omega
  have h3 : a * b * (-s) <= 16 * 1024 := by
    by_cases hn : 0 <= -s
    . exact Int.mul_le_mul (by omega) (by omega) hn (by decide)
    have := Int.mul_nonneg h0 (show 0 <= s by omega); rw [Int.mul_neg]; omega
  rw [Int.mul_neg] at h3; omega
theorem ZV {a b : Int} (ha : 0 <= a /\ a <= 4) (hb : 0 <= b /\ b <= 4) : fit (a * b) := by
  have h0 : 0 <= a * b := Int.mul_nonneg ha.1 hb.1; have h1 : a * b <= 4 * 4 := Int.mul_le_mul ha.2 hb.2 hb.1 (by decide); exact ⟨by omega, by omega⟩
theorem rP {a : Int} (h : -16384 <= a /\ a <= 16384) : fit a := ⟨by omega, by omega⟩
theorem XW {F : List (List Nat)} {p : Int × Int}  {pP : Value} (hF : U3 F) (RA : (p.1 / 4).toNat < F.length) (jZ : min ((p.1 / 4).toNat + 1) (F.length - 1) < F.length) (N7 : F[(p.1 / 4).toNat].length = wid F) (hw2 : F[min ((p.1 / 4).toNat + 1) (F.length - 1)].length = wid F) (wJ : (p.2 / 4).toNat < wid F) (nT : min ((p.2 / 4).toNat + 1) (wid F - 1) < wid F) : U Tryz.prog OA none (aiU 4 (ahB Tryz.f36)) Tryz.f36.ntmps [(7, I (p.1 % 4)), (8, I (p.2 % 4)), (11, .raw pP)] [(pP, .var [I (kU ((F[((p.1 / 4).toNat)])[((p.2 / 4).toNat)])), I (kU ((F[((p.1 / 4).toNat)])[(min ((p.2 / 4).toNat + 1) (wid F - 1))])), I (kU ((F[(min ((p.1 / 4).toNat + 1) (F.length - 1))])[((p.2 / 4).toNat)])), I (kU ((F[(min ((p.1 / 4).toNat + 1) (F.length - 1))])[(min ((p.2 / 4).toNat + 1) (wid F - 1))]))])] (aS Tryz.prog Tryz.f36 (I (NL F p))) := by
  refine U.seq (U.seq (U.text ?_)); have k1 := vR hF RA (show (p.2 / 4).toNat < _ by omega); have k2 := vR hF RA (show min ((p.2 / 4).toNat + 1) (wid F - 1) < _ by omega); have k3 := vR hF jZ (show (p.2 / 4).toNat < _ by omega); have k4 := vR hF jZ (show min ((p.2 / 4).toNat + 1) (wid F - 1) < _ by omega); have g1 := zD RA (show (p.2 / 4).toNat < _ by omega); have g2 := zD RA (show min ((p.2 / 4).toNat + 1) (wid F - 1) < _ by omega); have g3 := zD jZ (show (p.2 / 4).toNat < _ by omega); have g4 := zD jZ (show min ((p.2 / 4).toNat + 1) (wid F - 1) < _ by omega)
  have hy : 0 <= p.1 % 4 /\ p.1 % 4 <= 4 := by omega
  have hx : 0 <= p.2 % 4 /\ p.2 % 4 <= 4 := by omega
  have hy2 : 0 <= 4 - p.1 % 4 /\ 4 - p.1 % 4 <= 4 := by omega
  have yC : 0 <= 4 - p.2 % 4 /\ 4 - p.2 % 4 <= 4 := by omega
  have p1 := R9 hy2 yC k1; have p2 := R9 hy2 hx k2; have p3 := R9 hy yC k3; have p4 := R9 hy hx k4; refine J.c (.ixV 0 (k := 0) (τ' := (.int .i64)) m0) ?_; refine J.r (.QM (k := 0) m0 bP) ?_; refine J.c (.assign rfl) ?_; refine J.go (U.seq (U.text ?_)); refine J.r (.N8 (dx := (kU ((F[((p.1 / 4).toNat)])[((p.2 / 4).toNat)]), kU ((F[((p.1 / 4).toNat)])[(min ((p.2 / 4).toNat + 1) (wid F - 1))]), kU ((F[(min ((p.1 / 4).toNat + 1) (F.length - 1))])[((p.2 / 4).toNat)]), kU ((F[(min ((p.1 / 4).toNat + 1) (F.length - 1))])[(min ((p.2 / 4).toNat + 1) (wid F - 1))]))) m0 afD) ?_; refine J.c (.move rfl) (J.c (.move rfl) (J.c (.move rfl) (J.c (.move rfl) ?_))); refine J.c (.build (kU ((F[((p.1 / 4).toNat)])[((p.2 / 4).toNat)]), kU ((F[((p.1 / 4).toNat)])[((p.2 / 4).toNat)]), kU ((F[((p.1 / 4).toNat)])[((p.2 / 4).toNat)]), kU ((F[((p.1 / 4).toNat)])[((p.2 / 4).toNat)])) XS) (J.c (.ahN (xs := [kU ((F[((p.1 / 4).toNat)])[((p.2 / 4).toNat)]), kU ((F[((p.1 / 4).toNat)])[(min ((p.2 / 4).toNat + 1) (wid F - 1))]), kU ((F[(min ((p.1 / 4).toNat + 1) (F.length - 1))])[((p.2 / 4).toNat)]), kU ((F[(min ((p.1 / 4).toNat + 1) (F.length - 1))])[(min ((p.2 / 4).toNat + 1) (wid F - 1))])]) (ys := [kU ((F[((p.1 / 4).toNat)])[((p.2 / 4).toNat)]), kU ((F[((p.1 / 4).toNat)])[((p.2 / 4).toNat)]), kU ((F[((p.1 / 4).toNat)])[((p.2 / 4).toNat)]), kU ((F[((p.1 / 4).toNat)])[((p.2 / 4).toNat)])]) (.inl ⟨rfl, rfl⟩) rfl rfl rfl rfl (by kernel_rfl) rfl) (J.go ?_)); refine U.aN rfl (fun c5 => ?_) (fun c5 => ?_)
  . refine U.seq (U.text ?_); refine J.c (.move rfl) (J.c (.mul rfl rfl (by omega)) (J.c (.assign rfl) (J.go ?_))); refine U.ret ?_; exact aS.one rfl bO (dF (by simp only [List.cons.injEq, and_true, true_and] at c5; exact afG g1.symm (g2.symm.trans c5.1) (g3.symm.trans c5.2.1) (g4.symm.trans c5.2.2)))
  refine U.skip (U.seq (U.text ?_)); refine J.c (.assign rfl) ?_; refine J.go (U.seq (U.seq (U.text ?_))); refine J.c (.move rfl) (J.c (.sub rfl rfl (by omega)) (J.c (.move rfl) (J.c (.sub rfl rfl (by omega)) ?_))); refine J.c (.mul rfl rfl (by exact ZV hy2 yC)) (J.c (.move rfl) (J.c (.sub rfl rfl (by omega)) (J.c (.move rfl) ?_))); refine J.c (.mul rfl rfl (by exact ZV hy2 hx)) (J.c (.move rfl) (J.c (.move rfl) (J.c (.sub rfl rfl (by omega)) ?_))); refine J.c (.mul rfl rfl (by exact ZV hy yC)) (J.c (.move rfl) (J.c (.move rfl) (J.c (.mul rfl rfl (by exact ZV hy hx)) ?_))); refine J.c (.build ((((4 : Int) - (p.1 % 4)) * ((4 : Int) - (p.2 % 4))), (((4 : Int) - (p.1 % 4)) * (p.2 % 4)), ((p.1 % 4) * ((4 : Int) - (p.2 % 4))), ((p.1 % 4) * (p.2 % 4))) XS) (J.c (.move rfl) ?_); refine J.go (U.block ?_); refine U.EN ?_; refine U.seq (U.text ?_); refine J.c (.lss) ?_; refine J.go (U.seq ?_); refine U.rI rfl ?_; refine U.skip (U.seq (U.block (U.seq (U.text ?_)))); refine J.c (.move rfl) (J.c (.ixA 0 (τ' := (.int .i64)) (dy := (((4 : Int) - (p.1 % 4)) * ((4 : Int) - (p.2 % 4)))) (.l .o)) (J.c (.assign rfl) (J.c (.assign rfl) ?_))); refine J.go ?_; refine U.aW [(11, .raw pP), (13, I (0 : Int)), (14, I (0 : Int)), (15, I (((4 : Int) - (p.1 % 4)) * ((4 : Int) - (p.2 % 4)))), (102, .v U2 ((((4 : Int) - (p.1 % 4)) * ((4 : Int) - (p.2 % 4))), (((4 : Int) - (p.1 % 4)) * (p.2 % 4)), ((p.1 % 4) * ((4 : Int) - (p.2 % 4))), ((p.1 % 4) * (p.2 % 4)))), (103, I (0 : Int))] ⟨rfl, rfl, rfl, rfl, rfl, rfl, trivial⟩ ?_; refine U.text ?_; refine J.c (.move rfl) (J.c (.move rfl) (J.c (.move rfl) (J.c (.ixV 0 (k := 0) (τ' := (.int .i64)) m0) ?_))); refine J.r (.QM (k := 0) m0 bP) ?_; refine J.c (.mul rfl rfl (by first | exact rP p1 | exact rP p2 | exact rP p3 | exact rP p4)) (J.c (.add rfl rfl (by exact ⟨by omega, by omega⟩)) (J.c (.assign rfl) ?_)); refine J.nil (U.text ?_); refine J.c (.add rfl rfl (by decide)) (J.c (.move rfl) ?_); refine J.nil ?_; refine U.EN ?_; refine U.seq (U.text ?_); refine J.c (.lss) ?_; refine J.go (U.seq ?_); refine U.rI rfl ?_; refine U.skip (U.seq (U.block (U.seq (U.text ?_)))); refine J.c (.move rfl) (J.c (.ixA 1 (τ' := (.int .i64)) (dy := (((4 : Int) - (p.1 % 4)) * (p.2 % 4))) (.r (.l .o))) (J.c (.assign rfl) (J.c (.assign rfl) ?_))); refine J.go (U.text ?_); refine J.c (.move rfl) (J.c (.move rfl) (J.c (.move rfl) (J.c (.ixV 1 (k := 1) (τ' := (.int .i64)) m0) ?_))); refine J.r (.QM (k := 1) m0 bP) ?_; refine J.c (.mul rfl rfl (by first | exact rP p1 | exact rP p2 | exact rP p3 | exact rP p4)) (J.c (.add rfl rfl (by exact ⟨by omega, by omega⟩)) (J.c (.assign rfl) ?_)); refine J.nil (U.text ?_); refine J.c (.add rfl rfl (by decide)) (J.c (.move rfl) ?_); refine J.nil ?_; refine U.EN ?_; refine U.seq (U.text ?_); refine J.c (.lss) ?_; refine J.go (U.seq ?_); refine U.rI rfl ?_; refine U.skip (U.seq (U.block (U.seq (U.text ?_)))); refine J.c (.move rfl) (J.c (.ixA 2 (τ' := (.int .i64)) (dy := ((p.1 % 4) * ((4 : Int) - (p.2 % 4)))) (.r (.r (.l .o)))) (J.c (.assign rfl) (J.c (.assign rfl) ?_))); refine J.go (U.text ?_); refine J.c (.move rfl) (J.c (.move rfl) (J.c (.move rfl) (J.c (.ixV 2 (k := 2) (τ' := (.int .i64)) m0) ?_))); refine J.r (.QM (k := 2) m0 bP) ?_; refine J.c (.mul rfl rfl (by first | exact rP p1 | exact rP p2 | exact rP p3 | exact rP p4)) (J.c (.add rfl rfl (by exact ⟨by omega, by omega⟩)) (J.c (.assign rfl) ?_)); refine J.nil ?_; refine U.aW [(11, .raw pP), (13, I ((((0 : Int) + ((((4 : Int) - (p.1 % 4)) * ((4 : Int) - (p.2 % 4))) * kU ((F[((p.1 / 4).toNat)])[((p.2 / 4).toNat)]))) + ((((4 : Int) - (p.1 % 4)) * (p.2 % 4)) * kU ((F[((p.1 / 4).toNat)])[(min ((p.2 / 4).toNat + 1) (wid F - 1))]))) + (((p.1 % 4) * ((4 : Int) - (p.2 % 4))) * kU ((F[(min ((p.1 / 4).toNat + 1) (F.length - 1))])[((p.2 / 4).toNat)])))), (102, .v U2 ((((4 : Int) - (p.1 % 4)) * ((4 : Int) - (p.2 % 4))), (((4 : Int) - (p.1 % 4)) * (p.2 % 4)), ((p.1 % 4) * ((4 : Int) - (p.2 % 4))), ((p.1 % 4) * (p.2 % 4)))), (103, I (2 : Int))] ⟨rfl, rfl, rfl, rfl, trivial⟩ ?_; refine U.text ?_; refine J.c (.add rfl rfl (by decide)) (J.c (.move rfl) ?_); refine J.nil ?_; refine U.EN ?_; refine U.seq (U.text ?_); refine J.c (.lss) ?_; refine J.go (U.seq ?_); refine U.rI rfl ?_; refine U.skip (U.seq (U.block (U.seq (U.text ?_)))); refine J.c (.move rfl) (J.c (.ixA 3 (τ' := (.int .i64)) (dy := ((p.1 % 4) * (p.2 % 4))) (.r (.r (.r .o)))) (J.c (.assign rfl) (J.c (.assign rfl) ?_))); refine J.go (U.text ?_); refine J.c (.move rfl) (J.c (.move rfl) (J.c (.move rfl) (J.c (.ixV 3 (k := 3) (τ' := (.int .i64)) m0) ?_))); refine J.r (.QM (k := 3) m0 bP) ?_; refine J.c (.mul rfl rfl (by first | exact rP p1 | exact rP p2 | exact rP p3 | exact rP p4)) (J.c (.add rfl rfl (by exact ⟨by omega, by omega⟩)) (J.c (.assign rfl) ?_)); refine J.nil (U.text ?_); refine J.c (.add rfl rfl (by decide)) (J.c (.move rfl) ?_); refine J.nil ?_; refine U.EN ?_; refine U.seq (U.text ?_); refine J.c (.lss) ?_; refine J.go (U.seq ?_); refine U.wR rfl ?_; refine U.exit (U.seq (U.text ?_)); refine J.c (.move rfl) (J.c (.assign rfl) (J.go ?_)); refine U.ret ?_; exact aS.one rfl bO (dF (by unfold NL; simp only [afF, <- g1, <- g2, <- g3, <- g4]; omega))
theorem ahW {F : List (List Nat)} {p : Int × Int} (hF : U3 F) (hp : (0 <= p.1 /\ p.1 <= 4 * ((F.length : Int) - 1)) /\ (0 <= p.2 /\ p.2 <= 4 * ((wid F : Int) - 1))) : VF Tryz.prog OA 36 [.v ZT F, .v BD p] (I (NL F p)) := by
  refine VF.enter Tryz.func36 rfl (fun _ _ => rfl) rfl ?_; show U _ _ _ _ _ [(0, .v ZT F), (1, .v BD p)] [] _
  have hq1 : p.1.tdiv 4 = (((p.1 / 4).toNat : Nat) : Int) := by rw [Int.tdiv_eq_ediv_of_nonneg hp.1.1]; omega
  have wE : p.2.tdiv 4 = (((p.2 / 4).toNat : Nat) : Int) := by rw [Int.tdiv_eq_ediv_of_nonneg hp.2.1]; omega
  have IC : p.1.tmod 4 = p.1 % 4 := Int.tmod_eq_emod_of_nonneg hp.1.1; have fS : p.2.tmod 4 = p.2 % 4 := Int.tmod_eq_emod_of_nonneg hp.2.1; have nF := hF.pos; have ao5 := hF.top; have hwp := hF.amO; have sL := hF.aj2; have e0 := ZU nF
  have RA : (p.1 / 4).toNat < F.length := by omega
  have jZ : min ((p.1 / 4).toNat + 1) (F.length - 1) < F.length := by omega
  have N7 := hF.row _ (List.getElem_mem RA); have hw2 := hF.row _ (List.getElem_mem jZ)
  have wJ : (p.2 / 4).toNat < wid F := by omega
  have nT : min ((p.2 / 4).toNat + 1) (wid F - 1) < wid F := by omega
  have SM : min ((((p.1 / 4).toNat : Nat) : Int) + (1 : Int)) (((F.length : Nat) : Int) - (1 : Int)) = ((min ((p.1 / 4).toNat + 1) (F.length - 1) : Nat) : Int) := by omega
  have tO : min ((((p.2 / 4).toNat : Nat) : Int) + (1 : Int)) ((((F[0]).length : Nat) : Int) - (1 : Int)) = ((min ((p.2 / 4).toNat + 1) (wid F - 1) : Nat) : Int) := by omega
  refine U.seq (U.text ?_); refine J.new (.box) ?_; refine J.c (.assign rfl) ?_; refine J.go (U.seq (U.drawn ?_)); refine VD.c (.fa (.l .o)) ?_; refine VD.r [] (.ld bP) (.inl rfl) ?_; refine VD.c (.quo rfl rfl (by decide) (by omega)) (VD.c (.fa (.r .o)) ?_); refine VD.r [] (.ld bP) (.inl rfl) ?_; refine VD.c (.quo rfl rfl (by decide) (by omega)) (VD.nw [] (VD.c (.fa (.l .o)) ?_)); refine VD.r [] (.ld bP) (.inl rfl) ?_; refine VD.c (.rem rfl rfl (by decide)) (VD.c (.fa (.r .o)) ?_); refine VD.r [] (.ld bP) (.inl rfl) ?_; refine VD.c (.rem rfl rfl (by decide)) (VD.c (.assign rfl) (VD.nw [] (VD.c (.assign rfl) ?_))); refine VD.c (.assign rfl) (VD.c (.assign rfl) ?_); rw [hq1, wE, IC, fS]; refine VD.go (U.seq (U.drawn ?_)); refine VD.c (.move rfl) (VD.c (.add rfl rfl (by omega)) (VD.c (.move rfl) ?_)); refine VD.r [] (.len wZ) (.inl rfl) ?_; refine VD.c (.sub rfl rfl (by omega)) (VD.c (.aiN) (VD.nw [] (VD.c (.move rfl) ?_))); refine VD.c (.add rfl rfl (by omega)) (VD.c (.move rfl) (VD.c (.ix (j := 0) rfl rfl wZ (by omega)) ?_)); refine VD.r [] (.ld nH) (.inl rfl) ?_; refine VD.r [] (.len hD) (.inl rfl) ?_; refine VD.c (.sub rfl rfl (by omega)) (VD.nw [] (VD.c (.aiN) (VD.c (.assign rfl) ?_))); refine VD.c (.assign rfl) ?_; rw [SM, tO]; refine VD.go (U.seq ?_); refine U.aW [(0, .v ZT F), (5, I (((p.1 / 4).toNat : Nat) : Int)), (6, I (((p.2 / 4).toNat : Nat) : Int)), (7, I (p.1 % 4)), (8, I (p.2 % 4)), (9, I (((min ((p.1 / 4).toNat + 1) (F.length - 1)) : Nat) : Int)), (10, I (((min ((p.2 / 4).toNat + 1) (wid F - 1)) : Nat) : Int))] ⟨rfl, rfl, rfl, rfl, rfl, rfl, rfl, trivial⟩ ?_; refine U.drawn ?_; refine VD.c (.move rfl) (VD.c (.move rfl) (VD.c (.ix (j := ((p.1 / 4).toNat)) rfl rfl wZ (by omega)) ?_)); refine VD.r [] (.ld nH) (.inl rfl) ?_; refine VD.c (.move rfl) (VD.c (.ix (j := ((p.2 / 4).toNat)) rfl rfl hD (by omega)) (VD.nw [] ?_)); refine VD.r [] (.ld BQ) (.inl rfl) ?_; refine VD.call rfl rfl (VF.call (ES (ET hF RA (by omega)))) ?_; refine VD.c (.move rfl) (VD.c (.move rfl) (VD.c (.ix (j := ((p.1 / 4).toNat)) rfl rfl wZ (by omega)) ?_)); refine VD.r [] (.ld nH) (.inl rfl) ?_; refine VD.c (.move rfl) (VD.nw [] (VD.c (.ix (j := (min ((p.2 / 4).toNat + 1) (wid F - 1))) rfl rfl hD (by omega)) ?_)); refine VD.r [] (.ld BQ) (.inl rfl) ?_; refine VD.call rfl rfl (VF.call (ES (ET hF RA (by omega)))) ?_; refine VD.c (.move rfl) (VD.c (.move rfl) (VD.c (.ix (j := (min ((p.1 / 4).toNat + 1) (F.length - 1))) rfl rfl wZ (by omega)) ?_)); refine VD.r [] (.ld nH) (.inl rfl) ?_; refine VD.nw [] (VD.c (.move rfl) (VD.c (.ix (j := ((p.2 / 4).toNat)) rfl rfl hD (by omega)) ?_)); refine VD.r [] (.ld BQ) (.inl rfl) ?_; refine VD.call rfl rfl (VF.call (ES (ET hF jZ (by omega)))) ?_; refine VD.c (.move rfl) (VD.c (.move rfl) (VD.c (.ix (j := (min ((p.1 / 4).toNat + 1) (F.length - 1))) rfl rfl wZ (by omega)) (VD.nw [] ?_))); refine VD.r [] (.ld nH) (.inl rfl) ?_; refine VD.c (.move rfl) (VD.c (.ix (j := (min ((p.2 / 4).toNat + 1) (wid F - 1))) rfl rfl hD (by omega)) ?_); refine VD.r [] (.ld BQ) (.inl rfl) ?_; refine VD.call rfl rfl (VF.call (ES (ET hF jZ (by omega)))) ?_; refine VD.c (.build (kU ((F[((p.1 / 4).toNat)])[((p.2 / 4).toNat)]), kU ((F[((p.1 / 4).toNat)])[(min ((p.2 / 4).toNat + 1) (wid F - 1))]), kU ((F[(min ((p.1 / 4).toNat + 1) (F.length - 1))])[((p.2 / 4).toNat)]), kU ((F[(min ((p.1 / 4).toNat + 1) (F.length - 1))])[(min ((p.2 / 4).toNat + 1) (wid F - 1))])) XS) ?_; refine VD.cell (.alloc afE) ?_; intro pP; refine VD.nw [11] ?_; refine VD.rJ (cA.u7 (k := 0) afD .v (Nat.le_of_ble_eq_true rfl) (.inr ⟨rfl, rfl⟩) rfl rfl) ?_; rintro _ _ tl3 ⟨rfl, rfl⟩; refine VD.go ?_; refine U.aW [(7, I (p.1 % 4)), (8, I (p.2 % 4)), (11, .raw pP)] ⟨rfl, rfl, rfl, trivial⟩ ?_; exact XW (F := F) (p := p) hF RA jZ N7 hw2 wJ nT
end Go.Proofs
namespace Go.Proofs
open Go.Fs Ieee
end Go.Proofs
namespace Go.Proofs
open Go.Fs Ieee
structure SmF (F : List (List Nat)) : Prop where
  ok : U3 F
  top : F.length <= 4
  aj2 : wid F <= 4
  low : ∀ r ∈ F, ∀ x ∈ r, -960 <= kU x /\ kU x <= 960
end Go.Proofs
namespace Go.Proofs
open Go.Fs Ieee
end Go.Proofs
namespace Go.Fs
end Go.Fs
namespace Go.Proofs
open Go.Fs Ieee
end Go.Proofs
namespace Go.Proofs
open Go.Fs Ieee
def mP (c : Int) : Bool := decide (65 <= c /\ c <= 90 \/ 97 <= c /\ c <= 122)
def qW (c : Int) : Bool := decide (48 <= c /\ c <= 57 \/ c = 95)
def kP (c : Int) (i : Nat) : Bool := mP c || (decide (i ≠ 0) && qW c)
def mQ (s : ByteArray) : Bool := decide (s.size ≠ 0 /\ s.size <= 24 /\ ∀ i, i < s.size -> kP (gT s i) i = true)
theorem U4 {s : ByteArray} {i : Nat} (hi : i < s.size) (h : kP (gT s i) i = false) : false = mQ s := by
  refine (decide_eq_false fun hh => ?_).symm; rw [hh.2.2 i hi] at h; cases h
theorem afH {s : ByteArray} (h1 : s.size ≠ 0) (h2 : s.size <= 24) (h : ∀ i, i < s.size -> kP (gT s i) i = true) : true = mQ s := (decide_eq_true ⟨h1, h2, h⟩).symm
theorem size_empty {s : ByteArray} : s ≠ ByteArray.empty ↔ s.size ≠ 0 := by
  constructor
  . intro h e; exact h (ByteArray.ext (Array.eq_empty_of_size_eq_zero e))
  rintro h rfl; exact h rfl
theorem HT {c : Int} {i : Nat} (h : 128 <= c) : kP c i = false := by
  have h1 : mP c = false := decide_eq_false (by omega); have h2 : qW c = false := decide_eq_false (by omega); rw [kP, h1, h2]; simp
theorem ahX {s : ByteArray} {p : Nat} (h : kP ((Utf8.decode s p).1 : Nat) p = false) : kP (gT s p) p = false := by
  by_cases hl : (s.get! p).toNat < 128
  . rw [HN hl] at h; exact h
  exact HT (by rw [XE]; omega)
theorem ZW {s : ByteArray} {p : Nat} (h : kP ((Utf8.decode s p).1 : Nat) p = true) : kP (gT s p) p = true /\ (Utf8.decode s p).2 = 1 := by
  by_cases hl : (s.get! p).toNat < 128
  . rw [HN hl] at h ⊢; exact ⟨h, rfl⟩
  have := Go.Fs.decode_high hl; rw [HT (by omega)] at h; cases h
theorem abJ {s : ByteArray} (h : ∀ i, i < s.size -> kP (gT s i) i = true) : (decide (s ≠ ByteArray.empty) && decide (((s.size : Nat) : Int) <= 24)) = mQ s := by
  rw [<- Bool.decide_and]; exact decide_eq_decide.2 ⟨fun hh => ⟨size_empty.1 hh.1, by omega, h⟩, fun hh => ⟨size_empty.2 hh.1, by omega⟩⟩
theorem abK {s : ByteArray} : VF Tryz.prog OA 74 [St s] (B (mQ s)) := by
  refine VF.enter Tryz.func74 rfl (fun _ _ => rfl) rfl ?_; show U _ _ _ _ _ [(0, St s)] [] _; refine U.seq (U.text ?_); refine J.c (.assign rfl) ?_; refine J.go (U.seq (U.seq (U.text ?_))); refine J.c (.move rfl) ?_; refine J.cell (.rng) ?_; intro fV; refine J.go (U.block ?_); refine U.aW [(0, St s), (8, .raw fV)] ⟨rfl, rfl, trivial⟩ ?_; refine U.loop (I := fun kk ff ss => ∃ (p : Nat), kk = s.size - p /\ ff = [(0, St s), (8, .raw fV)] /\ ss = [(fV, .it s p)] /\ (p <= s.size) /\ (∀ i, i < p -> kP (gT s i) i = true)) ?_ _ _ _ ⟨0, rfl, rfl, rfl, Nat.zero_le _, (by intro i hi; omega)⟩; rintro kk ff ss ⟨p, iI, rfl, rfl, hp, hq⟩; refine U.seq (U.text ?_); refine J.next rfl (fun aj3 => ?_) (fun aj3 => ?_)
  . refine J.c (.extract) ?_; refine J.go (U.seq ?_); refine U.rI rfl ?_; refine U.skip (U.block (U.seq (U.text ?_))); refine J.c (.extract) (J.c (.extract) (J.c (.assign rfl) (J.c (.assign rfl) ?_))); refine J.go (U.seq ?_); refine U.join [(0, St s), (3, I ((p : Nat) : Int)), (4, .v (.int .i32) (((Utf8.decode s p).1 : Nat) : Int)), (5, B (mP ((Utf8.decode s p).1 : Nat))), (8, .raw fV)] [(fV, .it s (p + (Utf8.decode s p).2))] ?_ ?_
    . skip
      refine U.text ?_; refine J.c (.move rfl) (J.c (.geq) (J.c (.move rfl) ?_)); refine J.kE (x := 15) rfl (fun amP => ?_) (fun amP => ?_)
      . refine J.c (.move rfl) (J.c (.leq) (J.c (.mN rfl rfl) (J.c (.move rfl) ?_))); refine J.kE (x := 19) rfl (fun afA => ?_) (fun afA => ?_)
        . refine J.skip (J.skip (J.skip (J.skip ?_))); refine J.skip (J.skip (J.c (.mN rfl rfl) (J.c (.assign rfl) ?_))); refine J.nil ?_; exact ⟨⟨rfl, rfl, rfl, s6 rfl (by rw [Bool.eq_iff_iff]; simp [mP] <;> omega), rfl, trivial⟩, rfl⟩
        refine J.c (.move rfl) (J.c (.geq) (J.c (.move rfl) ?_)); refine J.cg (r := decide ((97 : Int) <= (((Utf8.decode s p).1 : Nat) : Int))) (w := true) [] trivial (fun _ => (.move rfl)) ?_; refine J.cg (r := decide ((97 : Int) <= (((Utf8.decode s p).1 : Nat) : Int))) (w := true) [(23, .v (.int .i32) (((Utf8.decode s p).1 : Nat) : Int))] ⟨rfl, trivial⟩ (fun _ => (.leq)) ?_; refine J.c (.and) (J.c (.iD rfl rfl) (J.c (.assign rfl) ?_)); refine J.nil ?_; exact ⟨⟨rfl, rfl, rfl, s6 rfl (by rw [Bool.eq_iff_iff]; simp [mP] <;> omega), rfl, trivial⟩, rfl⟩
      refine J.skip (J.skip (J.c (.iD rfl rfl) (J.c (.move rfl) ?_))); refine J.c (.move rfl) (J.c (.geq) (J.c (.move rfl) ?_)); refine J.cg (r := decide ((97 : Int) <= (((Utf8.decode s p).1 : Nat) : Int))) (w := true) [] trivial (fun _ => (.move rfl)) ?_; refine J.cg (r := decide ((97 : Int) <= (((Utf8.decode s p).1 : Nat) : Int))) (w := true) [(23, .v (.int .i32) (((Utf8.decode s p).1 : Nat) : Int))] ⟨rfl, trivial⟩ (fun _ => (.leq)) ?_; refine J.c (.and) (J.c (.iD rfl rfl) (J.c (.assign rfl) ?_)); refine J.nil ?_; exact ⟨⟨rfl, rfl, rfl, s6 rfl (by rw [Bool.eq_iff_iff]; simp [mP] <;> omega), rfl, trivial⟩, rfl⟩
    refine U.seq ?_; refine U.join [(0, St s), (3, I ((p : Nat) : Int)), (5, B (mP ((Utf8.decode s p).1 : Nat))), (6, B (qW ((Utf8.decode s p).1 : Nat))), (8, .raw fV)] [(fV, .it s (p + (Utf8.decode s p).2))] ?_ ?_
    . skip
      refine U.text ?_; refine J.c (.move rfl) (J.c (.geq) (J.c (.move rfl) ?_)); refine J.kE (x := 29) rfl (fun amQ => ?_) (fun amQ => ?_)
      . refine J.c (.move rfl) (J.c (.leq) (J.c (.mN rfl rfl) (J.c (.move rfl) ?_))); refine J.cg (r := decide ((((Utf8.decode s p).1 : Nat) : Int) <= (57 : Int))) (w := false) [] trivial (fun _ => (.move rfl)) ?_; refine J.cg (r := decide ((((Utf8.decode s p).1 : Nat) : Int) <= (57 : Int))) (w := false) [(34, .v (.int .i32) (((Utf8.decode s p).1 : Nat) : Int))] ⟨rfl, trivial⟩ (fun _ => (.eql)) ?_; refine J.c (.or) (J.c (.assign rfl) ?_); refine J.nil ?_; exact ⟨⟨rfl, rfl, rfl, s6 rfl (by rw [Bool.eq_iff_iff]; simp [qW] <;> omega), rfl, trivial⟩, rfl⟩
      refine J.skip (J.skip (J.c (.iD rfl rfl) (J.c (.move rfl) ?_))); refine J.c (.move rfl) (J.c (.eql) (J.c (.iD rfl rfl) (J.c (.assign rfl) ?_))); refine J.nil ?_; exact ⟨⟨rfl, rfl, rfl, s6 rfl (by rw [Bool.eq_iff_iff]; simp [qW] <;> omega), rfl, trivial⟩, rfl⟩
    refine U.seq ?_; refine U.join [(0, St s), (8, .raw fV), (46, B (!kP ((Utf8.decode s p).1 : Nat) p))] [(fV, .it s (p + (Utf8.decode s p).2))] ?_ ?_
    . skip
      refine U.text ?_; refine J.c (.move rfl) (J.c (.not) (J.c (.move rfl) ?_)); refine J.zY (x := 39) rfl (fun afI => ?_) (fun afI => ?_)
      . try simp only [Bool.and_eq_true, Bool.or_eq_true, Bool.and_eq_false_iff, Bool.or_eq_false_iff, Bool.not_eq_true', Bool.not_eq_false', decide_eq_true_eq, decide_eq_false_iff_not] at afI
        refine J.c (.move rfl) (J.c (.eql) (J.c (.move rfl) ?_)); refine J.cg (r := decide (((p : Nat) : Int) = (0 : Int))) (w := false) [] trivial (fun _ => (.move rfl)) ?_; refine J.cg (r := decide (((p : Nat) : Int) = (0 : Int))) (w := false) [(43, B (qW ((Utf8.decode s p).1 : Nat)))] ⟨rfl, trivial⟩ (fun _ => (.not)) ?_; refine J.c (.or) (J.c (.mN rfl rfl) ?_); refine J.nil ?_; exact ⟨⟨rfl, rfl, s6 rfl (by simp [kP, *]), trivial⟩, rfl⟩
      try simp only [Bool.and_eq_true, Bool.or_eq_true, Bool.and_eq_false_iff, Bool.or_eq_false_iff, Bool.not_eq_true', Bool.not_eq_false', decide_eq_true_eq, decide_eq_false_iff_not] at afI
      refine J.skip (J.skip (J.skip (J.skip ?_))); refine J.skip (J.skip (J.c (.iD rfl rfl) ?_)); refine J.nil ?_; exact ⟨⟨rfl, rfl, s6 rfl (by simp [kP, *]), trivial⟩, rfl⟩
    refine U.eE rfl (fun c6 => ?_) (fun c6 => ?_)
    . try simp only [Bool.and_eq_true, Bool.or_eq_true, Bool.and_eq_false_iff, Bool.or_eq_false_iff, Bool.not_eq_true', Bool.not_eq_false', decide_eq_true_eq, decide_eq_false_iff_not] at c6
      refine U.seq (U.text ?_); refine J.c (.assign rfl) (J.go ?_); refine U.ret ?_; exact aS.one rfl bO (eZ (by exact U4 aj3 (ahX c6)))
    try simp only [Bool.and_eq_true, Bool.or_eq_true, Bool.and_eq_false_iff, Bool.or_eq_false_iff, Bool.not_eq_true', Bool.not_eq_false', decide_eq_true_eq, decide_eq_false_iff_not] at c6
    refine U.skip ?_; refine ⟨_, [(0, St s), (8, .raw fV)], ?_, ⟨rfl, rfl, trivial⟩, (p + 1), rfl, rfl, (by rw [(ZW c6).2]), (by omega), (by intro i hi; rcases Nat.lt_succ_iff_lt_or_eq.1 hi with h | h; exact hq i h; subst h; exact (ZW c6).1)⟩; omega
  refine J.c (.amE) ?_; refine J.go (U.seq ?_); refine U.wR rfl ?_; refine U.exit (U.seq (U.text ?_)); refine J.c (.move rfl) (J.c (.aiT) (J.c (.move rfl) ?_)); refine J.cg (r := decide (s ≠ ByteArray.empty)) (w := true) [] trivial (fun _ => (.move rfl)) ?_; refine J.rg (r := decide (s ≠ ByteArray.empty)) (w := true) [(50, St s)] ⟨rfl, trivial⟩ (fun _ => (.OC)) ?_; refine J.cg (r := decide (s ≠ ByteArray.empty)) (w := true) [(51, I ((s.size : Nat) : Int))] ⟨rfl, trivial⟩ (fun _ => (.leq)) ?_; refine J.c (.and) (J.c (.assign rfl) (J.go ?_)); refine U.ret ?_; exact aS.one rfl bO (eZ (by exact abJ (fun i hi => hq i (by omega))))
theorem abL {s : ByteArray} : VF Tryz.prog OA 68 [St s] (B (mQ s)) := by
  refine VF.enter Tryz.func68 rfl (fun _ _ => rfl) rfl ?_; show U _ _ _ _ _ [(0, St s)] [] _; refine U.seq (U.text ?_); refine J.c (.assign rfl) ?_; refine J.go (U.seq (U.seq (U.text ?_))); refine J.c (.move rfl) ?_; refine J.r (.OC) ?_; refine J.c (.eql) (J.c (.move rfl) ?_); refine J.cg (r := decide (((s.size : Nat) : Int) = (0 : Int))) (w := false) [] trivial (fun _ => (.move rfl)) ?_; refine J.rg (r := decide (((s.size : Nat) : Int) = (0 : Int))) (w := false) [(9, St s)] ⟨rfl, trivial⟩ (fun _ => (.OC)) ?_; refine J.cg (r := decide (((s.size : Nat) : Int) = (0 : Int))) (w := false) [(10, I ((s.size : Nat) : Int))] ⟨rfl, trivial⟩ (fun _ => (.gtr)) ?_; refine J.c (.or) (J.go ?_); refine U.eE rfl (fun c1 => ?_) (fun c1 => ?_)
  . try simp only [Bool.and_eq_true, Bool.or_eq_true, Bool.and_eq_false_iff, Bool.or_eq_false_iff, Bool.not_eq_true', Bool.not_eq_false', decide_eq_true_eq, decide_eq_false_iff_not] at c1
    refine U.seq (U.text ?_); refine J.c (.assign rfl) (J.go ?_); refine U.ret ?_; exact aS.one rfl bO (eZ (by exact (decide_eq_false fun hh => by have := hh.1; have := hh.2.1; omega).symm))
  try simp only [Bool.and_eq_true, Bool.or_eq_true, Bool.and_eq_false_iff, Bool.or_eq_false_iff, Bool.not_eq_true', Bool.not_eq_false', decide_eq_true_eq, decide_eq_false_iff_not] at c1
  refine U.skip (U.seq (U.seq (U.text ?_))); refine J.c (.assign rfl) ?_; refine J.go (U.block ?_); refine U.aW [(0, St s), (3, I ((0 : Nat) : Int))] ⟨rfl, rfl, trivial⟩ ?_; refine U.loop (I := fun kk ff ss => ∃ (i : Nat), kk = s.size - i /\ ff = [(0, St s), (3, I ((i : Nat) : Int))] /\ ss = [] /\ (i <= s.size) /\ (∀ k, k < i -> kP (gT s k) k = true)) ?_ _ _ _ ⟨0, rfl, rfl, rfl, Nat.zero_le _, (by intro k hk; omega)⟩; rintro kk ff ss ⟨i, iI, rfl, rfl, hi, hq⟩; refine U.seq (U.seq (U.text ?_)); refine J.c (.move rfl) (J.c (.move rfl) ?_); refine J.r (.OC) ?_; refine J.c (.lss) (J.go ?_); refine U.aN rfl (fun c4 => ?_) (fun c4 => ?_)
  . refine U.skip (U.seq (U.block (U.seq (U.text ?_)))); refine J.c (.move rfl) (J.c (.move rfl) (J.c (.ixS rfl rfl (by omega) (by omega)) (J.c (.assign rfl) ?_))); refine J.go (U.seq (U.seq ?_)); refine U.join [(0, St s), (3, I ((i : Nat) : Int)), (4, .v (.int .u8) (gT s ((i : Nat) : Int))), (35, B (mP (gT s i)))] [] ?_ ?_
    . skip
      refine U.text ?_; refine J.c (.move rfl) (J.c (.geq) (J.c (.move rfl) ?_)); refine J.kE (x := 24) rfl (fun amR => ?_) (fun amR => ?_)
      . refine J.c (.move rfl) (J.c (.leq) (J.c (.mN rfl rfl) (J.c (.move rfl) ?_))); refine J.kE (x := 28) rfl (fun amS => ?_) (fun amS => ?_)
        . refine J.skip (J.skip (J.skip (J.skip ?_))); refine J.skip (J.skip (J.c (.mN rfl rfl) ?_)); refine J.nil ?_; exact ⟨⟨rfl, rfl, rfl, s6 rfl (by rw [Bool.eq_iff_iff]; simp [mP] <;> omega), trivial⟩, rfl⟩
        refine J.c (.move rfl) (J.c (.geq) (J.c (.move rfl) ?_)); refine J.cg (r := decide ((65 : Int) <= (gT s ((i : Nat) : Int)))) (w := true) [] trivial (fun _ => (.move rfl)) ?_; refine J.cg (r := decide ((65 : Int) <= (gT s ((i : Nat) : Int)))) (w := true) [(32, .v (.int .u8) (gT s ((i : Nat) : Int)))] ⟨rfl, trivial⟩ (fun _ => (.leq)) ?_; refine J.c (.and) (J.c (.iD rfl rfl) ?_); refine J.nil ?_; exact ⟨⟨rfl, rfl, rfl, s6 rfl (by rw [Bool.eq_iff_iff]; simp [mP] <;> omega), trivial⟩, rfl⟩
      refine J.skip (J.skip (J.c (.iD rfl rfl) (J.c (.move rfl) ?_))); refine J.c (.move rfl) (J.c (.geq) (J.c (.move rfl) ?_)); refine J.cg (r := decide ((65 : Int) <= (gT s ((i : Nat) : Int)))) (w := true) [] trivial (fun _ => (.move rfl)) ?_; refine J.cg (r := decide ((65 : Int) <= (gT s ((i : Nat) : Int)))) (w := true) [(32, .v (.int .u8) (gT s ((i : Nat) : Int)))] ⟨rfl, trivial⟩ (fun _ => (.leq)) ?_; refine J.c (.and) (J.c (.iD rfl rfl) ?_); refine J.nil ?_; exact ⟨⟨rfl, rfl, rfl, s6 rfl (by rw [Bool.eq_iff_iff]; simp [mP] <;> omega), trivial⟩, rfl⟩
    refine U.eE rfl (fun c7 => ?_) (fun c7 => ?_)
    . have bW : kP (gT s i) i = true := by rw [kP, c7] <;> rfl
      refine U.exit (U.text ?_); refine J.c (.move rfl) (J.c (.add rfl rfl (by omega)) (J.c (.assign rfl) ?_)); refine J.nil ?_; refine ⟨_, [(0, St s), (3, I (((i + 1) : Nat) : Int))], ?_, ⟨rfl, rfl, trivial⟩, (i + 1), rfl, rfl, rfl, (by omega), (by intro k hk; rcases Nat.lt_succ_iff_lt_or_eq.1 hk with h | h; exact hq k h; subst h; exact bW)⟩; omega
    refine U.skip (U.seq ?_); refine U.join [(0, St s), (3, I ((i : Nat) : Int)), (49, B (!(decide (i ≠ 0) && qW (gT s i))))] [] ?_ ?_
    . skip
      refine U.text ?_; refine J.c (.move rfl) (J.c (.eql) (J.c (.move rfl) ?_)); refine J.kE (x := 38) rfl (fun amT => ?_) (fun amT => ?_)
      . refine J.skip (J.skip (J.skip (J.skip ?_))); refine J.skip (J.skip (J.skip (J.skip ?_))); refine J.skip (J.skip (J.c (.mN rfl rfl) ?_)); refine J.nil ?_; exact ⟨⟨rfl, rfl, s6 rfl (by rw [Bool.eq_iff_iff]; simp [qW] <;> omega), trivial⟩, rfl⟩
      refine J.c (.move rfl) (J.c (.neq) (J.c (.move rfl) ?_)); refine J.kE (x := 41) rfl (fun amU => ?_) (fun amU => ?_)
      . refine J.c (.move rfl) (J.c (.lss) (J.c (.move rfl) ?_)); refine J.cg (r := decide ((gT s ((i : Nat) : Int)) < (48 : Int))) (w := false) [] trivial (fun _ => (.move rfl)) ?_; refine J.cg (r := decide ((gT s ((i : Nat) : Int)) < (48 : Int))) (w := false) [(45, .v (.int .u8) (gT s ((i : Nat) : Int)))] ⟨rfl, trivial⟩ (fun _ => (.gtr)) ?_; refine J.c (.or) (J.c (.mN rfl rfl) (J.c (.iD rfl rfl) ?_)); refine J.nil ?_; exact ⟨⟨rfl, rfl, s6 rfl (by rw [Bool.eq_iff_iff]; simp [qW] <;> omega), trivial⟩, rfl⟩
      refine J.skip (J.skip (J.skip (J.skip ?_))); refine J.skip (J.skip (J.c (.iD rfl rfl) (J.c (.iD rfl rfl) ?_))); refine J.nil ?_; exact ⟨⟨rfl, rfl, s6 rfl (by rw [Bool.eq_iff_iff]; simp [qW] <;> omega), trivial⟩, rfl⟩
    refine U.eE rfl (fun c8 => ?_) (fun c8 => ?_)
    . try simp only [Bool.and_eq_true, Bool.or_eq_true, Bool.and_eq_false_iff, Bool.or_eq_false_iff, Bool.not_eq_true', Bool.not_eq_false', decide_eq_true_eq, decide_eq_false_iff_not] at c8
      refine U.seq (U.text ?_); refine J.c (.assign rfl) (J.go ?_); refine U.ret ?_; exact aS.one rfl bO (eZ (by exact U4 (i := i) (by omega) (by simp only [kP, c7, Bool.false_or, Bool.and_eq_false_iff, decide_eq_false_iff_not]; exact c8)))
    try simp only [Bool.and_eq_true, Bool.or_eq_true, Bool.and_eq_false_iff, Bool.or_eq_false_iff, Bool.not_eq_true', Bool.not_eq_false', decide_eq_true_eq, decide_eq_false_iff_not] at c8
    have bW : kP (gT s i) i = true := by simp [kP, *]
    refine U.skip (U.text ?_); refine J.c (.move rfl) (J.c (.add rfl rfl (by omega)) (J.c (.assign rfl) ?_)); refine J.nil ?_; refine ⟨_, [(0, St s), (3, I (((i + 1) : Nat) : Int))], ?_, ⟨rfl, rfl, trivial⟩, (i + 1), rfl, rfl, rfl, (by omega), (by intro k hk; rcases Nat.lt_succ_iff_lt_or_eq.1 hk with h | h; exact hq k h; subst h; exact bW)⟩; omega
  refine U.exit (U.seq (U.text ?_)); refine J.c (.assign rfl) (J.go ?_); refine U.ret ?_; exact aS.one rfl bO (eZ (by exact afH (by omega) (by omega) (fun k hk => hq k (by omega))))
theorem XX {s : ByteArray} : VF Tryz.prog OA 40 [St s] (I (cJ (!mQ s) 8)) := by
  refine VF.enter Tryz.func40 rfl (fun _ _ => rfl) rfl ?_; show U _ _ _ _ _ [(0, St s)] [] _; refine U.seq (U.text ?_); refine J.c (.assign rfl) ?_; refine J.go (U.seq (U.seq (U.text ?_))); refine J.c (.move rfl) ?_; refine J.call rfl rfl (VF.call (abL )) ?_; refine J.c (.not) (J.go ?_); refine U.eE rfl (fun c1 => ?_) (fun c1 => ?_)
  . try simp only [Bool.and_eq_true, Bool.or_eq_true, Bool.and_eq_false_iff, Bool.or_eq_false_iff, Bool.not_eq_true', Bool.not_eq_false', decide_eq_true_eq, decide_eq_false_iff_not] at c1
    refine U.seq (U.text ?_); refine J.c (.assign rfl) (J.go ?_); refine U.ret ?_; exact aS.one rfl bO (dF (by simp [cJ, *]))
  try simp only [Bool.and_eq_true, Bool.or_eq_true, Bool.and_eq_false_iff, Bool.or_eq_false_iff, Bool.not_eq_true', Bool.not_eq_false', decide_eq_true_eq, decide_eq_false_iff_not] at c1
  refine U.skip (U.seq (U.text ?_)); refine J.c (.assign rfl) (J.go ?_); refine U.ret ?_; exact aS.one rfl bO (dF (by simp [cJ, *]))
end Go.Proofs
namespace Go.Proofs
open Go.Fs Ieee
abbrev tS : Ty := (.sl (.pair .str (.int .i64)))
abbrev dY : Ty := (.pair (.int .i64) (.pair (.int .i64) (.pair (.int .i64) (.sl (.pair .str (.int .i64))))))
abbrev x3 : Ty := (.pair .str (.int .i64))
abbrev LS : Ty := (.mp .str (.int .i64))
theorem uY : fL Tryz.prog 9 .str := dW (by kernel_rfl)
theorem BR : fL Tryz.prog 31 tS := dW (by kernel_rfl)
theorem HU : fL Tryz.prog 36 x3 := dW (by kernel_rfl)
theorem tE : eX Tryz.prog 31 36 x3 := pG (by kernel_rfl)
theorem zt3 : lI Tryz.prog 3 (.int .i64) := gR (z := .int .i64 0) (by kernel_rfl) rfl rfl
theorem zt4 : lI Tryz.prog 4 .bool := gR (z := .bool false) (by kernel_rfl) rfl rfl
theorem ZX : lI Tryz.prog 36 x3 := gR (z := .agg #[.string ByteArray.empty, .int .i64 0]) (by kernel_rfl) rfl rfl
theorem XY : yV Tryz.prog 127 .str (.int .i64) := ⟨9, 3, by kernel_rfl, ZL (by kernel_rfl), zt3⟩
theorem afJ : yV Tryz.prog 157 .str .bool := ⟨9, 4, by kernel_rfl, ZL (by kernel_rfl), zt4⟩
abbrev mR := List (ByteArray × Int)
def nC (l : mR) (i : Nat) : ByteArray := (l.map (·.1)).getD i ByteArray.empty
def ZY (l : mR) (i : Nat) : Int := (l.map (·.2)).getD i 0
theorem kG {l : mR} {i : Nat} (h : i < l.length) : l[i].1 = nC l i := by simp [nC, h]
theorem EU {l : mR} {i : Nat} (h : i < l.length) : l[i].2 = ZY l i := by simp [ZY, h]
def nD (l : mR) : Nat -> List (ByteArray × Bool)
  | 0 => []
  | i + 1 => pN (nD l i) (nC l i) true
def vS (l : mR) : Nat -> List (ByteArray × Int)
  | 0 => []
  | i + 1 => pN (vS l i) (nC l i) (i : Int)
theorem oO {α β : Type} [DecidableEq α] : ∀ (m : List (α × β)) (x z : α) (y : β), bX (pN m x y) z = if z = x then some y else bX m z
  | [], x, z, y => by simp [pN, bX]
  | (k, v) :: r, x, z, y => by
    by_cases h : x = k
    . subst h; simp only [pN, if_pos, bX]; split <;> rfl
    simp only [pN, if_neg h, bX, oO r x z y]; by_cases h2 : z = k
    . rw [if_pos h2, if_pos h2, if_neg (fun e => h (e.symm.trans h2))]
    rw [if_neg h2, if_neg h2]
theorem x4 {l : mR} {x : ByteArray} : ∀ (i : Nat), (bX (nD l i) x).getD false = true ↔ ∃ k, k < i /\ nC l k = x
  | 0 => by simp [nD, bX]
  | i + 1 => by
    rw [nD, oO]; by_cases h : x = nC l i
    . rw [if_pos h]; simp only [Option.getD_some, true_iff]; exact ⟨i, by omega, h.symm⟩
    rw [if_neg h, x4 i]; constructor
    . rintro ⟨k, h1, h2⟩; exact ⟨k, by omega, h2⟩
    rintro ⟨k, h1, h2⟩; rcases Nat.lt_succ_iff_lt_or_eq.1 h1 with h3 | h3
    . exact ⟨k, h3, h2⟩
    subst h3; exact absurd h2.symm h
def tF (l : mR) (i : Nat) : Int := aO [cJ (!mQ (nC l i)) 8, aM (ZY l i) 1 1000, cJ ((bX (nD l i) (nC l i)).getD false) 9]
theorem afK {l : mR} {i : Nat} (h : i < l.length) : aO [cJ (!mQ l[i].1) 8, aM l[i].2 1 1000, cJ ((bX (nD l i) l[i].1).getD false) 9] = tF l i := by rw [kG h, EU h] <;> rfl
def xO (d : Int × Int × Int × mR) : Int := aO [aM d.1 1 8, aM d.2.1 1 8, aM d.2.2.1 1 96, cJ (decide ((d.2.2.2.length : Int) = 0)) 12, cJ (decide ((16 : Int) < d.2.2.2.length)) 5]
def gG (d : Int × Int × Int × mR) : Int := if xO d = 0 then aO ((List.range d.2.2.2.length).map (tF d.2.2.2)) else xO d
theorem lP {f : Nat -> Int} {n i : Nat} (hi : i < n) (hz : ∀ k, k < i -> f k = 0) (h : f i ≠ 0) : f i = aO ((List.range n).map f) := by
  have e : List.range n = List.range i ++ (i :: (List.range' (i + 1) (n - i - 1))) := by
    apply List.ext_getElem
    . simp; omega
    intro k h1 h2; rw [List.getElem_append]; by_cases hk : k < i
    . simp [hk]
    simp only [List.length_range, hk, dite_false, List.getElem_range, List.getElem_cons]; by_cases h3 : k - i = 0
    . simp [h3]; omega
    simp [h3]; omega
  have h0 : aO ((List.range i).map f) = 0 := bK.2 fun x hx => by
    obtain ⟨k, h1, rfl⟩ := List.mem_map.1 hx; exact hz k (List.mem_range.1 h1)
  rw [e, List.map_append, jW, if_pos h0, List.map_cons, aO]; simp [h]
theorem pQ {f : Nat -> Int} {n : Nat} (hz : ∀ k, k < n -> f k = 0) : 0 = aO ((List.range n).map f) := (bK.2 fun x hx => by
  obtain ⟨k, h1, rfl⟩ := List.mem_map.1 hx
  exact hz k (List.mem_range.1 h1)).symm
theorem OX {d : Int × Int × Int × mR} (h : xO d = 0) : d.2.2.2.length <= 16 /\ d.2.2.2.length ≠ 0 := by
  unfold xO at h; rw [bK] at h; constructor
  . have := uB (by decide) (h _ (List.mem_cons_of_mem _ (List.mem_cons_of_mem _ (List.mem_cons_of_mem _ (List.mem_cons_of_mem _ List.mem_cons_self))))); omega
  have := uB (by decide) (h _ (List.mem_cons_of_mem _ (List.mem_cons_of_mem _ (List.mem_cons_of_mem _ List.mem_cons_self)))); omega
theorem afL {d : Int × Int × Int × (List (ByteArray × Int))} : VF Tryz.prog OA 47 [.v dY d] (I (gG d)) := by
  refine VF.enter Tryz.func47 rfl (fun _ _ => rfl) rfl ?_; show U _ _ _ _ _ [(0, .v dY d)] [] _; refine U.seq (U.text ?_); refine J.new (.box) ?_; refine J.c (.assign rfl) ?_; refine J.go (U.seq (U.seq (U.drawn ?_))); refine VD.c (.fa (.l .o)) ?_; refine VD.r [] (.ld bP) (.inl rfl) ?_; refine VD.call rfl rfl (VF.call (gF )) ?_; refine VD.c (.fa (.r (.l .o))) ?_; refine VD.r [] (.ld bP) (.inl rfl) ?_; refine VD.call rfl rfl (VF.call (gF )) ?_; refine VD.nw [] (VD.c (.fa (.r (.r (.l .o)))) ?_); refine VD.r [] (.ld bP) (.inl rfl) ?_; refine VD.call rfl rfl (VF.call (gF )) ?_; refine VD.c (.fa (.r (.r (.r .o)))) ?_; refine VD.r [] (.ld BR) (.inl rfl) ?_; refine VD.r [] (.len tE) (.inl rfl) ?_; refine VD.c (.eql) (VD.nw [] ?_); refine VD.call rfl rfl (VF.call (jL )) ?_; refine VD.c (.fa (.r (.r (.r .o)))) ?_; refine VD.r [] (.ld BR) (.inl rfl) ?_; refine VD.r [] (.len tE) (.inl rfl) ?_; refine VD.c (.gtr) ?_; refine VD.call rfl rfl (VF.call (jL )) ?_; refine VD.new (.lit [aM d.1 (1 : Int) (8 : Int), aM d.2.1 (1 : Int) (8 : Int), aM d.2.2.1 (1 : Int) (96 : Int), cJ (decide (((d.2.2.2.length : Nat) : Int) = (0 : Int))) (12 : Int), cJ (decide ((16 : Int) < ((d.2.2.2.length : Nat) : Int))) (5 : Int)] k9) ?_; refine VD.nw [27] ?_; refine VD.oH rfl rfl (VF.call (fO (by first | assumption | omega | simp))) ?_; refine VD.c (.assign rfl) ?_; refine VD.go (U.seq (U.text ?_)); refine J.c (.move rfl) (J.c (.neq) (J.go ?_)); refine U.aN rfl (fun c2 => ?_) (fun c2 => ?_)
  . have oN : ¬ xO d = 0 := c2; refine U.seq (U.text ?_); refine J.c (.move rfl) (J.c (.assign rfl) (J.go ?_)); refine U.ret ?_; exact aS.one rfl bO (dF (by rw [gG, if_neg oN] <;> rfl))
  have oN : xO d = 0 := by simpa [xO] using c2
  have hl := (OX oN).1; refine U.skip (U.seq (U.text ?_)); refine J.cell (.mkMap .str .bool) ?_; intro fV; refine J.c (.assign rfl) ?_; refine J.go (U.seq (U.seq (U.text ?_))); refine J.c (.fa (.r (.r (.r .o)))) ?_; refine J.r (.ld BR) ?_; refine J.r (.len tE) ?_; refine J.c (.move rfl) ?_; refine J.go (U.block ?_); refine U.aW [(4, .raw fV), (34, .v tS d.2.2.2), (35, I ((d.2.2.2.length : Nat) : Int)), (36, I ((0 : Nat) : Int))] ⟨rfl, rfl, rfl, rfl, trivial⟩ ?_; refine U.loop (I := fun kk ff ss => ∃ (i : Nat), kk = d.2.2.2.length - i /\ ff = [(4, .raw fV), (34, .v tS d.2.2.2), (35, I ((d.2.2.2.length : Nat) : Int)), (36, I ((i : Nat) : Int))] /\ ss = [(fV, .mp .str .bool (nD d.2.2.2 i))] /\ (i <= d.2.2.2.length) /\ (∀ k, k < i -> tF d.2.2.2 k = 0)) ?_ _ _ _ ⟨0, rfl, rfl, rfl, Nat.zero_le _, (by intro k hk; omega)⟩; rintro kk ff ss ⟨i, iI, rfl, rfl, hi, hz⟩; refine U.seq (U.text ?_); refine J.c (.lss) ?_; refine J.go (U.seq ?_); refine U.aN rfl (fun c6 => ?_) (fun c6 => ?_)
  . refine U.skip (U.seq (U.block (U.seq (U.text ?_)))); refine J.c (.ix (j := i) rfl rfl tE (by omega)) ?_; refine J.r (.ld HU) ?_; refine J.cell (.alloc ZX) ?_; intro pP; refine J.iJ (cs' := [St ((d.2.2.2[i]).1), I ((d.2.2.2[i]).2)]) HU .v ?_; refine J.shut [(6, .p x3 (d.2.2.2[i]))] (.cons rfl (.var m0 .refl) .nil) ?_; refine J.go (U.seq (U.seq (U.drawn ?_))); refine VD.c (.fa (.l .o)) ?_; refine VD.r [] (.ld uY) (.inl rfl) ?_; refine VD.call rfl rfl (VF.call (abK )) ?_; refine VD.c (.not) ?_; refine VD.call rfl rfl (VF.call (jL )) ?_; refine VD.c (.fa (.r .o)) (VD.nw [] ?_); refine VD.r [] (.ld bP) (.inl rfl) ?_; refine VD.call rfl rfl (VF.call (gF )) ?_; refine VD.c (.move rfl) (VD.c (.fa (.l .o)) ?_); refine VD.r [] (.ld uY) (.inl rfl) ?_; refine VD.r [(fV, .mp .str .bool (nD d.2.2.2 i))] (.akD afJ m0) (.inr ⟨rfl, rfl⟩) ?_; refine VD.call rfl rfl (VF.call (jL )) ?_; refine VD.nw [] ?_; refine VD.new (.lit [cJ (!(mQ ((d.2.2.2[i]).1))) (8 : Int), aM ((d.2.2.2[i]).2) (1 : Int) (1000 : Int), cJ ((bX (nD d.2.2.2 i) ((d.2.2.2[i]).1)).getD false) (9 : Int)] k9) ?_; refine VD.oH rfl rfl (VF.call (fO (by first | assumption | omega | simp))) ?_; refine VD.c (.assign rfl) ?_; refine VD.go (U.seq (U.text ?_)); refine J.c (.move rfl) (J.c (.neq) (J.go ?_)); refine U.aN rfl (fun c9 => ?_) (fun c9 => ?_)
    . have hm : ¬ tF d.2.2.2 i = 0 := by rw [<- afK (by omega)]; exact c9
      refine U.seq (U.text ?_); refine J.c (.move rfl) (J.c (.assign rfl) (J.go ?_)); refine U.ret ?_; exact aS.one rfl bO (dF (by rw [gG, if_pos oN, <- lP (by omega) hz hm, <- afK (by omega)]))
    have hm : tF d.2.2.2 i = 0 := by rw [<- afK (by omega)]; simpa using c9
    refine U.skip (U.text ?_); refine J.c (.move rfl) (J.c (.fa (.l .o)) ?_); refine J.r (.ld uY) ?_; refine J.TO afJ ?_; refine J.nil (U.text ?_); refine J.c (.add rfl rfl (by omega)) (J.c (.move rfl) ?_); refine J.nil ?_; refine ⟨_, [(4, .raw fV), (34, .v tS d.2.2.2), (35, I ((d.2.2.2.length : Nat) : Int)), (36, I (((i + 1) : Nat) : Int))], ?_, ⟨rfl, rfl, rfl, rfl, trivial⟩, (i + 1), rfl, rfl, (by rw [nD, kG]), (by omega), (by intro k hk; rcases Nat.lt_succ_iff_lt_or_eq.1 hk with h | h; exact hz k h; subst h; exact hm)⟩; omega
  refine U.exit (U.seq (U.text ?_)); refine J.c (.assign rfl) (J.go ?_); refine U.ret ?_; exact aS.one rfl bO (dF (by rw [gG, if_pos oN]; exact pQ (fun k hk => hz k (by omega))))
theorem OY {d : Int × Int × Int × (List (ByteArray × Int))} (hl : d.2.2.2.length <= 16) : VF Tryz.prog OA 53 [.v dY d] (.v LS (vS d.2.2.2 d.2.2.2.length)) := by
  refine VF.enter Tryz.func53 rfl (fun _ _ => rfl) rfl ?_; show U _ _ _ _ _ [(0, .v dY d)] [] _; refine U.seq (U.text ?_); refine J.new (.box) ?_; refine J.c (.assign rfl) ?_; refine J.go (U.seq (U.text ?_)); refine J.cell (.mkMap .str (.int .i64)) ?_; intro pZ; refine J.c (.assign rfl) ?_; refine J.go (U.seq (U.seq (U.text ?_))); refine J.c (.fa (.r (.r (.r .o)))) ?_; refine J.r (.ld BR) ?_; refine J.r (.len tE) ?_; refine J.c (.move rfl) ?_; refine J.go (U.block ?_); refine U.aW [(3, .raw pZ), (8, .v tS d.2.2.2), (9, I ((d.2.2.2.length : Nat) : Int)), (10, I ((0 : Nat) : Int))] ⟨rfl, rfl, rfl, rfl, trivial⟩ ?_; refine U.loop (I := fun kk ff ss => ∃ (i : Nat), kk = d.2.2.2.length - i /\ ff = [(3, .raw pZ), (8, .v tS d.2.2.2), (9, I ((d.2.2.2.length : Nat) : Int)), (10, I ((i : Nat) : Int))] /\ ss = [(pZ, .mp .str (.int .i64) (vS d.2.2.2 i))] /\ (i <= d.2.2.2.length)) ?_ _ _ _ ⟨0, rfl, rfl, rfl, Nat.zero_le _⟩; rintro kk ff ss ⟨i, iI, rfl, rfl, hi⟩; refine U.seq (U.text ?_); refine J.c (.lss) ?_; refine J.go (U.seq ?_); refine U.aN rfl (fun c3 => ?_) (fun c3 => ?_)
  . refine U.skip (U.seq (U.block (U.seq (U.text ?_)))); refine J.c (.move rfl) (J.c (.ix (j := i) rfl rfl tE (by omega)) ?_); refine J.r (.ld HU) ?_; refine J.cell (.alloc ZX) ?_; intro IP; refine J.c (.assign rfl) ?_; refine J.iJ (cs' := [St ((d.2.2.2[i]).1), I ((d.2.2.2[i]).2)]) HU .v ?_; refine J.shut [(5, .p x3 (d.2.2.2[i]))] (.cons rfl (.var m0 .refl) .nil) ?_; refine J.go (U.text ?_); refine J.c (.move rfl) (J.c (.fa (.l .o)) ?_); refine J.r (.ld uY) ?_; refine J.c (.move rfl) ?_; refine J.TO XY ?_; refine J.nil (U.text ?_); refine J.c (.add rfl rfl (by omega)) (J.c (.move rfl) ?_); refine J.nil ?_; refine ⟨_, [(3, .raw pZ), (8, .v tS d.2.2.2), (9, I ((d.2.2.2.length : Nat) : Int)), (10, I (((i + 1) : Nat) : Int))], ?_, ⟨rfl, rfl, rfl, rfl, trivial⟩, (i + 1), rfl, rfl, (by rw [vS, kG]), (by omega)⟩; omega
  refine U.exit (U.seq (U.text ?_)); refine J.c (.move rfl) (J.c (.assign rfl) (J.go ?_)); refine U.ret ?_; exact aS.one rfl (uV (.mp m0)) (eZ (by rw [show i = d.2.2.2.length by omega]))
end Go.Proofs
namespace Go.Proofs
open Go.Fs Ieee
abbrev fT : Ty := (.pair (.int .i64) (.pair (.int .i64) (.pair (.int .i64) (.sl (.pair .str (.int .i64))))))
theorem rA : fL Tryz.prog 22 (.sl (.pair .str (.int .i64))) := dW (by kernel_rfl)
theorem q7 : eX Tryz.prog 22 35 (.pair .str (.int .i64)) := pG (by kernel_rfl)
theorem EV {l : mR} {i : Nat} (h : i < l.length) : tF l i = if aO [cJ (!mQ l[i].1) 8, aM l[i].2 1 1000] = 0 then cJ ((bX (nD l i) (nC l i)).getD false) 9 else aO [cJ (!mQ l[i].1) 8, aM l[i].2 1 1000] := by
  have e : tF l i = aO ([cJ (!mQ l[i].1) 8, aM l[i].2 1 1000] ++ [cJ ((bX (nD l i) (nC l i)).getD false) 9]) := by rw [kG h, EU h] <;> rfl
  rw [e, jW, iX]
theorem abM {l : mR} {i k : Nat} (h : i < l.length) (hk : k < i) (h0 : aO [cJ (!mQ l[i].1) 8, aM l[i].2 1 1000] = 0) (e : l[k].1 = l[i].1) : tF l i = 9 := by
  rw [EV h, if_pos h0, (x4 i).2 ⟨k, hk, by rw [<- kG (by omega), <- kG h]; exact e⟩] <;> rfl
theorem abN {l : mR} {i : Nat} (h : i < l.length) (h0 : aO [cJ (!mQ l[i].1) 8, aM l[i].2 1 1000] = 0) (e : ∀ k (hk : k < i), ¬ l[k].1 = l[i].1) : tF l i = 0 := by
  rw [EV h, if_pos h0]
  cases hb : (bX (nD l i) (nC l i)).getD false with
  | false => rfl
  | true =>
    obtain ⟨k, hk, h2⟩ := (x4 i).1 hb; rw [<- kG (by omega), <- kG h] at h2; exact absurd h2 (e k hk)
theorem vT {d : Int × Int × Int × mR} : xO d = if aO [aM d.1 1 8, aM d.2.1 1 8, aM d.2.2.1 1 96] = 0 then (if (d.2.2.2.length : Int) = 0 then 12 else if (16 : Int) < d.2.2.2.length then 5 else 0) else aO [aM d.1 1 8, aM d.2.1 1 8, aM d.2.2.1 1 96] := by
  have e : xO d = aO ([aM d.1 1 8, aM d.2.1 1 8, aM d.2.2.1 1 96] ++ [cJ (decide ((d.2.2.2.length : Int) = 0)) 12, cJ (decide ((16 : Int) < d.2.2.2.length)) 5]) := rfl; rw [e, jW]; congr 1; by_cases h1 : (d.2.2.2.length : Int) = 0
  . rw [vO h1, if_pos h1] <;> rfl
  rw [zC h1, if_neg h1]; by_cases h2 : (16 : Int) < d.2.2.2.length
  . rw [vO h2, if_pos h2] <;> rfl
  rw [zC h2, if_neg h2] <;> rfl
theorem afM {d : Int × Int × Int × (List (ByteArray × Int))} : VF Tryz.prog OA 15 [.v fT d] (I (gG d)) := by
  refine VF.enter Tryz.func15 rfl (fun _ _ => rfl) rfl ?_; show U _ _ _ _ _ [(0, .v fT d)] [] _; refine U.seq (U.text ?_); refine J.new (.box) ?_; refine J.c (.assign rfl) ?_; refine J.go (U.seq (U.seq (U.drawn ?_))); refine VD.c (.fa (.l .o)) ?_; refine VD.r [] (.ld bP) (.inl rfl) ?_; refine VD.call rfl rfl (VF.call (iE )) ?_; refine VD.c (.fa (.r (.l .o))) ?_; refine VD.r [] (.ld bP) (.inl rfl) ?_; refine VD.call rfl rfl (VF.call (iE )) ?_; refine VD.nw [] (VD.c (.fa (.r (.r (.l .o)))) ?_); refine VD.r [] (.ld bP) (.inl rfl) ?_; refine VD.call rfl rfl (VF.call (iE )) ?_; refine VD.new (.lit [aM d.1 (1 : Int) (8 : Int), aM d.2.1 (1 : Int) (8 : Int), aM d.2.2.1 (1 : Int) (96 : Int)] dG) ?_; refine VD.oH rfl rfl (VF.call (CS (by first | assumption | omega | simp))) ?_; refine VD.c (.assign rfl) ?_; refine VD.go (U.seq (U.text ?_)); refine J.c (.move rfl) (J.c (.neq) (J.go ?_)); refine U.aN rfl (fun c2 => ?_) (fun c2 => ?_)
  . have hp : xO d ≠ 0 := by rw [vT, if_neg c2]; exact c2
    refine U.seq (U.text ?_); refine J.c (.move rfl) (J.c (.assign rfl) (J.go ?_)); refine U.ret ?_; exact aS.one rfl bO (dF (by rw [gG, if_neg hp, vT, if_neg c2]))
  have oN : aO [aM d.1 1 8, aM d.2.1 1 8, aM d.2.2.1 1 96] = 0 := by simpa using c2
  refine U.skip (U.seq (U.seq (U.text ?_))); refine J.c (.fa (.r (.r (.r .o)))) ?_; refine J.r (.ld rA) ?_; refine J.r (.len q7) ?_; refine J.c (.eql) (J.go ?_); refine U.aN rfl (fun c4 => ?_) (fun c4 => ?_)
  . refine U.seq (U.text ?_); refine J.c (.assign rfl) (J.go ?_); refine U.ret ?_; exact aS.one rfl bO (dF (by rw [gG, vT, if_pos oN, if_pos c4] <;> rfl))
  refine U.skip (U.seq (U.seq (U.text ?_))); refine J.c (.fa (.r (.r (.r .o)))) ?_; refine J.r (.ld rA) ?_; refine J.r (.len q7) ?_; refine J.c (.gtr) (J.go ?_); refine U.aN rfl (fun c6 => ?_) (fun c6 => ?_)
  . refine U.seq (U.text ?_); refine J.c (.assign rfl) (J.go ?_); refine U.ret ?_; exact aS.one rfl bO (dF (by rw [gG, vT, if_pos oN, if_neg c4, if_pos c6] <;> rfl))
  have hl : d.2.2.2.length <= 16 := by omega
  have hp : xO d = 0 := by rw [vT, if_pos oN, if_neg c4, if_neg c6]
  refine U.skip (U.seq (U.seq (U.text ?_))); refine J.c (.assign rfl) ?_; refine J.go (U.block ?_); refine U.aW [(1, .p fT d), (4, I ((0 : Nat) : Int))] ⟨rfl, rfl, trivial⟩ ?_; refine U.loop (I := fun kk ff ss => ∃ (i : Nat), kk = d.2.2.2.length - i /\ ff = [(1, .p fT d), (4, I ((i : Nat) : Int))] /\ ss = [] /\ (i <= d.2.2.2.length) /\ (∀ k, k < i -> tF d.2.2.2 k = 0)) ?_ _ _ _ ⟨0, rfl, rfl, rfl, Nat.zero_le _, (by intro k hk; omega)⟩; rintro kk ff ss ⟨i, iI, rfl, rfl, hi, hz⟩; refine U.seq (U.seq (U.text ?_)); refine J.c (.move rfl) (J.c (.fa (.r (.r (.r .o)))) ?_); refine J.r (.ld rA) ?_; refine J.r (.len q7) ?_; refine J.c (.lss) (J.go ?_); refine U.aN rfl (fun c9 => ?_) (fun c9 => ?_)
  . have dI : i < d.2.2.2.length := by omega
    refine U.skip (U.seq (U.block (U.seq (U.seq (U.drawn ?_))))); refine VD.c (.fa (.r (.r (.r .o)))) ?_; refine VD.r [] (.ld rA) (.inl rfl) ?_; refine VD.c (.move rfl) (VD.c (.ix (j := i) rfl rfl q7 (by omega)) (VD.c (.fa (.l .o)) ?_)); refine VD.r [] (.ld uY) (.inl rfl) ?_; refine VD.nw [] ?_; refine VD.call rfl rfl (VF.call (XX )) ?_; refine VD.c (.fa (.r (.r (.r .o)))) ?_; refine VD.r [] (.ld rA) (.inl rfl) ?_; refine VD.c (.move rfl) (VD.c (.ix (j := i) rfl rfl q7 (by omega)) (VD.c (.fa (.r .o)) ?_)); refine VD.r [] (.ld bP) (.inl rfl) ?_; refine VD.nw [] ?_; refine VD.call rfl rfl (VF.call (iE )) ?_; refine VD.new (.lit [cJ (!mQ ((d.2.2.2[i]).1)) 8, aM ((d.2.2.2[i]).2) (1 : Int) (1000 : Int)] dG) ?_; refine VD.oH rfl rfl (VF.call (CS (by first | assumption | omega | simp))) ?_; refine VD.c (.assign rfl) ?_; refine VD.go (U.seq (U.text ?_)); refine J.c (.move rfl) (J.c (.neq) (J.go ?_)); refine U.aN rfl (fun CV => ?_) (fun CV => ?_)
    . have hm : tF d.2.2.2 i ≠ 0 := by rw [EV dI, if_neg CV]; exact CV
      refine U.seq (U.text ?_); refine J.c (.move rfl) (J.c (.assign rfl) (J.go ?_)); refine U.ret ?_; exact aS.one rfl bO (dF (by rw [gG, if_pos hp, <- lP dI hz hm, EV dI, if_neg CV]))
    have LU : aO [cJ (!mQ d.2.2.2[i].1) 8, aM d.2.2.2[i].2 1 1000] = 0 := by simpa using CV
    refine U.skip (U.seq (U.text ?_)); refine J.c (.assign rfl) ?_; refine J.go (U.block ?_); refine U.aW [(1, .p fT d), (4, I ((i : Nat) : Int)), (6, I ((0 : Nat) : Int))] ⟨rfl, rfl, rfl, trivial⟩ ?_; refine U.loop (I := fun kk ff ss => ∃ (k : Nat), kk = i - k /\ ff = [(1, .p fT d), (4, I ((i : Nat) : Int)), (6, I ((k : Nat) : Int))] /\ ss = [] /\ (k <= i) /\ (∀ j (hj : j < k) (y6 : j < d.2.2.2.length), ¬ d.2.2.2[j].1 = d.2.2.2[i].1)) ?_ _ _ _ ⟨0, rfl, rfl, rfl, Nat.zero_le _, (by intro j hj; omega)⟩; rintro kk ff ss ⟨k, nU, rfl, rfl, hk, hn⟩; refine U.seq (U.seq (U.text ?_)); refine J.c (.move rfl) (J.c (.move rfl) (J.c (.lss) (J.go ?_))); refine U.aN rfl (fun GM => ?_) (fun GM => ?_)
    . refine U.skip (U.seq (U.block (U.seq (U.drawn ?_)))); refine VD.c (.fa (.r (.r (.r .o)))) ?_; refine VD.r [] (.ld rA) (.inl rfl) ?_; refine VD.c (.move rfl) (VD.c (.ix (j := k) rfl rfl q7 (by omega)) (VD.c (.fa (.l .o)) ?_)); refine VD.r [] (.ld uY) (.inl rfl) ?_; refine VD.nw [] (VD.c (.fa (.r (.r (.r .o)))) ?_); refine VD.r [] (.ld rA) (.inl rfl) ?_; refine VD.c (.move rfl) (VD.c (.ix (j := i) rfl rfl q7 (by omega)) (VD.c (.fa (.l .o)) ?_)); refine VD.r [] (.ld uY) (.inl rfl) ?_; refine VD.c (.aiS) (VD.go ?_); refine U.aN rfl (fun BE => ?_) (fun BE => ?_)
      . have hm := abM dI (show k < i by omega) LU BE; refine U.seq (U.text ?_); refine J.c (.assign rfl) (J.go ?_); refine U.ret ?_; exact aS.one rfl bO (dF (by rw [gG, if_pos hp, <- lP dI hz (by rw [hm]; decide), hm]))
      refine U.skip (U.text ?_); refine J.c (.move rfl) (J.c (.add rfl rfl (by omega)) (J.c (.assign rfl) ?_)); refine J.nil ?_; refine ⟨_, [(1, .p fT d), (4, I ((i : Nat) : Int)), (6, I (((k + 1) : Nat) : Int))], ?_, ⟨rfl, rfl, rfl, trivial⟩, (k + 1), rfl, rfl, rfl, (by omega), (by intro j hj y6; rcases Nat.lt_succ_iff_lt_or_eq.1 hj with h | h; exact hn j h y6; subst h; exact BE)⟩; omega
    refine U.exit (U.text ?_); refine J.c (.move rfl) (J.c (.add rfl rfl (by omega)) (J.c (.assign rfl) ?_)); refine J.nil ?_; refine ⟨_, [(1, .p fT d), (4, I (((i + 1) : Nat) : Int))], ?_, ⟨rfl, rfl, trivial⟩, (i + 1), rfl, rfl, rfl, (by omega), (by intro k hk; rcases Nat.lt_succ_iff_lt_or_eq.1 hk with h | h; exact hz k h; subst h; exact abN (by omega) LU (fun j hj => hn j (by omega) (by omega)))⟩; omega
  refine U.exit (U.seq (U.text ?_)); refine J.c (.assign rfl) (J.go ?_); refine U.ret ?_; exact aS.one rfl bO (dF (by rw [gG, if_pos hp]; exact pQ (fun k hk => hz k (by omega))))
def mS (l : mR) (x : ByteArray) : Int := if l.findIdx (fun m => decide (m.1 = x)) < l.length then (l.findIdx (fun m => decide (m.1 = x)) : Nat) else -1
theorem HV {l : mR} {x : ByteArray} {i : Nat} (h : i < l.length) (he : l[i].1 = x) (hn : ∀ k (hk : k < i), ¬ l[k].1 = x) : ((i : Nat) : Int) = mS l x := by
  have e : l.findIdx (fun m => decide (m.1 = x)) = i := (List.findIdx_eq h).2 ⟨decide_eq_true he, fun j hj => decide_eq_false (hn j hj)⟩; rw [mS, e, if_pos h]
theorem HW {l : mR} {x : ByteArray} (hn : ∀ k (hk : k < l.length), ¬ l[k].1 = x) : -1 = mS l x := by
  have e : l.findIdx (fun m => decide (m.1 = x)) = l.length := List.findIdx_eq_length.2 fun m hm => by
    obtain ⟨k, hk, rfl⟩ := List.getElem_of_mem hm; exact decide_eq_false (hn k hk)
  rw [mS, e, if_neg (by omega)]
theorem CW {d : Int × Int × Int × (List (ByteArray × Int))} {x : ByteArray} (hl : d.2.2.2.length <= 16) : VF Tryz.prog OA 41 [.v fT d, St x] (I (mS d.2.2.2 x)) := by
  refine VF.enter Tryz.func41 rfl (fun _ _ => rfl) rfl ?_; show U _ _ _ _ _ [(0, .v fT d), (1, St x)] [] _; refine U.seq (U.text ?_); refine J.new (.box) ?_; refine J.c (.assign rfl) ?_; refine J.go (U.seq (U.seq (U.text ?_))); refine J.c (.assign rfl) ?_; refine J.go (U.block ?_); refine U.aW [(1, St x), (2, .p fT d), (5, I ((0 : Nat) : Int))] ⟨rfl, rfl, rfl, trivial⟩ ?_; refine U.loop (I := fun kk ff ss => ∃ (i : Nat), kk = d.2.2.2.length - i /\ ff = [(1, St x), (2, .p fT d), (5, I ((i : Nat) : Int))] /\ ss = [] /\ (i <= d.2.2.2.length) /\ (∀ j (hj : j < i) (y6 : j < d.2.2.2.length), ¬ d.2.2.2[j].1 = x)) ?_ _ _ _ ⟨0, rfl, rfl, rfl, Nat.zero_le _, (by intro j hj; omega)⟩; rintro kk ff ss ⟨i, iI, rfl, rfl, hi, hn⟩; refine U.seq (U.seq (U.text ?_)); refine J.c (.move rfl) (J.c (.fa (.r (.r (.r .o)))) ?_); refine J.r (.ld rA) ?_; refine J.r (.len q7) ?_; refine J.c (.lss) (J.go ?_); refine U.aN rfl (fun c2 => ?_) (fun c2 => ?_)
  . refine U.skip (U.seq (U.block (U.seq (U.text ?_)))); refine J.c (.fa (.r (.r (.r .o)))) ?_; refine J.r (.ld rA) ?_; refine J.c (.move rfl) (J.c (.ix (j := i) rfl rfl q7 (by omega)) (J.c (.fa (.l .o)) ?_)); refine J.r (.ld uY) ?_; refine J.c (.move rfl) (J.c (.aiS) (J.go ?_)); refine U.aN rfl (fun c4 => ?_) (fun c4 => ?_)
    . refine U.seq (U.text ?_); refine J.c (.move rfl) (J.c (.assign rfl) (J.go ?_)); refine U.ret ?_; exact aS.one rfl bO (dF (by exact HV (by omega) c4 (fun k hk => hn k hk (by omega))))
    refine U.skip (U.text ?_); refine J.c (.move rfl) (J.c (.add rfl rfl (by omega)) (J.c (.assign rfl) ?_)); refine J.nil ?_; refine ⟨_, [(1, St x), (2, .p fT d), (5, I (((i + 1) : Nat) : Int))], ?_, ⟨rfl, rfl, rfl, trivial⟩, (i + 1), rfl, rfl, rfl, (by omega), (by intro j hj y6; rcases Nat.lt_succ_iff_lt_or_eq.1 hj with h | h; exact hn j h y6; subst h; exact c4)⟩; omega
  refine U.exit (U.seq (U.text ?_)); refine J.c (.assign rfl) (J.go ?_); refine U.ret ?_; exact aS.one rfl bO (dF (by exact HW (fun k hk => hn k (by omega) hk)))
end Go.Proofs
namespace Go.Proofs
open Go.Fs Ieee
abbrev dA : Ty := (.sl (.pair (.int .i64) (.pair .str (.pair (.int .i64) (.pair (.int .i64) (.sl (.bQ .f32)))))))
abbrev kA : Ty := (.pair (.int .i64) (.pair .str (.pair (.int .i64) (.pair (.int .i64) (.sl (.bQ .f32))))))
abbrev tG : Ty := (.sl (.pair (.pair (.int .i64) (.pair .str (.pair (.int .i64) (.pair (.int .i64) (.sl (.bQ .f32)))))) (.int .i64)))
abbrev cB : Ty := (.pair (.pair (.int .i64) (.pair .str (.pair (.int .i64) (.pair (.int .i64) (.sl (.bQ .f32)))))) (.int .i64))
theorem lZ : fL Tryz.prog 33 dY := dW (by kernel_rfl)
theorem kC : fL Tryz.prog 41 kA := dW (by kernel_rfl)
theorem hJ : fL Tryz.prog 86 cB := dW (by kernel_rfl)
theorem afN : fL Tryz.prog 127 LS := dW (by kernel_rfl)
theorem fA : eX Tryz.prog 37 41 kA := pG (by kernel_rfl)
theorem dZ : eX Tryz.prog 83 86 cB := pG (by kernel_rfl)
theorem zE : lI Tryz.prog 41 kA := gR (z := .agg #[.int .i64 0, .string ByteArray.empty, .int .i64 0, .int .i64 0, .slice none 0 0]) (by kernel_rfl) rfl rfl
theorem ZZ : lI Tryz.prog 86 cB := gR (z := .agg #[.int .i64 0, .string ByteArray.empty, .int .i64 0, .int .i64 0, .slice none 0 0, .int .i64 0]) (by kernel_rfl) rfl rfl
theorem akN : lI Tryz.prog 127 LS := gR (z := .map none) (by kernel_rfl) rfl rfl
theorem amV : yQ Tryz.prog 86 cB [(0, 5), (5, 1)] := r9 ZZ rfl (by kernel_rfl)
abbrev bM := Int × Int × Int × mR
abbrev Pc := Int × ByteArray × Int × Int × List Nat
theorem kH {d : bM} (h : gG d = 0) : (1 <= d.1 /\ d.1 <= 8) /\ (1 <= d.2.1 /\ d.2.1 <= 8) /\ (1 <= d.2.2.1 /\ d.2.2.1 <= 96) /\ d.2.2.2.length <= 16 /\ d.2.2.2.length ≠ 0 /\ ∀ k, k < d.2.2.2.length -> tF d.2.2.2 k = 0 := by
  unfold gG at h; split at h
  . rename_i h0; have hl := OX h0; rw [bK] at h; unfold xO at h0; rw [bK] at h0; exact ⟨fW.1 (h0 _ (by simp)), fW.1 (h0 _ (by simp)), fW.1 (h0 _ (by simp)), hl.1, hl.2, fun k hk => h _ (List.mem_map_of_mem (List.mem_range.2 hk))⟩
  contradiction
def LV (d : bM) (x : ByteArray) : Option Int := bX (vS d.2.2.2 d.2.2.2.length) x
def kQ (d : bM) (p : Pc) : Int := aO [aM p.1 0 100000, cJ (!(LV d p.2.1).isSome) 10, aM p.2.2.1 0 (d.2.2.1 - 1), aM p.2.2.2.1 0 (d.1 - 1), cJ (decide ((p.2.2.2.2.length : Int) ≠ d.2.1)) 2]
def lK (d : bM) (p : Pc) : Int := if kQ d p = 0 then aO (p.2.2.2.2.map kN) else kQ d p
theorem AF {t : Int} : VF Tryz.prog OA 22 [I t] (I (aM t 0 100000)) := by
  refine VF.enter Tryz.func22 rfl (fun _ _ => rfl) rfl ?_; show U _ _ _ _ _ [(0, I t)] [] _; refine U.seq (U.text ?_); refine J.c (.assign rfl) ?_; refine J.go (U.seq (U.text ?_)); refine J.c (.move rfl) ?_; refine J.call rfl rfl (VF.call (gF )) ?_; refine J.c (.assign rfl) (J.go ?_); refine U.ret ?_; exact aS.one rfl bO (dF (by first | rfl | simp))
theorem ahY {d : Int × Int × Int × (List (ByteArray × Int))} {p : Int × ByteArray × Int × Int × (List Nat)} (hd : gG d = 0) (hv : p.2.2.2.2.length < 100000) : VF Tryz.prog OA 49 [.v dY d, .v kA p] (I (lK d p)) := by
  refine VF.enter Tryz.func49 rfl (fun _ _ => rfl) rfl ?_; show U _ _ _ _ _ [(0, .v dY d), (1, .v kA p)] [] _; refine U.seq (U.text ?_); have U5 := kH hd; refine J.new (.box) ?_; refine J.new (.box) ?_; refine J.c (.assign rfl) ?_; refine J.go (U.seq (U.drawn ?_)); refine VD.r [] (.ld lZ) (.inl rfl) ?_; refine VD.call rfl rfl (VF.call (OY (by omega))) ?_; refine VD.c (.fa (.r (.l .o))) ?_; refine VD.r [] (.ld uY) (.inl rfl) ?_; refine VD.ro (.R1 XY) ?_; refine VD.c (.move rfl) (VD.nw [8, 13, 10] (VD.c (.extract) (VD.c (.extract) ?_))); refine VD.c (.assign rfl) (VD.c (.assign rfl) ?_); refine VD.go (U.seq (U.seq (U.drawn ?_))); refine VD.c (.fa (.l .o)) ?_; refine VD.r [] (.ld bP) (.inl rfl) ?_; refine VD.call rfl rfl (VF.call (AF )) ?_; refine VD.c (.move rfl) (VD.c (.not) ?_); refine VD.call rfl rfl (VF.call (jL )) ?_; refine VD.nw [] (VD.c (.fa (.r (.r (.l .o)))) ?_); refine VD.r [] (.ld bP) (.inl rfl) ?_; refine VD.c (.fa (.r (.r (.l .o)))) ?_; refine VD.r [] (.ld bP) (.inl rfl) ?_; refine VD.c (.sub rfl rfl (by omega)) ?_; refine VD.call rfl rfl (VF.call (gF )) ?_; refine VD.c (.fa (.r (.r (.r (.l .o))))) (VD.nw [] ?_); refine VD.r [] (.ld bP) (.inl rfl) ?_; refine VD.c (.fa (.l .o)) ?_; refine VD.r [] (.ld bP) (.inl rfl) ?_; refine VD.c (.sub rfl rfl (by omega)) ?_; refine VD.call rfl rfl (VF.call (gF )) ?_; refine VD.c (.fa (.r (.r (.r (.r .o))))) ?_; refine VD.r [] (.ld nH) (.inl rfl) ?_; refine VD.nw [] ?_; refine VD.r [] (.len hD) (.inl rfl) ?_; refine VD.c (.fa (.r (.l .o))) ?_; refine VD.r [] (.ld bP) (.inl rfl) ?_; refine VD.c (.neq) ?_; refine VD.call rfl rfl (VF.call (jL )) ?_; refine VD.new (.lit [aM p.1 0 100000, cJ (!((bX (vS d.2.2.2 d.2.2.2.length) p.2.1).isSome)) (10 : Int), aM p.2.2.1 (0 : Int) (d.2.2.1 - (1 : Int)), aM p.2.2.2.1 (0 : Int) (d.1 - (1 : Int)), cJ (decide (((p.2.2.2.2.length : Nat) : Int) ≠ d.2.1)) (2 : Int)] k9) ?_; refine VD.oH rfl rfl (VF.call (fO (by first | assumption | omega | simp))) ?_; refine VD.nw [41] (VD.c (.assign rfl) ?_); refine VD.go (U.seq ?_); refine U.aW [(3, .p kA p), (7, I (aO [aM p.1 0 100000, cJ (!((bX (vS d.2.2.2 d.2.2.2.length) p.2.1).isSome)) (10 : Int), aM p.2.2.1 (0 : Int) (d.2.2.1 - (1 : Int)), aM p.2.2.2.1 (0 : Int) (d.1 - (1 : Int)), cJ (decide (((p.2.2.2.2.length : Nat) : Int) ≠ d.2.1)) (2 : Int)]))] ⟨rfl, rfl, trivial⟩ ?_; refine U.text ?_; refine J.c (.move rfl) (J.c (.neq) (J.go ?_)); refine U.aN rfl (fun c3 => ?_) (fun c3 => ?_)
  . have c3' : ¬ kQ d p = 0 := c3; refine U.seq (U.text ?_); refine J.c (.move rfl) (J.c (.assign rfl) (J.go ?_)); refine U.ret ?_; exact aS.one rfl bO (dF (by rw [lK, if_neg c3'] <;> rfl))
  have c3' : kQ d p = 0 := by simpa [kQ, LV] using c3
  refine U.skip (U.seq (U.text ?_)); refine J.c (.fa (.r (.r (.r (.r .o))))) ?_; refine J.r (.ld nH) ?_; refine J.call rfl rfl (VF.call (XU (F := kN) hv (fun _ _ => VF.call ahU))) ?_; refine J.call rfl rfl (VF.call (fO (by simp; omega))) ?_; refine J.c (.assign rfl) (J.go ?_); refine U.ret ?_; exact aS.one rfl bO (dF (by rw [lK, if_pos c3']))
def jF (a b : Int) : Int := if a < b then -1 else if b < a then 1 else 0
theorem EW {a : Int} {b : Int} : VF Tryz.prog OA 58 [I a, I b] (I (jF a b)) := by
  refine VF.enter Tryz.func58 rfl (fun _ _ => rfl) rfl ?_; show U _ _ _ _ _ [(0, I a), (1, I b)] [] _; refine U.seq (U.text ?_); refine J.c (.assign rfl) ?_; refine J.go (U.seq (U.text ?_)); refine J.c (.move rfl) ?_; refine J.call rfl rfl (VF.call (U1 )) ?_; refine J.c (.assign rfl) ?_; refine J.go (U.seq (U.text ?_)); refine J.c (.move rfl) ?_; refine J.call rfl rfl (VF.call (U1 )) ?_; refine J.c (.assign rfl) ?_; refine J.go (U.seq (U.seq (U.text ?_))); refine J.c (.move rfl) (J.go ?_); refine U.wR rfl ?_; refine U.skip (U.seq (U.seq (U.text ?_))); refine J.c (.move rfl) (J.go ?_); refine U.wR rfl ?_; refine U.skip (U.seq (U.seq (U.text ?_))); refine J.c (.move rfl) (J.c (.move rfl) (J.c (.lss) (J.go ?_))); refine U.aN rfl (fun c9 => ?_) (fun c9 => ?_)
  . refine U.seq (U.text ?_); refine J.c (.assign rfl) (J.go ?_); refine U.ret ?_; exact aS.one rfl bO (dF (by rw [jF, if_pos c9]))
  refine U.skip (U.seq (U.seq (U.text ?_))); refine J.c (.move rfl) (J.c (.move rfl) (J.c (.gtr) (J.go ?_))); refine U.aN rfl (fun x5 => ?_) (fun x5 => ?_)
  . refine U.seq (U.text ?_); refine J.c (.assign rfl) (J.go ?_); refine U.ret ?_; exact aS.one rfl bO (dF (by rw [jF, if_neg c9, if_pos x5]))
  refine U.skip (U.seq (U.text ?_)); refine J.c (.assign rfl) (J.go ?_); refine U.ret ?_; exact aS.one rfl bO (dF (by rw [jF, if_neg c9, if_neg x5]))
theorem ahZ {l : List Int} (hl : l.length < 1000000) : VF Tryz.prog OA 57 [.v fK l] (I (aO l)) := by
  refine VF.enter Tryz.func57 rfl (fun _ _ => rfl) rfl ?_; show U _ _ _ _ _ [(0, .v fK l)] [] _; refine U.seq (U.text ?_); refine J.c (.assign rfl) ?_; refine J.go (U.seq (U.text ?_)); refine J.c (.assign rfl) ?_; refine J.go (U.seq (U.seq (U.text ?_))); refine J.c (.move rfl) ?_; refine J.r (.len dG) ?_; refine J.c (.move rfl) ?_; refine J.go (U.block ?_); refine U.aW [(3, I (0 : Int)), (6, .v fK l), (7, I ((l.length : Nat) : Int)), (8, I ((0 : Nat) : Int))] ⟨rfl, rfl, rfl, rfl, trivial⟩ ?_; refine U.loop (I := fun kk ff ss => ∃ (j : Nat), kk = l.length - j /\ ff = [(3, I (0 : Int)), (6, .v fK l), (7, I ((l.length : Nat) : Int)), (8, I ((j : Nat) : Int))] /\ ss = [] /\ (j <= l.length) /\ (aO l = aO (l.drop j))) ?_ _ _ _ ⟨0, rfl, rfl, rfl, Nat.zero_le _, (by rfl)⟩; rintro kk ff ss ⟨j, iI, rfl, rfl, hj, hf⟩; refine U.seq (U.text ?_); refine J.c (.lss) ?_; refine J.go (U.seq ?_); refine U.aN rfl (fun c3 => ?_) (fun c3 => ?_)
  . refine U.skip (U.seq (U.block (U.seq (U.text ?_)))); refine J.c (.ix (j := j) rfl rfl dG (by omega)) ?_; refine J.r (.ld bP) ?_; refine J.c (.assign rfl) ?_; refine J.go (U.seq (U.text ?_)); refine J.c (.move rfl) (J.c (.move rfl) (J.c (.neq) (J.go ?_))); refine U.aN rfl (fun c5 => ?_) (fun c5 => ?_)
    . refine U.seq (U.text ?_); refine J.c (.move rfl) (J.c (.assign rfl) (J.go ?_)); refine U.ret ?_; exact aS.one rfl bO (dF (by rw [hf, nB (by omega), if_neg c5]))
    refine U.skip (U.text ?_); refine J.c (.add rfl rfl (by omega)) (J.c (.move rfl) ?_); refine J.nil ?_; refine ⟨_, [(3, I (0 : Int)), (6, .v fK l), (7, I ((l.length : Nat) : Int)), (8, I (((j + 1) : Nat) : Int))], ?_, ⟨rfl, rfl, rfl, rfl, trivial⟩, (j + 1), rfl, rfl, rfl, (by omega), (by rw [hf, nB (by omega), if_pos (by simpa using c5)])⟩; omega
  refine U.exit (U.seq (U.text ?_)); refine J.c (.move rfl) (J.c (.assign rfl) (J.go ?_)); refine U.ret ?_; exact aS.one rfl bO (dF (by rw [hf, zB (by omega)]))
def fQ (a b : Pc × Int) : Int := aO [jF a.1.1 b.1.1, jF a.2 b.2, jF a.1.2.2.1 b.1.2.2.1, jF a.1.2.2.2.1 b.1.2.2.2.1]
theorem GN {a : (Int × ByteArray × Int × Int × (List Nat)) × Int} {b : (Int × ByteArray × Int × Int × (List Nat)) × Int} : VF Tryz.prog OA 27 [.v cB a, .v cB b] (I (fQ a b)) := by
  refine VF.enter Tryz.func27 rfl (fun _ _ => rfl) rfl ?_; show U _ _ _ _ _ [(0, .v cB a), (1, .v cB b)] [] _; refine U.seq (U.text ?_); refine J.new (.box) ?_; refine J.new (.box) ?_; refine J.c (.assign rfl) ?_; refine J.go (U.seq (U.drawn ?_)); refine VD.c (.fa (.l .o)) (VD.c (.fa (.l .o)) ?_); refine VD.r [] (.ld bP) (.inl rfl) ?_; refine VD.c (.fa (.l .o)) (VD.c (.fa (.l .o)) ?_); refine VD.r [] (.ld bP) (.inl rfl) ?_; refine VD.nw [] ?_; refine VD.call rfl rfl (VF.call (EW )) ?_; refine VD.c (.fa (.r .o)) ?_; refine VD.r [] (.ld bP) (.inl rfl) ?_; refine VD.c (.fa (.r .o)) ?_; refine VD.r [] (.ld bP) (.inl rfl) ?_; refine VD.call rfl rfl (VF.call (EW )) ?_; refine VD.c (.fa (.l .o)) (VD.nw [] (VD.c (.fa (.r (.r (.l .o)))) ?_)); refine VD.r [] (.ld bP) (.inl rfl) ?_; refine VD.c (.fa (.l .o)) (VD.c (.fa (.r (.r (.l .o)))) ?_); refine VD.r [] (.ld bP) (.inl rfl) ?_; refine VD.call rfl rfl (VF.call (EW )) ?_; refine VD.c (.fa (.l .o)) (VD.nw [] (VD.c (.fa (.r (.r (.r (.l .o))))) ?_)); refine VD.r [] (.ld bP) (.inl rfl) ?_; refine VD.c (.fa (.l .o)) (VD.c (.fa (.r (.r (.r (.l .o))))) ?_); refine VD.r [] (.ld bP) (.inl rfl) ?_; refine VD.call rfl rfl (VF.call (EW )) ?_; refine VD.new (.lit [jF a.1.1 b.1.1, jF a.2 b.2, jF a.1.2.2.1 b.1.2.2.1, jF a.1.2.2.2.1 b.1.2.2.2.1] dG) ?_; refine VD.nw [31] ?_; refine VD.oH rfl rfl (VF.call (ahZ (by first | assumption | omega | simp))) ?_; refine VD.c (.assign rfl) (VD.go ?_); refine U.ret ?_; exact aS.one rfl bO (dF (by first | rfl | simp))
theorem XZ {F : Int × ByteArray × Int × Int × List Nat -> (Int × ByteArray × Int × Int × List Nat) × Int} {l : List (Int × ByteArray × Int × Int × (List Nat))} {f : PV} (hl : l.length < 100000) (hf : ∀ x ∈ l, l7 Tryz.prog OA f [.v kA x] (.v cB (F x))) : VF Tryz.prog OA 54 [.v dA l, f] (.v tG (l.map F)) := by
  refine VF.enter Tryz.func54 rfl (fun _ _ => rfl) rfl ?_; show U _ _ _ _ _ [(0, .v dA l), (1, f)] [] _; refine U.seq (U.text ?_); refine J.c (.assign rfl) ?_; refine J.go (U.seq (U.text ?_)); refine J.c (.assign rfl) ?_; refine J.go (U.seq (U.seq (U.text ?_))); refine J.c (.move rfl) ?_; refine J.r (.len fA) ?_; refine J.c (.move rfl) ?_; refine J.go (U.block ?_); refine U.oG 86 cB ?_; refine U.aW [(1, f), (5, .raw (.slice none 0 0)), (8, .v dA l), (9, I ((l.length : Nat) : Int)), (10, I ((0 : Nat) : Int))] ⟨rfl, rfl, rfl, rfl, rfl, trivial⟩ ?_; refine U.loop (I := fun kk ff ss => ∃ (j : Nat) (out : Value), kk = l.length - j /\ ff = [(1, f), (5, .raw out), (8, .v dA l), (9, I ((l.length : Nat) : Int)), (10, I ((j : Nat) : Int))] /\ ss = [(out, .row 86 cB ((l.take j).map F))] /\ (j <= l.length)) ?_ _ _ _ ⟨0, (.slice none 0 0), rfl, rfl, rfl, Nat.zero_le _⟩; rintro kk ff ss ⟨j, out, iI, rfl, rfl, hj⟩; refine U.seq (U.text ?_); refine J.c (.lss) ?_; refine J.go (U.seq ?_); refine U.aN rfl (fun c3 => ?_) (fun c3 => ?_)
  . refine U.skip (U.seq (U.block (U.seq (U.text ?_)))); refine J.c (.ix (j := j) rfl rfl fA (by omega)) ?_; refine J.r (.ld kC) ?_; refine J.cell (.alloc zE) ?_; intro fV; refine J.iJ (cs' := [I ((l[j]).1), St ((l[j]).2.1), I ((l[j]).2.2.1), I ((l[j]).2.2.2.1), .v iF ((l[j]).2.2.2.2)]) kC .v ?_; refine J.shut [(7, .p kA (l[j]))] (.cons rfl (.var m0 .refl) .nil) ?_; refine J.go (U.text ?_); refine J.c (.move rfl) (J.c (.move rfl) ?_); refine J.r (.ld kC) ?_; refine J.call rfl rfl ((hf _ (List.getElem_mem _)) ) ?_; refine J.new (.lit [F (l[j])] dZ) ?_; refine J.app rfl rfl dZ dZ (by simp; omega) ?_; intro pP; refine J.c (.assign rfl) ?_; refine J.nil (U.text ?_); refine J.c (.add rfl rfl (by omega)) (J.c (.move rfl) ?_); refine J.nil ?_; refine ⟨_, [(1, f), (5, .raw pP), (8, .v dA l), (9, I ((l.length : Nat) : Int)), (10, I (((j + 1) : Nat) : Int))], ?_, ⟨rfl, rfl, rfl, rfl, rfl, trivial⟩, (j + 1), pP, rfl, rfl, (by rw [List.take_succ_eq_append_getElem (by omega), List.map_append] <;> rfl), (by omega)⟩; omega
  refine U.exit (U.seq (U.text ?_)); refine J.c (.move rfl) (J.c (.assign rfl) (J.go ?_)); refine U.ret ?_; exact aS.one rfl (uV (.row m0)) (eZ (by rw [List.take_of_length_le (by omega)]))
def cY (d : bM) (p : Pc) : Pc × Int := (p, (LV d p.2.1).getD 0)
theorem afO {p : Int × ByteArray × Int × Int × (List Nat)} {m : List (ByteArray × Int)} : VF Tryz.prog OA 55 [.v kA p, .p LS m] (.v cB (p, (bX m p.2.1).getD 0)) := by
  refine VF.enter Tryz.func55 rfl (fun _ _ => rfl) rfl ?_; show U _ _ _ _ _ [(0, .v kA p), (1, .p LS m)] [] _; refine U.seq (U.text ?_); refine J.new (.box) ?_; refine J.cell (.alloc ZZ) ?_; intro pZ; refine J.go (U.seq (U.text ?_)); refine J.r (.ld kC) ?_; refine J.r (.ld afN) ?_; refine J.c (.fa (.r (.l .o))) ?_; refine J.r (.ld uY) ?_; refine J.r (.look XY) ?_; refine J.c (.build (p, ((bX m p.2.1).getD 0)) amV) ?_; refine J.iJ (cs' := [I p.1, St p.2.1, I p.2.2.1, I p.2.2.2.1, .v iF p.2.2.2.2, I ((bX m p.2.1).getD 0)]) hJ .v ?_; refine J.go ?_; refine U.ret ?_; exact aS.one rfl (.cell (x := (p, ((bX m p.2.1).getD 0))) rfl m0 hJ .refl) (eZ (by first | rfl | simp))
theorem RB {d : Int × Int × Int × (List (ByteArray × Int))} {l : List (Int × ByteArray × Int × Int × (List Nat))} (hd : d.2.2.2.length <= 16) (hl : l.length < 100000) : VF Tryz.prog OA 25 [.v dY d, .v dA l] (.v tG (l.map (cY d))) := by
  refine VF.enter Tryz.func25 rfl (fun _ _ => rfl) rfl ?_; show U _ _ _ _ _ [(0, .v dY d), (1, .v dA l)] [] _; refine U.seq (U.text ?_); refine J.new (.box) ?_; refine J.c (.assign rfl) ?_; refine J.go (U.seq (U.text ?_)); refine J.r (.ld lZ) ?_; refine J.call rfl rfl (VF.call (OY hd)) ?_; refine J.cell (.alloc akN) ?_; intro IP; refine J.iJ (cs' := [.v LS (vS d.2.2.2 d.2.2.2.length)]) afN .v ?_; refine J.shut [(5, .p LS (vS d.2.2.2 d.2.2.2.length))] (.cons rfl (.var m0 .refl) .nil) ?_; refine J.go (U.seq (U.text ?_)); refine J.c (.move rfl) (J.c (.func) ?_); refine J.call rfl rfl (VF.call (XZ (F := cY d) hl (fun _ _ => VF.mF afO))) ?_; refine J.c (.assign rfl) (J.go ?_); refine U.ret ?_; exact aS.one rfl bO (eZ (by first | rfl | simp))
def b8 (l : List Pc) (i : Nat) : Pc := l.getD i (0, ByteArray.empty, 0, 0, [])
theorem dK {l : List Pc} {i : Nat} (h : i < l.length) : l[i] = b8 l i := by simp [b8, h]
def gN (d : bM) (l : List Pc) (i : Nat) : Int := aO [lK d (b8 l i), cJ (decide (0 < i) && decide (0 <= fQ (cY d (b8 l (i - 1))) (cY d (b8 l i)))) 11]
def mA (d : bM) (l : List Pc) : Int := aO [gG d, cJ (decide ((4096 : Int) < l.length)) 5]
def aR (d : bM) (l : List Pc) : Int := if mA d l = 0 then aO ((List.range l.length).map (gN d l)) else mA d l
theorem LW {d : bM} {l : List Pc} (h : mA d l = 0) : gG d = 0 /\ l.length <= 4096 := by
  unfold mA at h; rw [bK] at h; have h1 := uB (by decide) (h _ (List.mem_cons_of_mem _ List.mem_cons_self)); exact ⟨h _ List.mem_cons_self, by omega⟩
theorem U6 {d : bM} {l : List Pc} {i j : Nat} (h : i < l.length) (hi : 0 < i) (hj : j < (l.map (cY d)).length) (y6 : i < (l.map (cY d)).length) (e : j = i - 1) : aO [lK d ((l.map (cY d))[i]).1, cJ (decide (0 <= fQ ((l.map (cY d))[j]) ((l.map (cY d))[i]))) 11] = gN d l i := by
  subst e; rw [gN, List.getElem_map, List.getElem_map, dK, dK, decide_eq_true hi, Bool.true_and] <;> rfl
theorem U7 {d : bM} {l : List Pc} {i : Nat} (h : i < l.length) (hi : ¬ 0 < i) (y6 : i < (l.map (cY d)).length) : aO [lK d ((l.map (cY d))[i]).1, cJ false 11] = gN d l i := by
  rw [gN, List.getElem_map, dK, decide_eq_false hi, Bool.false_and] <;> rfl
theorem tH {d : Int × Int × Int × (List (ByteArray × Int))} {l : List (Int × ByteArray × Int × Int × (List Nat))} (hl : l.length < 100000) (hv : ∀ p ∈ l, p.2.2.2.2.length < 100000) : VF Tryz.prog OA 21 [.v dY d, .v dA l] (I (aR d l)) := by
  refine VF.enter Tryz.func21 rfl (fun _ _ => rfl) rfl ?_; show U _ _ _ _ _ [(0, .v dY d), (1, .v dA l)] [] _; refine U.seq (U.text ?_); refine J.new (.box) ?_; refine J.c (.assign rfl) ?_; refine J.go (U.seq (U.seq (U.text ?_))); refine J.r (.ld lZ) ?_; refine J.call rfl rfl (VF.call (afL )) ?_; refine J.c (.move rfl) ?_; refine J.r (.len fA) ?_; refine J.c (.gtr) ?_; refine J.call rfl rfl (VF.call (jL )) ?_; refine J.new (.lit [gG d, cJ (decide ((4096 : Int) < ((l.length : Nat) : Int))) (5 : Int)] k9) ?_; refine J.call rfl rfl (VF.call (fO (by first | assumption | omega | simp))) ?_; refine J.c (.assign rfl) ?_; refine J.go (U.seq (U.text ?_)); refine J.c (.move rfl) (J.c (.neq) (J.go ?_)); refine U.aN rfl (fun c2 => ?_) (fun c2 => ?_)
  . have oN : ¬ mA d l = 0 := c2; refine U.seq (U.text ?_); refine J.c (.move rfl) (J.c (.assign rfl) (J.go ?_)); refine U.ret ?_; exact aS.one rfl bO (dF (by rw [aR, if_neg oN] <;> rfl))
  have oN : mA d l = 0 := by simpa [mA] using c2
  have hs := LW oN; have U5 := kH hs.1; refine U.skip (U.seq (U.text ?_)); refine J.r (.ld lZ) ?_; refine J.c (.move rfl) ?_; refine J.call rfl rfl (VF.call (RB (by omega) hl)) ?_; refine J.c (.assign rfl) ?_; refine J.go (U.seq (U.seq (U.text ?_))); refine J.c (.move rfl) ?_; refine J.r (.len dZ) ?_; refine J.c (.move rfl) ?_; refine J.go (U.block ?_); refine U.aW [(2, .p dY d), (6, .v tG (l.map (cY d))), (24, .v tG (l.map (cY d))), (25, I (((l.map (cY d)).length : Nat) : Int)), (26, I ((0 : Nat) : Int))] ⟨rfl, rfl, rfl, rfl, rfl, trivial⟩ ?_; refine U.loop (I := fun kk ff ss => ∃ (i : Nat), kk = l.length - i /\ ff = [(2, .p dY d), (6, .v tG (l.map (cY d))), (24, .v tG (l.map (cY d))), (25, I (((l.map (cY d)).length : Nat) : Int)), (26, I ((i : Nat) : Int))] /\ ss = [] /\ (i <= l.length) /\ (∀ k, k < i -> gN d l k = 0)) ?_ _ _ _ ⟨0, rfl, rfl, rfl, Nat.zero_le _, (by intro k hk; omega)⟩; rintro kk ff ss ⟨i, iI, rfl, rfl, hi, hz⟩; refine U.seq (U.text ?_); refine J.c (.lss) ?_; refine J.go (U.seq ?_); refine U.aN rfl (fun c6 => ?_) (fun c6 => ?_)
  . have dI : i < l.length := by simpa using c6
    refine U.skip (U.seq (U.block (U.seq (U.text ?_)))); refine J.c (.move rfl) (J.c (.ix (j := i) rfl rfl dZ (by simp; omega)) ?_); refine J.r (.ld hJ) ?_; refine J.cell (.alloc ZZ) ?_; intro IQ; refine J.c (.assign rfl) ?_; refine J.iJ (cs' := [I ((((l.map (cY d))[i]).1).1), St ((((l.map (cY d))[i]).1).2.1), I ((((l.map (cY d))[i]).1).2.2.1), I ((((l.map (cY d))[i]).1).2.2.2.1), .v iF ((((l.map (cY d))[i]).1).2.2.2.2), I (((l.map (cY d))[i]).2)]) hJ .v ?_; refine J.shut [(8, .p cB ((l.map (cY d))[i]))] (.cons rfl (.var m0 .refl) .nil) ?_; refine J.go (U.seq ?_); refine U.join [(2, .p dY d), (6, .v tG (l.map (cY d))), (9, I (gN d l i)), (24, .v tG (l.map (cY d))), (25, I (((l.map (cY d)).length : Nat) : Int)), (26, I ((i : Nat) : Int))] [] ?_ ?_
    . skip
      refine U.drawn ?_; refine VD.r [] (.ld lZ) (.inl rfl) ?_; refine VD.c (.fa (.l .o)) ?_; refine VD.r [] (.ld kC) (.inl rfl) ?_; refine VD.call rfl rfl (VF.call (ahY hs.1 (by simp only [List.getElem_map]; exact hv _ (List.getElem_mem _)))) ?_; refine VD.c (.move rfl) (VD.c (.gtr) (VD.nw [] (VD.c (.move rfl) ?_))); refine VD.kE (x := 37) rfl (fun amW => ?_) (fun amW => ?_)
      . refine VD.c (.move rfl) (VD.c (.move rfl) (VD.c (.sub rfl rfl (by omega)) (VD.c (.imax) ?_))); refine VD.c (.WO (k := (max (0 : Int) (((i : Nat) : Int) - (1 : Int)))) rfl rfl dZ (by omega) (by simp; omega)) (VD.nw [] ?_); refine VD.r [] (.ld hJ) (.inl rfl) ?_; refine VD.r [] (.ld hJ) (.inl rfl) ?_; refine VD.call rfl rfl (VF.call (GN )) ?_; refine VD.c (.geq) (VD.c (.mN rfl rfl) ?_); refine VD.call rfl rfl (VF.call (jL )) ?_; refine VD.new (.lit [lK d (((l.map (cY d))[i]).1), cJ (decide ((0 : Int) <= fQ ((l.map (cY d))[Int.toNat (max (0 : Int) (((i : Nat) : Int) - (1 : Int)))]) ((l.map (cY d))[i]))) (11 : Int)] k9) ?_; refine VD.nw [49] ?_; refine VD.oH rfl rfl (VF.call (fO (by first | assumption | omega | simp))) ?_; refine VD.c (.assign rfl) ?_; refine VD.nil ?_; exact ⟨⟨rfl, rfl, iK rfl (by first | exact U6 dI (by omega) _ _ (by omega) | exact U7 dI (by omega) _), rfl, rfl, rfl, trivial⟩, rfl⟩
      refine VD.skip (VD.skip (VD.skip (VD.skip ?_))); refine VD.skip (VD.nw [] (VD.skip (VD.skip ?_))); refine VD.skip (VD.skip (VD.c (.iD rfl rfl) ?_)); refine VD.call rfl rfl (VF.call (jL )) ?_; refine VD.new (.lit [lK d (((l.map (cY d))[i]).1), cJ false (11 : Int)] k9) ?_; refine VD.nw [49] ?_; refine VD.oH rfl rfl (VF.call (fO (by first | assumption | omega | simp))) ?_; refine VD.c (.assign rfl) ?_; refine VD.nil ?_; exact ⟨⟨rfl, rfl, iK rfl (by first | exact U6 dI (by omega) _ _ (by omega) | exact U7 dI (by omega) _), rfl, rfl, rfl, trivial⟩, rfl⟩
    refine U.seq (U.text ?_); refine J.c (.move rfl) (J.c (.neq) (J.go ?_)); refine U.aN rfl (fun c9 => ?_) (fun c9 => ?_)
    . refine U.seq (U.text ?_); refine J.c (.move rfl) (J.c (.assign rfl) (J.go ?_)); refine U.ret ?_; exact aS.one rfl bO (dF (by rw [aR, if_pos oN, <- lP dI hz c9]))
    refine U.skip (U.text ?_); refine J.c (.add rfl rfl (by omega)) (J.c (.move rfl) ?_); refine J.nil ?_; refine ⟨_, [(2, .p dY d), (6, .v tG (l.map (cY d))), (24, .v tG (l.map (cY d))), (25, I (((l.map (cY d)).length : Nat) : Int)), (26, I (((i + 1) : Nat) : Int))], ?_, ⟨rfl, rfl, rfl, rfl, rfl, trivial⟩, (i + 1), rfl, rfl, rfl, (by omega), (by intro k hk; rcases Nat.lt_succ_iff_lt_or_eq.1 hk with h | h; exact hz k h; subst h; simpa using c9)⟩; omega
  have dI : l.length <= i := by simpa using c6
  refine U.exit (U.seq (U.text ?_)); refine J.c (.assign rfl) (J.go ?_); refine U.ret ?_; exact aS.one rfl bO (dF (by rw [aR, if_pos oN]; exact pQ (fun k hk => hz k (by omega))))
end Go.Proofs
