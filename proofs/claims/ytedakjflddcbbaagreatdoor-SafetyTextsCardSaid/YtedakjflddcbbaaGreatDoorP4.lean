/- Parts of the proof: an evaluator of the model, what it is sound for, and contracts of functions. No condition. -/
import Derived.Test.YtedakjflddcbbaaGreatDoorP3
set_option linter.all false
namespace Go.Fs
variable {P : Program} {orc : FuncId -> List Value -> Heap -> Option (Value × Heap)} {aV : Option Nat} {h h' h0 h1 h2 : Heap} {S S' S0 B G : List Nat} {σ aJ kR : aG} {t t' : Tr} {ms : List Nat} {fl : VL} {ops : Array Oper} {n i mem : Nat} {l : List Oper} {K : VL -> aG -> Prop} {Q : Ex -> VL -> aG -> Prop}
  {d : Tmp} {ty : TypeId} {pos : String} {after : Array Edge} {op : Op} {v pv : PV} {g : Option (Nat × Bool)} {x y z : Operand} {T T' e : TypeId} {τ eP : Ty} {bs nw : List Nat} {segs : List (Nat × Nat × Nat)} {tail so : Bool} {w w' : Value} {c c' : Cell}
theorem bZ : own ((w, c) :: σ) = cI w ++ own σ := rfl
theorem Made.head (L : Lc S0 h ((w, c) :: σ) t fl) (ha : cD h h' (cI w)) (hn : ∀ b ∈ cI w', b ∈ cI w \/ h.next <= b) (hd : (cI w').Nodup) (hc : cH h (own ((w, c) :: σ) ++ S0) h' (own ((w', c') :: σ) ++ S0) -> bA h' (own ((w', c') :: σ) ++ S0) w' c') : Made S0 h h' ((w, c) :: σ) ((w', c') :: σ) := by
  have nE := L.apart; rw [bZ] at nE; obtain ⟨CU, y7, sS⟩ := List.nodup_append.1 nE
  have oL : cD h h' (own ((w, c) :: σ)) := ha.MH fun b hb => by rw [bZ]; exact List.mem_append_left _ hb
  have n6 : ∀ b ∈ own ((w', c') :: σ), b ∈ own ((w, c) :: σ) \/ h.next <= b := fun b hb => by
    rw [bZ] at hb ⊢; rcases List.mem_append.1 hb with hb | hb
    . rcases hn b hb with h1 | h1
      . exact .inl (List.mem_append_left _ h1)
      exact .inr h1
    exact .inl (List.mem_append_right _ hb)
  have hN : cH h (own ((w, c) :: σ) ++ S0) h' (own ((w', c') :: σ) ++ S0) := oL.goes L.ok (fun b hb => List.mem_append_left _ hb) fun b hb => by
    rcases List.mem_append.1 hb with hb | hb
    . rcases n6 b hb with h1 | h1
      . exact .inl (List.mem_append_left _ h1)
      exact .inr h1
    exact .inl (List.mem_append_right _ hb)
  refine ⟨oL, n6, ?_, fun d hd => ?_⟩
  . rw [bZ]; refine List.nodup_append.2 ⟨hd, y7, fun a h1 b h2 he => ?_⟩; subst he; rcases hn a h1 with h3 | h3
    . exact sS a h3 a h2 rfl
    have := L.lt a (List.mem_append_left _ (by rw [bZ]; exact List.mem_append_right _ h2)); omega
  rcases List.mem_cons.1 hd with rfl | hd
  . exact hc hN
  refine (L.cells d (List.mem_cons_of_mem _ hd)).keep (fun b hb => ?_) hN fun b hb => List.mem_append_left _ (by rw [bZ]; exact List.mem_append_right _ (List.mem_flatMap.2 ⟨d, hd, hb⟩)); have x9 : b ∈ own σ := List.mem_flatMap.2 ⟨d, hd, hb⟩; exact ha.get b (L.lt b (List.mem_append_left _ (by rw [bZ]; exact List.mem_append_right _ x9))) fun hm => sS b hm b x9 rfl
theorem Made.cons (L : Lc S0 h σ t fl) (ha : cD h h' []) (hn : ∀ b ∈ cI w', h.next <= b) (hd : (cI w').Nodup) (hc : cH h (own σ ++ S0) h' (own ((w', c') :: σ) ++ S0) -> bA h' (own ((w', c') :: σ) ++ S0) w' c') : Made S0 h h' σ ((w', c') :: σ) := by
  have oL : cD h h' (own σ) := ha.MH fun b hb => by cases hb
  have n6 : ∀ b ∈ own ((w', c') :: σ), b ∈ own σ \/ h.next <= b := fun b hb => by
    rw [bZ] at hb; rcases List.mem_append.1 hb with hb | hb
    . exact .inr (hn b hb)
    exact .inl hb
  have hN : cH h (own σ ++ S0) h' (own ((w', c') :: σ) ++ S0) := ha.goes L.ok (fun b hb => by cases hb) fun b hb => by
    rcases List.mem_append.1 hb with hb | hb
    . rcases n6 b hb with h1 | h1
      . exact .inl (List.mem_append_left _ h1)
      exact .inr h1
    exact .inl (List.mem_append_right _ hb)
  refine ⟨oL, n6, ?_, fun d hd => ?_⟩
  . rw [bZ]; refine List.nodup_append.2 ⟨hd, L.apart, fun a h1 b h2 he => ?_⟩; subst he; have := hn a h1; have := L.lt a (List.mem_append_left _ h2); omega
  rcases List.mem_cons.1 hd with rfl | hd
  . exact hc hN
  exact (L.cells d hd).keep (fun b hb => ha.get b (L.lt b (List.mem_append_left _ (List.mem_flatMap.2 ⟨d, hd, hb⟩))) (by simp)) hN fun b hb => List.mem_append_left _ (by rw [bZ]; exact List.mem_append_right _ (List.mem_flatMap.2 ⟨d, hd, hb⟩))
theorem Made.same (L : Lc S0 h σ t fl) (ha : cD h h' []) : Made S0 h h' σ σ := by
  have hN : cH h (own σ ++ S0) h' (own σ ++ S0) := ha.goes L.ok (fun b hb => by cases hb) fun b hb => .inl hb; exact ⟨ha.MH (fun b hb => by cases hb), fun b hb => .inl hb, L.apart, fun c hc => (L.cells c hc).keep (fun b hb => ha.get b (L.lt b (List.mem_append_left _ (List.mem_flatMap.2 ⟨c, hc, hb⟩))) (by simp)) hN fun b hb => List.mem_append_left _ (List.mem_flatMap.2 ⟨c, hc, hb⟩)⟩
theorem aaZ (hT : kB P T e τ) (EX : kB P T' e τ) {u : Value} {news : List Value} {xs ys : List τ.den} (bD : mU h) (hg : bA h S w (.row e τ xs)) 
    (nE : ∀ i z, i.size = τ.size -> z.cells.toList.all eN = true -> j7 i z (isInt (.slice e)) u h = some (ys.length, news)) (hy : cV h S τ news ys) (kI : 0 < ys.length) (cX : xs.length + ys.length <= 1000000) :
    ∃ h' rs, fQ P #[T, T'] w u h = some (.slice (some ⟨h.next, 0, none⟩) (xs.length + ys.length) 0, h') /\ cD h h' (cI w) /\ h'.get h.next = some (.row e rs true true) /\ (∀ S', cH h S h' S' -> cV h' S' τ rs (xs ++ ys)) := by
  obtain ⟨i, z, CV, q9, SD, CW, LI, PE, W4⟩ := hT.sl.info; have mG : news.all aT = true := hy.p8; have AT : news.length = ys.length * τ.size := hy.1
  have wF : (xs.length + ys.length) * i.bytes <= 274877906944 := by
    have := Nat.mul_le_mul cX CW; omega
  unfold fQ; simp only [List.getElem?_toArray, List.getElem?_cons_zero, List.getElem?_cons_succ, hT.sl.sl, EX.sl.sl, CV, LI, nE i z q9 W4, q9]
  have hc : (Nat.blt 0 τ.size && Nat.blt 0 i.bytes && Nat.beq news.length (ys.length * τ.size) && news.all aT && Nat.beq z.cells.size τ.size) = true := by
    have e1 : Nat.blt 0 τ.size = true := by show Nat.ble 1 τ.size = true; rw [Nat.ble_eq]; exact hT.sl.pos
    have e2 : Nat.blt 0 i.bytes = true := by show Nat.ble 1 i.bytes = true; rw [Nat.ble_eq]; exact SD
    rw [e1, e2, AT, Nat.beq_refl, mG, PE, Nat.beq_refl]; rfl
  rw [hc]; simp only [cond_true]; have e0 : Nat.beq ys.length 0 = false := fG (by omega); rcases hg with ⟨rfl, rfl⟩ | ⟨b0, rs, m, rfl, jI, n8, wG⟩
  . refine ⟨h.push (.row e news true true), news, ?_, cD.push h _ _, by rw [Heap.bE, if_pos rfl], fun S' hN => by rw [List.nil_append]; exact hy.nx hN⟩; unfold mN
    have e2 : Nat.ble (ys.length * i.bytes) 274877906944 = true := by rw [Nat.ble_eq]; simpa using wF
    simp only [e0, cond_false, e2, cond_true, grown, List.length_nil, Nat.zero_add]
  have LH := wG.1; have zV : 0 < ys.length * τ.size := Nat.mul_pos kI hT.sl.pos; have acS : (xs.length + ys.length) * τ.size = xs.length * τ.size + ys.length * τ.size := Nat.add_mul _ _ _
  have e1 : (Nat.beq ys.length 0 && Nat.beq 0 1) = false := by rw [e0]; rfl
  have e2 : Nat.beq e e = true := Nat.beq_refl _
  have e3 : Nat.ble ((xs.length + ys.length) * i.bytes) 274877906944 = true := by rw [Nat.ble_eq]; exact wF
  have e4 : Nat.ble (0 + xs.length * i.size) rs.length = true := by rw [Nat.ble_eq, q9]; omega
  have e5 : Nat.ble (0 + (xs.length + ys.length) * i.size) rs.length = false := by
    cases hx : Nat.ble (0 + (xs.length + ys.length) * i.size) rs.length with
    | false => rfl
    | true => have := dY hx; rw [q9] at this; omega
  have e6 : Nat.beq (xs.length * i.size) rs.length = true := by rw [q9, LH]; exact Nat.beq_refl _
  have e7 : Nat.beq 0 1 = false := rfl; have e8 : Nat.beq 0 0 = true := rfl; have ak2 := bD b0 _ n8; have rJ : cI (.slice (some ⟨b0, 0, none⟩) xs.length 0) = [b0] := rfl
  cases m with
  | true =>
    refine ⟨(h.drop b0).push (.row e (rs ++ news) true true), rs ++ news, ?_, (cD.drop (B := cI _) (by rw [rJ]; simp)).trans (cD.push (h.drop b0) _ []) (fun i hi => by cases hi), ?_, fun S' hN => (wG.append hy).nx hN⟩
    . unfold mN; simp only [n8, e1, cond_false, e2, e3, e4, Bool.and_self, cond_true, e7, e8, e5, Bool.not_true, e6, grown, Bool.true_and, Bool.and_false]; rfl
    have : (h.drop b0).next = h.next := rfl
    rw [Heap.bE, if_pos this.symm]
  | false =>
    refine ⟨h.push (.row e (rs ++ news) true true), rs ++ news, ?_, cD.push h _ _, by rw [Heap.bE, if_pos rfl], fun S' hN => (wG.append hy).nx hN⟩; unfold mN
    have e9 : (rs.drop 0).take (xs.length * i.size) = rs := by rw [List.drop_zero, q9, <- LH, List.take_length]
    simp only [n8, e1, cond_false, e2, e3, e4, Bool.and_self, cond_true, e7, e8, e5, Bool.not_false, grown, Bool.true_and, Bool.and_false, e9]
theorem W5 (hT : kB P T e τ) (EX : kB P T' e τ) {u : Value} {xs : List τ.den} (hg : bA h S w (.row e τ xs)) (hw : lW h S τ u []) (cX : xs.length <= 1000000) : fQ P #[T, T'] w u h = some (w, h) := by
  obtain ⟨i, z, CV, q9, SD, CW, LI, PE, W4⟩ := hT.sl.info
  have nE : j7 i z (isInt (.slice e)) u h = some (0, []) := by
    rcases hw with ⟨rfl, _⟩ | ⟨b, o, mk, rfl, _⟩
    . simp [j7, isInt, wR, cellsOf]
    simp only [j7, isInt, cond_false, wR, cellsOf, List.length_nil]; have e1 : Nat.ble 0 0 = true := rfl; simp [e1, cond_true, Nat.zero_mul]
  unfold fQ; simp only [List.getElem?_toArray, List.getElem?_cons_zero, List.getElem?_cons_succ, hT.sl.sl, EX.sl.sl, CV, LI, nE, q9]
  have hc : (Nat.blt 0 τ.size && Nat.blt 0 i.bytes && Nat.beq ([] : List Value).length (0 * τ.size) && ([] : List Value).all aT && Nat.beq z.cells.size τ.size) = true := by
    have e1 : Nat.blt 0 τ.size = true := by show Nat.ble 1 τ.size = true; rw [Nat.ble_eq]; exact hT.sl.pos
    have e2 : Nat.blt 0 i.bytes = true := by show Nat.ble 1 i.bytes = true; rw [Nat.ble_eq]; exact SD
    rw [e1, e2, PE, Nat.beq_refl, Nat.zero_mul]; rfl
  rw [hc]; simp only [cond_true]; rcases hg with ⟨rfl, rfl⟩ | ⟨b0, rs, m, rfl, jI, n8, wG⟩
  . rfl
  have LH := wG.1
  have wF : (xs.length + 0) * i.bytes <= 274877906944 := by
    have := Nat.mul_le_mul (show xs.length + 0 <= 1000000 from by simpa using cX) CW; omega
  have e2 : Nat.beq e e = true := Nat.beq_refl _
  have e3 : Nat.ble ((xs.length + 0) * i.bytes) 274877906944 = true := by rw [Nat.ble_eq]; exact wF
  have e4 : Nat.ble (0 + xs.length * i.size) rs.length = true := by rw [Nat.ble_eq, q9]; omega
  have e5 : Nat.ble (0 + (xs.length + 0) * i.size) rs.length = true := by rw [Nat.ble_eq, q9]; simp only [Nat.add_zero]; omega
  have e7 : Nat.beq 0 1 = false := rfl; have e8 : Nat.beq 0 0 = true := rfl; unfold mN; simp only [n8, e2, e3, e4, Bool.and_self, cond_true, e7, e8, e5, Bool.true_and, cond_false, Bool.and_false, Bool.and_true]; simp only [Nat.add_zero] at e3 e4 e5 ⊢
  try simp only [e3, cond_true]
theorem bF.app {xs ys : List τ.den} (hT : kB P T e τ) (EX : kB P T' e τ) (hx : b9 fl x = some (.raw w)) (hy : b9 fl y = some (.v (.sl τ) ys)) (cX : xs.length + ys.length <= 1000000) :
    bF P fl ((w, .row e τ xs) :: σ) (.call { callee := .builtin .append, args := #[x, y], argTypes := #[T, T'] }) fun v aJ => ∃ w', v = .raw w' /\ aJ = (w', .row e τ (xs ++ ys)) :: σ :=
  ⟨rfl, fun S0 h t L => by
    have h1 : aB t x = w := dP L.aH hx; have h2 := aF.sl (dP L.aH hy : aF h _ (.sl τ) (aB t y) ys); have hc := L.cells _ List.mem_cons_self
    have cC : ∀ u h', fQ P #[T, T'] w (aB t y) h = some (u, h') -> ∀ (d : Option Tmp) (ty : TypeId) (pos : String) (after : Array Edge) (g : Option (Nat × Bool)), iI P ⟨d, .call { callee := .builtin .append, args := #[x, y], argTypes := #[T, T'] }, ty, pos, after, g⟩ (aB t) h = some (u, h') := fun u h' e _ _ _ _ _ => by
      show fQ P #[T, T'] (aB t x) (aB t y) h = _; rw [h1, e]
    by_cases hp : 0 < ys.length
    . obtain ⟨b, o, mk, e', rs, ow, more, hu, hb, hr, hl, wG⟩ := h2.row hp; have wX := hT.sl.pos; have zV : 0 < ys.length * τ.size := Nat.mul_pos hp wX
      have cL : cV h (own ((w, .row e τ xs) :: σ) ++ S0) τ ((rs.drop o).take (ys.length * τ.size)) ys := ⟨by rw [List.length_take, List.length_drop]; omega, fun i hi => by
        have h2 : (i + 1) * τ.size <= ys.length * τ.size := Nat.mul_le_mul_right _ hi; rw [Nat.add_mul] at h2; have := wG i hi; rw [List.drop_take, List.take_take, List.drop_drop, Nat.min_eq_left (by omega)]
        exact this⟩
      obtain ⟨h', P7, e1, e2, e3, e4⟩ := aaZ hT EX L.ok hc (u := aB t y) (news := (rs.drop o).take (ys.length * τ.size)) (fun i z h1 _ => by rw [hu]; exact LG (e := e') h1 (by omega) hr (Nat.le_refl _) hl rfl rfl) cL hp cX; refine ⟨_, h', .raw (.slice (some ⟨h.next, 0, none⟩) (xs.length + ys.length) 0), _, ⟨_, rfl, rfl⟩, Made.head L e2 (fun b hb => .inr (by simp [cI] at hb; omega)) (by simp [cI]) fun hN => ?_, rfl, cC _ _ e1⟩; exact .inr ⟨h.next, P7, true, by rw [List.length_append], List.mem_append_left _ (by rw [bZ]; simp [cI]), e3, e4 _ hN⟩
    obtain rfl : ys = [] := List.eq_nil_of_length_eq_zero (by omega); refine ⟨w, h, .raw w, _, ⟨w, rfl, rfl⟩, ?_, rfl, cC _ _ (W5 hT EX hc h2 (by simpa using cX))⟩; rw [List.append_nil]
    exact Made.same L (cD.refl _ _)⟩
theorem J.app {xs ys : List τ.den} (hx : b9 fl x = some (.raw w)) (hy : b9 fl y = some (.v (.sl τ) ys)) (hT : kB P T e τ) (EX : kB P T' e τ) (cX : xs.length + ys.length <= 1000000) (hk : ∀ w', J P orc ops n l ((d, .raw w') :: fl) ((w', .row e τ (xs ++ ys)) :: σ) K)
    (hw : dU ops fl g = some true := by rfl) (hn : (Nat.blt d n && Nat.ble n 4000) = true := by rfl) :
    J P orc ops n (⟨some d, .call { callee := .builtin .append, args := #[x, y], argTypes := #[T, T'] }, ty, pos, after, g⟩ :: l) fl ((w, .row e τ xs) :: σ) K :=
  J.mk (bF.app hT EX hx hy cX) (by rintro _ _ ⟨w', rfl, rfl⟩; exact hk w') hw hn
theorem bF.YD {xs : List τ.den} {dx : τ.den} {j : Nat} (hT : fN P T τ) (hj : j < xs.length) (hx : b9 fl x = some (.raw (uJ w τ.size j))) (hy : b9 fl y = some (.v τ dx)) :
    bF P fl ((w, .row T τ xs) :: σ) (.store T x y) fun v aJ => v = .raw undef /\ aJ = (w, .row T τ (xs.set j dx)) :: σ :=
  ⟨rfl, fun S0 h t L => by
    have h1 : aB t x = uJ w τ.size j := dP L.aH hx; have hu := (dP L.aH hy : aF h _ τ (aB t y) dx); rcases L.cells _ List.mem_cons_self with ⟨_, rfl⟩ | ⟨b, rs, m, h3, h4, h5, h6⟩
    . simp at hj
    have hw : w = _ := h3; have VK : (j + 1) * τ.size <= xs.length * τ.size := Nat.mul_le_mul_right _ hj; rw [Nat.add_mul, Nat.one_mul] at VK; have LH := h6.1; obtain ⟨i, hi, hs⟩ := hT.info; have S9 : (aB t y).cells.toList.length = τ.size := hu.2.len
    have rJ : cI w = [b] := by rw [hw]; rfl
    refine ⟨undef, h.set b (.row T (eX rs (j * τ.size) (aB t y).cells.toList) true m), .raw undef, _, ⟨rfl, rfl⟩, Made.head L (cD.set h5 (by rw [rJ]; simp)) (fun b hb => .inl hb) (by rw [rJ]; simp) fun hN => ?_, rfl, fun _ _ _ _ _ => ?_⟩
    . refine .inr ⟨b, _, m, by rw [List.length_set]; exact h3, ?_, by rw [Heap.dB h5, if_pos rfl], (W1 h6 hj hu.2).nx hN⟩; rw [bZ]; exact List.mem_append_left _ (List.mem_append_left _ (by rw [rJ]; simp))
    show (jR P T (aB t x) (aB t y) h).map _ = _
    have : jR P T (aB t x) (aB t y) h = some (h.set b (.row T (eX rs (j * τ.size) (aB t y).cells.toList) true m)) := by
      rw [h1, hw]; simp only [jR, uJ, h5, hi, hs, S9, hu.2.p8, Nat.zero_add]; rw [if_pos ⟨trivial, by omega, trivial⟩]
    rw [this]; rfl⟩
theorem J.YD {xs : List τ.den} {dx : τ.den} (j : Nat) (hx : b9 fl x = some (.raw (uJ w τ.size j))) (hy : b9 fl y = some (.v τ dx)) (hT : fN P T τ) (hj : j < xs.length) (hk : J P orc ops n l fl ((w, .row T τ (xs.set j dx)) :: σ) K) (hw : dU ops fl g = some true := by rfl) :
    J P orc ops n (⟨none, .store T x y, ty, pos, after, g⟩ :: l) fl ((w, .row T τ xs) :: σ) K :=
  J.oN (bF.YD hT hj hx hy) (by rintro _ _ ⟨rfl, rfl⟩; exact hk) hw
theorem b6.take : ∀ {l : List PV} {us : List Value} (k : Nat), b6 h S l us -> b6 h S (l.take k) (us.take k)
  | [], us, k, hx => by rw [show us = [] from hx]; simp [b6]
  | p :: ps, us, 0, hx => by simp [b6]
  | p :: ps, us, k + 1, ⟨u, r, h1, h2, h3⟩ => by subst h1; exact ⟨u, r.take k, rfl, h2, b6.take k h3⟩
theorem b6.drop : ∀ {l : List PV} {us : List Value} (k : Nat), b6 h S l us -> b6 h S (l.drop k) (us.drop k)
  | [], us, k, hx => by rw [show us = [] from hx]; simp [b6]
  | p :: ps, us, 0, hx => hx
  | p :: ps, us, k + 1, ⟨u, r, h1, h2, h3⟩ => by subst h1; exact b6.drop k h3
def EY (l : List PV) (o : Nat) (new : List PV) : List PV := l.take o ++ (new ++ l.drop (o + new.length))
theorem b6.EY {l new : List PV} {us vs : List Value} (o : Nat) (hl : b6 h S l us) (hn : b6 h S new vs) : b6 h S (EY l o new) (eX us o vs) := by
  unfold Fs.EY eX; rw [List.append_assoc, <- hn.len]; exact (hl.take o).append (hn.append (hl.drop _))
theorem y8 {us vs : List Value} (o : Nat) (h1 : us.all aT = true) (h2 : vs.all aT = true) : (eX us o vs).all aT = true := by
  unfold eX; rw [List.all_append, List.all_append, h2]; have a1 : (us.take o).all aT = true := List.all_eq_true.2 fun x hx => List.all_eq_true.1 h1 x (List.mem_of_mem_take hx); have a2 : (us.drop (o + vs.length)).all aT = true := List.all_eq_true.2 fun x hx => List.all_eq_true.1 h1 x (List.mem_of_mem_drop hx); rw [a1, a2]; rfl
def PV.one : PV -> Bool
  | .v τ _ => !τ.agg
  | .raw u => aT u
  | .p _ _ => true
  | .gJ _ _ _ => true
  | _ => false
theorem ab0 : ∀ {p : PV} {u : Value}, p.one = true -> aI h S p u -> aT u = true
  | .v τ x, u, h1, hu => by
    have ha : τ.agg = false := by simpa [PV.one] using h1
    have h2 := hu.2.p8; rw [eJ (hu.1.trans ha)] at h2
    simpa using h2
  | .raw w, u, h1, hu => by
    obtain rfl : u = w := hu
    exact h1
  | .p τ x, u, _, hu => by
    obtain ⟨b, o, e, rs, own, more, rfl, _⟩ := hu
    rfl
  | .gJ f a c, u, _, hu => by
    obtain ⟨va, vc, rfl, _⟩ := hu; rfl
theorem JN : ∀ {cs : List PV} {us : List Value}, cs.all PV.one = true -> b6 h S cs us -> us.all aT = true
  | [], us, _, hu => by rw [show us = [] from hu]; rfl
  | p :: ps, us, h1, ⟨u, r, h2, h3, h4⟩ => by
    rw [List.all_cons, Bool.and_eq_true] at h1; rw [h2, List.all_cons, ab0 h1.1 h3, JN h1.2 h4]; rfl
inductive lJ : Ty -> PV -> List PV -> Prop where
  | v {τ : Ty} {x : τ.den} : lJ τ (.v τ x) (iO τ x)
  | raw {τ : Ty} {u : Value} (ha : τ.agg = false) (h1 : gO u = false) (h2 : aT u = true) : lJ τ (.raw u) [.raw u]
  | gJ {τ : Ty} {f : FuncId} {a c : List PV} (ha : τ.agg = false) : lJ τ (.gJ f a c) [.gJ f a c]
  | p {τ eP : Ty} {x : eP.den} (ha : τ.agg = false) : lJ τ (.p eP x) [.p eP x]
  | agg {τ : Ty} {us : List Value} {cs : List PV} (hl : us.length = τ.size) (h1 : us.all aT = true) (hr : ∀ h S, b6 h S cs us) : lJ τ (.raw (.agg us.toArray)) cs
  | GB {τ : Ty} {cs : List PV} (hl : cs.length = τ.size) (h1 : cs.all PV.one = true) : lJ τ (.agg cs) cs
theorem lJ.ok {p : PV} {cs : List PV} (hc : lJ τ p cs) {u : Value} (hu : aI h S p u) : b6 h S cs u.cells.toList /\ u.cells.toList.length = τ.size /\ u.cells.toList.all aT = true := by
  cases hc with
  | v =>
    have hr := hu.2
    exact ⟨oE hr, hr.len, hr.p8⟩
  | raw ha h1 h2 =>
    obtain rfl : u = _ := hu; rw [eJ h1]
    exact ⟨⟨u, [], rfl, rfl, rfl⟩, by rw [Ty.uW ha]; rfl, by simp [h2]⟩
  | gJ ha =>
    have uB := hu; obtain ⟨va, vc, rfl, _⟩ := hu
    exact ⟨⟨_, [], rfl, uB, rfl⟩, by rw [Ty.uW ha]; rfl, rfl⟩
  | p ha =>
    have uB := hu; obtain ⟨b, o, e, rs, own, more, rfl, _⟩ := hu
    exact ⟨⟨_, [], rfl, uB, rfl⟩, by rw [Ty.uW ha]; rfl, rfl⟩
  | agg hl h1 hr =>
    obtain rfl : u = _ := hu
    exact ⟨hr h S, hl, h1⟩
  | GB hl h1 =>
    obtain ⟨vs, rfl, h2⟩ := hu; exact ⟨h2, by rw [<- hl]; exact h2.len, JN h1 h2⟩
theorem bF.fP {cs new : List PV} {p : PV} {k : Nat} {q : Value} (hT : fN P T τ) (hp : lJ τ p new) (hkl : k + τ.size <= cs.length) (hq : q = nO w k \/ (k = 0 /\ q = w)) (hx : b9 fl x = some (.raw q)) (hy : b9 fl y = some p) :
    bF P fl ((w, .var cs) :: σ) (.store T x y) fun v aJ => v = .raw undef /\ aJ = (w, .var (EY cs k new)) :: σ :=
  ⟨rfl, fun S0 h t L => by
    have h1 : aB t x = q := dP L.aH hx; obtain ⟨hu1, W6, hu3⟩ := hp.ok (dP L.aH hy); obtain ⟨b, e, vs, h3, h4, h5, h6, h7⟩ := L.cells _ List.mem_cons_self; have hw : w = _ := h3; have hvl := h6.len; obtain ⟨i, hi, hs⟩ := hT.info
    have rJ : cI w = [b] := by rw [hw]; rfl
    refine ⟨undef, h.set b (.row e (eX vs k (aB t y).cells.toList) true false), .raw undef, _, ⟨rfl, rfl⟩, Made.head L (cD.set h5 (by rw [rJ]; simp)) (fun b hb => .inl hb) (by rw [rJ]; simp) fun hN => ?_, rfl, fun _ _ _ _ _ => ?_⟩
    . refine ⟨b, e, _, h3, ?_, by rw [Heap.dB h5, if_pos rfl], (h6.EY k hu1).nx hN, y8 k h7 hu3⟩; rw [bZ]; exact List.mem_append_left _ (List.mem_append_left _ (by rw [rJ]; simp))
    show (jR P T (aB t x) (aB t y) h).map _ = _
    have hqq : q = .pointer (some ⟨b, k, none⟩) := by
      rcases hq with hq | ⟨kI, hq⟩
      . rw [hq, hw]; simp [nO]
      rw [hq, hw, kI]
    have : jR P T (aB t x) (aB t y) h = some (h.set b (.row e (eX vs k (aB t y).cells.toList) true false)) := by
      rw [h1, hqq]; simp only [jR, h5, hi, hs, W6, hu3]; rw [if_pos ⟨trivial, by omega, trivial⟩]
    rw [this]; rfl⟩
theorem J.fP {cs new cs' : List PV} {p : PV} (k : Nat) (hT : fN P T τ) (hp : lJ τ p new) (hk : J P orc ops n l fl ((w, .var cs') :: σ) K) (hkl : Nat.ble (k + τ.size) cs.length = true := by rfl) (hx : b9 fl x = some (.raw (nO w k)) := by rfl) (hy : b9 fl y = some p := by rfl) (hc : EY cs k new = cs' := by rfl) (hw : dU ops fl g = some true := by rfl) :
    J P orc ops n (⟨none, .store T x y, ty, pos, after, g⟩ :: l) fl ((w, .var cs) :: σ) K :=
  J.oN (bF.fP hT hp (dY hkl) (.inl rfl) hx hy) (by rintro _ _ ⟨rfl, rfl⟩; rw [hc]; exact hk) hw
theorem J.eQ {cs new cs' : List PV} {p : PV} (hT : fN P T τ) (hp : lJ τ p new) (hk : J P orc ops n l fl ((w, .var cs') :: σ) K) (hkl : Nat.ble (0 + τ.size) cs.length = true := by rfl) (hx : b9 fl x = some (.raw w) := by rfl) (hy : b9 fl y = some p := by rfl) (hc : EY cs 0 new = cs' := by rfl) (hw : dU ops fl g = some true := by rfl) :
    J P orc ops n (⟨none, .store T x y, ty, pos, after, g⟩ :: l) fl ((w, .var cs) :: σ) K :=
  J.oN (bF.fP hT hp (dY hkl) (.inr ⟨rfl, rfl⟩) hx hy) (by rintro _ _ ⟨rfl, rfl⟩; rw [hc]; exact hk) hw
end Go.Fs
namespace Go.Fs
variable {P : Program} {orc : FuncId -> List Value -> Heap -> Option (Value × Heap)} {aV : Option Nat} {h h' h0 h1 h2 : Heap} {S S' S0 B G : List Nat} {σ aJ kR : aG} {t t' : Tr} {ms : List Nat} {fl : VL} {ops : Array Oper} {n i mem : Nat} {l : List Oper} {K : VL -> aG -> Prop} {Q : Ex -> VL -> aG -> Prop}
  {d : Tmp} {ty : TypeId} {pos : String} {after : Array Edge} {op : Op} {v pv : PV} {g : Option (Nat × Bool)} {x y z : Operand} {T T' e : TypeId} {τ eP : Ty} {bs nw : List Nat} {segs : List (Nat × Nat × Nat)} {tail so : Bool} {w w' : Value} {c c' : Cell}
def zE (P : Program) (fl : VL) (op : Op) (v : PV) : Prop := calm op = false /\ ∀ (h : Heap) (S : List Nat) (t : Tr), G8 h S t fl op -> mU h -> (∀ b ∈ S, b < h.next) ->
  ∃ (mk : Nat -> Value) (o : aX), aI (h.push o) S v (mk h.next) /\ ∀ (H : Heap) (d : Option Tmp) (ty : TypeId) (pos : String) (after : Array Edge) (g : Option (Nat × Bool)), iI P ⟨d, op, ty, pos, after, g⟩ (aB t) H = some (mk H.next, H.push o)
def jY (P : Program) (fl : VL) (op : Op) (c : Cell) : Prop := calm op = false /\ ∀ (h : Heap) (S : List Nat) (t : Tr), G8 h S t fl op -> mU h -> (∀ b ∈ S, b < h.next) ->
  ∃ (mk : Nat -> Value) (o : aX), (∀ k, cI (mk k) = [k]) /\ (∀ S', cH h S (h.push o) S' -> h.next ∈ S' -> bA (h.push o) S' (mk h.next) c) /\ ∀ (H : Heap) (d : Option Tmp) (ty : TypeId) (pos : String) (after : Array Edge) (g : Option (Nat × Bool)), iI P ⟨d, op, ty, pos, after, g⟩ (aB t) H = some (mk H.next, H.push o)
theorem J.new (hs : zE P fl op v) (hk : J P orc ops n l ((d, v) :: fl) σ K) (hw : dU ops fl g = some true := by rfl) (hn : (Nat.blt d n && Nat.ble n 4000) = true := by rfl) : J P orc ops n (⟨some d, op, ty, pos, after, g⟩ :: l) fl σ K := fun h0 G S0 t h ms I => by
  have L := I.lc; obtain ⟨mk, o, e1, e2⟩ := hs.2 h _ t I.aH.y6 I.ok L.lt; obtain ⟨n1, n2⟩ := fits hn; exact mP.op (dC I.aH hw) (e2 h _ _ _ _ _) (cE n1 t _) (hk h0 G S0 _ _ ms ((I.calm (cD.push h o [])).set e1 n2))
theorem J.cell (hs : jY P fl op c) (hk : ∀ w, J P orc ops n l ((d, .raw w) :: fl) ((w, c) :: σ) K) (hw : dU ops fl g = some true := by rfl) (hn : (Nat.blt d n && Nat.ble n 4000) = true := by rfl) : J P orc ops n (⟨some d, op, ty, pos, after, g⟩ :: l) fl σ K := fun h0 G S0 t h ms I => by
  have L := I.lc; obtain ⟨mk, o, e0, e1, e2⟩ := hs.2 h _ t I.aH.y6 I.ok L.lt; obtain ⟨n1, n2⟩ := fits hn; have m : Made S0 h (h.push o) σ ((mk h.next, c) :: σ) := Made.cons L (cD.push h o []) (fun b hb => by rw [e0] at hb; simp at hb; omega) (by rw [e0]; simp) fun hN => e1 _ hN (by rw [bZ, e0]; simp); exact mP.op (dC I.aH hw) (e2 h _ _ _ _ _) (cE n1 t _) (hk (mk h.next) h0 G S0 _ _ ms ((I.made m).set (show aI _ _ (.raw (mk h.next)) (mk h.next) from rfl) n2))
theorem ML : ∀ {L : List (Nat × aX)} {k : Nat} {o : aX}, (k, o) ∈ L -> ∃ o', look L k = some o'
  | [], _, _, h => by cases h
  | (k', o') :: r, k, o, h => by
    by_cases EZ : k' = k
    . exact ⟨o', by simp [look, EZ]⟩
    rcases List.mem_cons.1 h with h | h
    . simp only [Prod.mk.injEq] at h; exact absurd h.1.symm EZ
    obtain ⟨o2, h2⟩ := ML h; exact ⟨o2, by simp only [look, fG EZ, cond_false, h2]⟩
theorem SF {m : Nat} {L : List (Nat × aX)} {o : aX} (hL : ∀ b o, look L b = some o -> b < m) : bM m (m + 1) ((m, o) :: L) = [(m, o)] := by
  unfold bM; rw [fG (show m ≠ m + 1 by omega)]; simp only [cond_false]; rw [List.filter_cons]
  have e1 : inside m (m + 1) (m, o) = true := by
    unfold inside
    have : Nat.blt m (m + 1) = true := by show Nat.ble (m + 1) (m + 1) = true; exact sO _
    simp only [sO, this, Bool.and_self]
  rw [if_pos e1]; congr 1; refine List.filter_eq_nil_iff.2 fun p hp uD => ?_; obtain ⟨k, o2⟩ := p
  have H4 : m <= k := by
    unfold inside at uD; exact dY (aY uD).1
  obtain ⟨o', pU⟩ := ML hp; have := hL k o' pU; omega
theorem SG {b : Nat} {o : Oper} {ob : aX} {mk : Nat -> Value} {M : Heap} (hM : oT o ⟨t, h, bs, segs, mem, tail⟩ = M) (adV : mU M) (hMn : M.next = h.next) (hMl : M.low = h.next) (hb : aP bs o = b) (hd : o.dst = some d) (vQ : calm o.op = false) (hw : bR ops t o = some true)
    (nW : (tail && !Nat.beq (mem &&& b) mem) = false) (cC : iI P o (aB t) M = some (mk M.next, M.push ob)) (n1 : Nat.blt d n = true) :
    fY (iI P) ops n o i ⟨t, h, bs, segs, mem, tail⟩ = some ⟨t.set depth d (mk h.next), h.push ob, bs ++ [b], (i, h.next, h.next + 1) :: segs, mem ||| 2 ^ i, tail⟩ := by
  unfold fY
  have hM' : ({ next := h.next, low := h.next, aA := bif Nat.beq (mem &&& b) mem then h.aA else mask b segs h.aA } : Heap) = M := by
    rw [<- hM]; unfold oT; simp only [hb]
  simp only [hw, vQ, Bool.false_eq_true, if_false, hb, nW, cond_false, hM', cC]; have b7 : Nat.blt (h.next + 1) h.next = false := q7 (Nat.le_succ _)
  have e1 : bM h.next (h.next + 1) ((M.next, ob) :: M.aA) = [(h.next, ob)] := by
    rw [hMn]
    exact SF fun b o hg => by have := adV b o hg; omega
  simp only [Heap.push, hMn, hMl, b7, cond_false, hd, cE n1, sO, cond_true]; rw [hMn] at e1; rw [e1]; rfl
theorem VD.new {b : Nat} (hs : zE P fl op v) (hk : VD P orc ops n l (i + 1) ((d, v) :: fl) (gT false d nw) σ so (bs ++ [b]) (mem ||| 2 ^ i) tail K)
    (hb : aP bs ⟨some d, op, ty, pos, after, g⟩ = b := by rfl) (nW : (tail && !Nat.beq (mem &&& b) mem) = false := by rfl) (hw : dU ops fl g = some true := by rfl) (hn : (Nat.blt d n && Nat.ble n 4000) = true := by rfl) :
    VD P orc ops n (⟨some d, op, ty, pos, after, g⟩ :: l) i fl nw σ so bs mem tail K := fun h0 G S0 t h ms segs I ho => by
  obtain ⟨n1, n2⟩ := fits hn; obtain ⟨M, m1, m2, m3, m4, m5, m6, m7⟩ := v8 (mem := mem) I hb ho; obtain ⟨mk, o, e1, e2⟩ := hs.2 h _ t I.aH.y6 I.ok I.lc.lt; refine tK.op (SG m1 m2 m3 m4 hb rfl hs.1 (dC I.aH hw) nW (e2 M _ _ _ _ _) n1) (hk h0 G S0 _ _ ms _ ((I.calm (cD.push h o [])).set e1 n2) fun ht => ?_); exact ((ho ht).set (old := false) n2 fun e => by cases e).next (eU.push h o) (Nat.le_refl _)
theorem JO {b : Nat} {o : Oper} {u : Value} {t2 : Tr} (hb : aP bs o = b) (hp : put n t o.dst u = some t2) (vQ : calm o.op = false) (hw : bR ops t o = some true) (iM : Nat.beq (mem &&& b) mem = true) (bD : mU h) (cC : iI P o (aB t) (entry h) = some (u, h')) (hB : cD (entry h) h' B) :
    ∃ h2 jL, fY (iI P) ops n o i ⟨t, h, bs, segs, mem, tail⟩ = some ⟨t2, h2, bs ++ [b], (i, h.next, h'.next) :: segs, mem ||| 2 ^ i, jL⟩ /\ (∀ b, h2.get b = h'.get b) /\ h2.next = h'.next /\ cD h h2 B /\ (jL = false -> eU h h2 /\ tail = false) := by
  have gA := hB.next; have ae0 : Nat.blt h'.next h.next = false := q7 gA; unfold fY
  have hM' : ({ next := h.next, low := h.next, aA := bif Nat.beq (mem &&& b) mem then h.aA else mask b segs h.aA } : Heap) = entry h := by
    rw [iM]; rfl
  simp only [hw, vQ, Bool.false_eq_true, if_false, hb, iM, Bool.not_true, Bool.and_false, cond_false]; simp only [iM] at hM'; rw [hM', cC]; simp only [ae0, cond_false, hp]
  cases dK : Nat.ble h.next h'.low with
  | true =>
    have hl := dY dK
    have gH : ∀ b, b < h.next -> h'.get b = h.get b := fun b hb => by
      rcases hB.chg b hb with h3 | h3
      . exact h3
      omega
    have gB : ∀ b, look (bM h.next h'.next h'.aA ++ h.aA) b = h'.get b := fun b => by
      rw [iU]; by_cases hb : b < h.next
      . cases iT : look (bM h.next h'.next h'.aA) b with
        | some o => have := (dT _ _ _ iT).1; omega
        | none => exact (gH b hb).symm
      have hold : look h.aA b = none := by
        cases iT : look h.aA b with
        | none => rfl
        | some o => exact absurd (bD b o iT) hb
      rw [hold, Option.or_none]
      cases iT : look h'.aA b with
      | some o =>
        have : b < h'.next := hB.ok bD b o iT; rw [zB _ _ (by omega) this, iT]
        exact iT.symm
      | none =>
        cases IL : look (bM h.next h'.next h'.aA) b with
        | none => exact iT.symm
        | some o => rw [(dT _ _ _ IL).2] at iT; cases iT
    refine ⟨_, _, rfl, gB, rfl, ⟨gA, fun b hb hn => (gB b).trans (hB.get b hb hn), fun _ b o hg => ?_, fun e h3 _ _ => h3, fun b hb => .inl ((gB b).trans (gH b hb)), Nat.le_refl _⟩, fun ht => ⟨⟨gA, fun b hb => (gB b).trans (gH b hb), fun _ b o hg => ?_, fun e h3 _ => h3⟩, ht⟩⟩
    . exact hB.ok bD b o ((gB b).symm.trans hg)
    exact hB.ok bD b o ((gB b).symm.trans hg)
  | false =>
    refine ⟨_, _, rfl, fun _ => rfl, rfl, ⟨gA, hB.get, fun _ => hB.ok bD, fun e h3 h4 h5 => Nat.le_min.2 ⟨h3, hB.low e h4 h4 h5⟩, fun b hb => ?_, Nat.min_le_left _ _⟩, fun e => by cases e⟩; rcases hB.chg b hb with h3 | h3
    . exact .inl h3
    exact .inr (Nat.le_trans (Nat.min_le_right _ _) h3)
theorem wH (m : Made S0 (entry h) h' σ aJ) (hg : ∀ b, h2.get b = h'.get b) (ha : cD h h2 (own σ)) : Made S0 h h2 σ aJ := ⟨ha, m.new, m.apart, fun c hc => (m.cells c hc).keep (fun b _ => hg b) (cH.aA hg) fun b hb => List.mem_append_left _ (List.mem_flatMap.2 ⟨c, hc, hb⟩)⟩
theorem VD.mk {b : Nat} {Tt : PV -> aG -> Prop} (hs : bF P fl σ op Tt) (hk : ∀ v aJ jL, Tt v aJ -> VD P orc ops n l (i + 1) ((d, v) :: fl) (gT false d nw) aJ false (bs ++ [b]) (mem ||| 2 ^ i) jL K)
    (hb : aP bs ⟨some d, op, ty, pos, after, g⟩ = b := by rfl) (iM : Nat.beq (mem &&& b) mem = true := by rfl) (hw : dU ops fl g = some true := by rfl) (hn : (Nat.blt d n && Nat.ble n 4000) = true := by rfl) :
    VD P orc ops n (⟨some d, op, ty, pos, after, g⟩ :: l) i fl nw σ so bs mem tail K := fun h0 G S0 t h ms segs I ho => by
  obtain ⟨n1, n2⟩ := fits hn; have Le := I.lc.aA (h' := entry h) (fun _ => rfl) rfl; obtain ⟨u, h', v, aJ, e1, e2, e3, e4⟩ := hs.2 S0 (entry h) t Le; obtain ⟨h2, jL, f1, f2, f3, f4, f5⟩ := JO (i := i) (segs := segs) (tail := tail) hb (cE n1 t u) hs.1 (dC I.aH hw) iM I.ok (e4 (some d) ty pos after g) e2.gC; have I2 := (I.made (wH e2 f2 f4)).set (e3.nx (cH.aA f2)) n2; refine tK.op f1 (hk v aJ jL e1 h0 G S0 _ _ ms _ I2 fun ht => ?_); obtain ⟨f6, f7⟩ := f5 ht
  obtain ⟨JM, a1, a2, a3, a4, a5, a6⟩ := (ho f7).set (v := v) (u := u) (old := false) n2 fun e => by cases e
  refine ⟨JM, a1, a2.trans f6, mV.cons a2.next a3, a4, fun k pv hk hn => (a5 k pv hk hn).nx (h := JM) fun b ob hg hb => ⟨hg, ?_⟩, fun e => by cases e⟩; have h3 := a1 b ob hg; have h4 := a2.next; intro y9; rcases List.mem_append.1 y9 with y9 | y9
  . rcases e2.new b y9 with h5 | h5
    . exact hb (List.mem_append_left _ h5)
    have : (entry h).next = h.next := rfl; omega
  exact hb (List.mem_append_right _ y9)
theorem VD.oN {b : Nat} {Tt : PV -> aG -> Prop} (hs : bF P fl σ op Tt) (hk : ∀ v aJ jL, Tt v aJ -> VD P orc ops n l (i + 1) fl nw aJ false (bs ++ [b]) (mem ||| 2 ^ i) jL K)
    (hb : aP bs ⟨none, op, ty, pos, after, g⟩ = b := by rfl) (iM : Nat.beq (mem &&& b) mem = true := by rfl) (hw : dU ops fl g = some true := by rfl) :
    VD P orc ops n (⟨none, op, ty, pos, after, g⟩ :: l) i fl nw σ so bs mem tail K := fun h0 G S0 t h ms segs I ho => by
  have Le := I.lc.aA (h' := entry h) (fun _ => rfl) rfl; obtain ⟨u, h', v, aJ, e1, e2, e3, e4⟩ := hs.2 S0 (entry h) t Le; obtain ⟨h2, jL, f1, f2, f3, f4, f5⟩ := JO (n := n) (i := i) (segs := segs) (tail := tail) (o := ⟨none, op, ty, pos, after, g⟩) hb (MA n t u) hs.1 (dC I.aH hw) iM I.ok (e4 none ty pos after g) e2.gC; have I2 := I.made (wH e2 f2 f4); refine tK.op f1 (hk v aJ jL e1 h0 G S0 _ _ ms _ I2 fun ht => ?_); obtain ⟨f6, f7⟩ := f5 ht; obtain ⟨JM, a1, a2, a3, a4, a5, a6⟩ := ho f7; refine ⟨JM, a1, a2.trans f6, mV.cons a2.next a3, a4, fun k pv hk hn => (a5 k pv hk hn).nx (h := JM) fun b ob hg hb => ⟨hg, ?_⟩, fun e => by cases e⟩; have h3 := a1 b ob hg; have h4 := a2.next; intro y9; rcases List.mem_append.1 y9 with y9 | y9
  . rcases e2.new b y9 with h5 | h5
    . exact hb (List.mem_append_left _ h5)
    have : (entry h).next = h.next := rfl; omega
  exact hb (List.mem_append_right _ y9)
end Go.Fs
namespace Go.Fs
variable {P : Program} {orc : FuncId -> List Value -> Heap -> Option (Value × Heap)} {aV : Option Nat} {h h' h0 h1 h2 : Heap} {S S' S0 B G : List Nat} {σ aJ kR : aG} {t t' : Tr} {ms : List Nat} {fl : VL} {ops : Array Oper} {n i mem : Nat} {l : List Oper} {K : VL -> aG -> Prop} {Q : Ex -> VL -> aG -> Prop}
  {d : Tmp} {ty : TypeId} {pos : String} {after : Array Edge} {op : Op} {v pv : PV} {g : Option (Nat × Bool)} {x y z : Operand} {T T' e : TypeId} {τ eP : Ty} {bs nw : List Nat} {segs : List (Nat × Nat × Nat)} {tail so : Bool} {w w' : Value} {c c' : Cell}
theorem wI {fl : VL} : ∀ {l : List Operand} {vs : List PV}, (∀ x ∈ l, ∀ pv, b9 fl x = some pv -> aI h S pv (aB t x)) -> lI fl l = some vs -> b6 h S vs (l.map (aB t))
  | [], vs, _, hx => by obtain rfl := Option.some.inj hx; rfl
  | x :: r, vs, hq, hx => by
    simp only [lI] at hx; split at hx
    . rename_i v OZ hv uQ; obtain rfl := Option.some.inj hx; exact ⟨_, _, rfl, hq x List.mem_cons_self _ hv, wI (fun y hy => hq y (List.mem_cons_of_mem _ hy)) uQ⟩
    cases hx
theorem b6.vs : ∀ {xs : List τ.den} {us : List Value}, b6 h S (xs.map (PV.v τ)) us -> us.length = xs.length /\ ∀ i (hi : i < us.length) (hx : i < xs.length), aF h S τ us[i] xs[i]
  | [], us, hx => ⟨by rw [show us = [] from hx]; rfl, fun i _ h => by simp at h⟩
  | a :: xs, us, ⟨u, r, h1, h2, h3⟩ => by
    subst h1; obtain ⟨e1, e2⟩ := b6.vs h3; refine ⟨by simp [e1], fun i hi hx => ?_⟩
    cases i with
    | zero => exact h2
    | succ i => exact e2 i (by simpa using hi) (by simpa using hx)
theorem CX : ∀ {ps : List (Nat × Operand)} {k : Nat}, ps.map (·.1) = List.range' k ps.length -> ps.map (fun p => (p.1, aB t p.2)) = lQ k (ps.map fun p => aB t p.2)
  | [], k, _ => rfl
  | (i, x) :: r, k, hk => by
    simp only [List.map_cons, List.length_cons, List.range'_succ, List.cons.injEq] at hk; simp only [List.map_cons, lQ, hk.1]; rw [CX hk.2]
theorem SH {parts : Array (Nat × Operand)} {len : Nat} {xs : List τ.den} (hT : kB P T e τ) (SI : lI fl (parts.toList.map (·.2)) = some (xs.map (PV.v τ))) (SJ : parts.toList.map (·.1) = List.range' 0 parts.toList.length) (hl : len = xs.length) (hp : 0 < xs.length) (cX : xs.length <= 1000) (HJ : τ.size <= 100) (hs : G8 h S t fl (.buildSlice T len parts)) :
    ∃ us : List Value, us.length = xs.length /\ cV h S τ (flat us) xs /\ ∀ (H : Heap) (d : Option Tmp) (ty : TypeId) (pos : String) (after : Array Edge) (g : Option (Nat × Bool)), iI P ⟨d, .buildSlice T len parts, ty, pos, after, g⟩ (aB t) H = some (.slice (some ⟨H.next, 0, none⟩) xs.length 0, H.push (.row e (flat us) true false)) := by
  have hr : b6 h S (xs.map (PV.v τ)) ((parts.toList.map (·.2)).map (aB t)) := wI (fun x hx => hs x (by simpa [Op.operands] using hx)) SI; obtain ⟨e1, e2⟩ := b6.vs hr; refine ⟨_, e1, cV.flat _ xs e1 e2, fun H _ _ _ _ _ => ?_⟩; show iY P T len (parts.map fun p => (p.1, aB t p.2)) H = _
  have hpm : parts.map (fun p => (p.1, aB t p.2)) = (lQ 0 ((parts.toList.map (·.2)).map (aB t))).toArray := by
    apply Array.toList_inj.1; rw [Array.toList_map, CX SJ, List.map_map]; rfl
  have := adU hT e1 e2 (by intro e; rw [e] at e1; simp at e1; omega) (by omega) HJ H; rw [hpm, hl, <- e1]; exact this
theorem zE.lit {parts : Array (Nat × Operand)} {len : Nat} (xs : List τ.den) (hT : kB P T e τ) (SI : lI fl (parts.toList.map (·.2)) = some (xs.map (PV.v τ)) := by rfl) (SJ : parts.toList.map (·.1) = List.range' 0 parts.toList.length := by rfl) (hl : len = xs.length := by rfl) (hp : (Nat.blt 0 xs.length && Nat.ble xs.length 1000 && Nat.ble τ.size 100) = true := by rfl) : zE P fl (.buildSlice T len parts) (.v (.sl τ) xs) :=
  ⟨rfl, fun h S t hs bD hS => by
    obtain ⟨p1, p2⟩ := aY hp; obtain ⟨p0, p1⟩ := aY p1; obtain ⟨us, e1, e2, e3⟩ := SH hT SI SJ hl (jB p0) (dY p1) (dY p2) hs; refine ⟨fun k => .slice (some ⟨k, 0, none⟩) xs.length 0, .row e (flat us) true false, ?_, e3⟩; have hN : cH h S (h.push (.row e (flat us) true false)) S := (eU.push h _).nx bD
    exact ((e2.nx hN).slv (by rw [Heap.bE, if_pos rfl]) fun hm => by have := hS _ hm; omega).rep⟩
theorem jY.lit {parts : Array (Nat × Operand)} {len : Nat} (xs : List τ.den) (hT : kB P T e τ) (SI : lI fl (parts.toList.map (·.2)) = some (xs.map (PV.v τ)) := by rfl) (SJ : parts.toList.map (·.1) = List.range' 0 parts.toList.length := by rfl) (hl : len = xs.length := by rfl) (hp : (Nat.blt 0 xs.length && Nat.ble xs.length 1000 && Nat.ble τ.size 100) = true := by rfl) : jY P fl (.buildSlice T len parts) (.row e τ xs) :=
  ⟨rfl, fun h S t hs bD hS => by
    obtain ⟨p1, p2⟩ := aY hp; obtain ⟨p0, p1⟩ := aY p1; obtain ⟨us, e1, e2, e3⟩ := SH hT SI SJ hl (jB p0) (dY p1) (dY p2) hs; refine ⟨fun k => .slice (some ⟨k, 0, none⟩) xs.length 0, .row e (flat us) true false, fun _ => rfl, fun S' hN hm => ?_, e3⟩
    exact .inr ⟨h.next, _, false, rfl, hm, by rw [Heap.bE, if_pos rfl], e2.nx hN⟩⟩
theorem ab1 (hT : kB P T e τ) (H : Heap) (d : Option Tmp) (ty : TypeId) (pos : String) (after : Array Edge) (g : Option (Nat × Bool)) : iI P ⟨d, .buildSlice T 0 #[], ty, pos, after, g⟩ (aB t) H = some (.slice (some ⟨H.next, 0, none⟩) 0 0, H.push (.row e [] true false)) := by
  show iY P T 0 ((#[] : Array (Nat × Operand)).map fun p => (p.1, aB t p.2)) H = _; obtain ⟨i, z, CV, q9, _⟩ := hT.sl.info; simp [iY, hT.sl.sl, CV]
theorem jY.aoF (hT : kB P T e τ) : jY P fl (.buildSlice T 0 #[]) (.row e τ []) :=
  ⟨rfl, fun h S t hs bD hS => ⟨fun k => .slice (some ⟨k, 0, none⟩) 0 0, .row e [] true false, fun _ => rfl, fun S' hN hm => .inr ⟨h.next, [], false, rfl, hm, by rw [Heap.bE, if_pos rfl], cV.nil⟩, ab1 hT⟩⟩
theorem zE.box {dx : τ.den} (hx : b9 fl x = some (.v τ dx) := by rfl) : zE P fl (.box e x) (.p τ dx) :=
  ⟨rfl, fun h S t hs bD hS => by
    have hu : aF h S τ (aB t x) dx := hs x (by simp [Op.operands]) _ hx; refine ⟨fun k => .pointer (some ⟨k, 0, none⟩), .row e (aB t x).cells.toList true false, ?_, fun H _ _ _ _ _ => ?_⟩
    . exact hu.box bD hS
    show pT e (aB t x) H = _; unfold pT
    rw [if_pos hu.2.p8]⟩
theorem jY.box {p : PV} {cs : List PV} (hp : lJ τ p cs) (hx : b9 fl x = some p := by rfl) : jY P fl (.box e x) (.var cs) :=
  ⟨rfl, fun h S t hs bD hS => by
    obtain ⟨h1, h2, h3⟩ := hp.ok (hs x (by simp [Op.operands]) _ hx); refine ⟨fun k => .pointer (some ⟨k, 0, none⟩), .row e (aB t x).cells.toList true false, fun _ => rfl, fun S' hN hm => ?_, fun H _ _ _ _ _ => ?_⟩
    . exact ⟨h.next, e, _, rfl, hm, by rw [Heap.bE, if_pos rfl], h1.nx hN, h3⟩
    show pT e (aB t x) H = _; unfold pT
    rw [if_pos h3]⟩
def pB : (τ : Ty) -> τ.den
  | .int _ => (0 : Int)
  | .bool => false
  | .str => ByteArray.empty
  | .rV _ => (0 : Nat)
  | .sl _ => []
  | .mp _ _ => []
  | .fn => none
  | .kP => none
  | .pair a b => (pB a, pB b)
  | .unit => ()
def o3 : Ty -> List Value
  | .int k => [.int k 0]
  | .bool => [.bool false]
  | .str => [.string ByteArray.empty]
  | .rV k => [.float k 0]
  | .sl _ => [.slice none 0 0]
  | .mp _ _ => [.map none]
  | .fn => [.nilFunc]
  | .kP => [.slice none 0 0]
  | .pair a b => o3 a ++ o3 b
  | .unit => []
theorem mW (h : Heap) (S : List Nat) : ∀ (τ : Ty), cR h S τ (o3 τ) (pB τ) /\ (o3 τ).all eN = true
  | .int _ => ⟨rfl, rfl⟩
  | .bool => ⟨rfl, rfl⟩
  | .str => ⟨rfl, rfl⟩
  | .rV _ => ⟨rfl, rfl⟩
  | .sl _ => ⟨⟨_, rfl, .inl ⟨rfl, rfl⟩⟩, rfl⟩
  | .mp _ _ => ⟨⟨_, rfl, .inl ⟨rfl, rfl⟩⟩, rfl⟩
  | .fn => ⟨rfl, rfl⟩
  | .kP => ⟨rfl, rfl⟩
  | .unit => ⟨rfl, rfl⟩
  | .pair a b => by
    obtain ⟨a1, a2⟩ := mW h S a; obtain ⟨b1, b2⟩ := mW h S b; refine ⟨⟨?_, ?_⟩, ?_⟩
    . show cR h S a ((o3 a ++ o3 b).take a.size) _; rw [List.take_left' a1.len]; exact a1
    . show cR h S b ((o3 a ++ o3 b).drop a.size) _; rw [List.drop_left' a1.len]; exact b1
    show (o3 a ++ o3 b).all eN = true; rw [List.all_append, a2, b2]; rfl
structure oG (P : Program) (e : TypeId) (τ : Ty) : Prop where
  zero : ∃ z, (P.info? e).bind (·.zero) = some z /\ z.cells.toList = o3 τ /\ gO z = τ.agg
theorem kS {z : Value} (hz : (P.info? e).bind (·.zero) = some z) (hc : z.cells.toList = o3 τ) (ha : gO z = τ.agg) : oG P e τ := ⟨z, hz, hc, ha⟩
theorem zF {u : Value} (h : u.cells.toList.all eN = true) : af u = true /\ u.cells.toList.all aT = true := by
  refine ⟨?_, JG h⟩
  cases u with
  | agg cs => exact h
  | tuple vs => simp [Value.cells, eN] at h
  | _ => simpa [Value.cells, af, rB] using h
theorem jY.alloc (hZ : oG P e τ) : jY P fl (.alloc e) (.var (iO τ (pB τ))) :=
  ⟨rfl, fun h S t hs bD hS => by
    obtain ⟨z, h1, h2, h3⟩ := hZ.zero; obtain ⟨z1, z2⟩ := mW h S τ; obtain ⟨a1, a2⟩ := zF (u := z) (by rw [h2]; exact z2); refine ⟨fun k => .pointer (some ⟨k, 0, none⟩), .row e z.cells.toList true false, fun _ => rfl, fun S' hN hm => ?_, fun H _ _ _ _ _ => ?_⟩
    . exact ⟨h.next, e, _, rfl, hm, by rw [Heap.bE, if_pos rfl], by have := (oE z1).nx hN; rwa [<- h2] at this, a2⟩
    show (match (P.info? e).bind (·.zero) with | some z => if af z then pT e z H else none | none => none) = _; rw [h1]; simp only [a1, if_true]; unfold pT
    rw [if_pos a2]⟩
theorem GC {z : Value} (hz : 0 < z.cells.size) : ∀ n : Nat, l8 z n = (List.replicate n z.cells.toList).flatten
  | 0 => by simp [l8]
  | n + 1 => by
    have ih := GC hz n; unfold l8 at ih ⊢; rw [List.replicate_succ', List.flatten_append, <- ih, Nat.add_mul, Nat.one_mul, List.range_add, List.map_append]; congr 1; refine List.ext_getElem (by simp) fun i h1 h2 => ?_
    have hi : i < z.cells.size := by simpa using h1
    simp only [List.getElem_map, List.getElem_range, List.flatten_cons, List.flatten_nil, List.append_nil, List.map_map]
    have h3 : (n * z.cells.size + i) % z.cells.size = i := by rw [Nat.mul_comm, Nat.mul_add_mod, Nat.mod_eq_of_lt hi]
    simp only [Function.comp, List.getElem_range, h3]; rw [getElem!_pos z.cells i hi]; simp
theorem JP {cs : List Value} {dx : τ.den} (hx : cR h S τ cs dx) : ∀ n : Nat, cV h S τ (List.replicate n cs).flatten (List.replicate n dx)
  | 0 => cV.nil
  | n + 1 => by
    have h1 : cV h S τ cs [dx] := ⟨by simpa using hx.len, fun i hi => by
      obtain rfl : i = 0 := by simpa using hi
      simp only [Nat.zero_mul, List.drop_zero, List.getElem_cons_zero]; rw [List.take_of_length_le (by rw [hx.len]; exact Nat.le_refl _)]
      exact hx⟩
    have := h1.append (JP hx n); simpa [List.replicate_succ] using this
theorem jY.make {k : Nat} (hx : b9 fl x = some (.v (.int .i64) ((k : Nat) : Int))) (hy : b9 fl y = some (.v (.int .i64) ((k : Nat) : Int))) (hT : kB P T e τ) (hZ : oG P e τ) (hk : k <= 1000000) : jY P fl (.makeSlice T x y) (.row e τ (List.replicate k (pB τ))) :=
  ⟨rfl, fun h S t hs bD hS => by
    have u1 := aF.int (hs x (by simp [Op.operands]) _ hx); have u2 := aF.int (hs y (by simp [Op.operands]) _ hy); obtain ⟨z, h1, h2, h3⟩ := hZ.zero; obtain ⟨i, z', CV, q9, SD, CW, LI, PE, W4⟩ := hT.sl.info
    obtain rfl : z' = z := by
      rw [CV] at h1; simpa [LI] using h1
    have wX := hT.sl.pos; refine ⟨fun m => .slice (some ⟨m, 0, none⟩) k 0, .row e (l8 z' k) true false, fun _ => rfl, fun S' hN hm => ?_, fun H _ _ _ _ _ => ?_⟩
    . refine .inr ⟨h.next, _, false, by simp, hm, by rw [Heap.bE, if_pos rfl], ?_⟩; rw [GC (by omega), h2]; exact JP (mW _ _ τ).1 k
    show oP P T (aB t x) (aB t y) H = _; rw [u1, u2]; unfold oP; simp only [hT.sl.sl, CV, LI]
    have hb : i.bytes * k <= 1099511627776 := by
      have := Nat.mul_le_mul CW hk; omega
    have hc : (decide (0 <= ((k : Nat) : Int)) && decide (((k : Nat) : Int) <= ((k : Nat) : Int)) && decide (((k : Nat) : Int) <= 1099511627776) && Nat.ble (i.bytes * ((k : Nat) : Int).toNat) 1099511627776 && Nat.blt 0 i.size && Nat.beq z'.cells.size i.size && z'.cells.toList.all eN) = true := by
      have e1 : Nat.ble (i.bytes * ((k : Nat) : Int).toNat) 1099511627776 = true := by rw [Nat.ble_eq, Int.toNat_natCast]; exact hb
      have e2 : Nat.blt 0 i.size = true := by show Nat.ble 1 i.size = true; rw [Nat.ble_eq, q9]; exact wX
      rw [e1, e2, PE, q9, Nat.beq_refl, W4]; simp; omega
    rw [hc]
    rfl⟩
def GD (pl : List (Nat × Nat)) : List PV -> List Nat -> List PV -> Option (List PV)
  | L, [], [] => some L
  | L, i :: is, p :: ps => match pl[i]? with
    | some (o, s) => bif Nat.ble (o + s) L.length then
        (match p with
        | .v τ x => bif Nat.beq τ.size s then GD pl (EY L o (iO τ x)) is ps else none
        | .raw (.slice none 0 0) => bif Nat.beq s 1 then (match L[o]? with | some (.v (.sl _) []) => GD pl L is ps | _ => none) else none
        | _ => none)
      else none
    | none => none
  | _, _, _ => none
structure wZ (P : Program) (T : TypeId) (τ : Ty) (pl : List (Nat × Nat)) : Prop where
  zer : oG P T τ
  agg : τ.agg = true
  run : ∀ (z : Value) (parts : Array (Nat × Value)) (cs : Array Value), (P.info? T).bind (·.zero) = some z -> Instr.fill (pl[·]?) z.cells parts.toList = some cs -> aC P (Instr.build T parts) = some (.agg cs)
def plB (P : Program) (T : TypeId) : Option (List (Nat × Nat)) :=
  match P.underlying T with
  | some (.struct fields) => (aC P (fields.mapM fun f => do pure (f.offset, <- sizeOf f.type))).map (·.toList)
  | some (.array n e) => (P.info? e).map fun i => (List.range n).map fun j => (j * i.size, i.size)
  | _ => none
theorem JQ {pl pl' : Nat -> Option (Nat × Nat)} (hp : ∀ i q, pl i = some q -> pl' i = some q) : ∀ (ps : List (Nat × Value)) (cells out : Array Value), Instr.fill pl cells ps = some out -> Instr.fill pl' cells ps = some out
  | [], cells, out, hf => hf
  | (i, v) :: rest, cells, out, hf => by
    unfold Instr.fill at hf ⊢
    cases hq : pl i with
    | none => rw [hq] at hf; cases hf
    | some q =>
      rw [hq] at hf; rw [hp i q hq]; obtain ⟨o, sz⟩ := q; simp only at hf ⊢; split at hf
      . cases hf
      rename_i cL; rw [if_neg cL]; exact JQ hp rest _ out hf
theorem JR {z : Value} (hz : (P.info? T).bind (·.zero) = some z) : aC P (zeroValue T) = some z := by
  obtain ⟨i, hi, hzi⟩ := Option.bind_eq_some_iff.1 hz; unfold zeroValue; rw [aE, tS hi]; simp only [Option.bind_some, hzi]; rfl
theorem pC {pl : List (Nat × Nat)} (hZ : oG P T τ) (ha : τ.agg = true) (hp : plB P T = some pl) : wZ P T τ pl := by
  refine ⟨hZ, ha, fun z parts cs hz hf => ?_⟩; unfold plB at hp; split at hp
  . rename_i fields hu; obtain ⟨places, h1, h2⟩ := Option.map_eq_some_iff.1 hp; refine JF hu (JR hz) h1 ?_; rw [<- hf]; congr 1; funext i; rw [<- h2]; simp
  . rename_i m e hu; obtain ⟨i, hi, h2⟩ := Option.map_eq_some_iff.1 hp
    have US : Instr.fill (fun j => some (j * i.size, i.size)) z.cells parts.toList = some cs := JQ (fun j q hq => by
      rw [<- h2] at hq; simp only [List.getElem?_map] at hq; obtain ⟨k, hk, rfl⟩ := Option.map_eq_some_iff.1 hq; obtain ⟨H4, rfl⟩ := List.getElem?_eq_some_iff.1 hk
      simp) _ _ _ hf
    have cX : aC P (sizeOf e) = some i.size := jP hi; unfold Instr.build; simp only [aE, JR hz, bB hu, Option.bind_some, cX, US]; rfl
  cases hp
theorem zG {pl : List (Nat × Nat)} : ∀ {is : List Nat} {ps : List PV} {us : List Value} {L L' : List PV} {cs : List Value}, GD pl L is ps = some L' -> b6 h S ps us -> b6 h S L cs -> cs.all aT = true ->
    ∃ cs', Instr.fill (pl[·]?) cs.toArray (is.zip us) = some cs'.toArray /\ b6 h S L' cs' /\ us.all (fun u => u.cells.toList.all aT) = true /\ is.length = us.length
  | [], [], us, L, L', cs, hb, hp, hL, ho => by
    obtain rfl : us = [] := hp; obtain rfl := Option.some.inj hb
    exact ⟨cs, rfl, hL, rfl, rfl⟩
  | i :: is, p :: ps, us, L, L', cs, hb, ⟨u, r, h1, h2, h3⟩, hL, ho => by
    subst h1; have hlen := hL.len; simp only [GD] at hb; split at hb
    . rename_i o s hpl
      cases AS : Nat.ble (o + s) L.length with
      | false => rw [AS] at hb; cases hb
      | true =>
        rw [AS] at hb; have H3 := dY AS; simp only [cond_true] at hb; split at hb
        . rename_i τ x
          cases hs : Nat.beq τ.size s with
          | false => rw [hs] at hb; cases hb
          | true =>
            rw [hs] at hb; simp only [cond_true] at hb; obtain rfl := bI hs; have hu : aF h S τ u x := h2; have S9 : u.cells.toList.length = τ.size := hu.2.len
            have hus : u.cells.size = τ.size := by simpa using S9
            obtain ⟨cs', f1, f2, f3, f4⟩ := zG hb h3 (hL.EY o (oE hu.2)) (y8 o ho hu.2.p8); refine ⟨cs', ?_, f2, by rw [List.all_cons, hu.2.p8, f3]; rfl, by simp [f4]⟩; simp only [List.zip_cons_cons, Instr.fill, hpl]
            have h9 : (u.cells.size ≠ τ.size || o + u.cells.size > cs.toArray.size) = false := by simp [hus]; omega
            rw [h9]; simp only [Bool.false_eq_true, if_false]
            have hsp : u.cells.zipIdx.foldl (fun (cs : Array Value) (p : Value × Nat) => cs.setIfInBounds (o + p.2) p.1) cs.toArray = (eX cs o u.cells.toList).toArray := by
              have e0 : cs = cs.take o ++ ((cs.drop o).take τ.size) ++ cs.drop (o + τ.size) := by
                rw [<- List.drop_drop, List.append_assoc, List.take_append_drop, List.take_append_drop]
              have := JE τ.size o u (cs.take o) ((cs.drop o).take τ.size) (cs.drop (o + τ.size)) (by rw [List.length_take]; omega) (by rw [List.length_take, List.length_drop]; omega) hus; rw [<- e0] at this; rw [this]; unfold eX; rw [S9]
            rw [hsp]; exact f1
        . cases hs : Nat.beq s 1 with
          | false => rw [hs] at hb; cases hb
          | true =>
            rw [hs] at hb; simp only [cond_true] at hb; obtain rfl := bI hs; split at hb
            . rename_i ee hLo; obtain rfl : u = .slice none 0 0 := h2
              obtain ⟨cs', f1, f2, f3, f4⟩ := zG (cs := eX cs o [.slice none 0 0]) hb h3 (by
                have := hL.EY o (show b6 h S [.v (.sl ee) []] [.slice none 0 0] from ⟨_, [], rfl, lW.nil.rep, rfl⟩)
                have e9 : EY L o [.v (.sl ee) []] = L := by
                  unfold Fs.EY
                  have OI : o < L.length := by omega
                  have hg : L[o] = .v (.sl ee) [] := by rw [List.getElem?_eq_getElem OI] at hLo; exact Option.some.inj hLo
                  rw [<- hg]; simp only [List.length_cons, List.length_nil, Nat.zero_add, List.cons_append, List.nil_append]; rw [<- List.drop_eq_getElem_cons OI, List.take_append_drop]
                rwa [e9] at this) (y8 o ho rfl)
              refine ⟨cs', ?_, f2, by rw [List.all_cons, f3]; rfl, by simp [f4]⟩; simp only [List.zip_cons_cons, Instr.fill, hpl]
              have h9 : ((Value.slice none 0 0).cells.size ≠ 1 || o + (Value.slice none 0 0).cells.size > cs.toArray.size) = false := by simp [Value.cells]; omega
              rw [h9]; simp only [Bool.false_eq_true, if_false]
              have hsp : (Value.slice none 0 0).cells.zipIdx.foldl (fun (cs : Array Value) (p : Value × Nat) => cs.setIfInBounds (o + p.2) p.1) cs.toArray = (eX cs o [.slice none 0 0]).toArray := by
                have e0 : cs = cs.take o ++ ((cs.drop o).take 1) ++ cs.drop (o + 1) := by
                  rw [<- List.drop_drop, List.append_assoc, List.take_append_drop, List.take_append_drop]
                have := JE 1 o (.slice none 0 0) (cs.take o) ((cs.drop o).take 1) (cs.drop (o + 1)) (by rw [List.length_take]; omega) (by rw [List.length_take, List.length_drop]; omega) rfl; rw [<- e0] at this; rw [this]; unfold eX; rfl
              rw [hsp]; exact f1
            cases hb
        cases hb
    cases hb
  | [], p :: ps, us, L, L', cs, hb, _, _, _ => by simp [GD] at hb
  | i :: is, [], us, L, L', cs, hb, _, _, _ => by simp [GD] at hb
theorem zip_map {α β γ : Type} (f : α -> β) (k : α -> γ) : ∀ l : List α, (l.map f).zip (l.map k) = l.map fun a => (f a, k a)
  | [] => rfl
  | a :: l => by simp [zip_map f k l]
theorem aK.build {pl : List (Nat × Nat)} {parts : Array (Nat × Operand)} {ps : List PV} (dx : τ.den) (hT : wZ P T τ pl) (uK : lI fl (parts.toList.map (·.2)) = some ps := by rfl) (hb : GD pl (iO τ (pB τ)) (parts.toList.map (·.1)) ps = some (iO τ dx) := by rfl) : aK P fl σ (.build T parts) (.v τ dx) :=
  ⟨rfl, fun h S t hs _ => by
    obtain ⟨z, z1, z2, z3⟩ := hT.zer.zero; obtain ⟨y1, y2⟩ := mW h S τ; have hr : b6 h S ps ((parts.toList.map (·.2)).map (aB t)) := wI (fun x hx => hs x (by simpa [Op.operands] using hx)) uK; obtain ⟨cs', f1, f2, f3, f4⟩ := zG hb hr (oE y1) (JG y2); refine ⟨.agg cs'.toArray, ⟨by rw [hT.agg]; rfl, by simpa [Value.cells] using oD f2⟩, fun _ _ _ _ _ H => ?_⟩; show (bif (parts.toList.all fun p => (aB t p.2).cells.toList.all aT) && ((((P.info? T).bind (·.zero)).map fun z => z.cells.toList.all eN) == some true) then (aC P (Instr.build T (parts.map fun p => (p.1, aB t p.2)))).map fun v => (v, H) else none) = _
    have c1 : (parts.toList.all fun p => (aB t p.2).cells.toList.all aT) = true := by
      rw [List.map_map, List.all_map] at f3; exact f3
    have c2 : ((((P.info? T).bind (·.zero)).map fun z => z.cells.toList.all eN) == some true) = true := by
      rw [z1]
      have e : z.cells.toList.all eN = true := by rw [z2]; exact y2
      simp only [Option.map_some, e]; rfl
    have eZ := hT.run z (parts.map fun p => (p.1, aB t p.2)) cs'.toArray z1 (by
      rw [<- f1, Array.toList_map, <- zip_map, List.map_map]; congr 1
      rw [<- z2])
    rw [c1, c2, eZ]
    rfl⟩
end Go.Fs
namespace Go.Fs
variable {P : Program} {orc : FuncId -> List Value -> Heap -> Option (Value × Heap)} {aV : Option Nat} {h h' h0 h1 h2 : Heap} {S S' S0 : List Nat} {σ aJ kR : aG} {t t' : Tr} {ms : List Nat} {fl : VL} {ops : Array Oper} {n i mem : Nat} {l : List Oper} {K : VL -> aG -> Prop} {Q : Ex -> VL -> aG -> Prop}
  {d : Tmp} {ty : TypeId} {pos : String} {after : Array Edge} {op : Op} {v pv : PV} {g : Option (Nat × Bool)} {x y z : Operand} {T T' e : TypeId} {τ eP : Ty} {bs nw : List Nat} {segs : List (Nat × Nat × Nat)} {tail so : Bool} {w w' : Value} {c c' : Cell}
abbrev I (n : Int) : PV := .v (.int .i64) n
abbrev B (b : Bool) : PV := .v .bool b
abbrev D (p : Prop) [Decidable p] : PV := .v .bool (decide p)
abbrev St (s : ByteArray) : PV := .v .str s
abbrev cK : PV := .raw (.slice none 0 0)
theorem m0 {a : Value × Cell} {r : aG} : a ∈ a :: r := List.mem_cons_self
theorem m1 {a b : Value × Cell} {r : aG} : b ∈ a :: b :: r := List.mem_cons_of_mem _ m0
theorem m2 {a b c : Value × Cell} {r : aG} : c ∈ a :: b :: c :: r := List.mem_cons_of_mem _ m1
theorem m3 {a b c d : Value × Cell} {r : aG} : d ∈ a :: b :: c :: d :: r := List.mem_cons_of_mem _ m2
theorem cW {a b : Value × Cell} {r : aG} : (a :: b :: r).Perm (b :: a :: r) := List.Perm.swap b a r
theorem dF {a b c : Value × Cell} {r : aG} : (a :: b :: c :: r).Perm (c :: a :: b :: r) := ((List.Perm.swap c b r).cons a).trans (List.Perm.swap c a (b :: r))
theorem lX {a b c d : Value × Cell} {r : aG} : (a :: b :: c :: d :: r).Perm (d :: a :: b :: c :: r) := (dF.cons a).trans (List.Perm.swap d a (b :: c :: r))
theorem aK.ixD {xs : List τ.den} {j : Nat} (hx : b9 fl x = some (.v (.sl τ) xs)) (hy : b9 fl y = some (.v (.int .i64) ((j : Nat) : Int))) (d0 : τ.den) (hT : kB P T e τ) (hj : j < xs.length) : aK P fl σ (.indexAddr T x y) (.p τ (xs.getD j d0)) := by
  have := aK.ix (σ := σ) hx hy hT hj
  rwa [show xs[j] = xs.getD j d0 by simp [hj]] at this
def SK (b : Bool) (fl : VL) : VL -> Prop
  | [] => True
  | (k, v) :: r => lC fl k = some (.gd b v) /\ SK b fl r
theorem eK.there {b : Bool} {t : Tr} {fl : VL} (hs : eK h S t fl) (hb : b = true) : ∀ {nw : VL}, SK b fl nw -> eK h S t (nw ++ fl)
  | [], _ => hs
  | (k, v) :: r, hn => (eK.there hs hb hn.2).cons ((hs k _ hn.1 : aI h S (.gd b v) (t.get k)).1 hb)
theorem J.cg {j : Nat} {w r : Bool} {k : Tmp} (nw : VL) (hnw : SK (r == w) fl nw) (hs : (r == w) = true -> aK P (nw ++ fl) σ op v) (hk : J P orc ops n l ((d, .gd (r == w) v) :: fl) σ K) (hj : (ops[j]?).bind (·.dst) = some k := by rfl) (hr : lC fl k = some (.v .bool r) := by rfl) (hn : (Nat.blt d n && Nat.ble n 4000) = true := by rfl) :
    J P orc ops n (⟨some d, op, ty, pos, after, some (j, w)⟩ :: l) fl σ K := fun h0 G S0 t h ms fH => by
  obtain ⟨n1, n2⟩ := fits hn; have hw : bR ops t ⟨some d, op, ty, pos, after, some (j, w)⟩ = some (r == w) := dC fH.aH (by unfold dU; simp only [hj, hr])
  cases vB : (r == w) with
  | true =>
    obtain ⟨u, h1, h2⟩ := (hs vB).2 h _ t (fH.aH.there vB hnw).y6 fH.cells; refine mP.op (by rw [hw, vB]) (h2 _ _ _ _ _ h) (cE n1 t u) (hk h0 G S0 _ h ms ?_); rw [vB]
    exact fH.set (show aI _ _ (.gd true v) u from ⟨fun _ => h1, fun e => by cases e⟩) n2
  | false =>
    refine mP.skip (by rw [hw, vB]) (cE n1 t undef) (hk h0 G S0 _ h ms ?_); rw [vB]; exact fH.set (show aI _ _ (.gd false v) undef from ⟨fun e => (by cases e), fun _ => rfl⟩) n2
theorem J.rg {j : Nat} {w r : Bool} {k : Tmp} (nw : VL) (hnw : SK (r == w) fl nw) (hs : (r == w) = true -> dN P (nw ++ fl) σ op v) (hk : J P orc ops n l ((d, .gd (r == w) v) :: fl) σ K) (hj : (ops[j]?).bind (·.dst) = some k := by rfl) (hr : lC fl k = some (.v .bool r) := by rfl) (hn : (Nat.blt d n && Nat.ble n 4000) = true := by rfl) :
    J P orc ops n (⟨some d, op, ty, pos, after, some (j, w)⟩ :: l) fl σ K := fun h0 G S0 t h ms fH => by
  obtain ⟨n1, n2⟩ := fits hn; have hw : bR ops t ⟨some d, op, ty, pos, after, some (j, w)⟩ = some (r == w) := dC fH.aH (by unfold dU; simp only [hj, hr])
  cases vB : (r == w) with
  | true =>
    obtain ⟨u, h1, h2⟩ := (hs vB).2 h _ t (fH.aH.there vB hnw).y6 fH.cells; refine mP.op (by rw [hw, vB]) (h2 h (fun _ _ x => x) _ _ _ _ _) (cE n1 t u) (hk h0 G S0 _ h ms ?_); rw [vB]
    exact fH.set (show aI _ _ (.gd true v) u from ⟨fun _ => h1, fun e => by cases e⟩) n2
  | false =>
    refine mP.skip (by rw [hw, vB]) (cE n1 t undef) (hk h0 G S0 _ h ms ?_); rw [vB]; exact fH.set (show aI _ _ (.gd false v) undef from ⟨fun e => (by cases e), fun _ => rfl⟩) n2
theorem J.PF {j : Nat} {w r0 : Bool} {k : Tmp} {f : Operand} {args : Array Operand} {nX : Array TypeId} {F F' r : PV} {asl zY : List PV} (nw : VL) (hnw : SK (r0 == w) fl nw) (hf : b9 (nw ++ fl) f = some F) (ha : lI (nw ++ fl) args.toList = some asl) (cF : Co σ F F') (ca : rI σ asl zY) (hr : r.flat = true) (hc : (r0 == w) = true -> wE P orc F' zY r)
    (hk : J P orc ops n l ((d, .gd (r0 == w) r) :: fl) σ K) (hj : (ops[j]?).bind (·.dst) = some k := by rfl) (HK : lC fl k = some (.v .bool r0) := by rfl) (hn : (Nat.blt d n && Nat.ble n 4000) = true := by rfl) : J P orc ops n (⟨some d, .call { callee := .value f, args := args, argTypes := nX }, ty, pos, after, some (j, w)⟩ :: l) fl σ K := fun h0 G S0 t h ms fH => by
  obtain ⟨n1, n2⟩ := fits hn; have hw : bR ops t ⟨some d, .call { callee := .value f, args := args, argTypes := nX }, ty, pos, after, some (j, w)⟩ = some (r0 == w) := dC fH.aH (by unfold dU; simp only [hj, HK])
  cases vB : (r0 == w) with
  | true =>
    have L := fH.lc; have zX := fH.aH.there vB hnw; obtain ⟨PB, a, c, h1, h2⟩ := (hc vB).ev fH.ok L.sok (cF.ok L.cells L.sep (dP zX hf)) (ca.ok L.cells L.sep (pA zX ha)); refine mP.call (by rw [hw, vB]) rfl rfl h1 (h2.mono fun u h' hq => ?_); obtain ⟨_, q2, q3⟩ := hq; obtain rfl := q3 hr; refine ⟨_, cE n1 t u, hk h0 G S0 _ h' ms ?_⟩; rw [vB]
    exact fH.set (show aI _ _ (.gd true r) u from ⟨fun _ => (q2.flat hr).2 _ _, fun e => by cases e⟩) n2
  | false =>
    refine mP.skip (by rw [hw, vB]) (cE n1 t undef) (hk h0 G S0 _ h ms ?_); rw [vB]; exact fH.set (show aI _ _ (.gd false r) undef from ⟨fun e => (by cases e), fun _ => rfl⟩) n2
theorem aK.or {r s : Bool} (hz : b9 fl z = some (.v .bool r) := by rfl) (hx : b9 fl x = some (.v .bool true) := by rfl) (hy : b9 fl y = some (.gd (r == false) (.v .bool s)) := by rfl) : aK P fl σ (.pick z x y) (.v .bool (r || s)) := ⟨rfl, fun h S t hs _ => by
  have h1 := (hs z (by simp [Op.operands]) _ hz : aI h S (.v .bool r) _).bool; have h2 := (hs x (by simp [Op.operands]) _ hx : aI h S (.v .bool true) _).bool; have h3 : aI h S (.gd (r == false) (.v .bool s)) (aB t y) := hs y (by simp [Op.operands]) _ hy; refine ⟨.bool (r || s), aF.ofBool _, fun _ _ _ _ _ H => ?_⟩; show (match aB t z with | .bool true => some (aB t x, H) | .bool false => some (aB t y, H) | _ => none) = _; rw [h1, h2]
  cases r with
  | true => rfl
  | false =>
    have := (h3.1 rfl : aI h S (.v .bool s) _).bool
    rw [this]; rfl⟩
theorem aK.and {r s : Bool} (hz : b9 fl z = some (.v .bool r) := by rfl) (hy : b9 fl y = some (.v .bool false) := by rfl) (hx : b9 fl x = some (.gd (r == true) (.v .bool s)) := by rfl) : aK P fl σ (.pick z x y) (.v .bool (r && s)) := ⟨rfl, fun h S t hs _ => by
  have h1 := (hs z (by simp [Op.operands]) _ hz : aI h S (.v .bool r) _).bool; have h2 := (hs y (by simp [Op.operands]) _ hy : aI h S (.v .bool false) _).bool; have h3 : aI h S (.gd (r == true) (.v .bool s)) (aB t x) := hs x (by simp [Op.operands]) _ hx; refine ⟨.bool (r && s), aF.ofBool _, fun _ _ _ _ _ H => ?_⟩; show (match aB t z with | .bool true => some (aB t x, H) | .bool false => some (aB t y, H) | _ => none) = _; rw [h1, h2]
  cases r with
  | false => rfl
  | true =>
    have := (h3.1 rfl : aI h S (.v .bool s) _).bool
    rw [this]; rfl⟩
theorem J.go {b : Code} (hx : U P orc aV b n fl σ Q) : J P orc ops n [] fl σ fun fl σ => PA P orc aV n b Q .normal fl σ := J.nil hx
theorem VD.go {b : Code} (hx : U P orc aV b n fl σ Q) : VD P orc ops n [] i fl nw σ so bs mem tail fun fl σ => PA P orc aV n b Q .normal fl σ := VD.nil hx
def alT (flJ : VL) (σJ : aG) (Q : Ex -> VL -> aG -> Prop) : Ex -> VL -> aG -> Prop
  | .normal, fl, σ => SC fl flJ /\ σ = σJ
  | .exit i, fl, σ => Q (.exit i) fl σ
  | .ret, fl, σ => Q .ret fl σ
theorem U.join {a : Code} (flJ : VL) (σJ : aG) (ha : U P orc aV a n fl σ (alT flJ σJ Q)) (hb : Q .normal flJ σJ) : U P orc aV a n fl σ Q := fun h0 G S0 t h ms fH => (ha h0 G S0 t h ms fH).mono fun e fr h' hq => by
  obtain ⟨hn, eV, aJ, I', q⟩ := hq
  cases e with
  | normal =>
    obtain ⟨q1, rfl⟩ := q
    exact ⟨hn, flJ, aJ, I'.sub flJ (zC q1), hb⟩
  | exit i => exact ⟨hn, eV, aJ, I', q⟩
  | ret => exact ⟨hn, eV, aJ, I', q⟩
theorem aR.one {fn : Func} {r : ResultVar} {p q : PV} (hr : fn.results = #[r]) (h1 : v7 P fl σ r p) (he : p = q) : aR P fn q .ret fl σ := ⟨rfl, [p], by rw [hr]; exact .cons h1 .nil, he⟩
theorem aR.two {fn : Func} {r r' : ResultVar} {p p' q q' : PV} (hr : fn.results = #[r, r']) (h1 : v7 P fl σ r p) (h2 : v7 P fl σ r' p') (he : p = q) (lS : p' = q') : aR P fn (.mE [q, q']) .ret fl σ := ⟨rfl, [p, p'], by rw [hr]; exact .cons h1 (.cons h2 .nil), by rw [he, lS]; rfl⟩
theorem aR.three {fn : Func} {r r' r'' : ResultVar} {p p' p'' q q' q'' : PV} (hr : fn.results = #[r, r', r'']) (h1 : v7 P fl σ r p) (h2 : v7 P fl σ r' p') (h3 : v7 P fl σ r'' p'') (he : p = q) (lS : p' = q') (aoG : p'' = q'') : aR P fn (.mE [q, q', q'']) .ret fl σ := ⟨rfl, [p, p', p''], by rw [hr]; exact .cons h1 (.cons h2 (.cons h3 .nil)), by rw [he, lS, aoG]; rfl⟩
theorem dV {a b : τ.den} (h : a = b) : PV.v τ a = PV.v τ b := by rw [h]
theorem qA {k : Nat} {a b : τ.den} (hk : lC fl k = some (.v τ a)) (h : a = b) : lC fl k = some (.v τ b) := by rw [hk, h]
theorem aZ {i : Nat} {p : PV} (hi : lC fl i = some p := by rfl) : v7 P fl σ (.tmp i) p := .tmp hi .same
theorem evC {i : Nat} {p p' : PV} (hc : Co σ p p') (hi : lC fl i = some p := by rfl) : v7 P fl σ (.tmp i) p' := .tmp hi hc
theorem VF.law {f : FuncId} {args : List PV} {us : List Value} (hv : VF P orc f args (.v .bool true)) (bD : adI h) (hr : b6 h [] args us) : oS P orc f us h fun r h' => r = .bool true /\ h' = h :=
  (hv h [] us bD.1 ⟨fun b hb => (by cases hb), bD.2⟩ hr).mono fun u h' ⟨_, h2, h3⟩ => ⟨aF.bool h2, h3 rfl⟩
end Go.Fs
namespace Go.Fs
variable {P : Program} {orc : FuncId -> List Value -> Heap -> Option (Value × Heap)} {aV : Option Nat} {h h' h0 h1 h2 : Heap} {S S' S0 : List Nat} {σ aJ kR γ gD : aG} {t t' : Tr} {ms : List Nat} {fl : VL} {ops : Array Oper} {n i mem : Nat} {l : List Oper} {K : VL -> aG -> Prop} {Q : Ex -> VL -> aG -> Prop}
  {d : Tmp} {ty : TypeId} {pos : String} {after : Array Edge} {op : Op} {v pv : PV} {g : Option (Nat × Bool)} {x y z : Operand} {T T' e : TypeId} {τ eP : Ty} {bs nw : List Nat} {segs : List (Nat × Nat × Nat)} {tail so : Bool} {w w' : Value} {c c' : Cell}
section
variable (P orc)
def fX (f : FuncId) (args : List PV) (γ : aG) (Q : PV -> aG -> Prop) : Prop := ∀ (h : Heap) (S : List Nat) (us : List Value), mU h -> P8 h S -> (∀ c ∈ γ, bA h (own γ ++ S) c.1 c.2) -> (own γ).Nodup -> (∀ b ∈ own γ, b ∉ S) -> b6 h (own γ ++ S) args us ->
  oS P orc f us h fun u h' => ∃ r gD, Q r gD /\ Made S h h' γ gD /\ aI h' (own gD ++ S) r u
def HT (F : PV) (args : List PV) (γ : aG) (Q : PV -> aG -> Prop) : Prop := ∃ f a c, F = .gJ f a c /\ fX P orc f (a ++ args ++ c) γ Q
end
theorem fX.call {f : FuncId} {args : List PV} {Q : PV -> aG -> Prop} (hf : fX P orc f args γ Q) : HT P orc (.gJ f [] []) args γ Q := ⟨f, [], [], rfl, by simpa using hf⟩
theorem fX.gJ {f : FuncId} {a args c : List PV} {Q : PV -> aG -> Prop} (hf : fX P orc f (a ++ (args ++ c)) γ Q) : HT P orc (.gJ f a c) args γ Q := ⟨f, a, c, rfl, by rw [List.append_assoc]; exact hf⟩
theorem cB : own (γ ++ σ) = own γ ++ own σ := List.flatMap_append
theorem Lc.akA (L : Lc S0 h (γ ++ σ) t fl) : P8 h (own σ ++ S0) :=
  have hm : ∀ b, b ∈ own σ ++ S0 -> b ∈ own (γ ++ σ) ++ S0 := fun b hb => by
    rcases List.mem_append.1 hb with hb | hb
    . exact List.mem_append_left _ (by rw [cB]; exact List.mem_append_right _ hb)
    exact List.mem_append_right _ hb
  ⟨fun b hb => L.lt b (hm b hb), L.aH.1.less hm⟩
theorem Made.app (L : Lc S0 h (γ ++ σ) t fl) (m : Made (own σ ++ S0) h h' γ gD) : Made S0 h h' (γ ++ σ) (gD ++ σ) := by
  have nE := L.apart; rw [cB] at nE; obtain ⟨_, y7, sS⟩ := List.nodup_append.1 nE
  have ha : cD h h' (own (γ ++ σ)) := m.gC.MH fun b hb => by rw [cB]; exact List.mem_append_left _ hb
  have n6 : ∀ b ∈ own (gD ++ σ), b ∈ own (γ ++ σ) \/ h.next <= b := fun b hb => by
    rw [cB] at hb ⊢; rcases List.mem_append.1 hb with hb | hb
    . rcases m.new b hb with h1 | h1
      . exact .inl (List.mem_append_left _ h1)
      exact .inr h1
    exact .inl (List.mem_append_right _ hb)
  have hN : cH h (own (γ ++ σ) ++ S0) h' (own (gD ++ σ) ++ S0) := ha.goes L.ok (fun b hb => List.mem_append_left _ hb) fun b hb => by
    rcases List.mem_append.1 hb with hb | hb
    . rcases n6 b hb with h1 | h1
      . exact .inl (List.mem_append_left _ h1)
      exact .inr h1
    exact .inl (List.mem_append_right _ hb)
  refine ⟨ha, n6, ?_, fun d hd => ?_⟩
  . rw [cB]; refine List.nodup_append.2 ⟨m.apart, y7, fun a h1 b h2 he => ?_⟩; subst he; rcases m.new a h1 with h3 | h3
    . exact sS a h3 a h2 rfl
    have := L.lt a (List.mem_append_left _ (by rw [cB]; exact List.mem_append_right _ h2)); omega
  rcases List.mem_append.1 hd with hd | hd
  . have := m.cells d hd; rw [<- List.append_assoc, <- cB] at this; exact this
  have x9 : ∀ b ∈ cI d.1, b ∈ own σ := fun b hb => List.mem_flatMap.2 ⟨d, hd, hb⟩; refine (L.cells d (List.mem_append_right _ hd)).keep (fun b hb => ?_) hN fun b hb => List.mem_append_left _ (by rw [cB]; exact List.mem_append_right _ (x9 b hb)); exact m.gC.get b (L.lt b (List.mem_append_left _ (by rw [cB]; exact List.mem_append_right _ (x9 b hb)))) fun hm => sS b hm b (x9 b hb) rfl
theorem J.mJ {f : Operand} {args : Array Operand} {nX : Array TypeId} {F : PV} {asl : List PV} {Q : PV -> aG -> Prop} (γ : aG) (PG : γ ++ σ = kR) (hf : b9 fl f = some F) (ha : lI fl args.toList = some asl) (hc : HT P orc F asl γ Q) (hk : ∀ r gD, Q r gD -> J P orc ops n l ((d, r) :: fl) (gD ++ σ) K)
    (hw : dU ops fl g = some true := by rfl) (hn : (Nat.blt d n && Nat.ble n 4000) = true := by rfl) : J P orc ops n (⟨some d, .call { callee := .value f, args := args, argTypes := nX }, ty, pos, after, g⟩ :: l) fl kR K := fun h0 G S0 t h ms fH => by
  subst PG; obtain ⟨n1, n2⟩ := fits hn; have L := fH.lc; have nE := L.apart; rw [cB] at nE; obtain ⟨CU, y7, sS⟩ := List.nodup_append.1 nE; obtain ⟨PB, a, c, rfl, hv⟩ := hc; obtain ⟨va, vc, h1, h2, h3⟩ := (dP fH.aH hf : aI h _ (.gJ PB a c) (aB t f)); have lU := (h2.append (pA fH.aH ha)).append h3; rw [cB, List.append_assoc] at lU
  have bO : ∀ c ∈ γ, bA h (own γ ++ (own σ ++ S0)) c.1 c.2 := fun c hc => by
    have := L.cells c (List.mem_append_left _ hc)
    rwa [cB, List.append_assoc] at this
  refine mP.call (dC fH.aH hw) rfl rfl h1 ((hv h (own σ ++ S0) _ fH.ok ⟨fun b hb => L.lt b ?_, L.aH.1.less fun b hb => ?_⟩ bO CU (fun b hb hm => ?_) lU).mono fun u h' hq => ?_)
  . rcases List.mem_append.1 hb with hb | hb
    . exact List.mem_append_left _ (by rw [cB]; exact List.mem_append_right _ hb)
    exact List.mem_append_right _ hb
  . rcases List.mem_append.1 hb with hb | hb
    . exact List.mem_append_left _ (by rw [cB]; exact List.mem_append_right _ hb)
    exact List.mem_append_right _ hb
  . rcases List.mem_append.1 hm with hm | hm
    . exact sS b hb b hm rfl
    exact L.sep b (by rw [cB]; exact List.mem_append_left _ hb) hm
  obtain ⟨r, gD, q1, q2, q3⟩ := hq; refine ⟨_, cE n1 t u, hk r gD q1 h0 G S0 _ h' ms ((fH.made (Made.app L q2)).set ?_ n2)⟩; rw [cB, List.append_assoc]; exact q3
def Cell.flat : Cell -> Bool
  | .row _ τ _ => τ.iC
  | .var cs => cs.all PV.kQ
  | .cap _ _ τ _ => τ.iC
  | .mp κ ν _ => κ.iC && ν.iC
  | .it _ _ => true
  | .loop _ _ _ _ _ _ _ => false
  | .eE _ _ _ => false
theorem aF.JS {τ : Ty} {u : Value} {x : τ.den} (hf : τ.iC = true) (hx : aF h S τ u x) : aF h' S' τ u x := hx.uX (sA hf hx)
theorem cV.JS {rs : List Value} {xs : List τ.den} (hf : τ.iC = true) (he : cV h S τ rs xs) : cV h' S' τ rs xs :=
  ⟨he.1, fun i hi => cR.uX (by
    have h1 := qX (he.2 i hi) hf
    rw [h1]; exact uZ τ _) (he.2 i hi)⟩
theorem bA.flat {w : Value} : ∀ {c : Cell}, c.flat = true -> bA h S w c -> (∀ b ∈ cI w, h'.get b = h.get b /\ b ∈ S') -> bA h' S' w c
  | .row e τ xs, hf, hc, hg => by
    rcases hc with hc | ⟨b, rs, m, rfl, h2, h3, h4⟩
    . exact .inl hc
    obtain ⟨g1, g2⟩ := hg b (by simp [cI])
    exact .inr ⟨b, rs, m, rfl, g2, by rw [g1]; exact h3, h4.JS hf⟩
  | .var cs, hf, ⟨b, e, vs, h1, h2, h3, h4, h5⟩, hg => by
    subst h1; obtain ⟨g1, g2⟩ := hg b (by simp [cI])
    exact ⟨b, e, vs, rfl, g2, by rw [g1]; exact h3, (b6.kQ hf h4).2 _ _, h5⟩
  | .cap e k τ xs, hf, ⟨b, rs, m, h1, h2, h3, h4, h5, h6⟩, hg => by
    subst h1; obtain ⟨g1, g2⟩ := hg b (by simp [cI])
    exact ⟨b, rs, m, rfl, g2, by rw [g1]; exact h3, h4, h5, h6.JS hf⟩
  | .mp κ ν kvs, hf, ⟨b, es, c, h1, h2, h3, h4, h5⟩, hg => by
    subst h1; obtain ⟨g1, g2⟩ := hg b (by simp [cI]); obtain ⟨f1, f2⟩ := aY (show (κ.iC && ν.iC) = true from hf)
    exact ⟨b, es, c, rfl, g2, by rw [g1]; exact h3, h4, fun i hi hj => ⟨(h5 i hi hj).1.JS f1, (h5 i hi hj).2.JS f2⟩⟩
  | .it s pos, hf, ⟨b, h1, h2, h3⟩, hg => by
    subst h1; obtain ⟨g1, g2⟩ := hg b (by simp [cI])
    exact ⟨b, rfl, g2, by rw [g1]; exact h3⟩
  | .loop st jump n fl ps assign body, hf, _, hg => by cases hf
  | .eE e n cs, hf, _, hg => by cases hf
def alU (P : Program) (fn : Func) (γ : aG) (Q : PV -> aG -> Prop) : Ex -> VL -> aG -> Prop := fun e fl σ => e.goes = true /\ ∃ ps, AA P fl [] fn.results.toList ps /\ Q (GA ps) σ /\ ((∃ w e k τ xs, GA ps = .raw w /\ (w, Cell.cap e k τ xs) ∈ σ) \/ (own σ = own γ /\ ∀ c ∈ σ, c.2.flat = true) \/ (∃ w e τ xs, GA ps = .raw w /\ γ = [] /\ σ = [(w, Cell.row e τ xs)]) \/ (γ = [] /\ ∀ (h : Heap) (S : List Nat) (u : Value), aI h S (GA ps) u -> (∀ c ∈ σ, bA h S c.1 c.2) -> af u = true -> own σ = [] /\ ∀ (h' : Heap) (S' : List Nat), ∀ c ∈ σ, bA h' S' c.1 c.2))
theorem fX.enter {f : FuncId} {args : List PV} {fn : Func} {c : Code} {Q : PV -> aG -> Prop} (lB : P.funcs[f]? = some fn) (hc : fn.body = some c) (ho : ∀ us h, orc f us h = none) (hn : (Nat.blt 4000 fn.ntmps || Nat.blt fn.ntmps args.length) = false)
    (hb : U P orc none c fn.ntmps (q8 0 args) γ (alU P fn γ Q)) : fX P orc f args γ Q := fun h S us bD hS bO kP tV ha => by
  have hl := ha.len
  have pO : Nat.blt 4000 fn.ntmps = false /\ Nat.blt fn.ntmps args.length = false := by simpa using hn
  have n3 := gR pO.1; have n4 := gR pO.2; have oL : b6 (entry h) (own γ ++ S) args us := b6.nx (h := h) (h' := entry h) (fun _ _ a b => ⟨a, b⟩) ha
  have I0 : Iv (entry h) (own γ) S (entry h) γ (iS .leaf 0 us) [] (q8 0 args) := {
    ok := bD
    s0 := hS.1
    gC := cD.refl _ _
    cells := fun c hc => (bO c hc).keep (fun _ _ => rfl) (fun _ _ a b => ⟨a, b⟩) fun b hb => List.mem_append_left _ (List.mem_flatMap.2 ⟨c, hc, hb⟩)
    new := fun b hb => ⟨.inl hb, tV b hb⟩
    apart := kP
    mark := fun d hd => by cases hd
    marks := List.nodup_nil
    aH := oF (hS.2.ent bO) oL (by omega) }
  refine oS.enter lB hc (ho us h) (by rw [hl]; exact hn) ((hb (entry h) (own γ) S _ (entry h) [] I0).mono fun e fr h1 hq => ?_); obtain ⟨_, eV, aJ, fM, he, ps, uK, hQ, hkd⟩ := hq; obtain ⟨h2, d1, d2, d3⟩ := sB fM.marks fun d hd => (fM.mark d hd).2
  have eW : ∀ b o, h1.get b = some o -> o ≠ .iX -> h2.get b = some o := fun b o hg cL => by
    rw [d3 b (fun hm => cL (by have := (fM.mark b hm).2; rw [hg] at this; exact Option.some.inj this))]; exact hg
  have a2 : cD (entry h) h2 (own γ) := fM.gC.trans d2 fun i hi => .inr (fM.mark i hi).1; have L1 := fM.lc; have Lz : Lc (own aJ ++ S) h1 [] fr.t eV := ⟨L1.ok, L1.lt, (fun c hc => by cases hc), (fun b hb => by cases hb), List.nodup_nil, L1.aH⟩; obtain ⟨us', e1, e2⟩ := uK.ok Lz eW (fun b _ hg cL pZ => ⟨eW b _ hg cL, pZ⟩); have n7 := CR e2
  have n8 : ∀ c ∈ aJ, ∀ b ∈ cI c.1, h2.get b = h1.get b := fun c hc b hb => by
    obtain ⟨o, hg, cL⟩ := (fM.cells c hc).isObj b hb; rw [eW b _ hg cL, hg]
  have pD : ∀ c ∈ aJ, bA h2 (own aJ ++ S) c.1 c.2 := fun c hc => by
    have hx := fM.cells c hc; have hN : p9 h1 (own aJ ++ S) h2 (own aJ ++ S) := fun b _ hg cL pZ => ⟨eW b _ hg cL, pZ⟩; have hgb := n8 c hc; obtain ⟨w, cc⟩ := c
    cases cc with
    | row e τ xs =>
      rcases hx with hx | ⟨b, rs, m, h3, h4, h5, h6⟩
      . exact .inl hx
      exact .inr ⟨b, rs, m, h3, h4, eW b _ h5 (by simp), h6.1, fun i hi => (h6.2 i hi).iV hN⟩
    | var cs =>
      obtain ⟨b, e, vs, h3, h4, h5, h6, h7⟩ := hx
      exact ⟨b, e, vs, h3, h4, eW b _ h5 (by simp), h6.iV hN, h7⟩
    | cap e k τ xs =>
      obtain ⟨b, rs, m, h3, h4, h5, h6, h7, h8⟩ := hx
      exact ⟨b, rs, m, h3, h4, eW b _ h5 (by simp), h6, h7, h8.1, fun i hi => (h8.2 i hi).iV hN⟩
    | mp κ ν kvs =>
      obtain ⟨b, es, c, h3, h4, h5, h6, h7⟩ := hx
      exact ⟨b, es, c, h3, h4, eW b _ h5 (by simp), h6, fun i hi hj => ⟨⟨(h7 i hi hj).1.1, (h7 i hi hj).1.2.iV hN⟩, ⟨(h7 i hi hj).2.1, (h7 i hi hj).2.2.iV hN⟩⟩⟩
    | it s pos =>
      obtain ⟨b, h3, h4, h5⟩ := hx
      exact ⟨b, h3, h4, eW b _ h5 (by simp)⟩
    | loop st jump n fl ps assign body =>
      obtain ⟨l, tmps, d, h3, h4, h5, h6⟩ := hx
      exact ⟨l, tmps, d, h3, h4, eW l _ h5 (by simp), h6.iV hN⟩
    | eE e n cs =>
      rcases hx with hx | ⟨b, rs, m, h3, h4, h5, h6, h7⟩
      . exact .inl hx
      exact .inr ⟨b, rs, m, h3, h4, eW b _ h5 (by simp), h6.iV hN, h7⟩
  have B7 : ∀ b ∈ own aJ, b ∈ own γ \/ h.next <= b := fun b hb => (fM.new b hb).1; refine ⟨he, h2, us', d1, e1, ?_⟩; unfold leftOf
  cases nJ : (af (iA us') && Nat.ble h.next h2.low) with
  | true =>
    obtain ⟨vC, dK⟩ := aY nJ; have dK := dY dK; rcases hkd with ⟨w, e, k, τ, xs, LC, B8⟩ | ⟨JJ, ho2⟩ | ⟨w, e, τ, xs, LC, B8, CM⟩ | ⟨hg0, aoH⟩
    . exfalso; rw [LC] at n7; have CM : iA us' = w := n7; obtain ⟨b, rs, _, h3, _⟩ := fM.cells _ B8; have h3' : w = .slice (some ⟨b, 0, none⟩) xs.length 0 := h3; rw [CM, h3'] at vC; cases hx : xs.length <;> rw [hx] at vC <;> cases vC
    . have gH : ∀ b, b < h.next -> h2.get b = h.get b := fun b hb => by
        rcases a2.chg b hb with h3 | h3
        . exact h3
        omega
      refine ⟨_, aJ, hQ, ⟨cD.refl _ _, fun b hb => .inl (by rw [<- JJ]; exact hb), by rw [JJ]; exact kP, fun c hc => ?_⟩, n7.EV vC⟩; refine (pD c hc).flat (ho2 c hc) fun b hb => ?_; have x9 : b ∈ own aJ := List.mem_flatMap.2 ⟨c, hc, hb⟩; have H7 : b < h.next := wD bO bD b (by rw [<- JJ]; exact x9); exact ⟨(gH b H7).symm, List.mem_append_left _ x9⟩
    . subst B8 CM; rw [LC] at n7; have hw4 : iA us' = w := n7; rcases fM.cells _ List.mem_cons_self with ⟨RN, pO⟩ | ⟨b, rs, m, h3, _⟩
      . have akB : w = .slice none 0 0 := RN; refine ⟨_, _, hQ, ⟨cD.refl _ _, fun b hb => ?_, ?_, fun c hc => ?_⟩, ?_⟩
        . rw [akB] at hb; cases hb
        . rw [akB]; exact List.nodup_nil
        . rw [List.mem_singleton.1 hc]; exact .inl ⟨RN, pO⟩
        rw [LC]; exact hw4
      exfalso; have h3' : w = .slice (some ⟨b, 0, none⟩) xs.length 0 := h3; rw [hw4, h3'] at vC; cases hx : xs.length <;> rw [hx] at vC <;> cases vC
    obtain ⟨z1, z2⟩ := aoH h2 (own aJ ++ S) _ n7 pD vC; refine ⟨_, aJ, hQ, ⟨cD.refl _ _, fun b hb => ?_, ?_, fun c hc => z2 _ _ c hc⟩, n7.EV vC⟩
    . rw [z1] at hb; cases hb
    rw [z1]; exact List.nodup_nil
  | false =>
    refine ⟨_, aJ, hQ, ⟨⟨a2.next, a2.get, fun x => a2.ok x, fun e h3 h4 h5 => Nat.le_min.2 ⟨h3, a2.low e (Nat.le_trans h4 (Nat.le_refl _)) h4 h5⟩, fun b hb => ?_, Nat.min_le_left _ _⟩, B7, fM.apart, fun c hc => (pD c hc).keep (fun _ _ => rfl) (fun _ _ a b => ⟨a, b⟩) fun b hb => List.mem_append_left _ (List.mem_flatMap.2 ⟨c, hc, hb⟩)⟩, aI.nx (h := h2) (h' := { next := h2.next, low := min h.low h2.low, aA := h2.aA }) (fun _ _ a b => ⟨a, b⟩) n7⟩; rcases a2.chg b hb with h3 | h3
    . exact .inl h3
    exact .inr (Nat.le_trans (Nat.min_le_right _ _) h3)
end Go.Fs
