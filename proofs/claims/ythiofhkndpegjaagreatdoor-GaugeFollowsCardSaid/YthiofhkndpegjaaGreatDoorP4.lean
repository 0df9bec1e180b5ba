/- Parts of the proof: an evaluator of the model, what it is sound for, and contracts of functions. No condition. -/
import Derived.Test.YthiofhkndpegjaaGreatDoorP3
set_option linter.all false
namespace Go.Fs
variable {P : Program} {orc : FuncId -> List Value -> U -> Option (Value × U)} {aY : Option Nat} {h h' h0 h1 h2 : U} {S S' S0 B G : List Nat} {σ σ' nW : aR} {t t' : Tr} {ms : List Nat} {fl : VL} {ops : Array Oper} {n i mem : Nat} {l : List Oper} {K : VL -> aR -> Prop} {Q : Ex -> VL -> aR -> Prop}
  {d : Tmp} {ty : TypeId} {pos : String} {after : Array Edge} {op : Op} {v pv : PV} {g : Option (Nat × Bool)} {x y z : Operand} {T T' e : TypeId} {τ dC : Ty} {bs nw : List Nat} {segs : List (Nat × Nat × Nat)} {tail so : Bool} {w w' : Value} {c c' : Cell}
theorem cO : own ((w, c) :: σ) = dX w ++ own σ := rfl
theorem Made.head (L : Lc S0 h ((w, c) :: σ) t fl) (ha : cI h h' (dX w)) (hn : ∀ b ∈ dX w', b ∈ dX w \/ h.next <= b) (hd : (dX w').Nodup) (hc : dA h (own ((w, c) :: σ) ++ S0) h' (own ((w', c') :: σ) ++ S0) -> cU h' (own ((w', c') :: σ) ++ S0) w' c') : Made S0 h h' ((w, c) :: σ) ((w', c') :: σ) := by
  have pG := L.apart; rw [cO] at pG; obtain ⟨aa6, TP, DO⟩ := List.nodup_append.1 pG
  have pY : cI h h' (own ((w, c) :: σ)) := ha.aa4 fun b hb => by rw [cO]; exact List.mem_append_left _ hb
  have jB : ∀ b ∈ own ((w', c') :: σ), b ∈ own ((w, c) :: σ) \/ h.next <= b := fun b hb => by
    rw [cO] at hb ⊢; rcases List.mem_append.1 hb with hb | hb
    . rcases hn b hb with h1 | h1
      . exact .inl (List.mem_append_left _ h1)
      exact .inr h1
    exact .inl (List.mem_append_right _ hb)
  have hN : dA h (own ((w, c) :: σ) ++ S0) h' (own ((w', c') :: σ) ++ S0) := pY.goes L.ok (fun b hb => List.mem_append_left _ hb) fun b hb => by
    rcases List.mem_append.1 hb with hb | hb
    . rcases jB b hb with h1 | h1
      . exact .inl (List.mem_append_left _ h1)
      exact .inr h1
    exact .inl (List.mem_append_right _ hb)
  refine ⟨pY, jB, ?_, fun d hd => ?_⟩
  . rw [cO]; refine List.nodup_append.2 ⟨hd, TP, fun a h1 b h2 he => ?_⟩; subst he; rcases hn a h1 with h3 | h3
    . exact DO a h3 a h2 rfl
    have := L.lt a (List.mem_append_left _ (by rw [cO]; exact List.mem_append_right _ h2)); omega
  rcases List.mem_cons.1 hd with rfl | hd
  . exact hc hN
  refine (L.cells d (List.mem_cons_of_mem _ hd)).aV (fun b hb => ?_) hN fun b hb => List.mem_append_left _ (by rw [cO]; exact List.mem_append_right _ (List.mem_flatMap.2 ⟨d, hd, hb⟩)); have ID : b ∈ own σ := List.mem_flatMap.2 ⟨d, hd, hb⟩; exact ha.get b (L.lt b (List.mem_append_left _ (by rw [cO]; exact List.mem_append_right _ ID))) fun hm => DO b hm b ID rfl
theorem Made.cons (L : Lc S0 h σ t fl) (ha : cI h h' []) (hn : ∀ b ∈ dX w', h.next <= b) (hd : (dX w').Nodup) (hc : dA h (own σ ++ S0) h' (own ((w', c') :: σ) ++ S0) -> cU h' (own ((w', c') :: σ) ++ S0) w' c') : Made S0 h h' σ ((w', c') :: σ) := by
  have pY : cI h h' (own σ) := ha.aa4 fun b hb => by cases hb
  have jB : ∀ b ∈ own ((w', c') :: σ), b ∈ own σ \/ h.next <= b := fun b hb => by
    rw [cO] at hb; rcases List.mem_append.1 hb with hb | hb
    . exact .inr (hn b hb)
    exact .inl hb
  have hN : dA h (own σ ++ S0) h' (own ((w', c') :: σ) ++ S0) := ha.goes L.ok (fun b hb => by cases hb) fun b hb => by
    rcases List.mem_append.1 hb with hb | hb
    . rcases jB b hb with h1 | h1
      . exact .inl (List.mem_append_left _ h1)
      exact .inr h1
    exact .inl (List.mem_append_right _ hb)
  refine ⟨pY, jB, ?_, fun d hd => ?_⟩
  . rw [cO]; refine List.nodup_append.2 ⟨hd, L.apart, fun a h1 b h2 he => ?_⟩; subst he; have := hn a h1; have := L.lt a (List.mem_append_left _ h2); omega
  rcases List.mem_cons.1 hd with rfl | hd
  . exact hc hN
  exact (L.cells d hd).aV (fun b hb => ha.get b (L.lt b (List.mem_append_left _ (List.mem_flatMap.2 ⟨d, hd, hb⟩))) (by simp)) hN fun b hb => List.mem_append_left _ (by rw [cO]; exact List.mem_append_right _ (List.mem_flatMap.2 ⟨d, hd, hb⟩))
theorem Made.same (L : Lc S0 h σ t fl) (ha : cI h h' []) : Made S0 h h' σ σ := by
  have hN : dA h (own σ ++ S0) h' (own σ ++ S0) := ha.goes L.ok (fun b hb => by cases hb) fun b hb => .inl hb; exact ⟨ha.aa4 (fun b hb => by cases hb), fun b hb => .inl hb, L.apart, fun c hc => (L.cells c hc).aV (fun b hb => ha.get b (L.lt b (List.mem_append_left _ (List.mem_flatMap.2 ⟨c, hc, hb⟩))) (by simp)) hN fun b hb => List.mem_append_left _ (List.mem_flatMap.2 ⟨c, hc, hb⟩)⟩
theorem abY (hT : fO P T e τ) (FM : fO P T' e τ) {u : Value} {news : List Value} {xs ys : List τ.den} (bZ : nK h) (hg : cU h S w (.row e τ xs)) 
    (pG : ∀ i z, i.size = τ.size -> z.cells.toList.all eD = true -> gB i z (isInt (.slice e)) u h = some (ys.length, news)) (hy : bM h S τ news ys) (kJ : 0 < ys.length) (dR : xs.length + ys.length <= 1000000) :
    ∃ h' rs, fM P #[T, T'] w u h = some (.slice (some ⟨h.next, 0, none⟩) (xs.length + ys.length) 0, h') /\ cI h h' (dX w) /\ h'.get h.next = some (.row e rs true true) /\ (∀ S', dA h S h' S' -> bM h' S' τ rs (xs ++ ys)) := by
  obtain ⟨i, z, mJ, jQ, IJ, vD, AQ, BJ, IK⟩ := hT.sl.info; have lF : news.all aN = true := hy.kC; have uV : news.length = ys.length * τ.size := hy.1
  have zW : (xs.length + ys.length) * i.bytes <= 274877906944 := by
    have := Nat.mul_le_mul dR vD; omega
  unfold fM; simp only [List.getElem?_toArray, List.getElem?_cons_zero, List.getElem?_cons_succ, hT.sl.sl, FM.sl.sl, mJ, AQ, pG i z jQ IK, jQ]
  have hc : (Nat.blt 0 τ.size && Nat.blt 0 i.bytes && Nat.beq news.length (ys.length * τ.size) && news.all aN && Nat.beq z.cells.size τ.size) = true := by
    have e1 : Nat.blt 0 τ.size = true := by show Nat.ble 1 τ.size = true; rw [Nat.ble_eq]; exact hT.sl.pos
    have e2 : Nat.blt 0 i.bytes = true := by show Nat.ble 1 i.bytes = true; rw [Nat.ble_eq]; exact IJ
    rw [e1, e2, uV, Nat.beq_refl, lF, BJ, Nat.beq_refl]; rfl
  rw [hc]; simp only [cond_true]; have e0 : Nat.beq ys.length 0 = false := eE (by omega); rcases hg with ⟨rfl, rfl⟩ | ⟨b0, rs, m, rfl, jX, xN, FN⟩
  . refine ⟨h.push (.row e news true true), news, ?_, cI.push h _ _, by rw [U.bQ, if_pos rfl], fun S' hN => by rw [List.nil_append]; exact hy.nx hN⟩; unfold o7
    have e2 : Nat.ble (ys.length * i.bytes) 274877906944 = true := by rw [Nat.ble_eq]; simpa using zW
    simp only [e0, cond_false, e2, cond_true, grown, List.length_nil, Nat.zero_add]
  have qC := FN.1; have AN : 0 < ys.length * τ.size := Nat.mul_pos kJ hT.sl.pos; have ZU : (xs.length + ys.length) * τ.size = xs.length * τ.size + ys.length * τ.size := Nat.add_mul _ _ _
  have e1 : (Nat.beq ys.length 0 && Nat.beq 0 1) = false := by rw [e0]; rfl
  have e2 : Nat.beq e e = true := Nat.beq_refl _
  have e3 : Nat.ble ((xs.length + ys.length) * i.bytes) 274877906944 = true := by rw [Nat.ble_eq]; exact zW
  have e4 : Nat.ble (0 + xs.length * i.size) rs.length = true := by rw [Nat.ble_eq, jQ]; omega
  have e5 : Nat.ble (0 + (xs.length + ys.length) * i.size) rs.length = false := by
    cases hx : Nat.ble (0 + (xs.length + ys.length) * i.size) rs.length with
    | false => rfl
    | true => have := fY hx; rw [jQ] at this; omega
  have e6 : Nat.beq (xs.length * i.size) rs.length = true := by rw [jQ, qC]; exact Nat.beq_refl _
  have e7 : Nat.beq 0 1 = false := rfl; have e8 : Nat.beq 0 0 = true := rfl; have alX := bZ b0 _ xN; have pX : dX (.slice (some ⟨b0, 0, none⟩) xs.length 0) = [b0] := rfl
  cases m with
  | true =>
    refine ⟨(h.drop b0).push (.row e (rs ++ news) true true), rs ++ news, ?_, (cI.drop (B := dX _) (by rw [pX]; simp)).trans (cI.push (h.drop b0) _ []) (fun i hi => by cases hi), ?_, fun S' hN => (FN.append hy).nx hN⟩
    . unfold o7; simp only [xN, e1, cond_false, e2, e3, e4, Bool.and_self, cond_true, e7, e8, e5, Bool.not_true, e6, grown, Bool.true_and, Bool.and_false]; rfl
    have : (h.drop b0).next = h.next := rfl
    rw [U.bQ, if_pos this.symm]
  | false =>
    refine ⟨h.push (.row e (rs ++ news) true true), rs ++ news, ?_, cI.push h _ _, by rw [U.bQ, if_pos rfl], fun S' hN => (FN.append hy).nx hN⟩; unfold o7
    have e9 : (rs.drop 0).take (xs.length * i.size) = rs := by rw [List.drop_zero, jQ, <- qC, List.take_length]
    simp only [xN, e1, cond_false, e2, e3, e4, Bool.and_self, cond_true, e7, e8, e5, Bool.not_false, grown, Bool.true_and, Bool.and_false, e9]
theorem XI (hT : fO P T e τ) (FM : fO P T' e τ) {u : Value} {xs : List τ.den} (hg : cU h S w (.row e τ xs)) (hw : k9 h S τ u []) (dR : xs.length <= 1000000) : fM P #[T, T'] w u h = some (w, h) := by
  obtain ⟨i, z, mJ, jQ, IJ, vD, AQ, BJ, IK⟩ := hT.sl.info
  have pG : gB i z (isInt (.slice e)) u h = some (0, []) := by
    rcases hw with ⟨rfl, _⟩ | ⟨b, o, mk, rfl, _⟩
    . simp [gB, isInt, mF, cellsOf]
    simp only [gB, isInt, cond_false, mF, cellsOf, List.length_nil]; have e1 : Nat.ble 0 0 = true := rfl; simp [e1, cond_true, Nat.zero_mul]
  unfold fM; simp only [List.getElem?_toArray, List.getElem?_cons_zero, List.getElem?_cons_succ, hT.sl.sl, FM.sl.sl, mJ, AQ, pG, jQ]
  have hc : (Nat.blt 0 τ.size && Nat.blt 0 i.bytes && Nat.beq ([] : List Value).length (0 * τ.size) && ([] : List Value).all aN && Nat.beq z.cells.size τ.size) = true := by
    have e1 : Nat.blt 0 τ.size = true := by show Nat.ble 1 τ.size = true; rw [Nat.ble_eq]; exact hT.sl.pos
    have e2 : Nat.blt 0 i.bytes = true := by show Nat.ble 1 i.bytes = true; rw [Nat.ble_eq]; exact IJ
    rw [e1, e2, BJ, Nat.beq_refl, Nat.zero_mul]; rfl
  rw [hc]; simp only [cond_true]; rcases hg with ⟨rfl, rfl⟩ | ⟨b0, rs, m, rfl, jX, xN, FN⟩
  . rfl
  have qC := FN.1
  have zW : (xs.length + 0) * i.bytes <= 274877906944 := by
    have := Nat.mul_le_mul (show xs.length + 0 <= 1000000 from by simpa using dR) vD; omega
  have e2 : Nat.beq e e = true := Nat.beq_refl _
  have e3 : Nat.ble ((xs.length + 0) * i.bytes) 274877906944 = true := by rw [Nat.ble_eq]; exact zW
  have e4 : Nat.ble (0 + xs.length * i.size) rs.length = true := by rw [Nat.ble_eq, jQ]; omega
  have e5 : Nat.ble (0 + (xs.length + 0) * i.size) rs.length = true := by rw [Nat.ble_eq, jQ]; simp only [Nat.add_zero]; omega
  have e7 : Nat.beq 0 1 = false := rfl; have e8 : Nat.beq 0 0 = true := rfl; unfold o7; simp only [xN, e2, e3, e4, Bool.and_self, cond_true, e7, e8, e5, Bool.true_and, cond_false, Bool.and_false, Bool.and_true]; simp only [Nat.add_zero] at e3 e4 e5 ⊢
  try simp only [e3, cond_true]
theorem cT.app {xs ys : List τ.den} (hT : fO P T e τ) (FM : fO P T' e τ) (hx : aS fl x = some (.raw w)) (hy : aS fl y = some (.v (.sl τ) ys)) (dR : xs.length + ys.length <= 1000000) :
    cT P fl ((w, .row e τ xs) :: σ) (.call { callee := .builtin .append, args := #[x, y], argTypes := #[T, T'] }) fun v σ' => ∃ w', v = .raw w' /\ σ' = (w', .row e τ (xs ++ ys)) :: σ :=
  ⟨rfl, fun S0 h t L => by
    have h1 : aB t x = w := dL L.aJ hx; have h2 := aE.sl (dL L.aJ hy : aE h _ (.sl τ) (aB t y) ys); have hc := L.cells _ List.mem_cons_self
    have bT : ∀ u h', fM P #[T, T'] w (aB t y) h = some (u, h') -> ∀ (d : Option Tmp) (ty : TypeId) (pos : String) (after : Array Edge) (g : Option (Nat × Bool)), gG P ⟨d, .call { callee := .builtin .append, args := #[x, y], argTypes := #[T, T'] }, ty, pos, after, g⟩ (aB t) h = some (u, h') := fun u h' e _ _ _ _ _ => by
      show fM P #[T, T'] (aB t x) (aB t y) h = _; rw [h1, e]
    by_cases hp : 0 < ys.length
    . obtain ⟨b, o, mk, e', rs, ow, more, hu, hb, hr, hl, FN⟩ := h2.row hp; have oM := hT.sl.pos; have AN : 0 < ys.length * τ.size := Nat.mul_pos hp oM
      have cA : bM h (own ((w, .row e τ xs) :: σ) ++ S0) τ ((rs.drop o).take (ys.length * τ.size)) ys := ⟨by rw [List.length_take, List.length_drop]; omega, fun i hi => by
        have h2 : (i + 1) * τ.size <= ys.length * τ.size := Nat.mul_le_mul_right _ hi; rw [Nat.add_mul] at h2; have := FN i hi; rw [List.drop_take, List.take_take, List.drop_drop, Nat.min_eq_left (by omega)]
        exact this⟩
      obtain ⟨h', rs', e1, e2, e3, e4⟩ := abY hT FM L.ok hc (u := aB t y) (news := (rs.drop o).take (ys.length * τ.size)) (fun i z h1 _ => by rw [hu]; exact AX (e := e') h1 (by omega) hr (Nat.le_refl _) hl rfl rfl) cA hp dR; refine ⟨_, h', .raw (.slice (some ⟨h.next, 0, none⟩) (xs.length + ys.length) 0), _, ⟨_, rfl, rfl⟩, Made.head L e2 (fun b hb => .inr (by simp [dX] at hb; omega)) (by simp [dX]) fun hN => ?_, rfl, bT _ _ e1⟩; exact .inr ⟨h.next, rs', true, by rw [List.length_append], List.mem_append_left _ (by rw [cO]; simp [dX]), e3, e4 _ hN⟩
    obtain rfl : ys = [] := List.eq_nil_of_length_eq_zero (by omega); refine ⟨w, h, .raw w, _, ⟨w, rfl, rfl⟩, ?_, rfl, bT _ _ (XI hT FM hc h2 (by simpa using dR))⟩; rw [List.append_nil]
    exact Made.same L (cI.refl _ _)⟩
theorem J.app {xs ys : List τ.den} (hx : aS fl x = some (.raw w)) (hy : aS fl y = some (.v (.sl τ) ys)) (hT : fO P T e τ) (FM : fO P T' e τ) (dR : xs.length + ys.length <= 1000000) (hk : ∀ w', J P orc ops n l ((d, .raw w') :: fl) ((w', .row e τ (xs ++ ys)) :: σ) K)
    (hw : cV ops fl g = some true := by rfl) (hn : (Nat.blt d n && Nat.ble n 4000) = true := by rfl) :
    J P orc ops n (⟨some d, .call { callee := .builtin .append, args := #[x, y], argTypes := #[T, T'] }, ty, pos, after, g⟩ :: l) fl ((w, .row e τ xs) :: σ) K :=
  J.mk (cT.app hT FM hx hy dR) (by rintro _ _ ⟨w', rfl, rfl⟩; exact hk w') hw hn
theorem cT.AZ {xs : List τ.den} {dx : τ.den} {j : Nat} (hT : fU P T τ) (hj : j < xs.length) (hx : aS fl x = some (.raw (fS w τ.size j))) (hy : aS fl y = some (.v τ dx)) :
    cT P fl ((w, .row T τ xs) :: σ) (.store T x y) fun v σ' => v = .raw undef /\ σ' = (w, .row T τ (xs.set j dx)) :: σ :=
  ⟨rfl, fun S0 h t L => by
    have h1 : aB t x = fS w τ.size j := dL L.aJ hx; have hu := (dL L.aJ hy : aE h _ τ (aB t y) dx); rcases L.cells _ List.mem_cons_self with ⟨_, rfl⟩ | ⟨b, rs, m, h3, h4, h5, h6⟩
    . simp at hj
    have hw : w = _ := h3; have AO : (j + 1) * τ.size <= xs.length * τ.size := Nat.mul_le_mul_right _ hj; rw [Nat.add_mul, Nat.one_mul] at AO; have qC := h6.1; obtain ⟨i, hi, hs⟩ := hT.info; have FF : (aB t y).cells.toList.length = τ.size := hu.2.len
    have pX : dX w = [b] := by rw [hw]; rfl
    refine ⟨undef, h.set b (.row T (bF rs (j * τ.size) (aB t y).cells.toList) true m), .raw undef, _, ⟨rfl, rfl⟩, Made.head L (cI.set h5 (by rw [pX]; simp)) (fun b hb => .inl hb) (by rw [pX]; simp) fun hN => ?_, rfl, fun _ _ _ _ _ => ?_⟩
    . refine .inr ⟨b, _, m, by rw [List.length_set]; exact h3, ?_, by rw [U.cX h5, if_pos rfl], (KQ h6 hj hu.2).nx hN⟩; rw [cO]; exact List.mem_append_left _ (List.mem_append_left _ (by rw [pX]; simp))
    show (jJ P T (aB t x) (aB t y) h).map _ = _
    have : jJ P T (aB t x) (aB t y) h = some (h.set b (.row T (bF rs (j * τ.size) (aB t y).cells.toList) true m)) := by
      rw [h1, hw]; simp only [jJ, fS, h5, hi, hs, FF, hu.2.kC, Nat.zero_add]; rw [if_pos ⟨trivial, by omega, trivial⟩]
    rw [this]; rfl⟩
theorem J.AZ {xs : List τ.den} {dx : τ.den} (j : Nat) (hx : aS fl x = some (.raw (fS w τ.size j))) (hy : aS fl y = some (.v τ dx)) (hT : fU P T τ) (hj : j < xs.length) (hk : J P orc ops n l fl ((w, .row T τ (xs.set j dx)) :: σ) K) (hw : cV ops fl g = some true := by rfl) :
    J P orc ops n (⟨none, .store T x y, ty, pos, after, g⟩ :: l) fl ((w, .row T τ xs) :: σ) K :=
  J.DM (cT.AZ hT hj hx hy) (by rintro _ _ ⟨rfl, rfl⟩; exact hk) hw
theorem bA.take : ∀ {l : List PV} {us : List Value} (k : Nat), bA h S l us -> bA h S (l.take k) (us.take k)
  | [], us, k, hx => by rw [show us = [] from hx]; simp [bA]
  | p :: ps, us, 0, hx => by simp [bA]
  | p :: ps, us, k + 1, ⟨u, r, h1, h2, h3⟩ => by subst h1; exact ⟨u, r.take k, rfl, h2, bA.take k h3⟩
theorem bA.drop : ∀ {l : List PV} {us : List Value} (k : Nat), bA h S l us -> bA h S (l.drop k) (us.drop k)
  | [], us, k, hx => by rw [show us = [] from hx]; simp [bA]
  | p :: ps, us, 0, hx => hx
  | p :: ps, us, k + 1, ⟨u, r, h1, h2, h3⟩ => by subst h1; exact bA.drop k h3
def DP (l : List PV) (o : Nat) (new : List PV) : List PV := l.take o ++ (new ++ l.drop (o + new.length))
theorem bA.DP {l new : List PV} {us vs : List Value} (o : Nat) (hl : bA h S l us) (hn : bA h S new vs) : bA h S (DP l o new) (bF us o vs) := by
  unfold Fs.DP bF; rw [List.append_assoc, <- hn.len]; exact (hl.take o).append (hn.append (hl.drop _))
theorem tZ {us vs : List Value} (o : Nat) (h1 : us.all aN = true) (h2 : vs.all aN = true) : (bF us o vs).all aN = true := by
  unfold bF; rw [List.all_append, List.all_append, h2]; have a1 : (us.take o).all aN = true := List.all_eq_true.2 fun x hx => List.all_eq_true.1 h1 x (List.mem_of_mem_take hx); have a2 : (us.drop (o + vs.length)).all aN = true := List.all_eq_true.2 fun x hx => List.all_eq_true.1 h1 x (List.mem_of_mem_drop hx); rw [a1, a2]; rfl
def PV.one : PV -> Bool
  | .v τ _ => !τ.agg
  | .raw u => aN u
  | .p _ _ => true
  | .lA _ _ _ => true
  | _ => false
theorem abZ : ∀ {p : PV} {u : Value}, p.one = true -> aH h S p u -> aN u = true
  | .v τ x, u, h1, hu => by
    have ha : τ.agg = false := by simpa [PV.one] using h1
    have h2 := hu.2.kC; rw [cells_one (hu.1.trans ha)] at h2
    simpa using h2
  | .raw w, u, h1, hu => by
    obtain rfl : u = w := hu
    exact h1
  | .p τ x, u, _, hu => by
    obtain ⟨b, o, e, rs, own, more, rfl, _⟩ := hu
    rfl
  | .lA f a c, u, _, hu => by
    obtain ⟨va, vc, rfl, _⟩ := hu; rfl
theorem KY : ∀ {cs : List PV} {us : List Value}, cs.all PV.one = true -> bA h S cs us -> us.all aN = true
  | [], us, _, hu => by rw [show us = [] from hu]; rfl
  | p :: ps, us, h1, ⟨u, r, h2, h3, h4⟩ => by
    rw [List.all_cons, Bool.and_eq_true] at h1; rw [h2, List.all_cons, abZ h1.1 h3, KY h1.2 h4]; rfl
inductive lI : Ty -> PV -> List PV -> Prop where
  | v {τ : Ty} {x : τ.den} : lI τ (.v τ x) (j5 τ x)
  | raw {τ : Ty} {u : Value} (ha : τ.agg = false) (h1 : fZ u = false) (h2 : aN u = true) : lI τ (.raw u) [.raw u]
  | lA {τ : Ty} {f : FuncId} {a c : List PV} (ha : τ.agg = false) : lI τ (.lA f a c) [.lA f a c]
  | p {τ dC : Ty} {x : dC.den} (ha : τ.agg = false) : lI τ (.p dC x) [.p dC x]
  | agg {τ : Ty} {us : List Value} {cs : List PV} (hl : us.length = τ.size) (h1 : us.all aN = true) (hr : ∀ h S, bA h S cs us) : lI τ (.raw (.agg us.toArray)) cs
  | TQ {τ : Ty} {cs : List PV} (hl : cs.length = τ.size) (h1 : cs.all PV.one = true) : lI τ (.agg cs) cs
theorem lI.ok {p : PV} {cs : List PV} (hc : lI τ p cs) {u : Value} (hu : aH h S p u) : bA h S cs u.cells.toList /\ u.cells.toList.length = τ.size /\ u.cells.toList.all aN = true := by
  cases hc with
  | v =>
    have hr := hu.2
    exact ⟨mL hr, hr.len, hr.kC⟩
  | raw ha h1 h2 =>
    obtain rfl : u = _ := hu; rw [cells_one h1]
    exact ⟨⟨u, [], rfl, rfl, rfl⟩, by rw [Ty.qA ha]; rfl, by simp [h2]⟩
  | lA ha =>
    have wA := hu; obtain ⟨va, vc, rfl, _⟩ := hu
    exact ⟨⟨_, [], rfl, wA, rfl⟩, by rw [Ty.qA ha]; rfl, rfl⟩
  | p ha =>
    have wA := hu; obtain ⟨b, o, e, rs, own, more, rfl, _⟩ := hu
    exact ⟨⟨_, [], rfl, wA, rfl⟩, by rw [Ty.qA ha]; rfl, rfl⟩
  | agg hl h1 hr =>
    obtain rfl : u = _ := hu
    exact ⟨hr h S, hl, h1⟩
  | TQ hl h1 =>
    obtain ⟨vs, rfl, h2⟩ := hu; exact ⟨h2, by rw [<- hl]; exact h2.len, KY h1 h2⟩
theorem cT.tD {cs new : List PV} {p : PV} {k : Nat} {q : Value} (hT : fU P T τ) (hp : lI τ p new) (oW : k + τ.size <= cs.length) (hq : q = oN w k \/ (k = 0 /\ q = w)) (hx : aS fl x = some (.raw q)) (hy : aS fl y = some p) :
    cT P fl ((w, .var cs) :: σ) (.store T x y) fun v σ' => v = .raw undef /\ σ' = (w, .var (DP cs k new)) :: σ :=
  ⟨rfl, fun S0 h t L => by
    have h1 : aB t x = q := dL L.aJ hx; obtain ⟨hu1, hu2, hu3⟩ := hp.ok (dL L.aJ hy); obtain ⟨b, e, vs, h3, h4, h5, h6, h7⟩ := L.cells _ List.mem_cons_self; have hw : w = _ := h3; have JR := h6.len; obtain ⟨i, hi, hs⟩ := hT.info
    have pX : dX w = [b] := by rw [hw]; rfl
    refine ⟨undef, h.set b (.row e (bF vs k (aB t y).cells.toList) true false), .raw undef, _, ⟨rfl, rfl⟩, Made.head L (cI.set h5 (by rw [pX]; simp)) (fun b hb => .inl hb) (by rw [pX]; simp) fun hN => ?_, rfl, fun _ _ _ _ _ => ?_⟩
    . refine ⟨b, e, _, h3, ?_, by rw [U.cX h5, if_pos rfl], (h6.DP k hu1).nx hN, tZ k h7 hu3⟩; rw [cO]; exact List.mem_append_left _ (List.mem_append_left _ (by rw [pX]; simp))
    show (jJ P T (aB t x) (aB t y) h).map _ = _
    have hqq : q = .pointer (some ⟨b, k, none⟩) := by
      rcases hq with hq | ⟨kJ, hq⟩
      . rw [hq, hw]; simp [oN]
      rw [hq, hw, kJ]
    have : jJ P T (aB t x) (aB t y) h = some (h.set b (.row e (bF vs k (aB t y).cells.toList) true false)) := by
      rw [h1, hqq]; simp only [jJ, h5, hi, hs, hu2, hu3]; rw [if_pos ⟨trivial, by omega, trivial⟩]
    rw [this]; rfl⟩
theorem J.tD {cs new cs' : List PV} {p : PV} (k : Nat) (hT : fU P T τ) (hp : lI τ p new) (hk : J P orc ops n l fl ((w, .var cs') :: σ) K) (oW : Nat.ble (k + τ.size) cs.length = true := by rfl) (hx : aS fl x = some (.raw (oN w k)) := by rfl) (hy : aS fl y = some p := by rfl) (hc : DP cs k new = cs' := by rfl) (hw : cV ops fl g = some true := by rfl) :
    J P orc ops n (⟨none, .store T x y, ty, pos, after, g⟩ :: l) fl ((w, .var cs) :: σ) K :=
  J.DM (cT.tD hT hp (fY oW) (.inl rfl) hx hy) (by rintro _ _ ⟨rfl, rfl⟩; rw [hc]; exact hk) hw
theorem J.lJ {cs new cs' : List PV} {p : PV} (hT : fU P T τ) (hp : lI τ p new) (hk : J P orc ops n l fl ((w, .var cs') :: σ) K) (oW : Nat.ble (0 + τ.size) cs.length = true := by rfl) (hx : aS fl x = some (.raw w) := by rfl) (hy : aS fl y = some p := by rfl) (hc : DP cs 0 new = cs' := by rfl) (hw : cV ops fl g = some true := by rfl) :
    J P orc ops n (⟨none, .store T x y, ty, pos, after, g⟩ :: l) fl ((w, .var cs) :: σ) K :=
  J.DM (cT.tD hT hp (fY oW) (.inr ⟨rfl, rfl⟩) hx hy) (by rintro _ _ ⟨rfl, rfl⟩; rw [hc]; exact hk) hw
end Go.Fs
namespace Go.Fs
variable {P : Program} {orc : FuncId -> List Value -> U -> Option (Value × U)} {aY : Option Nat} {h h' h0 h1 h2 : U} {S S' S0 B G : List Nat} {σ σ' nW : aR} {t t' : Tr} {ms : List Nat} {fl : VL} {ops : Array Oper} {n i mem : Nat} {l : List Oper} {K : VL -> aR -> Prop} {Q : Ex -> VL -> aR -> Prop}
  {d : Tmp} {ty : TypeId} {pos : String} {after : Array Edge} {op : Op} {v pv : PV} {g : Option (Nat × Bool)} {x y z : Operand} {T T' e : TypeId} {τ dC : Ty} {bs nw : List Nat} {segs : List (Nat × Nat × Nat)} {tail so : Bool} {w w' : Value} {c c' : Cell}
def zX (P : Program) (fl : VL) (op : Op) (v : PV) : Prop := calm op = false /\ ∀ (h : U) (S : List Nat) (t : Tr), yO h S t fl op -> nK h -> (∀ b ∈ S, b < h.next) ->
  ∃ (mk : Nat -> Value) (o : bC), aH (h.push o) S v (mk h.next) /\ ∀ (H : U) (d : Option Tmp) (ty : TypeId) (pos : String) (after : Array Edge) (g : Option (Nat × Bool)), gG P ⟨d, op, ty, pos, after, g⟩ (aB t) H = some (mk H.next, H.push o)
def jR (P : Program) (fl : VL) (op : Op) (c : Cell) : Prop := calm op = false /\ ∀ (h : U) (S : List Nat) (t : Tr), yO h S t fl op -> nK h -> (∀ b ∈ S, b < h.next) ->
  ∃ (mk : Nat -> Value) (o : bC), (∀ k, dX (mk k) = [k]) /\ (∀ S', dA h S (h.push o) S' -> h.next ∈ S' -> cU (h.push o) S' (mk h.next) c) /\ ∀ (H : U) (d : Option Tmp) (ty : TypeId) (pos : String) (after : Array Edge) (g : Option (Nat × Bool)), gG P ⟨d, op, ty, pos, after, g⟩ (aB t) H = some (mk H.next, H.push o)
theorem J.new (hs : zX P fl op v) (hk : J P orc ops n l ((d, v) :: fl) σ K) (hw : cV ops fl g = some true := by rfl) (hn : (Nat.blt d n && Nat.ble n 4000) = true := by rfl) : J P orc ops n (⟨some d, op, ty, pos, after, g⟩ :: l) fl σ K := fun h0 G S0 t h ms I => by
  have L := I.lc; obtain ⟨mk, o, e1, e2⟩ := hs.2 h _ t I.aJ.tB I.ok L.lt; obtain ⟨n1, n2⟩ := fits hn; exact lZ.op (cC I.aJ hw) (e2 h _ _ _ _ _) (bU n1 t _) (hk h0 G S0 _ _ ms ((I.calm (cI.push h o [])).set e1 n2))
theorem J.cell (hs : jR P fl op c) (hk : ∀ w, J P orc ops n l ((d, .raw w) :: fl) ((w, c) :: σ) K) (hw : cV ops fl g = some true := by rfl) (hn : (Nat.blt d n && Nat.ble n 4000) = true := by rfl) : J P orc ops n (⟨some d, op, ty, pos, after, g⟩ :: l) fl σ K := fun h0 G S0 t h ms I => by
  have L := I.lc; obtain ⟨mk, o, e0, e1, e2⟩ := hs.2 h _ t I.aJ.tB I.ok L.lt; obtain ⟨n1, n2⟩ := fits hn; have m : Made S0 h (h.push o) σ ((mk h.next, c) :: σ) := Made.cons L (cI.push h o []) (fun b hb => by rw [e0] at hb; simp at hb; omega) (by rw [e0]; simp) fun hN => e1 _ hN (by rw [cO, e0]; simp); exact lZ.op (cC I.aJ hw) (e2 h _ _ _ _ _) (bU n1 t _) (hk (mk h.next) h0 G S0 _ _ ms ((I.made m).set (show aH _ _ (.raw (mk h.next)) (mk h.next) from rfl) n2))
theorem OM : ∀ {L : List (Nat × bC)} {k : Nat} {o : bC}, (k, o) ∈ L -> ∃ o', look L k = some o'
  | [], _, _, h => by cases h
  | (k', o') :: r, k, o, h => by
    by_cases QK : k' = k
    . exact ⟨o', by simp [look, QK]⟩
    rcases List.mem_cons.1 h with h | h
    . simp only [Prod.mk.injEq] at h; exact absurd h.1.symm QK
    obtain ⟨o2, h2⟩ := OM h; exact ⟨o2, by simp only [look, eE QK, cond_false, h2]⟩
theorem H5 {m : Nat} {L : List (Nat × bC)} {o : bC} (hL : ∀ b o, look L b = some o -> b < m) : bI m (m + 1) ((m, o) :: L) = [(m, o)] := by
  unfold bI; rw [eE (show m ≠ m + 1 by omega)]; simp only [cond_false]; rw [List.filter_cons]
  have e1 : inside m (m + 1) (m, o) = true := by
    unfold inside
    have : Nat.blt m (m + 1) = true := by show Nat.ble (m + 1) (m + 1) = true; exact sY _
    simp only [sY, this, Bool.and_self]
  rw [if_pos e1]; congr 1; refine List.filter_eq_nil_iff.2 fun p hp nO => ?_; obtain ⟨k, o2⟩ := p
  have hk1 : m <= k := by
    unfold inside at nO; exact fY (aQ nO).1
  obtain ⟨o', oA⟩ := OM hp; have := hL k o' oA; omega
theorem H6 {b : Nat} {o : Oper} {ob : bC} {mk : Nat -> Value} {M : U} (hM : p5 o ⟨t, h, bs, segs, mem, tail⟩ = M) (afK : nK M) (hMn : M.next = h.next) (hMl : M.low = h.next) (hb : aM bs o = b) (hd : o.dst = some d) (sP : calm o.op = false) (hw : bL ops t o = some true)
    (lO : (tail && !Nat.beq (mem &&& b) mem) = false) (bT : gG P o (aB t) M = some (mk M.next, M.push ob)) (n1 : Nat.blt d n = true) :
    gJ (gG P) ops n o i ⟨t, h, bs, segs, mem, tail⟩ = some ⟨t.set depth d (mk h.next), h.push ob, bs ++ [b], (i, h.next, h.next + 1) :: segs, mem ||| 2 ^ i, tail⟩ := by
  unfold gJ
  have hM' : ({ next := h.next, low := h.next, aA := bif Nat.beq (mem &&& b) mem then h.aA else mask b segs h.aA } : U) = M := by
    rw [<- hM]; unfold p5; simp only [hb]
  simp only [hw, sP, Bool.false_eq_true, if_false, hb, lO, cond_false, hM', bT]; have bO : Nat.blt (h.next + 1) h.next = false := l9 (Nat.le_succ _)
  have e1 : bI h.next (h.next + 1) ((M.next, ob) :: M.aA) = [(h.next, ob)] := by
    rw [hMn]
    exact H5 fun b o hg => by have := afK b o hg; omega
  simp only [U.push, hMn, hMl, bO, cond_false, hd, bU n1, sY, cond_true]; rw [hMn] at e1; rw [e1]; rfl
theorem VD.new {b : Nat} (hs : zX P fl op v) (hk : VD P orc ops n l (i + 1) ((d, v) :: fl) (fE false d nw) σ so (bs ++ [b]) (mem ||| 2 ^ i) tail K)
    (hb : aM bs ⟨some d, op, ty, pos, after, g⟩ = b := by rfl) (lO : (tail && !Nat.beq (mem &&& b) mem) = false := by rfl) (hw : cV ops fl g = some true := by rfl) (hn : (Nat.blt d n && Nat.ble n 4000) = true := by rfl) :
    VD P orc ops n (⟨some d, op, ty, pos, after, g⟩ :: l) i fl nw σ so bs mem tail K := fun h0 G S0 t h ms segs I ho => by
  obtain ⟨n1, n2⟩ := fits hn; obtain ⟨M, m1, m2, m3, m4, m5, m6, m7⟩ := r5 (mem := mem) I hb ho; obtain ⟨mk, o, e1, e2⟩ := hs.2 h _ t I.aJ.tB I.ok I.lc.lt; refine rV.op (H6 m1 m2 m3 m4 hb rfl hs.1 (cC I.aJ hw) lO (e2 M _ _ _ _ _) n1) (hk h0 G S0 _ _ ms _ ((I.calm (cI.push h o [])).set e1 n2) fun ht => ?_); exact ((ho ht).set (old := false) n2 fun e => by cases e).next (eV.push h o) (Nat.le_refl _)
theorem VD.cell {b : Nat} (hs : jR P fl op c) (hk : ∀ w, VD P orc ops n l (i + 1) ((d, .raw w) :: fl) (fE false d nw) ((w, c) :: σ) false (bs ++ [b]) (mem ||| 2 ^ i) tail K)
    (hb : aM bs ⟨some d, op, ty, pos, after, g⟩ = b := by rfl) (lO : (tail && !Nat.beq (mem &&& b) mem) = false := by rfl) (hw : cV ops fl g = some true := by rfl) (hn : (Nat.blt d n && Nat.ble n 4000) = true := by rfl) :
    VD P orc ops n (⟨some d, op, ty, pos, after, g⟩ :: l) i fl nw σ so bs mem tail K := fun h0 G S0 t h ms segs I ho => by
  obtain ⟨n1, n2⟩ := fits hn; obtain ⟨M, m1, m2, m3, m4, m5, m6, m7⟩ := r5 (mem := mem) I hb ho; obtain ⟨mk, o, e0, e1, e2⟩ := hs.2 h _ t I.aJ.tB I.ok I.lc.lt; have hm : Made S0 h (h.push o) σ ((mk h.next, c) :: σ) := Made.cons I.lc (cI.push h o []) (fun b hb => by rw [e0] at hb; simp at hb; omega) (by rw [e0]; simp) fun hN => e1 _ hN (by rw [cO, e0]; simp); refine rV.op (H6 m1 m2 m3 m4 hb rfl hs.1 (cC I.aJ hw) lO (e2 M _ _ _ _ _) n1) (hk (mk h.next) h0 G S0 _ _ ms _ ((I.made hm).set (show aH _ _ (.raw (mk h.next)) (mk h.next) from rfl) n2) fun ht => ?_)
  obtain ⟨wL, a1, a2, a3, a4, a5, a6⟩ := (ho ht).set (v := .raw (mk h.next)) (u := mk h.next) (old := false) n2 fun e => by cases e
  refine ⟨wL, a1, a2.trans (eV.push h o), l8.cons (by have := a2.next; omega) a3, a4, fun k pv hk hn => (a5 k pv hk hn).nx (h := wL) fun b ob hg hb => ⟨hg, ?_⟩, fun e => by cases e⟩; have := a1 b ob hg; have := a2.next; rw [cO, e0]; intro pJ; simp only [List.cons_append, List.nil_append, List.mem_cons] at pJ; rcases pJ with pJ | pJ
  . omega
  exact hb pJ
theorem KZ {b : Nat} {o : Oper} {u : Value} {t2 : Tr} (hb : aM bs o = b) (hp : put n t o.dst u = some t2) (sP : calm o.op = false) (hw : bL ops t o = some true) (gR : Nat.beq (mem &&& b) mem = true) (bZ : nK h) (bT : gG P o (aB t) (entry h) = some (u, h')) (hB : cI (entry h) h' B) :
    ∃ h2 oF, gJ (gG P) ops n o i ⟨t, h, bs, segs, mem, tail⟩ = some ⟨t2, h2, bs ++ [b], (i, h.next, h'.next) :: segs, mem ||| 2 ^ i, oF⟩ /\ (∀ b, h2.get b = h'.get b) /\ h2.next = h'.next /\ cI h h2 B /\ (oF = false -> eV h h2 /\ tail = false) := by
  have gU := hB.next; have afN : Nat.blt h'.next h.next = false := l9 gU; unfold gJ
  have hM' : ({ next := h.next, low := h.next, aA := bif Nat.beq (mem &&& b) mem then h.aA else mask b segs h.aA } : U) = entry h := by
    rw [gR]; rfl
  simp only [hw, sP, Bool.false_eq_true, if_false, hb, gR, Bool.not_true, Bool.and_false, cond_false]; simp only [gR] at hM'; rw [hM', bT]; simp only [afN, cond_false, hp]
  cases dW : Nat.ble h.next h'.low with
  | true =>
    have hl := fY dW
    have l6 : ∀ b, b < h.next -> h'.get b = h.get b := fun b hb => by
      rcases hB.chg b hb with h3 | h3
      . exact h3
      omega
    have jC : ∀ b, look (bI h.next h'.next h'.aA ++ h.aA) b = h'.get b := fun b => by
      rw [jO]; by_cases hb : b < h.next
      . cases nQ : look (bI h.next h'.next h'.aA) b with
        | some o => have := (fA _ _ _ nQ).1; omega
        | none => exact (l6 b hb).symm
      have hold : look h.aA b = none := by
        cases nQ : look h.aA b with
        | none => rfl
        | some o => exact absurd (bZ b o nQ) hb
      rw [hold, Option.or_none]
      cases nQ : look h'.aA b with
      | some o =>
        have : b < h'.next := hB.ok bZ b o nQ; rw [FB _ _ (by omega) this, nQ]
        exact nQ.symm
      | none =>
        cases hl3 : look (bI h.next h'.next h'.aA) b with
        | none => exact nQ.symm
        | some o => rw [(fA _ _ _ hl3).2] at nQ; cases nQ
    refine ⟨_, _, rfl, jC, rfl, ⟨gU, fun b hb hn => (jC b).trans (hB.get b hb hn), fun _ b o hg => ?_, fun e h3 _ _ => h3, fun b hb => .inl ((jC b).trans (l6 b hb)), Nat.le_refl _⟩, fun ht => ⟨⟨gU, fun b hb => (jC b).trans (l6 b hb), fun _ b o hg => ?_, fun e h3 _ => h3⟩, ht⟩⟩
    . exact hB.ok bZ b o ((jC b).symm.trans hg)
    exact hB.ok bZ b o ((jC b).symm.trans hg)
  | false =>
    refine ⟨_, _, rfl, fun _ => rfl, rfl, ⟨gU, hB.get, fun _ => hB.ok bZ, fun e h3 h4 h5 => Nat.le_min.2 ⟨h3, hB.low e h4 h4 h5⟩, fun b hb => ?_, Nat.min_le_left _ _⟩, fun e => by cases e⟩; rcases hB.chg b hb with h3 | h3
    . exact .inl h3
    exact .inr (Nat.le_trans (Nat.min_le_right _ _) h3)
theorem BK (m : Made S0 (entry h) h' σ σ') (hg : ∀ b, h2.get b = h'.get b) (ha : cI h h2 (own σ)) : Made S0 h h2 σ σ' := ⟨ha, m.new, m.apart, fun c hc => (m.cells c hc).aV (fun b _ => hg b) (dA.aA hg) fun b hb => List.mem_append_left _ (List.mem_flatMap.2 ⟨c, hc, hb⟩)⟩
theorem VD.mk {b : Nat} {Tt : PV -> aR -> Prop} (hs : cT P fl σ op Tt) (hk : ∀ v σ' oF, Tt v σ' -> VD P orc ops n l (i + 1) ((d, v) :: fl) (fE false d nw) σ' false (bs ++ [b]) (mem ||| 2 ^ i) oF K)
    (hb : aM bs ⟨some d, op, ty, pos, after, g⟩ = b := by rfl) (gR : Nat.beq (mem &&& b) mem = true := by rfl) (hw : cV ops fl g = some true := by rfl) (hn : (Nat.blt d n && Nat.ble n 4000) = true := by rfl) :
    VD P orc ops n (⟨some d, op, ty, pos, after, g⟩ :: l) i fl nw σ so bs mem tail K := fun h0 G S0 t h ms segs I ho => by
  obtain ⟨n1, n2⟩ := fits hn; have Le := I.lc.aA (h' := entry h) (fun _ => rfl) rfl; obtain ⟨u, h', v, σ', e1, e2, e3, e4⟩ := hs.2 S0 (entry h) t Le; obtain ⟨h2, oF, f1, f2, f3, f4, f5⟩ := KZ (i := i) (segs := segs) (tail := tail) hb (bU n1 t u) hs.1 (cC I.aJ hw) gR I.ok (e4 (some d) ty pos after g) e2.iH; have I2 := (I.made (BK e2 f2 f4)).set (e3.nx (dA.aA f2)) n2; refine rV.op f1 (hk v σ' oF e1 h0 G S0 _ _ ms _ I2 fun ht => ?_); obtain ⟨f6, f7⟩ := f5 ht
  obtain ⟨wL, a1, a2, a3, a4, a5, a6⟩ := (ho f7).set (v := v) (u := u) (old := false) n2 fun e => by cases e
  refine ⟨wL, a1, a2.trans f6, l8.cons a2.next a3, a4, fun k pv hk hn => (a5 k pv hk hn).nx (h := wL) fun b ob hg hb => ⟨hg, ?_⟩, fun e => by cases e⟩; have h3 := a1 b ob hg; have h4 := a2.next; intro pJ; rcases List.mem_append.1 pJ with pJ | pJ
  . rcases e2.new b pJ with h5 | h5
    . exact hb (List.mem_append_left _ h5)
    have : (entry h).next = h.next := rfl; omega
  exact hb (List.mem_append_right _ pJ)
theorem VD.DM {b : Nat} {Tt : PV -> aR -> Prop} (hs : cT P fl σ op Tt) (hk : ∀ v σ' oF, Tt v σ' -> VD P orc ops n l (i + 1) fl nw σ' false (bs ++ [b]) (mem ||| 2 ^ i) oF K)
    (hb : aM bs ⟨none, op, ty, pos, after, g⟩ = b := by rfl) (gR : Nat.beq (mem &&& b) mem = true := by rfl) (hw : cV ops fl g = some true := by rfl) :
    VD P orc ops n (⟨none, op, ty, pos, after, g⟩ :: l) i fl nw σ so bs mem tail K := fun h0 G S0 t h ms segs I ho => by
  have Le := I.lc.aA (h' := entry h) (fun _ => rfl) rfl; obtain ⟨u, h', v, σ', e1, e2, e3, e4⟩ := hs.2 S0 (entry h) t Le; obtain ⟨h2, oF, f1, f2, f3, f4, f5⟩ := KZ (n := n) (i := i) (segs := segs) (tail := tail) (o := ⟨none, op, ty, pos, after, g⟩) hb (OD n t u) hs.1 (cC I.aJ hw) gR I.ok (e4 none ty pos after g) e2.iH; have I2 := I.made (BK e2 f2 f4); refine rV.op f1 (hk v σ' oF e1 h0 G S0 _ _ ms _ I2 fun ht => ?_); obtain ⟨f6, f7⟩ := f5 ht; obtain ⟨wL, a1, a2, a3, a4, a5, a6⟩ := ho f7; refine ⟨wL, a1, a2.trans f6, l8.cons a2.next a3, a4, fun k pv hk hn => (a5 k pv hk hn).nx (h := wL) fun b ob hg hb => ⟨hg, ?_⟩, fun e => by cases e⟩; have h3 := a1 b ob hg; have h4 := a2.next; intro pJ; rcases List.mem_append.1 pJ with pJ | pJ
  . rcases e2.new b pJ with h5 | h5
    . exact hb (List.mem_append_left _ h5)
    have : (entry h).next = h.next := rfl; omega
  exact hb (List.mem_append_right _ pJ)
end Go.Fs
namespace Go.Fs
variable {P : Program} {orc : FuncId -> List Value -> U -> Option (Value × U)} {aY : Option Nat} {h h' h0 h1 h2 : U} {S S' S0 B G : List Nat} {σ σ' nW : aR} {t t' : Tr} {ms : List Nat} {fl : VL} {ops : Array Oper} {n i mem : Nat} {l : List Oper} {K : VL -> aR -> Prop} {Q : Ex -> VL -> aR -> Prop}
  {d : Tmp} {ty : TypeId} {pos : String} {after : Array Edge} {op : Op} {v pv : PV} {g : Option (Nat × Bool)} {x y z : Operand} {T T' e : TypeId} {τ dC : Ty} {bs nw : List Nat} {segs : List (Nat × Nat × Nat)} {tail so : Bool} {w w' : Value} {c c' : Cell}
theorem wO {fl : VL} : ∀ {l : List Operand} {vs : List PV}, (∀ x ∈ l, ∀ pv, aS fl x = some pv -> aH h S pv (aB t x)) -> kI fl l = some vs -> bA h S vs (l.map (aB t))
  | [], vs, _, hx => by obtain rfl := Option.some.inj hx; rfl
  | x :: r, vs, hq, hx => by
    simp only [kI] at hx; split at hx
    . rename_i v KG hv w9; obtain rfl := Option.some.inj hx; exact ⟨_, _, rfl, hq x List.mem_cons_self _ hv, wO (fun y hy => hq y (List.mem_cons_of_mem _ hy)) w9⟩
    cases hx
theorem bA.vs : ∀ {xs : List τ.den} {us : List Value}, bA h S (xs.map (PV.v τ)) us -> us.length = xs.length /\ ∀ i (hi : i < us.length) (hx : i < xs.length), aE h S τ us[i] xs[i]
  | [], us, hx => ⟨by rw [show us = [] from hx]; rfl, fun i _ h => by simp at h⟩
  | a :: xs, us, ⟨u, r, h1, h2, h3⟩ => by
    subst h1; obtain ⟨e1, e2⟩ := bA.vs h3; refine ⟨by simp [e1], fun i hi hx => ?_⟩
    cases i with
    | zero => exact h2
    | succ i => exact e2 i (by simpa using hi) (by simpa using hx)
theorem DQ : ∀ {ps : List (Nat × Operand)} {k : Nat}, ps.map (·.1) = List.range' k ps.length -> ps.map (fun p => (p.1, aB t p.2)) = lM k (ps.map fun p => aB t p.2)
  | [], k, _ => rfl
  | (i, x) :: r, k, hk => by
    simp only [List.map_cons, List.length_cons, List.range'_succ, List.cons.injEq] at hk; simp only [List.map_cons, lM, hk.1]; rw [DQ hk.2]
theorem afO {parts : Array (Nat × Operand)} {len : Nat} {xs : List τ.den} (hT : fO P T e τ) (hxs : kI fl (parts.toList.map (·.2)) = some (xs.map (PV.v τ))) (afP : parts.toList.map (·.1) = List.range' 0 parts.toList.length) (hl : len = xs.length) (hp : 0 < xs.length) (dR : xs.length <= 1000) (IG : τ.size <= 100) (hs : yO h S t fl (.buildSlice T len parts)) :
    ∃ us : List Value, us.length = xs.length /\ bM h S τ (flat us) xs /\ ∀ (H : U) (d : Option Tmp) (ty : TypeId) (pos : String) (after : Array Edge) (g : Option (Nat × Bool)), gG P ⟨d, .buildSlice T len parts, ty, pos, after, g⟩ (aB t) H = some (.slice (some ⟨H.next, 0, none⟩) xs.length 0, H.push (.row e (flat us) true false)) := by
  have hr : bA h S (xs.map (PV.v τ)) ((parts.toList.map (·.2)).map (aB t)) := wO (fun x hx => hs x (by simpa [Op.operands] using hx)) hxs; obtain ⟨e1, e2⟩ := bA.vs hr; refine ⟨_, e1, bM.flat _ xs e1 e2, fun H _ _ _ _ _ => ?_⟩; show iQ P T len (parts.map fun p => (p.1, aB t p.2)) H = _
  have hpm : parts.map (fun p => (p.1, aB t p.2)) = (lM 0 ((parts.toList.map (·.2)).map (aB t))).toArray := by
    apply Array.toList_inj.1; rw [Array.toList_map, DQ afP, List.map_map]; rfl
  have := afJ hT e1 e2 (by intro e; rw [e] at e1; simp at e1; omega) (by omega) IG H; rw [hpm, hl, <- e1]; exact this
theorem zX.lit {parts : Array (Nat × Operand)} {len : Nat} (xs : List τ.den) (hT : fO P T e τ) (hxs : kI fl (parts.toList.map (·.2)) = some (xs.map (PV.v τ)) := by rfl) (afP : parts.toList.map (·.1) = List.range' 0 parts.toList.length := by rfl) (hl : len = xs.length := by rfl) (hp : (Nat.blt 0 xs.length && Nat.ble xs.length 1000 && Nat.ble τ.size 100) = true := by rfl) : zX P fl (.buildSlice T len parts) (.v (.sl τ) xs) :=
  ⟨rfl, fun h S t hs bZ hS => by
    obtain ⟨p1, p2⟩ := aQ hp; obtain ⟨p0, p1⟩ := aQ p1; obtain ⟨us, e1, e2, e3⟩ := afO hT hxs afP hl (jA p0) (fY p1) (fY p2) hs; refine ⟨fun k => .slice (some ⟨k, 0, none⟩) xs.length 0, .row e (flat us) true false, ?_, e3⟩; have hN : dA h S (h.push (.row e (flat us) true false)) S := (eV.push h _).nx bZ
    exact ((e2.nx hN).slv (by rw [U.bQ, if_pos rfl]) fun hm => by have := hS _ hm; omega).rep⟩
theorem ac0 (hT : fO P T e τ) (H : U) (d : Option Tmp) (ty : TypeId) (pos : String) (after : Array Edge) (g : Option (Nat × Bool)) : gG P ⟨d, .buildSlice T 0 #[], ty, pos, after, g⟩ (aB t) H = some (.slice (some ⟨H.next, 0, none⟩) 0 0, H.push (.row e [] true false)) := by
  show iQ P T 0 ((#[] : Array (Nat × Operand)).map fun p => (p.1, aB t p.2)) H = _; obtain ⟨i, z, mJ, jQ, _⟩ := hT.sl.info; simp [iQ, hT.sl.sl, mJ]
theorem jR.aa7 (hT : fO P T e τ) : jR P fl (.buildSlice T 0 #[]) (.row e τ []) :=
  ⟨rfl, fun h S t hs bZ hS => ⟨fun k => .slice (some ⟨k, 0, none⟩) 0 0, .row e [] true false, fun _ => rfl, fun S' hN hm => .inr ⟨h.next, [], false, rfl, hm, by rw [U.bQ, if_pos rfl], bM.nil⟩, ac0 hT⟩⟩
theorem zX.box {dx : τ.den} (hx : aS fl x = some (.v τ dx) := by rfl) : zX P fl (.box e x) (.p τ dx) :=
  ⟨rfl, fun h S t hs bZ hS => by
    have hu : aE h S τ (aB t x) dx := hs x (by simp [Op.operands]) _ hx; refine ⟨fun k => .pointer (some ⟨k, 0, none⟩), .row e (aB t x).cells.toList true false, ?_, fun H _ _ _ _ _ => ?_⟩
    . exact hu.box bZ hS
    show rC e (aB t x) H = _; unfold rC
    rw [if_pos hu.2.kC]⟩
theorem jR.box {p : PV} {cs : List PV} (hp : lI τ p cs) (hx : aS fl x = some p := by rfl) : jR P fl (.box e x) (.var cs) :=
  ⟨rfl, fun h S t hs bZ hS => by
    obtain ⟨h1, h2, h3⟩ := hp.ok (hs x (by simp [Op.operands]) _ hx); refine ⟨fun k => .pointer (some ⟨k, 0, none⟩), .row e (aB t x).cells.toList true false, fun _ => rfl, fun S' hN hm => ?_, fun H _ _ _ _ _ => ?_⟩
    . exact ⟨h.next, e, _, rfl, hm, by rw [U.bQ, if_pos rfl], h1.nx hN, h3⟩
    show rC e (aB t x) H = _; unfold rC
    rw [if_pos h3]⟩
def wP : (τ : Ty) -> τ.den
  | .int _ => (0 : Int)
  | .bool => false
  | .str => ByteArray.empty
  | .aO _ => (0 : Nat)
  | .sl _ => []
  | .mp _ _ => []
  | .fn => none
  | .kS => none
  | .pair a b => (wP a, wP b)
  | .unit => ()
def pK : Ty -> List Value
  | .int k => [.int k 0]
  | .bool => [.bool false]
  | .str => [.string ByteArray.empty]
  | .aO k => [.float k 0]
  | .sl _ => [.slice none 0 0]
  | .mp _ _ => [.map none]
  | .fn => [.nilFunc]
  | .kS => [.slice none 0 0]
  | .pair a b => pK a ++ pK b
  | .unit => []
theorem qG (h : U) (S : List Nat) : ∀ (τ : Ty), cG h S τ (pK τ) (wP τ) /\ (pK τ).all eD = true
  | .int _ => ⟨rfl, rfl⟩
  | .bool => ⟨rfl, rfl⟩
  | .str => ⟨rfl, rfl⟩
  | .aO _ => ⟨rfl, rfl⟩
  | .sl _ => ⟨⟨_, rfl, .inl ⟨rfl, rfl⟩⟩, rfl⟩
  | .mp _ _ => ⟨⟨_, rfl, .inl ⟨rfl, rfl⟩⟩, rfl⟩
  | .fn => ⟨rfl, rfl⟩
  | .kS => ⟨rfl, rfl⟩
  | .unit => ⟨rfl, rfl⟩
  | .pair a b => by
    obtain ⟨a1, a2⟩ := qG h S a; obtain ⟨b1, b2⟩ := qG h S b; refine ⟨⟨?_, ?_⟩, ?_⟩
    . show cG h S a ((pK a ++ pK b).take a.size) _; rw [List.take_left' a1.len]; exact a1
    . show cG h S b ((pK a ++ pK b).drop a.size) _; rw [List.drop_left' a1.len]; exact b1
    show (pK a ++ pK b).all eD = true; rw [List.all_append, a2, b2]; rfl
structure r6 (P : Program) (e : TypeId) (τ : Ty) : Prop where
  zero : ∃ z, (P.info? e).bind (·.zero) = some z /\ z.cells.toList = pK τ /\ fZ z = τ.agg
theorem nX {z : Value} (hz : (P.info? e).bind (·.zero) = some z) (hc : z.cells.toList = pK τ) (ha : fZ z = τ.agg) : r6 P e τ := ⟨z, hz, hc, ha⟩
theorem ON {u : Value} (h : u.cells.toList.all eD = true) : af u = true /\ u.cells.toList.all aN = true := by
  refine ⟨?_, DL h⟩
  cases u with
  | agg cs => exact h
  | tuple vs => simp [Value.cells, eD] at h
  | _ => simpa [Value.cells, af, oX] using h
theorem jR.alloc (hZ : r6 P e τ) : jR P fl (.alloc e) (.var (j5 τ (wP τ))) :=
  ⟨rfl, fun h S t hs bZ hS => by
    obtain ⟨z, h1, h2, h3⟩ := hZ.zero; obtain ⟨z1, z2⟩ := qG h S τ; obtain ⟨a1, a2⟩ := ON (u := z) (by rw [h2]; exact z2); refine ⟨fun k => .pointer (some ⟨k, 0, none⟩), .row e z.cells.toList true false, fun _ => rfl, fun S' hN hm => ?_, fun H _ _ _ _ _ => ?_⟩
    . exact ⟨h.next, e, _, rfl, hm, by rw [U.bQ, if_pos rfl], by have := (mL z1).nx hN; rwa [<- h2] at this, a2⟩
    show (match (P.info? e).bind (·.zero) with | some z => if af z then rC e z H else none | none => none) = _; rw [h1]; simp only [a1, if_true]; unfold rC
    rw [if_pos a2]⟩
theorem H7 {z : Value} (hz : 0 < z.cells.size) : ∀ n : Nat, bR z n = (List.replicate n z.cells.toList).flatten
  | 0 => by simp [bR]
  | n + 1 => by
    have ih := H7 hz n; unfold bR at ih ⊢; rw [List.replicate_succ', List.flatten_append, <- ih, Nat.add_mul, Nat.one_mul, List.range_add, List.map_append]; congr 1; refine List.ext_getElem (by simp) fun i h1 h2 => ?_
    have hi : i < z.cells.size := by simpa using h1
    simp only [List.getElem_map, List.getElem_range, List.flatten_cons, List.flatten_nil, List.append_nil, List.map_map]
    have h3 : (n * z.cells.size + i) % z.cells.size = i := by rw [Nat.mul_comm, Nat.mul_add_mod, Nat.mod_eq_of_lt hi]
    simp only [Function.comp, List.getElem_range, h3]; rw [getElem!_pos z.cells i hi]; simp
theorem L0 {cs : List Value} {dx : τ.den} (hx : cG h S τ cs dx) : ∀ n : Nat, bM h S τ (List.replicate n cs).flatten (List.replicate n dx)
  | 0 => bM.nil
  | n + 1 => by
    have h1 : bM h S τ cs [dx] := ⟨by simpa using hx.len, fun i hi => by
      obtain rfl : i = 0 := by simpa using hi
      simp only [Nat.zero_mul, List.drop_zero, List.getElem_cons_zero]; rw [List.take_of_length_le (by rw [hx.len]; exact Nat.le_refl _)]
      exact hx⟩
    have := h1.append (L0 hx n); simpa [List.replicate_succ] using this
theorem jR.make {k : Nat} (hx : aS fl x = some (.v (.int .i64) ((k : Nat) : Int))) (hy : aS fl y = some (.v (.int .i64) ((k : Nat) : Int))) (hT : fO P T e τ) (hZ : r6 P e τ) (hk : k <= 1000000) : jR P fl (.makeSlice T x y) (.row e τ (List.replicate k (wP τ))) :=
  ⟨rfl, fun h S t hs bZ hS => by
    have u1 := aE.int (hs x (by simp [Op.operands]) _ hx); have u2 := aE.int (hs y (by simp [Op.operands]) _ hy); obtain ⟨z, h1, h2, h3⟩ := hZ.zero; obtain ⟨i, z', mJ, jQ, IJ, vD, AQ, BJ, IK⟩ := hT.sl.info
    obtain rfl : z' = z := by
      rw [mJ] at h1; simpa [AQ] using h1
    have oM := hT.sl.pos; refine ⟨fun m => .slice (some ⟨m, 0, none⟩) k 0, .row e (bR z' k) true false, fun _ => rfl, fun S' hN hm => ?_, fun H _ _ _ _ _ => ?_⟩
    . refine .inr ⟨h.next, _, false, by simp, hm, by rw [U.bQ, if_pos rfl], ?_⟩; rw [H7 (by omega), h2]; exact L0 (qG _ _ τ).1 k
    show oY P T (aB t x) (aB t y) H = _; rw [u1, u2]; unfold oY; simp only [hT.sl.sl, mJ, AQ]
    have hb : i.bytes * k <= 1099511627776 := by
      have := Nat.mul_le_mul vD hk; omega
    have hc : (decide (0 <= ((k : Nat) : Int)) && decide (((k : Nat) : Int) <= ((k : Nat) : Int)) && decide (((k : Nat) : Int) <= 1099511627776) && Nat.ble (i.bytes * ((k : Nat) : Int).toNat) 1099511627776 && Nat.blt 0 i.size && Nat.beq z'.cells.size i.size && z'.cells.toList.all eD) = true := by
      have e1 : Nat.ble (i.bytes * ((k : Nat) : Int).toNat) 1099511627776 = true := by rw [Nat.ble_eq, Int.toNat_natCast]; exact hb
      have e2 : Nat.blt 0 i.size = true := by show Nat.ble 1 i.size = true; rw [Nat.ble_eq, jQ]; exact oM
      rw [e1, e2, BJ, jQ, Nat.beq_refl, IK]; simp; omega
    rw [hc]
    rfl⟩
def L3 (pl : List (Nat × Nat)) : List PV -> List Nat -> List PV -> Option (List PV)
  | L, [], [] => some L
  | L, i :: is, p :: ps => match pl[i]? with
    | some (o, s) => bif Nat.ble (o + s) L.length then
        (match p with
        | .v τ x => bif Nat.beq τ.size s then L3 pl (DP L o (j5 τ x)) is ps else none
        | .raw (.slice none 0 0) => bif Nat.beq s 1 then (match L[o]? with | some (.v (.sl _) []) => L3 pl L is ps | _ => none) else none
        | _ => none)
      else none
    | none => none
  | _, _, _ => none
structure L4 (P : Program) (T : TypeId) (τ : Ty) (pl : List (Nat × Nat)) : Prop where
  zer : r6 P T τ
  agg : τ.agg = true
  run : ∀ (z : Value) (parts : Array (Nat × Value)) (cs : Array Value), (P.info? T).bind (·.zero) = some z -> Instr.fill (pl[·]?) z.cells parts.toList = some cs -> aD P (Instr.build T parts) = some (.agg cs)
def plB (P : Program) (T : TypeId) : Option (List (Nat × Nat)) :=
  match P.underlying T with
  | some (.struct fields) => (aD P (fields.mapM fun f => do pure (f.offset, <- sizeOf f.type))).map (·.toList)
  | some (.array n e) => (P.info? e).map fun i => (List.range n).map fun j => (j * i.size, i.size)
  | _ => none
theorem L5 {pl pl' : Nat -> Option (Nat × Nat)} (hp : ∀ i q, pl i = some q -> pl' i = some q) : ∀ (ps : List (Nat × Value)) (cells out : Array Value), Instr.fill pl cells ps = some out -> Instr.fill pl' cells ps = some out
  | [], cells, out, hf => hf
  | (i, v) :: rest, cells, out, hf => by
    unfold Instr.fill at hf ⊢
    cases hq : pl i with
    | none => rw [hq] at hf; cases hf
    | some q =>
      rw [hq] at hf; rw [hp i q hq]; obtain ⟨o, sz⟩ := q; simp only at hf ⊢; split at hf
      . cases hf
      rename_i cA; rw [if_neg cA]; exact L5 hp rest _ out hf
theorem L6 {z : Value} (hz : (P.info? T).bind (·.zero) = some z) : aD P (zeroValue T) = some z := by
  obtain ⟨i, hi, hzi⟩ := Option.bind_eq_some_iff.1 hz; unfold zeroValue; rw [aC, tY hi]; simp only [Option.bind_some, hzi]; rfl
theorem DR {pl : List (Nat × Nat)} (hZ : r6 P T τ) (ha : τ.agg = true) (hp : plB P T = some pl) : L4 P T τ pl := by
  refine ⟨hZ, ha, fun z parts cs hz hf => ?_⟩; unfold plB at hp; split at hp
  . rename_i fields hu; obtain ⟨places, h1, h2⟩ := Option.map_eq_some_iff.1 hp; refine KP hu (L6 hz) h1 ?_; rw [<- hf]; congr 1; funext i; rw [<- h2]; simp
  . rename_i m e hu; obtain ⟨i, hi, h2⟩ := Option.map_eq_some_iff.1 hp
    have WD : Instr.fill (fun j => some (j * i.size, i.size)) z.cells parts.toList = some cs := L5 (fun j q hq => by
      rw [<- h2] at hq; simp only [List.getElem?_map] at hq; obtain ⟨k, hk, rfl⟩ := Option.map_eq_some_iff.1 hq; obtain ⟨hk1, rfl⟩ := List.getElem?_eq_some_iff.1 hk
      simp) _ _ _ hf
    have dR : aD P (sizeOf e) = some i.size := iD hi; unfold Instr.build; simp only [aC, L6 hz, aK hu, Option.bind_some, dR, WD]; rfl
  cases hp
theorem FO {pl : List (Nat × Nat)} : ∀ {is : List Nat} {ps : List PV} {us : List Value} {L L' : List PV} {cs : List Value}, L3 pl L is ps = some L' -> bA h S ps us -> bA h S L cs -> cs.all aN = true ->
    ∃ cs', Instr.fill (pl[·]?) cs.toArray (is.zip us) = some cs'.toArray /\ bA h S L' cs' /\ us.all (fun u => u.cells.toList.all aN) = true /\ is.length = us.length
  | [], [], us, L, L', cs, hb, hp, hL, ho => by
    obtain rfl : us = [] := hp; obtain rfl := Option.some.inj hb
    exact ⟨cs, rfl, hL, rfl, rfl⟩
  | i :: is, p :: ps, us, L, L', cs, hb, ⟨u, r, h1, h2, h3⟩, hL, ho => by
    subst h1; have hlen := hL.len; simp only [L3] at hb; split at hb
    . rename_i o s hpl
      cases JT : Nat.ble (o + s) L.length with
      | false => rw [JT] at hb; cases hb
      | true =>
        rw [JT] at hb; have I7 := fY JT; simp only [cond_true] at hb; split at hb
        . rename_i τ x
          cases hs : Nat.beq τ.size s with
          | false => rw [hs] at hb; cases hb
          | true =>
            rw [hs] at hb; simp only [cond_true] at hb; obtain rfl := bV hs; have hu : aE h S τ u x := h2; have FF : u.cells.toList.length = τ.size := hu.2.len
            have XJ : u.cells.size = τ.size := by simpa using FF
            obtain ⟨cs', f1, f2, f3, f4⟩ := FO hb h3 (hL.DP o (mL hu.2)) (tZ o ho hu.2.kC); refine ⟨cs', ?_, f2, by rw [List.all_cons, hu.2.kC, f3]; rfl, by simp [f4]⟩; simp only [List.zip_cons_cons, Instr.fill, hpl]
            have h9 : (u.cells.size ≠ τ.size || o + u.cells.size > cs.toArray.size) = false := by simp [XJ]; omega
            rw [h9]; simp only [Bool.false_eq_true, if_false]
            have vF : u.cells.zipIdx.foldl (fun (cs : Array Value) (p : Value × Nat) => cs.setIfInBounds (o + p.2) p.1) cs.toArray = (bF cs o u.cells.toList).toArray := by
              have e0 : cs = cs.take o ++ ((cs.drop o).take τ.size) ++ cs.drop (o + τ.size) := by
                rw [<- List.drop_drop, List.append_assoc, List.take_append_drop, List.take_append_drop]
              have := DK τ.size o u (cs.take o) ((cs.drop o).take τ.size) (cs.drop (o + τ.size)) (by rw [List.length_take]; omega) (by rw [List.length_take, List.length_drop]; omega) XJ; rw [<- e0] at this; rw [this]; unfold bF; rw [FF]
            rw [vF]; exact f1
        . cases hs : Nat.beq s 1 with
          | false => rw [hs] at hb; cases hb
          | true =>
            rw [hs] at hb; simp only [cond_true] at hb; obtain rfl := bV hs; split at hb
            . rename_i ee hLo; obtain rfl : u = .slice none 0 0 := h2
              obtain ⟨cs', f1, f2, f3, f4⟩ := FO (cs := bF cs o [.slice none 0 0]) hb h3 (by
                have := hL.DP o (show bA h S [.v (.sl ee) []] [.slice none 0 0] from ⟨_, [], rfl, k9.nil.rep, rfl⟩)
                have e9 : DP L o [.v (.sl ee) []] = L := by
                  unfold Fs.DP
                  have SO : o < L.length := by omega
                  have hg : L[o] = .v (.sl ee) [] := by rw [List.getElem?_eq_getElem SO] at hLo; exact Option.some.inj hLo
                  rw [<- hg]; simp only [List.length_cons, List.length_nil, Nat.zero_add, List.cons_append, List.nil_append]; rw [<- List.drop_eq_getElem_cons SO, List.take_append_drop]
                rwa [e9] at this) (tZ o ho rfl)
              refine ⟨cs', ?_, f2, by rw [List.all_cons, f3]; rfl, by simp [f4]⟩; simp only [List.zip_cons_cons, Instr.fill, hpl]
              have h9 : ((Value.slice none 0 0).cells.size ≠ 1 || o + (Value.slice none 0 0).cells.size > cs.toArray.size) = false := by simp [Value.cells]; omega
              rw [h9]; simp only [Bool.false_eq_true, if_false]
              have vF : (Value.slice none 0 0).cells.zipIdx.foldl (fun (cs : Array Value) (p : Value × Nat) => cs.setIfInBounds (o + p.2) p.1) cs.toArray = (bF cs o [.slice none 0 0]).toArray := by
                have e0 : cs = cs.take o ++ ((cs.drop o).take 1) ++ cs.drop (o + 1) := by
                  rw [<- List.drop_drop, List.append_assoc, List.take_append_drop, List.take_append_drop]
                have := DK 1 o (.slice none 0 0) (cs.take o) ((cs.drop o).take 1) (cs.drop (o + 1)) (by rw [List.length_take]; omega) (by rw [List.length_take, List.length_drop]; omega) rfl; rw [<- e0] at this; rw [this]; unfold bF; rfl
              rw [vF]; exact f1
            cases hb
        cases hb
    cases hb
  | [], p :: ps, us, L, L', cs, hb, _, _, _ => by simp [L3] at hb
  | i :: is, [], us, L, L', cs, hb, _, _, _ => by simp [L3] at hb
theorem zip_map {α β γ : Type} (f : α -> β) (k : α -> γ) : ∀ l : List α, (l.map f).zip (l.map k) = l.map fun a => (f a, k a)
  | [] => rfl
  | a :: l => by simp [zip_map f k l]
theorem aI.build {pl : List (Nat × Nat)} {parts : Array (Nat × Operand)} {ps : List PV} (dx : τ.den) (hT : L4 P T τ pl) (FJ : kI fl (parts.toList.map (·.2)) = some ps := by rfl) (hb : L3 pl (j5 τ (wP τ)) (parts.toList.map (·.1)) ps = some (j5 τ dx) := by rfl) : aI P fl σ (.build T parts) (.v τ dx) :=
  ⟨rfl, fun h S t hs _ => by
    obtain ⟨z, z1, z2, z3⟩ := hT.zer.zero; obtain ⟨y1, y2⟩ := qG h S τ; have hr : bA h S ps ((parts.toList.map (·.2)).map (aB t)) := wO (fun x hx => hs x (by simpa [Op.operands] using hx)) FJ; obtain ⟨cs', f1, f2, f3, f4⟩ := FO hb hr (mL y1) (DL y2); refine ⟨.agg cs'.toArray, ⟨by rw [hT.agg]; rfl, by simpa [Value.cells] using oQ f2⟩, fun _ _ _ _ _ H => ?_⟩; show (bif (parts.toList.all fun p => (aB t p.2).cells.toList.all aN) && ((((P.info? T).bind (·.zero)).map fun z => z.cells.toList.all eD) == some true) then (aD P (Instr.build T (parts.map fun p => (p.1, aB t p.2)))).map fun v => (v, H) else none) = _
    have c1 : (parts.toList.all fun p => (aB t p.2).cells.toList.all aN) = true := by
      rw [List.map_map, List.all_map] at f3; exact f3
    have c2 : ((((P.info? T).bind (·.zero)).map fun z => z.cells.toList.all eD) == some true) = true := by
      rw [z1]
      have e : z.cells.toList.all eD = true := by rw [z2]; exact y2
      simp only [Option.map_some, e]; rfl
    have eZ := hT.run z (parts.map fun p => (p.1, aB t p.2)) cs'.toArray z1 (by
      rw [<- f1, Array.toList_map, <- zip_map, List.map_map]; congr 1
      rw [<- z2])
    rw [c1, c2, eZ]
    rfl⟩
end Go.Fs
namespace Go.Fs
variable {P : Program} {orc : FuncId -> List Value -> U -> Option (Value × U)} {aY : Option Nat} {h h' h0 h1 h2 : U} {S S' S0 : List Nat} {σ σ' nW : aR} {t t' : Tr} {ms : List Nat} {fl : VL} {ops : Array Oper} {n i mem : Nat} {l : List Oper} {K : VL -> aR -> Prop} {Q : Ex -> VL -> aR -> Prop}
  {d : Tmp} {ty : TypeId} {pos : String} {after : Array Edge} {op : Op} {v pv : PV} {g : Option (Nat × Bool)} {x y z : Operand} {T T' e : TypeId} {τ dC : Ty} {bs nw : List Nat} {segs : List (Nat × Nat × Nat)} {tail so : Bool} {w w' : Value} {c c' : Cell}
abbrev I (n : Int) : PV := .v (.int .i64) n
abbrev B (b : Bool) : PV := .v .bool b
abbrev D (p : Prop) [Decidable p] : PV := .v .bool (decide p)
abbrev St (s : ByteArray) : PV := .v .str s
abbrev xO : PV := .raw (.slice none 0 0)
theorem m0 {a : Value × Cell} {r : aR} : a ∈ a :: r := List.mem_cons_self
theorem m1 {a b : Value × Cell} {r : aR} : b ∈ a :: b :: r := List.mem_cons_of_mem _ m0
theorem m2 {a b c : Value × Cell} {r : aR} : c ∈ a :: b :: c :: r := List.mem_cons_of_mem _ m1
theorem m3 {a b c d : Value × Cell} {r : aR} : d ∈ a :: b :: c :: d :: r := List.mem_cons_of_mem _ m2
theorem iL {a b : Value × Cell} {r : aR} : (a :: b :: r).Perm (b :: a :: r) := List.Perm.swap b a r
theorem wQ {a b c : Value × Cell} {r : aR} : (a :: b :: c :: r).Perm (c :: a :: b :: r) := ((List.Perm.swap c b r).cons a).trans (List.Perm.swap c a (b :: r))
theorem rJ {a b c d : Value × Cell} {r : aR} : (a :: b :: c :: d :: r).Perm (d :: a :: b :: c :: r) := (wQ.cons a).trans (List.Perm.swap d a (b :: c :: r))
theorem aI.ixD {xs : List τ.den} {j : Nat} (hx : aS fl x = some (.v (.sl τ) xs)) (hy : aS fl y = some (.v (.int .i64) ((j : Nat) : Int))) (d0 : τ.den) (hT : fO P T e τ) (hj : j < xs.length) : aI P fl σ (.indexAddr T x y) (.p τ (xs.getD j d0)) := by
  have := aI.ix (σ := σ) hx hy hT hj
  rwa [show xs[j] = xs.getD j d0 by simp [hj]] at this
def TR (b : Bool) (fl : VL) : VL -> Prop
  | [] => True
  | (k, v) :: r => kT fl k = some (.gd b v) /\ TR b fl r
theorem eQ.there {b : Bool} {t : Tr} {fl : VL} (hs : eQ h S t fl) (hb : b = true) : ∀ {nw : VL}, TR b fl nw -> eQ h S t (nw ++ fl)
  | [], _ => hs
  | (k, v) :: r, hn => (eQ.there hs hb hn.2).cons ((hs k _ hn.1 : aH h S (.gd b v) (t.get k)).1 hb)
theorem J.cg {j : Nat} {w r : Bool} {k : Tmp} (nw : VL) (hnw : TR (r == w) fl nw) (hs : (r == w) = true -> aI P (nw ++ fl) σ op v) (hk : J P orc ops n l ((d, .gd (r == w) v) :: fl) σ K) (hj : (ops[j]?).bind (·.dst) = some k := by rfl) (hr : kT fl k = some (.v .bool r) := by rfl) (hn : (Nat.blt d n && Nat.ble n 4000) = true := by rfl) :
    J P orc ops n (⟨some d, op, ty, pos, after, some (j, w)⟩ :: l) fl σ K := fun h0 G S0 t h ms eF => by
  obtain ⟨n1, n2⟩ := fits hn; have hw : bL ops t ⟨some d, op, ty, pos, after, some (j, w)⟩ = some (r == w) := cC eF.aJ (by unfold cV; simp only [hj, hr])
  cases vG : (r == w) with
  | true =>
    obtain ⟨u, h1, h2⟩ := (hs vG).2 h _ t (eF.aJ.there vG hnw).tB eF.cells; refine lZ.op (by rw [hw, vG]) (h2 _ _ _ _ _ h) (bU n1 t u) (hk h0 G S0 _ h ms ?_); rw [vG]
    exact eF.set (show aH _ _ (.gd true v) u from ⟨fun _ => h1, fun e => by cases e⟩) n2
  | false =>
    refine lZ.skip (by rw [hw, vG]) (bU n1 t undef) (hk h0 G S0 _ h ms ?_); rw [vG]; exact eF.set (show aH _ _ (.gd false v) undef from ⟨fun e => (by cases e), fun _ => rfl⟩) n2
theorem J.rg {j : Nat} {w r : Bool} {k : Tmp} (nw : VL) (hnw : TR (r == w) fl nw) (hs : (r == w) = true -> cJ P (nw ++ fl) σ op v) (hk : J P orc ops n l ((d, .gd (r == w) v) :: fl) σ K) (hj : (ops[j]?).bind (·.dst) = some k := by rfl) (hr : kT fl k = some (.v .bool r) := by rfl) (hn : (Nat.blt d n && Nat.ble n 4000) = true := by rfl) :
    J P orc ops n (⟨some d, op, ty, pos, after, some (j, w)⟩ :: l) fl σ K := fun h0 G S0 t h ms eF => by
  obtain ⟨n1, n2⟩ := fits hn; have hw : bL ops t ⟨some d, op, ty, pos, after, some (j, w)⟩ = some (r == w) := cC eF.aJ (by unfold cV; simp only [hj, hr])
  cases vG : (r == w) with
  | true =>
    obtain ⟨u, h1, h2⟩ := (hs vG).2 h _ t (eF.aJ.there vG hnw).tB eF.cells; refine lZ.op (by rw [hw, vG]) (h2 h (fun _ _ x => x) _ _ _ _ _) (bU n1 t u) (hk h0 G S0 _ h ms ?_); rw [vG]
    exact eF.set (show aH _ _ (.gd true v) u from ⟨fun _ => h1, fun e => by cases e⟩) n2
  | false =>
    refine lZ.skip (by rw [hw, vG]) (bU n1 t undef) (hk h0 G S0 _ h ms ?_); rw [vG]; exact eF.set (show aH _ _ (.gd false v) undef from ⟨fun e => (by cases e), fun _ => rfl⟩) n2
theorem J.L7 {j : Nat} {w r0 : Bool} {k : Tmp} {f : Operand} {args : Array Operand} {mC : Array TypeId} {F F' r : PV} {asl NF : List PV} (nw : VL) (hnw : TR (r0 == w) fl nw) (hf : aS (nw ++ fl) f = some F) (ha : kI (nw ++ fl) args.toList = some asl) (cF : Co σ F F') (ca : uQ σ asl NF) (hr : r.flat = true) (hc : (r0 == w) = true -> qE P orc F' NF r)
    (hk : J P orc ops n l ((d, .gd (r0 == w) r) :: fl) σ K) (hj : (ops[j]?).bind (·.dst) = some k := by rfl) (hr0 : kT fl k = some (.v .bool r0) := by rfl) (hn : (Nat.blt d n && Nat.ble n 4000) = true := by rfl) : J P orc ops n (⟨some d, .call { callee := .value f, args := args, argTypes := mC }, ty, pos, after, some (j, w)⟩ :: l) fl σ K := fun h0 G S0 t h ms eF => by
  obtain ⟨n1, n2⟩ := fits hn; have hw : bL ops t ⟨some d, .call { callee := .value f, args := args, argTypes := mC }, ty, pos, after, some (j, w)⟩ = some (r0 == w) := cC eF.aJ (by unfold cV; simp only [hj, hr0])
  cases vG : (r0 == w) with
  | true =>
    have L := eF.lc; have vB := eF.aJ.there vG hnw; obtain ⟨ND, a, c, h1, h2⟩ := (hc vG).ev eF.ok L.s0 (cF.ok L.cells L.sep (dL vB hf)) (ca.ok L.cells L.sep (r4 vB ha)); refine lZ.call (by rw [hw, vG]) rfl rfl h1 (h2.mono fun u h' hq => ?_); obtain ⟨_, q2, q3⟩ := hq; obtain rfl := q3 hr; refine ⟨_, bU n1 t u, hk h0 G S0 _ h' ms ?_⟩; rw [vG]
    exact eF.set (show aH _ _ (.gd true r) u from ⟨fun _ => (q2.flat hr).2 _ _, fun e => by cases e⟩) n2
  | false =>
    refine lZ.skip (by rw [hw, vG]) (bU n1 t undef) (hk h0 G S0 _ h ms ?_); rw [vG]; exact eF.set (show aH _ _ (.gd false r) undef from ⟨fun e => (by cases e), fun _ => rfl⟩) n2
theorem aI.or {r s : Bool} (hz : aS fl z = some (.v .bool r) := by rfl) (hx : aS fl x = some (.v .bool true) := by rfl) (hy : aS fl y = some (.gd (r == false) (.v .bool s)) := by rfl) : aI P fl σ (.pick z x y) (.v .bool (r || s)) := ⟨rfl, fun h S t hs _ => by
  have h1 := (hs z (by simp [Op.operands]) _ hz : aH h S (.v .bool r) _).bool; have h2 := (hs x (by simp [Op.operands]) _ hx : aH h S (.v .bool true) _).bool; have h3 : aH h S (.gd (r == false) (.v .bool s)) (aB t y) := hs y (by simp [Op.operands]) _ hy; refine ⟨.bool (r || s), aE.ofBool _, fun _ _ _ _ _ H => ?_⟩; show (match aB t z with | .bool true => some (aB t x, H) | .bool false => some (aB t y, H) | _ => none) = _; rw [h1, h2]
  cases r with
  | true => rfl
  | false =>
    have := (h3.1 rfl : aH h S (.v .bool s) _).bool
    rw [this]; rfl⟩
theorem aI.and {r s : Bool} (hz : aS fl z = some (.v .bool r) := by rfl) (hy : aS fl y = some (.v .bool false) := by rfl) (hx : aS fl x = some (.gd (r == true) (.v .bool s)) := by rfl) : aI P fl σ (.pick z x y) (.v .bool (r && s)) := ⟨rfl, fun h S t hs _ => by
  have h1 := (hs z (by simp [Op.operands]) _ hz : aH h S (.v .bool r) _).bool; have h2 := (hs y (by simp [Op.operands]) _ hy : aH h S (.v .bool false) _).bool; have h3 : aH h S (.gd (r == true) (.v .bool s)) (aB t x) := hs x (by simp [Op.operands]) _ hx; refine ⟨.bool (r && s), aE.ofBool _, fun _ _ _ _ _ H => ?_⟩; show (match aB t z with | .bool true => some (aB t x, H) | .bool false => some (aB t y, H) | _ => none) = _; rw [h1, h2]
  cases r with
  | false => rfl
  | true =>
    have := (h3.1 rfl : aH h S (.v .bool s) _).bool
    rw [this]; rfl⟩
theorem J.go {b : Code} (hx : VC P orc aY b n fl σ Q) : J P orc ops n [] fl σ fun fl σ => KT P orc aY n b Q .normal fl σ := J.nil hx
theorem VD.go {b : Code} (hx : VC P orc aY b n fl σ Q) : VD P orc ops n [] i fl nw σ so bs mem tail fun fl σ => KT P orc aY n b Q .normal fl σ := VD.nil hx
def akY (flJ : VL) (σJ : aR) (Q : Ex -> VL -> aR -> Prop) : Ex -> VL -> aR -> Prop
  | .normal, fl, σ => TI fl flJ /\ σ = σJ
  | .exit i, fl, σ => Q (.exit i) fl σ
  | .ret, fl, σ => Q .ret fl σ
theorem VC.join {a : Code} (flJ : VL) (σJ : aR) (ha : VC P orc aY a n fl σ (akY flJ σJ Q)) (hb : Q .normal flJ σJ) : VC P orc aY a n fl σ Q := fun h0 G S0 t h ms eF => (ha h0 G S0 t h ms eF).mono fun e fr h' hq => by
  obtain ⟨hn, eS, σ', I', q⟩ := hq
  cases e with
  | normal =>
    obtain ⟨q1, rfl⟩ := q
    exact ⟨hn, flJ, σ', I'.sub flJ (zT q1), hb⟩
  | exit i => exact ⟨hn, eS, σ', I', q⟩
  | ret => exact ⟨hn, eS, σ', I', q⟩
theorem aW.one {fn : Func} {r : ResultVar} {p q : PV} (hr : fn.results = #[r]) (h1 : tC P fl σ r p) (he : p = q) : aW P fn q .ret fl σ := ⟨rfl, [p], by rw [hr]; exact .cons h1 .nil, he⟩
theorem aW.two {fn : Func} {r r' : ResultVar} {p p' q q' : PV} (hr : fn.results = #[r, r']) (h1 : tC P fl σ r p) (h2 : tC P fl σ r' p') (he : p = q) (lP : p' = q') : aW P fn (.oD [q, q']) .ret fl σ := ⟨rfl, [p, p'], by rw [hr]; exact .cons h1 (.cons h2 .nil), by rw [he, lP]; rfl⟩
theorem aW.three {fn : Func} {r r' r'' : ResultVar} {p p' p'' q q' q'' : PV} (hr : fn.results = #[r, r', r'']) (h1 : tC P fl σ r p) (h2 : tC P fl σ r' p') (h3 : tC P fl σ r'' p'') (he : p = q) (lP : p' = q') (amS : p'' = q'') : aW P fn (.oD [q, q', q'']) .ret fl σ := ⟨rfl, [p, p', p''], by rw [hr]; exact .cons h1 (.cons h2 (.cons h3 .nil)), by rw [he, lP, amS]; rfl⟩
theorem fF {a b : τ.den} (h : a = b) : PV.v τ a = PV.v τ b := by rw [h]
theorem rK {k : Nat} {a b : τ.den} (hk : kT fl k = some (.v τ a)) (h : a = b) : kT fl k = some (.v τ b) := by rw [hk, h]
theorem bP {i : Nat} {p : PV} (hi : kT fl i = some p := by rfl) : tC P fl σ (.tmp i) p := .tmp hi .same
theorem L8 {i : Nat} {p p' : PV} (hc : Co σ p p') (hi : kT fl i = some p := by rfl) : tC P fl σ (.tmp i) p' := .tmp hi hc
theorem VF.law {f : FuncId} {args : List PV} {us : List Value} (hv : VF P orc f args (.v .bool true)) (bZ : nK h) (hr : bA h [] args us) : qW P orc f us h fun r h' => r = .bool true /\ h' = h :=
  (hv h [] us bZ (fun b hb => by cases hb) hr).mono fun u h' ⟨_, h2, h3⟩ => ⟨aE.bool h2, h3 rfl⟩
end Go.Fs
namespace Go.Fs
variable {P : Program} {orc : FuncId -> List Value -> U -> Option (Value × U)} {aY : Option Nat} {h h' h0 h1 h2 : U} {S S' S0 : List Nat} {σ σ' nW γ gN : aR} {t t' : Tr} {ms : List Nat} {fl : VL} {ops : Array Oper} {n i mem : Nat} {l : List Oper} {K : VL -> aR -> Prop} {Q : Ex -> VL -> aR -> Prop}
  {d : Tmp} {ty : TypeId} {pos : String} {after : Array Edge} {op : Op} {v pv : PV} {g : Option (Nat × Bool)} {x y z : Operand} {T T' e : TypeId} {τ dC : Ty} {bs nw : List Nat} {segs : List (Nat × Nat × Nat)} {tail so : Bool} {w w' : Value} {c c' : Cell}
theorem cT.xP {k : Nat} {xs ys : List τ.den} (hT : fO P T e τ) (FM : fO P T' e τ) (hx : aS fl x = some (.raw w)) (hy : aS fl y = some (.v (.sl τ) ys)) (hc : xs.length + ys.length <= k) (dR : k <= 1000000) :
    cT P fl ((w, .cap e k τ xs) :: σ) (.call { callee := .builtin .append, args := #[x, y], argTypes := #[T, T'] }) fun v σ' => ∃ w', v = .raw w' /\ σ' = (w', .cap e k τ (xs ++ ys)) :: σ :=
  ⟨rfl, fun S0 h t L => by
    have h1 : aB t x = w := dL L.aJ hx; have hw := aE.sl (dL L.aJ hy : aE h _ (.sl τ) (aB t y) ys); obtain ⟨b, rs, mm, hwv, h2, h4, h5, h6, h7⟩ := L.cells _ List.mem_cons_self; have afQ : w = .slice (some ⟨b, 0, none⟩) xs.length 0 := hwv
    have pX : dX w = [b] := by rw [afQ]; rfl
    have bT : ∀ u h', fM P #[T, T'] w (aB t y) h = some (u, h') -> ∀ (d : Option Tmp) (ty : TypeId) (pos : String) (after : Array Edge) (g : Option (Nat × Bool)), gG P ⟨d, .call { callee := .builtin .append, args := #[x, y], argTypes := #[T, T'] }, ty, pos, after, g⟩ (aB t) h = some (u, h') := fun u h' e _ _ _ _ _ => by
      show fM P #[T, T'] (aB t x) (aB t y) h = _; rw [h1, e]
    obtain ⟨i, z, mJ, jQ, IJ, vD, AQ, BJ, IK⟩ := hT.sl.info; have oM := hT.sl.pos
    have zW : (xs.length + ys.length) * i.bytes <= 274877906944 := by
      have := Nat.mul_le_mul (show xs.length + ys.length <= 1000000 by omega) vD; omega
    have ZU : (xs.length + ys.length) * τ.size = xs.length * τ.size + ys.length * τ.size := Nat.add_mul _ _ _; have hle : (xs.length + ys.length) * τ.size <= k * τ.size := Nat.mul_le_mul_right _ hc; have e2 : Nat.beq e e = true := Nat.beq_refl _
    have e3 : Nat.ble ((xs.length + ys.length) * i.bytes) 274877906944 = true := by rw [Nat.ble_eq]; exact zW
    have e4 : Nat.ble (0 + xs.length * i.size) rs.length = true := by rw [Nat.ble_eq, jQ]; omega
    have e5 : Nat.ble (0 + (xs.length + ys.length) * i.size) rs.length = true := by rw [Nat.ble_eq, jQ]; omega
    have e7 : Nat.beq 0 1 = false := rfl; have e8 : Nat.beq 0 0 = true := rfl
    have f1 : Nat.blt 0 τ.size = true := by show Nat.ble 1 τ.size = true; rw [Nat.ble_eq]; exact oM
    have f2 : Nat.blt 0 i.bytes = true := by show Nat.ble 1 i.bytes = true; rw [Nat.ble_eq]; exact IJ
    by_cases XK : 0 < ys.length
    . obtain ⟨b2, o, mk, e', rs2, ajN, more, hu, hb, hr, hl, FN⟩ := hw.row XK; have AN : 0 < ys.length * τ.size := Nat.mul_pos XK oM
      let news := (rs2.drop o).take (ys.length * τ.size)
      have uV : news.length = ys.length * τ.size := by show ((rs2.drop o).take (ys.length * τ.size)).length = _; rw [List.length_take, List.length_drop]; omega
      have hE : bM h (own ((w, .cap e k τ xs) :: σ) ++ S0) τ news ys := by
        refine ⟨uV, fun j hj => ?_⟩; have h9 : (j + 1) * τ.size <= ys.length * τ.size := Nat.mul_le_mul_right _ hj; rw [Nat.add_mul] at h9; have := FN j hj; show cG h _ τ ((((rs2.drop o).take (ys.length * τ.size)).drop (j * τ.size)).take τ.size) ys[j]; rw [List.drop_take, List.take_take, List.drop_drop, Nat.min_eq_left (by omega)]; exact this
      have lF : news.all aN = true := hE.kC; have pG : gB i z (isInt (.slice e)) (.slice (some ⟨b2, o, none⟩) ys.length mk) h = some (ys.length, news) := AX (e := e') jQ (by omega) hr (Nat.le_refl _) hl rfl rfl; refine ⟨.slice (some ⟨b, 0, none⟩) (xs.length + ys.length) 0, h.set b (.row e (bF rs (0 + xs.length * i.size) news) true mm), .raw (.slice (some ⟨b, 0, none⟩) (xs.length + ys.length) 0), _, ⟨_, rfl, rfl⟩, Made.head L (cI.set h4 (by rw [pX]; simp)) (fun b' yK => .inl (by rw [pX]; simpa [dX] using yK)) (by simp [dX]) fun hN => ?_, rfl, bT _ _ ?_⟩
      . refine ⟨b, bF rs (0 + xs.length * i.size) news, mm, by simp, List.mem_append_left _ (by rw [cO]; simp [dX]), by rw [U.cX h4, if_pos rfl], ?_, by rw [List.length_append]; exact hc, ?_⟩
        . unfold bF; rw [List.length_append, List.length_append, List.length_take, List.length_drop, uV, jQ]; omega
        have hz : (bF rs (0 + xs.length * i.size) news).take ((xs ++ ys).length * τ.size) = rs.take (xs.length * τ.size) ++ news := by
          unfold bF; rw [List.length_append, ZU, jQ, Nat.zero_add, List.take_append_of_le_length (by rw [List.length_append, List.length_take, uV]; omega), List.take_of_length_le (by rw [List.length_append, List.length_take, uV]; omega)]
        rw [hz]; exact (h7.append hE).nx hN
      rw [hu, afQ]; unfold fM; simp only [List.getElem?_toArray, List.getElem?_cons_zero, List.getElem?_cons_succ, hT.sl.sl, FM.sl.sl, mJ, AQ, pG, jQ]
      have FE : (Nat.blt 0 τ.size && Nat.blt 0 i.bytes && Nat.beq news.length (ys.length * τ.size) && news.all aN && Nat.beq z.cells.size τ.size) = true := by
        rw [f1, f2, uV, Nat.beq_refl, lF, BJ, Nat.beq_refl]; rfl
      have e0 : Nat.beq ys.length 0 = false := eE (by omega); rw [FE]; simp only [cond_true]; unfold o7; rw [jQ] at e4 e5; simp only [h4, e0, Bool.false_and, cond_false, jQ, e2, e3, e4, Bool.and_self, cond_true, e7, e8, e5]
    have hy0 : ys = [] := List.eq_nil_of_length_eq_zero (by omega); subst hy0
    have pG : gB i z (isInt (.slice e)) (aB t y) h = some (0, []) := by
      rcases hw with ⟨hu, _⟩ | ⟨b, o, mk, hu, _⟩
      . rw [hu]; simp [gB, isInt, mF, cellsOf]
      rw [hu]; simp only [gB, isInt, cond_false, mF, cellsOf, List.length_nil]; have e1 : Nat.ble 0 0 = true := rfl; simp [e1, cond_true, Nat.zero_mul]
    refine ⟨w, h, .raw w, _, ⟨w, rfl, rfl⟩, ?_, rfl, bT _ _ ?_⟩
    . rw [List.append_nil]; exact Made.same L (cI.refl _ _)
    rw [afQ]; unfold fM; simp only [List.getElem?_toArray, List.getElem?_cons_zero, List.getElem?_cons_succ, hT.sl.sl, FM.sl.sl, mJ, AQ, pG, jQ]
    have FE : (Nat.blt 0 τ.size && Nat.blt 0 i.bytes && Nat.beq ([] : List Value).length (0 * τ.size) && ([] : List Value).all aN && Nat.beq z.cells.size τ.size) = true := by
      rw [f1, f2, BJ, Nat.beq_refl, Nat.zero_mul]; rfl
    rw [FE]; simp only [cond_true]; unfold o7; simp only [List.length_nil, Nat.add_zero] at e3 e5; simp only [h4, e2, e3, e4, Bool.and_self, cond_true, e7, e8, Bool.and_false, cond_false, Nat.add_zero]
    try simp only [e3, e5, cond_true]⟩
theorem J.xP {k : Nat} {xs ys : List τ.den} (hx : aS fl x = some (.raw w)) (hy : aS fl y = some (.v (.sl τ) ys)) (hT : fO P T e τ) (FM : fO P T' e τ) (hc : xs.length + ys.length <= k) (dR : k <= 1000000) (hk : ∀ w', J P orc ops n l ((d, .raw w') :: fl) ((w', .cap e k τ (xs ++ ys)) :: σ) K)
    (hw : cV ops fl g = some true := by rfl) (hn : (Nat.blt d n && Nat.ble n 4000) = true := by rfl) :
    J P orc ops n (⟨some d, .call { callee := .builtin .append, args := #[x, y], argTypes := #[T, T'] }, ty, pos, after, g⟩ :: l) fl ((w, .cap e k τ xs) :: σ) K :=
  J.mk (cT.xP hT FM hx hy hc dR) (by rintro _ _ ⟨w', rfl, rfl⟩; exact hk w') hw hn
theorem cJ.OO (hT : fO P T e τ) (hx : aS fl x = some (.raw (.slice none 0 0)) := by rfl) : cJ P fl σ (.call { callee := .builtin .cap, args := #[x], argTypes := #[T] }) (.v (.int .i64) ((0 : Nat) : Int)) :=
  ⟨rfl, fun h S t hs _ => by
    have h1 : aB t x = .slice none 0 0 := hs x (by simp [Op.operands, Call.operands]) _ hx; refine ⟨_, aE.ofInt _ _, fun H _ _ _ _ _ _ => ?_⟩; show (J9 P #[T] (aB t x) H).map _ = _; rw [h1]
    simp [J9, hT.sl.sl]⟩
theorem cJ.ajO (hT : fO P T e τ) {hi : Operand} (hx : aS fl x = some (.raw (.slice none 0 0))) (hh : aS fl hi = some (.v (.int .i64) 0)) : cJ P fl σ (.slice T x none (some hi) none) (.raw (.slice none 0 0)) :=
  ⟨rfl, fun h S t hs _ => by
    have h1 : aB t x = .slice none 0 0 := hs x (by simp [Op.operands]) _ hx; have h2 := aE.int (hs hi (by simp [Op.operands]) _ hh); refine ⟨_, rfl, fun H _ _ _ _ _ _ => ?_⟩; show (bS P T (aB t x) none (some (aB t hi)) none H).map _ = _
    rw [h1, h2, TG hT H]; rfl⟩
theorem jR.grow {k : Nat} (hx : aS fl x = some (.raw (.slice none 0 0))) (hy : aS fl y = some (.v (.int .i64) ((k : Nat) : Int))) (hT : fO P T e τ) (hTi : P.underlying T' = some (.int .i64)) (h1 : 0 < k) (hk : k <= 1000000) :
    calm (.call { callee := .builtin .append, args := #[x, y], argTypes := #[T, T'] }) = false /\ ∀ (h : U) (S : List Nat) (t : Tr), yO h S t fl (.call { callee := .builtin .append, args := #[x, y], argTypes := #[T, T'] }) -> nK h -> (∀ b ∈ S, b < h.next) ->
    ∃ (o : bC), (∀ S', dA h S (h.push o) S' -> h.next ∈ S' -> cU (h.push o) S' (.slice (some ⟨h.next, 0, none⟩) 0 0) (.cap e k τ [])) /\ ∀ (H : U) (d : Option Tmp) (ty : TypeId) (pos : String) (after : Array Edge) (g : Option (Nat × Bool)), gG P ⟨d, .call { callee := .builtin .append, args := #[x, y], argTypes := #[T, T'] }, ty, pos, after, g⟩ (aB t) H = some (.slice (some ⟨H.next, 0, none⟩) k 0, H.push o) :=
  ⟨rfl, fun h S t hs bZ hS => by
    have u1 : aB t x = .slice none 0 0 := hs x (by simp [Op.operands, Call.operands]) _ hx; have u2 := aE.int (hs y (by simp [Op.operands, Call.operands]) _ hy); obtain ⟨i, z, mJ, jQ, IJ, vD, AQ, BJ, IK⟩ := hT.sl.info; have oM := hT.sl.pos
    have hb : k * i.bytes <= 274877906944 := by
      have := Nat.mul_le_mul hk vD; omega
    refine ⟨.row e (bR z k) true true, fun S' hN hm => ⟨h.next, bR z k, true, rfl, hm, by rw [U.bQ, if_pos rfl], by rw [oC, BJ], Nat.zero_le _, by simpa using bM.nil⟩, fun H _ _ _ _ _ => ?_⟩
    have pG : gB i z (isInt (.int .i64)) (.int .i64 (k : Nat)) H = some (k, bR z k) := by
      have hc : (decide (0 <= ((k : Nat) : Int)) && decide (((k : Nat) : Int) <= 1099511627776) && Nat.ble (k * i.bytes) 1099511627776 && z.cells.toList.all eD) = true := by
        have e1 : Nat.ble (k * i.bytes) 1099511627776 = true := by rw [Nat.ble_eq]; omega
        rw [e1, IK]; simp; omega
      simp only [gB, isInt, cond_true, Int.toNat_natCast]; rw [hc]; rfl
    show fM P #[T, T'] (aB t x) (aB t y) H = _; rw [u1, u2]; unfold fM; simp only [List.getElem?_toArray, List.getElem?_cons_zero, List.getElem?_cons_succ, hT.sl.sl, hTi, mJ, AQ, pG, jQ]; have lF : (bR z k).all aN = true := XG (DL IK) (by omega) k
    have hc : (Nat.blt 0 τ.size && Nat.blt 0 i.bytes && Nat.beq (bR z k).length (k * τ.size) && (bR z k).all aN && Nat.beq z.cells.size τ.size) = true := by
      have e1 : Nat.blt 0 τ.size = true := by show Nat.ble 1 τ.size = true; rw [Nat.ble_eq]; exact oM
      have e2 : Nat.blt 0 i.bytes = true := by show Nat.ble 1 i.bytes = true; rw [Nat.ble_eq]; exact IJ
      rw [e1, e2, oC, lF, BJ, Nat.beq_refl, Nat.beq_refl]; rfl
    rw [hc]; simp only [cond_true]; unfold o7; have e1 : Nat.beq k 0 = false := eE (by omega)
    have e2 : Nat.ble (k * i.bytes) 274877906944 = true := by rw [Nat.ble_eq]; exact hb
    simp only [e1, cond_false, e2, cond_true, grown]⟩
theorem J.grow {k : Nat} (hx : aS fl x = some (.raw (.slice none 0 0))) (hy : aS fl y = some (.v (.int .i64) ((k : Nat) : Int))) (hT : fO P T e τ) (hTi : P.underlying T' = some (.int .i64)) (h1 : 0 < k) (hk : k <= 1000000)
    (QK : ∀ b, J P orc ops n l ((d, .raw (.slice (some ⟨b, 0, none⟩) k 0)) :: fl) ((.slice (some ⟨b, 0, none⟩) 0 0, .cap e k τ []) :: σ) K) (hw : cV ops fl g = some true := by rfl) (hn : (Nat.blt d n && Nat.ble n 4000) = true := by rfl) :
    J P orc ops n (⟨some d, .call { callee := .builtin .append, args := #[x, y], argTypes := #[T, T'] }, ty, pos, after, g⟩ :: l) fl σ K := fun h0 G S0 t h ms eF => by
  have L := eF.lc; obtain ⟨o, e1, e2⟩ := (jR.grow (τ := τ) hx hy hT hTi h1 hk).2 h _ t eF.aJ.tB eF.ok L.lt; obtain ⟨n1, n2⟩ := fits hn; have m : Made S0 h (h.push o) σ ((.slice (some ⟨h.next, 0, none⟩) 0 0, .cap e k τ []) :: σ) := Made.cons L (cI.push h o []) (fun b hb => by simp [dX] at hb; omega) (by simp [dX]) fun hN => e1 _ hN (by rw [cO]; simp [dX]); exact lZ.op (cC eF.aJ hw) (e2 h _ _ _ _ _) (bU n1 t _) (QK h.next h0 G S0 _ _ ms ((eF.made m).set (show aH _ _ (.raw _) _ from rfl) n2))
theorem cJ.ajP (hT : fO P T e τ) {hi : Operand} {b k : Nat} (hx : aS fl x = some (.raw (.slice (some ⟨b, 0, none⟩) k 0))) (hh : aS fl hi = some (.v (.int .i64) 0)) : cJ P fl σ (.slice T x none (some hi) none) (.raw (.slice (some ⟨b, 0, none⟩) 0 0)) :=
  ⟨rfl, fun h S t hs _ => by
    have h1 : aB t x = .slice (some ⟨b, 0, none⟩) k 0 := hs x (by simp [Op.operands]) _ hx; have h2 := aE.int (hs hi (by simp [Op.operands]) _ hh); refine ⟨_, rfl, fun H _ _ _ _ _ _ => ?_⟩; show (bS P T (aB t x) none (some (aB t hi)) none H).map _ = _
    rw [h1, h2, TH hT H]; rfl⟩
section
variable (P orc)
def gV (f : FuncId) (args : List PV) (γ : aR) (Q : PV -> aR -> Prop) : Prop := ∀ (h : U) (S : List Nat) (us : List Value), nK h -> (∀ b ∈ S, b < h.next) -> (∀ c ∈ γ, cU h (own γ ++ S) c.1 c.2) -> (own γ).Nodup -> (∀ b ∈ own γ, b ∉ S) -> bA h (own γ ++ S) args us ->
  qW P orc f us h fun u h' => ∃ r gN, Q r gN /\ Made S h h' γ gN /\ aH h' (own gN ++ S) r u
def J0 (F : PV) (args : List PV) (γ : aR) (Q : PV -> aR -> Prop) : Prop := ∃ f a c, F = .lA f a c /\ gV P orc f (a ++ args ++ c) γ Q
end
theorem gV.call {f : FuncId} {args : List PV} {Q : PV -> aR -> Prop} (hf : gV P orc f args γ Q) : J0 P orc (.lA f [] []) args γ Q := ⟨f, [], [], rfl, by simpa using hf⟩
theorem dF : own (γ ++ σ) = own γ ++ own σ := List.flatMap_append
theorem Made.app (L : Lc S0 h (γ ++ σ) t fl) (m : Made (own σ ++ S0) h h' γ gN) : Made S0 h h' (γ ++ σ) (gN ++ σ) := by
  have pG := L.apart; rw [dF] at pG; obtain ⟨_, TP, DO⟩ := List.nodup_append.1 pG
  have ha : cI h h' (own (γ ++ σ)) := m.iH.aa4 fun b hb => by rw [dF]; exact List.mem_append_left _ hb
  have jB : ∀ b ∈ own (gN ++ σ), b ∈ own (γ ++ σ) \/ h.next <= b := fun b hb => by
    rw [dF] at hb ⊢; rcases List.mem_append.1 hb with hb | hb
    . rcases m.new b hb with h1 | h1
      . exact .inl (List.mem_append_left _ h1)
      exact .inr h1
    exact .inl (List.mem_append_right _ hb)
  have hN : dA h (own (γ ++ σ) ++ S0) h' (own (gN ++ σ) ++ S0) := ha.goes L.ok (fun b hb => List.mem_append_left _ hb) fun b hb => by
    rcases List.mem_append.1 hb with hb | hb
    . rcases jB b hb with h1 | h1
      . exact .inl (List.mem_append_left _ h1)
      exact .inr h1
    exact .inl (List.mem_append_right _ hb)
  refine ⟨ha, jB, ?_, fun d hd => ?_⟩
  . rw [dF]; refine List.nodup_append.2 ⟨m.apart, TP, fun a h1 b h2 he => ?_⟩; subst he; rcases m.new a h1 with h3 | h3
    . exact DO a h3 a h2 rfl
    have := L.lt a (List.mem_append_left _ (by rw [dF]; exact List.mem_append_right _ h2)); omega
  rcases List.mem_append.1 hd with hd | hd
  . have := m.cells d hd; rw [<- List.append_assoc, <- dF] at this; exact this
  have ID : ∀ b ∈ dX d.1, b ∈ own σ := fun b hb => List.mem_flatMap.2 ⟨d, hd, hb⟩; refine (L.cells d (List.mem_append_right _ hd)).aV (fun b hb => ?_) hN fun b hb => List.mem_append_left _ (by rw [dF]; exact List.mem_append_right _ (ID b hb)); exact m.iH.get b (L.lt b (List.mem_append_left _ (by rw [dF]; exact List.mem_append_right _ (ID b hb)))) fun hm => DO b hm b (ID b hb) rfl
theorem J.pL {f : Operand} {args : Array Operand} {mC : Array TypeId} {F : PV} {asl : List PV} {Q : PV -> aR -> Prop} (γ : aR) (L9 : γ ++ σ = nW) (hf : aS fl f = some F) (ha : kI fl args.toList = some asl) (hc : J0 P orc F asl γ Q) (hk : ∀ r gN, Q r gN -> J P orc ops n l ((d, r) :: fl) (gN ++ σ) K)
    (hw : cV ops fl g = some true := by rfl) (hn : (Nat.blt d n && Nat.ble n 4000) = true := by rfl) : J P orc ops n (⟨some d, .call { callee := .value f, args := args, argTypes := mC }, ty, pos, after, g⟩ :: l) fl nW K := fun h0 G S0 t h ms eF => by
  subst L9; obtain ⟨n1, n2⟩ := fits hn; have L := eF.lc; have pG := L.apart; rw [dF] at pG; obtain ⟨aa6, TP, DO⟩ := List.nodup_append.1 pG; obtain ⟨ND, a, c, rfl, hv⟩ := hc; obtain ⟨va, vc, h1, h2, h3⟩ := (dL eF.aJ hf : aH h _ (.lA ND a c) (aB t f)); have l7 := (h2.append (r4 eF.aJ ha)).append h3; rw [dF, List.append_assoc] at l7
  have eP : ∀ c ∈ γ, cU h (own γ ++ (own σ ++ S0)) c.1 c.2 := fun c hc => by
    have := L.cells c (List.mem_append_left _ hc)
    rwa [dF, List.append_assoc] at this
  refine lZ.call (cC eF.aJ hw) rfl rfl h1 ((hv h (own σ ++ S0) _ eF.ok (fun b hb => L.lt b ?_) eP aa6 (fun b hb hm => ?_) l7).mono fun u h' hq => ?_)
  . rcases List.mem_append.1 hb with hb | hb
    . exact List.mem_append_left _ (by rw [dF]; exact List.mem_append_right _ hb)
    exact List.mem_append_right _ hb
  . rcases List.mem_append.1 hm with hm | hm
    . exact DO b hb b hm rfl
    exact L.sep b (by rw [dF]; exact List.mem_append_left _ hb) hm
  obtain ⟨r, gN, q1, q2, q3⟩ := hq; refine ⟨_, bU n1 t u, hk r gN q1 h0 G S0 _ h' ms ((eF.made (Made.app L q2)).set ?_ n2)⟩; rw [dF, List.append_assoc]; exact q3
def Cell.flat : Cell -> Bool
  | .row _ τ _ => τ.iA
  | .var cs => cs.all PV.iJ
  | .cap _ _ τ _ => τ.iA
  | .mp κ ν _ => κ.iA && ν.iA
  | .it _ _ => true
  | .loop _ _ _ _ _ _ _ => false
  | .NC _ _ _ => false
theorem aE.LA {τ : Ty} {u : Value} {x : τ.den} (hf : τ.iA = true) (hx : aE h S τ u x) : aE h' S' τ u x := hx.v8 (FG hf hx)
theorem bM.LA {rs : List Value} {xs : List τ.den} (hf : τ.iA = true) (he : bM h S τ rs xs) : bM h' S' τ rs xs :=
  ⟨he.1, fun i hi => cG.v8 (by
    have h1 := H0 (he.2 i hi) hf
    rw [h1]; exact sG τ _) (he.2 i hi)⟩
theorem cU.flat {w : Value} : ∀ {c : Cell}, c.flat = true -> cU h S w c -> (∀ b ∈ dX w, h'.get b = h.get b /\ b ∈ S') -> cU h' S' w c
  | .row e τ xs, hf, hc, hg => by
    rcases hc with hc | ⟨b, rs, m, rfl, h2, h3, h4⟩
    . exact .inl hc
    obtain ⟨g1, g2⟩ := hg b (by simp [dX])
    exact .inr ⟨b, rs, m, rfl, g2, by rw [g1]; exact h3, h4.LA hf⟩
  | .var cs, hf, ⟨b, e, vs, h1, h2, h3, h4, h5⟩, hg => by
    subst h1; obtain ⟨g1, g2⟩ := hg b (by simp [dX])
    exact ⟨b, e, vs, rfl, g2, by rw [g1]; exact h3, (bA.iJ hf h4).2 _ _, h5⟩
  | .cap e k τ xs, hf, ⟨b, rs, m, h1, h2, h3, h4, h5, h6⟩, hg => by
    subst h1; obtain ⟨g1, g2⟩ := hg b (by simp [dX])
    exact ⟨b, rs, m, rfl, g2, by rw [g1]; exact h3, h4, h5, h6.LA hf⟩
  | .mp κ ν n5, hf, ⟨b, es, c, h1, h2, h3, h4, h5⟩, hg => by
    subst h1; obtain ⟨g1, g2⟩ := hg b (by simp [dX]); obtain ⟨f1, f2⟩ := aQ (show (κ.iA && ν.iA) = true from hf)
    exact ⟨b, es, c, rfl, g2, by rw [g1]; exact h3, h4, fun i hi hj => ⟨(h5 i hi hj).1.LA f1, (h5 i hi hj).2.LA f2⟩⟩
  | .it s pos, hf, ⟨b, h1, h2, h3⟩, hg => by
    subst h1; obtain ⟨g1, g2⟩ := hg b (by simp [dX])
    exact ⟨b, rfl, g2, by rw [g1]; exact h3⟩
  | .loop st jump n fl ps assign body, hf, _, hg => by cases hf
  | .NC e n cs, hf, _, hg => by cases hf
def mN (P : Program) (fn : Func) (γ : aR) (Q : PV -> aR -> Prop) : Ex -> VL -> aR -> Prop := fun e fl σ => e.goes = true /\ ∃ ps, H4 P fl [] fn.results.toList ps /\ Q (OK ps) σ /\ ((∃ w e k τ xs, OK ps = .raw w /\ (w, Cell.cap e k τ xs) ∈ σ) \/ (own σ = own γ /\ ∀ c ∈ σ, c.2.flat = true) \/ (∃ w e τ xs, OK ps = .raw w /\ γ = [] /\ σ = [(w, Cell.row e τ xs)]) \/ (γ = [] /\ ∀ (h : U) (S : List Nat) (u : Value), aH h S (OK ps) u -> (∀ c ∈ σ, cU h S c.1 c.2) -> af u = true -> own σ = [] /\ ∀ (h' : U) (S' : List Nat), ∀ c ∈ σ, cU h' S' c.1 c.2))
theorem gV.enter {f : FuncId} {args : List PV} {fn : Func} {c : Code} {Q : PV -> aR -> Prop} (kF : P.funcs[f]? = some fn) (hc : fn.body = some c) (ho : ∀ us h, orc f us h = none) (hn : (Nat.blt 4000 fn.ntmps || Nat.blt fn.ntmps args.length) = false)
    (hb : VC P orc none c fn.ntmps (pI 0 args) γ (mN P fn γ Q)) : gV P orc f args γ Q := fun h S us bZ hS eP kS B0 ha => by
  have hl := ha.len
  have s7 : Nat.blt 4000 fn.ntmps = false /\ Nat.blt fn.ntmps args.length = false := by simpa using hn
  have n3 := iG s7.1; have n4 := iG s7.2; have pY : bA (entry h) (own γ ++ S) args us := bA.nx (h := h) (h' := entry h) (fun _ _ a b => ⟨a, b⟩) ha
  have I0 : Iv (entry h) (own γ) S (entry h) γ (iI .leaf 0 us) [] (pI 0 args) := {
    ok := bZ
    s0 := hS
    iH := cI.refl _ _
    cells := fun c hc => (eP c hc).aV (fun _ _ => rfl) (fun _ _ a b => ⟨a, b⟩) fun b hb => List.mem_append_left _ (List.mem_flatMap.2 ⟨c, hc, hb⟩)
    new := fun b hb => ⟨.inl hb, B0 b hb⟩
    apart := kS
    mark := fun d hd => by cases hd
    marks := List.nodup_nil
    aJ := oR pY (by omega) }
  refine qW.enter kF hc (ho us h) (by rw [hl]; exact hn) ((hb (entry h) (own γ) S _ (entry h) [] I0).mono fun e fr h1 hq => ?_); obtain ⟨_, eS, σ', iM, he, ps, FJ, hQ, hkd⟩ := hq; obtain ⟨h2, d1, d2, d3⟩ := sH iM.marks fun d hd => (iM.mark d hd).2
  have iK : ∀ b o, h1.get b = some o -> o ≠ .iP -> h2.get b = some o := fun b o hg cA => by
    rw [d3 b (fun hm => cA (by have := (iM.mark b hm).2; rw [hg] at this; exact Option.some.inj this))]; exact hg
  have a2 : cI (entry h) h2 (own γ) := iM.iH.trans d2 fun i hi => .inr (iM.mark i hi).1; have L1 := iM.lc; have Lz : Lc (own σ' ++ S) h1 [] fr.t eS := ⟨L1.ok, L1.lt, (fun c hc => by cases hc), (fun b hb => by cases hb), List.nodup_nil, L1.aJ⟩; obtain ⟨uN, e1, e2⟩ := FJ.ok Lz iK (fun b _ hg cA uI => ⟨iK b _ hg cA, uI⟩); have nF := KW e2
  have xN : ∀ c ∈ σ', ∀ b ∈ dX c.1, h2.get b = h1.get b := fun c hc b hb => by
    obtain ⟨o, hg, cA⟩ := (iM.cells c hc).isObj b hb; rw [iK b _ hg cA, hg]
  have u6 : ∀ c ∈ σ', cU h2 (own σ' ++ S) c.1 c.2 := fun c hc => by
    have hx := iM.cells c hc; have hN : qD h1 (own σ' ++ S) h2 (own σ' ++ S) := fun b _ hg cA uI => ⟨iK b _ hg cA, uI⟩; have hgb := xN c hc; obtain ⟨w, cc⟩ := c
    cases cc with
    | row e τ xs =>
      rcases hx with hx | ⟨b, rs, m, h3, h4, h5, h6⟩
      . exact .inl hx
      exact .inr ⟨b, rs, m, h3, h4, iK b _ h5 (by simp), h6.1, fun i hi => (h6.2 i hi).mK hN⟩
    | var cs =>
      obtain ⟨b, e, vs, h3, h4, h5, h6, h7⟩ := hx
      exact ⟨b, e, vs, h3, h4, iK b _ h5 (by simp), h6.mK hN, h7⟩
    | cap e k τ xs =>
      obtain ⟨b, rs, m, h3, h4, h5, h6, h7, h8⟩ := hx
      exact ⟨b, rs, m, h3, h4, iK b _ h5 (by simp), h6, h7, h8.1, fun i hi => (h8.2 i hi).mK hN⟩
    | mp κ ν n5 =>
      obtain ⟨b, es, c, h3, h4, h5, h6, h7⟩ := hx
      exact ⟨b, es, c, h3, h4, iK b _ h5 (by simp), h6, fun i hi hj => ⟨⟨(h7 i hi hj).1.1, (h7 i hi hj).1.2.mK hN⟩, ⟨(h7 i hi hj).2.1, (h7 i hi hj).2.2.mK hN⟩⟩⟩
    | it s pos =>
      obtain ⟨b, h3, h4, h5⟩ := hx
      exact ⟨b, h3, h4, iK b _ h5 (by simp)⟩
    | loop st jump n fl ps assign body =>
      obtain ⟨l, tmps, d, h3, h4, h5, h6⟩ := hx
      exact ⟨l, tmps, d, h3, h4, iK l _ h5 (by simp), h6.mK hN⟩
    | NC e n cs =>
      rcases hx with hx | ⟨b, rs, m, h3, h4, h5, h6, h7⟩
      . exact .inl hx
      exact .inr ⟨b, rs, m, h3, h4, iK b _ h5 (by simp), h6.mK hN, h7⟩
  have LB : ∀ b ∈ own σ', b ∈ own γ \/ h.next <= b := fun b hb => (iM.new b hb).1; refine ⟨he, h2, uN, d1, e1, ?_⟩; unfold leftOf
  cases pV : (af (gS uN) && Nat.ble h.next h2.low) with
  | true =>
    obtain ⟨xQ, dW⟩ := aQ pV; have dW := fY dW; rcases hkd with ⟨w, e, k, τ, xs, X9, hw2⟩ | ⟨XH, ho2⟩ | ⟨w, e, τ, xs, X9, hw2, QA⟩ | ⟨hg0, amT⟩
    . exfalso; rw [X9] at nF; have QA : gS uN = w := nF; obtain ⟨b, rs, _, h3, _⟩ := iM.cells _ hw2; have IF : w = .slice (some ⟨b, 0, none⟩) xs.length 0 := h3; rw [QA, IF] at xQ; cases hx : xs.length <;> rw [hx] at xQ <;> cases xQ
    . have l6 : ∀ b, b < h.next -> h2.get b = h.get b := fun b hb => by
        rcases a2.chg b hb with h3 | h3
        . exact h3
        omega
      refine ⟨_, σ', hQ, ⟨cI.refl _ _, fun b hb => .inl (by rw [<- XH]; exact hb), by rw [XH]; exact kS, fun c hc => ?_⟩, nF.FI xQ⟩; refine (u6 c hc).flat (ho2 c hc) fun b hb => ?_; have ID : b ∈ own σ' := List.mem_flatMap.2 ⟨c, hc, hb⟩; have CS : b < h.next := QI eP bZ b (by rw [<- XH]; exact ID); exact ⟨(l6 b CS).symm, List.mem_append_left _ ID⟩
    . subst hw2 QA; rw [X9] at nF; have hw4 : gS uN = w := nF; rcases iM.cells _ List.mem_cons_self with ⟨KD, s7⟩ | ⟨b, rs, m, h3, _⟩
      . have aa8 : w = .slice none 0 0 := KD; refine ⟨_, _, hQ, ⟨cI.refl _ _, fun b hb => ?_, ?_, fun c hc => ?_⟩, ?_⟩
        . rw [aa8] at hb; cases hb
        . rw [aa8]; exact List.nodup_nil
        . rw [List.mem_singleton.1 hc]; exact .inl ⟨KD, s7⟩
        rw [X9]; exact hw4
      exfalso; have IF : w = .slice (some ⟨b, 0, none⟩) xs.length 0 := h3; rw [hw4, IF] at xQ; cases hx : xs.length <;> rw [hx] at xQ <;> cases xQ
    obtain ⟨z1, z2⟩ := amT h2 (own σ' ++ S) _ nF u6 xQ; refine ⟨_, σ', hQ, ⟨cI.refl _ _, fun b hb => ?_, ?_, fun c hc => z2 _ _ c hc⟩, nF.FI xQ⟩
    . rw [z1] at hb; cases hb
    rw [z1]; exact List.nodup_nil
  | false =>
    refine ⟨_, σ', hQ, ⟨⟨a2.next, a2.get, fun x => a2.ok x, fun e h3 h4 h5 => Nat.le_min.2 ⟨h3, a2.low e (Nat.le_trans h4 (Nat.le_refl _)) h4 h5⟩, fun b hb => ?_, Nat.min_le_left _ _⟩, LB, iM.apart, fun c hc => (u6 c hc).aV (fun _ _ => rfl) (fun _ _ a b => ⟨a, b⟩) fun b hb => List.mem_append_left _ (List.mem_flatMap.2 ⟨c, hc, hb⟩)⟩, aH.nx (h := h2) (h' := { next := h2.next, low := min h.low h2.low, aA := h2.aA }) (fun _ _ a b => ⟨a, b⟩) nF⟩; rcases a2.chg b hb with h3 | h3
    . exact .inl h3
    exact .inr (Nat.le_trans (Nat.min_le_right _ _) h3)
end Go.Fs
