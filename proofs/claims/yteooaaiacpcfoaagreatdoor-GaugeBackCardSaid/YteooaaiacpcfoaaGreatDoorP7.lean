/- Parts of the proof: an evaluator of the model, what it is sound for, and contracts of functions. No condition. -/
import Derived.Test.YteooaaiacpcfoaaGreatDoorP6
import Derived.Test.YteooaaiacpcfoaaGreatDoorP5
import Derived.Lib.Bytealg
import Derived.Test.YteooaaiacpcfoaaGreatDoorP4
import Derived.Lib.ConvBytes
import Derived.Lib.AtoiTie
import Derived.Lib.ItoaMem
set_option linter.all false
namespace Go.Fs
variable {P : Program} {orc : FuncId -> List Value -> Heap -> Option (Value × Heap)} {aR : Option Nat} {h h' h0 h1 h2 : Heap} {S S' S0 S1 S2 B G : List Nat} {σ σ' j8 γ : aM} {t t' : Tr} {ms : List Nat} {fl : VL} {ops : Array Oper} {n i mem : Nat} {l : List Oper} {K : VL -> aM -> Prop} {Q : Ex -> VL -> aM -> Prop}
  {d : Tmp} {ty : TypeId} {pos : String} {after : Array Edge} {op : Op} {v pv : PV} {g : Option (Nat × Bool)} {x y z : Operand} {T T' e e' e2 : TypeId} {τ τ' : Ty} {w w' a u : Value} {c c' : Cell} {b : Nat}
def aP (s : ByteArray) : List Int := s.data.toList.map fun c => ((c.toNat : Nat) : Int)
theorem eI (s : ByteArray) : (aP s).length = s.size := by
  show (s.data.toList.map _).length = s.data.size; simp
theorem VS (s r : ByteArray) : aP (s ++ r) = aP s ++ aP r := by
  unfold aP; rw [ByteArray.data_append, Array.toList_append, List.map_append]
def jQ (s : ByteArray) : List Value := (aP s).map (.int .u8)
theorem yZ (s : ByteArray) : (jQ s).length = s.size := by rw [jQ, List.length_map, eI]
theorem A0 {rs : List Value} {xs : List Int} (he : bC h S (.int .u8) rs xs) : rs = xs.map (.int .u8) := by
  have h1 := he.1; simp only [Ty.size, Nat.mul_one] at h1; refine List.ext_getElem (by simpa using h1) fun i h2 h3 => ?_; rw [List.getElem_map]
  have hi : i < xs.length := by simpa using h3
  have h4 := he.2 i hi; have h4 : (rs.drop (i * 1)).take 1 = [.int .u8 xs[i]] := h4; rw [Nat.mul_one, List.drop_eq_getElem_cons h2] at h4; exact List.cons.inj h4 |>.1
theorem PB {xs : List Int} : bC h S (.int .u8) (xs.map (.int .u8)) xs := ⟨by simp [Ty.size], fun i hi => by
  show ((xs.map (Value.int .u8)).drop (i * 1)).take 1 = [.int .u8 xs[i]]; rw [Nat.mul_one, List.drop_eq_getElem_cons (by simpa using hi)]
  simp⟩
theorem HB : ∀ l : List UInt8, kV (l.map fun c => Value.int .u8 ((c.toNat : Nat) : Int)) = some l
  | [] => rfl
  | c :: r => by
    show (bif Nat.blt c.toNat 256 then (kV _).map (UInt8.ofNat c.toNat :: ·) else none) = _
    have h1 : Nat.blt c.toNat 256 = true := by
      show Nat.ble (c.toNat + 1) 256 = true; rw [Nat.ble_eq]; exact c.toNat_lt
    rw [h1, HB r]; simp
theorem PC (s : ByteArray) : kV (jQ s) = some s.data.toList := by
  rw [jQ, aP, List.map_map]; exact HB _
abbrev bP (b : Nat) : Value := .pointer (some ⟨b, 0, none⟩)
abbrev bW (b : Nat) : Value := .slice (some ⟨b, 0, none⟩) 0 0
theorem tK (hc : bL h S (bW b) (.fS T 0 [.raw a, .raw u])) : b ∈ S /\ h.get b = some (.row T [a, u] true false) /\ aN a = true /\ aN u = true := by
  rcases hc with ⟨h1, _⟩ | ⟨b', rs, m, h1, h2, h3, h4, h5, h6⟩
  . cases h1
  have h1 : bW b = .slice (some ⟨b', 0, none⟩) 0 0 := h1
  have hb : b = b' := by injection h1 with h1; injection h1 with h1; injection h1
  subst hb; obtain rfl : rs = [a, u] := VQ (us := [a, u]) h4; obtain rfl := h6 rfl; simp at h5; exact ⟨h2, h3, h5.1, h5.2⟩
theorem DJ (hb : b ∈ S) (hg : h.get b = some (.row T [a, u] true false)) (ha : aN a = true) (hu : aN u = true) : bL h S (bW b) (.fS T 0 [.raw a, .raw u]) :=
  .inr ⟨b, [a, u], false, rfl, hb, hg, PA (us := [a, u]), by simp [ha, hu], fun _ => rfl⟩
theorem bO.al8 (hz : (P.info? T).bind (·.zero) = some (.agg #[.pointer none, .slice none 0 0])) : bO P fl σ (.alloc T) fun v σ' => ∃ b, v = .raw (bP b) /\ σ' = (bW b, .fS T 0 [.raw (.pointer none), .raw (.slice none 0 0)]) :: σ :=
  ⟨rfl, fun S0 h t L => by
    refine ⟨_, h.push (.row T [.pointer none, .slice none 0 0] true false), .raw (bP h.next), _, ⟨_, rfl, rfl⟩, Made.cons L (cK.push h _ _) (fun b hb => by simp [cD] at hb; omega) (by simp [cD]) fun hN => ?_, rfl, fun _ _ _ _ _ => ?_⟩
    . exact DJ (List.mem_append_left _ (by rw [b7]; simp [cD])) (by rw [Heap.bB, if_pos rfl]) rfl rfl
    show (match (P.info? T).bind (·.zero) with | some z => if af z then qE T z h else none | none => none) = _; rw [hz]
    rfl⟩
theorem aF.abI {p : Addr} (hx : aQ fl x = some (.raw (.pointer (some p))) := by rfl) : aF P fl σ (.nilCheck x) (.raw (.pointer (some p))) :=
  ⟨rfl, fun h S t hs hc => by
    have h1 : aA t x = .pointer (some p) := hs x (by simp [Op.operands]) _ hx; refine ⟨_, rfl, fun _ _ _ _ _ H => ?_⟩; show (match aA t x with | .pointer (some a) => some (Value.pointer (some a), H) | .func (.func f) a b => some (.func (.func f) a b, H) | _ => none) = _
    rw [h1]⟩
theorem aF.faB {s : TypeId} {f k : Nat} (hm : (bW b, Cell.fS T 0 [.raw a, .raw u]) ∈ σ) (hb : j9 P s f k = true := by kernel_rfl) (hx : aQ fl x = some (.raw (bP b)) := by rfl) : aF P fl σ (.fieldAddr s x f) (.raw (kF (bP b) k)) :=
  ⟨rfl, fun h S t hs hc => by
    have h1 : aA t x = bP b := hs x (by simp [Op.operands]) _ hx; obtain ⟨_, h5, _⟩ := tK (hc _ hm); have hB : GC h 0 (bP b) [a, u] := ⟨b, T, rfl, Nat.zero_le _, h5⟩; refine ⟨_, rfl, fun _ _ _ _ _ H => ?_⟩; show (aC P (Instr.fieldAt s (aA t x) f)).map _ = _
    rw [h1, hB.fa hb]; rfl⟩
theorem dV.ldB (hm : (bW b, Cell.fS T 0 [.raw a, .raw u]) ∈ σ) (hT : gQ P T' τ) (ha : τ.agg = false := by rfl) (hx : aQ fl x = some (.raw (kF (bP b) 1)) := by rfl) : dV P fl σ (.load T' x) (.raw u) :=
  ⟨rfl, fun h S t hs hc => by
    have h1 : aA t x = kF (bP b) 1 := hs x (by simp [Op.operands]) _ hx; obtain ⟨_, h5, _⟩ := tK (hc _ hm); refine ⟨u, rfl, fun H hH _ _ _ _ _ => ?_⟩; have hB : GC H 0 (bP b) [a, u] := ⟨b, T, rfl, Nat.zero_le _, hH b _ h5⟩; show (eE P T' (aA t x) H).map _ = _
    rw [h1, hB.ld1 hT ha (u := u) (by rfl)]; rfl⟩
theorem bO.stB {u' : Value} (hT : gQ P T' (.sl τ)) (hx : aQ fl x = some (.raw (kF (bP b) 1))) (hy : aQ fl y = some (.raw u')) (ho : aN u' = true) :
    bO P fl ((bW b, .fS T 0 [.raw a, .raw u]) :: σ) (.store T' x y) fun v σ' => v = .raw undef /\ σ' = (bW b, .fS T 0 [.raw a, .raw u']) :: σ :=
  ⟨rfl, fun S0 h t L => by
    have h1 : aA t x = kF (bP b) 1 := cR L.aH hx; have h2 : aA t y = u' := cR L.aH hy; obtain ⟨g1, g2, g3, g4⟩ := tK (L.cells _ List.mem_cons_self); obtain ⟨i, hi, hs⟩ := hT.info; have hs : i.size = 1 := hs
    have CX : u'.cells.toList = [u'] := by rw [fA (vQ ho)]
    refine ⟨undef, h.set b (.row T [a, u'] true false), .raw undef, _, ⟨rfl, rfl⟩, Made.head L (cK.set g2 (by simp [cD])) (fun b hb => .inl hb) (by simp [cD]) fun hN => ?_, rfl, fun _ _ _ _ _ => ?_⟩
    . exact DJ (List.mem_append_left _ (by rw [b7]; simp [cD])) (by rw [Heap.dE g2, if_pos rfl]) g3 ho
    show (gF P T' (aA t x) (aA t y) h).map _ = _
    have : gF P T' (aA t x) (aA t y) h = some (h.set b (.row T [a, u'] true false)) := by
      rw [h1, h2]; simp only [gF, kF, g2, hi, hs, CX]; rw [if_pos ⟨rfl, by show 0 + 1 + 1 <= 2; omega, by simp [ho]⟩]; rfl
    rw [this]; rfl⟩
theorem AZ {i : TypeInfo} {z : Value} {s : ByteArray} {xd : TypeDesc} (hi : isInt xd = false) : iN i z (isInt xd) (.string s) h = some (s.size, jQ s) := by
  rw [hi]; show (match lB (.string s) with | some m => (cellsOf i.size m (.string s) h).map fun cs => (m, cs) | none => none) = _; simp only [lB, cellsOf, Option.map_some]; congr 2; rw [show s.extract 0 s.size = s from ByteArray.extract_zero_size]; simp [jQ, aP, Array.toList_map, List.map_map]
theorem aa3 (hT : fW P T e τ) {xd : TypeDesc} (EX : P.underlying T' = some xd) {u : Value} {news : List Value} {xs ys : List τ.den} (aZ : nY h) (hg : bL h S w (.row e τ xs)) 
    (p8 : ∀ i z, i.size = τ.size -> z.cells.toList.all dQ = true -> iN i z (isInt xd) u h = some (ys.length, news)) (hy : bC h S τ news ys) (oL : 0 < ys.length) (cY : xs.length + ys.length <= 1000000) :
    ∃ h' rs, dR P #[T, T'] w u h = some (.slice (some ⟨h.next, 0, none⟩) (xs.length + ys.length) 0, h') /\ cK h h' (cD w) /\ h'.get h.next = some (.row e rs true true) /\ (∀ S', dC h S h' S' -> bC h' S' τ rs (xs ++ ys)) := by
  obtain ⟨i, z, pR, jB, HX, vN, BC, EY, KU⟩ := hT.sl.info; have mP : news.all aN = true := hy.kA; have yA : news.length = ys.length * τ.size := hy.1
  have x9 : (xs.length + ys.length) * i.bytes <= 274877906944 := by
    have := Nat.mul_le_mul cY vN; omega
  unfold dR; simp only [List.getElem?_toArray, List.getElem?_cons_zero, List.getElem?_cons_succ, hT.sl.sl, EX, pR, BC, p8 i z jB KU, jB]
  have hc : (Nat.blt 0 τ.size && Nat.blt 0 i.bytes && Nat.beq news.length (ys.length * τ.size) && news.all aN && Nat.beq z.cells.size τ.size) = true := by
    have e1 : Nat.blt 0 τ.size = true := by show Nat.ble 1 τ.size = true; rw [Nat.ble_eq]; exact hT.sl.pos
    have e2 : Nat.blt 0 i.bytes = true := by show Nat.ble 1 i.bytes = true; rw [Nat.ble_eq]; exact HX
    rw [e1, e2, yA, Nat.beq_refl, mP, EY, Nat.beq_refl]; rfl
  rw [hc]; simp only [cond_true]; have e0 : Nat.beq ys.length 0 = false := dO (by omega); rcases hg with ⟨rfl, rfl⟩ | ⟨b0, rs, m, rfl, iQ, oV, uU⟩
  . refine ⟨h.push (.row e news true true), news, ?_, cK.push h _ _, by rw [Heap.bB, if_pos rfl], fun S' hN => by rw [List.nil_append]; exact hy.nx hN⟩; unfold n7
    have e2 : Nat.ble (ys.length * i.bytes) 274877906944 = true := by rw [Nat.ble_eq]; simpa using x9
    simp only [e0, cond_false, e2, cond_true, grown, List.length_nil, Nat.zero_add]
  have qP := uU.1; have AE : 0 < ys.length * τ.size := Nat.mul_pos oL hT.sl.pos; have af6 : (xs.length + ys.length) * τ.size = xs.length * τ.size + ys.length * τ.size := Nat.add_mul _ _ _
  have e1 : (Nat.beq ys.length 0 && Nat.beq 0 1) = false := by rw [e0]; rfl
  have e2 : Nat.beq e e = true := Nat.beq_refl _
  have e3 : Nat.ble ((xs.length + ys.length) * i.bytes) 274877906944 = true := by rw [Nat.ble_eq]; exact x9
  have e4 : Nat.ble (0 + xs.length * i.size) rs.length = true := by rw [Nat.ble_eq, jB]; omega
  have e5 : Nat.ble (0 + (xs.length + ys.length) * i.size) rs.length = false := by
    cases hx : Nat.ble (0 + (xs.length + ys.length) * i.size) rs.length with
    | false => rfl
    | true => have := eP hx; rw [jB] at this; omega
  have e6 : Nat.beq (xs.length * i.size) rs.length = true := by rw [jB, qP]; exact Nat.beq_refl _
  have e7 : Nat.beq 0 1 = false := rfl; have e8 : Nat.beq 0 0 = true := rfl; have am7 := aZ b0 _ oV; have jC : cD (.slice (some ⟨b0, 0, none⟩) xs.length 0) = [b0] := rfl
  cases m with
  | true =>
    refine ⟨(h.drop b0).push (.row e (rs ++ news) true true), rs ++ news, ?_, (cK.drop (B := cD _) (by rw [jC]; simp)).trans (cK.push (h.drop b0) _ []) (fun i hi => by cases hi), ?_, fun S' hN => (uU.append hy).nx hN⟩
    . unfold n7; simp only [oV, e1, cond_false, e2, e3, e4, Bool.and_self, cond_true, e7, e8, e5, Bool.not_true, e6, grown, Bool.true_and, Bool.and_false]; rfl
    have : (h.drop b0).next = h.next := rfl
    rw [Heap.bB, if_pos this.symm]
  | false =>
    refine ⟨h.push (.row e (rs ++ news) true true), rs ++ news, ?_, cK.push h _ _, by rw [Heap.bB, if_pos rfl], fun S' hN => (uU.append hy).nx hN⟩; unfold n7
    have e9 : (rs.drop 0).take (xs.length * i.size) = rs := by rw [List.drop_zero, jB, <- qP, List.take_length]
    simp only [oV, e1, cond_false, e2, e3, e4, Bool.and_self, cond_true, e7, e8, e5, Bool.not_false, grown, Bool.true_and, Bool.and_false, e9]
theorem bO.arZ {acc s : ByteArray} (hT : fW P T e (.int .u8)) (EX : P.underlying T' = some .string) (hx : aQ fl x = some (.raw w)) (hy : aQ fl y = some (.v .str s)) (cY : acc.size + s.size <= 1000000) (hn : acc.size = 0 -> w = .slice none 0 0) :
    bO P fl ((w, .row e (.int .u8) (aP acc)) :: σ) (.call { callee := .builtin .append, args := #[x, y], argTypes := #[T, T'] }) fun v σ' => ∃ w', (v = .raw w' /\ σ' = (w', .row e (.int .u8) (aP (acc ++ s))) :: σ) /\ ((acc ++ s).size = 0 -> w' = .slice none 0 0) :=
  ⟨rfl, fun S0 h t L => by
    have h1 : aA t x = w := cR L.aH hx; have h2 : aA t y = .string s := aE.str (cR L.aH hy : aE h _ .str (aA t y) s); have hc := L.cells _ List.mem_cons_self
    have cO : ∀ u h', dR P #[T, T'] w (.string s) h = some (u, h') -> ∀ (d : Option Tmp) (ty : TypeId) (pos : String) (after : Array Edge) (g : Option (Nat × Bool)), fJ P ⟨d, .call { callee := .builtin .append, args := #[x, y], argTypes := #[T, T'] }, ty, pos, after, g⟩ (aA t) h = some (u, h') := fun u h' e _ _ _ _ _ => by
      show dR P #[T, T'] (aA t x) (aA t y) h = _; rw [h1, h2, e]
    have hal := eI acc; have x7 := eI s; by_cases hp : 0 < s.size
    . obtain ⟨h', KH, e1, e2, e3, e4⟩ := aa3 hT EX L.ok hc (u := .string s) (news := jQ s) (ys := aP s) (fun i z _ _ => by rw [x7]; exact AZ rfl) PB (by omega) (by omega); refine ⟨_, h', .raw (.slice (some ⟨h.next, 0, none⟩) ((aP acc).length + (aP s).length) 0), _, ⟨_, ⟨rfl, rfl⟩, fun hz => ?_⟩, Made.head L e2 (fun b hb => .inr (by simp [cD] at hb; omega)) (by simp [cD]) fun hN => ?_, rfl, cO _ _ e1⟩
      . rw [ByteArray.size_append] at hz; omega
      rw [VS]; exact .inr ⟨h.next, KH, true, by rw [List.length_append], List.mem_append_left _ (by rw [b7]; simp [cD]), e3, e4 _ hN⟩
    have AK : s.size = 0 := by omega
    have hse : acc ++ s = acc := by
      have : aP s = [] := List.eq_nil_of_length_eq_zero (by omega); apply ByteArray.ext; rw [ByteArray.data_append]; have h9 : s.data = #[] := Array.eq_empty_of_size_eq_zero AK; rw [h9, Array.append_empty]
    refine ⟨w, h, .raw w, _, ⟨w, ⟨rfl, rfl⟩, fun hz => hn (by rw [hse] at hz; exact hz)⟩, ?_, rfl, cO _ _ ?_⟩
    . rw [hse]; exact Made.same L (cK.refl _ _)
    obtain ⟨i, z, pR, jB, HX, vN, BC, EY, KU⟩ := hT.sl.info; have jB : i.size = 1 := jB
    have p8 : iN i z (isInt .string) (.string s) h = some (0, []) := by
      have := AZ (i := i) (z := z) (h := h) (s := s) (xd := .string) rfl; rw [this, AK]; have h8 : jQ s = [] := List.eq_nil_of_length_eq_zero (by rw [yZ]; exact AK); rw [h8]
    unfold dR; simp only [List.getElem?_toArray, List.getElem?_cons_zero, List.getElem?_cons_succ, hT.sl.sl, EX, pR, BC, p8, jB]
    have jZ : (Nat.blt 0 1 && Nat.blt 0 i.bytes && Nat.beq ([] : List Value).length (0 * 1) && ([] : List Value).all aN && Nat.beq z.cells.size 1) = true := by
      have e2 : Nat.blt 0 i.bytes = true := by show Nat.ble 1 i.bytes = true; rw [Nat.ble_eq]; exact HX
      rw [e2, show z.cells.size = 1 from EY]; rfl
    rw [jZ]; simp only [cond_true]; rcases hc with ⟨hw0, hx0⟩ | ⟨b0, rs, m, hw0, iQ, oV, uU⟩
    . have hw0 : w = .slice none 0 0 := hw0; rw [hw0]; rfl
    have hw0 : w = .slice (some ⟨b0, 0, none⟩) (aP acc).length 0 := hw0; rw [hw0]; have qP : rs.length = (aP acc).length * 1 := uU.1
    have e3 : Nat.ble (((aP acc).length + 0) * i.bytes) 274877906944 = true := by
      rw [Nat.ble_eq]; have := Nat.mul_le_mul (show (aP acc).length + 0 <= 1000000 by omega) vN; omega
    have e4 : Nat.ble (0 + (aP acc).length * 1) rs.length = true := by rw [Nat.ble_eq]; omega
    have e5 : Nat.ble (0 + ((aP acc).length + 0) * 1) rs.length = true := by rw [Nat.ble_eq]; omega
    unfold n7; simp only [oV, jB, e3, e4, e5, Nat.beq_refl, Bool.and_self, cond_true, show Nat.beq 0 1 = false from rfl, show Nat.beq 0 0 = true from rfl, Bool.and_false, cond_false, Nat.add_zero]; simp only [Nat.add_zero] at e3 e5; simp only [e3, e5, cond_true]
    rfl⟩
theorem gZ.cop {O O2 : FuncId -> List Value -> Heap -> Option (Value × Heap)} {fc : FuncId} {tb : TypeId} (hE : ∀ us h, O2 fc us h = GZ fc tb O fc us h) (ha : a = .pointer none \/ a = bP b) :
    gZ P O2 fc [.raw (bP b)] [(bW b, .fS tb 0 [.raw a, .raw u])] fun r nE => r = .nD [] /\ nE = [(bW b, .fS tb 0 [.raw (bP b), .raw u])] := fun h S us aZ hS dB mQ GO har => by
  obtain ⟨v, r, rfl, h1, h2⟩ := har; obtain rfl : r = [] := h2; obtain rfl : v = bP b := h1; obtain ⟨g1, g2, g3, g4⟩ := tK (dB _ List.mem_cons_self); have gb : b ∈ own [(bW b, Cell.fS tb 0 [.raw (bP b), .raw u])] ++ S := List.mem_append_left _ (by simp [own, cD]); rcases ha with rfl | rfl
  . have ho : GZ fc tb O fc [bP b] h = some (.tuple #[], h.set b (.row tb [bP b, u] true false)) := by
      simp only [GZ, Nat.beq_refl, cond_true, g2]
    refine nP.wJ ((hE _ _).trans ho) ⟨_, _, ⟨rfl, rfl⟩, ⟨cK.set g2 (by simp [own, cD]), fun b' wW => .inl (by simpa [own, cD] using wW), by simp [own, cD], fun c hc => ?_⟩, ⟨[], rfl, rfl⟩⟩
    obtain rfl : c = _ := by simpa using hc
    exact DJ gb (by rw [Heap.dE g2, if_pos rfl]) rfl g4
  have ho : GZ fc tb O fc [bP b] h = some (.tuple #[], h) := by
    simp only [GZ, Nat.beq_refl, cond_true, g2, Bool.and_self]
  refine nP.wJ ((hE _ _).trans ho) ⟨_, _, ⟨rfl, rfl⟩, ⟨cK.refl _ _, fun b' wW => .inl (by simpa [own, cD] using wW), by simp [own, cD], fun c hc => ?_⟩, ⟨[], rfl, rfl⟩⟩
  obtain rfl : c = _ := by simpa using hc
  exact DJ gb g2 rfl g4
def sdV : Value -> Value
  | .slice a _ _ => .pointer a
  | v => v
theorem dV.sd {acc : ByteArray} {T1 : TypeId} (hx : aQ fl x = some (.raw w)) (hm : (w, Cell.row e (.int .u8) (aP acc)) ∈ σ) (hn : acc.size = 0 -> w = .slice none 0 0) : dV P fl σ (.call { callee := .builtin .unsafeSliceData, args := #[x], argTypes := #[T1] }) (.raw (sdV w)) :=
  ⟨rfl, fun h S t hs hc => by
    have h1 : aA t x = w := hs x (by simp [Op.operands, Call.operands]) _ hx; refine ⟨sdV w, rfl, fun H hH _ _ _ _ _ => ?_⟩; show ((pD (aA t x)).map fun v => (v, H)) = _; rw [h1]; rcases hc _ hm with ⟨h3, _⟩ | ⟨b, rs, m, h3, _⟩
    . have h3 : w = .slice none 0 0 := h3; rw [h3]; rfl
    have h3 : w = .slice (some ⟨b, 0, none⟩) (aP acc).length 0 := h3
    have hz : acc.size ≠ 0 := fun hz => by rw [hn hz] at h3; cases h3
    have hb : Nat.beq (aP acc).length 0 = false := dO (by rw [eI]; exact hz); rw [h3]; simp only [pD, hb, cond_false]
    rfl⟩
theorem bO.as1 {acc : ByteArray} {T1 T2 : TypeId} (hT : P.underlying T1 = some (.pointer e)) (oH : P.cellsOf e = 1) (hx : aQ fl x = some (.raw (sdV w))) (hy : aQ fl y = some (.v (.int .i64) ((acc.size : Nat) : Int))) (cY : acc.size <= 1000000) (hn : acc.size = 0 -> w = .slice none 0 0) :
    bO P fl ((w, .row e (.int .u8) (aP acc)) :: σ) (.call { callee := .builtin .unsafeString, args := #[x, y], argTypes := #[T1, T2] }) fun v σ' => v = .v .str acc /\ σ' = σ :=
  ⟨rfl, fun S0 h t L => by
    have h1 : aA t x = sdV w := cR L.aH hx; have h2 : aA t y = .int .i64 ((acc.size : Nat) : Int) := aE.int (cR L.aH hy); have p8 := L.apart; rw [b7] at p8; obtain ⟨KT, GI, u9⟩ := List.nodup_append.1 p8
    have RZ : ∀ {h' : Heap}, cK h h' (cD w) -> Made S0 h h' ((w, .row e (.int .u8) (aP acc)) :: σ) σ := fun {h'} ha => by
      have p5 : cK h h' (own ((w, Cell.row e (.int .u8) (aP acc)) :: σ)) := ha.TW fun b hb => by rw [b7]; exact List.mem_append_left _ hb
      have hN : dC h (own ((w, Cell.row e (.int .u8) (aP acc)) :: σ) ++ S0) h' (own σ ++ S0) := p5.goes L.ok (fun b hb => List.mem_append_left _ hb) fun b hb => by
        rcases List.mem_append.1 hb with hb | hb
        . exact .inl (List.mem_append_left _ (by rw [b7]; exact List.mem_append_right _ hb))
        exact .inl (List.mem_append_right _ hb)
      refine ⟨p5, fun b hb => .inl (by rw [b7]; exact List.mem_append_right _ hb), GI, fun c hc => ?_⟩; have AF : ∀ b ∈ cD c.1, b ∈ own σ := fun b hb => List.mem_flatMap.2 ⟨c, hc, hb⟩; refine (L.cells c (List.mem_cons_of_mem _ hc)).aV (fun b hb => ?_) hN fun b hb => List.mem_append_left _ (AF b hb); exact ha.get b (L.lt b (List.mem_append_left _ (by rw [b7]; exact List.mem_append_right _ (AF b hb)))) fun hm => u9 b hm b (AF b hb) rfl
    rcases L.cells _ List.mem_cons_self with ⟨h3, h4⟩ | ⟨b, rs, m, h3, h4, h5, h6⟩
    . have h3 : w = .slice none 0 0 := h3; have h4 : aP acc = [] := h4
      have hz : acc.size = 0 := by rw [<- eI, h4]; rfl
      have he : acc = ByteArray.empty := by
        apply ByteArray.ext; exact Array.eq_empty_of_size_eq_zero hz
      refine ⟨.string acc, h, .v .str acc, σ, ⟨rfl, rfl⟩, RZ (cK.refl _ _), aE.ofStr _, fun _ _ _ _ _ => ?_⟩; show iA P #[T1, T2] (aA t x) (aA t y) h = _; rw [h1, h2, h3, hz, he]; show iA P #[T1, T2] (.pointer none) (.int .i64 0) h = _; unfold iA; show (match P.underlying T1 with | some (.pointer _) => some (Value.string .empty, h) | _ => none) = _; rw [hT]
    have h3 : w = .slice (some ⟨b, 0, none⟩) (aP acc).length 0 := h3
    have hz : acc.size ≠ 0 := fun hz => by rw [hn hz] at h3; cases h3
    obtain ⟨q, hq⟩ : ∃ q, acc.size = q + 1 := ⟨acc.size - 1, by omega⟩; have hrs := A0 h6
    have jC : cD w = [b] := by rw [h3]; rfl
    have htk : kV (rs.take (q + 1)) = some acc.data.toList := by
      rw [hrs, List.take_of_length_le (by rw [List.length_map, eI]; omega)]; exact PC acc
    refine ⟨.string acc, h.drop b, .v .str acc, σ, ⟨rfl, rfl⟩, RZ (cK.drop (by rw [jC]; simp)), aE.ofStr _, fun _ _ _ _ _ => ?_⟩; show iA P #[T1, T2] (aA t x) (aA t y) h = _; rw [h1, h2, h3, hq]
    have e1 : Nat.ble (q + 1) rs.length = true := by rw [Nat.ble_eq, hrs, List.length_map, eI]; omega
    have e2 : Nat.ble q 1000000000 = true := by rw [Nat.ble_eq]; omega
    show iA P #[T1, T2] (.pointer (some ⟨b, 0, none⟩)) (.int .i64 (.ofNat (q + 1))) h = _
    simp only [iA, hT, h5, Nat.beq_refl, oH, e1, e2, Bool.and_self, cond_true, htk]⟩
def aoK (P : Program) (fn : Func) (γ : aM) (Q : PV -> aM -> Prop) : Ex -> VL -> aM -> Prop := fun e fl σ => e.goes = true /\ ∃ ps, AT P fl [] fn.results.toList ps /\ Q (KR ps) σ /\ ∀ (h h2 : Heap) (S : List Nat), (∀ c ∈ γ, bL h (own γ ++ S) c.1 c.2) -> (∀ c ∈ σ, bL h2 (own σ ++ S) c.1 c.2) -> (∀ b ∈ own γ, h2.get b = h.get b) -> (∀ b o, h.get b = some o -> h2.get b = some o) -> (∀ b ∈ own σ, b ∈ own γ) /\ ∀ c ∈ σ, bL h (own σ ++ S) c.1 c.2
theorem gZ.S3 {f : FuncId} {args : List PV} {fn : Func} {c : Code} {Q : PV -> aM -> Prop} (kX : P.funcs[f]? = some fn) (hc : fn.body = some c) (ho : ∀ us h, orc f us h = none) (hn : (Nat.blt 4000 fn.ntmps || Nat.blt fn.ntmps args.length) = false)
    (hb : U P orc none c fn.ntmps (qR 0 args) γ (aoK P fn γ Q)) : gZ P orc f args γ Q := fun h S us aZ hS dB mQ GO ha => by
  have hl := ha.len
  have sK : Nat.blt 4000 fn.ntmps = false /\ Nat.blt fn.ntmps args.length = false := by simpa using hn
  have n3 := gI sK.1; have n4 := gI sK.2; have p5 : aX (entry h) (own γ ++ S) args us := aX.nx (h := h) (h' := entry h) (fun _ _ a b => ⟨a, b⟩) ha
  have I0 : Iv (entry h) (own γ) S (entry h) γ (j6 .leaf 0 us) [] (qR 0 args) := {
    ok := aZ
    s0 := hS.1
    lH := cK.refl _ _
    cells := fun c hc => (dB c hc).aV (fun _ _ => rfl) (fun _ _ a b => ⟨a, b⟩) fun b hb => List.mem_append_left _ (List.mem_flatMap.2 ⟨c, hc, hb⟩)
    new := fun b hb => ⟨.inl hb, GO b hb⟩
    apart := mQ
    mark := fun d hd => by cases hd
    marks := List.nodup_nil
    aH := oU (hS.2.ent dB) p5 (by omega) }
  refine nP.enter kX hc (ho us h) (by rw [hl]; exact hn) ((hb (entry h) (own γ) S _ (entry h) [] I0).mono fun e fr h1 hq => ?_); obtain ⟨_, dJ, σ', nM, he, ps, AI, hQ, hkd⟩ := hq; obtain ⟨h2, d1, d2, d3⟩ := sQ nM.marks fun d hd => (nM.mark d hd).2
  have jL : ∀ b o, h1.get b = some o -> o ≠ .mM -> h2.get b = some o := fun b o hg cA => by
    rw [d3 b (fun hm => cA (by have := (nM.mark b hm).2; rw [hg] at this; exact Option.some.inj this))]; exact hg
  have a2 : cK (entry h) h2 (own γ) := nM.lH.trans d2 fun i hi => .inr (nM.mark i hi).1; have L1 := nM.lc; have Lz : Lc (own σ' ++ S) h1 [] fr.t dJ := ⟨L1.ok, L1.lt, (fun c hc => by cases hc), (fun b hb => by cases hb), List.nodup_nil, L1.aH⟩; obtain ⟨q8, e1, e2⟩ := AI.ok Lz jL (fun b _ hg cA rS => ⟨jL b _ hg cA, rS⟩); have mD := yJ e2
  have oV : ∀ c ∈ σ', ∀ b ∈ cD c.1, h2.get b = h1.get b := fun c hc b hb => by
    obtain ⟨o, hg, cA⟩ := (nM.cells c hc).isObj b hb; rw [jL b _ hg cA, hg]
  have uB : ∀ c ∈ σ', bL h2 (own σ' ++ S) c.1 c.2 := fun c hc => by
    have hx := nM.cells c hc; have hN : pQ h1 (own σ' ++ S) h2 (own σ' ++ S) := fun b _ hg cA rS => ⟨jL b _ hg cA, rS⟩; have hgb := oV c hc; obtain ⟨w, cc⟩ := c
    cases cc with
    | row e τ xs =>
      rcases hx with hx | ⟨b, rs, m, h3, h4, h5, h6⟩
      . exact .inl hx
      exact .inr ⟨b, rs, m, h3, h4, jL b _ h5 (by simp), h6.1, fun i hi => (h6.2 i hi).mL hN⟩
    | var cs =>
      obtain ⟨b, e, vs, h3, h4, h5, h6, h7⟩ := hx
      exact ⟨b, e, vs, h3, h4, jL b _ h5 (by simp), h6.mL hN, h7⟩
    | cap e k τ xs =>
      obtain ⟨b, rs, m, h3, h4, h5, h6, h7, h8⟩ := hx
      exact ⟨b, rs, m, h3, h4, jL b _ h5 (by simp), h6, h7, h8.1, fun i hi => (h8.2 i hi).mL hN⟩
    | mp κ ν nC =>
      obtain ⟨b, es, c, h3, h4, h5, h6, h7⟩ := hx
      exact ⟨b, es, c, h3, h4, jL b _ h5 (by simp), h6, fun i hi hj => ⟨⟨(h7 i hi hj).1.1, (h7 i hi hj).1.2.mL hN⟩, ⟨(h7 i hi hj).2.1, (h7 i hi hj).2.2.mL hN⟩⟩⟩
    | it s pos =>
      obtain ⟨b, h3, h4, h5⟩ := hx
      exact ⟨b, h3, h4, jL b _ h5 (by simp)⟩
    | loop st jump n fl ps assign body =>
      obtain ⟨l, tmps, d, h3, h4, h5, h6⟩ := hx
      exact ⟨l, tmps, d, h3, h4, jL l _ h5 (by simp), h6.mL hN⟩
    | fS e n cs =>
      rcases hx with hx | ⟨b, rs, m, h3, h4, h5, h6, h7⟩
      . exact .inl hx
      exact .inr ⟨b, rs, m, h3, h4, jL b _ h5 (by simp), h6.mL hN, h7⟩
  have YK : ∀ b ∈ own σ', b ∈ own γ \/ h.next <= b := fun b hb => (nM.new b hb).1; refine ⟨he, h2, q8, d1, e1, ?_⟩; unfold leftOf
  cases lV : (af (gE q8) && Nat.ble h.next h2.low) with
  | true =>
    obtain ⟨yL, dN⟩ := aT lV; have dN := eP dN
    have gA : ∀ b ∈ own γ, h2.get b = h.get b := fun b hb => by
      rcases a2.chg b (I9 dB aZ b hb) with h3 | h3
      . exact h3
      have := I9 dB aZ b hb; omega
    have iX : ∀ b o, h.get b = some o -> h2.get b = some o := fun b o hb => by
      have bX := aZ b o hb; rcases a2.chg b bX with h3 | h3
      . rw [h3]; exact hb
      have : h.next <= b := Nat.le_trans dN h3; omega
    obtain ⟨k1, k2⟩ := hkd h h2 S dB uB gA iX
    exact ⟨_, σ', hQ, ⟨cK.refl _ _, fun b hb => .inl (k1 b hb), nM.apart, k2⟩, mD.EU yL⟩
  | false =>
    refine ⟨_, σ', hQ, ⟨⟨a2.next, a2.get, fun x => a2.ok x, fun e h3 h4 h5 => Nat.le_min.2 ⟨h3, a2.low e (Nat.le_trans h4 (Nat.le_refl _)) h4 h5⟩, fun b hb => ?_, Nat.min_le_left _ _⟩, YK, nM.apart, fun c hc => (uB c hc).aV (fun _ _ => rfl) (fun _ _ a b => ⟨a, b⟩) fun b hb => List.mem_append_left _ (List.mem_flatMap.2 ⟨c, hc, hb⟩)⟩, aI.nx (h := h2) (h' := { next := h2.next, low := min h.low h2.low, aB := h2.aB }) (fun _ _ a b => ⟨a, b⟩) mD⟩; rcases a2.chg b hb with h3 | h3
    . exact .inl h3
    exact .inr (Nat.le_trans (Nat.min_le_right _ _) h3)
theorem PD {T1 T2 : TypeId} {a' u' : Value} (hg : bL h S (bW b) (.fS T1 0 [.raw a, .raw u])) (hs : bL h2 S' (bW b) (.fS T2 0 [.raw a', .raw u'])) (hk : h2.get b = h.get b) : T2 = T1 /\ a' = a /\ u' = u := by
  obtain ⟨_, g2, _⟩ := tK hg; obtain ⟨_, s2, _⟩ := tK hs; rw [s2, g2] at hk; injection hk with hk; injection hk with h1 h2; injection h2 with h3 h4; injection h4 with h5 h6; exact ⟨h1, h3, h5⟩
theorem adN {acc VT : ByteArray} {a' u' : Value} (h h2 : Heap) (S : List Nat) (hg : ∀ c ∈ [(bW b, Cell.fS T 0 [.raw a, .raw u]), (u, .row e (.int .u8) (aP acc))], bL h (own [(bW b, Cell.fS T 0 [.raw a, .raw u]), (u, .row e (.int .u8) (aP acc))] ++ S) c.1 c.2)
    (hs : ∀ c ∈ [(bW b, Cell.fS T 0 [.raw a', .raw u']), (u', .row e (.int .u8) (aP VT))], bL h2 (own [(bW b, Cell.fS T 0 [.raw a', .raw u']), (u', .row e (.int .u8) (aP VT))] ++ S) c.1 c.2)
    (hk : ∀ b' ∈ own [(bW b, Cell.fS T 0 [.raw a, .raw u]), (u, .row e (.int .u8) (aP acc))], h2.get b' = h.get b') (hx : ∀ b o, h.get b = some o -> h2.get b = some o) :
    (∀ b' ∈ own [(bW b, Cell.fS T 0 [.raw a', .raw u']), (u', .row e (.int .u8) (aP VT))], b' ∈ own [(bW b, Cell.fS T 0 [.raw a, .raw u]), (u, .row e (.int .u8) (aP acc))]) /\ ∀ c ∈ [(bW b, Cell.fS T 0 [.raw a', .raw u']), (u', .row e (.int .u8) (aP VT))], bL h (own [(bW b, Cell.fS T 0 [.raw a', .raw u']), (u', .row e (.int .u8) (aP VT))] ++ S) c.1 c.2 := by
  obtain ⟨_, rfl, rfl⟩ := PD (hg _ List.mem_cons_self) (hs _ List.mem_cons_self) (hk b (by simp [own, cD])); refine ⟨fun b' hb => hb, fun c hc => ?_⟩; rcases List.mem_cons.1 hc with rfl | hc
  . exact hg _ List.mem_cons_self
  obtain rfl := List.mem_singleton.1 hc; rcases hs _ (List.mem_cons_of_mem _ List.mem_cons_self) with hx | ⟨b2, rs, m, h3, h4, h5, h6⟩
  . exact .inl hx
  have h3 : u' = _ := h3; refine .inr ⟨b2, rs, m, h3, h4, ?_, ?_⟩
  . rw [<- hk b2 (by rw [b7]; exact List.mem_append_right _ (by rw [b7, h3]; simp [cD]))]; exact h5
  rw [A0 h6]; exact PB
theorem aa4 {acc : ByteArray} {a' u' : Value} (h h2 : Heap) (S : List Nat) (hg : ∀ c ∈ [(bW b, Cell.fS T 0 [.raw a, .raw u]), (u, .row e (.int .u8) (aP acc))], bL h (own [(bW b, Cell.fS T 0 [.raw a, .raw u]), (u, .row e (.int .u8) (aP acc))] ++ S) c.1 c.2)
    (hs : ∀ c ∈ [(bW b, Cell.fS T 0 [.raw a', .raw u'])], bL h2 (own [(bW b, Cell.fS T 0 [.raw a', .raw u'])] ++ S) c.1 c.2)
    (hk : ∀ b' ∈ own [(bW b, Cell.fS T 0 [.raw a, .raw u]), (u, .row e (.int .u8) (aP acc))], h2.get b' = h.get b') (hx : ∀ b o, h.get b = some o -> h2.get b = some o) :
    (∀ b' ∈ own [(bW b, Cell.fS T 0 [.raw a', .raw u'])], b' ∈ own [(bW b, Cell.fS T 0 [.raw a, .raw u]), (u, .row e (.int .u8) (aP acc))]) /\ ∀ c ∈ [(bW b, Cell.fS T 0 [.raw a', .raw u'])], bL h (own [(bW b, Cell.fS T 0 [.raw a', .raw u'])] ++ S) c.1 c.2 := by
  obtain ⟨_, rfl, rfl⟩ := PD (hg _ List.mem_cons_self) (hs _ List.mem_cons_self) (hk b (by simp [own, cD])); refine ⟨fun b' hb => by rw [b7] at hb ⊢; exact List.mem_append_left _ (by simpa [own] using hb), fun c hc => ?_⟩; obtain rfl := List.mem_singleton.1 hc; obtain ⟨_, g2, g3, g4⟩ := tK (hg _ List.mem_cons_self); exact DJ (List.mem_append_left _ (by simp [own, cD])) g2 g3 g4
end Go.Fs
namespace Go.Fs
def uG (c : UInt8) : Bool := decide (48 <= c.toNat /\ c.toNat <= 57)
def z6 (d : Nat) : UInt8 := UInt8.ofNat (48 + d)
theorem qX {d : Nat} (h : d < 10) : (z6 d).toNat = 48 + d := by
  unfold z6; rw [UInt8.toNat_ofNat']; omega
theorem PE {d : Nat} (h : d < 10) : uG (z6 d) = true := decide_eq_true (by rw [qX h]; omega)
theorem VU {c : UInt8} (h : uG c = true) : z6 (c.toNat - 48) = c := by
  have h := of_decide_eq_true h; apply UInt8.toNat_inj.1; rw [qX (by omega)]; omega
def dF (n : Nat) : List UInt8 := if n < 10 then [z6 n] else dF (n / 10) ++ [z6 (n % 10)]
termination_by n
decreasing_by omega
theorem lM {n : Nat} (h : n < 10) : dF n = [z6 n] := by rw [dF, if_pos h]
theorem o7 {n : Nat} (h : 10 <= n) : dF n = dF (n / 10) ++ [z6 (n % 10)] := by rw [dF, if_neg (by omega)]
def vV (w : List UInt8) (v : Nat) : Nat := w.foldl (fun v c => 10 * v + (c.toNat - 48)) v
theorem BJ {w : List UInt8} {c : UInt8} {v : Nat} : vV (w ++ [c]) v = 10 * vV w v + (c.toNat - 48) := by
  unfold vV; rw [List.foldl_append]; rfl
theorem LY (n : Nat) : vV (dF n) 0 = n := by
  induction n using Nat.strongRecOn with
  | ind n ih =>
    by_cases h : n < 10
    . rw [lM h]; show 10 * 0 + ((z6 n).toNat - 48) = n; rw [qX h]; omega
    rw [o7 (by omega), BJ, ih (n / 10) (by omega), qX (by omega)]; omega
theorem VV (n : Nat) : ∀ c ∈ dF n, uG c = true := by
  induction n using Nat.strongRecOn with
  | ind n ih =>
    by_cases h : n < 10
    . rw [lM h]; intro c hc; rw [List.mem_singleton.1 hc]; exact PE h
    rw [o7 (by omega)]; intro c hc; rcases List.mem_append.1 hc with hc | hc
    . exact ih (n / 10) (by omega) c hc
    rw [List.mem_singleton.1 hc]; exact PE (by omega)
theorem al9 (n : Nat) : dF n ≠ [] := by
  by_cases h : n < 10
  . rw [lM h]; simp
  rw [o7 (by omega)]; simp
theorem LZ (k : Nat) : ∀ n : Nat, n < 10 ^ (k + 1) -> (dF n).length <= k + 1 := by
  induction k with
  | zero => intro n h; rw [lM (by simpa using h)]; simp
  | succ k ih =>
    intro n h; by_cases h2 : n < 10
    . rw [lM h2]; simp
    rw [o7 (by omega), List.length_append]; have h3 : n / 10 < 10 ^ (k + 1) := Nat.div_lt_of_lt_mul (by rw [Nat.pow_succ, Nat.mul_comm] at h; exact h); have := ih _ h3; simp only [List.length_singleton]; omega
theorem adO {n : Nat} (h : 1 <= n) : ∃ c r, dF n = c :: r /\ c.toNat ≠ 48 := by
  induction n using Nat.strongRecOn with
  | ind n ih =>
    by_cases h2 : n < 10
    . exact ⟨z6 n, [], lM h2, by rw [qX h2]; omega⟩
    obtain ⟨c, r, h3, h4⟩ := ih (n / 10) (by omega) (by omega); exact ⟨c, r ++ [z6 (n % 10)], by rw [o7 (by omega), h3]; rfl, h4⟩
def z7 (w : List UInt8) : Option Nat := if (w = [] \/ 9 < w.length) \/ (1 < w.length /\ (w.headD 0).toNat = 48) \/ w.all uG = false then none else some (vV w 0)
theorem ahB {n : Nat} (h : n < 10 ^ 9) : z7 (dF n) = some n := by
  have h1 := LZ 8 n h; unfold z7; rw [if_neg, LY]; rintro ((h2 | h2) | ⟨h2, h3⟩ | h2)
  . exact al9 n h2
  . omega
  . by_cases h4 : n < 10
    . rw [lM h4] at h2; simp at h2
    obtain ⟨c, r, h5, h6⟩ := adO (n := n) (by omega); rw [h5] at h3; exact h6 h3
  rw [List.all_eq_true.2 (VV n)] at h2; cases h2
theorem VW {α : Type} {w : List α} (h : w ≠ []) : ∃ r c, w = r ++ [c] := ⟨w.dropLast, w.getLast h, (List.dropLast_concat_getLast h).symm⟩
theorem ahC : ∀ {r : List UInt8} {c : UInt8}, c.toNat ≠ 48 -> uG c = true -> 1 <= vV (c :: r) 0 := fun {r c} h hd => by
  have h0 := of_decide_eq_true hd
  have aoL : ∀ (r : List UInt8) (v : Nat), 1 <= v -> 1 <= vV r v := by
    intro r
    induction r with
    | nil => exact fun v h => h
    | cons c r ih => exact fun v h => ih (10 * v + (c.toNat - 48)) (by omega)
  exact aoL r (10 * 0 + (c.toNat - 48)) (by omega)
theorem S4 (k : Nat) : ∀ w : List UInt8, w.length = k -> w ≠ [] -> (∀ c ∈ w, uG c = true) -> (1 < w.length -> (w.headD 0).toNat ≠ 48) -> dF (vV w 0) = w := by
  induction k with
  | zero => intro w hk h; exact absurd (List.eq_nil_of_length_eq_zero hk) h
  | succ k ih =>
    intro w hk cA hd hz; obtain ⟨r, c, rfl⟩ := VW cA; have hc := hd c (List.mem_append_right _ (List.mem_singleton.2 rfl)); have jZ := of_decide_eq_true hc; rw [BJ]
    cases r with
    | nil =>
      show dF (10 * 0 + (c.toNat - 48)) = [c]
      rw [Nat.mul_zero, Nat.zero_add, lM (by omega), VU hc]
    | cons x r =>
      have hx : x.toNat ≠ 48 := hz (by simp); have hxd := hd x (by simp); have hv := ahC (r := r) hx hxd
      have hl : (x :: r).length = k := by simpa using hk
      have h1 := ih (x :: r) hl (by simp) (fun c hc => hd c (List.mem_append_left _ hc)) fun _ => hx; rw [o7 (by omega), show (10 * vV (x :: r) 0 + (c.toNat - 48)) / 10 = vV (x :: r) 0 by omega, show (10 * vV (x :: r) 0 + (c.toNat - 48)) % 10 = c.toNat - 48 by omega, h1, VU hc]
theorem ahD {w : List UInt8} {n : Nat} (h : z7 w = some n) : dF n = w := by
  unfold z7 at h; split at h
  . cases h
  rename_i hn; have JP : w ≠ [] := fun e => hn (.inl (.inl e))
  have sK : w.all uG = true := by
    cases hc : w.all uG with
    | true => rfl
    | false => exact absurd (.inr (.inr hc)) hn
  obtain rfl := Option.some.inj h; exact S4 _ w rfl JP (List.all_eq_true.1 sK) fun h1 h2 => hn (.inr (.inl ⟨h1, h2⟩))
def j4 (s : UInt8) : List UInt8 -> List (List UInt8)
  | [] => [[]]
  | x :: r => if x = s then [] :: j4 s r else match j4 s r with
    | [] => [[x]]
    | w :: l => (x :: w) :: l
theorem DK {s : UInt8} : ∀ l : List UInt8, j4 s l ≠ []
  | [] => by simp [j4]
  | x :: r => by
    unfold j4; split
    . simp
    split <;> simp
theorem DL {s : UInt8} {r : List UInt8} : j4 s (s :: r) = [] :: j4 s r := by rw [j4, if_pos rfl]
theorem vW {s x : UInt8} {r w : List UInt8} {l : List (List UInt8)} (h : x ≠ s) (hr : j4 s r = w :: l) : j4 s (x :: r) = (x :: w) :: l := by rw [j4, if_neg h, hr]
theorem A1 {s : UInt8} : ∀ {w : List UInt8}, (∀ c ∈ w, c ≠ s) -> j4 s w = [w]
  | [], _ => rfl
  | x :: w, h => vW (h x List.mem_cons_self) (A1 fun c hc => h c (List.mem_cons_of_mem _ hc))
theorem DM {s : UInt8} : ∀ {w r : List UInt8}, (∀ c ∈ w, c ≠ s) -> j4 s (w ++ s :: r) = w :: j4 s r
  | [], r, _ => DL
  | x :: w, r, h => vW (h x List.mem_cons_self) (DM fun c hc => h c (List.mem_cons_of_mem _ hc))
def DN (s : UInt8) : List (List UInt8) -> List UInt8
  | [] => []
  | [w] => w
  | w :: v :: l => w ++ s :: DN s (v :: l)
theorem vX {s : UInt8} {w : List UInt8} {l : List (List UInt8)} (h : l ≠ []) : DN s (w :: l) = w ++ s :: DN s l := by
  cases l with
  | nil => exact absurd rfl h
  | cons v l => rfl
theorem VX {s : UInt8} : ∀ l : List UInt8, DN s (j4 s l) = l
  | [] => rfl
  | x :: r => by
    have ih := VX (s := s) r; by_cases h : x = s
    . subst h; rw [DL, vX (DK r), ih]; rfl
    cases hr : j4 s r with
    | nil => exact absurd hr (DK r)
    | cons w l =>
      rw [hr] at ih; rw [vW h hr, <- ih]
      cases l with
      | nil => rfl
      | cons v l => rfl
theorem VY {s : UInt8} : ∀ {l : List (List UInt8)}, l ≠ [] -> (∀ w ∈ l, ∀ c ∈ w, c ≠ s) -> j4 s (DN s l) = l
  | [], h, _ => absurd rfl h
  | [w], _, h => A1 (h w List.mem_cons_self)
  | w :: v :: l, _, h => by
    rw [vX (by simp), DM (h w List.mem_cons_self), VY (by simp) fun u hu => h u (List.mem_cons_of_mem _ hu)]
end Go.Fs
namespace Go.Fs
variable {P : Program} {orc : FuncId -> List Value -> Heap -> Option (Value × Heap)} {h : Heap} {S : List Nat} {σ : aM} {t : Tr} {fl : VL} {x y z lo hi : Operand} {T : TypeId} {s : ByteArray} {a b : Int}
theorem M0 {k : Int} {n : Nat} {q : BoundsCode} (h : 0 <= k /\ k <= ((n : Nat) : Int)) : aC P (Instr.sliceBound (.int .i64 k) n q) = some k.toNat := by
  unfold Instr.sliceBound; simp [aD, asIntOf, aK, h.1, h.2]
theorem str_slice {l r : Option Value} {i j : Nat} (hT : P.underlying T = some .string) (hb : aC P (Instr.sliceBounds false s.size s.size l r none) = some (i, j, s.size)) : aC P (Instr.sliceAt T (.string s) l r none) = some (.string (s.extract i j)) := by
  have h1 : aC P (Instr.sliceAt T (.string s) l r none) = aC P (Instr.slice T (.string s) l r none) := by
    unfold Instr.sliceAt; simp only [aD, aG hT, Option.bind_some]
  rw [h1]; unfold Instr.slice; simp only [aD, aG hT, Option.bind_some, Option.isSome_none, Bool.false_eq_true, if_false, hb, aK]
theorem dV.aa5 {k : Int} (hT : P.underlying T = some .string) (hx : aQ fl x = some (.v .str s)) (hh : aQ fl hi = some (.v (.int .i64) k)) (h0 : 0 <= k /\ k <= ((s.size : Nat) : Int)) : dV P fl σ (.slice T x none (some hi) none) (.v .str (s.extract 0 k.toNat)) :=
  ⟨rfl, fun h S t hs _ => by
    have h1 := aE.str (hs x (by simp [Op.operands]) _ hx : aE h S .str (aA t x) s); have h2 := aE.int (hs hi (by simp [Op.operands]) _ hh); refine ⟨.string (s.extract 0 k.toNat), aE.ofStr _, fun H _ _ _ _ _ _ => ?_⟩; show (bV P T (aA t x) none (some (aA t hi)) none H).map _ = _
    have hb : aC P (Instr.sliceBounds false s.size s.size none (some (.int .i64 k)) none) = some (0, k.toNat, s.size) := by
      unfold Instr.sliceBounds; simp only [aD, aK, Option.bind_some, M0 h0]
    rw [h1, h2]; simp only [bV, hT, str_slice hT hb]
    rfl⟩
theorem dV.ahE {k : Int} (hT : P.underlying T = some .string) (hx : aQ fl x = some (.v .str s)) (hh : aQ fl lo = some (.v (.int .i64) k)) (h0 : 0 <= k /\ k <= ((s.size : Nat) : Int)) : dV P fl σ (.slice T x (some lo) none none) (.v .str (s.extract k.toNat s.size)) :=
  ⟨rfl, fun h S t hs _ => by
    have h1 := aE.str (hs x (by simp [Op.operands]) _ hx : aE h S .str (aA t x) s); have h2 := aE.int (hs lo (by simp [Op.operands]) _ hh); refine ⟨.string (s.extract k.toNat s.size), aE.ofStr _, fun H _ _ _ _ _ _ => ?_⟩; show (bV P T (aA t x) (some (aA t lo)) none none H).map _ = _
    have hb : aC P (Instr.sliceBounds false s.size s.size (some (.int .i64 k)) none none) = some (k.toNat, s.size, s.size) := by
      unfold Instr.sliceBounds; simp only [aD, aK, Option.bind_some, M0 h0]
    rw [h1, h2]; simp only [bV, hT, str_slice hT hb]
    rfl⟩
theorem VZ {h : Heap} {S : List Nat} {us : List Value} {c : Int} (hr : aX h S [.v .str s, .v (.int .u8) c] us) : us = [.string s, .int .u8 c] := by
  obtain ⟨u, r, rfl, h2, u2, r2, rfl, h3, h4⟩ := hr; obtain rfl : r2 = [] := h4; rw [aE.str h2, aE.int h3]
theorem VF.ahF {f : FuncId} {fn : Func} {c : Int} (kX : P.funcs[f]? = some fn) (ho : ∀ us h, orc f us h = none) (hb : (fn.body.isNone && !(fn.name == "runtime.NumGoroutine")) = true) (h1 : (Extern.findNext fn).isNone = true) (h2 : Extern.find fn = some Extern.BytealgIndexByte.indexByte) :
    VF P orc f [.v .str s, .v (.int .u8) c] (.v (.int .i64) (Go.Lib.indexByte s.data.toList c.toNat.toUInt8)) :=
  VF.ext (us := [.string s, .int .u8 c]) kX ho hb h1 h2 rfl (fun _ _ _ hr => VZ hr) (w := .int .i64 (Go.Lib.indexByte s.data.toList c.toNat.toUInt8)) (by
    have e : aC P (Extern.BytealgIndexByte.indexByte #[.string s, .int .u8 c]) = some (.int .i64 (Go.Lib.indexByte s.data.toList c.toNat.toUInt8)) := by
      rw [<- Go.Lib.firstIdx_eq]; unfold Go.firstIdx; show aC P (do let b <- Extern.Bytes.bytesOf (.string s); let c <- Extern.Bytes.asByte (.int .u8 c); match (List.range b.size).find? fun i => b[i]! == c with | some i => pure (goInt i) | none => pure (goInt (-1))) = _; simp only [Extern.Bytes.bytesOf, Extern.Bytes.asByte, aD, aK, Option.bind_some]
      cases (List.range s.size).find? fun i => s[i]! == c.toNat.toUInt8 with
      | none => rfl
      | some i => rfl
    show ((aC P (Extern.BytealgIndexByte.indexByte #[.string s, .int .u8 c])).bind fun v => if af v then some v else none) = _
    rw [e]; rfl) fun _ _ => aE.ofInt _ _
theorem VF.ahG {f : FuncId} {fn : Func} {c : Int} (kX : P.funcs[f]? = some fn) (ho : ∀ us h, orc f us h = none) (hb : (fn.body.isNone && !(fn.name == "runtime.NumGoroutine")) = true) (h1 : (Extern.findNext fn).isNone = true) (h2 : Extern.find fn = some Extern.BytealgCount.count) :
    VF P orc f [.v .str s, .v (.int .u8) c] (.v (.int .i64) ((s.data.toList.count c.toNat.toUInt8 : Nat) : Int)) :=
  VF.ext (us := [.string s, .int .u8 c]) kX ho hb h1 h2 rfl (fun _ _ _ hr => VZ hr) (w := .int .i64 ((s.data.toList.count c.toNat.toUInt8 : Nat) : Int)) (by
    have e : aC P (Extern.BytealgCount.count #[.string s, .int .u8 c]) = some (.int .i64 ((s.data.toList.count c.toNat.toUInt8 : Nat) : Int)) := by
      show aC P (do let b <- Extern.Bytes.bytesOf (.string s); let c' <- Extern.Bytes.asByte (.int .u8 c); pure (goInt (b.foldl (fun n x => if x == c' then n + 1 else n) (0 : Nat)))) = _; simp only [Extern.Bytes.bytesOf, Extern.Bytes.asByte, aD, aK, Option.bind_some]; rw [Go.Lib.foldl_data, Go.Lib.count_foldl]; simp [goInt, Go.Lib.countByte]
    show ((aC P (Extern.BytealgCount.count #[.string s, .int .u8 c])).bind fun v => if af v then some v else none) = _
    rw [e]; rfl) fun _ _ => aE.ofInt _ _
end Go.Fs
namespace Go.Fs
open Go.Lib (indexByte)
theorem PF {c : UInt8} : ∀ {l : List UInt8}, indexByte l c < 0 -> ∀ x ∈ l, x ≠ c
  | [], _, x, hx => by cases hx
  | b :: l, h, x, hx => by
    unfold indexByte at h; by_cases hb : b = c
    . rw [if_pos (by simp [hb])] at h; omega
    rw [if_neg (by simp [hb])] at h
    have ih : indexByte l c < 0 := by
      split at h
      . rename_i he; have := of_decide_eq_true he; omega
      have := Go.Lib.indexByte_ge l c; omega
    rcases List.mem_cons.1 hx with rfl | hx
    . exact hb
    exact PF ih x hx
theorem FD {c : UInt8} : ∀ {l : List UInt8} {k : Nat}, indexByte l c = ((k : Nat) : Int) -> k < l.length /\ (∀ x ∈ l.take k, x ≠ c) /\ l.drop k = c :: l.drop (k + 1)
  | [], k, h => by
    unfold indexByte at h
    omega
  | b :: l, k, h => by
    unfold indexByte at h; by_cases hb : b = c
    . rw [if_pos (by simp [hb])] at h
      obtain rfl : k = 0 := by omega
      subst hb; exact ⟨by simp, fun x hx => by simp at hx, rfl⟩
    rw [if_neg (by simp [hb])] at h; split at h
    . omega
    rename_i he; have IX := Go.Lib.indexByte_ge l c; have cA : indexByte l c ≠ -1 := fun e => he (by rw [e]; rfl); obtain ⟨j, rfl⟩ : ∃ j, k = j + 1 := ⟨k - 1, by omega⟩; obtain ⟨h1, h2, h3⟩ := FD (c := c) (l := l) (k := j) (by omega); refine ⟨by simp; omega, fun x hx => ?_, by simpa using h3⟩; rw [List.take_succ_cons] at hx; rcases List.mem_cons.1 hx with rfl | hx
    . exact hb
    exact h2 x hx
theorem W0 {c : UInt8} {l : List UInt8} {k : Nat} (h : indexByte l c = ((k : Nat) : Int)) : j4 c l = l.take k :: j4 c (l.drop (k + 1)) := by
  obtain ⟨h1, h2, h3⟩ := FD h
  have e : l = l.take k ++ c :: l.drop (k + 1) := by rw [<- h3, List.take_append_drop]
  have := DM (s := c) (w := l.take k) (r := l.drop (k + 1)) h2; rw [<- e] at this; exact this
theorem abJ {c : UInt8} {l : List UInt8} (h : indexByte l c < 0) : j4 c l = [l] := A1 (PF h)
theorem z8 {c : UInt8} : ∀ l : List UInt8, (j4 c l).length = l.count c + 1
  | [] => rfl
  | x :: r => by
    have ih := z8 (c := c) r; by_cases h : x = c
    . subst h; rw [DL, List.length_cons, ih, List.count_cons_self]
    cases hr : j4 c r with
    | nil => exact absurd hr (DK r)
    | cons w l =>
      rw [hr] at ih; rw [vW h hr, List.length_cons, List.count_cons_of_ne h]; simpa using ih
def aY (s : ByteArray) : List UInt8 := s.data.toList
def O3 (l : List UInt8) : ByteArray := ⟨l.toArray⟩
theorem kK (s : ByteArray) : O3 (aY s) = s := rfl
theorem gM (l : List UInt8) : aY (O3 l) = l := rfl
theorem fE (s : ByteArray) : (aY s).length = s.size := by
  show s.data.toList.length = s.data.size; simp
theorem hJ (s r : ByteArray) : aY (s ++ r) = aY s ++ aY r := by
  unfold aY; rw [ByteArray.data_append, Array.toList_append]
theorem vY {s r : ByteArray} (h : aY s = aY r) : s = r := by rw [<- kK s, <- kK r, h]
theorem FE (s : ByteArray) (k : Nat) : aY (s.extract 0 k) = (aY s).take k := by
  unfold aY; rw [ByteArray.data_extract, Array.toList_extract, List.extract_eq_take_drop, List.drop_zero, Nat.sub_zero]
theorem vZ (s : ByteArray) (k : Nat) : aY (s.extract k s.size) = (aY s).drop k := by
  have hl := fE s; unfold aY at hl ⊢; rw [ByteArray.data_extract, Array.toList_extract, List.extract_eq_take_drop, List.take_of_length_le (by rw [List.length_drop]; omega)]
def bY (c : UInt8) (s : ByteArray) : List ByteArray := (j4 c (aY s)).map O3
theorem PG {c : UInt8} {s : ByteArray} : (bY c s).length = (aY s).count c + 1 := by rw [bY, List.length_map, z8]
theorem PH {c : UInt8} {s : ByteArray} {k : Nat} (h : indexByte (aY s) c = ((k : Nat) : Int)) : bY c s = s.extract 0 k :: bY c (s.extract (k + 1) s.size) := by
  unfold bY; rw [W0 h, List.map_cons, vZ, <- FE, kK]
theorem W4 {c : UInt8} {s : ByteArray} (h : indexByte (aY s) c < 0) : bY c s = [s] := by
  unfold bY; rw [abJ h]; rfl
theorem M1 {c : UInt8} {l : List UInt8} {k : Nat} (h : indexByte l c = ((k : Nat) : Int)) : l.count c = (l.drop (k + 1)).count c + 1 := by
  have h1 := z8 (c := c) l; rw [W0 h, List.length_cons, z8] at h1; omega
theorem adP {c : UInt8} {l : List UInt8} (h : indexByte l c < 0) : l.count c = 0 := by
  have h1 := z8 (c := c) l; rw [abJ h] at h1; simpa using h1.symm
end Go.Fs
namespace Go.Fs
variable {P : Program} {fl : VL} {σ : aM} {x y : Operand} {T T' : TypeId} {p q : Int}
end Go.Fs
namespace Go.Proofs
open Go.Fs
set_option maxHeartbeats 1000000
theorem ahH {s : ByteArray} {c : Int} : VF Tryz.prog OA 189 [.v .str s, .v (.int .u8) c] (.v (.int .i64) (Go.Lib.indexByte (aY s) c.toNat.toUInt8)) := VF.ahF Tryz.func189 (fun _ _ => rfl) (by kernel_rfl) (by kernel_rfl) (by kernel_rfl)
theorem adQ {s : ByteArray} {c : Int} : VF Tryz.prog OA 193 [.v .str s, .v (.int .u8) c] (.v (.int .i64) (((aY s).count c.toNat.toUInt8 : Nat) : Int)) := VF.ahG Tryz.func193 (fun _ _ => rfl) (by kernel_rfl) (by kernel_rfl) (by kernel_rfl)
def cS (p : ByteArray) : UInt8 := p.get! 0
theorem W5 {p : ByteArray} : (fB p 0).toNat.toUInt8 = cS p := by
  show ((((p.get! 0).toNat : Nat) : Int)).toNat.toUInt8 = p.get! 0; rw [Int.toNat_natCast]; exact UInt8.ofNat_toNat
theorem one_byte {p : ByteArray} (hp : p.size = 1) : ∃ c, p = O3 [c] := by
  have hl := fE p; rw [hp] at hl; obtain ⟨c, hc⟩ := List.length_eq_one_iff.1 hl; exact ⟨c, by rw [<- hc, kK]⟩
theorem adR {p : ByteArray} (hp : p.size = 1) : Go.Lib.indexByte (aY p) (cS p) = 0 := by
  obtain ⟨c, rfl⟩ := one_byte hp; show Go.Lib.indexByte [c] c = 0; unfold Go.Lib.indexByte; rw [if_pos (by simp)]
theorem alA {s : ByteArray} {c : Int} : VF Tryz.prog OA 156 [St s, .v (.int .u8) c] (I (Go.Lib.indexByte (aY s) c.toNat.toUInt8)) := by
  refine VF.enter Tryz.func156 rfl (fun _ _ => rfl) rfl ?_; show U _ _ _ _ _ [(0, St s), (1, .v (.int .u8) c)] [] _; refine U.seq (U.text ?_); refine J.c (.assign rfl) ?_; refine J.go (U.seq (U.text ?_)); refine J.c (.move rfl) (J.c (.move rfl) ?_); refine J.call rfl rfl (VF.call (ahH )) ?_; refine J.c (.assign rfl) (J.go ?_); refine U.ret ?_; exact aW.one rfl b6 (dM (by rfl))
theorem W6 {s : ByteArray} {p : ByteArray} (hp : p.size = 1) : VF Tryz.prog OA 122 [St s, St p] (I (Go.Lib.indexByte (aY s) (cS p))) := by
  refine VF.enter Tryz.func122 rfl (fun _ _ => rfl) rfl ?_; show U _ _ _ _ _ [(0, St s), (1, St p)] [] _; refine U.seq (U.text ?_); refine J.c (.assign rfl) ?_; refine J.go (U.seq (U.text ?_)); refine J.c (.move rfl) ?_; refine J.r (.rJ) ?_; refine J.c (.assign rfl) ?_; refine J.go (U.seq (U.block (U.seq (U.text ?_)))); refine J.c (.move rfl) (J.c (.eql) (J.c (.move rfl) ?_)); refine J.cg (r := decide (((p.size : Nat) : Int) = (0 : Int))) (w := false) [] trivial (fun _ => (.move rfl)) ?_; refine J.cg (r := decide (((p.size : Nat) : Int) = (0 : Int))) (w := false) [] trivial (fun _ => (.move rfl)) ?_; refine J.cg (r := decide (((p.size : Nat) : Int) = (0 : Int))) (w := false) [(20, St p), (21, St s)] ⟨rfl, rfl, trivial⟩ (fun _ => (.L6)) ?_; refine J.c (.or) (J.c (.assign rfl) (J.go ?_)); refine U.fN rfl (fun c2 => ?_) (fun c2 => ?_)
  . try simp only [Bool.and_eq_true, Bool.or_eq_true, Bool.and_eq_false_iff, Bool.or_eq_false_iff, Bool.not_eq_true', Bool.not_eq_false', decide_eq_true_eq, decide_eq_false_iff_not] at c2
    refine U.seq (U.text ?_); refine J.c (.assign rfl) (J.go ?_); refine U.ret ?_; exact aW.one rfl b6 (dM (by rcases c2 with h | h; exact absurd h (by omega); rw [<- h, adR hp]))
  try simp only [Bool.and_eq_true, Bool.or_eq_true, Bool.and_eq_false_iff, Bool.or_eq_false_iff, Bool.not_eq_true', Bool.not_eq_false', decide_eq_true_eq, decide_eq_false_iff_not] at c2
  refine U.seq (U.text ?_); refine J.c (.move rfl) (J.c (.eql) (J.c (.assign rfl) (J.go ?_))); refine U.b8 rfl (fun c4 => ?_) (fun c4 => ?_)
  . refine U.seq (U.text ?_); refine J.c (.move rfl) (J.c (.move rfl) (J.c (.ixS rfl rfl (by omega) (by omega)) ?_)); refine J.call rfl rfl (VF.call (alA )) ?_; refine J.c (.assign rfl) (J.go ?_); refine U.ret ?_; exact aW.one rfl b6 (dM (by exact congrArg (Go.Lib.indexByte (aY s)) W5))
  omega
theorem alB {s : ByteArray} {p : ByteArray} (hp : p.size = 1) : VF Tryz.prog OA 162 [St s, St p] (I (Go.Lib.indexByte (aY s) (cS p))) := by
  refine VF.enter Tryz.func162 rfl (fun _ _ => rfl) rfl ?_; show U _ _ _ _ _ [(0, St s), (1, St p)] [] _; refine U.seq (U.text ?_); refine J.c (.assign rfl) ?_; refine J.go (U.seq (U.text ?_)); refine J.c (.move rfl) (J.c (.move rfl) ?_); refine J.call rfl rfl (VF.call (W6 hp)) ?_; refine J.c (.assign rfl) (J.go ?_); refine U.ret ?_; exact aW.one rfl b6 (dM (by rfl))
theorem ahI {s : ByteArray} {p : ByteArray} (hp : p.size = 1) : VF Tryz.prog OA 161 [St s, St p] (I (((aY s).count (cS p) : Nat) : Int)) := by
  refine VF.enter Tryz.func161 rfl (fun _ _ => rfl) rfl ?_; show U _ _ _ _ _ [(0, St s), (1, St p)] [] _; refine U.seq (U.text ?_); refine J.c (.assign rfl) ?_; refine J.go (U.seq (U.seq (U.text ?_))); refine J.c (.move rfl) ?_; refine J.r (.rJ) ?_; refine J.c (.eql) (J.go ?_); refine U.b8 rfl (fun c1 => ?_) (fun c1 => ?_)
  . omega
  refine U.skip (U.seq (U.seq (U.text ?_))); refine J.c (.move rfl) ?_; refine J.r (.rJ) ?_; refine J.c (.eql) (J.go ?_); refine U.b8 rfl (fun c3 => ?_) (fun c3 => ?_)
  . refine U.seq (U.text ?_); refine J.c (.move rfl) (J.c (.move rfl) (J.c (.ixS rfl rfl (by omega) (by omega)) ?_)); refine J.call rfl rfl (VF.call (adQ )) ?_; refine J.c (.assign rfl) (J.go ?_); refine U.ret ?_; exact aW.one rfl b6 (dM (by exact congrArg (fun c => (((aY s).count c : Nat) : Int)) W5))
  omega
def eX (c : UInt8) (s : ByteArray) : ByteArray := if Go.Lib.indexByte (aY s) c < 0 then s else s.extract 0 (Go.Lib.indexByte (aY s) c).toNat
def o8 (c : UInt8) (s : ByteArray) : ByteArray := if Go.Lib.indexByte (aY s) c < 0 then ByteArray.empty else s.extract ((Go.Lib.indexByte (aY s) c).toNat + 1) s.size
theorem S5 {s : ByteArray} {c : UInt8} : Go.Lib.indexByte (aY s) c < ((s.size : Nat) : Int) := by
  have hl := fE s; by_cases h : 0 <= Go.Lib.indexByte (aY s) c
  . obtain ⟨k, hk⟩ := Int.eq_ofNat_of_zero_le h; have := (FD hk).1; omega
  omega
theorem adS {s : ByteArray} {p : ByteArray} (hp : p.size = 1) (hs : s.size < 1000000) : VF Tryz.prog OA 98 [St s, St p] (.nD [St (eX (cS p) s), St (o8 (cS p) s), B (decide (0 <= Go.Lib.indexByte (aY s) (cS p)))]) := by
  refine VF.enter Tryz.func98 rfl (fun _ _ => rfl) rfl ?_; show U _ _ _ _ _ [(0, St s), (1, St p)] [] _; refine U.seq (U.text ?_); refine J.c (.assign rfl) (J.c (.assign rfl) (J.c (.assign rfl) ?_)); refine J.go (U.seq (U.seq (U.text ?_))); refine J.c (.move rfl) (J.c (.move rfl) ?_); refine J.call rfl rfl (VF.call (W6 hp)) ?_; refine J.c (.assign rfl) ?_; refine J.go (U.seq (U.text ?_)); have bX := S5 (s := s) (c := cS p); refine J.c (.move rfl) (J.c (.geq) (J.go ?_)); refine U.b8 rfl (fun c2 => ?_) (fun c2 => ?_)
  . refine U.seq (U.drawn ?_); refine VD.c (.move rfl) (VD.c (.move rfl) ?_); refine VD.r [] (.aa5 (by kernel_rfl) rfl rfl (by omega)) (.inl rfl) ?_; refine VD.c (.move rfl) (VD.c (.move rfl) (VD.c (.move rfl) (VD.nw [] ?_))); refine VD.r [] (.rJ) (.inl rfl) ?_; refine VD.c (.add rfl rfl (by omega)) ?_; refine VD.r [] (.ahE (by kernel_rfl) rfl rfl (by omega)) (.inl rfl) ?_; refine VD.c (.assign rfl) (VD.c (.assign rfl) (VD.c (.assign rfl) (VD.go ?_))); refine U.ret ?_; exact aW.three rfl b6 b6 b6 (eS (by rw [eX, if_neg (by omega)])) (eS (by rw [o8, if_neg (by omega), hp]; congr 1; omega)) (eS (by exact (decide_eq_true c2).symm))
  refine U.skip (U.seq (U.text ?_)); refine J.c (.move rfl) (J.c (.assign rfl) (J.c (.assign rfl) (J.c (.assign rfl) ?_))); refine J.go ?_; refine U.ret ?_; exact aW.three rfl b6 b6 b6 (eS (by rw [eX, if_pos (by omega)])) (eS (by rw [o8, if_pos (by omega)]; rfl)) (eS (by exact (decide_eq_false c2).symm))
theorem ahJ {s : ByteArray} {p : ByteArray} (hp : p.size = 1) (hs : s.size < 1000000) : VF Tryz.prog OA 59 [St s, St p] (.nD [St (eX (cS p) s), St (o8 (cS p) s), B (decide (0 <= Go.Lib.indexByte (aY s) (cS p)))]) := by
  refine VF.enter Tryz.func59 rfl (fun _ _ => rfl) rfl ?_; show U _ _ _ _ _ [(0, St s), (1, St p)] [] _; refine U.seq (U.text ?_); refine J.c (.assign rfl) (J.c (.assign rfl) (J.c (.assign rfl) ?_)); refine J.go (U.seq (U.text ?_)); refine J.c (.move rfl) (J.c (.move rfl) ?_); refine J.call rfl rfl (VF.call (adS hp hs)) ?_; refine J.c (.extract) (J.c (.extract) (J.c (.extract) (J.c (.assign rfl) ?_))); refine J.c (.assign rfl) (J.c (.assign rfl) (J.go ?_)); refine U.ret ?_; exact aW.three rfl b6 b6 b6 (eS (by rfl)) (eS (by rfl)) (eS (by rfl))
end Go.Proofs
namespace Go.Proofs
open Go.Fs
set_option maxHeartbeats 1000000
theorem rW : fW Tryz.prog 116 9 .str := u7 (by kernel_rfl)
theorem zt9 : tG Tryz.prog 9 .str := rK (z := .string ByteArray.empty) (by kernel_rfl) rfl rfl
theorem ahK {α : Type} {W : List α} {i n : Nat} {d x : α} (hn : W.length = n) (hi : i < W.length) (hx : W[i] = x) : (W.take i ++ List.replicate (n - i) d).set i x = W.take (i + 1) ++ List.replicate (n - (i + 1)) d := by
  have h1 : (W.take i).length = i := by rw [List.length_take]; omega
  rw [List.set_append_right _ _ (by omega), h1, Nat.sub_self, show n - i = (n - (i + 1)) + 1 by omega, List.replicate_succ, List.set_cons_zero, List.take_succ_eq_append_getElem hi, hx, List.append_assoc]; rfl
theorem aoM {α : Type} {W : List α} {i n : Nat} {d : α} (hn : W.length = n) (hi : i <= n) : (W.take i ++ List.replicate (n - i) d).length = n := by
  rw [List.length_append, List.length_take, List.length_replicate]; omega
theorem S6 {α : Type} {W A R : List α} {x : α} {i : Nat} (h : W = A ++ x :: R) (hA : A.length = i) : ∃ hi : i < W.length, W[i] = x := by
  subst h; refine ⟨by rw [List.length_append, List.length_cons]; omega, ?_⟩; subst hA; simp
theorem adT {α : Type} {W R : List α} {x : α} {i : Nat} (h : W = W.take i ++ x :: R) (hi : i < W.length) : W = W.take (i + 1) ++ R := by
  obtain ⟨h1, h2⟩ := S6 (i := i) h (by rw [List.length_take]; omega); rw [List.take_succ_eq_append_getElem hi, h2, List.append_assoc]; exact h
theorem adU {c : UInt8} {s : ByteArray} (h : (aY s).count c = 0) : bY c s = [s] := by
  by_cases hx : Go.Lib.indexByte (aY s) c < 0
  . exact W4 hx
  obtain ⟨m, hm⟩ := Int.eq_ofNat_of_zero_le (show 0 <= Go.Lib.indexByte (aY s) c by omega); have := M1 hm; omega
theorem ahL {s : ByteArray} {p : ByteArray} {sv : Int} {n : Int} (hp : p.size = 1) (hs : s.size < 100000) (hsv : sv = 0) (hn : n = -1) : VF Tryz.prog OA 123 [St s, St p, I sv, I n] (.v (.sl .str) (bY (cS p) s)) := by
  refine VF.enter Tryz.func123 rfl (fun _ _ => rfl) rfl ?_; show U _ _ _ _ _ [(0, St s), (1, St p), (2, I sv), (3, I n)] [] _; refine U.seq (U.text ?_); have sE := List.count_le_length (a := cS p) (l := aY s); rw [fE] at sE; refine J.c (.assign rfl) ?_; refine J.go (U.seq (U.seq (U.text ?_))); refine J.c (.move rfl) (J.c (.eql) (J.go ?_)); refine U.b8 rfl (fun c1 => ?_) (fun c1 => ?_)
  . omega
  refine U.skip (U.seq (U.seq (U.text ?_))); refine J.c (.move rfl) (J.c (.L6) (J.go ?_)); refine U.b8 rfl (fun c3 => ?_) (fun c3 => ?_)
  . rw [c3] at hp; cases hp
  refine U.skip (U.seq (U.seq (U.text ?_))); refine J.c (.move rfl) (J.c (.lss) (J.go ?_)); refine U.b8 rfl (fun c5 => ?_) (fun c5 => ?_)
  . refine U.text ?_; refine J.c (.move rfl) (J.c (.move rfl) ?_); refine J.call rfl rfl (VF.call (ahI hp)) ?_; refine J.c (.add rfl rfl (by omega)) (J.c (.assign rfl) ?_); refine J.go (U.seq (U.text ?_))
    have tW : min ((((aY s).count (cS p) : Nat) : Int) + 1) (((s.size : Nat) : Int) + 1) = (((aY s).count (cS p) + 1 : Nat) : Int) := by omega
    have hwl := PG (c := cS p) (s := s); refine J.c (.move rfl) (J.c (.move rfl) ?_); refine J.r (.rJ) ?_; refine J.c (.add rfl rfl (by omega)) (J.c (.ar4) ?_); rw [tW]; refine J.c (.assign rfl) ?_; refine J.go (U.seq (U.text ?_)); refine J.c (.move rfl) ?_; refine J.cell (.make (k := ((aY s).count (cS p) + 1)) rfl rfl rW zt9 (by omega)) ?_; intro eT; refine J.c (.assign rfl) ?_; refine J.go (U.seq (U.text ?_)); refine J.c (.move rfl) (J.c (.sub rfl rfl (by omega)) (J.c (.assign rfl) ?_)); refine J.go (U.seq (U.text ?_)); refine J.c (.assign rfl) ?_; refine J.go (U.seq (U.block ?_)); refine U.aV [(0, St s), (1, St p), (2, I sv), (3, I ((((aY s).count (cS p) + 1 : Nat) : Int) - (1 : Int))), (9, .raw eT), (10, I ((0 : Nat) : Int))] ⟨rfl, rfl, rfl, rfl, rfl, rfl, trivial⟩ ?_; refine U.loop (I := fun kk ff ss => ∃ (i : Nat) (S : ByteArray), kk = (aY s).count (cS p) - i /\ ff = [(0, St S), (1, St p), (2, I sv), (3, I ((((aY s).count (cS p) + 1 : Nat) : Int) - (1 : Int))), (9, .raw eT), (10, I ((i : Nat) : Int))] /\ ss = [(eT, .row 9 .str ((bY (cS p) s).take i ++ List.replicate ((aY s).count (cS p) + 1 - i) ByteArray.empty))] /\ (i <= (aY s).count (cS p)) /\ (bY (cS p) s = (bY (cS p) s).take i ++ bY (cS p) S) /\ ((aY S).count (cS p) + i = (aY s).count (cS p)) /\ (S.size <= s.size)) ?_ _ _ _ ⟨0, s, rfl, rfl, rfl, (by omega), (by rfl), (by rfl), (by exact Nat.le_refl _)⟩; rintro kk ff ss ⟨i, S, oL, rfl, rfl, hi, hS, hc, hz⟩; have U0 := aoM (d := ByteArray.empty) hwl (i := i) (by omega); refine U.seq (U.seq (U.text ?_)); refine J.c (.move rfl) (J.c (.move rfl) (J.c (.lss) (J.go ?_))); refine U.b8 rfl (fun c11 => ?_) (fun c11 => ?_)
    . have hit : i < (aY s).count (cS p) := by omega
      have IX := Go.Lib.indexByte_ge (aY S) (cS p); have bX := S5 (s := S) (c := cS p); refine U.skip (U.block (U.seq (U.text ?_))); refine J.c (.move rfl) (J.c (.move rfl) ?_); refine J.call rfl rfl (VF.call (alB hp)) ?_; refine J.c (.assign rfl) ?_; refine J.go (U.seq (U.seq (U.text ?_))); refine J.c (.move rfl) (J.c (.lss) (J.go ?_)); refine U.b8 rfl (fun c13 => ?_) (fun c13 => ?_)
      . have := adP (l := aY S) c13; omega
      obtain ⟨m, hm⟩ := Int.eq_ofNat_of_zero_le (show 0 <= Go.Lib.indexByte (aY S) (cS p) by omega)
      have he1 : (Go.Lib.indexByte (aY S) (cS p) + sv).toNat = m := by omega
      have he2 : (Go.Lib.indexByte (aY S) (cS p) + ((p.size : Nat) : Int)).toNat = m + 1 := by omega
      have nL := PH hm; have hcn := M1 hm; have CJ := hS; rw [nL] at CJ; have fH := adT CJ (by omega); obtain ⟨NR, YL⟩ := S6 (i := i) CJ (by rw [List.length_take]; omega); have C8 := ahK (d := ByteArray.empty) hwl (by omega) YL
      have hzl : (S.extract (m + 1) S.size).size <= S.size := by
        have h7 := congrArg List.length (vZ S (m + 1)); rw [fE, List.length_drop, fE] at h7; omega
      refine U.skip (U.seq (U.text ?_)); refine J.c (.move rfl) (J.c (.move rfl) (J.c (.move rfl) (J.c (.move rfl) ?_))); refine J.c (.move rfl) (J.c (.add rfl rfl (by omega)) ?_); refine J.r (.aa5 (by kernel_rfl) rfl rfl (by omega)) ?_; rw [he1]; refine J.c (.U2 (j := i) rfl rfl m0 rW (by omega)) ?_; refine J.KV i rfl rfl BG (by omega) ?_; refine J.go (U.seq (U.text ?_)); refine J.c (.move rfl) (J.c (.move rfl) (J.c (.move rfl) ?_)); refine J.r (.rJ) ?_; refine J.c (.add rfl rfl (by omega)) ?_; refine J.r (.ahE (by kernel_rfl) rfl rfl (by omega)) ?_; rw [he2]; refine J.c (.assign rfl) ?_; refine J.go (U.text ?_); refine J.c (.move rfl) (J.c (.add rfl rfl (by omega)) (J.c (.assign rfl) ?_)); refine J.nil ?_; refine ⟨_, [(0, St (S.extract (m + 1) S.size)), (1, St p), (2, I sv), (3, I ((((aY s).count (cS p) + 1 : Nat) : Int) - (1 : Int))), (9, .raw eT), (10, I (((i + 1) : Nat) : Int))], ?_, ⟨xA rfl (by first | rfl | simp | omega), rfl, rfl, rfl, rfl, rfl, trivial⟩, (i + 1), (S.extract (m + 1) S.size), rfl, rfl, (by rw [C8]), (by omega), (by exact fH), (by rw [vZ]; omega), (by exact Nat.le_trans hzl hz)⟩; omega
    have hic : i = (aY s).count (cS p) := by omega
    have hS4 := hS; rw [adU (s := S) (by omega)] at hS4; obtain ⟨NR, YL⟩ := S6 (i := i) hS4 (by rw [List.length_take]; omega); have C8 := ahK (d := ByteArray.empty) hwl NR YL
    have iX : ((bY (cS p) s).take i ++ List.replicate ((aY s).count (cS p) + 1 - i) ByteArray.empty).set i S = bY (cS p) s := by
      rw [C8, List.take_of_length_le (by omega), show (aY s).count (cS p) + 1 - (i + 1) = 0 by omega]; simp
    refine U.exit (U.seq (U.text ?_)); refine J.c (.move rfl) (J.c (.move rfl) (J.c (.move rfl) (J.c (.U2 (j := i) rfl rfl m0 rW (by omega)) ?_))); refine J.KV i rfl rfl BG (by omega) ?_; refine J.go (U.seq (U.text ?_)); refine J.c (.move rfl) (J.c (.move rfl) (J.c (.add rfl rfl (by omega)) ?_)); refine J.shut [(9, .v (.sl .str) (((bY (cS p) s).take i ++ List.replicate ((aY s).count (cS p) + 1 - i) ByteArray.empty).set i S)), (58, .v (.sl .str) (((bY (cS p) s).take i ++ List.replicate ((aY s).count (cS p) + 1 - i) ByteArray.empty).set i S)), (62, .v (.sl .str) (((bY (cS p) s).take i ++ List.replicate ((aY s).count (cS p) + 1 - i) ByteArray.empty).set i S))] (.cons rfl (.row m0) (.cons rfl (.row m0) (.cons rfl (.row m0) .nil))) ?_; refine J.r (.GH rfl rfl rW (by rw [List.length_set]; omega)) ?_; refine J.c (.assign rfl) (J.go ?_); refine U.ret ?_; exact aW.one rfl b6 (eS (by rw [iX, List.take_of_length_le (by omega)]))
  omega
theorem aa6 {s : ByteArray} {p : ByteArray} (hp : p.size = 1) (hs : s.size < 100000) : VF Tryz.prog OA 99 [St s, St p] (.v (.sl .str) (bY (cS p) s)) := by
  refine VF.enter Tryz.func99 rfl (fun _ _ => rfl) rfl ?_; show U _ _ _ _ _ [(0, St s), (1, St p)] [] _; refine U.seq (U.text ?_); refine J.c (.assign rfl) ?_; refine J.go (U.seq (U.text ?_)); refine J.c (.move rfl) (J.c (.move rfl) ?_); refine J.call rfl rfl (VF.call (ahL hp hs rfl rfl)) ?_; refine J.c (.assign rfl) (J.go ?_); refine U.ret ?_; exact aW.one rfl b6 (eS (by rfl))
end Go.Proofs
namespace Go.Proofs
open Go.Fs
set_option maxHeartbeats 1000000
abbrev W7 : Ty := (.sl (.int .u8))
theorem abK : gQ Tryz.prog 26 W7 := iY (by kernel_rfl)
theorem rN : fW Tryz.prog 26 5 (.int .u8) := u7 (by kernel_rfl)
theorem BK {b : Nat} {a u : Value} {acc s : ByteArray} (cY : acc.size + s.size <= 1000000) (ha : a = .pointer none \/ a = bP b) (hn : acc.size = 0 -> u = .slice none 0 0) :
    gZ Tryz.prog OA 54 [.raw (bP b), St s] [(bW b, .fS 99 0 [.raw a, .raw u]), (u, .row 5 (.int .u8) (aP acc))] (fun r nE => ∃ u', r = .nD [I ((s.size : Nat) : Int), .raw .nilIface] /\ nE = [(bW b, .fS 99 0 [.raw (bP b), .raw u']), (u', .row 5 (.int .u8) (aP (acc ++ s)))] /\ ((acc ++ s).size = 0 -> u' = .slice none 0 0)) := by
  refine gZ.S3 Tryz.func54 rfl (fun _ _ => rfl) rfl ?_; show U _ _ _ _ _ [(0, .raw (bP b)), (1, St s)] [(bW b, .fS 99 0 [.raw a, .raw u]), (u, .row 5 (.int .u8) (aP acc))] _; refine U.seq (U.text ?_); refine J.c (.assign rfl) (J.c (.assign rfl) ?_); refine J.go (U.seq (U.text ?_)); refine J.c (.move rfl) ?_; refine J.qT [(bW b, .fS 99 0 [.raw a, .raw u])] rfl rfl rfl (gZ.call (gZ.cop (O := abA 61 (ab5 96 96 6)) (tb := 99) (fun _ _ => rfl) ha)) ?_; rintro _ _ ⟨rfl, rfl⟩; show J _ _ _ _ _ _ [(bW b, .fS 99 0 [.raw (bP b), .raw u]), (u, .row 5 (.int .u8) (aP acc))] _; refine J.go (U.seq (U.text ?_)); refine J.c (.move rfl) (J.c (.move rfl) (J.c (.abI) (J.c (.faB (k := 1) m0) ?_))); refine J.r (.ldB m0 abK) ?_; refine J.c (.move rfl) ?_; refine J.perm jT ?_; refine J.mk (bO.arZ rN (by kernel_rfl) rfl rfl cY hn) ?_; rintro _ _ ⟨u', ⟨rfl, rfl⟩, sK⟩; refine J.c (.abI) (J.c (.faB (k := 1) m1) ?_); refine J.perm jT ?_; refine J.one m1 fun ho => ?_; refine J.AH (bO.stB abK rfl rfl ho) ?_; rintro _ _ ⟨rfl, rfl⟩; refine J.go (U.seq (U.text ?_)); refine J.c (.move rfl) ?_; refine J.r (.rJ) ?_; refine J.c (.assign rfl) (J.c (.assign rfl) (J.go ?_)); refine U.ret ?_; exact ⟨rfl, [I ((s.size : Nat) : Int), .raw .nilIface], .cons b6 (.cons b6 .nil), ⟨u', rfl, rfl, sK⟩, adN⟩
theorem ahM {b : Nat} {a u : Value} {acc : ByteArray} (cY : acc.size <= 1000000) (hn : acc.size = 0 -> u = .slice none 0 0) :
    gZ Tryz.prog OA 58 [.raw (bP b)] [(bW b, .fS 99 0 [.raw a, .raw u]), (u, .row 5 (.int .u8) (aP acc))] (fun r nE => r = St acc /\ nE = [(bW b, .fS 99 0 [.raw a, .raw u])]) := by
  refine gZ.S3 Tryz.func58 rfl (fun _ _ => rfl) rfl ?_; show U _ _ _ _ _ [(0, .raw (bP b))] [(bW b, .fS 99 0 [.raw a, .raw u]), (u, .row 5 (.int .u8) (aP acc))] _; refine U.seq (U.text ?_); refine J.c (.assign rfl) ?_; refine J.go (U.seq (U.drawn ?_)); refine VD.c (.move rfl) (VD.c (.abI) ?_); refine VD.co (.faB (k := 1) m0) ?_; refine VD.r [(bW b, .fS 99 0 [.raw a, .raw u]), (u, .row 5 (.int .u8) (aP acc))] (.ldB m0 abK) (.inr ⟨rfl, rfl⟩) ?_; refine VD.r [(bW b, .fS 99 0 [.raw a, .raw u]), (u, .row 5 (.int .u8) (aP acc))] (.sd rfl m1 hn) (.inr ⟨rfl, rfl⟩) ?_; refine VD.c (.move rfl) (VD.c (.abI) ?_); refine VD.co (.faB (k := 1) m0) ?_; refine VD.r [(bW b, .fS 99 0 [.raw a, .raw u]), (u, .row 5 (.int .u8) (aP acc))] (.ldB m0 abK) (.inr ⟨rfl, rfl⟩) ?_; refine VD.r [(bW b, .fS 99 0 [.raw a, .raw u]), (u, .row 5 (.int .u8) (aP acc))] (.U3 m1 rN) (.inr ⟨rfl, rfl⟩) ?_; refine VD.perm jT ?_; refine VD.mk (bO.as1 (by kernel_rfl) (by kernel_rfl) rfl (by rw [<- eI]; rfl) cY hn) ?_; rintro _ _ tl ⟨rfl, rfl⟩; refine VD.c (.assign rfl) (VD.go ?_); refine U.ret ?_; exact ⟨rfl, [St acc], .cons b6 .nil, ⟨rfl, rfl⟩, aa4⟩
end Go.Proofs
namespace Go.Proofs
open Go.Fs
set_option maxHeartbeats 1000000
theorem adV {s : ByteArray} {i : Nat} (h : i < (aY s).length) : fB s ((i : Nat) : Int) = ((((aY s)[i]).toNat : Nat) : Int) := by
  rw [LL]
  have h2 : i < s.data.size := by rw [fE] at h; exact h
  show (((s.data[i]!).toNat : Nat) : Int) = _; rw [getElem!_pos s.data i h2]; simp [aY]
def c8 (c : Int) : UInt8 := c.toNat.toUInt8
structure SpS (s : ByteArray) (c : UInt8) (i f : Nat) (O : List ByteArray) : Prop where
  in_ : i <= (aY s).length -> j4 c (aY s) = O.map aY ++ j4 c ((aY s).drop f) /\ f <= i /\ ∀ x ∈ ((aY s).drop f).take (i - f), x ≠ c
  out : (aY s).length < i -> j4 c (aY s) = O.map aY
end Go.Proofs
namespace Go.Fs
variable {P : Program} {orc : FuncId -> List Value -> Heap -> Option (Value × Heap)} {h : Heap} {S : List Nat}
theorem PI : ∀ (f n : Nat), n < 10 ^ (f + 1) -> xM (f + 1) n = dF n
  | f, n, h => by
    unfold xM
    cases hb : Nat.blt n 10 with
    | true => rw [lM (iH hb)]; rfl
    | false =>
      have h1 : 10 <= n := by have := gI hb; omega
      rw [o7 h1]; simp only [cond_false]
      cases f with
      | zero => simp at h; omega
      | succ f => rw [PI f (n / 10) (by rw [Nat.pow_succ] at h; omega)]; rfl
theorem aa7 {k : Nat} (h : k < 1000000000000000000) : yO ((k : Nat) : Int) = dF k := by
  show xM 20 k = _; refine PI 19 k ?_
  have : (10 : Nat) ^ (19 + 1) = 100000000000000000000 := by decide
  omega
theorem VF.itoa {f : FuncId} {n : Int} (hO : ∀ us h, orc f us h = (match us with | [.int .i64 n] => bif decide (-1000000000000000000 < n) && decide (n < 1000000000000000000) then some (.string ⟨(yO n).toArray⟩, h) else none | _ => none)) (h0 : -1000000000000000000 < n) (h1 : n < 1000000000000000000) :
    VF P orc f [.v (.int .i64) n] (.v .str (O3 (yO n))) := fun h S us aZ hS hr => by
  obtain ⟨u, r, rfl, h2, h3⟩ := hr; obtain rfl : r = [] := h3; obtain rfl := aE.int h2
  have ho : orc f [.int .i64 n] h = some (.string ⟨(yO n).toArray⟩, h) := by
    rw [hO]; simp only [decide_eq_true h0, decide_eq_true h1, Bool.and_self, cond_true]
  exact nP.wJ ho ⟨cK.refl _ _, aE.ofStr _, fun _ => rfl⟩
end Go.Fs
namespace Go.Fs
variable {P : Program} {σ : aM} {fl : VL} {x y : Operand} {T T' : TypeId} {k : IntKind} {p q : Int}
end Go.Fs
namespace Go.Proofs
open Go.Fs
set_option maxHeartbeats 1000000
def eK (n : Int) : ByteArray := O3 (yO n)
theorem aa8 {n : Int} (h : -1000000000000000000 < n /\ n < 1000000000000000000) : VF Tryz.prog OA 96 [I n] (St (eK n)) := VF.itoa (fun us h => rfl) h.1 h.2
theorem PJ {n : Int} (h : -1000000000000000000 < n /\ n < 1000000000000000000) : VF Tryz.prog OA 55 [I n] (St (eK n)) := by
  refine VF.enter Tryz.func55 rfl (fun _ _ => rfl) rfl ?_; show U _ _ _ _ _ [(0, I n)] [] _; refine U.seq (U.text ?_); refine J.c (.assign rfl) ?_; refine J.go (U.seq (U.text ?_)); refine J.c (.move rfl) ?_; refine J.call rfl rfl (VF.call (aa8 h)) ?_; refine J.c (.assign rfl) (J.go ?_); refine U.ret ?_; exact aW.one rfl b6 (eS (by rfl))
def mZ (c : UInt8) (ss : List ByteArray) : ByteArray := O3 (DN c (ss.map aY))
def pW (s : ByteArray) : Int := (((z7 (aY s)).getD 0 : Nat) : Int)
def o9 (s : ByteArray) : Bool := (z7 (aY s)).isSome
theorem alC {s : ByteArray} (h : (aY s = [] \/ 9 < (aY s).length) \/ (1 < (aY s).length /\ ((aY s).headD 0).toNat = 48) \/ (aY s).all uG = false) : pW s = 0 /\ o9 s = false := by
  have e : z7 (aY s) = none := if_pos h; unfold pW o9; rw [e]; exact ⟨rfl, rfl⟩
theorem S7 : ∀ (k : Nat) (w : List UInt8), w.length = k -> (∀ c ∈ w, uG c = true) -> vV w 0 < 10 ^ k
  | 0, w, hk, _ => by
    obtain rfl := List.eq_nil_of_length_eq_zero hk
    decide
  | k + 1, w, hk, hd => by
    obtain ⟨r, c, rfl⟩ := VW (w := w) (fun e => by rw [e] at hk; simp at hk); have h1 := S7 k r (by simpa using hk) fun c hc => hd c (List.mem_append_left _ hc); have h2 := of_decide_eq_true (hd c (List.mem_append_right _ (List.mem_singleton.2 rfl))); rw [BJ, Nat.pow_succ]; omega
end Go.Proofs
namespace Go.Fs
variable {P : Program} {σ : aM} {fl : VL} {x : Operand} {w : Value} {T : TypeId} {h h2 : Heap} {S S' : List Nat} {τ τ' : Ty}
theorem aF.s7 {cs : List PV} (hm : (w, Cell.var cs) ∈ σ) (hx : aQ fl x = some (.raw w) := by rfl) : aF P fl σ (.nilCheck x) (.raw w) :=
  ⟨rfl, fun h S t hs hc => by
    have h1 : aA t x = w := hs x (by simp [Op.operands]) _ hx; obtain ⟨b, e, vs, h3, _⟩ := hc _ hm; have h3 : w = .pointer (some ⟨b, 0, none⟩) := h3; refine ⟨_, rfl, fun _ _ _ _ _ H => ?_⟩; show (match aA t x with | .pointer (some a) => some (Value.pointer (some a), H) | .func (.func f) a b => some (.func (.func f) a b, H) | _ => none) = _
    rw [h1, h3]⟩
theorem FF {a a' : τ.den} {c c' : τ'.den} (h h2 : Heap) (S : List Nat) (hg : ∀ z ∈ [(w, Cell.var [.v τ a, .v τ' c])], bL h (own [(w, Cell.var [.v τ a, .v τ' c])] ++ S) z.1 z.2)
    (hs : ∀ z ∈ [(w, Cell.var [.v τ a', .v τ' c'])], bL h2 (own [(w, Cell.var [.v τ a', .v τ' c'])] ++ S) z.1 z.2)
    (hk : ∀ b' ∈ own [(w, Cell.var [.v τ a, .v τ' c])], h2.get b' = h.get b') (hx : ∀ b o, h.get b = some o -> h2.get b = some o) :
    (∀ b' ∈ own [(w, Cell.var [.v τ a', .v τ' c'])], b' ∈ own [(w, Cell.var [.v τ a, .v τ' c])]) /\ ∀ z ∈ [(w, Cell.var [.v τ a', .v τ' c'])], bL h (own [(w, Cell.var [.v τ a', .v τ' c'])] ++ S) z.1 z.2 := by
  obtain ⟨b, e, vs, g1, g2, g3, g4, g5⟩ := hg _ List.mem_cons_self; obtain ⟨b2, e2, vs2, s1, s2, s3, s4, s5⟩ := hs _ List.mem_cons_self; have g1 : w = .pointer (some ⟨b, 0, none⟩) := g1; have s1 : w = .pointer (some ⟨b2, 0, none⟩) := s1
  have hb : b2 = b := by
    rw [g1] at s1; injection s1 with s1; injection s1 with s1; injection s1 with s1; exact s1.symm
  subst hb; have h7 := hk b2 (by rw [b7]; exact List.mem_append_left _ (by rw [g1]; simp [cD])); rw [s3, g3] at h7; injection h7 with h7; injection h7 with _ h8; subst h8; obtain ⟨u1, r1, rfl, p1, u2, r2, rfl, p2, p3⟩ := g4; obtain ⟨v1, q1, e1, k1, v2, q2, e3, k2, k3⟩ := s4; injection e1 with e1 e4; subst e1 e4; injection e3 with e5 e6; subst e5 e6; obtain rfl : a = a' := cG.same hx p1.2 k1.2; obtain rfl : c = c' := cG.same hx p2.2 k2.2; exact ⟨fun _ hb => hb, hg⟩
end Go.Fs
namespace Go.Fs
variable {P : Program} {orc : FuncId -> List Value -> Heap -> Option (Value × Heap)} {τ : Ty}
end Go.Fs
namespace Go.Fs
variable {P : Program} {fl : VL} {σ γ : aM} {Q : PV -> aM -> Prop} {fn : Func} {τ : Ty}
end Go.Fs
namespace Go.Fs
variable {P : Program} {orc : FuncId -> List Value -> Heap -> Option (Value × Heap)} {aR : Option Nat} {h h' h0 h1 h2 : Heap} {S S' S0 B G : List Nat} {σ σ' : aM} {t t' : Tr} {ms : List Nat} {fl : VL} {ops : Array Oper} {n : Nat} {l : List Oper} {K : VL -> aM -> Prop} {Q : Ex -> VL -> aM -> Prop}
  {d : Tmp} {ty : TypeId} {pos : String} {after : Array Edge} {op : Op} {v : PV} {g : Option (Nat × Bool)}
end Go.Fs
namespace Go.Fs
variable {P : Program} {orc : FuncId -> List Value -> Heap -> Option (Value × Heap)} {aR : Option Nat} {h h' h0 h1 h2 : Heap} {S S' S0 B G : List Nat} {σ σ' : aM} {t t' : Tr} {ms : List Nat} {fl : VL} {ops : Array Oper} {n : Nat} {l : List Oper} {K : VL -> aM -> Prop} {Q : Ex -> VL -> aM -> Prop}
  {d : Tmp} {ty : TypeId} {pos : String} {after : Array Edge} {op : Op} {v : PV} {g : Option (Nat × Bool)} {w : Value} {x : Operand}
theorem adW {m : Nat} {s1 d1 : TypeId} {u r : Value} (hu : aA t x = u) (lV : af u = false) (hs : gG P s1 d1 u h = some r) : qF P orc m ⟨some d, .convert s1 d1 x, ty, pos, after, g⟩ (aA t) h = some (r, h) := by
  unfold qF pF
  have e1 : bQ P (dL P orc (cX P orc m)) (eG (cX P orc m)) ⟨some d, .convert s1 d1 x, ty, pos, after, g⟩ (aA t) h = some (r, h) := by
    show (if af (aA t x) = true then _ else (gG P s1 d1 (aA t x) h).map fun v => (v, h)) = _; rw [hu, lV, hs]; rfl
  rw [e1]
theorem abL (a : Addr) (n k : Nat) : af (Value.slice (some a) n k) = false := by cases n <;> cases k <;> rfl
theorem W8 {s1 d1 e1 : TypeId} {a : Addr} {n' mk : Nat} {acc : ByteArray} {cs : List Value} (hs : P.underlying s1 = some (.slice e1)) (he : P.underlying e1 = some (.int .u8)) (hd : P.underlying d1 = some .string) (hc : cellsOf 1 n' (.slice (some a) n' mk) h = some cs) (hb : cs = jQ acc) :
    gG P s1 d1 (.slice (some a) n' mk) h = some (.string acc) := by
  unfold gG; simp only [hs, he, hd, hc, hb, PC, Option.map_some]
theorem DO {s1 d1 e1 : TypeId} {acc : ByteArray} {S : List Nat} {u : Value} (hs : P.underlying s1 = some (.slice e1)) (he : P.underlying e1 = some (.int .u8)) (hd : P.underlying d1 = some .string) (hu : aI h S (.v (.sl (.int .u8)) (aP acc)) u) :
    (u = .slice none 0 0 /\ acc = ByteArray.empty) \/ (∃ b o n' mk, u = .slice (some ⟨b, o, none⟩) n' mk /\ (∀ H : Heap, (∀ ob, h.get b = some ob -> H.get b = some ob) -> gG P s1 d1 u H = some (.string acc)) /\ (n' = 0 \/ ∃ ob, h.get b = some ob /\ b ∉ S)) := by
  have hv : kE h S (.int .u8) u (aP acc) := aE.sl hu; obtain ⟨c1, vs, c2, c3⟩ := hv.cellsOf (by decide); have hrs : vs = jQ acc := A0 c3; rcases hv with ⟨h1, h2⟩ | ⟨b, o, mk, h1, h2⟩
  . refine .inl ⟨h1, ?_⟩; have h2 : aP acc = [] := h2; have := eI acc; rw [h2] at this; exact ByteArray.ext (Array.eq_empty_of_size_eq_zero this.symm)
  refine .inr ⟨b, o, _, mk, h1, fun H hH => ?_, ?_⟩
  . rw [h1]; refine W8 hs he hd (cs := vs) ?_ hrs; rw [h1] at c2; have c2 : cellsOf 1 (aP acc).length (.slice (some ⟨b, o, none⟩) (aP acc).length mk) h = some vs := c2
    revert c2
    unfold cellsOf; simp only [oK, cond_true]
    cases hz : Nat.beq ((aP acc).length * 1) 0 with
    | true => exact fun e => e
    | false =>
      simp only [cond_false]; intro e
      cases hg : h.get b with
      | none => rw [hg] at e; cases e
      | some ob => rw [hg] at e; rw [hH ob hg]; exact e
  rcases h2 with h2 | ⟨h3, e', rs, arB, more, h4, h5⟩
  . left; have h2 : aP acc = [] := h2; rw [h2]; rfl
  exact .inr ⟨_, h4, h3⟩
theorem J.bts {s1 d1 e1 : TypeId} {acc : ByteArray} (hx : aQ fl x = some (.v (.sl (.int .u8)) (aP acc))) (hs : P.underlying s1 = some (.slice e1)) (he : P.underlying e1 = some (.int .u8)) (hd : P.underlying d1 = some .string)
    (hk : J P orc ops n l ((d, .v .str acc) :: fl) σ K) (hw : cV ops fl g = some true := by rfl) (hn : (Nat.blt d n && Nat.ble n 4000) = true := by rfl) :
    J P orc ops n (⟨some d, .convert s1 d1 x, ty, pos, after, g⟩ :: l) fl σ K := fun h0 G S0 t h ms I => by
  obtain ⟨n1, n2⟩ := fits hn; have hu := cR I.aH hx; obtain ⟨m, t2, h2, hr, hq⟩ := hk h0 G S0 _ h ms (I.set (show aI h _ (.v .str acc) (.string acc) from aE.ofStr _) n2); refine ⟨m, t2, h2, ?_, hq⟩
  have FG : qF P orc m ⟨some d, .convert s1 d1 x, ty, pos, after, g⟩ (aA t) h = some (.string acc, h) := by
    rcases DO hs he hd hu with ⟨h1, h2⟩ | ⟨b, o, n', mk, h1, h2, _⟩
    . unfold qF pF
      have e1 : bQ P (dL P orc (cX P orc m)) (eG (cX P orc m)) ⟨some d, .convert s1 d1 x, ty, pos, after, g⟩ (aA t) h = some (.string acc, h) := by
        show (if af (aA t x) = true then ((bU P (convert s1 d1 (aA t x))).or (tT P s1 d1 (aA t x))).map (fun v => (v, h)) else _) = _; rw [h1, h2, if_pos (show af (Value.slice none 0 0) = true from rfl)]
        have e2 : bU P (convert s1 d1 (.slice none 0 0)) = some (.string ByteArray.empty) := by
          unfold bU convert; simp only [aD, aG hs, aG hd, Option.bind_some, aG he]; rfl
        rw [e2]; rfl
      rw [e1]
    exact adW rfl (by rw [h1]; exact abL _ _ _) (h2 h fun _ e => e)
  simp only [oG, cE (o := ⟨some d, .convert s1 d1 x, ty, pos, after, g⟩) I.aH hw, FG, bN n1 t]; exact hr
end Go.Fs
namespace Go.Proofs
open Go.Fs
set_option maxHeartbeats 1000000
theorem jG {k : Nat} (h : k < 1000000000000000000) : eK ((k : Nat) : Int) = O3 (dF k) := by
  unfold eK; rw [aa7 h]
theorem xE {n : Int} (h : 0 <= n /\ n < 1000000000000000000) : (eK n).size <= 19 := by
  obtain ⟨k, rfl⟩ := Int.eq_ofNat_of_zero_le h.1; rw [jG (by omega), <- fE, gM]; refine LZ 18 k ?_
  have : (10 : Nat) ^ (18 + 1) = 10000000000000000000 := by decide
  omega
end Go.Proofs
namespace Go.Proofs
open Go.Fs
set_option maxHeartbeats 1000000
def spS : ByteArray := ⟨#[32]⟩
def xR : ByteArray := ⟨#[10]⟩
def W9 (w : List ByteArray) (k : Nat) : ByteArray := w.getD k ByteArray.empty
theorem PK {s : ByteArray} {c : UInt8} (h : 0 <= Go.Lib.indexByte (aY s) c) : bY c s = eX c s :: bY c (o8 c s) := by
  obtain ⟨k, hk⟩ := Int.eq_ofNat_of_zero_le h; unfold eX o8; rw [if_neg (by omega), if_neg (by omega), hk, Int.toNat_natCast]; exact PH hk
theorem WA {s : ByteArray} {c : UInt8} (h : ¬ 0 <= Go.Lib.indexByte (aY s) c) : bY c s = [s] := W4 (by omega)
theorem A2 {c : UInt8} : bY c ByteArray.empty = [ByteArray.empty] := rfl
theorem M3 {c : UInt8} {s : ByteArray} : bY c s ≠ [] := by
  unfold bY; intro h; exact DK (s := c) (aY s) (List.map_eq_nil_iff.1 h)
theorem BL {s : ByteArray} {c : UInt8} (h : 0 <= Go.Lib.indexByte (aY s) c) : (o8 c s).size < s.size := by
  have bX := S5 (s := s) (c := c); unfold o8; rw [if_neg (by omega)]; have h7 := congrArg List.length (vZ s ((Go.Lib.indexByte (aY s) c).toNat + 1)); rw [fE, List.length_drop, fE] at h7; omega
theorem aa9 {s : ByteArray} {c : UInt8} : (eX c s).size <= s.size := by
  unfold eX; split
  . exact Nat.le_refl _
  rw [<- fE, FE, List.length_take, fE]; exact Nat.min_le_right _ _
theorem WB : o9 ByteArray.empty = false := (alC (.inl (.inl rfl))).2
theorem DP {c : UInt8} : ∀ (l : List UInt8), ∀ w ∈ j4 c l, w.length <= l.length
  | [], w, hw => by
    rw [show j4 c [] = [[]] from rfl, List.mem_singleton] at hw
    subst hw; exact Nat.le_refl _
  | x :: r, w, hw => by
    by_cases h : x = c
    . subst h; rw [DL] at hw; rcases List.mem_cons.1 hw with rfl | hw
      . exact Nat.zero_le _
      exact Nat.le_succ_of_le (DP r w hw)
    cases hr : j4 c r with
    | nil => exact absurd hr (DK r)
    | cons v l =>
      rw [vW h hr] at hw; have hv := DP r v (by rw [hr]; exact List.mem_cons_self); rcases List.mem_cons.1 hw with rfl | hw
      . simp only [List.length_cons]; omega
      exact Nat.le_succ_of_le (DP r w (by rw [hr]; exact List.mem_cons_of_mem _ hw))
theorem aaA {c : UInt8} {s : ByteArray} : ∀ w ∈ bY c s, w.size <= s.size := fun w hw => by
  obtain ⟨v, hv, rfl⟩ := List.mem_map.1 hw; have h1 := DP (aY s) v hv; rw [fE] at h1; rw [<- fE, gM]; exact h1
theorem adX {c : UInt8} {s : ByteArray} : (bY c s).length <= s.size + 1 := by
  rw [PG]; have := List.count_le_length (a := c) (l := aY s); rw [fE] at this; omega
def WC (w : ByteArray) : Prop := ∀ c ∈ aY w, c ≠ 32 /\ c ≠ 10
theorem PL {n : Int} (h : 0 <= n /\ n < 1000000000000000000) : WC (eK n) := by
  obtain ⟨k, rfl⟩ := Int.eq_ofNat_of_zero_le h.1; intro c hc; rw [jG (by omega), gM] at hc; have h1 := of_decide_eq_true (VV k c hc); constructor
  . rintro rfl; revert h1; decide
  rintro rfl; revert h1; decide
theorem aaB {c : UInt8} {ws : List ByteArray} (h0 : ws ≠ []) (h : ∀ w ∈ ws, ∀ x ∈ aY w, x ≠ c) : bY c (mZ c ws) = ws := by
  unfold bY mZ
  rw [gM, VY (by simpa using h0) (fun w hw => by
    obtain ⟨v, hv, rfl⟩ := List.mem_map.1 hw
    exact h v hv), List.map_map]
  exact List.map_id'' (fun x => rfl) ws
theorem FH {c : UInt8} {s : ByteArray} : mZ c (bY c s) = s := by
  unfold mZ bY; rw [List.map_map]; have : (j4 c (aY s)).map (aY ∘ O3) = (j4 c (aY s)).map id := List.map_congr_left fun w _ => rfl; rw [this, List.map_id, VX, kK]
theorem PM {c d : UInt8} (hcd : c ≠ d) : ∀ {l : List (List UInt8)}, (∀ w ∈ l, ∀ x ∈ w, x ≠ d) -> ∀ x ∈ DN c l, x ≠ d
  | [], _, x, hx => by cases hx
  | [w], h, x, hx => h w List.mem_cons_self x hx
  | w :: v :: l, h, x, hx => by
    rw [vX (by simp)] at hx; rcases List.mem_append.1 hx with hx | hx
    . exact h w List.mem_cons_self x hx
    rcases List.mem_cons.1 hx with rfl | hx
    . exact hcd
    exact PM hcd (fun u hu => h u (List.mem_cons_of_mem _ hu)) x hx
theorem WD {ws : List ByteArray} (h : ∀ w ∈ ws, WC w) : ∀ c ∈ aY (mZ 32 ws), c ≠ 10 := by
  unfold mZ; rw [gM]; refine PM (by decide) fun w hw => ?_; obtain ⟨v, hv, rfl⟩ := List.mem_map.1 hw; exact fun c hc => (h v hv c hc).2
theorem FI {n : Int} (h : 0 <= n /\ n < 1000000000) : o9 (eK n) = true /\ pW (eK n) = n := by
  obtain ⟨k, rfl⟩ := Int.eq_ofNat_of_zero_le h.1
  have e : (10 : Nat) ^ 9 = 1000000000 := by decide
  have h1 : z7 (aY (eK ((k : Nat) : Int))) = some k := by
    rw [jG (by omega), gM]; exact ahB (by omega)
  unfold o9 pW; rw [h1]; exact ⟨rfl, rfl⟩
theorem M4 {w : ByteArray} (h : o9 w = true) : eK (pW w) = w /\ 0 <= pW w /\ pW w < 1000000000 := by
  unfold o9 at h; obtain ⟨k, hk⟩ := Option.isSome_iff_exists.1 h; have h1 := ahD hk
  have bX : k < 1000000000 := by
    have h2 : z7 (aY w) = some k := hk; unfold z7 at h2; split at h2
    . cases h2
    rename_i hn; obtain rfl := Option.some.inj h2
    have hd : ∀ c ∈ aY w, uG c = true := by
      cases hc : (aY w).all uG with
      | true => exact List.all_eq_true.1 hc
      | false => exact absurd (.inr (.inr hc)) hn
    have h3 := S7 _ (aY w) rfl hd
    have h4 : (aY w).length <= 9 := by
      by_cases h9 : 9 < (aY w).length
      . exact absurd (.inl (.inr h9)) hn
      omega
    have h5 : 10 ^ (aY w).length <= 10 ^ 9 := Nat.pow_le_pow_right (by decide) h4
    have e : (10 : Nat) ^ 9 = 1000000000 := by decide
    omega
  unfold pW; rw [hk, Option.getD_some, jG (by omega), h1, kK]; exact ⟨rfl, by omega, by omega⟩
section
variable {β : Type}
def qB (f : β -> ByteArray -> Option β) : List ByteArray -> β -> Nat -> Option β × Nat
  | [], b, i => (some b, i)
  | [x], b, i => if x = ByteArray.empty then (some b, i) else (none, i)
  | x :: y :: r, b, i => match f b x with
    | some b' => qB f (y :: r) b' (i + 1)
    | none => (none, i)
def runT (f : β -> ByteArray -> Option β) : β -> List ByteArray -> Option β
  | b, [] => some b
  | b, x :: r => match f b x with
    | some b' => runT f b' r
    | none => none
variable {f : β -> ByteArray -> Option β} {b b' : β} {i j : Nat} {x y s : ByteArray} {r L ls : List ByteArray}
theorem BM (h : f b x = some b') : qB f (x :: y :: r) b i = qB f (y :: r) b' (i + 1) := by
  show (match f b x with | some b' => _ | none => _) = _; rw [h]
theorem HC (h : f b x = none) : qB f (x :: y :: r) b i = (none, i) := by
  show (match f b x with | some b' => _ | none => _) = _; rw [h]
theorem BN (h : x = ByteArray.empty) : qB f [x] b i = (some b, i) := if_pos h
theorem BO (h : x ≠ ByteArray.empty) : qB f [x] b i = (none, i) := if_neg h
theorem adY : qB f (bY 10 ByteArray.empty) b i = (some b, i) := by
  rw [A2]; exact BN rfl
theorem BP (hs : s ≠ ByteArray.empty) (h : ¬ 0 <= Go.Lib.indexByte (aY s) 10) : qB f (bY 10 s) b i = (none, i) := by
  rw [WA h]; exact BO hs
theorem BQ (h : 0 <= Go.Lib.indexByte (aY s) 10) (hb : f b (eX 10 s) = some b') : qB f (bY 10 s) b i = qB f (bY 10 (o8 10 s)) b' (i + 1) := by
  rw [PK h]
  cases hr : bY 10 (o8 10 s) with
  | nil => exact absurd hr M3
  | cons y r => exact BM hb
theorem FJ (h : 0 <= Go.Lib.indexByte (aY s) 10) (hb : f b (eX 10 s) = none) : qB f (bY 10 s) b i = (none, i) := by
  rw [PK h]
  cases hr : bY 10 (o8 10 s) with
  | nil => exact absurd hr M3
  | cons y r => exact HC hb
theorem FK : ∀ {ls : List ByteArray} {b b' : β} {i : Nat}, runT f b ls = some b' -> qB f (ls ++ [x]) b i = qB f [x] b' (i + ls.length)
  | [], b, b', i, h => by
    obtain rfl : b = b' := Option.some.inj h
    rfl
  | y :: r, b, b', i, h => by
    unfold runT at h
    cases hf : f b y with
    | none => rw [hf] at h; cases h
    | some b1 =>
      rw [hf] at h; have ih := FK (i := i + 1) h; rw [List.length_cons, show i + (r.length + 1) = i + 1 + r.length by omega, <- ih]
      cases hr : r ++ [x] with
      | nil => simp at hr
      | cons z q =>
        rw [List.cons_append, hr]; exact BM hf
theorem M5 : ∀ {L : List ByteArray} {b b' : β} {i j : Nat}, L ≠ [] -> qB f L b i = (some b', j) -> ∃ ls, L = ls ++ [ByteArray.empty] /\ runT f b ls = some b' /\ j = i + ls.length
  | [], _, _, _, _, h, _ => absurd rfl h
  | [x], b, b', i, j, _, h => by
    by_cases hx : x = ByteArray.empty
    . rw [BN hx] at h; injection h with h1 h2; subst hx h2; exact ⟨[], rfl, h1, rfl⟩
    rw [BO hx] at h; injection h with h1 h2
    cases h1
  | x :: y :: r, b, b', i, j, _, h => by
    cases hf : f b x with
    | none =>
      rw [HC hf] at h; injection h with h1 h2
      cases h1
    | some b1 =>
      rw [BM hf] at h; obtain ⟨ls, h1, h2, h3⟩ := M5 (by simp) h; refine ⟨x :: ls, by rw [h1]; rfl, ?_, by rw [List.length_cons]; omega⟩; unfold runT; rw [hf]; exact h2
theorem PN : ∀ {ls : List ByteArray} {b b' : β}, runT f b ls = some b' -> runT f b (ls ++ r) = runT f b' r
  | [], b, b', h => by
    obtain rfl : b = b' := Option.some.inj h
    rfl
  | y :: q, b, b', h => by
    unfold runT at h; show (match f b y with | some b1 => runT f b1 (q ++ r) | none => none) = runT f b' r
    cases hf : f b y with
    | none => rw [hf] at h; cases h
    | some b1 =>
      rw [hf] at h; exact PN h
end
def j5 : List ByteArray -> ByteArray
  | [] => ByteArray.empty
  | x :: r => (x ++ xR) ++ j5 r
theorem FM : ∀ {l r : List ByteArray}, j5 (l ++ r) = j5 l ++ j5 r
  | [], r => (ByteArray.empty_append).symm
  | x :: l, r => by
    show (x ++ xR) ++ j5 (l ++ r) = ((x ++ xR) ++ j5 l) ++ j5 r; rw [FM, ByteArray.append_assoc, ByteArray.append_assoc, ByteArray.append_assoc]
theorem PO {x : ByteArray} : j5 [x] = x ++ xR := ByteArray.append_empty
theorem PQ : ∀ {l : List ByteArray}, aY (j5 l) = l.flatMap fun w => aY w ++ [10]
  | [] => rfl
  | x :: l => by
    show aY ((x ++ xR) ++ j5 l) = _; rw [hJ, hJ, PQ, List.flatMap_cons] <;> rfl
theorem BR {w : ByteArray} (hw : ∀ c ∈ aY w, c ≠ 10) : ∀ {l : List ByteArray}, (∀ x ∈ l, ∀ c ∈ aY x, c ≠ 10) -> bY 10 (j5 l ++ w) = l ++ [w]
  | [], _ => by
    have e : aY (j5 [] ++ w) = aY w := by rw [hJ] <;> rfl
    unfold bY
    rw [e, A1 hw] <;> rfl
  | x :: r, h => by
    have hx := h x List.mem_cons_self; have ih := BR hw (l := r) fun y hy => h y (List.mem_cons_of_mem _ hy); unfold bY at ih ⊢
    have e : aY (j5 (x :: r) ++ w) = aY x ++ 10 :: aY (j5 r ++ w) := by
      show aY (((x ++ xR) ++ j5 r) ++ w) = _; rw [hJ, hJ, hJ, hJ, List.append_assoc, List.append_assoc]; rfl
    rw [e, DM hx, List.map_cons, ih]; rfl
theorem aaC {l : List ByteArray} (h : ∀ x ∈ l, ∀ c ∈ aY x, c ≠ 10) : bY 10 (j5 l) = l ++ [ByteArray.empty] := by
  have := BR (w := ByteArray.empty) (fun c hc => by cases hc) h
  rwa [ByteArray.append_empty] at this
theorem PR {c : UInt8} : ∀ {ls : List (List UInt8)}, DN c (ls ++ [[]]) = ls.flatMap fun w => w ++ [c]
  | [] => rfl
  | w :: ls => by
    rw [List.cons_append, vX (by simp), PR, List.flatMap_cons, List.append_assoc] <;> rfl
theorem adZ {s : ByteArray} {ls : List ByteArray} (h : bY 10 s = ls ++ [ByteArray.empty]) : j5 ls = s := by
  apply vY; have h1 := FH (c := 10) (s := s); rw [h] at h1; unfold mZ at h1; rw [List.map_append] at h1; have h2 := congrArg aY h1; rw [gM, show [ByteArray.empty].map aY = [[]] from rfl, PR] at h2; rw [PQ, <- h2, List.flatMap_map]
theorem ae0 {l : List ByteArray} {x : ByteArray} : (j5 (l ++ [x])).extract 0 ((j5 (l ++ [x])).size - 1) = j5 l ++ x := by
  have e : aY (j5 (l ++ [x])) = aY (j5 l ++ x) ++ [10] := by
    rw [FM, PO, hJ, hJ, hJ, List.append_assoc]; rfl
  apply vY; rw [FE, <- fE, e, List.length_append]; simp
theorem O4 {l : List ByteArray} {m : Nat} (h : ∀ x ∈ l, x.size <= m) : (j5 l).size <= (m + 1) * l.length := by
  induction l with
  | nil => simp [j5]
  | cons x r ih =>
    have h1 := h x List.mem_cons_self; have h2 := ih fun y hy => h y (List.mem_cons_of_mem _ hy); show ((x ++ xR) ++ j5 r).size <= _; rw [ByteArray.size_append, ByteArray.size_append, List.length_cons, Nat.mul_add, Nat.mul_one]; have : xR.size = 1 := rfl; omega
theorem FN {s : UInt8} : ∀ {r : List (List UInt8)} {w : List UInt8}, DN s (w :: r) = w ++ r.flatMap fun v => s :: v
  | [], w => by rw [List.flatMap_nil, List.append_nil] <;> rfl
  | v :: r, w => by
    rw [vX (by simp), FN (r := r), List.flatMap_cons] <;> rfl
theorem aaD {w : ByteArray} : mZ 32 [w] = w := by
  unfold mZ; rw [List.map_cons, List.map_nil]; exact kK w
theorem HD {ws : List ByteArray} {w : ByteArray} (h : ws ≠ []) : mZ 32 (ws ++ [w]) = (mZ 32 ws ++ spS) ++ w := by
  cases ws with
  | nil => exact absurd rfl h
  | cons a r =>
    apply vY; unfold mZ; rw [hJ, hJ, gM, gM, List.cons_append, List.map_cons, List.map_cons, FN, FN, List.map_append, List.flatMap_append, List.append_assoc, List.append_assoc]; simp [spS, aY]
end Go.Proofs
namespace Go.Proofs
open Go.Fs
set_option maxHeartbeats 1000000
theorem BS {s : ByteArray} (h : kI s = true) : WC s /\ s ≠ ByteArray.empty /\ s.size <= 24 := by
  obtain ⟨h1, h2, h3⟩ := of_decide_eq_true h; have hl := fE s; refine ⟨fun c hc => ?_, size_empty.2 h1, h2⟩; obtain ⟨i, hi, rfl⟩ := List.mem_iff_getElem.1 hc; have h4 := h3 i (by omega); rw [adV hi] at h4; unfold jU lL pU at h4; constructor
  . intro e; rw [e] at h4
    revert h4
    cases decide (i ≠ 0) <;> decide
  intro e; rw [e] at h4
  revert h4
  cases decide (i ≠ 0) <;> decide
end Go.Proofs
namespace Go.Proofs
open Ieee
def lZ (n : Int) : Nat := (single.div (single.write (.number (n < 0) n.natAbs 0)) 1098907648).getD 0
def amP (n : Int) : Bool := decide (fD (lZ n) = 0) && decide (qV (lZ n) = n) && (single.div (single.write (.number (n < 0) n.natAbs 0)) 1098907648).isSome
theorem ahN : (List.range 2049).all (fun k => amP ((k : Int) - 1024)) = true := by decide +kernel
theorem IF {n : Int} (h : -1024 <= n /\ n <= 1024) : fD (lZ n) = 0 /\ qV (lZ n) = n /\ single.div (single.write (.number (n < 0) n.natAbs 0)) 1098907648 = some (lZ n) := by
  have h1 := List.all_eq_true.1 ahN (n + 1024).toNat (List.mem_range.2 (by omega)); rw [show (((n + 1024).toNat : Nat) : Int) - 1024 = n by omega] at h1; unfold amP at h1; simp only [Bool.and_eq_true, decide_eq_true_eq] at h1; refine ⟨h1.1.1, h1.1.2, ?_⟩; obtain ⟨r, hr⟩ := Option.isSome_iff_exists.1 h1.2; rw [lZ, hr]; rfl
theorem aaE : lZ 0 = 0 := by decide +kernel
end Go.Proofs
namespace Go.Proofs
open Ieee
theorem M6 : single.signWeight = 2147483648 := by decide
theorem WE : single.binade = 8388608 := by decide
theorem HE : single.infRung = 2139095040 := by decide
theorem WG : single.leastPlace = -149 := by decide
theorem amQ : single.fractionBits = 23 := rfl
theorem WH {s : Bool} {e k : Nat} (he : e <= 200) (hk : 8388608 <= k /\ k < 16777216) : single.read (single.word s (e * 8388608 + k)) = .number s k ((e : Int) - 149) := by
  have hr : e * 8388608 + k < 2139095040 := by omega
  have hm : single.word s (e * 8388608 + k) % 2147483648 = e * 8388608 + k := by
    unfold Format.word; rw [M6]; cases s <;> simp <;> omega
  have hn : (single.word s (e * 8388608 + k) / 2147483648 % 2 == 1) = s := by
    unfold Format.word; rw [M6]; cases s
    . rw [if_neg (by decide), show (e * 8388608 + k) / 2147483648 = 0 by omega]; rfl
    rw [if_pos rfl, show (2147483648 + (e * 8388608 + k)) / 2147483648 = 1 by omega]; rfl
  unfold Format.read; simp only [M6, WE, HE, WG, hm, hn]; rw [if_neg (by omega), if_pos hr]
  have h1 : 8388608 + (e * 8388608 + k) % 8388608 = k := by omega
  have h2 : (e * 8388608 + k) / 8388608 - 1 = e := by omega
  rw [h1, h2]; congr 1
theorem aoN {s : Bool} {n : Nat} : Toward.even.cut s n 0 = n := by
  unfold Toward.cut; simp; exact ⟨by omega, fun h => by omega⟩
theorem alD {s : Bool} {n d : Nat} (hd : d <= n.log2) : n / 2 ^ d <= Toward.even.cut s n d /\ Toward.even.cut s n d <= n / 2 ^ d + 1 := by
  unfold Toward.cut
  have hm : min d (n.log2 + 2) = d := by omega
  simp only [hm, Nat.one_shiftLeft]; generalize (decide (2 ^ d < 2 * (n % 2 ^ d)) || 2 ^ d == 2 * (n % 2 ^ d) && n / 2 ^ d % 2 == 1) = b; cases b
  . exact ⟨Nat.le_refl _, Nat.le_succ _⟩
  exact ⟨Nat.le_succ _, Nat.le_refl _⟩
theorem alE {s : Bool} {n d : Nat} (hd : d <= (n * 2 ^ d).log2) : Toward.even.cut s (n * 2 ^ d) d = n := by
  unfold Toward.cut
  have hm : min d ((n * 2 ^ d).log2 + 2) = d := by omega
  have hp : 0 < 2 ^ d := Nat.two_pow_pos d; simp only [hm, Nat.one_shiftLeft]; rw [Nat.mul_mod_left, Nat.mul_div_cancel _ hp]
  have : (decide (2 ^ d < 2 * 0) || 2 ^ d == 2 * 0 && n % 2 == 1) = false := by
    have h1 : ¬ 2 ^ d < 2 * 0 := by omega
    have h2 : (2 ^ d == 2 * 0) = false := by simp
    rw [decide_eq_false h1, h2]; rfl
  rw [this]; rfl
theorem as2 {k : Nat} (hk : 8388608 <= k /\ k < 16777216) : k.log2 = 23 := (Nat.log2_eq_iff (by omega)).2 ⟨hk.1, hk.2⟩
theorem amR {k : Nat} (hk : 8388608 <= k /\ k < 16777216) : (8 * k).log2 = 26 := (Nat.log2_eq_iff (by omega)).2 ⟨by show 67108864 <= _; omega, by show _ < 134217728; omega⟩
theorem ae1 {s : Bool} {e k : Nat} (h1 : 4 <= e) (he : e <= 200) (hk : 8388608 <= k /\ k < 16777216) : single.div (single.word s (e * 8388608 + k)) 1098907648 = some (single.word s ((e - 4) * 8388608 + k)) := by
  have h16 : single.read 1098907648 = .number false 8388608 (-19) := by decide
  unfold Format.div; rw [WH he hk, h16]
  have hq : Datum.quotient (single.fractionBits + 2) (.number s k ((e : Int) - 149)) (.number false 8388608 (-19)) = some (.number s (8 * k) ((e : Int) - 156)) := by
    have hm : 23 + 2 + (8388608 : Nat).log2 - k.log2 = 25 := by rw [as2 hk]; decide
    show (if (8388608 : Nat) = 0 then (if k = 0 then none else some (Datum.infinity (s ^^ false))) else some (Datum.number (s ^^ false) (2 * ((k <<< (23 + 2 + (8388608 : Nat).log2 - k.log2)) / 8388608) + ((k <<< (23 + 2 + (8388608 : Nat).log2 - k.log2)) % 8388608 != 0).toNat) ((e : Int) - 149 - (-19) - ((23 + 2 + (8388608 : Nat).log2 - k.log2 : Nat) : Int) - 1))) = _; rw [if_neg (by decide), hm, Nat.shiftLeft_eq, show (2 : Nat) ^ 25 = 33554432 by decide, show k * 33554432 / 8388608 = 4 * k by omega, show k * 33554432 % 8388608 = 0 by omega, Bool.xor_false, show 2 * (4 * k) + ((0 : Nat) != 0).toNat = 8 * k by show 2 * (4 * k) + 0 = 8 * k; omega, show ((e : Int) - 149 - (-19) - ((25 : Nat) : Int) - 1) = (e : Int) - 156 by omega]
  rw [hq]; show some (single.nearest s (8 * k) ((e : Int) - 156)) = _; congr 1; unfold Format.nearest; rw [if_neg (by omega)]; simp only [amR hk, amQ, WG, WE, HE]
  have h5 : max ((e : Int) - 156 + ((26 : Nat) : Int) - ((23 : Nat) : Int)) (-149) = (e : Int) - 153 := by omega
  rw [h5]
  have h6 : ((e : Int) - 156 - ((e : Int) - 153)).toNat = 0 := by omega
  have h7 : ((e : Int) - 153 - ((e : Int) - 156)).toNat = 3 := by omega
  rw [h6, h7, Nat.shiftLeft_zero, show 8 * k = k * 2 ^ 3 by omega, alE (by rw [show k * 2 ^ 3 = 8 * k by omega, amR hk]; omega)]
  have h8 : ((e : Int) - 153 - -149).toNat = e - 4 := by omega
  rw [h8]; congr 1; omega
theorem WI {s : Bool} {e k : Nat} (he : e <= 200) (hk : 8388608 <= k /\ k < 16777216) : u32 (single.word s (e * 8388608 + k)) = some (sg s (k * 2 ^ e)) := by
  show single.cZ _ = _; unfold Format.cZ; rw [WH he hk]; simp only [WG]; rw [show ((e : Int) - 149 - -149).toNat = e by omega]
theorem alF {s : Bool} {m : Nat} (h0 : 1024 < m) (h1 : m < 1073741824) : ∃ e k, single.nearest s m 0 = single.word s (e * 8388608 + k) /\ 4 <= e /\ e <= 200 /\ (8388608 <= k /\ k < 16777216) /\ 2 ^ 159 < k * 2 ^ e := by
  have pK : 10 <= m.log2 := (Nat.le_log2 (by omega)).2 (by show 1024 <= m; omega); have qJ : m.log2 < 30 := (Nat.log2_lt (by omega)).2 (by show m < 1073741824; omega); have oZ : 2 ^ m.log2 <= m := Nat.log2_self_le (by omega); have EA : m < 2 ^ (m.log2 + 1) := Nat.lt_log2_self; unfold Format.nearest; rw [if_neg (by omega)]; simp only [amQ, WG, WE, HE]; generalize hL : m.log2 = L at *
  have aoO : max ((0 : Int) + ((L : Nat) : Int) - ((23 : Nat) : Int)) (-149) = (L : Int) - 23 := by omega
  rw [aoO]; by_cases hd : L <= 23
  . have a1 : ((0 : Int) - ((L : Int) - 23)).toNat = 23 - L := by omega
    have a2 : ((L : Int) - 23 - 0).toNat = 0 := by omega
    have a3 : ((L : Int) - 23 - -149).toNat = L + 126 := by omega
    rw [a1, a2, a3, aoN, Nat.shiftLeft_eq]
    have e1 : 2 ^ L * 2 ^ (23 - L) = 8388608 := by rw [<- Nat.pow_add, show L + (23 - L) = 23 by omega]
    have e2 : 2 ^ (L + 1) * 2 ^ (23 - L) = 16777216 := by rw [<- Nat.pow_add, show L + 1 + (23 - L) = 24 by omega]
    have hp : 0 < 2 ^ (23 - L) := Nat.two_pow_pos _; have b1 := Nat.mul_le_mul_right (2 ^ (23 - L)) oZ; have b2 := Nat.mul_lt_mul_of_pos_right EA hp; rw [e1] at b1; rw [e2] at b2
    have hv : m * 2 ^ (23 - L) * 2 ^ (L + 126) = m * 2 ^ 149 := by rw [Nat.mul_assoc, <- Nat.pow_add, show 23 - L + (L + 126) = 149 by omega]
    refine ⟨L + 126, m * 2 ^ (23 - L), ?_, by omega, by omega, ⟨b1, b2⟩, ?_⟩
    . have b3 : (L + 126) * 8388608 <= 149 * 8388608 := Nat.mul_le_mul_right _ (by omega); clear hv; rw [Nat.min_eq_left (Nat.le_trans (Nat.add_le_add b3 (Nat.le_of_lt b2)) (by decide))]
    rw [hv]; have := Nat.mul_lt_mul_of_pos_right h0 (Nat.two_pow_pos 149)
    have hc : (2 : Nat) ^ 159 = 1024 * 2 ^ 149 := by rw [show (1024 : Nat) = 2 ^ 10 by decide, <- Nat.pow_add]
    rw [hc]; exact this
  have a1 : ((0 : Int) - ((L : Int) - 23)).toNat = 0 := by omega
  have a2 : ((L : Int) - 23 - 0).toNat = L - 23 := by omega
  have a3 : ((L : Int) - 23 - -149).toNat = L + 126 := by omega
  rw [a1, a2, a3, Nat.shiftLeft_zero]; obtain ⟨c1, c2⟩ := alD (s := s) (n := m) (d := L - 23) (by omega); have hp : 0 < 2 ^ (L - 23) := Nat.two_pow_pos _
  have e1 : 8388608 * 2 ^ (L - 23) = 2 ^ L := by rw [show (8388608 : Nat) = 2 ^ 23 by decide, <- Nat.pow_add, show 23 + (L - 23) = L by omega]
  have e2 : 16777216 * 2 ^ (L - 23) = 2 ^ (L + 1) := by rw [show (16777216 : Nat) = 2 ^ 24 by decide, <- Nat.pow_add, show 24 + (L - 23) = L + 1 by omega]
  have b1 : 8388608 <= m / 2 ^ (L - 23) := (Nat.le_div_iff_mul_le hp).2 (by rw [e1]; exact oZ); have b2 : m / 2 ^ (L - 23) < 16777216 := (Nat.div_lt_iff_lt_mul hp).2 (by rw [e2]; exact EA); generalize Toward.even.cut s m (L - 23) = k at *
  have big : ∀ e k : Nat, 150 <= e -> 8388608 <= k -> 2 ^ 159 < k * 2 ^ e := fun e k he hk => by
    have := Nat.mul_le_mul hk (Nat.pow_le_pow_right (show 0 < 2 by decide) he); exact Nat.lt_of_lt_of_le (by decide) this
  by_cases hk : k < 16777216
  . refine ⟨L + 126, k, ?_, by omega, by omega, ⟨by omega, hk⟩, big _ _ (by omega) (by omega)⟩; congr 1; exact Nat.min_eq_left (by omega)
  refine ⟨L + 127, 8388608, ?_, by omega, by omega, ⟨by omega, by omega⟩, big _ _ (by omega) (by omega)⟩; congr 1; rw [Nat.min_eq_left (by omega)]; omega
theorem ahO {n : Int} (h0 : 1024 < n.natAbs) (h1 : n.natAbs < 1073741824) : fD (lZ n) = 3 /\ single.div (single.write (.number (n < 0) n.natAbs 0)) 1098907648 = some (lZ n) := by
  obtain ⟨e, k, hw, e1, e2, hk, hb⟩ := alF (s := decide (n < 0)) h0 h1; have hw : single.write (.number (n < 0) n.natAbs 0) = single.word (decide (n < 0)) (e * 8388608 + k) := hw; have hd := ae1 (s := decide (n < 0)) e1 e2 hk; rw [<- hw] at hd
  have hq : lZ n = single.word (decide (n < 0)) ((e - 4) * 8388608 + k) := by unfold lZ; rw [hd]; rfl
  refine ⟨?_, by rw [hd, hq]⟩; have hu := WI (s := decide (n < 0)) (e := e - 4) (by omega) hk; rw [<- hq] at hu; unfold fD; rw [hu]
  have hz : 2 ^ 155 < k * 2 ^ (e - 4) := by
    have : k * 2 ^ e = k * 2 ^ (e - 4) * 16 := by rw [Nat.mul_assoc, show (16 : Nat) = 2 ^ 4 by decide, <- Nat.pow_add, show e - 4 + 4 = e by omega]
    rw [this] at hb
    have : (2 : Nat) ^ 159 = 2 ^ 155 * 16 := by decide
    omega
  have as3 : (2 : Nat) ^ 155 = 45671926166590716193865151022383844364247891968 := by decide
  rw [as3] at hz; show (if _ then (0 : Int) else 3) = 3; rw [if_neg]; rintro ⟨⟨h2, h3⟩, _⟩; generalize k * 2 ^ (e - 4) = u at *; cases hs : decide (n < 0)
  . rw [hs] at h3; have h3 : ((u : Nat) : Int) <= 45671926166590716193865151022383844364247891968 := h3; omega
  rw [hs] at h2; have h2 : -45671926166590716193865151022383844364247891968 <= -((u : Nat) : Int) := h2; omega
end Go.Proofs
namespace Go.Fs
variable {P : Program} {h : Heap} {S : List Nat}
variable {fl : VL} {σ : aM} {x y : Operand} {T T' : TypeId} {τ : Ty}
end Go.Fs
namespace Go.Proofs
open Go.Fs Ieee
set_option maxHeartbeats 1000000
def WJ (s : ByteArray) : Bool := decide (1 < s.size) && decide (fB s 0 = 45)
def sgR (s : ByteArray) : ByteArray := s.extract 1 s.size
def M7 (s : ByteArray) : Bool := if WJ s = true then o9 (sgR s) && decide (0 < pW (sgR s)) else o9 s
def O5 (s : ByteArray) : Int := if WJ s = true then 0 - pW (sgR s) else pW s
theorem M8 {s : ByteArray} : 0 <= pW s /\ pW s < 1000000000 := by
  cases h : o9 s with
  | true => exact (M4 h).2
  | false =>
    unfold o9 at h; unfold pW
    cases hn : z7 (aY s) with
    | none => exact ⟨by decide, by decide⟩
    | some v => rw [hn] at h; cases h
theorem alG {s : ByteArray} : -1000000000 < O5 s /\ O5 s < 1000000000 := by
  have h1 := M8 (s := s); have h2 := M8 (s := sgR s); unfold O5; split <;> omega
theorem as4 {s : ByteArray} (h1 : 1 < s.size) (h2 : fB s 0 = 45) : WJ s = true := by
  unfold WJ; rw [decide_eq_true h1, decide_eq_true h2] <;> rfl
def lvO (n : Int) : Bool := decide (-1024 <= n /\ n <= 1024)
theorem alH {p q r : Nat} (h : single.div p q = some r) : LK .quo .f32 p q = some r := h
end Go.Proofs
namespace Go.Proofs
open Go.Fs
set_option maxHeartbeats 1000000
theorem A3 (n : Nat) : dF n = Lib.decDigits n := by
  induction n using Nat.strongRecOn with
  | _ n ih =>
    by_cases h : n < 10
    . rw [lM h, Lib.decDigits, dif_pos h] <;> rfl
    rw [o7 (by omega), Lib.decDigits, dif_neg h, ih (n / 10) (by omega)] <;> rfl
theorem DQ : ∀ {l : List UInt8} {acc : Nat}, (∀ c ∈ l, uG c = true) -> Lib.decFrom acc l = some (vV l acc)
  | [], acc, _ => rfl
  | c :: r, acc, h => by
    have hc : 48 <= c.toNat /\ c.toNat <= 57 := of_decide_eq_true (h c List.mem_cons_self); have hd : Lib.digitVal c = some (c.toNat - 48) := if_pos hc; show (match Lib.digitVal c with | some d => Lib.decFrom (acc * 10 + d) r | none => none) = _; rw [hd]; show Lib.decFrom (acc * 10 + (c.toNat - 48)) r = _; rw [DQ fun x hx => h x (List.mem_cons_of_mem _ hx), Nat.mul_comm]; rfl
theorem S8 (n : Nat) : ∀ c ∈ dF n, uG c = true := by
  induction n using Nat.strongRecOn with
  | _ n ih =>
    by_cases h : n < 10
    . rw [lM h]; intro c hc; rw [List.mem_singleton.1 hc]; refine decide_eq_true ?_; rw [qX h]; omega
    rw [o7 (by omega)]; intro c hc; rcases List.mem_append.1 hc with hc | hc
    . exact ih (n / 10) (by omega) c hc
    rw [List.mem_singleton.1 hc]; refine decide_eq_true ?_; rw [qX (by omega)]; omega
theorem zA (n : Nat) : dF n ≠ [] := by
  by_cases h : n < 10
  . rw [lM h]; simp
  rw [o7 (by omega)]; simp
theorem HF (n : Nat) : Lib.decNat (dF n) = some n := by
  unfold Lib.decNat
  have : (dF n).isEmpty = false := by
    cases h : dF n with
    | nil => exact absurd h (zA n)
    | cons a r => rfl
  rw [this]; show Lib.decFrom 0 (dF n) = _; rw [DQ (S8 n), LY]
theorem M9 {n m : Nat} (h : (dF n).length <= m) : n < 10 ^ m := by
  have h1 := S7 _ (dF n) rfl (S8 n); rw [LY] at h1; exact Nat.lt_of_lt_of_le h1 (Nat.pow_le_pow_right (by decide) h)
theorem sR {s : ByteArray} : o9 s = true ↔ ∃ n : Nat, n < 1000000000 /\ aY s = dF n := by
  constructor
  . intro h; obtain ⟨h1, h2, h3⟩ := M4 h; obtain ⟨k, hk⟩ := Int.eq_ofNat_of_zero_le h2; rw [hk] at h1 h3; refine ⟨k, by omega, ?_⟩; rw [<- h1, jG (by omega), gM]
  rintro ⟨n, hn, he⟩
  have : s = eK ((n : Nat) : Int) := by rw [jG (by omega), <- he, kK]
  rw [this]; exact (FI ⟨by omega, by omega⟩).1
theorem A4 {s : ByteArray} {n : Nat} (hn : n < 1000000000) (he : aY s = dF n) : pW s = ((n : Nat) : Int) := by
  have : s = eK ((n : Nat) : Int) := by rw [jG (by omega), <- he, kK]
  rw [this]; exact (FI ⟨by omega, by omega⟩).2
theorem IG {n : Nat} {b : UInt8} {r : List UInt8} (h : dF n = b :: r) : b ≠ 45 /\ b ≠ 43 := by
  have hd : 48 <= b.toNat /\ b.toNat <= 57 := of_decide_eq_true (S8 n b (by rw [h]; exact List.mem_cons_self)); refine ⟨fun e => ?_, fun e => ?_⟩ <;> (subst e; exact absurd hd (by decide))
theorem amS {n : Nat} (h : n < 1000000000) : (dF n).length <= 9 := by
  have e : (10 : Nat) ^ (8 + 1) = 1000000000 := by decide
  exact LZ 8 n (by omega)
theorem DR {s : ByteArray} {n : Nat} (hn : n < 1000000000) (he : aY s = dF n) : dY s = ((n : Nat) : Int) /\ fV s = true := by
  have h9 := amS hn
  have ha : Lib.atoiAll s.data.toList = .ok ((n : Nat) : Int) := by
    show Lib.atoiAll (aY s) = _; rw [he, Lib.atoiAll_short _ (by omega)]
    cases hl : dF n with
    | nil => exact absurd hl (zA n)
    | cons b r =>
      obtain ⟨h45, h43⟩ := IG hl; have hd := HF n; rw [hl] at hd; show Lib.NumEnd.ofOption (if b == 45 then _ else if b == 43 then _ else (Lib.decNat (b :: r)).map fun (m : Nat) => (m : Int)) = _; rw [if_neg (by simpa using h45), if_neg (by simpa using h43), hd]; rfl
  refine ⟨by unfold dY; rw [ha], ?_⟩; unfold fV; rw [ha]
  have hi : (⟨(Lib.itoa ((n : Nat) : Int)).toArray⟩ : ByteArray) = s := by
    rw [Lib.itoa_nonneg, <- A3, <- he]; exact kK s
  have hs : jN s.data.toList = dF n := by
    show jN (aY s) = _; rw [he]; unfold jN
    cases hl : dF n with
    | nil => exact absurd hl (zA n)
    | cons b r =>
      obtain ⟨h45, h43⟩ := IG hl; rw [if_neg (by simpa using h45)]
  show (decide ((jN s.data.toList).length <= 9) && decide _) = true; rw [hs, decide_eq_true h9, decide_eq_true hi] <;> rfl
theorem DS {s : ByteArray} {n : Nat} (h1 : 1 <= n) (hn : n < 1000000000) (he : aY s = 45 :: dF n) : dY s = -((n : Nat) : Int) /\ fV s = true := by
  have h9 := amS hn
  have ha : Lib.atoiAll s.data.toList = .ok (-((n : Nat) : Int)) := by
    show Lib.atoiAll (aY s) = _; rw [he, Lib.atoiAll_short _ (by simp; omega)]; show Lib.NumEnd.ofOption (if (45 : UInt8) == 45 then (Lib.decNat (dF n)).map fun (m : Nat) => -(m : Int) else if (45 : UInt8) == 43 then (Lib.decNat (dF n)).map fun (m : Nat) => (m : Int) else (Lib.decNat (45 :: dF n)).map fun (m : Nat) => (m : Int)) = _; rw [if_pos (by decide), HF]; rfl
  refine ⟨by unfold dY; rw [ha], ?_⟩; unfold fV; rw [ha]
  have hi : (⟨(Lib.itoa (-((n : Nat) : Int))).toArray⟩ : ByteArray) = s := by
    rw [Lib.itoa_neg n h1, <- A3, <- he]; exact kK s
  have hs : jN s.data.toList = dF n := by
    show jN (aY s) = _; rw [he]; exact if_pos rfl
  show (decide ((jN s.data.toList).length <= 9) && decide _) = true; rw [hs, decide_eq_true h9, decide_eq_true hi] <;> rfl
theorem MA {s : ByteArray} (h : fV s = true) : (∃ n : Nat, n < 1000000000 /\ aY s = dF n) \/ ∃ n : Nat, 1 <= n /\ n < 1000000000 /\ aY s = 45 :: dF n := by
  unfold fV at h; split at h
  . rename_i v hv; simp only [Bool.and_eq_true, decide_eq_true_eq] at h; obtain ⟨h9, hi⟩ := h
    have e10 : (10 : Nat) ^ 9 = 1000000000 := by decide
    by_cases hz : 0 <= v
    . obtain ⟨n, rfl⟩ := Int.eq_ofNat_of_zero_le hz
      have hl : aY s = dF n := by
        rw [<- hi, Lib.itoa_nonneg, <- A3] <;> rfl
      have hs : jN s.data.toList = dF n := by
        show jN (aY s) = _; rw [hl]; unfold jN
        cases hd : dF n with
        | nil => exact absurd hd (zA n)
        | cons b r =>
          obtain ⟨h45, h43⟩ := IG hd; rw [if_neg (by simpa using h45)]
      rw [hs] at h9; have := M9 h9; exact .inl ⟨n, by omega, hl⟩
    obtain ⟨n, hn⟩ := Int.eq_ofNat_of_zero_le (show 0 <= -v by omega)
    obtain rfl : v = -((n : Nat) : Int) := by omega
    have hl : aY s = 45 :: dF n := by
      rw [<- hi, Lib.itoa_neg n (by omega), <- A3] <;> rfl
    have hs : jN s.data.toList = dF n := by
      show jN (aY s) = _; rw [hl]; exact if_pos rfl
    rw [hs] at h9; have := M9 h9; exact .inr ⟨n, by omega, by omega, hl⟩
  cases h
end Go.Proofs
namespace Go.Proofs
open Go.Fs
set_option maxHeartbeats 1000000
theorem MB {s : ByteArray} {c : UInt8} {r : List UInt8} (h : aY s = c :: r) : fB s 0 = ((c.toNat : Nat) : Int) := by
  have : s = O3 (c :: r) := by rw [<- h, kK]
  subst this; rfl
theorem WK {s : ByteArray} : aY (sgR s) = (aY s).drop 1 := vZ s 1
theorem aoP {s : ByteArray} {l : List UInt8} (h : aY s = 45 :: l) (hl : l ≠ []) : WJ s = true := by
  have hz : 1 < s.size := by
    rw [<- fE, h, List.length_cons]; have := List.length_pos_iff.2 hl; omega
  exact as4 hz (by rw [MB h]; rfl)
theorem WL {s : ByteArray} (h : WJ s = true) : aY s = 45 :: aY (sgR s) := by
  unfold WJ at h; simp only [Bool.and_eq_true, decide_eq_true_eq] at h; rw [WK]
  cases hl : aY s with
  | nil =>
    have := h.1; rw [<- fE, hl] at this
    exact absurd this (by decide)
  | cons c r =>
    have h2 := h.2; rw [MB hl] at h2; have : c = 45 := UInt8.toNat_inj.1 (by show c.toNat = 45; omega); rw [this] <;> rfl
theorem aoQ {s : ByteArray} {n : Nat} (h : aY s = dF n) : ¬ WJ s = true := fun hb => by
  have := WL hb; rw [h] at this; exact (IG this).1 rfl
theorem abM {s : ByteArray} {n : Nat} (hn : n < 1000000000) (h : aY s = dF n) : M7 s = true /\ O5 s = ((n : Nat) : Int) := by
  have hb := aoQ h; unfold M7 O5; rw [if_neg hb, if_neg hb]; exact ⟨sR.2 ⟨n, hn, h⟩, A4 hn h⟩
theorem abN {s : ByteArray} {n : Nat} (h1 : 1 <= n) (hn : n < 1000000000) (h : aY s = 45 :: dF n) : M7 s = true /\ O5 s = -((n : Nat) : Int) := by
  have hb := aoP h (zA n)
  have hr : aY (sgR s) = dF n := by rw [WK, h] <;> rfl
  unfold M7 O5; rw [if_pos hb, if_pos hb, sR.2 ⟨n, hn, hr⟩, A4 hn hr, decide_eq_true (show (0 : Int) < ((n : Nat) : Int) by omega)]; exact ⟨rfl, by omega⟩
theorem alI {s : ByteArray} (h : M7 s = true) : (∃ n : Nat, n < 1000000000 /\ aY s = dF n) \/ ∃ n : Nat, 1 <= n /\ n < 1000000000 /\ aY s = 45 :: dF n := by
  unfold M7 at h; split at h
  . rename_i hb; simp only [Bool.and_eq_true, decide_eq_true_eq] at h; obtain ⟨n, hn, he⟩ := sR.1 h.1; rw [A4 hn he] at h; exact .inr ⟨n, by omega, hn, by rw [WL hb, he]⟩
  exact .inl (sR.1 h)
theorem IH {s : ByteArray} : fV s = M7 s /\ (M7 s = true -> dY s = O5 s) := by
  have h2 : M7 s = true -> fV s = true /\ dY s = O5 s := fun h => by
    rcases alI h with ⟨n, hn, he⟩ | ⟨n, h1, hn, he⟩
    . obtain ⟨a, b⟩ := DR hn he; exact ⟨b, a.trans (abM hn he).2.symm⟩
    obtain ⟨a, b⟩ := DS h1 hn he; exact ⟨b, a.trans (abN h1 hn he).2.symm⟩
  refine ⟨?_, fun h => (h2 h).2⟩
  cases hs : M7 s with
  | true => exact (h2 hs).1
  | false =>
    cases ha : fV s with
    | false => rfl
    | true =>
      rcases MA ha with ⟨n, hn, he⟩ | ⟨n, h1, hn, he⟩
      . rw [(abM hn he).1] at hs; cases hs
      rw [(abN h1 hn he).1] at hs; cases hs
theorem MC {s : ByteArray} : (fV s && decide (0 <= dY s)) = o9 s /\ (o9 s = true -> dY s = pW s) := by
  have h2 : o9 s = true -> fV s = true /\ dY s = pW s := fun h => by
    obtain ⟨n, hn, he⟩ := sR.1 h; obtain ⟨a, b⟩ := DR hn he; exact ⟨b, a.trans (A4 hn he).symm⟩
  refine ⟨?_, fun h => (h2 h).2⟩
  cases hs : o9 s with
  | true =>
    obtain ⟨a, b⟩ := h2 hs
    rw [a, b, decide_eq_true M8.1] <;> rfl
  | false =>
    cases ha : fV s with
    | false => rfl
    | true =>
      rcases MA ha with ⟨n, hn, he⟩ | ⟨n, h1, hn, he⟩
      . rw [sR.2 ⟨n, hn, he⟩] at hs; cases hs
      rw [(DS h1 hn he).1, decide_eq_false (show ¬ (0 : Int) <= -((n : Nat) : Int) by omega)] <;> rfl
end Go.Proofs
namespace Go.Fs
variable {P : Program} {orc : FuncId -> List Value -> Heap -> Option (Value × Heap)} {aR : Option Nat} {h h' h0 h1 h2 hr : Heap} {S S' S0 B G A : List Nat} {σ σ' j8 ρ : aM} {t t' : Tr} {ms : List Nat} {fl : VL} {ops : Array Oper} {n i mem : Nat} {l : List Oper} {K : VL -> aM -> Prop}
  {d : Tmp} {ty : TypeId} {pos : String} {after : Array Edge} {op : Op} {v pv : PV} {g : Option (Nat × Bool)} {x y z : Operand} {T T' e : TypeId} {τ τ' : Ty} {bs nw rd chg : List Nat} {segs : List (Nat × Nat × Nat)} {tail tl : Bool} {w w' : Value}
theorem kH.aoR {c : Cell} {b : Nat} (hs : l6 P fl op c) (hk : ∀ w, kH P orc ops n l (i + 1) ((d, .raw w) :: fl) (fG false d nw) ((w, c) :: σ) ρ (bs ++ [b]) (mem ||| 2 ^ i) false K)
    (hb : aJ bs ⟨some d, op, ty, pos, after, g⟩ = b := by rfl) (QW : yP op = false := by rfl) (hw : cV ops fl g = some true := by rfl) (hn : (Nat.blt d n && Nat.ble n 4000) = true := by rfl) :
    kH P orc ops n (⟨some d, op, ty, pos, after, g⟩ :: l) i fl nw σ ρ bs mem false K := fun hr h0 G S0 A t h ms rd chg segs tail ht I L => by
  obtain ⟨n1, n2⟩ := fits hn; obtain rfl := ht rfl; obtain ⟨mk, o, e0, e1, e2⟩ := hs.2 h _ t I.aH.rG I.ok I.lc.lt; have hm : Made S0 h (h.push o) σ ((mk h.next, c) :: σ) := Made.cons I.lc (cK.push h o []) (fun b hb => by rw [e0] at hb; simp at hb; subst hb; exact Nat.le_refl _) (by rw [e0]; simp) fun hN => e1 _ hN (by rw [b7, e0]; simp); have sJ : b9 ops t ⟨some d, op, ty, pos, after, g⟩ = some true := cE I.aH hw
  have hf : fC P hr (fJ P) ops n ⟨some d, op, ty, pos, after, g⟩ i (⟨t, h, bs, segs, mem, false⟩, rd, chg) = some (⟨t.set depth d (mk h.next), h.push o, bs ++ [b], (i, h.next, h.next + 1) :: segs, mem ||| 2 ^ i, false⟩, rd, chg) := by
    have hMs : ∀ b' o', look (bif Nat.beq (mem &&& b) mem then h.aB else mask b segs h.aB) b' = some o' -> look h.aB b' = some o' := fun b' o' => by
      cases Nat.beq (mem &&& b) mem with
      | true => exact fun h => h
      | false => exact x4 segs h.aB
    unfold fC; simp only [sJ, hs.1, Bool.false_eq_true, if_false, F1 QW]; unfold pG; simp only [hb, Bool.false_and, cond_false]; rw [e2]; have bX : Nat.blt (h.next + 1) h.next = false := l5 (Nat.le_succ _); have e1 : ∀ L : List (Nat × aU), (∀ b' o', look L b' = some o' -> look h.aB b' = some o') -> bE h.next (h.next + 1) ((h.next, o) :: L) = [(h.next, o)] := fun L hL => GJ fun b' o' hg => I.ok b' o' (hL b' o' hg); simp only [Heap.push, bX, cond_false, bN n1, oK, cond_true]; rw [e1 _ hMs]; rfl
  have L3 : ∃ xQ, ((mk h.next, c) :: σ : aM) = xQ ++ ρ := by
    obtain ⟨xQ, as5⟩ := L.suf; exact ⟨(mk h.next, c) :: xQ, by rw [as5]; rfl⟩
  exact vP.RA hf (hk (mk h.next) hr h0 G S0 A _ _ ms rd _ _ false ht ((I.made hm).set (show aI _ _ (.raw (mk h.next)) (mk h.next) from rfl) n2) ((L.made I hm L3).set (old := false) n2 fun e => by cases e))
end Go.Fs
namespace Go.Fs
variable {P : Program} {σ : aM} {fl : VL} {x y : Operand} {T T' : TypeId} {p q : ByteArray}
end Go.Fs
namespace Go.Fs
variable {P : Program} {orc : FuncId -> List Value -> Heap -> Option (Value × Heap)} {h h1 h2 h' : Heap} {S S0 : List Nat} {σ γ j8 : aM} {fl : VL} {ops : Array Oper} {n : Nat} {l : List Oper} {K : VL -> aM -> Prop} {d : Tmp} {ty : TypeId} {pos : String} {after : Array Edge} {g : Option (Nat × Bool)}
section
variable (P orc)
end
end Go.Fs
namespace Go.Fs
variable {P : Program} {h h2 : Heap} {S S' : List Nat} {w : Value} {e e0 e1 e2 : TypeId} {τ τ0 τ1 τ2 : Ty}
end Go.Fs
namespace Go.Fs
variable {P : Program} {orc : FuncId -> List Value -> Heap -> Option (Value × Heap)} {aR : Option Nat} {h h' h0 h1 h2 : Heap} {S S' S0 S1 S2 B G : List Nat} {σ σ' j8 γ : aM} {t t' : Tr} {ms : List Nat} {fl : VL} {ops : Array Oper} {n i mem : Nat} {l : List Oper} {K : VL -> aM -> Prop} {Q : Ex -> VL -> aM -> Prop} {w : Value} {τ : Ty} {x y : Operand} {T T' : TypeId}
theorem aF.eqT {a b : Int} {k : IntKind} (hx : aQ fl x = some (.v (.int k) a) := by rfl) (hy : aQ fl y = some (.v (.int k) b) := by rfl) (h : a = b) : aF P fl σ (.binOp .eql T x y T') (.v .bool true) := by
  have := aF.eql (P := P) (σ := σ) (T := T) (T' := T') hx hy
  rwa [decide_eq_true h] at this
theorem aF.YM {a b : Int} {k : IntKind} (hx : aQ fl x = some (.v (.int k) a) := by rfl) (hy : aQ fl y = some (.v (.int k) b) := by rfl) (h : a ≠ b) : aF P fl σ (.binOp .eql T x y T') (.v .bool false) := by
  have := aF.eql (P := P) (σ := σ) (T := T) (T' := T') hx hy
  rwa [decide_eq_false h] at this
end Go.Fs
namespace Go.Fs
variable {P : Program} {orc : FuncId -> List Value -> Heap -> Option (Value × Heap)} {aR : Option Nat} {h h' h0 h1 h2 : Heap} {S S' S0 S1 S2 B G : List Nat} {σ σ' j8 γ : aM}
end Go.Fs
namespace Go.Proofs
open Go.Fs
set_option maxHeartbeats 1000000
abbrev as6 : Ty := (.sl .str)
theorem uW : gQ Tryz.prog 116 as6 := iY (by kernel_rfl)
theorem WM {s : ByteArray} (hs : s.size <= 1000000000) : VF Tryz.prog OA 61 [St s] (.nD [I (dY s), B (fV s)]) := VF.ato fun h => by
  show (bif Nat.ble s.size 1000000000 then some _ else none) = _; rw [show Nat.ble s.size 1000000000 = true by rw [Nat.ble_eq]; exact hs] <;> rfl
theorem FO {w : Value} {l : List ByteArray} {b : Bool} : gZ Tryz.prog OA 100 [.raw w] [(w, .var [.v (.sl .str) l, B b])] (fun r g => r = St (l.headD ByteArray.empty) /\ g = [(w, .var [.v (.sl .str) l.tail, B (b || decide (l.headD ByteArray.empty = ByteArray.empty))])]) := by
  refine gZ.S3 Tryz.func100 rfl (fun _ _ => rfl) rfl ?_; show U _ _ _ _ _ [(0, .raw w)] [(w, .var [.v (.sl .str) l, B b])] _
  match l with
  | [] =>
    refine U.seq (U.text ?_); refine J.c (.assign rfl) ?_; refine J.go (U.seq (U.seq (U.text ?_))); refine J.c (.move rfl) (J.c (.s7 m0) (J.c (.mS (k := 0) m0) ?_)); refine J.r (.tR (k := 0) m0 uW) ?_; refine J.r (.len rW) ?_; refine J.c (.eqT (h := rfl)) (J.go ?_); refine U.x6 rfl ?_; refine U.seq (U.text ?_); refine J.c (.move rfl) (J.c (.s7 m0) (J.c (.mS (k := 1) m0) ?_)); refine J.pS (cs' := [.v (.sl .str) [], B true]) 1 RV .v ?_; refine J.go (U.seq (U.text ?_)); refine J.c (.assign rfl) (J.go ?_); refine U.ret ?_; rw [show (b || decide (([] : List ByteArray).headD ByteArray.empty = ByteArray.empty)) = true by cases b <;> rfl]
    exact ⟨rfl, [St ByteArray.empty], .cons b6 .nil, ⟨rfl, rfl⟩, FF⟩
  | a :: r =>
    cases b
    . refine U.seq (U.text ?_); refine J.c (.assign rfl) ?_; refine J.go (U.seq (U.seq (U.text ?_))); refine J.c (.move rfl) (J.c (.s7 m0) (J.c (.mS (k := 0) m0) ?_)); refine J.r (.tR (k := 0) m0 uW) ?_; refine J.r (.len rW) ?_; refine J.c (.YM (h := by simp; omega)) (J.go ?_); refine U.BA rfl ?_; refine U.skip (U.seq (U.text ?_)); refine J.c (.move rfl) (J.c (.s7 m0) (J.c (.mS (k := 0) m0) ?_)); refine J.r (.tR (k := 0) m0 uW) ?_; refine J.c (.ix (j := 0) rfl rfl rW (by simp)) ?_; refine J.r (.ld BG) ?_; refine J.c (.assign rfl) ?_; refine J.go (U.seq (U.text ?_)); refine J.c (.move rfl) (J.c (.move rfl) (J.c (.s7 m0) (J.c (.mS (k := 0) m0) ?_))); refine J.r (.tR (k := 0) m0 uW) ?_; refine J.r (.xL rfl rfl rW (by simp; omega)) ?_; refine J.c (.s7 m0) (J.c (.mS (k := 0) m0) ?_); refine J.AH (bO.pS (k := 0) uW .v (Nat.le_of_ble_eq_true rfl) (.inl rfl) rfl rfl) ?_; rintro _ _ ⟨rfl, rfl⟩; refine J.go (U.seq (U.text ?_)); refine J.c (.move rfl) (J.c (.move rfl) (J.c (.s7 m0) (J.c (.mS (k := 1) m0) ?_))); refine J.r (.tR (k := 1) m0 RV) ?_; refine J.c (.move rfl) (J.c (.move rfl) (J.c (.L6) (J.c (.dK rfl rfl) ?_))); refine J.c (.s7 m0) (J.c (.mS (k := 1) m0) ?_); refine J.AH (bO.pS (k := 1) RV .v (Nat.le_of_ble_eq_true rfl) (.inl rfl) rfl rfl) ?_; rintro _ _ ⟨rfl, rfl⟩; refine J.go (U.seq (U.text ?_)); refine J.c (.move rfl) (J.c (.assign rfl) (J.go ?_)); refine U.ret ?_; exact ⟨rfl, [St a], .cons b6 .nil, ⟨rfl, rfl⟩, FF⟩
    refine U.seq (U.text ?_); refine J.c (.assign rfl) ?_; refine J.go (U.seq (U.seq (U.text ?_))); refine J.c (.move rfl) (J.c (.s7 m0) (J.c (.mS (k := 0) m0) ?_)); refine J.r (.tR (k := 0) m0 uW) ?_; refine J.r (.len rW) ?_; refine J.c (.YM (h := by simp; omega)) (J.go ?_); refine U.BA rfl ?_; refine U.skip (U.seq (U.text ?_)); refine J.c (.move rfl) (J.c (.s7 m0) (J.c (.mS (k := 0) m0) ?_)); refine J.r (.tR (k := 0) m0 uW) ?_; refine J.c (.ix (j := 0) rfl rfl rW (by simp)) ?_; refine J.r (.ld BG) ?_; refine J.c (.assign rfl) ?_; refine J.go (U.seq (U.text ?_)); refine J.c (.move rfl) (J.c (.move rfl) (J.c (.s7 m0) (J.c (.mS (k := 0) m0) ?_))); refine J.r (.tR (k := 0) m0 uW) ?_; refine J.r (.xL rfl rfl rW (by simp; omega)) ?_; refine J.c (.s7 m0) (J.c (.mS (k := 0) m0) ?_); refine J.AH (bO.pS (k := 0) uW .v (Nat.le_of_ble_eq_true rfl) (.inl rfl) rfl rfl) ?_; rintro _ _ ⟨rfl, rfl⟩; refine J.go (U.seq (U.text ?_)); refine J.c (.move rfl) (J.c (.move rfl) (J.c (.s7 m0) (J.c (.mS (k := 1) m0) ?_))); refine J.r (.tR (k := 1) m0 RV) ?_; refine J.c (.move rfl) (J.skip (J.skip (J.c (.iD rfl rfl) ?_))); refine J.c (.s7 m0) (J.c (.mS (k := 1) m0) ?_); refine J.AH (bO.pS (k := 1) RV .v (Nat.le_of_ble_eq_true rfl) (.inl rfl) rfl rfl) ?_; rintro _ _ ⟨rfl, rfl⟩; refine J.go (U.seq (U.text ?_)); refine J.c (.move rfl) (J.c (.assign rfl) (J.go ?_)); refine U.ret ?_; exact ⟨rfl, [St a], .cons b6 .nil, ⟨rfl, rfl⟩, FF⟩
end Go.Proofs
namespace Go.Proofs
open Go.Fs Ieee
set_option maxHeartbeats 40000000
theorem PS {k : Nat} (h : 0 < k) : eK (-(k : Int)) = ⟨#[45]⟩ ++ eK (k : Int) := by
  obtain ⟨j, rfl⟩ : ∃ j, k = j + 1 := ⟨k - 1, by omega⟩; apply vY; rw [hJ]; unfold eK; rw [gM, gM]; rfl
theorem ahP {n : Int} (h : -1000000 <= n /\ n <= 1000000) : (eK n).size <= 20 := by
  by_cases h0 : 0 <= n
  . have := xE (n := n) ⟨h0, by omega⟩; omega
  obtain ⟨k, rfl⟩ : ∃ k : Nat, n = Int.negSucc k := ⟨n.natAbs - 1, by omega⟩; have h1 := xE (n := ((k + 1 : Nat) : Int)) (by omega); unfold eK at h1 ⊢; rw [<- fE, gM] at h1 ⊢; show (45 :: xM 20 (k + 1)).length <= 20; have e : yO ((k + 1 : Nat) : Int) = xM 20 (k + 1) := rfl; rw [e] at h1; rw [List.length_cons]; omega
end Go.Proofs
namespace Go.Proofs
open Go.Fs Ieee
set_option maxHeartbeats 1000000
def lA : ByteArray := ⟨#[103, 97, 117, 103, 101]⟩
def gD : ByteArray := ⟨#[45]⟩
def DT (W : List ByteArray) : ByteArray := W.headD ByteArray.empty
def uX (W : List ByteArray) : ByteArray := W.tail.headD ByteArray.empty
def pX (W : List ByteArray) : ByteArray := W.tail.tail.headD ByteArray.empty
def BT (W : List ByteArray) : Bool := fV (pX W) && (decide (0 <= dY (pX W)) && (decide (DT W = lA) && (!(((false || decide (DT W = ByteArray.empty)) || decide (uX W = ByteArray.empty)) || decide (pX W = ByteArray.empty)) && decide (W.tail.tail.tail.length = 0))))
theorem II : fV ByteArray.empty = false := by rw [IH.1]; decide +kernel
theorem aoS {W : List ByteArray} (h : W.length ≠ 3) : BT W = false := by
  match W with
  | [] => unfold BT; rw [show pX [] = ByteArray.empty from rfl, II] <;> rfl
  | [_] => unfold BT; rw [show pX [_] = ByteArray.empty from rfl, II] <;> rfl
  | [a, b] => unfold BT; rw [show pX [a, b] = ByteArray.empty from rfl, II] <;> rfl
  | [_, _, _] => exact absurd rfl h
  | _ :: _ :: _ :: _ :: _ => unfold BT; simp
theorem ahQ {a b c : ByteArray} : BT [a, b, c] = (decide (a = lA) && (!decide (b = ByteArray.empty) && o9 c)) := by
  unfold BT; rw [show pX [a, b, c] = c from rfl, show uX [a, b, c] = b from rfl, show DT [a, b, c] = a from rfl, <- Bool.and_assoc, MC.1]; by_cases hc : o9 c = true
  . have hce : c ≠ ByteArray.empty := fun e => by rw [e, WB] at hc; cases hc
    rw [hc]; by_cases ha : a = lA
    . have hae : lA ≠ ByteArray.empty := by decide
      subst ha; simp [hae, hce]
    simp [ha]
  have hc : o9 c = false := by simpa using hc
  rw [hc]; simp
theorem aoT {W : List ByteArray} (h3 : W.length = 3) (h0 : W9 W 0 = lA) (h1 : W9 W 1 ≠ ByteArray.empty) (h2 : o9 (W9 W 2) = true) : BT W = true /\ uX W = W9 W 1 /\ dY (pX W) = pW (W9 W 2) := by
  match W, h3 with
  | [a, b, c], _ =>
    have h0 : a = lA := h0; have h1 : b ≠ ByteArray.empty := h1; have h2 : o9 c = true := h2; refine ⟨?_, rfl, MC.2 h2⟩; rw [ahQ, h2]; simp [h0, h1]
abbrev n5 := Option (ByteArray × Int) × List Bool × List Int
def zG : n5 := (none, [], [])
def qY (b : n5) : ByteArray × Int := b.1.getD (ByteArray.empty, 0)
def DU (b : n5) (x : ByteArray) : Bool := bif b.1.isSome then decide (x = gD) || fV x else BT (bY 32 x)
def tL (b : n5) (x : ByteArray) : n5 := bif b.1.isSome then (if x = gD then (b.1, b.2.1 ++ [false], b.2.2 ++ [0]) else (b.1, b.2.1 ++ [true], b.2.2 ++ [dY x])) else (some (uX (bY 32 x), dY (pX (bY 32 x))), b.2.1, b.2.2)
def s8 (b : n5) (x : ByteArray) : Option n5 := if DU b x = true then some (tL b x) else none
theorem DV {b : n5} {x : ByteArray} (h : DU b x = true) : s8 b x = some (tL b x) := if_pos h
theorem S9 {b : n5} {x : ByteArray} (h : DU b x = false) : s8 b x = none := if_neg (by rw [h]; decide)
theorem FP {b : n5} {x : ByteArray} (h : b.1.isSome = false) : tL b x = (some (uX (bY 32 x), dY (pX (bY 32 x))), b.2.1, b.2.2) := by unfold tL; rw [h] <;> rfl
theorem FQ {b : n5} {x : ByteArray} (h : b.1.isSome = true) (hx : x = gD) : tL b x = (b.1, b.2.1 ++ [false], b.2.2 ++ [0]) := by unfold tL; rw [h, if_pos hx] <;> rfl
theorem FR {b : n5} {x : ByteArray} (h : b.1.isSome = true) (hx : ¬ x = gD) : tL b x = (b.1, b.2.1 ++ [true], b.2.2 ++ [dY x]) := by unfold tL; rw [h, if_neg hx] <;> rfl
theorem HG {b : n5} {x : ByteArray} (h : b.1.isSome = false) : DU b x = BT (bY 32 x) := by unfold DU; rw [h] <;> rfl
theorem w6 {b : n5} {x : ByteArray} (h : b.1.isSome = true) : DU b x = (decide (x = gD) || fV x) := by unfold DU; rw [h] <;> rfl
structure GsI (b : n5) (i : Nat) : Prop where
  hd : b.1.isSome = decide (0 < i)
  ln : b.2.1.length = i - 1
  nm : b.2.2.length = b.2.1.length
  bd : ∀ n ∈ b.2.2, -1000000000 < n /\ n < 1000000000
theorem ahR : GsI zG 0 := ⟨rfl, rfl, rfl, fun n hn => by cases hn⟩
theorem ahS {s : ByteArray} (h : fV s = true) : -1000000000 < dY s /\ dY s < 1000000000 := by
  rw [IH.1] at h; rw [IH.2 h]; exact alG
theorem SA {b : n5} {i : Nat} {x : ByteArray} (h : GsI b i) (hk : DU b x = true) : GsI (tL b x) (i + 1) := by
  obtain ⟨h1, h2, h3, h4⟩ := h
  cases hs : b.1.isSome with
  | false =>
    rw [hs] at h1; have h0 := of_decide_eq_false h1.symm; rw [FP hs]
    exact ⟨by simp, by show b.2.1.length = _; omega, h3, h4⟩
  | true =>
    rw [hs] at h1; have h0 := of_decide_eq_true h1.symm; by_cases hx : x = gD
    . rw [FQ hs hx]; refine ⟨by rw [hs]; simp, by simp only [List.length_append, List.length_singleton]; omega, by simp only [List.length_append, List.length_singleton]; omega, fun n hn => ?_⟩; rcases List.mem_append.1 hn with hn | hn
      . exact h4 n hn
      rw [List.mem_singleton.1 hn]; omega
    rw [w6 hs, decide_eq_false hx, Bool.false_or] at hk; rw [FR hs hx]; refine ⟨by rw [hs]; simp, by simp only [List.length_append, List.length_singleton]; omega, by simp only [List.length_append, List.length_singleton]; omega, fun n hn => ?_⟩; rcases List.mem_append.1 hn with hn | hn
    . exact h4 n hn
    rw [List.mem_singleton.1 hn]; exact ahS hk
def mG (s : ByteArray) : Option n5 × Nat := if s = ByteArray.empty then (none, 0) else qB s8 (bY 10 s) zG 0
def oA (b : n5) : bS := ((qY b).1, (qY b).2, b.2.2.map lZ, [])
def B0 (f : Nat -> Nat) (b : n5) : bS := ((qY b).1, (qY b).2, gL (oA b) b.2.1 f b.2.1.length, eC b.2.1 b.2.1.length)
def qC (s : ByteArray) : Int := match (mG s).1 with | none => 26 | some b => bT (oA b)
def w7 (s : ByteArray) : Int := match (mG s).1 with | none => (((mG s).2 : Nat) : Int) | some b => if bT (oA b) ≠ 0 then (((mG s).2 : Nat) : Int) else 0
def iM (f : Nat -> Nat) (s : ByteArray) : bS := match (mG s).1 with | none => P8 | some b => if bT (oA b) ≠ 0 then P8 else B0 f b
section
variable {s : ByteArray} {f : Nat -> Nat} {b : n5} {i : Nat}
theorem abO : mG ByteArray.empty = (none, 0) := if_pos rfl
theorem tM (h : s ≠ ByteArray.empty) : mG s = qB s8 (bY 10 s) zG 0 := if_neg h
theorem qZ (hp : mG s = (none, i)) : iM f s = P8 /\ w7 s = ((i : Nat) : Int) /\ qC s = 26 := by
  unfold iM w7 qC; rw [hp]; exact ⟨rfl, rfl, rfl⟩
theorem BU (hp : mG s = (some b, i)) (hc : bT (oA b) ≠ 0) : iM f s = P8 /\ w7 s = ((i : Nat) : Int) /\ qC s = bT (oA b) := by
  unfold iM w7 qC; rw [hp]; exact ⟨if_pos hc, if_pos hc, rfl⟩
theorem A5 (hp : mG s = (some b, i)) (hc : bT (oA b) = 0) : iM f s = B0 f b /\ w7 s = 0 /\ qC s = 0 := by
  unfold iM w7 qC; rw [hp]; exact ⟨if_neg (fun e => e hc), if_neg (fun e => e hc), hc⟩
end
theorem as7 {n : Int} (h : -1000000000 < n /\ n < 1000000000) : fD (lZ n) = if lvO n = true then 0 else 3 := by
  by_cases hr : -1024 <= n /\ n <= 1024
  . rw [if_pos (show lvO n = true from decide_eq_true hr)]; exact (IF hr).1
  rw [if_neg (by rw [show lvO n = false from decide_eq_false hr]; decide)]; exact (ahO (by omega) (by omega)).1
end Go.Proofs
namespace Go.Proofs
open Go.Fs
set_option maxHeartbeats 1000000
abbrev amT : Ty := (.pair (.sl .str) .bool)
theorem aoU : tG Tryz.prog 155 amT := rK (z := .agg #[.slice none 0 0, .bool false]) (by kernel_rfl) rfl rfl
def hdR (W : List ByteArray) : Bool := ((false || decide (DT W = ByteArray.empty)) || decide (uX W = ByteArray.empty)) || decide (pX W = ByteArray.empty)
theorem as8 {P : Program} {σ : aM} {fl : VL} {T T' : TypeId} {x y : Operand} {k : IntKind} {p q : Int} {b : Bool} (e : decide (q <= p) = b) (hx : aQ fl x = some (.v (.int k) p) := by rfl) (hy : aQ fl y = some (.v (.int k) q) := by rfl) : aF P fl σ (.binOp .geq T x y T') (.v .bool b) := by
  subst e; exact aF.geq hx hy
theorem aoV : GN Tryz.prog 155 amT [(0, 1), (1, 1)] := D3 aoU rfl (by kernel_rfl)
theorem tWK {w : Value} {W : List ByteArray} {b : Bool} : gZ Tryz.prog OA 100 [.raw w] [(w, .var [.v (.sl .str) W, B b])] (fun r g => r = St (DT W) /\ g = [(w, .var [.v (.sl .str) W.tail, B (b || decide (DT W = ByteArray.empty))])]) := FO
theorem tWN {w : Value} {W : List ByteArray} {b : Bool} : gZ Tryz.prog OA 100 [.raw w] [(w, .var [.v (.sl .str) W.tail, B b])] (fun r g => r = St (uX W) /\ g = [(w, .var [.v (.sl .str) W.tail.tail, B (b || decide (uX W = ByteArray.empty))])]) := FO
theorem tWT {w : Value} {W : List ByteArray} {b : Bool} : gZ Tryz.prog OA 100 [.raw w] [(w, .var [.v (.sl .str) W.tail.tail, B b])] (fun r g => r = St (pX W) /\ g = [(w, .var [.v (.sl .str) W.tail.tail.tail, B (b || decide (pX W = ByteArray.empty))])]) := FO
theorem ae2 {W : List ByteArray} {m : Nat} (h : ∀ x ∈ W, x.size <= m) : (pX W).size <= m := by
  match W with
  | [] => exact Nat.zero_le _
  | [_] => exact Nat.zero_le _
  | [_, _] => exact Nat.zero_le _
  | _ :: _ :: c :: _ => exact h c (by simp)
theorem WN {s : ByteArray} (hs : s.size < 100000) : VF Tryz.prog OA 60 [St s] (.nD [St (uX (bY 32 s)), I (dY (pX (bY 32 s))), B (BT (bY 32 s))]) := by
  refine VF.enter Tryz.func60 rfl (fun _ _ => rfl) rfl ?_; show U _ _ _ _ _ [(0, St s)] [] _; have hT : (pX (bY 32 s)).size <= 1000000000 := Nat.le_trans (ae2 fun x hx => aaA x hx) (by omega); have nL := aa6 (s := s) (p := ⟨#[32]⟩) rfl hs; rw [show cS ⟨#[32]⟩ = 32 from rfl] at nL; generalize bY 32 s = W at *; refine U.seq (U.text ?_); refine J.c (.assign rfl) (J.c (.assign rfl) (J.c (.assign rfl) ?_)); refine J.go (U.seq (U.text ?_)); refine J.c (.move rfl) ?_; refine J.call rfl rfl (VF.call nL) ?_; refine J.c (.build (W, false) aoV) ?_; refine J.cell (.box .v) ?_; intro w5; show J _ _ _ _ _ _ [(w5, .var [.v (.sl .str) W, B false])] _; refine J.c (.assign rfl) ?_; refine J.go (U.seq (U.text ?_)); refine J.c (.move rfl) (J.c (.func) (J.c (.assign rfl) ?_)); refine J.go (U.seq (U.text ?_)); refine J.c (.move rfl) ?_; refine J.qT [(w5, .var [.v (.sl .str) W, B false])] rfl rfl rfl (gZ.mR (a := [.raw w5]) (args := []) (c := []) tWK) ?_; rintro _ _ ⟨rfl, rfl⟩; show J _ _ _ _ _ _ [(w5, .var [.v (.sl .str) W.tail, B (false || decide (DT W = ByteArray.empty))])] _; refine J.c (.assign rfl) ?_; refine J.go (U.seq (U.text ?_)); refine J.c (.move rfl) ?_; refine J.qT [(w5, .var [.v (.sl .str) W.tail, B (false || decide (DT W = ByteArray.empty))])] rfl rfl rfl (gZ.mR (a := [.raw w5]) (args := []) (c := []) tWN) ?_; rintro _ _ ⟨rfl, rfl⟩; show J _ _ _ _ _ _ [(w5, .var [.v (.sl .str) W.tail.tail, B ((false || decide (DT W = ByteArray.empty)) || decide (uX W = ByteArray.empty))])] _; refine J.c (.assign rfl) ?_; refine J.go (U.seq (U.text ?_)); refine J.c (.move rfl) ?_; refine J.qT [(w5, .var [.v (.sl .str) W.tail.tail, B ((false || decide (DT W = ByteArray.empty)) || decide (uX W = ByteArray.empty))])] rfl rfl rfl (gZ.mR (a := [.raw w5]) (args := []) (c := []) tWT) ?_; rintro _ _ ⟨rfl, rfl⟩; show J _ _ _ _ _ _ [(w5, .var [.v (.sl .str) W.tail.tail.tail, B (hdR W)])] _; refine J.call rfl rfl (VF.call (WM hT)) ?_; refine J.c (.move rfl) (J.c (.extract) (J.c (.extract) (J.c (.assign rfl) ?_))); refine J.c (.assign rfl) (J.go ?_); have hB : BT W = (fV (pX W) && (decide (0 <= dY (pX W)) && (decide (DT W = lA) && (!hdR W && decide (W.tail.tail.tail.length = 0))))) := rfl; rw [hB]; generalize fV (pX W) = q1; generalize hdR W = q4; refine U.seq (U.drawn ?_); refine VD.c (.move rfl) (VD.c (.move rfl) (VD.c (.move rfl) (VD.c (.move rfl) ?_))); cases q1
  . refine VD.skip (VD.skip (VD.c (.dK rfl rfl) (VD.c (.move rfl) ?_))); refine VD.skip (VD.skip (VD.c (.dK rfl rfl) (VD.c (.move rfl) ?_))); refine VD.skip (VD.skip (VD.skip (VD.skip ?_))); refine VD.skip (VD.c (.dK rfl rfl) (VD.c (.move rfl) (VD.skip ?_))); refine VD.skip (VD.skip (VD.skip (VD.skip ?_))); refine VD.skip (VD.c (.dK rfl rfl) (VD.c (.assign rfl) (VD.c (.assign rfl) ?_))); refine VD.c (.assign rfl) (VD.go ?_); refine U.ret ?_; exact ⟨rfl, [St (uX W), I (dY (pX W)), B false], .cons b6 (.cons b6 (.cons b6 .nil)), rfl⟩
  refine VD.c (.move rfl) (VD.c (as8 rfl) (VD.c (.iD rfl rfl) (VD.c (.move rfl) ?_))); by_cases h2 : 0 <= dY (pX W)
  . rw [decide_eq_true h2]; refine VD.c (.move rfl) (VD.c (.L6) (VD.c (.iD rfl rfl) (VD.c (.move rfl) ?_))); by_cases h3 : DT W = lA
    . rw [show decide (DT W = ⟨#[103, 97, 117, 103, 101]⟩) = true from decide_eq_true h3, decide_eq_true h3]; refine VD.co (.move rfl) ?_; refine VD.co (.s7 m0) ?_; refine VD.co (.mS (k := 1) m0) ?_; refine VD.r [(w5, .var [.v (.sl .str) W.tail.tail.tail, B q4])] (.tR (k := 1) m0 RV) (.inr ⟨rfl, rfl⟩) (hold := by kernel_rfl) ?_; refine VD.c (.not) (VD.c (.iD rfl rfl) (VD.c (.move rfl) ?_)); cases q4
      . refine VD.co (.move rfl) ?_; refine VD.co (.s7 m0) ?_; refine VD.co (.mS (k := 0) m0) ?_; refine VD.r [(w5, .var [.v (.sl .str) W.tail.tail.tail, B false])] (.tR (k := 0) m0 uW) (.inr ⟨rfl, rfl⟩) (hold := by kernel_rfl) ?_; refine VD.r [] (.len rW) (.inl rfl) (hold := by kernel_rfl) ?_; refine VD.c (.eql) (VD.c (.iD rfl rfl) (VD.c (.assign rfl) (VD.c (.assign rfl) ?_))); refine VD.c (.assign rfl) (VD.go ?_); refine U.ret ?_; rw [show decide ((((W.tail.tail.tail.length : Nat) : Int)) = 0) = decide (W.tail.tail.tail.length = 0) by by_cases h : W.tail.tail.tail.length = 0 <;> simp [h]]; exact ⟨rfl, [St (uX W), I (dY (pX W)), B (decide (W.tail.tail.tail.length = 0))], .cons b6 (.cons b6 (.cons b6 .nil)), rfl⟩
      refine VD.skip (VD.skip (VD.skip (VD.skip ?_))); refine VD.skip (VD.skip (VD.c (.dK rfl rfl) (VD.c (.assign rfl) ?_))); refine VD.c (.assign rfl) (VD.c (.assign rfl) (VD.go ?_)); refine U.ret ?_; exact ⟨rfl, [St (uX W), I (dY (pX W)), B false], .cons b6 (.cons b6 (.cons b6 .nil)), rfl⟩
    rw [show decide (DT W = ⟨#[103, 97, 117, 103, 101]⟩) = false from decide_eq_false h3, decide_eq_false h3]; refine VD.skip (VD.skip (VD.skip (VD.skip ?_))); refine VD.skip (VD.c (.dK rfl rfl) (VD.c (.move rfl) (VD.skip ?_))); refine VD.skip (VD.skip (VD.skip (VD.skip ?_))); refine VD.skip (VD.c (.dK rfl rfl) (VD.c (.assign rfl) (VD.c (.assign rfl) ?_))); refine VD.c (.assign rfl) (VD.go ?_); refine U.ret ?_; exact ⟨rfl, [St (uX W), I (dY (pX W)), B false], .cons b6 (.cons b6 (.cons b6 .nil)), rfl⟩
  rw [decide_eq_false h2]; refine VD.skip (VD.skip (VD.c (.dK rfl rfl) (VD.c (.move rfl) ?_))); refine VD.skip (VD.skip (VD.skip (VD.skip ?_))); refine VD.skip (VD.c (.dK rfl rfl) (VD.c (.move rfl) (VD.skip ?_))); refine VD.skip (VD.skip (VD.skip (VD.skip ?_))); refine VD.skip (VD.c (.dK rfl rfl) (VD.c (.assign rfl) (VD.c (.assign rfl) ?_))); refine VD.c (.assign rfl) (VD.go ?_); refine U.ret ?_; exact ⟨rfl, [St (uX W), I (dY (pX W)), B false], .cons b6 (.cons b6 (.cons b6 .nil)), rfl⟩
end Go.Proofs
namespace Go.Fs
variable {P : Program} {fl : VL} {e : TypeId} {τ : Ty}
def ahT : List Bool -> List PV -> List PV -> List PV
  | b :: bs, x :: xs, y :: ys => (bif b then y else x) :: ahT bs xs ys
  | _, xs, _ => xs
theorem WO {h : Heap} {S : List Nat} : ∀ (bs : List Bool) {xs ys : List PV} {vs : List Value}, aX h S xs vs -> aX h S ys vs -> aX h S (ahT bs xs ys) vs
  | [], _, _, _, hx, _ => hx
  | _ :: _, [], _, _, hx, _ => hx
  | _ :: _, _ :: _, [], _, hx, _ => hx
  | b :: bs, _ :: _, _ :: _, _, ⟨u, r, e1, x1, x2⟩, ⟨u', r', e2, y1, y2⟩ => by
    rw [e1] at e2; obtain ⟨rfl, rfl⟩ := List.cons.inj e2; refine ⟨u, r, e1, ?_, WO bs x2 y2⟩; cases b
    . exact x1
    exact y1
theorem l6.alJ (bs : List Bool) {zs : List PV} (hZ : tG P e τ) (hz : ahT bs (iZ τ (yK τ)) ((mU τ).map PV.raw) = zs := by rfl) : l6 P fl (.alloc e) (.var zs) :=
  ⟨rfl, fun h S t hs aZ hS => by
    obtain ⟨z, h1, h2, h3⟩ := hZ.zero; obtain ⟨z1, z2⟩ := oW h S τ; obtain ⟨a1, a2⟩ := OV (u := z) (by rw [h2]; exact z2); subst hz; refine ⟨fun k => .pointer (some ⟨k, 0, none⟩), .row e z.cells.toList true false, fun _ => rfl, fun S' hN hm => ?_, fun H _ _ _ _ _ => ?_⟩
    . refine ⟨h.next, e, _, rfl, hm, by rw [Heap.bB, if_pos rfl], ?_, a2⟩; have hc := (kS z1).nx hN; rw [<- h2] at hc ⊢; exact WO bs hc (P9 _)
    show (match (P.info? e).bind (·.zero) with | some z => if af z then qE e z H else none | none => none) = _; rw [h1]; simp only [a1, if_true]; unfold qE
    rw [if_pos a2]⟩
end Go.Fs
namespace Go.Proofs
open Go.Fs Ieee
set_option maxHeartbeats 4000000
theorem aoW {s : Bool} {r : Nat} (h : r <= 2139095040) : (∃ a m p, single.read (single.word s r) = .number a m p) \/ ∃ a, single.read (single.word s r) = .infinity a := by
  have hm : single.word s r % 2147483648 = r := by
    unfold Format.word; rw [M6]; cases s <;> simp <;> omega
  unfold Format.read; simp only [M6, WE, HE, WG, hm]; split
  . exact .inl ⟨_, _, _, rfl⟩
  split
  . exact .inl ⟨_, _, _, rfl⟩
  rw [if_pos (by omega)]; exact .inr ⟨_, rfl⟩
theorem ahU (n : Int) : single.div (single.write (.number (n < 0) n.natAbs 0)) 1098907648 = some (lZ n) := by
  have hw : ∃ r, r <= 2139095040 /\ single.write (.number (n < 0) n.natAbs 0) = single.word (decide (n < 0)) r := by
    show ∃ r, r <= 2139095040 /\ single.nearest _ _ _ = _; unfold Format.nearest; split
    . exact ⟨0, by decide, rfl⟩
    exact ⟨_, Nat.le_trans (Nat.min_le_right _ _) (Nat.le_of_eq HE), rfl⟩
  obtain ⟨r, hr, hw⟩ := hw
  have h16 : single.read 1098907648 = .number false 8388608 (-19) := by decide
  have hs : ∃ q, single.div (single.write (.number (n < 0) n.natAbs 0)) 1098907648 = some q := by
    unfold Format.div; rw [hw, h16]; rcases aoW (s := decide (n < 0)) hr with ⟨a, m, p, h⟩ | ⟨a, h⟩ <;> rw [h] <;> exact ⟨_, rfl⟩
  obtain ⟨q, hq⟩ := hs; unfold lZ; rw [hq] <;> rfl
theorem alK {s : ByteArray} (hs : s.size < 100000) : dH [cL (decide ((1000000 : Int) < ((s.size : Nat) : Int))) 27, cL (decide (s = ByteArray.empty)) 26] = if s = ByteArray.empty then 26 else 0 := by
  rw [decide_eq_false (by omega)]; by_cases h : s = ByteArray.empty
  . rw [if_pos h, decide_eq_true h] <;> rfl
  rw [if_neg h, decide_eq_false h] <;> rfl
theorem BV {s : ByteArray} (hs : s.size < 100000) : VF Tryz.prog OA 16 [St s] (.nD [.v jP (iM aS s), I (w7 s), I (qC s)]) := by
  refine VF.enter Tryz.func16 rfl (fun _ _ => rfl) rfl ?_; show U _ _ _ _ _ [(0, St s)] [] _; refine U.seq (U.text ?_); have hfe := alK hs; refine J.cell (.alloc uD) ?_; intro eT; refine J.c (.assign rfl) (J.c (.assign rfl) ?_); refine J.go (U.seq (U.seq (U.text ?_))); refine J.c (.move rfl) ?_; refine J.r (.rJ) ?_; refine J.c (.gtr) ?_; refine J.call rfl rfl (VF.call (gR )) ?_; refine J.c (.move rfl) (J.c (.L6) ?_); refine J.call rfl rfl (VF.call (gR )) ?_; refine J.new (.lit [cL (decide ((1000000 : Int) < ((s.size : Nat) : Int))) (27 : Int), cL (decide (s = ByteArray.empty)) (26 : Int)] xB) ?_; refine J.call rfl rfl (VF.call (oN (by first | assumption | omega | simp))) ?_; refine J.c (.assign rfl) ?_; refine J.go (U.seq (U.text ?_)); refine J.c (.move rfl) (J.c (.neq) (J.go ?_)); refine U.b8 rfl (fun c2 => ?_) (fun c2 => ?_)
  . have hse : s = ByteArray.empty := Classical.byContradiction fun e => c2 (hfe.trans (if_neg e)); have hpn := qZ (f := aS) (show mG s = (none, 0) by rw [hse]; exact abO); refine U.seq (U.text ?_); refine J.c (.build (ByteArray.empty, 0, [], []) uE) (J.c (.move rfl) ?_); refine J.lJ (cs' := [St ByteArray.empty, I 0, .v eZ [], .v cW []]) dT .v ?_; refine J.c (.assign rfl) (J.c (.assign rfl) (J.go ?_)); refine U.ret ?_; exact aW.three rfl (.cell (x := (ByteArray.empty, 0, [], [])) rfl m0 dT .refl) b6 b6 (eS (by exact hpn.1.symm)) (dM (by exact hpn.2.1.symm)) (dM (by rw [hpn.2.2]; exact hfe.trans (if_pos hse)))
  have cA : s ≠ ByteArray.empty := fun e => by have h0 := Classical.not_not.1 c2; rw [hfe, if_pos e] at h0; cases h0
  refine U.skip (U.seq (U.text ?_)); refine J.cell (.alJ (zs := [St ByteArray.empty, I (0 : Int), tH, tH]) [false, false, true, true] uD) ?_; intro pA; refine J.go (U.seq (U.text ?_)); refine J.c (.assign rfl) ?_; refine J.go (U.seq (U.text ?_)); refine J.c (.assign rfl) ?_; refine J.go (U.seq (U.block ?_)); refine U.cell0 68 (.bJ .f32) ?_; refine U.cell0 4 .bool ?_; refine U.aV [(0, St s), (2, .raw eT), (6, .raw pA), (7, .raw (.slice none 0 0)), (8, I ((0 : Nat) : Int))] ⟨rfl, rfl, rfl, rfl, rfl, trivial⟩ ?_; refine U.loop (I := fun kk ff ss => ∃ (r : ByteArray) (b : n5) (i : Nat) (wt : Value) (wl : Value), kk = r.size /\ ff = [(0, St r), (2, .raw eT), (6, .raw pA), (7, .raw wt), (8, I ((i : Nat) : Int))] /\ ss = [(wt, .row 4 .bool b.2.1), (wl, .row 68 (.bJ .f32) (b.2.2.map lZ)), (pA, .var [St ((qY b).1), I ((qY b).2), .raw wl, tH]), (eT, .var [St ByteArray.empty, I (0 : Int), .v eZ [], .v cW []])] /\ (i + r.size <= s.size) /\ (GsI b i) /\ (qB s8 (bY 10 s) zG 0 = qB s8 (bY 10 r) b i)) ?_ _ _ _ ⟨s, zG, 0, (.slice none 0 0), (.slice none 0 0), rfl, rfl, rfl, (by simp), (by exact ahR), (by rfl)⟩; rintro kk ff ss ⟨r, b, i, wt, wl, oL, rfl, rfl, hr, hI, hp⟩; refine U.seq (U.seq (U.text ?_)); refine J.c (.move rfl) (J.c (.ab4) (J.go ?_)); refine U.b8 rfl (fun c7 => ?_) (fun c7 => ?_)
  . have hca := aa9 (s := r) (c := 10); have hln := hI.ln; have wR := hI.nm; refine U.skip (U.block (U.seq (U.text ?_))); refine J.c (.move rfl) ?_; refine J.call rfl rfl (VF.call (ahJ rfl (by omega))) ?_; refine J.c (.move rfl) (J.c (.extract) (J.c (.extract) (J.c (.extract) ?_))); refine J.c (.assign rfl) (J.c (.assign rfl) (J.c (.assign rfl) ?_)); refine J.go (U.seq (U.text ?_)); refine J.c (.assign rfl) ?_; refine J.go (U.seq (U.block (U.seq (U.text ?_)))); refine J.c (.move rfl) (J.c (.eql) (J.c (.assign rfl) (J.go ?_))); refine U.b8 rfl (fun c14 => ?_) (fun c14 => ?_)
    . have AK : b.1.isSome = false := by rw [hI.hd]; exact decide_eq_false (by omega)
      refine U.text ?_; refine J.c (.move rfl) ?_; refine J.call rfl rfl (VF.call (WN (show (eX 10 r).size < 100000 by omega))) ?_; refine J.c (.move rfl) (J.c (.extract) (J.c (.extract) (J.c (.extract) ?_))); refine J.c (.mS (k := 0) m2) ?_; refine J.perm lY ?_; refine J.pS (cs' := [St (uX (bY 32 (eX (cS (⟨#[10]⟩)) r))), I ((qY b).2), .raw wl, tH]) 0 BG .v ?_; refine J.c (.mS (k := 1) m0) ?_; refine J.pS (cs' := [St (uX (bY 32 (eX (cS (⟨#[10]⟩)) r))), I (dY (pX (bY 32 (eX (cS (⟨#[10]⟩)) r)))), .raw wl, tH]) 1 kO .v ?_; refine J.c (.assign rfl) ?_; refine J.nil (U.seq (U.seq (U.text ?_))); refine J.c (.move rfl) (J.c (.not) (J.c (.move rfl) ?_)); refine J.cg (r := (!(BT (bY 32 (eX (cS (⟨#[10]⟩)) r))))) (w := false) [] trivial (fun _ => (.move rfl)) ?_; refine J.cg (r := (!(BT (bY 32 (eX (cS (⟨#[10]⟩)) r))))) (w := false) [(77, B (decide (0 <= Go.Lib.indexByte (aY r) (cS (⟨#[10]⟩)))))] ⟨rfl, trivial⟩ (fun _ => (.not)) ?_; refine J.c (.or) (J.go ?_); refine U.fN rfl (fun oB => ?_) (fun oB => ?_)
      . try simp only [Bool.and_eq_true, Bool.or_eq_true, Bool.and_eq_false_iff, Bool.or_eq_false_iff, Bool.not_eq_true', Bool.not_eq_false', decide_eq_true_eq, decide_eq_false_iff_not] at oB
        have TM : mG s = (none, i) := by
          rw [tM cA, hp]; by_cases hi : 0 <= Go.Lib.indexByte (aY r) 10
          . refine FJ hi (S9 ?_)
            first | (rw [HG AK]; exact oB.resolve_right (fun h => h hi)) | exact absurd hi oB | (rw [w6 lC, decide_eq_false (show ¬ eX 10 r = gD from vS), Bool.false_or]; exact oB.resolve_right (fun h => h hi))
          exact BP c7 hi
        have hn := qZ (f := aS) TM; refine U.seq (U.text ?_); refine J.c (.build (ByteArray.empty, 0, [], []) uE) (J.c (.move rfl) ?_); refine J.perm jD ?_; refine J.lJ (cs' := [St ByteArray.empty, I 0, .v eZ [], .v cW []]) dT .v ?_; refine J.c (.assign rfl) (J.c (.assign rfl) (J.go ?_)); refine U.ret ?_; exact aW.three rfl (.cell (x := (ByteArray.empty, 0, [], [])) rfl m0 dT .refl) b6 b6 (eS (by exact hn.1.symm)) (dM (by exact hn.2.1.symm)) (dM (by exact hn.2.2.symm))
      try simp only [Bool.and_eq_true, Bool.or_eq_true, Bool.and_eq_false_iff, Bool.or_eq_false_iff, Bool.not_eq_true', Bool.not_eq_false', decide_eq_true_eq, decide_eq_false_iff_not] at oB
      have aZ : DU b (eX 10 r) = true := by
        first | (rw [HG AK]; exact oB.1) | (rw [w6 lC, decide_eq_true (show eX 10 r = gD from vS)]; rfl) | (rw [w6 lC, decide_eq_false (show ¬ eX 10 r = gD from vS), Bool.false_or]; exact oB.1)
      have hw : 0 <= Go.Lib.indexByte (aY r) 10 := by first | exact oB.2 | exact oB
      have hcr := BL (s := r) (c := 10) hw; refine U.skip (U.seq (U.text ?_)); refine J.c (.move rfl) (J.c (.add rfl rfl (by omega)) (J.c (.assign rfl) (J.go ?_))); refine U.perm jD ?_; refine U.perm jT ?_; refine U.perm jD ?_; refine U.perm jD ?_; refine U.aV [(2, .raw eT), (6, .raw pA), (7, .raw wt), (8, I (((i : Nat) : Int) + (1 : Int))), (10, St (o8 (cS (⟨#[10]⟩)) r))] ⟨rfl, rfl, rfl, rfl, rfl, trivial⟩ ?_; refine U.text ?_; refine J.c (.move rfl) (J.c (.assign rfl) ?_); refine J.nil ?_; refine ⟨_, [(0, St (o8 10 r)), (2, .raw eT), (6, .raw pA), (7, .raw wt), (8, I (((i + 1) : Nat) : Int))], ?_, ⟨xA rfl (by first | rfl | simp | omega), rfl, rfl, rfl, rfl, trivial⟩, (o8 10 r), (tL b (eX 10 r)), (i + 1), wt, wl, rfl, rfl, (by first | (rw [FP AK]; rfl) | (rw [FQ lC (show eX 10 r = gD from vS)]; simp only [List.map_append, List.map_cons, List.map_nil, aaE] <;> rfl) | (rw [FR lC (show ¬ eX 10 r = gD from vS)]; simp only [List.map_append, List.map_cons, List.map_nil] <;> rfl)), (by omega), (by exact SA hI aZ), (by exact hp.trans (BQ hw (DV aZ)))⟩; omega
    have lC : b.1.isSome = true := by rw [hI.hd]; exact decide_eq_true (by omega)
    refine U.seq (U.text ?_); refine J.c (.move rfl) (J.c (.L6) (J.c (.assign rfl) (J.go ?_))); refine U.b8 rfl (fun vS => ?_) (fun vS => ?_)
    . refine U.seq (U.text ?_); refine J.c (.mS (k := 2) m2) ?_; refine J.r (.tR (k := 2) m2 j0) ?_; refine J.new (.lit [(0 : Nat)] eU) ?_; refine J.perm jT ?_; refine J.app rfl rfl eU eU (by simp only [List.length_map, List.length_singleton]; omega) ?_; intro DC; refine J.c (.mS (k := 2) m2) ?_; refine J.perm lY ?_; refine J.one m1 fun ho4 => ?_; refine J.pS (cs' := [St ((qY b).1), I ((qY b).2), .raw DC, tH]) 2 j0 (.raw rfl (vQ ho4) ho4) ?_; refine J.go (U.text ?_); refine J.c (.move rfl) ?_; refine J.new (.lit [false] j3) ?_; refine J.perm lY ?_; refine J.app rfl rfl j3 j3 (by simp only [List.length_singleton]; omega) ?_; intro WQ; refine J.c (.assign rfl) ?_; refine J.nil (U.seq (U.seq (U.text ?_))); refine J.c (.move rfl) (J.c (.not) (J.c (.move rfl) (J.c (.move rfl) ?_))); refine J.c (.not) (J.c (.dK rfl rfl) (J.go ?_)); refine U.fN rfl (fun oB => ?_) (fun oB => ?_)
      . try simp only [Bool.and_eq_true, Bool.or_eq_true, Bool.and_eq_false_iff, Bool.or_eq_false_iff, Bool.not_eq_true', Bool.not_eq_false', decide_eq_true_eq, decide_eq_false_iff_not] at oB
        have TM : mG s = (none, i) := by
          rw [tM cA, hp]; by_cases hi : 0 <= Go.Lib.indexByte (aY r) 10
          . refine FJ hi (S9 ?_)
            first | (rw [HG AK]; exact oB.resolve_right (fun h => h hi)) | exact absurd hi oB | (rw [w6 lC, decide_eq_false (show ¬ eX 10 r = gD from vS), Bool.false_or]; exact oB.resolve_right (fun h => h hi))
          exact BP c7 hi
        have hn := qZ (f := aS) TM; refine U.seq ?_; refine U.aV [(2, .raw eT), (6, .raw pA), (7, .raw WQ), (8, I ((i : Nat) : Int)), (10, St (o8 (cS (⟨#[10]⟩)) r))] ⟨rfl, rfl, rfl, rfl, rfl, trivial⟩ ?_; refine U.text ?_; refine J.c (.build (ByteArray.empty, 0, [], []) uE) (J.c (.move rfl) ?_); refine J.perm jD ?_; refine J.lJ (cs' := [St ByteArray.empty, I 0, .v eZ [], .v cW []]) dT .v ?_; refine J.c (.assign rfl) (J.c (.assign rfl) (J.go ?_)); refine U.ret ?_; exact aW.three rfl (.cell (x := (ByteArray.empty, 0, [], [])) rfl m0 dT .refl) b6 b6 (eS (by exact hn.1.symm)) (dM (by exact hn.2.1.symm)) (dM (by exact hn.2.2.symm))
      try simp only [Bool.and_eq_true, Bool.or_eq_true, Bool.and_eq_false_iff, Bool.or_eq_false_iff, Bool.not_eq_true', Bool.not_eq_false', decide_eq_true_eq, decide_eq_false_iff_not] at oB
      have aZ : DU b (eX 10 r) = true := by
        first | (rw [HG AK]; exact oB.1) | (rw [w6 lC, decide_eq_true (show eX 10 r = gD from vS)]; rfl) | (rw [w6 lC, decide_eq_false (show ¬ eX 10 r = gD from vS), Bool.false_or]; exact oB.1)
      have hw : 0 <= Go.Lib.indexByte (aY r) 10 := by first | exact oB.2 | exact oB
      have hcr := BL (s := r) (c := 10) hw; refine U.skip (U.seq ?_); refine U.aV [(2, .raw eT), (6, .raw pA), (7, .raw WQ), (8, I ((i : Nat) : Int)), (10, St (o8 (cS (⟨#[10]⟩)) r))] ⟨rfl, rfl, rfl, rfl, rfl, trivial⟩ ?_; refine U.text ?_; refine J.c (.move rfl) (J.c (.add rfl rfl (by omega)) (J.c (.assign rfl) (J.go ?_))); refine U.perm jD ?_; refine U.perm lY ?_; refine U.perm jD ?_; refine U.perm jD ?_; refine U.text ?_; refine J.c (.move rfl) (J.c (.assign rfl) ?_); refine J.nil ?_; refine ⟨_, [(0, St (o8 10 r)), (2, .raw eT), (6, .raw pA), (7, .raw WQ), (8, I (((i + 1) : Nat) : Int))], ?_, ⟨xA rfl (by first | rfl | simp | omega), rfl, rfl, rfl, rfl, trivial⟩, (o8 10 r), (tL b (eX 10 r)), (i + 1), WQ, DC, rfl, rfl, (by first | (rw [FP AK]; rfl) | (rw [FQ lC (show eX 10 r = gD from vS)]; simp only [List.map_append, List.map_cons, List.map_nil, aaE] <;> rfl) | (rw [FR lC (show ¬ eX 10 r = gD from vS)]; simp only [List.map_append, List.map_cons, List.map_nil] <;> rfl)), (by omega), (by exact SA hI aZ), (by exact hp.trans (BQ hw (DV aZ)))⟩; omega
    refine U.seq (U.text ?_); refine J.c (.assign rfl) ?_; refine J.go (U.seq (U.text ?_)); refine J.c (.move rfl) ?_; refine J.call rfl rfl (VF.call (WM (show (eX 10 r).size <= 1000000000 by omega))) ?_; refine J.c (.move rfl) (J.c (.extract) (J.c (.extract) (J.c (.assign rfl) ?_))); refine J.c (.assign rfl) ?_; refine J.go (U.seq (U.text ?_)); refine J.c (.mS (k := 2) m2) ?_; refine J.r (.tR (k := 2) m2 j0) ?_; refine J.c (.move rfl) (J.c (.amH .f32) (J.c (.RJ (alH (ahU (dY (eX 10 r))))) ?_)); refine J.new (.lit [lZ (dY (eX 10 r))] eU) ?_; refine J.perm jT ?_; refine J.app rfl rfl eU eU (by simp only [List.length_map, List.length_singleton]; omega) ?_; intro O6; refine J.c (.mS (k := 2) m2) ?_; refine J.perm lY ?_; refine J.one m1 fun ho7 => ?_; refine J.pS (cs' := [St ((qY b).1), I ((qY b).2), .raw O6, tH]) 2 j0 (.raw rfl (vQ ho7) ho7) ?_; refine J.go ?_; refine U.aV [(2, .raw eT), (6, .raw pA), (7, .raw wt), (8, I ((i : Nat) : Int)), (10, St (o8 (cS (⟨#[10]⟩)) r)), (11, B (decide (0 <= Go.Lib.indexByte (aY r) (cS (⟨#[10]⟩))))), (12, B (fV (eX (cS (⟨#[10]⟩)) r)))] ⟨rfl, rfl, rfl, rfl, rfl, rfl, rfl, trivial⟩ ?_; refine U.text ?_; refine J.c (.move rfl) ?_; refine J.new (.lit [true] j3) ?_; refine J.perm lY ?_; refine J.app rfl rfl j3 j3 (by simp only [List.length_singleton]; omega) ?_; intro ww8; refine J.c (.assign rfl) ?_; refine J.nil (U.seq (U.seq (U.text ?_))); refine J.c (.move rfl) (J.c (.not) (J.c (.move rfl) ?_)); refine J.cg (r := (!(fV (eX (cS (⟨#[10]⟩)) r)))) (w := false) [] trivial (fun _ => (.move rfl)) ?_; refine J.cg (r := (!(fV (eX (cS (⟨#[10]⟩)) r)))) (w := false) [(77, B (decide (0 <= Go.Lib.indexByte (aY r) (cS (⟨#[10]⟩)))))] ⟨rfl, trivial⟩ (fun _ => (.not)) ?_; refine J.c (.or) (J.go ?_); refine U.fN rfl (fun oB => ?_) (fun oB => ?_)
    . try simp only [Bool.and_eq_true, Bool.or_eq_true, Bool.and_eq_false_iff, Bool.or_eq_false_iff, Bool.not_eq_true', Bool.not_eq_false', decide_eq_true_eq, decide_eq_false_iff_not] at oB
      have TM : mG s = (none, i) := by
        rw [tM cA, hp]; by_cases hi : 0 <= Go.Lib.indexByte (aY r) 10
        . refine FJ hi (S9 ?_)
          first | (rw [HG AK]; exact oB.resolve_right (fun h => h hi)) | exact absurd hi oB | (rw [w6 lC, decide_eq_false (show ¬ eX 10 r = gD from vS), Bool.false_or]; exact oB.resolve_right (fun h => h hi))
        exact BP c7 hi
      have hn := qZ (f := aS) TM; refine U.seq (U.text ?_); refine J.c (.build (ByteArray.empty, 0, [], []) uE) (J.c (.move rfl) ?_); refine J.perm jD ?_; refine J.lJ (cs' := [St ByteArray.empty, I 0, .v eZ [], .v cW []]) dT .v ?_; refine J.c (.assign rfl) (J.c (.assign rfl) (J.go ?_)); refine U.ret ?_; exact aW.three rfl (.cell (x := (ByteArray.empty, 0, [], [])) rfl m0 dT .refl) b6 b6 (eS (by exact hn.1.symm)) (dM (by exact hn.2.1.symm)) (dM (by exact hn.2.2.symm))
    try simp only [Bool.and_eq_true, Bool.or_eq_true, Bool.and_eq_false_iff, Bool.or_eq_false_iff, Bool.not_eq_true', Bool.not_eq_false', decide_eq_true_eq, decide_eq_false_iff_not] at oB
    have aZ : DU b (eX 10 r) = true := by
      first | (rw [HG AK]; exact oB.1) | (rw [w6 lC, decide_eq_true (show eX 10 r = gD from vS)]; rfl) | (rw [w6 lC, decide_eq_false (show ¬ eX 10 r = gD from vS), Bool.false_or]; exact oB.1)
    have hw : 0 <= Go.Lib.indexByte (aY r) 10 := by first | exact oB.2 | exact oB
    have hcr := BL (s := r) (c := 10) hw; refine U.skip (U.seq (U.text ?_)); refine J.c (.move rfl) (J.c (.add rfl rfl (by omega)) (J.c (.assign rfl) (J.go ?_))); refine U.perm jD ?_; refine U.perm lY ?_; refine U.perm jD ?_; refine U.perm jD ?_; refine U.text ?_; refine J.c (.move rfl) (J.c (.assign rfl) ?_); refine J.nil ?_; refine ⟨_, [(0, St (o8 10 r)), (2, .raw eT), (6, .raw pA), (7, .raw ww8), (8, I (((i + 1) : Nat) : Int))], ?_, ⟨xA rfl (by first | rfl | simp | omega), rfl, rfl, rfl, rfl, trivial⟩, (o8 10 r), (tL b (eX 10 r)), (i + 1), ww8, O6, rfl, rfl, (by first | (rw [FP AK]; rfl) | (rw [FQ lC (show eX 10 r = gD from vS)]; simp only [List.map_append, List.map_cons, List.map_nil, aaE] <;> rfl) | (rw [FR lC (show ¬ eX 10 r = gD from vS)]; simp only [List.map_append, List.map_cons, List.map_nil] <;> rfl)), (by omega), (by exact SA hI aZ), (by exact hp.trans (BQ hw (DV aZ)))⟩; omega
  have hr0 : r = ByteArray.empty := Classical.not_not.1 c7
  have hpp : mG s = (some b, i) := by rw [tM cA, hp, hr0]; exact adY
  have hln := hI.ln; have wR := hI.nm
  have qJ : (b.2.2.map lZ).length < 1000000 := by rw [List.length_map]; omega
  have iR : b.2.1.length = (b.2.2.map lZ).length := by rw [List.length_map]; omega
  refine U.exit (U.seq (U.seq ?_)); refine U.perm lY ?_; refine U.perm lY ?_; refine U.L8 [(wl, .row 68 (.bJ .f32) (b.2.2.map lZ)), (pA, .var [St ((qY b).1), I ((qY b).2), .raw wl, tH])] [(6, .p jP (((qY b).1), ((qY b).2), (b.2.2.map lZ), []))] rfl (.cons rfl (.var m1 (.cons .same (.cons .same (.cons (.row m0) (.cons .nil .nil))))) .nil) ?_; refine U.text ?_; refine J.r (.ld dT) ?_; refine J.call rfl rfl (VF.call (DB qJ (show 0 < 1000000 by decide))) ?_; refine J.c (.assign rfl) ?_; refine J.go (U.seq (U.text ?_)); refine J.c (.move rfl) (J.c (.neq) (J.go ?_)); refine U.b8 rfl (fun c24 => ?_) (fun c24 => ?_)
  . have hn := BU (f := aS) hpp c24; refine U.seq (U.text ?_); refine J.c (.build (ByteArray.empty, 0, [], []) uE) (J.c (.move rfl) (J.c (.move rfl) ?_)); refine J.perm jT ?_; refine J.lJ (cs' := [St ByteArray.empty, I 0, .v eZ [], .v cW []]) dT .v ?_; refine J.c (.assign rfl) (J.c (.assign rfl) (J.go ?_)); refine U.ret ?_; exact aW.three rfl (.cell (x := (ByteArray.empty, 0, [], [])) rfl m0 dT .refl) b6 b6 (eS (by exact hn.1.symm)) (dM (by exact hn.2.1.symm)) (dM (by exact hn.2.2.symm))
  have hn := A5 (f := aS) hpp (Classical.not_not.1 c24); have hv := (fF (Classical.not_not.1 c24)).2.2.2.1; refine U.skip (U.seq (U.text ?_)); refine J.r (.ld dT) ?_; refine J.c (.move rfl) ?_; refine J.shut [(7, .v (.sl .bool) b.2.1), (93, .v (.sl .bool) b.2.1)] (.cons rfl (.row m0) (.cons rfl (.row m0) .nil)) ?_; refine J.call rfl rfl (VF.call (RY qJ iR hv)) ?_; refine J.lJ (cs' := [St ((qY b).1), I ((qY b).2), .v eZ (gL (((qY b).1), ((qY b).2), (b.2.2.map lZ), []) b.2.1 aS b.2.1.length), .v cW (eC b.2.1 b.2.1.length)]) dT .v ?_; refine J.c (.assign rfl) (J.c (.assign rfl) (J.go ?_)); refine U.ret ?_; exact aW.three rfl (.cell (x := (((qY b).1), ((qY b).2), gL (((qY b).1), ((qY b).2), (b.2.2.map lZ), []) b.2.1 aS b.2.1.length, eC b.2.1 b.2.1.length)) rfl m0 dT .refl) b6 b6 (eS (by exact hn.1.symm)) (dM (by exact hn.2.1.symm)) (dM (by exact hn.2.2.symm))
end Go.Proofs
namespace Go.Fs
variable {P : Program} {orc : FuncId -> List Value -> Heap -> Option (Value × Heap)} {aR : Option Nat} {h h0 : Heap} {S0 G : List Nat} {σ j8 γ : aM} {t : Tr} {ms : List Nat} {fl : VL} {n : Nat} {Q : Ex -> VL -> aM -> Prop} {w : Value} {cs cs' : List PV}
end Go.Fs
namespace Go.Proofs
open Go.Fs Ieee
set_option maxHeartbeats 4000000
theorem alL : M7 gD = false /\ O5 gD = 0 := by decide +kernel
end Go.Proofs
namespace Go.Proofs
open Go.Fs Ieee
set_option maxHeartbeats 4000000
theorem r3 {r : bS} (h : bT r = 0) : 0 < r.1.size /\ r.1.size <= 24 := by
  unfold bT at h; split at h
  . rename_i h1; exact absurd h h1
  rename_i h1; have h1 := eO.1 (Classical.not_not.1 h1) (cL (!kI r.1) 8) (by simp); rw [mX (by decide)] at h1
  have h2 : kI r.1 = true := by simpa using h1
  have h3 := of_decide_eq_true h2; omega
def lO (r : bS) : ByteArray := mZ 32 [lA, r.1, eK r.2.1]
def tN (r : bS) (i : Nat) : ByteArray := if Sp.gK r.2.2.2 (i : Int) = true then gD else eK (qV (r.2.2.1.getD i 0))
def oC (r : bS) (k : Nat) : List ByteArray := (List.range k).map (tN r)
def qD (r : bS) (k : Nat) : ByteArray := j5 (lO r :: oC r k)
def cH (r : bS) : ByteArray := qD r r.2.2.1.length
theorem aaF {a d : ByteArray} : (((⟨#[103, 97, 117, 103, 101, 32]⟩ ++ a) ++ ⟨#[32]⟩) ++ d) ++ ⟨#[10]⟩ = mZ 32 [lA, a, d] ++ xR := by
  rw [show [lA, a, d] = ([lA] ++ [a]) ++ [d] from rfl, HD (by simp), HD (by simp), aaD]; apply vY; simp only [hJ, List.append_assoc]; rfl
theorem abP {r : bS} : qD r 0 = lO r ++ xR := ByteArray.append_empty
theorem IJ {r : bS} {i : Nat} : qD r (i + 1) = qD r i ++ (tN r i ++ xR) := by
  unfold qD oC; rw [List.range_succ, List.map_append, <- List.cons_append, FM, List.map_cons, List.map_nil, PO]
theorem abQ {r : bS} (hr : bT r = 0) {i : Nat} (h : i < r.2.2.1.length) : (tN r i).size <= 20 := by
  have hx := (fF hr).2.2.2.1 _ (List.getElem_mem h); obtain ⟨_, h0, h1⟩ := mF hx; unfold tN; split
  . exact Nat.le_of_ble_eq_true rfl
  rw [dP h]; exact ahP (by omega)
theorem WR {r : bS} (hr : bT r = 0) : (lO r).size <= 60 := by
  have hn := r3 hr; have h0 := (fF hr).1; have hd := xE (n := r.2.1) (by omega); have e := congrArg ByteArray.size (aaF (a := r.1) (d := eK r.2.1)); rw [ByteArray.size_append, ByteArray.size_append, ByteArray.size_append, ByteArray.size_append, ByteArray.size_append] at e; have z1 : (⟨#[103, 97, 117, 103, 101, 32]⟩ : ByteArray).size = 6 := rfl; have z2 : (⟨#[32]⟩ : ByteArray).size = 1 := rfl; have z3 : (⟨#[10]⟩ : ByteArray).size = 1 := rfl; have z4 : xR.size = 1 := rfl; unfold lO; omega
theorem MD {r : bS} (hr : bT r = 0) {k : Nat} (h : k <= r.2.2.1.length) : (qD r k).size <= 61 + 61 * r.2.2.1.length := by
  have h1 := O4 (m := 60) (l := lO r :: oC r k) fun x hx => by
    rcases List.mem_cons.1 hx with rfl | hx
    . exact WR hr
    obtain ⟨i, hi, rfl⟩ := List.mem_map.1 hx; have := abQ hr (Nat.lt_of_lt_of_le (List.mem_range.1 hi) h); omega
  unfold qD
  have e : (lO r :: oC r k).length = k + 1 := by simp [oC]
  rw [e] at h1; have h2 : 61 * k <= 61 * r.2.2.1.length := Nat.mul_le_mul_left _ h; omega
end Go.Proofs
namespace Go.Fs
variable {P : Program} {orc : FuncId -> List Value -> Heap -> Option (Value × Heap)} {aR : Option Nat} {h h' h0 h1 h2 hs : Heap} {S S' S0 B G : List Nat} {σ σ' j8 γ : aM} {t t' : Tr} {ms : List Nat} {fl : VL} {ops : Array Oper} {n i mem : Nat} {l : List Oper} {K : VL -> aM -> Prop} {Q : Ex -> VL -> aM -> Prop}
  {d : Tmp} {ty : TypeId} {pos : String} {after : Array Edge} {op : Op} {v : PV} {g : Option (Nat × Bool)} {bs nw : List Nat} {segs : List (Nat × Nat × Nat)} {tail so : Bool}
theorem ME {b : Nat} {o : Oper} {t2 : Tr} (hb : aJ bs o = b) (aZ : nY h) (hB : cK (entry h) h' B) : ∃ h2 iE, jI o i ⟨t, h, bs, segs, mem, tail⟩ t2 h' = ⟨t2, h2, bs ++ [b], (i, h.next, h'.next) :: segs, mem ||| 2 ^ i, iE⟩ /\ (∀ b, h2.get b = h'.get b) /\ h2.next = h'.next /\ cK h h2 B /\ (iE = false -> eN h h2 /\ tail = false) := by
  have fH := hB.next; unfold jI; simp only [hb]
  cases dN : Nat.ble h.next h'.low with
  | true =>
    have hl := eP dN
    have gA : ∀ b, b < h.next -> h'.get b = h.get b := fun b hb => by
      rcases hB.chg b hb with h3 | h3
      . exact h3
      omega
    have fK : ∀ b, look (bE h.next h'.next h'.aB ++ h.aB) b = h'.get b := fun b => by
      rw [iB]; by_cases hb : b < h.next
      . cases iR : look (bE h.next h'.next h'.aB) b with
        | some o => have := (dS _ _ _ iR).1; omega
        | none => exact (gA b hb).symm
      have hold : look h.aB b = none := by
        cases iR : look h.aB b with
        | none => rfl
        | some o => exact absurd (aZ b o iR) hb
      rw [hold, Option.or_none]
      cases iR : look h'.aB b with
      | some o =>
        have : b < h'.next := hB.ok aZ b o iR; rw [zP _ _ (by omega) this, iR]
        exact iR.symm
      | none =>
        cases hl3 : look (bE h.next h'.next h'.aB) b with
        | none => exact iR.symm
        | some o => rw [(dS _ _ _ hl3).2] at iR; cases iR
    refine ⟨_, _, rfl, fK, rfl, ⟨fH, fun b hb hn => (fK b).trans (hB.get b hb hn), fun _ b o hg => ?_, fun e h3 _ _ => h3, fun b hb => .inl ((fK b).trans (gA b hb)), Nat.le_refl _⟩, fun ht => ⟨⟨fH, fun b hb => (fK b).trans (gA b hb), fun _ b o hg => ?_, fun e h3 _ => h3⟩, ht⟩⟩
    . exact hB.ok aZ b o ((fK b).symm.trans hg)
    exact hB.ok aZ b o ((fK b).symm.trans hg)
  | false =>
    refine ⟨_, _, rfl, fun _ => rfl, rfl, ⟨fH, hB.get, fun _ => hB.ok aZ, fun e h3 h4 h5 => Nat.le_min.2 ⟨h3, hB.low e h4 h4 h5⟩, fun b hb => ?_, Nat.min_le_left _ _⟩, fun e => by cases e⟩; rcases hB.chg b hb with h3 | h3
    . exact .inl h3
    exact .inr (Nat.le_trans (Nat.min_le_right _ _) h3)
theorem VD.SC {b : Nat} {f : Operand} {args : Array Operand} {lR : Array TypeId} {F : PV} {q9 : List PV} {Qr : PV -> aM -> Prop} (γ : aM) (L3 : γ ++ σ = j8) (hf : aQ fl f = some F) (ha : lG fl args.toList = some q9) (hc : D4 P orc F q9 γ Qr) (hk : ∀ r nE iE, Qr r nE -> VD P orc ops n l (i + 1) ((d, r) :: fl) (fG false d nw) (nE ++ σ) false (bs ++ [b]) (mem ||| 2 ^ i) iE K)
    (hb : aJ bs ⟨some d, .call { callee := .value f, args := args, argTypes := lR }, ty, pos, after, g⟩ = b := by rfl) (fU : Nat.beq (mem &&& b) mem = true := by rfl) (hw : cV ops fl g = some true := by rfl) (hn : (Nat.blt d n && Nat.ble n 4000) = true := by rfl) :
    VD P orc ops n (⟨some d, .call { callee := .value f, args := args, argTypes := lR }, ty, pos, after, g⟩ :: l) i fl nw j8 so bs mem tail K := fun h0 G S0 t h ms segs I ho => by
  subst L3; obtain ⟨n1, n2⟩ := fits hn; obtain ⟨M, m1, m2, m3, m4, m5, m6, m7⟩ := vL (mem := mem) I hb ho; obtain rfl := m6 fU; have L := I.lc.aB (h' := entry h) (fun _ => rfl) rfl; have p8 := L.apart; rw [cQ] at p8; obtain ⟨KT, GI, u9⟩ := List.nodup_append.1 p8; obtain ⟨NT, a, c, rfl, hv⟩ := hc; obtain ⟨va, vc, h1, h2, h3⟩ := (cR L.aH hf : aI (entry h) _ (.mR NT a c) (aA t f)); have lW := (h2.append (rF L.aH ha)).append h3; rw [cQ, List.append_assoc] at lW
  have dB : ∀ c ∈ γ, bL (entry h) (own γ ++ (own σ ++ S0)) c.1 c.2 := fun c hc => by
    have := L.cells c (List.mem_append_left _ hc)
    rwa [cQ, List.append_assoc] at this
  refine tQ.call (o := ⟨some d, .call { callee := .value f, args := args, argTypes := lR }, ty, pos, after, g⟩) (cE I.aH hw) rfl rfl h1 (by simp only [hb, fU]; simp) ?_; rw [m1]; refine (hv (entry h) (own σ ++ S0) _ m2 L.amE dB KT (fun b hb hm => ?_) lW).mono fun u h' hq => ?_
  . rcases List.mem_append.1 hm with hm | hm
    . exact u9 b hb b hm rfl
    exact L.sep b (by rw [cQ]; exact List.mem_append_left _ hb) hm
  obtain ⟨r, nE, q1, q2, q3⟩ := hq; have e2 := Made.app L q2; have fH : h.next <= h'.next := e2.lH.next; refine ⟨l5 fH, by simp only [hb, fU, Bool.or_true], _, bN n1 t u, ?_⟩; obtain ⟨wT, iE, f1, f2, f3, f4, f5⟩ := ME (i := i) (segs := segs) (mem := mem) (tail := tail) (t := t) (t2 := t.set depth d u) (o := ⟨some d, .call { callee := .value f, args := args, argTypes := lR }, ty, pos, after, g⟩) hb I.ok e2.lH; rw [f1]
  have q3' : aI wT (own (nE ++ σ) ++ S0) r u := by
    rw [cQ, List.append_assoc]; exact q3.nx (dC.aB f2)
  refine hk r nE iE q1 h0 G S0 _ _ ms _ ((I.made (tE e2 f2 f4)).set q3' n2) fun ht => ?_; obtain ⟨f6, f7⟩ := f5 ht
  obtain ⟨D0, a1, a2, a3, a4, a5, a6⟩ := (ho f7).set (v := r) (u := u) (old := false) n2 fun e => by cases e
  refine ⟨D0, a1, a2.trans f6, mC.cons a2.next a3, a4, fun k pv hk hn => (a5 k pv hk hn).nx (h := D0) fun b ob hg hb => ⟨hg, ?_⟩, fun e => by cases e⟩; have h3 := a1 b ob hg; have h4 := a2.next; intro mT; rcases List.mem_append.1 mT with mT | mT
  . rcases e2.new b mT with h5 | h5
    . exact hb (List.mem_append_left _ h5)
    have : (entry h).next = h.next := rfl; omega
  exact hb (List.mem_append_right _ mT)
end Go.Fs
namespace Go.Proofs
open Go.Fs Ieee
set_option maxHeartbeats 4000000
def HH (r : bS) : ByteArray := if bT r = 0 then cH r else ByteArray.empty
theorem MF {r : bS} : (gS r).length = r.2.2.1.length := gC
theorem PT {r : bS} {i : Nat} (h : i < (gS r).length) : (gS r)[i] = !Sp.gK r.2.2.2 (i : Int) := rM (by rw [MF] at h; exact h)
theorem MG {r : bS} (hl : r.2.2.1.length < 1000000) (hg : r.2.2.2.length < 1000000) : VF Tryz.prog OA 15 [.v jP r] (.nD [St (HH r), I (bT r)]) := by
  refine VF.enter Tryz.func15 rfl (fun _ _ => rfl) rfl ?_; show U _ _ _ _ _ [(0, .v jP r)] [] _; refine U.seq (U.text ?_); refine J.new (.box) ?_; refine J.c (.assign rfl) (J.c (.assign rfl) ?_); refine J.go (U.seq (U.seq (U.text ?_))); refine J.r (.ld dT) ?_; refine J.call rfl rfl (VF.call (DB hl hg)) ?_; refine J.c (.assign rfl) ?_; refine J.go (U.seq (U.text ?_)); refine J.c (.move rfl) (J.c (.neq) (J.go ?_)); refine U.b8 rfl (fun c2 => ?_) (fun c2 => ?_)
  . refine U.seq (U.text ?_); refine J.c (.move rfl) (J.c (.assign rfl) (J.c (.assign rfl) (J.go ?_))); refine U.ret ?_; rw [show HH r = ByteArray.empty from if_neg c2]; exact ⟨rfl, [St ByteArray.empty, I (bT r)], .cons b6 (.cons b6 .nil), rfl⟩
  have hr : bT r = 0 := Classical.not_not.1 c2; obtain ⟨hs, iR, CQ, hv, nL⟩ := fF hr; have hn := r3 hr; have hd := xE (n := r.2.1) (by omega); have z1 : (⟨#[103, 97, 117, 103, 101, 32]⟩ : ByteArray).size = 6 := rfl; have z2 : (⟨#[32]⟩ : ByteArray).size = 1 := rfl; have z3 : (⟨#[10]⟩ : ByteArray).size = 1 := rfl; have z4 : xR.size = 1 := rfl; have z0 : ByteArray.empty.size = 0 := rfl; have hhd := WR hr; have mI := MF (r := r); refine U.skip (U.seq (U.text ?_)); refine J.mk (bO.al8 (by kernel_rfl)) ?_; rintro _ _ ⟨b, rfl, rfl⟩; refine J.go (U.seq ?_); refine U.cell0 5 (.int .u8) ?_; refine U.perm jT ?_; refine U.drawn ?_; refine VD.c (.fa (.l .o)) ?_; refine VD.r [] (.ld BG) (.inl rfl) ?_; refine VD.c (.OW (p := ⟨#[103, 97, 117, 103, 101, 32]⟩) (q := r.1) (by omega)) (VD.c (.OW (p := (⟨#[103, 97, 117, 103, 101, 32]⟩ ++ r.1)) (q := ⟨#[32]⟩) (by simp only [ByteArray.size_append]; omega)) (VD.c (.fa (.r (.l .o))) ?_)); refine VD.r [] (.ld kO) (.inl rfl) ?_; refine VD.call rfl rfl (VF.call (PJ (by omega))) ?_; refine VD.c (.OW (p := ((⟨#[103, 97, 117, 103, 101, 32]⟩ ++ r.1) ++ ⟨#[32]⟩)) (q := eK r.2.1) (by simp only [ByteArray.size_append]; omega)) (VD.c (.OW (p := (((⟨#[103, 97, 117, 103, 101, 32]⟩ ++ r.1) ++ ⟨#[32]⟩) ++ eK r.2.1)) (q := ⟨#[10]⟩) (by simp only [ByteArray.size_append]; omega)) ?_); rw [show (((⟨#[103, 97, 117, 103, 101, 32]⟩ ++ r.1) ++ ⟨#[32]⟩) ++ eK r.2.1) ++ ⟨#[10]⟩ = qD r 0 from aaF.trans abP.symm]; refine VD.SC (σ := []) [(bW b, .fS 99 0 [.raw (.pointer none), .raw (.slice none 0 0)]), ((.slice none 0 0), .row 5 (.int .u8) (aP ByteArray.empty))] rfl rfl rfl (gZ.call (BK (acc := ByteArray.empty) (s := qD r 0) (by rw [abP, ByteArray.size_append]; omega) (.inl rfl) (fun _ => rfl))) ?_; rintro _ _ tl ⟨u1, rfl, rfl, hu1⟩; rw [ByteArray.empty_append] at hu1 ⊢; refine VD.go (U.seq (U.seq (U.text ?_))); refine J.r (.ld dT) ?_; refine J.call rfl rfl (VF.call (ZW iR hg nL)) ?_; refine J.r (.len j3) ?_; refine J.c (.move rfl) ?_; refine J.go (U.block ?_); refine U.aV [(1, .p jP r), (5, .raw (bP b)), (25, .v (.sl .bool) (gS r)), (26, I (((gS r).length : Nat) : Int)), (27, I ((0 : Nat) : Int))] ⟨rfl, rfl, rfl, rfl, rfl, trivial⟩ ?_; refine U.loop (I := fun kk ff ss => ∃ (i : Nat) (a u : Value), kk = (gS r).length - i /\ ff = [(1, .p jP r), (5, .raw (bP b)), (25, .v (.sl .bool) (gS r)), (26, I (((gS r).length : Nat) : Int)), (27, I ((i : Nat) : Int))] /\ ss = [(bW b, .fS 99 0 [.raw a, .raw u]), (u, .row 5 (.int .u8) (aP (qD r i)))] /\ i <= (gS r).length /\ (a = .pointer none \/ a = bP b) /\ ((qD r i).size = 0 -> u = .slice none 0 0)) ?_ _ _ _ ⟨0, bP b, u1, rfl, rfl, rfl, Nat.zero_le _, .inr rfl, hu1⟩; rintro kk ff ss ⟨i, a, u, oL, rfl, rfl, hi, ha, hu⟩; refine U.seq (U.text ?_); refine J.c (.lss) ?_; refine J.go (U.seq ?_); refine U.b8 rfl (fun c7 => ?_) (fun c7 => ?_)
  . have hit : i < (gS r).length := by omega
    have FB : i < r.2.2.1.length := by omega
    have hk := MD hr (k := i) (by omega); have hlz := abQ hr FB; have hta := PT hit; have hx := hv _ (List.getElem_mem FB); obtain ⟨_, hx0, LD⟩ := mF hx; refine U.skip (U.seq (U.block (U.seq (U.text ?_)))); refine J.c (.move rfl) (J.c (.ix (j := i) rfl rfl j3 hit) ?_); refine J.r (.ld RV) ?_; refine J.c (.assign rfl) (J.c (.assign rfl) (J.go ?_)); rw [hta]; refine U.seq (U.text ?_); refine J.c (.assign rfl) ?_; refine J.go (U.seq (U.seq (U.text ?_))); refine J.c (.move rfl) (J.go ?_); refine U.fN rfl (fun F8 => ?_) (fun F8 => ?_)
    . have nS : Sp.gK r.2.2.2 (i : Int) = false := by simpa using F8
      have hln : tN r i = eK (qV r.2.2.1[i]) := by unfold tN; rw [if_neg (by rw [nS]; decide), dP FB]
      refine U.text ?_; refine J.c (.fa (.r (.r (.l .o)))) ?_; refine J.r (.ld j0) ?_; refine J.c (.move rfl) (J.c (.ix (j := i) rfl rfl eU FB) ?_); refine J.r (.ld yU) ?_; refine J.call rfl rfl (VF.call (adA hx)) ?_; refine J.call rfl rfl (VF.call (PJ (by omega))) ?_; refine J.c (.assign rfl) ?_; refine J.nil ?_; show U _ _ _ _ _ _ _ _; rw [<- hln]; refine U.text ?_; refine J.c (.move rfl) (J.c (.OW (p := tN r i) (q := xR) (by omega)) ?_); refine J.qT [(bW b, .fS 99 0 [.raw a, .raw u]), (u, .row 5 (.int .u8) (aP (qD r i)))] rfl rfl rfl (gZ.call (BK (s := tN r i ++ xR) (by rw [ByteArray.size_append]; omega) ha hu)) ?_; rintro _ _ ⟨u2, rfl, rfl, YI⟩; rw [<- IJ] at YI; rw [<- IJ]; refine J.nil (U.text ?_); refine J.c (.add rfl rfl (by omega)) (J.c (.move rfl) ?_); refine J.nil ?_; refine ⟨_, [(1, .p jP r), (5, .raw (bP b)), (25, .v (.sl .bool) (gS r)), (26, I (((gS r).length : Nat) : Int)), (27, I (((i + 1) : Nat) : Int))], ?_, ⟨rfl, rfl, rfl, rfl, rfl, trivial⟩, (i + 1), bP b, u2, rfl, rfl, rfl, by omega, .inr rfl, YI⟩; omega
    have nS : Sp.gK r.2.2.2 (i : Int) = true := by simpa using F8
    have hln : tN r i = gD := if_pos nS; refine U.skip ?_; show U _ _ _ _ _ _ _ _; rw [show (⟨#[45]⟩ : ByteArray) = gD from rfl]; rw [<- hln]; refine U.text ?_; refine J.c (.move rfl) (J.c (.OW (p := tN r i) (q := xR) (by omega)) ?_); refine J.qT [(bW b, .fS 99 0 [.raw a, .raw u]), (u, .row 5 (.int .u8) (aP (qD r i)))] rfl rfl rfl (gZ.call (BK (s := tN r i ++ xR) (by rw [ByteArray.size_append]; omega) ha hu)) ?_; rintro _ _ ⟨u2, rfl, rfl, YI⟩; rw [<- IJ] at YI; rw [<- IJ]; refine J.nil (U.text ?_); refine J.c (.add rfl rfl (by omega)) (J.c (.move rfl) ?_); refine J.nil ?_; refine ⟨_, [(1, .p jP r), (5, .raw (bP b)), (25, .v (.sl .bool) (gS r)), (26, I (((gS r).length : Nat) : Int)), (27, I (((i + 1) : Nat) : Int))], ?_, ⟨rfl, rfl, rfl, rfl, rfl, trivial⟩, (i + 1), bP b, u2, rfl, rfl, rfl, by omega, .inr rfl, YI⟩; omega
  have hie : i = r.2.2.1.length := by omega
  refine U.exit ?_; show U _ _ _ _ _ _ _ _; have hk := MD hr (k := r.2.2.1.length) (Nat.le_refl _); rw [hie] at hu ⊢; rw [show HH r = qD r r.2.2.1.length from if_pos hr, hr]; refine U.seq (U.text ?_); refine J.qT [(bW b, .fS 99 0 [.raw a, .raw u]), (u, .row 5 (.int .u8) (aP (qD r r.2.2.1.length)))] rfl rfl rfl (gZ.call (ahM (by omega) hu)) ?_; rintro _ _ ⟨rfl, rfl⟩; refine J.c (.assign rfl) (J.c (.assign rfl) (J.go ?_)); refine U.ret ?_; exact ⟨rfl, [St (qD r r.2.2.1.length), I 0], .cons b6 (.cons b6 .nil), rfl⟩
end Go.Proofs
namespace Go.Proofs
open Go.Fs Ieee
set_option maxHeartbeats 2000000
theorem BW {b b' : n5} {x : ByteArray} (h : s8 b x = some b') : DU b x = true /\ b' = tL b x := by
  unfold s8 at h; split at h
  . rename_i hk; exact ⟨hk, (Option.some.inj h).symm⟩
  cases h
theorem WS : ∀ {ls : List ByteArray} {b b' : n5} {i : Nat}, GsI b i -> runT s8 b ls = some b' -> GsI b' (i + ls.length)
  | [], b, b', i, hI, h => by
    obtain rfl : b = b' := Option.some.inj h
    exact hI
  | x :: r, b, b', i, hI, h => by
    unfold runT at h
    cases hf : s8 b x with
    | none => rw [hf] at h; cases h
    | some b1 =>
      rw [hf] at h; obtain ⟨hk, rfl⟩ := BW hf; have := WS (SA hI hk) h; rw [List.length_cons, show i + (r.length + 1) = i + 1 + r.length by omega]; exact this
theorem MH {s : ByteArray} {b : n5} {i : Nat} (h : mG s = (some b, i)) : s ≠ ByteArray.empty /\ ∃ ls, bY 10 s = ls ++ [ByteArray.empty] /\ runT s8 zG ls = some b /\ i = ls.length := by
  have cA : s ≠ ByteArray.empty := fun e => by rw [e, abO] at h; injection h with h1 h2; cases h1
  rw [tM cA] at h; obtain ⟨ls, h1, h2, h3⟩ := M5 M3 h; exact ⟨cA, ls, h1, h2, by omega⟩
theorem WT {s : ByteArray} {b : n5} {i : Nat} (h : mG s = (some b, i)) : GsI b i := by
  obtain ⟨_, ls, _, h2, h3⟩ := MH h; have := WS ahR h2
  rwa [Nat.zero_add, <- h3] at this
theorem PU {f : Nat -> Nat} {s : ByteArray} : (iM f s).2.2.1.length < 1000000 /\ (iM f s).2.2.2.length < 1000000 := by
  cases hp : mG s with
  | mk o i =>
    cases o with
    | none => rw [(qZ (f := f) hp).1]; exact ⟨by decide, by decide⟩
    | some b =>
      by_cases hc : bT (oA b) = 0
      . rw [(A5 (f := f) hp hc).1]; have h1 := (fF hc).2.1; have h2 : (b.2.2.map lZ).length <= 4096 := h1; rw [List.length_map] at h2; have h3 := (WT hp).nm; have h4 := BI b.2.1 b.2.1.length; refine ⟨?_, ?_⟩
        . show (gL (oA b) b.2.1 f b.2.1.length).length < _; rw [jV]; show (b.2.2.map lZ).length < _; rw [List.length_map]; omega
        show (eC b.2.1 b.2.1.length).length < _; omega
      rw [(BU (f := f) hp hc).1]; exact ⟨by decide, by decide⟩
end Go.Proofs
