/- Parts of the proof: an evaluator of the model, what it is sound for, and contracts of functions. No condition. -/
import Derived.Test.YtcipcajbjggbkaaGreatDoorP5
import Derived.Test.YtcipcajbjggbkaaGreatDoorP3
import Derived.Lib.Bytealg
set_option linter.all false
namespace Go.Fs
variable {P : Program} {orc : FuncId → List Value → Heap → Option (Value × Heap)} {rnd : Option Nat} {h h' h0 h1 h2 : Heap} {S S' S0 S1 S2 B G : List Nat} {σ σ' σr γ : Sto} {t t' : Tr} {ms : List Nat} {fl : VL} {ops : Array Oper} {n i mem : Nat} {l : List Oper} {K : VL → Sto → Prop} {Q : Ex → VL → Sto → Prop}
  {d : Tmp} {ty : TypeId} {pos : String} {after : Array Edge} {op : Op} {v pv : PV} {g : Option (Nat × Bool)} {x y z : Operand} {T T' e e' e2 : TypeId} {τ τ' : Ty} {w w' a u : Value} {c c' : Cell} {b : Nat}
def bytesI (s : ByteArray) : List Int := s.data.toList.map fun c => ((c.toNat : Nat) : Int)
theorem bytesI_len (s : ByteArray) : (bytesI s).length = s.size := by
  show (s.data.toList.map _).length = s.data.size; simp
theorem bytesI_app (s r : ByteArray) : bytesI (s ++ r) = bytesI s ++ bytesI r := by
  unfold bytesI; rw [ByteArray.data_append, Array.toList_append, List.map_append]
def bytesV (s : ByteArray) : List Value := (bytesI s).map (.int .u8)
theorem bytesV_len (s : ByteArray) : (bytesV s).length = s.size := by rw [bytesV, List.length_map, bytesI_len]
theorem u8_elems {rs : List Value} {xs : List Int} (he : Elems h S (.int .u8) rs xs) : rs = xs.map (.int .u8) := by
  have h1 := he.1; simp only [Ty.size, Nat.mul_one] at h1; refine List.ext_getElem (by simpa using h1) fun i h2 h3 => ?_; rw [List.getElem_map]
  have hi : i < xs.length := by simpa using h3
  have h4 := he.2 i hi; have h4 : (rs.drop (i * 1)).take 1 = [.int .u8 xs[i]] := h4; rw [Nat.mul_one, List.drop_eq_getElem_cons h2] at h4; exact List.cons.inj h4 |>.1
theorem elems_u8 {xs : List Int} : Elems h S (.int .u8) (xs.map (.int .u8)) xs := ⟨by simp [Ty.size], fun i hi => by
  show ((xs.map (Value.int .u8)).drop (i * 1)).take 1 = [.int .u8 xs[i]]; rw [Nat.mul_one, List.drop_eq_getElem_cons (by simpa using hi)]
  simp⟩
theorem bytesC_map : ∀ l : List UInt8, bytesC (l.map fun c => Value.int .u8 ((c.toNat : Nat) : Int)) = some l
  | [] => rfl
  | c :: r => by
    show (bif Nat.blt c.toNat 256 then (bytesC _).map (UInt8.ofNat c.toNat :: ·) else none) = _
    have h1 : Nat.blt c.toNat 256 = true := by
      show Nat.ble (c.toNat + 1) 256 = true; rw [Nat.ble_eq]; exact c.toNat_lt
    rw [h1, bytesC_map r]; simp
theorem bytesC_V (s : ByteArray) : bytesC (bytesV s) = some s.data.toList := by
  rw [bytesV, bytesI, List.map_map]; exact bytesC_map _
abbrev bP (b : Nat) : Value := .pointer (some ⟨b, 0, none⟩)
abbrev bW (b : Nat) : Value := .slice (some ⟨b, 0, none⟩) 0 0
theorem bld_get (hc : CellR h S (bW b) (.cel T 0 [.raw a, .raw u])) : b ∈ S ∧ h.get b = some (.row T [a, u] true false) ∧ oneCell a = true ∧ oneCell u = true := by
  rcases hc with ⟨h1, _⟩ | ⟨b', rs, m, h1, h2, h3, h4, h5, h6⟩
  · cases h1
  have h1 : bW b = .slice (some ⟨b', 0, none⟩) 0 0 := h1
  have hb : b = b' := by injection h1 with h1; injection h1 with h1; injection h1
  subst hb; obtain rfl : rs = [a, u] := raws_eq (us := [a, u]) h4; obtain rfl := h6 rfl; simp at h5; exact ⟨h2, h3, h5.1, h5.2⟩
theorem bld_of (hb : b ∈ S) (hg : h.get b = some (.row T [a, u] true false)) (ha : oneCell a = true) (hu : oneCell u = true) : CellR h S (bW b) (.cel T 0 [.raw a, .raw u]) :=
  .inr ⟨b, [a, u], false, rfl, hb, hg, raws_rep (us := [a, u]), by simp [ha, hu], fun _ => rfl⟩
theorem MakeV.allocB (hz : (P.info? T).bind (·.zero) = some (.agg #[.pointer none, .slice none 0 0])) : MakeV P fl σ (.alloc T) fun v σ' => ∃ b, v = .raw (bP b) ∧ σ' = (bW b, .cel T 0 [.raw (.pointer none), .raw (.slice none 0 0)]) :: σ :=
  ⟨rfl, fun S0 h t L => by
    refine ⟨_, h.push (.row T [.pointer none, .slice none 0 0] true false), .raw (bP h.next), _, ⟨_, rfl, rfl⟩, Made.cons L (Aft.push h _ _) (fun b hb => by simp [blk] at hb; omega) (by simp [blk]) fun hN => ?_, rfl, fun _ _ _ _ _ => ?_⟩
    · exact bld_of (List.mem_append_left _ (by rw [own_cons]; simp [blk])) (by rw [Heap.get_push, if_pos rfl]) rfl rfl
    show (match (P.info? T).bind (·.zero) with | some z => if af z then fsBox T z h else none | none => none) = _; rw [hz]
    rfl⟩
theorem CalmV.nilP {p : Addr} (hx : evV fl x = some (.raw (.pointer (some p))) := by rfl) : CalmV P fl σ (.nilCheck x) (.raw (.pointer (some p))) :=
  ⟨rfl, fun h S t hs hc => by
    have h1 : evalO t x = .pointer (some p) := hs x (by simp [Op.operands]) _ hx; refine ⟨_, rfl, fun _ _ _ _ _ H => ?_⟩; show (match evalO t x with | .pointer (some a) => some (Value.pointer (some a), H) | .func (.func f) a b => some (.func (.func f) a b, H) | _ => none) = _
    rw [h1]⟩
theorem CalmV.faB {s : TypeId} {f k : Nat} (hm : (bW b, Cell.cel T 0 [.raw a, .raw u]) ∈ σ) (hb : offB P s f k = true := by kernel_rfl) (hx : evV fl x = some (.raw (bP b)) := by rfl) : CalmV P fl σ (.fieldAddr s x f) (.raw (padd (bP b) k)) :=
  ⟨rfl, fun h S t hs hc => by
    have h1 : evalO t x = bP b := hs x (by simp [Op.operands]) _ hx; obtain ⟨_, h5, _⟩ := bld_get (hc _ hm); have hB : BoxR h 0 (bP b) [a, u] := ⟨b, T, rfl, Nat.zero_le _, h5⟩; refine ⟨_, rfl, fun _ _ _ _ _ H => ?_⟩; show (runPure P (Instr.fieldAt s (evalO t x) f)).map _ = _
    rw [h1, hB.fa hb]; rfl⟩
theorem ReadV.ldB (hm : (bW b, Cell.cel T 0 [.raw a, .raw u]) ∈ σ) (hT : ValT P T' τ) (ha : τ.agg = false := by rfl) (hx : evV fl x = some (.raw (padd (bP b) 1)) := by rfl) : ReadV P fl σ (.load T' x) (.raw u) :=
  ⟨rfl, fun h S t hs hc => by
    have h1 : evalO t x = padd (bP b) 1 := hs x (by simp [Op.operands]) _ hx; obtain ⟨_, h5, _⟩ := bld_get (hc _ hm); refine ⟨u, rfl, fun H hH _ _ _ _ _ => ?_⟩; have hB : BoxR H 0 (bP b) [a, u] := ⟨b, T, rfl, Nat.zero_le _, hH b _ h5⟩; show (fsLoad P T' (evalO t x) H).map _ = _
    rw [h1, hB.ld1 hT ha (u := u) (by rfl)]; rfl⟩
theorem MakeV.stB {u' : Value} (hT : ValT P T' (.sl τ)) (hx : evV fl x = some (.raw (padd (bP b) 1))) (hy : evV fl y = some (.raw u')) (ho : oneCell u' = true) :
    MakeV P fl ((bW b, .cel T 0 [.raw a, .raw u]) :: σ) (.store T' x y) fun v σ' => v = .raw undef ∧ σ' = (bW b, .cel T 0 [.raw a, .raw u']) :: σ :=
  ⟨rfl, fun S0 h t L => by
    have h1 : evalO t x = padd (bP b) 1 := evV_ok L.slots hx; have h2 : evalO t y = u' := evV_ok L.slots hy; obtain ⟨g1, g2, g3, g4⟩ := bld_get (L.cells _ List.mem_cons_self); obtain ⟨i, hi, hs⟩ := hT.info; have hs : i.size = 1 := hs
    have hul : u'.cells.toList = [u'] := by rw [cells_one (agg_one ho)]
    refine ⟨undef, h.set b (.row T [a, u'] true false), .raw undef, _, ⟨rfl, rfl⟩, Made.head L (Aft.set g2 (by simp [blk])) (fun b hb => .inl hb) (by simp [blk]) fun hN => ?_, rfl, fun _ _ _ _ _ => ?_⟩
    · exact bld_of (List.mem_append_left _ (by rw [own_cons]; simp [blk])) (by rw [Heap.get_set g2, if_pos rfl]) g3 ho
    show (fsStore P T' (evalO t x) (evalO t y) h).map _ = _
    have : fsStore P T' (evalO t x) (evalO t y) h = some (h.set b (.row T [a, u'] true false)) := by
      rw [h1, h2]; simp only [fsStore, padd, g2, hi, hs, hul]; rw [if_pos ⟨rfl, by show 0 + 1 + 1 ≤ 2; omega, by simp [ho]⟩]; rfl
    rw [this]; rfl⟩
theorem appended_str {i : TypeInfo} {z : Value} {s : ByteArray} {xd : TypeDesc} (hi : isInt xd = false) : appended i z (isInt xd) (.string s) h = some (s.size, bytesV s) := by
  rw [hi]; show (match lenV (.string s) with | some m => (cellsOf i.size m (.string s) h).map fun cs => (m, cs) | none => none) = _; simp only [lenV, cellsOf, Option.map_some]; congr 2; rw [show s.extract 0 s.size = s from ByteArray.extract_zero_size]; simp [bytesV, bytesI, Array.toList_map, List.map_map]
theorem row_growX (hT : ElT P T e τ) {xd : TypeDesc} (hT' : P.underlying T' = some xd) {u : Value} {news : List Value} {xs ys : List τ.den} (hok : HOk h) (hg : CellR h S w (.row e τ xs)) 
    (hap : ∀ i z, i.size = τ.size → z.cells.toList.all af0 = true → appended i z (isInt xd) u h = some (ys.length, news)) (hy : Elems h S τ news ys) (hk0 : 0 < ys.length) (hsz : xs.length + ys.length ≤ 1000000) :
    ∃ h' rs, fsAppend P #[T, T'] w u h = some (.slice (some ⟨h.next, 0, none⟩) (xs.length + ys.length) 0, h') ∧ Aft h h' (blk w) ∧ h'.get h.next = some (.row e rs true true) ∧ (∀ S', Goes h S h' S' → Elems h' S' τ rs (xs ++ ys)) := by
  obtain ⟨i, z, hi1, hi2, hi3, hi3', hi4, hi5, hi6⟩ := hT.sl.info; have hone : news.all oneCell = true := hy.allOne; have hnl : news.length = ys.length * τ.size := hy.1
  have hbytes : (xs.length + ys.length) * i.bytes ≤ 274877906944 := by
    have := Nat.mul_le_mul hsz hi3'; omega
  unfold fsAppend; simp only [List.getElem?_toArray, List.getElem?_cons_zero, List.getElem?_cons_succ, hT.sl.sl, hT', hi1, hi4, hap i z hi2 hi6, hi2]
  have hc : (Nat.blt 0 τ.size && Nat.blt 0 i.bytes && Nat.beq news.length (ys.length * τ.size) && news.all oneCell && Nat.beq z.cells.size τ.size) = true := by
    have e1 : Nat.blt 0 τ.size = true := by show Nat.ble 1 τ.size = true; rw [Nat.ble_eq]; exact hT.sl.pos
    have e2 : Nat.blt 0 i.bytes = true := by show Nat.ble 1 i.bytes = true; rw [Nat.ble_eq]; exact hi3
    rw [e1, e2, hnl, Nat.beq_refl, hone, hi5, Nat.beq_refl]; rfl
  rw [hc]; simp only [cond_true]; have e0 : Nat.beq ys.length 0 = false := beq_no (by omega); rcases hg with ⟨rfl, rfl⟩ | ⟨b0, rs, m, rfl, hb0, hrow, hel⟩
  · refine ⟨h.push (.row e news true true), news, ?_, Aft.push h _ _, by rw [Heap.get_push, if_pos rfl], fun S' hN => by rw [List.nil_append]; exact hy.nx hN⟩; unfold fsGrow
    have e2 : Nat.ble (ys.length * i.bytes) 274877906944 = true := by rw [Nat.ble_eq]; simpa using hbytes
    simp only [e0, cond_false, e2, cond_true, grown, List.length_nil, Nat.zero_add]
  have hrl := hel.1; have hks : 0 < ys.length * τ.size := Nat.mul_pos hk0 hT.sl.pos; have hadd : (xs.length + ys.length) * τ.size = xs.length * τ.size + ys.length * τ.size := Nat.add_mul _ _ _
  have e1 : (Nat.beq ys.length 0 && Nat.beq 0 1) = false := by rw [e0]; rfl
  have e2 : Nat.beq e e = true := Nat.beq_refl _
  have e3 : Nat.ble ((xs.length + ys.length) * i.bytes) 274877906944 = true := by rw [Nat.ble_eq]; exact hbytes
  have e4 : Nat.ble (0 + xs.length * i.size) rs.length = true := by rw [Nat.ble_eq, hi2]; omega
  have e5 : Nat.ble (0 + (xs.length + ys.length) * i.size) rs.length = false := by
    cases hx : Nat.ble (0 + (xs.length + ys.length) * i.size) rs.length with
    | false => rfl
    | true => have := nble hx; rw [hi2] at this; omega
  have e6 : Nat.beq (xs.length * i.size) rs.length = true := by rw [hi2, hrl]; exact Nat.beq_refl _
  have e7 : Nat.beq 0 1 = false := rfl; have e8 : Nat.beq 0 0 = true := rfl; have hlt0 := hok b0 _ hrow; have hbk : blk (.slice (some ⟨b0, 0, none⟩) xs.length 0) = [b0] := rfl
  cases m with
  | true =>
    refine ⟨(h.drop b0).push (.row e (rs ++ news) true true), rs ++ news, ?_, (Aft.drop (B := blk _) (by rw [hbk]; simp)).trans (Aft.push (h.drop b0) _ []) (fun i hi => by cases hi), ?_, fun S' hN => (hel.append hy).nx hN⟩
    · unfold fsGrow; simp only [hrow, e1, cond_false, e2, e3, e4, Bool.and_self, cond_true, e7, e8, e5, Bool.not_true, e6, grown, Bool.true_and, Bool.and_false]; rfl
    have : (h.drop b0).next = h.next := rfl
    rw [Heap.get_push, if_pos this.symm]
  | false =>
    refine ⟨h.push (.row e (rs ++ news) true true), rs ++ news, ?_, Aft.push h _ _, by rw [Heap.get_push, if_pos rfl], fun S' hN => (hel.append hy).nx hN⟩; unfold fsGrow
    have e9 : (rs.drop 0).take (xs.length * i.size) = rs := by rw [List.drop_zero, hi2, ← hrl, List.take_length]
    simp only [hrow, e1, cond_false, e2, e3, e4, Bool.and_self, cond_true, e7, e8, e5, Bool.not_false, grown, Bool.true_and, Bool.and_false, e9]
theorem MakeV.appS {acc s : ByteArray} (hT : ElT P T e (.int .u8)) (hT' : P.underlying T' = some .string) (hx : evV fl x = some (.raw w)) (hy : evV fl y = some (.v .str s)) (hsz : acc.size + s.size ≤ 1000000) (hn : acc.size = 0 → w = .slice none 0 0) :
    MakeV P fl ((w, .row e (.int .u8) (bytesI acc)) :: σ) (.call { callee := .builtin .append, args := #[x, y], argTypes := #[T, T'] }) fun v σ' => ∃ w', (v = .raw w' ∧ σ' = (w', .row e (.int .u8) (bytesI (acc ++ s))) :: σ) ∧ ((acc ++ s).size = 0 → w' = .slice none 0 0) :=
  ⟨rfl, fun S0 h t L => by
    have h1 : evalO t x = w := evV_ok L.slots hx; have h2 : evalO t y = .string s := RepV.str (evV_ok L.slots hy : RepV h _ .str (evalO t y) s); have hc := L.cells _ List.mem_cons_self
    have hst : ∀ u h', fsAppend P #[T, T'] w (.string s) h = some (u, h') → ∀ (d : Option Tmp) (ty : TypeId) (pos : String) (after : Array Edge) (g : Option (Nat × Bool)), stepO P ⟨d, .call { callee := .builtin .append, args := #[x, y], argTypes := #[T, T'] }, ty, pos, after, g⟩ (evalO t) h = some (u, h') := fun u h' e _ _ _ _ _ => by
      show fsAppend P #[T, T'] (evalO t x) (evalO t y) h = _; rw [h1, h2, e]
    have hal := bytesI_len acc; have hsl := bytesI_len s; by_cases hp : 0 < s.size
    · obtain ⟨h', rs', e1, e2, e3, e4⟩ := row_growX hT hT' L.ok hc (u := .string s) (news := bytesV s) (ys := bytesI s) (fun i z _ _ => by rw [hsl]; exact appended_str rfl) elems_u8 (by omega) (by omega); refine ⟨_, h', .raw (.slice (some ⟨h.next, 0, none⟩) ((bytesI acc).length + (bytesI s).length) 0), _, ⟨_, ⟨rfl, rfl⟩, fun hz => ?_⟩, Made.head L e2 (fun b hb => .inr (by simp [blk] at hb; omega)) (by simp [blk]) fun hN => ?_, rfl, hst _ _ e1⟩
      · rw [ByteArray.size_append] at hz; omega
      rw [bytesI_app]; exact .inr ⟨h.next, rs', true, by rw [List.length_append], List.mem_append_left _ (by rw [own_cons]; simp [blk]), e3, e4 _ hN⟩
    have hs0 : s.size = 0 := by omega
    have hse : acc ++ s = acc := by
      have : bytesI s = [] := List.eq_nil_of_length_eq_zero (by omega); apply ByteArray.ext; rw [ByteArray.data_append]; have h9 : s.data = #[] := Array.eq_empty_of_size_eq_zero hs0; rw [h9, Array.append_empty]
    refine ⟨w, h, .raw w, _, ⟨w, ⟨rfl, rfl⟩, fun hz => hn (by rw [hse] at hz; exact hz)⟩, ?_, rfl, hst _ _ ?_⟩
    · rw [hse]; exact Made.same L (Aft.refl _ _)
    obtain ⟨i, z, hi1, hi2, hi3, hi3', hi4, hi5, hi6⟩ := hT.sl.info; have hi2 : i.size = 1 := hi2
    have hap : appended i z (isInt .string) (.string s) h = some (0, []) := by
      have := appended_str (i := i) (z := z) (h := h) (s := s) (xd := .string) rfl; rw [this, hs0]; have h8 : bytesV s = [] := List.eq_nil_of_length_eq_zero (by rw [bytesV_len]; exact hs0); rw [h8]
    unfold fsAppend; simp only [List.getElem?_toArray, List.getElem?_cons_zero, List.getElem?_cons_succ, hT.sl.sl, hT', hi1, hi4, hap, hi2]
    have hc2 : (Nat.blt 0 1 && Nat.blt 0 i.bytes && Nat.beq ([] : List Value).length (0 * 1) && ([] : List Value).all oneCell && Nat.beq z.cells.size 1) = true := by
      have e2 : Nat.blt 0 i.bytes = true := by show Nat.ble 1 i.bytes = true; rw [Nat.ble_eq]; exact hi3
      rw [e2, show z.cells.size = 1 from hi5]; rfl
    rw [hc2]; simp only [cond_true]; rcases hc with ⟨hw0, hx0⟩ | ⟨b0, rs, m, hw0, hb0, hrow, hel⟩
    · have hw0 : w = .slice none 0 0 := hw0; rw [hw0]; rfl
    have hw0 : w = .slice (some ⟨b0, 0, none⟩) (bytesI acc).length 0 := hw0; rw [hw0]; have hrl : rs.length = (bytesI acc).length * 1 := hel.1
    have e3 : Nat.ble (((bytesI acc).length + 0) * i.bytes) 274877906944 = true := by
      rw [Nat.ble_eq]; have := Nat.mul_le_mul (show (bytesI acc).length + 0 ≤ 1000000 by omega) hi3'; omega
    have e4 : Nat.ble (0 + (bytesI acc).length * 1) rs.length = true := by rw [Nat.ble_eq]; omega
    have e5 : Nat.ble (0 + ((bytesI acc).length + 0) * 1) rs.length = true := by rw [Nat.ble_eq]; omega
    unfold fsGrow; simp only [hrow, hi2, e3, e4, e5, Nat.beq_refl, Bool.and_self, cond_true, show Nat.beq 0 1 = false from rfl, show Nat.beq 0 0 = true from rfl, Bool.and_false, cond_false, Nat.add_zero]; simp only [Nat.add_zero] at e3 e5; simp only [e3, e5, cond_true]
    rfl⟩
theorem VFG.cop {O O2 : FuncId → List Value → Heap → Option (Value × Heap)} {fc : FuncId} {tb : TypeId} (hE : ∀ us h, O2 fc us h = orcC fc tb O fc us h) (ha : a = .pointer none ∨ a = bP b) :
    VFG P O2 fc [.raw (bP b)] [(bW b, .cel tb 0 [.raw a, .raw u])] fun r γ' => r = .tup [] ∧ γ' = [(bW b, .cel tb 0 [.raw (bP b), .raw u])] := fun h S us hok hS hcells hnd hsep har => by
  obtain ⟨v, r, rfl, h1, h2⟩ := har; obtain rfl : r = [] := h2; obtain rfl : v = bP b := h1; obtain ⟨g1, g2, g3, g4⟩ := bld_get (hcells _ List.mem_cons_self); have gb : b ∈ own [(bW b, Cell.cel tb 0 [.raw (bP b), .raw u])] ++ S := List.mem_append_left _ (by simp [own, blk]); rcases ha with rfl | rfl
  · have ho : orcC fc tb O fc [bP b] h = some (.tuple #[], h.set b (.row tb [bP b, u] true false)) := by
      simp only [orcC, Nat.beq_refl, cond_true, g2]
    refine EvF.oracle ((hE _ _).trans ho) ⟨_, _, ⟨rfl, rfl⟩, ⟨Aft.set g2 (by simp [own, blk]), fun b' hb' => .inl (by simpa [own, blk] using hb'), by simp [own, blk], fun c hc => ?_⟩, ⟨[], rfl, rfl⟩⟩
    obtain rfl : c = _ := by simpa using hc
    exact bld_of gb (by rw [Heap.get_set g2, if_pos rfl]) rfl g4
  have ho : orcC fc tb O fc [bP b] h = some (.tuple #[], h) := by
    simp only [orcC, Nat.beq_refl, cond_true, g2, Bool.and_self]
  refine EvF.oracle ((hE _ _).trans ho) ⟨_, _, ⟨rfl, rfl⟩, ⟨Aft.refl _ _, fun b' hb' => .inl (by simpa [own, blk] using hb'), by simp [own, blk], fun c hc => ?_⟩, ⟨[], rfl, rfl⟩⟩
  obtain rfl : c = _ := by simpa using hc
  exact bld_of gb g2 rfl g4
def sdV : Value → Value
  | .slice a _ _ => .pointer a
  | v => v
theorem ReadV.sd {acc : ByteArray} {T1 : TypeId} (hx : evV fl x = some (.raw w)) (hm : (w, Cell.row e (.int .u8) (bytesI acc)) ∈ σ) (hn : acc.size = 0 → w = .slice none 0 0) : ReadV P fl σ (.call { callee := .builtin .unsafeSliceData, args := #[x], argTypes := #[T1] }) (.raw (sdV w)) :=
  ⟨rfl, fun h S t hs hc => by
    have h1 : evalO t x = w := hs x (by simp [Op.operands, Call.operands]) _ hx; refine ⟨sdV w, rfl, fun H hH _ _ _ _ _ => ?_⟩; show ((fsSliceData (evalO t x)).map fun v => (v, H)) = _; rw [h1]; rcases hc _ hm with ⟨h3, _⟩ | ⟨b, rs, m, h3, _⟩
    · have h3 : w = .slice none 0 0 := h3; rw [h3]; rfl
    have h3 : w = .slice (some ⟨b, 0, none⟩) (bytesI acc).length 0 := h3
    have hz : acc.size ≠ 0 := fun hz => by rw [hn hz] at h3; cases h3
    have hb : Nat.beq (bytesI acc).length 0 = false := beq_no (by rw [bytesI_len]; exact hz); rw [h3]; simp only [fsSliceData, hb, cond_false]
    rfl⟩
theorem MakeV.ustr {acc : ByteArray} {T1 T2 : TypeId} (hT : P.underlying T1 = some (.pointer e)) (hcell : P.cellsOf e = 1) (hx : evV fl x = some (.raw (sdV w))) (hy : evV fl y = some (.v (.int .i64) ((acc.size : Nat) : Int))) (hsz : acc.size ≤ 1000000) (hn : acc.size = 0 → w = .slice none 0 0) :
    MakeV P fl ((w, .row e (.int .u8) (bytesI acc)) :: σ) (.call { callee := .builtin .unsafeString, args := #[x, y], argTypes := #[T1, T2] }) fun v σ' => v = .v .str acc ∧ σ' = σ :=
  ⟨rfl, fun S0 h t L => by
    have h1 : evalO t x = sdV w := evV_ok L.slots hx; have h2 : evalO t y = .int .i64 ((acc.size : Nat) : Int) := RepV.int (evV_ok L.slots hy); have hap := L.apart; rw [own_cons] at hap; obtain ⟨hap1, hap2, hap3⟩ := List.nodup_append.1 hap
    have hkeep : ∀ {h' : Heap}, Aft h h' (blk w) → Made S0 h h' ((w, .row e (.int .u8) (bytesI acc)) :: σ) σ := fun {h'} ha => by
      have ha' : Aft h h' (own ((w, Cell.row e (.int .u8) (bytesI acc)) :: σ)) := ha.weak fun b hb => by rw [own_cons]; exact List.mem_append_left _ hb
      have hN : Goes h (own ((w, Cell.row e (.int .u8) (bytesI acc)) :: σ) ++ S0) h' (own σ ++ S0) := ha'.goes L.ok (fun b hb => List.mem_append_left _ hb) fun b hb => by
        rcases List.mem_append.1 hb with hb | hb
        · exact .inl (List.mem_append_left _ (by rw [own_cons]; exact List.mem_append_right _ hb))
        exact .inl (List.mem_append_right _ hb)
      refine ⟨ha', fun b hb => .inl (by rw [own_cons]; exact List.mem_append_right _ hb), hap2, fun c hc => ?_⟩; have hbo : ∀ b ∈ blk c.1, b ∈ own σ := fun b hb => List.mem_flatMap.2 ⟨c, hc, hb⟩; refine (L.cells c (List.mem_cons_of_mem _ hc)).keep (fun b hb => ?_) hN fun b hb => List.mem_append_left _ (hbo b hb); exact ha.get b (L.lt b (List.mem_append_left _ (by rw [own_cons]; exact List.mem_append_right _ (hbo b hb)))) fun hm => hap3 b hm b (hbo b hb) rfl
    rcases L.cells _ List.mem_cons_self with ⟨h3, h4⟩ | ⟨b, rs, m, h3, h4, h5, h6⟩
    · have h3 : w = .slice none 0 0 := h3; have h4 : bytesI acc = [] := h4
      have hz : acc.size = 0 := by rw [← bytesI_len, h4]; rfl
      have he : acc = ByteArray.empty := by
        apply ByteArray.ext; exact Array.eq_empty_of_size_eq_zero hz
      refine ⟨.string acc, h, .v .str acc, σ, ⟨rfl, rfl⟩, hkeep (Aft.refl _ _), RepV.ofStr _, fun _ _ _ _ _ => ?_⟩; show fsUnsafeStr P #[T1, T2] (evalO t x) (evalO t y) h = _; rw [h1, h2, h3, hz, he]; show fsUnsafeStr P #[T1, T2] (.pointer none) (.int .i64 0) h = _; unfold fsUnsafeStr; show (match P.underlying T1 with | some (.pointer _) => some (Value.string .empty, h) | _ => none) = _; rw [hT]
    have h3 : w = .slice (some ⟨b, 0, none⟩) (bytesI acc).length 0 := h3
    have hz : acc.size ≠ 0 := fun hz => by rw [hn hz] at h3; cases h3
    obtain ⟨q, hq⟩ : ∃ q, acc.size = q + 1 := ⟨acc.size - 1, by omega⟩; have hrs := u8_elems h6
    have hbk : blk w = [b] := by rw [h3]; rfl
    have htk : bytesC (rs.take (q + 1)) = some acc.data.toList := by
      rw [hrs, List.take_of_length_le (by rw [List.length_map, bytesI_len]; omega)]; exact bytesC_V acc
    refine ⟨.string acc, h.drop b, .v .str acc, σ, ⟨rfl, rfl⟩, hkeep (Aft.drop (by rw [hbk]; simp)), RepV.ofStr _, fun _ _ _ _ _ => ?_⟩; show fsUnsafeStr P #[T1, T2] (evalO t x) (evalO t y) h = _; rw [h1, h2, h3, hq]
    have e1 : Nat.ble (q + 1) rs.length = true := by rw [Nat.ble_eq, hrs, List.length_map, bytesI_len]; omega
    have e2 : Nat.ble q 1000000000 = true := by rw [Nat.ble_eq]; omega
    show fsUnsafeStr P #[T1, T2] (.pointer (some ⟨b, 0, none⟩)) (.int .i64 (.ofNat (q + 1))) h = _
    simp only [fsUnsafeStr, hT, h5, Nat.beq_refl, hcell, e1, e2, Bool.and_self, cond_true, htk]⟩
def VEndK (P : Program) (fn : Func) (γ : Sto) (Q : PV → Sto → Prop) : Ex → VL → Sto → Prop := fun e fl σ => e.goes = true ∧ ∃ ps, EndL P fl [] fn.results.toList ps ∧ Q (tupV ps) σ ∧ ∀ (h h2 : Heap) (S : List Nat), (∀ c ∈ γ, CellR h (own γ ++ S) c.1 c.2) → (∀ c ∈ σ, CellR h2 (own σ ++ S) c.1 c.2) → (∀ b ∈ own γ, h2.get b = h.get b) → (∀ b o, h.get b = some o → h2.get b = some o) → (∀ b ∈ own σ, b ∈ own γ) ∧ ∀ c ∈ σ, CellR h (own σ ++ S) c.1 c.2
theorem VFG.enterK {f : FuncId} {args : List PV} {fn : Func} {c : Code} {Q : PV → Sto → Prop} (hfn : P.funcs[f]? = some fn) (hc : fn.body = some c) (ho : ∀ us h, orc f us h = none) (hn : (Nat.blt 4000 fn.ntmps || Nat.blt fn.ntmps args.length) = false)
    (hb : VC P orc none c fn.ntmps (argVL 0 args) γ (VEndK P fn γ Q)) : VFG P orc f args γ Q := fun h S us hok hS hcells hnd hsep ha => by
  have hl := ha.len
  have hn2 : Nat.blt 4000 fn.ntmps = false ∧ Nat.blt fn.ntmps args.length = false := by simpa using hn
  have n3 := nble_no hn2.1; have n4 := nble_no hn2.2; have ha' : RepL (entry h) (own γ ++ S) args us := RepL.nx (h := h) (h' := entry h) (fun _ _ a b => ⟨a, b⟩) ha
  have I0 : Iv (entry h) (own γ) S (entry h) γ (fillTr .leaf 0 us) [] (argVL 0 args) := {
    ok := hok
    s0 := hS.1
    aft := Aft.refl _ _
    cells := fun c hc => (hcells c hc).keep (fun _ _ => rfl) (fun _ _ a b => ⟨a, b⟩) fun b hb => List.mem_append_left _ (List.mem_flatMap.2 ⟨c, hc, hb⟩)
    new := fun b hb => ⟨.inl hb, hsep b hb⟩
    apart := hnd
    mark := fun d hd => by cases hd
    marks := List.nodup_nil
    slots := slots_args (hS.2.ent hcells) ha' (by omega) }
  refine EvF.enter hfn hc (ho us h) (by rw [hl]; exact hn) ((hb (entry h) (own γ) S _ (entry h) [] I0).mono fun e fr h1 hq => ?_); obtain ⟨_, fl', σ', Iv1, he, ps, hps, hQ, hkd⟩ := hq; obtain ⟨h2, d1, d2, d3⟩ := drops_ok Iv1.marks fun d hd => (Iv1.mark d hd).2
  have hgd : ∀ b o, h1.get b = some o → o ≠ .defd → h2.get b = some o := fun b o hg hne => by
    rw [d3 b (fun hm => hne (by have := (Iv1.mark b hm).2; rw [hg] at this; exact Option.some.inj this))]; exact hg
  have a2 : Aft (entry h) h2 (own γ) := Iv1.aft.trans d2 fun i hi => .inr (Iv1.mark i hi).1; have L1 := Iv1.lc; have Lz : Lc (own σ' ++ S) h1 [] fr.t fl' := ⟨L1.ok, L1.lt, (fun c hc => by cases hc), (fun b hb => by cases hb), List.nodup_nil, L1.slots⟩; obtain ⟨us', e1, e2⟩ := hps.ok Lz hgd (fun b _ hg hne hbS => ⟨hgd b _ hg hne, hbS⟩); have hrep := tup_rep e2
  have hrow : ∀ c ∈ σ', ∀ b ∈ blk c.1, h2.get b = h1.get b := fun c hc b hb => by
    obtain ⟨o, hg, hne⟩ := (Iv1.cells c hc).isObj b hb; rw [hgd b _ hg hne, hg]
  have hcell2 : ∀ c ∈ σ', CellR h2 (own σ' ++ S) c.1 c.2 := fun c hc => by
    have hx := Iv1.cells c hc; have hN : GoesR h1 (own σ' ++ S) h2 (own σ' ++ S) := fun b _ hg hne hbS => ⟨hgd b _ hg hne, hbS⟩; have hgb := hrow c hc; obtain ⟨w, cc⟩ := c
    cases cc with
    | row e τ xs =>
      rcases hx with hx | ⟨b, rs, m, h3, h4, h5, h6⟩
      · exact .inl hx
      exact .inr ⟨b, rs, m, h3, h4, hgd b _ h5 (by simp), h6.1, fun i hi => (h6.2 i hi).nxR hN⟩
    | var cs =>
      obtain ⟨b, e, vs, h3, h4, h5, h6, h7⟩ := hx
      exact ⟨b, e, vs, h3, h4, hgd b _ h5 (by simp), h6.nxR hN, h7⟩
    | cap e k τ xs =>
      obtain ⟨b, rs, m, h3, h4, h5, h6, h7, h8⟩ := hx
      exact ⟨b, rs, m, h3, h4, hgd b _ h5 (by simp), h6, h7, h8.1, fun i hi => (h8.2 i hi).nxR hN⟩
    | mp κ ν kvs =>
      obtain ⟨b, es, c, h3, h4, h5, h6, h7⟩ := hx
      exact ⟨b, es, c, h3, h4, hgd b _ h5 (by simp), h6, fun i hi hj => ⟨⟨(h7 i hi hj).1.1, (h7 i hi hj).1.2.nxR hN⟩, ⟨(h7 i hi hj).2.1, (h7 i hi hj).2.2.nxR hN⟩⟩⟩
    | it s pos =>
      obtain ⟨b, h3, h4, h5⟩ := hx
      exact ⟨b, h3, h4, hgd b _ h5 (by simp)⟩
    | loop st jump n fl ps assign body =>
      obtain ⟨l, tmps, d, h3, h4, h5, h6⟩ := hx
      exact ⟨l, tmps, d, h3, h4, hgd l _ h5 (by simp), h6.nxR hN⟩
    | cel e n cs =>
      rcases hx with hx | ⟨b, rs, m, h3, h4, h5, h6, h7⟩
      · exact .inl hx
      exact .inr ⟨b, rs, m, h3, h4, hgd b _ h5 (by simp), h6.nxR hN, h7⟩
  have hnew2 : ∀ b ∈ own σ', b ∈ own γ ∨ h.next ≤ b := fun b hb => (Iv1.new b hb).1; refine ⟨he, h2, us', d1, e1, ?_⟩; unfold leftOf
  cases haf : (af (tupled us') && Nat.ble h.next h2.low) with
  | true =>
    obtain ⟨af1', hlow⟩ := band haf; have hlow := nble hlow
    have hsame : ∀ b ∈ own γ, h2.get b = h.get b := fun b hb => by
      rcases a2.chg b (own_lt hcells hok b hb) with h3 | h3
      · exact h3
      have := own_lt hcells hok b hb; omega
    have hall : ∀ b o, h.get b = some o → h2.get b = some o := fun b o hb => by
      have hlt := hok b o hb; rcases a2.chg b hlt with h3 | h3
      · rw [h3]; exact hb
      have : h.next ≤ b := Nat.le_trans hlow h3; omega
    obtain ⟨k1, k2⟩ := hkd h h2 S hcells hcell2 hsame hall
    exact ⟨_, σ', hQ, ⟨Aft.refl _ _, fun b hb => .inl (k1 b hb), Iv1.apart, k2⟩, hrep.anyAf af1'⟩
  | false =>
    refine ⟨_, σ', hQ, ⟨⟨a2.next, a2.get, fun x => a2.ok x, fun e h3 h4 h5 => Nat.le_min.2 ⟨h3, a2.low e (Nat.le_trans h4 (Nat.le_refl _)) h4 h5⟩, fun b hb => ?_, Nat.min_le_left _ _⟩, hnew2, Iv1.apart, fun c hc => (hcell2 c hc).keep (fun _ _ => rfl) (fun _ _ a b => ⟨a, b⟩) fun b hb => List.mem_append_left _ (List.mem_flatMap.2 ⟨c, hc, hb⟩)⟩, RepPV.nx (h := h2) (h' := { next := h2.next, low := min h.low h2.low, objs := h2.objs }) (fun _ _ a b => ⟨a, b⟩) hrep⟩; rcases a2.chg b hb with h3 | h3
    · exact .inl h3
    exact .inr (Nat.le_trans (Nat.min_le_right _ _) h3)
theorem bld_same {T1 T2 : TypeId} {a' u' : Value} (hg : CellR h S (bW b) (.cel T1 0 [.raw a, .raw u])) (hs : CellR h2 S' (bW b) (.cel T2 0 [.raw a', .raw u'])) (hk : h2.get b = h.get b) : T2 = T1 ∧ a' = a ∧ u' = u := by
  obtain ⟨_, g2, _⟩ := bld_get hg; obtain ⟨_, s2, _⟩ := bld_get hs; rw [s2, g2] at hk; injection hk with hk; injection hk with h1 h2; injection h2 with h3 h4; injection h4 with h5 h6; exact ⟨h1, h3, h5⟩
theorem bld_keep {acc acc' : ByteArray} {a' u' : Value} (h h2 : Heap) (S : List Nat) (hg : ∀ c ∈ [(bW b, Cell.cel T 0 [.raw a, .raw u]), (u, .row e (.int .u8) (bytesI acc))], CellR h (own [(bW b, Cell.cel T 0 [.raw a, .raw u]), (u, .row e (.int .u8) (bytesI acc))] ++ S) c.1 c.2)
    (hs : ∀ c ∈ [(bW b, Cell.cel T 0 [.raw a', .raw u']), (u', .row e (.int .u8) (bytesI acc'))], CellR h2 (own [(bW b, Cell.cel T 0 [.raw a', .raw u']), (u', .row e (.int .u8) (bytesI acc'))] ++ S) c.1 c.2)
    (hk : ∀ b' ∈ own [(bW b, Cell.cel T 0 [.raw a, .raw u]), (u, .row e (.int .u8) (bytesI acc))], h2.get b' = h.get b') (hx : ∀ b o, h.get b = some o → h2.get b = some o) :
    (∀ b' ∈ own [(bW b, Cell.cel T 0 [.raw a', .raw u']), (u', .row e (.int .u8) (bytesI acc'))], b' ∈ own [(bW b, Cell.cel T 0 [.raw a, .raw u]), (u, .row e (.int .u8) (bytesI acc))]) ∧ ∀ c ∈ [(bW b, Cell.cel T 0 [.raw a', .raw u']), (u', .row e (.int .u8) (bytesI acc'))], CellR h (own [(bW b, Cell.cel T 0 [.raw a', .raw u']), (u', .row e (.int .u8) (bytesI acc'))] ++ S) c.1 c.2 := by
  obtain ⟨_, rfl, rfl⟩ := bld_same (hg _ List.mem_cons_self) (hs _ List.mem_cons_self) (hk b (by simp [own, blk])); refine ⟨fun b' hb => hb, fun c hc => ?_⟩; rcases List.mem_cons.1 hc with rfl | hc
  · exact hg _ List.mem_cons_self
  obtain rfl := List.mem_singleton.1 hc; rcases hs _ (List.mem_cons_of_mem _ List.mem_cons_self) with hx | ⟨b2, rs, m, h3, h4, h5, h6⟩
  · exact .inl hx
  have h3 : u' = _ := h3; refine .inr ⟨b2, rs, m, h3, h4, ?_, ?_⟩
  · rw [← hk b2 (by rw [own_cons]; exact List.mem_append_right _ (by rw [own_cons, h3]; simp [blk]))]; exact h5
  rw [u8_elems h6]; exact elems_u8
theorem bld_keep1 {acc : ByteArray} {a' u' : Value} (h h2 : Heap) (S : List Nat) (hg : ∀ c ∈ [(bW b, Cell.cel T 0 [.raw a, .raw u]), (u, .row e (.int .u8) (bytesI acc))], CellR h (own [(bW b, Cell.cel T 0 [.raw a, .raw u]), (u, .row e (.int .u8) (bytesI acc))] ++ S) c.1 c.2)
    (hs : ∀ c ∈ [(bW b, Cell.cel T 0 [.raw a', .raw u'])], CellR h2 (own [(bW b, Cell.cel T 0 [.raw a', .raw u'])] ++ S) c.1 c.2)
    (hk : ∀ b' ∈ own [(bW b, Cell.cel T 0 [.raw a, .raw u]), (u, .row e (.int .u8) (bytesI acc))], h2.get b' = h.get b') (hx : ∀ b o, h.get b = some o → h2.get b = some o) :
    (∀ b' ∈ own [(bW b, Cell.cel T 0 [.raw a', .raw u'])], b' ∈ own [(bW b, Cell.cel T 0 [.raw a, .raw u]), (u, .row e (.int .u8) (bytesI acc))]) ∧ ∀ c ∈ [(bW b, Cell.cel T 0 [.raw a', .raw u'])], CellR h (own [(bW b, Cell.cel T 0 [.raw a', .raw u'])] ++ S) c.1 c.2 := by
  obtain ⟨_, rfl, rfl⟩ := bld_same (hg _ List.mem_cons_self) (hs _ List.mem_cons_self) (hk b (by simp [own, blk])); refine ⟨fun b' hb => by rw [own_cons] at hb ⊢; exact List.mem_append_left _ (by simpa [own] using hb), fun c hc => ?_⟩; obtain rfl := List.mem_singleton.1 hc; obtain ⟨_, g2, g3, g4⟩ := bld_get (hg _ List.mem_cons_self); exact bld_of (List.mem_append_left _ (by simp [own, blk])) g2 g3 g4
end Go.Fs
namespace Go.Fs
def digB (c : UInt8) : Bool := decide (48 ≤ c.toNat ∧ c.toNat ≤ 57)
def digO (d : Nat) : UInt8 := UInt8.ofNat (48 + d)
theorem digO_nat {d : Nat} (h : d < 10) : (digO d).toNat = 48 + d := by
  unfold digO; rw [UInt8.toNat_ofNat']; omega
theorem digO_dig {d : Nat} (h : d < 10) : digB (digO d) = true := decide_eq_true (by rw [digO_nat h]; omega)
theorem digO_of {c : UInt8} (h : digB c = true) : digO (c.toNat - 48) = c := by
  have h := of_decide_eq_true h; apply UInt8.toNat_inj.1; rw [digO_nat (by omega)]; omega
def decL (n : Nat) : List UInt8 := if n < 10 then [digO n] else decL (n / 10) ++ [digO (n % 10)]
termination_by n
decreasing_by omega
theorem decL_lt {n : Nat} (h : n < 10) : decL n = [digO n] := by rw [decL, if_pos h]
theorem decL_ge {n : Nat} (h : 10 ≤ n) : decL n = decL (n / 10) ++ [digO (n % 10)] := by rw [decL, if_neg (by omega)]
def valL (w : List UInt8) (v : Nat) : Nat := w.foldl (fun v c => 10 * v + (c.toNat - 48)) v
theorem valL_snoc {w : List UInt8} {c : UInt8} {v : Nat} : valL (w ++ [c]) v = 10 * valL w v + (c.toNat - 48) := by
  unfold valL; rw [List.foldl_append]; rfl
theorem val_dec (n : Nat) : valL (decL n) 0 = n := by
  induction n using Nat.strongRecOn with
  | ind n ih =>
    by_cases h : n < 10
    · rw [decL_lt h]; show 10 * 0 + ((digO n).toNat - 48) = n; rw [digO_nat h]; omega
    rw [decL_ge (by omega), valL_snoc, ih (n / 10) (by omega), digO_nat (by omega)]; omega
theorem dec_dig (n : Nat) : ∀ c ∈ decL n, digB c = true := by
  induction n using Nat.strongRecOn with
  | ind n ih =>
    by_cases h : n < 10
    · rw [decL_lt h]; intro c hc; rw [List.mem_singleton.1 hc]; exact digO_dig h
    rw [decL_ge (by omega)]; intro c hc; rcases List.mem_append.1 hc with hc | hc
    · exact ih (n / 10) (by omega) c hc
    rw [List.mem_singleton.1 hc]; exact digO_dig (by omega)
theorem dec_ne (n : Nat) : decL n ≠ [] := by
  by_cases h : n < 10
  · rw [decL_lt h]; simp
  rw [decL_ge (by omega)]; simp
theorem dec_len (k : Nat) : ∀ n : Nat, n < 10 ^ (k + 1) → (decL n).length ≤ k + 1 := by
  induction k with
  | zero => intro n h; rw [decL_lt (by simpa using h)]; simp
  | succ k ih =>
    intro n h; by_cases h2 : n < 10
    · rw [decL_lt h2]; simp
    rw [decL_ge (by omega), List.length_append]; have h3 : n / 10 < 10 ^ (k + 1) := Nat.div_lt_of_lt_mul (by rw [Nat.pow_succ, Nat.mul_comm] at h; exact h); have := ih _ h3; simp only [List.length_singleton]; omega
theorem dec_head {n : Nat} (h : 1 ≤ n) : ∃ c r, decL n = c :: r ∧ c.toNat ≠ 48 := by
  induction n using Nat.strongRecOn with
  | ind n ih =>
    by_cases h2 : n < 10
    · exact ⟨digO n, [], decL_lt h2, by rw [digO_nat h2]; omega⟩
    obtain ⟨c, r, h3, h4⟩ := ih (n / 10) (by omega) (by omega); exact ⟨c, r ++ [digO (n % 10)], by rw [decL_ge (by omega), h3]; rfl, h4⟩
def numL (w : List UInt8) : Option Nat := if (w = [] ∨ 9 < w.length) ∨ (1 < w.length ∧ (w.headD 0).toNat = 48) ∨ w.all digB = false then none else some (valL w 0)
theorem num_dec {n : Nat} (h : n < 10 ^ 9) : numL (decL n) = some n := by
  have h1 := dec_len 8 n h; unfold numL; rw [if_neg, val_dec]; rintro ((h2 | h2) | ⟨h2, h3⟩ | h2)
  · exact dec_ne n h2
  · omega
  · by_cases h4 : n < 10
    · rw [decL_lt h4] at h2; simp at h2
    obtain ⟨c, r, h5, h6⟩ := dec_head (n := n) (by omega); rw [h5] at h3; exact h6 h3
  rw [List.all_eq_true.2 (dec_dig n)] at h2; cases h2
theorem snoc_ex {α : Type} {w : List α} (h : w ≠ []) : ∃ r c, w = r ++ [c] := ⟨w.dropLast, w.getLast h, (List.dropLast_concat_getLast h).symm⟩
theorem val_pos : ∀ {r : List UInt8} {c : UInt8}, c.toNat ≠ 48 → digB c = true → 1 ≤ valL (c :: r) 0 := fun {r c} h hd => by
  have h0 := of_decide_eq_true hd
  have hmono : ∀ (r : List UInt8) (v : Nat), 1 ≤ v → 1 ≤ valL r v := by
    intro r
    induction r with
    | nil => exact fun v h => h
    | cons c r ih => exact fun v h => ih (10 * v + (c.toNat - 48)) (by omega)
  exact hmono r (10 * 0 + (c.toNat - 48)) (by omega)
theorem dec_val_aux (k : Nat) : ∀ w : List UInt8, w.length = k → w ≠ [] → (∀ c ∈ w, digB c = true) → (1 < w.length → (w.headD 0).toNat ≠ 48) → decL (valL w 0) = w := by
  induction k with
  | zero => intro w hk h; exact absurd (List.eq_nil_of_length_eq_zero hk) h
  | succ k ih =>
    intro w hk hne hd hz; obtain ⟨r, c, rfl⟩ := snoc_ex hne; have hc := hd c (List.mem_append_right _ (List.mem_singleton.2 rfl)); have hc2 := of_decide_eq_true hc; rw [valL_snoc]
    cases r with
    | nil =>
      show decL (10 * 0 + (c.toNat - 48)) = [c]
      rw [Nat.mul_zero, Nat.zero_add, decL_lt (by omega), digO_of hc]
    | cons x r =>
      have hx : x.toNat ≠ 48 := hz (by simp); have hxd := hd x (by simp); have hv := val_pos (r := r) hx hxd
      have hl : (x :: r).length = k := by simpa using hk
      have h1 := ih (x :: r) hl (by simp) (fun c hc => hd c (List.mem_append_left _ hc)) fun _ => hx; rw [decL_ge (by omega), show (10 * valL (x :: r) 0 + (c.toNat - 48)) / 10 = valL (x :: r) 0 by omega, show (10 * valL (x :: r) 0 + (c.toNat - 48)) % 10 = c.toNat - 48 by omega, h1, digO_of hc]
theorem dec_val {w : List UInt8} {n : Nat} (h : numL w = some n) : decL n = w := by
  unfold numL at h; split at h
  · cases h
  rename_i hn; have hn1 : w ≠ [] := fun e => hn (.inl (.inl e))
  have hn2 : w.all digB = true := by
    cases hc : w.all digB with
    | true => rfl
    | false => exact absurd (.inr (.inr hc)) hn
  obtain rfl := Option.some.inj h; exact dec_val_aux _ w rfl hn1 (List.all_eq_true.1 hn2) fun h1 h2 => hn (.inr (.inl ⟨h1, h2⟩))
def splL (s : UInt8) : List UInt8 → List (List UInt8)
  | [] => [[]]
  | x :: r => if x = s then [] :: splL s r else match splL s r with
    | [] => [[x]]
    | w :: l => (x :: w) :: l
theorem spl_ne {s : UInt8} : ∀ l : List UInt8, splL s l ≠ []
  | [] => by simp [splL]
  | x :: r => by
    unfold splL; split
    · simp
    split <;> simp
theorem spl_sep {s : UInt8} {r : List UInt8} : splL s (s :: r) = [] :: splL s r := by rw [splL, if_pos rfl]
theorem spl_cons {s x : UInt8} {r w : List UInt8} {l : List (List UInt8)} (h : x ≠ s) (hr : splL s r = w :: l) : splL s (x :: r) = (x :: w) :: l := by rw [splL, if_neg h, hr]
theorem spl_word {s : UInt8} : ∀ {w : List UInt8}, (∀ c ∈ w, c ≠ s) → splL s w = [w]
  | [], _ => rfl
  | x :: w, h => spl_cons (h x List.mem_cons_self) (spl_word fun c hc => h c (List.mem_cons_of_mem _ hc))
theorem spl_app {s : UInt8} : ∀ {w r : List UInt8}, (∀ c ∈ w, c ≠ s) → splL s (w ++ s :: r) = w :: splL s r
  | [], r, _ => spl_sep
  | x :: w, r, h => spl_cons (h x List.mem_cons_self) (spl_app fun c hc => h c (List.mem_cons_of_mem _ hc))
def joiL (s : UInt8) : List (List UInt8) → List UInt8
  | [] => []
  | [w] => w
  | w :: v :: l => w ++ s :: joiL s (v :: l)
theorem joi_cons {s : UInt8} {w : List UInt8} {l : List (List UInt8)} (h : l ≠ []) : joiL s (w :: l) = w ++ s :: joiL s l := by
  cases l with
  | nil => exact absurd rfl h
  | cons v l => rfl
theorem joi_spl {s : UInt8} : ∀ l : List UInt8, joiL s (splL s l) = l
  | [] => rfl
  | x :: r => by
    have ih := joi_spl (s := s) r; by_cases h : x = s
    · subst h; rw [spl_sep, joi_cons (spl_ne r), ih]; rfl
    cases hr : splL s r with
    | nil => exact absurd hr (spl_ne r)
    | cons w l =>
      rw [hr] at ih; rw [spl_cons h hr, ← ih]
      cases l with
      | nil => rfl
      | cons v l => rfl
theorem spl_joi {s : UInt8} : ∀ {l : List (List UInt8)}, l ≠ [] → (∀ w ∈ l, ∀ c ∈ w, c ≠ s) → splL s (joiL s l) = l
  | [], h, _ => absurd rfl h
  | [w], _, h => spl_word (h w List.mem_cons_self)
  | w :: v :: l, _, h => by
    rw [joi_cons (by simp), spl_app (h w List.mem_cons_self), spl_joi (by simp) fun u hu => h u (List.mem_cons_of_mem _ hu)]
end Go.Fs
namespace Go.Fs
variable {P : Program} {orc : FuncId → List Value → Heap → Option (Value × Heap)} {h : Heap} {S : List Nat} {σ : Sto} {t : Tr} {fl : VL} {x y z lo hi : Operand} {T : TypeId} {s : ByteArray} {a b : Int}
theorem bound_run {k : Int} {n : Nat} {q : BoundsCode} (h : 0 ≤ k ∧ k ≤ ((n : Nat) : Int)) : runPure P (Instr.sliceBound (.int .i64 k) n q) = some k.toNat := by
  unfold Instr.sliceBound; simp [runPure_bind, asIntOf, runPure_pure, h.1, h.2]
theorem str_slice {l r : Option Value} {i j : Nat} (hT : P.underlying T = some .string) (hb : runPure P (Instr.sliceBounds false s.size s.size l r none) = some (i, j, s.size)) : runPure P (Instr.sliceAt T (.string s) l r none) = some (.string (s.extract i j)) := by
  have h1 : runPure P (Instr.sliceAt T (.string s) l r none) = runPure P (Instr.slice T (.string s) l r none) := by
    unfold Instr.sliceAt; simp only [runPure_bind, runPure_underlying hT, Option.bind_some]
  rw [h1]; unfold Instr.slice; simp only [runPure_bind, runPure_underlying hT, Option.bind_some, Option.isSome_none, Bool.false_eq_true, if_false, hb, runPure_pure]
theorem ReadV.cutHS {k : Int} (hT : P.underlying T = some .string) (hx : evV fl x = some (.v .str s)) (hh : evV fl hi = some (.v (.int .i64) k)) (h0 : 0 ≤ k ∧ k ≤ ((s.size : Nat) : Int)) : ReadV P fl σ (.slice T x none (some hi) none) (.v .str (s.extract 0 k.toNat)) :=
  ⟨rfl, fun h S t hs _ => by
    have h1 := RepV.str (hs x (by simp [Op.operands]) _ hx : RepV h S .str (evalO t x) s); have h2 := RepV.int (hs hi (by simp [Op.operands]) _ hh); refine ⟨.string (s.extract 0 k.toNat), RepV.ofStr _, fun H _ _ _ _ _ _ => ?_⟩; show (fsSlice P T (evalO t x) none (some (evalO t hi)) none H).map _ = _
    have hb : runPure P (Instr.sliceBounds false s.size s.size none (some (.int .i64 k)) none) = some (0, k.toNat, s.size) := by
      unfold Instr.sliceBounds; simp only [runPure_bind, runPure_pure, Option.bind_some, bound_run h0]
    rw [h1, h2]; simp only [fsSlice, hT, str_slice hT hb]
    rfl⟩
theorem ReadV.cutLS {k : Int} (hT : P.underlying T = some .string) (hx : evV fl x = some (.v .str s)) (hh : evV fl lo = some (.v (.int .i64) k)) (h0 : 0 ≤ k ∧ k ≤ ((s.size : Nat) : Int)) : ReadV P fl σ (.slice T x (some lo) none none) (.v .str (s.extract k.toNat s.size)) :=
  ⟨rfl, fun h S t hs _ => by
    have h1 := RepV.str (hs x (by simp [Op.operands]) _ hx : RepV h S .str (evalO t x) s); have h2 := RepV.int (hs lo (by simp [Op.operands]) _ hh); refine ⟨.string (s.extract k.toNat s.size), RepV.ofStr _, fun H _ _ _ _ _ _ => ?_⟩; show (fsSlice P T (evalO t x) (some (evalO t lo)) none none H).map _ = _
    have hb : runPure P (Instr.sliceBounds false s.size s.size (some (.int .i64 k)) none none) = some (k.toNat, s.size, s.size) := by
      unfold Instr.sliceBounds; simp only [runPure_bind, runPure_pure, Option.bind_some, bound_run h0]
    rw [h1, h2]; simp only [fsSlice, hT, str_slice hT hb]
    rfl⟩
theorem ReadV.cutLHS (hT : P.underlying T = some .string) (hx : evV fl x = some (.v .str s)) (hl : evV fl lo = some (.v (.int .i64) a)) (hh : evV fl hi = some (.v (.int .i64) b)) (h0 : 0 ≤ a ∧ a ≤ b) (h1 : b ≤ ((s.size : Nat) : Int)) : ReadV P fl σ (.slice T x (some lo) (some hi) none) (.v .str (s.extract a.toNat b.toNat)) :=
  ⟨rfl, fun h S t hs _ => by
    have g1 := RepV.str (hs x (by simp [Op.operands]) _ hx : RepV h S .str (evalO t x) s); have g2 := RepV.int (hs lo (by simp [Op.operands]) _ hl); have g3 := RepV.int (hs hi (by simp [Op.operands]) _ hh); refine ⟨.string (s.extract a.toNat b.toNat), RepV.ofStr _, fun H _ _ _ _ _ _ => ?_⟩; show (fsSlice P T (evalO t x) (some (evalO t lo)) (some (evalO t hi)) none H).map _ = _
    have hb : runPure P (Instr.sliceBounds false s.size s.size (some (.int .i64 a)) (some (.int .i64 b)) none) = some (a.toNat, b.toNat, s.size) := by
      unfold Instr.sliceBounds
      have e2 : a ≤ ((b.toNat : Nat) : Int) := by omega
      simp only [runPure_bind, runPure_pure, Option.bind_some]; have e3 := bound_run (P := P) (k := b) (n := s.size) (q := .sliceAlen) ⟨by omega, h1⟩; have e4 := bound_run (P := P) (k := a) (n := b.toNat) (q := .sliceB) ⟨h0.1, e2⟩; show (runPure P (Instr.sliceBound (.int .i64 b) s.size .sliceAlen)).bind _ = _; rw [e3]; show (runPure P (Instr.sliceBound (.int .i64 a) b.toNat .sliceB)).bind _ = _; rw [e4]; rfl
    rw [g1, g2, g3]; simp only [fsSlice, hT, str_slice hT hb]
    rfl⟩
theorem repl_sb {h : Heap} {S : List Nat} {us : List Value} {c : Int} (hr : RepL h S [.v .str s, .v (.int .u8) c] us) : us = [.string s, .int .u8 c] := by
  obtain ⟨u, r, rfl, h2, u2, r2, rfl, h3, h4⟩ := hr; obtain rfl : r2 = [] := h4; rw [RepV.str h2, RepV.int h3]
theorem VF.idxByte {f : FuncId} {fn : Func} {c : Int} (hfn : P.funcs[f]? = some fn) (ho : ∀ us h, orc f us h = none) (hb : (fn.body.isNone && !(fn.name == "runtime.NumGoroutine")) = true) (h1 : (Extern.findNext fn).isNone = true) (h2 : Extern.find fn = some Extern.BytealgIndexByte.indexByte) :
    VF P orc f [.v .str s, .v (.int .u8) c] (.v (.int .i64) (Go.Lib.indexByte s.data.toList c.toNat.toUInt8)) :=
  VF.ext (us := [.string s, .int .u8 c]) hfn ho hb h1 h2 rfl (fun _ _ _ hr => repl_sb hr) (w := .int .i64 (Go.Lib.indexByte s.data.toList c.toNat.toUInt8)) (by
    have e : runPure P (Extern.BytealgIndexByte.indexByte #[.string s, .int .u8 c]) = some (.int .i64 (Go.Lib.indexByte s.data.toList c.toNat.toUInt8)) := by
      rw [← Go.Lib.firstIdx_eq]; unfold Go.firstIdx; show runPure P (do let b ← Extern.Bytes.bytesOf (.string s); let c ← Extern.Bytes.asByte (.int .u8 c); match (List.range b.size).find? fun i => b[i]! == c with | some i => pure (goInt i) | none => pure (goInt (-1))) = _; simp only [Extern.Bytes.bytesOf, Extern.Bytes.asByte, runPure_bind, runPure_pure, Option.bind_some]
      cases (List.range s.size).find? fun i => s[i]! == c.toNat.toUInt8 with
      | none => rfl
      | some i => rfl
    show ((runPure P (Extern.BytealgIndexByte.indexByte #[.string s, .int .u8 c])).bind fun v => if af v then some v else none) = _
    rw [e]; rfl) fun _ _ => RepV.ofInt _ _
theorem VF.cntByte {f : FuncId} {fn : Func} {c : Int} (hfn : P.funcs[f]? = some fn) (ho : ∀ us h, orc f us h = none) (hb : (fn.body.isNone && !(fn.name == "runtime.NumGoroutine")) = true) (h1 : (Extern.findNext fn).isNone = true) (h2 : Extern.find fn = some Extern.BytealgCount.count) :
    VF P orc f [.v .str s, .v (.int .u8) c] (.v (.int .i64) ((s.data.toList.count c.toNat.toUInt8 : Nat) : Int)) :=
  VF.ext (us := [.string s, .int .u8 c]) hfn ho hb h1 h2 rfl (fun _ _ _ hr => repl_sb hr) (w := .int .i64 ((s.data.toList.count c.toNat.toUInt8 : Nat) : Int)) (by
    have e : runPure P (Extern.BytealgCount.count #[.string s, .int .u8 c]) = some (.int .i64 ((s.data.toList.count c.toNat.toUInt8 : Nat) : Int)) := by
      show runPure P (do let b ← Extern.Bytes.bytesOf (.string s); let c' ← Extern.Bytes.asByte (.int .u8 c); pure (goInt (b.foldl (fun n x => if x == c' then n + 1 else n) (0 : Nat)))) = _; simp only [Extern.Bytes.bytesOf, Extern.Bytes.asByte, runPure_bind, runPure_pure, Option.bind_some]; rw [Go.Lib.foldl_data, Go.Lib.count_foldl]; simp [goInt, Go.Lib.countByte]
    show ((runPure P (Extern.BytealgCount.count #[.string s, .int .u8 c])).bind fun v => if af v then some v else none) = _
    rw [e]; rfl) fun _ _ => RepV.ofInt _ _
end Go.Fs
namespace Go.Fs
open Go.Lib (indexByte)
theorem idx_none {c : UInt8} : ∀ {l : List UInt8}, indexByte l c < 0 → ∀ x ∈ l, x ≠ c
  | [], _, x, hx => by cases hx
  | b :: l, h, x, hx => by
    unfold indexByte at h; by_cases hb : b = c
    · rw [if_pos (by simp [hb])] at h; omega
    rw [if_neg (by simp [hb])] at h
    have ih : indexByte l c < 0 := by
      split at h
      · rename_i he; have := of_decide_eq_true he; omega
      have := Go.Lib.indexByte_ge l c; omega
    rcases List.mem_cons.1 hx with rfl | hx
    · exact hb
    exact idx_none ih x hx
theorem idx_some {c : UInt8} : ∀ {l : List UInt8} {k : Nat}, indexByte l c = ((k : Nat) : Int) → k < l.length ∧ (∀ x ∈ l.take k, x ≠ c) ∧ l.drop k = c :: l.drop (k + 1)
  | [], k, h => by
    unfold indexByte at h
    omega
  | b :: l, k, h => by
    unfold indexByte at h; by_cases hb : b = c
    · rw [if_pos (by simp [hb])] at h
      obtain rfl : k = 0 := by omega
      subst hb; exact ⟨by simp, fun x hx => by simp at hx, rfl⟩
    rw [if_neg (by simp [hb])] at h; split at h
    · omega
    rename_i he; have hge := Go.Lib.indexByte_ge l c; have hne : indexByte l c ≠ -1 := fun e => he (by rw [e]; rfl); obtain ⟨j, rfl⟩ : ∃ j, k = j + 1 := ⟨k - 1, by omega⟩; obtain ⟨h1, h2, h3⟩ := idx_some (c := c) (l := l) (k := j) (by omega); refine ⟨by simp; omega, fun x hx => ?_, by simpa using h3⟩; rw [List.take_succ_cons] at hx; rcases List.mem_cons.1 hx with rfl | hx
    · exact hb
    exact h2 x hx
theorem spl_idx {c : UInt8} {l : List UInt8} {k : Nat} (h : indexByte l c = ((k : Nat) : Int)) : splL c l = l.take k :: splL c (l.drop (k + 1)) := by
  obtain ⟨h1, h2, h3⟩ := idx_some h
  have e : l = l.take k ++ c :: l.drop (k + 1) := by rw [← h3, List.take_append_drop]
  have := spl_app (s := c) (w := l.take k) (r := l.drop (k + 1)) h2; rw [← e] at this; exact this
theorem spl_no {c : UInt8} {l : List UInt8} (h : indexByte l c < 0) : splL c l = [l] := spl_word (idx_none h)
theorem spl_len {c : UInt8} : ∀ l : List UInt8, (splL c l).length = l.count c + 1
  | [] => rfl
  | x :: r => by
    have ih := spl_len (c := c) r; by_cases h : x = c
    · subst h; rw [spl_sep, List.length_cons, ih, List.count_cons_self]
    cases hr : splL c r with
    | nil => exact absurd hr (spl_ne r)
    | cons w l =>
      rw [hr] at ih; rw [spl_cons h hr, List.length_cons, List.count_cons_of_ne h]; simpa using ih
def toL (s : ByteArray) : List UInt8 := s.data.toList
def ofL (l : List UInt8) : ByteArray := ⟨l.toArray⟩
theorem ofL_toL (s : ByteArray) : ofL (toL s) = s := rfl
theorem toL_ofL (l : List UInt8) : toL (ofL l) = l := rfl
theorem toL_len (s : ByteArray) : (toL s).length = s.size := by
  show s.data.toList.length = s.data.size; simp
theorem toL_app (s r : ByteArray) : toL (s ++ r) = toL s ++ toL r := by
  unfold toL; rw [ByteArray.data_append, Array.toList_append]
theorem toL_inj {s r : ByteArray} (h : toL s = toL r) : s = r := by rw [← ofL_toL s, ← ofL_toL r, h]
theorem toL_take (s : ByteArray) (k : Nat) : toL (s.extract 0 k) = (toL s).take k := by
  unfold toL; rw [ByteArray.data_extract, Array.toList_extract, List.extract_eq_take_drop, List.drop_zero, Nat.sub_zero]
theorem toL_drop (s : ByteArray) (k : Nat) : toL (s.extract k s.size) = (toL s).drop k := by
  have hl := toL_len s; unfold toL at hl ⊢; rw [ByteArray.data_extract, Array.toList_extract, List.extract_eq_take_drop, List.take_of_length_le (by rw [List.length_drop]; omega)]
def splS (c : UInt8) (s : ByteArray) : List ByteArray := (splL c (toL s)).map ofL
theorem splS_len {c : UInt8} {s : ByteArray} : (splS c s).length = (toL s).count c + 1 := by rw [splS, List.length_map, spl_len]
theorem splS_idx {c : UInt8} {s : ByteArray} {k : Nat} (h : indexByte (toL s) c = ((k : Nat) : Int)) : splS c s = s.extract 0 k :: splS c (s.extract (k + 1) s.size) := by
  unfold splS; rw [spl_idx h, List.map_cons, toL_drop, ← toL_take, ofL_toL]
theorem splS_no {c : UInt8} {s : ByteArray} (h : indexByte (toL s) c < 0) : splS c s = [s] := by
  unfold splS; rw [spl_no h]; rfl
theorem count_idx {c : UInt8} {l : List UInt8} {k : Nat} (h : indexByte l c = ((k : Nat) : Int)) : l.count c = (l.drop (k + 1)).count c + 1 := by
  have h1 := spl_len (c := c) l; rw [spl_idx h, List.length_cons, spl_len] at h1; omega
theorem count_no {c : UInt8} {l : List UInt8} (h : indexByte l c < 0) : l.count c = 0 := by
  have h1 := spl_len (c := c) l; rw [spl_no h] at h1; simpa using h1.symm
end Go.Fs
namespace Go.Proofs
open Go.Fs
set_option maxHeartbeats 1000000
theorem zIBS_ok {s : ByteArray} {c : Int} : VF Tryz.prog OA 163 [.v .str s, .v (.int .u8) c] (.v (.int .i64) (Go.Lib.indexByte (toL s) c.toNat.toUInt8)) := VF.idxByte Tryz.func163 (fun _ _ => rfl) (by kernel_rfl) (by kernel_rfl) (by kernel_rfl)
theorem zCntS_ok {s : ByteArray} {c : Int} : VF Tryz.prog OA 167 [.v .str s, .v (.int .u8) c] (.v (.int .i64) (((toL s).count c.toNat.toUInt8 : Nat) : Int)) := VF.cntByte Tryz.func167 (fun _ _ => rfl) (by kernel_rfl) (by kernel_rfl) (by kernel_rfl)
def sepB (p : ByteArray) : UInt8 := p.get! 0
theorem sepB_of {p : ByteArray} : (byteE p 0).toNat.toUInt8 = sepB p := by
  show ((((p.get! 0).toNat : Nat) : Int)).toNat.toUInt8 = p.get! 0; rw [Int.toNat_natCast]; exact UInt8.ofNat_toNat
theorem one_byte {p : ByteArray} (hp : p.size = 1) : ∃ c, p = ofL [c] := by
  have hl := toL_len p; rw [hp] at hl; obtain ⟨c, hc⟩ := List.length_eq_one_iff.1 hl; exact ⟨c, by rw [← hc, ofL_toL]⟩
theorem idx_self {p : ByteArray} (hp : p.size = 1) : Go.Lib.indexByte (toL p) (sepB p) = 0 := by
  obtain ⟨c, rfl⟩ := one_byte hp; show Go.Lib.indexByte [c] c = 0; unfold Go.Lib.indexByte; rw [if_pos (by simp)]
theorem zIB_ok {s : ByteArray} {c : Int} : VF Tryz.prog OA 141 [St s, .v (.int .u8) c] (I (Go.Lib.indexByte (toL s) c.toNat.toUInt8)) := by
  refine VF.enter Tryz.func141 rfl (fun _ _ => rfl) rfl ?_; show VC _ _ _ _ _ [(0, St s), (1, .v (.int .u8) c)] [] _; refine VC.seq (VC.text ?_); refine VO.c (.assign rfl) ?_; refine VO.go (VC.seq (VC.text ?_)); refine VO.c (.move rfl) (VO.c (.move rfl) ?_); refine VO.call rfl rfl (VF.call (zIBS_ok )) ?_; refine VO.c (.assign rfl) (VO.go ?_); refine VC.ret ?_; exact VEnd.one rfl evT (pvI (by rfl))
theorem zSIx_ok {s : ByteArray} {p : ByteArray} (hp : p.size = 1) : VF Tryz.prog OA 116 [St s, St p] (I (Go.Lib.indexByte (toL s) (sepB p))) := by
  refine VF.enter Tryz.func116 rfl (fun _ _ => rfl) rfl ?_; show VC _ _ _ _ _ [(0, St s), (1, St p)] [] _; refine VC.seq (VC.text ?_); refine VO.c (.assign rfl) ?_; refine VO.go (VC.seq (VC.text ?_)); refine VO.c (.move rfl) ?_; refine VO.r (.lenS) ?_; refine VO.c (.assign rfl) ?_; refine VO.go (VC.seq (VC.block (VC.seq (VC.text ?_)))); refine VO.c (.move rfl) (VO.c (.eql) (VO.c (.move rfl) ?_)); refine VO.cg (r := decide (((p.size : Nat) : Int) = (0 : Int))) (w := false) [] trivial (fun _ => (.move rfl)) ?_; refine VO.cg (r := decide (((p.size : Nat) : Int) = (0 : Int))) (w := false) [] trivial (fun _ => (.move rfl)) ?_; refine VO.cg (r := decide (((p.size : Nat) : Int) = (0 : Int))) (w := false) [(20, St p), (21, St s)] ⟨rfl, rfl, trivial⟩ (fun _ => (.seql)) ?_; refine VO.c (.or) (VO.c (.assign rfl) (VO.go ?_)); refine VC.condB rfl (fun c2 => ?_) (fun c2 => ?_)
  · try simp only [Bool.and_eq_true, Bool.or_eq_true, Bool.and_eq_false_iff, Bool.or_eq_false_iff, Bool.not_eq_true', Bool.not_eq_false', decide_eq_true_eq, decide_eq_false_iff_not] at c2
    refine VC.seq (VC.text ?_); refine VO.c (.assign rfl) (VO.go ?_); refine VC.ret ?_; exact VEnd.one rfl evT (pvI (by rcases c2 with h | h; exact absurd h (by omega); rw [← h, idx_self hp]))
  try simp only [Bool.and_eq_true, Bool.or_eq_true, Bool.and_eq_false_iff, Bool.or_eq_false_iff, Bool.not_eq_true', Bool.not_eq_false', decide_eq_true_eq, decide_eq_false_iff_not] at c2
  refine VC.seq (VC.text ?_); refine VO.c (.move rfl) (VO.c (.eql) (VO.c (.assign rfl) (VO.go ?_))); refine VC.condD rfl (fun c4 => ?_) (fun c4 => ?_)
  · refine VC.seq (VC.text ?_); refine VO.c (.move rfl) (VO.c (.move rfl) (VO.c (.ixS rfl rfl (by omega) (by omega)) ?_)); refine VO.call rfl rfl (VF.call (zIB_ok )) ?_; refine VO.c (.assign rfl) (VO.go ?_); refine VC.ret ?_; exact VEnd.one rfl evT (pvI (by exact congrArg (Go.Lib.indexByte (toL s)) sepB_of))
  omega
theorem zIx_ok {s : ByteArray} {p : ByteArray} (hp : p.size = 1) : VF Tryz.prog OA 147 [St s, St p] (I (Go.Lib.indexByte (toL s) (sepB p))) := by
  refine VF.enter Tryz.func147 rfl (fun _ _ => rfl) rfl ?_; show VC _ _ _ _ _ [(0, St s), (1, St p)] [] _; refine VC.seq (VC.text ?_); refine VO.c (.assign rfl) ?_; refine VO.go (VC.seq (VC.text ?_)); refine VO.c (.move rfl) (VO.c (.move rfl) ?_); refine VO.call rfl rfl (VF.call (zSIx_ok hp)) ?_; refine VO.c (.assign rfl) (VO.go ?_); refine VC.ret ?_; exact VEnd.one rfl evT (pvI (by rfl))
theorem zCnt_ok {s : ByteArray} {p : ByteArray} (hp : p.size = 1) : VF Tryz.prog OA 146 [St s, St p] (I (((toL s).count (sepB p) : Nat) : Int)) := by
  refine VF.enter Tryz.func146 rfl (fun _ _ => rfl) rfl ?_; show VC _ _ _ _ _ [(0, St s), (1, St p)] [] _; refine VC.seq (VC.text ?_); refine VO.c (.assign rfl) ?_; refine VO.go (VC.seq (VC.seq (VC.text ?_))); refine VO.c (.move rfl) ?_; refine VO.r (.lenS) ?_; refine VO.c (.eql) (VO.go ?_); refine VC.condD rfl (fun c1 => ?_) (fun c1 => ?_)
  · omega
  refine VC.skip (VC.seq (VC.seq (VC.text ?_))); refine VO.c (.move rfl) ?_; refine VO.r (.lenS) ?_; refine VO.c (.eql) (VO.go ?_); refine VC.condD rfl (fun c3 => ?_) (fun c3 => ?_)
  · refine VC.seq (VC.text ?_); refine VO.c (.move rfl) (VO.c (.move rfl) (VO.c (.ixS rfl rfl (by omega) (by omega)) ?_)); refine VO.call rfl rfl (VF.call (zCntS_ok )) ?_; refine VO.c (.assign rfl) (VO.go ?_); refine VC.ret ?_; exact VEnd.one rfl evT (pvI (by exact congrArg (fun c => (((toL s).count c : Nat) : Int)) sepB_of))
  omega
def cutA (c : UInt8) (s : ByteArray) : ByteArray := if Go.Lib.indexByte (toL s) c < 0 then s else s.extract 0 (Go.Lib.indexByte (toL s) c).toNat
def cutR (c : UInt8) (s : ByteArray) : ByteArray := if Go.Lib.indexByte (toL s) c < 0 then ByteArray.empty else s.extract ((Go.Lib.indexByte (toL s) c).toNat + 1) s.size
theorem idx_lt {s : ByteArray} {c : UInt8} : Go.Lib.indexByte (toL s) c < ((s.size : Nat) : Int) := by
  have hl := toL_len s; by_cases h : 0 ≤ Go.Lib.indexByte (toL s) c
  · obtain ⟨k, hk⟩ := Int.eq_ofNat_of_zero_le h; have := (idx_some hk).1; omega
  omega
theorem zSCut_ok {s : ByteArray} {p : ByteArray} (hp : p.size = 1) (hs : s.size < 1000000) : VF Tryz.prog OA 92 [St s, St p] (.tup [St (cutA (sepB p) s), St (cutR (sepB p) s), B (decide (0 ≤ Go.Lib.indexByte (toL s) (sepB p)))]) := by
  refine VF.enter Tryz.func92 rfl (fun _ _ => rfl) rfl ?_; show VC _ _ _ _ _ [(0, St s), (1, St p)] [] _; refine VC.seq (VC.text ?_); refine VO.c (.assign rfl) (VO.c (.assign rfl) (VO.c (.assign rfl) ?_)); refine VO.go (VC.seq (VC.seq (VC.text ?_))); refine VO.c (.move rfl) (VO.c (.move rfl) ?_); refine VO.call rfl rfl (VF.call (zSIx_ok hp)) ?_; refine VO.c (.assign rfl) ?_; refine VO.go (VC.seq (VC.text ?_)); have hlt := idx_lt (s := s) (c := sepB p); refine VO.c (.move rfl) (VO.c (.geq) (VO.go ?_)); refine VC.condD rfl (fun c2 => ?_) (fun c2 => ?_)
  · refine VC.seq (VC.drawn ?_); refine VD.c (.move rfl) (VD.c (.move rfl) ?_); refine VD.r [] (.cutHS (by kernel_rfl) rfl rfl (by omega)) (.inl rfl) ?_; refine VD.c (.move rfl) (VD.c (.move rfl) (VD.c (.move rfl) (VD.nw [] ?_))); refine VD.r [] (.lenS) (.inl rfl) ?_; refine VD.c (.add rfl rfl (by omega)) ?_; refine VD.r [] (.cutLS (by kernel_rfl) rfl rfl (by omega)) (.inl rfl) ?_; refine VD.c (.assign rfl) (VD.c (.assign rfl) (VD.c (.assign rfl) (VD.go ?_))); refine VC.ret ?_; exact VEnd.three rfl evT evT evT (pvE (by rw [cutA, if_neg (by omega)])) (pvE (by rw [cutR, if_neg (by omega), hp]; congr 1; omega)) (pvE (by exact (decide_eq_true c2).symm))
  refine VC.skip (VC.seq (VC.text ?_)); refine VO.c (.move rfl) (VO.c (.assign rfl) (VO.c (.assign rfl) (VO.c (.assign rfl) ?_))); refine VO.go ?_; refine VC.ret ?_; exact VEnd.three rfl evT evT evT (pvE (by rw [cutA, if_pos (by omega)])) (pvE (by rw [cutR, if_pos (by omega)]; rfl)) (pvE (by exact (decide_eq_false c2).symm))
theorem zCut_ok {s : ByteArray} {p : ByteArray} (hp : p.size = 1) (hs : s.size < 1000000) : VF Tryz.prog OA 42 [St s, St p] (.tup [St (cutA (sepB p) s), St (cutR (sepB p) s), B (decide (0 ≤ Go.Lib.indexByte (toL s) (sepB p)))]) := by
  refine VF.enter Tryz.func42 rfl (fun _ _ => rfl) rfl ?_; show VC _ _ _ _ _ [(0, St s), (1, St p)] [] _; refine VC.seq (VC.text ?_); refine VO.c (.assign rfl) (VO.c (.assign rfl) (VO.c (.assign rfl) ?_)); refine VO.go (VC.seq (VC.text ?_)); refine VO.c (.move rfl) (VO.c (.move rfl) ?_); refine VO.call rfl rfl (VF.call (zSCut_ok hp hs)) ?_; refine VO.c (.extract) (VO.c (.extract) (VO.c (.extract) (VO.c (.assign rfl) ?_))); refine VO.c (.assign rfl) (VO.c (.assign rfl) (VO.go ?_)); refine VC.ret ?_; exact VEnd.three rfl evT evT evT (pvE (by rfl)) (pvE (by rfl)) (pvE (by rfl))
end Go.Proofs
namespace Go.Proofs
open Go.Fs
set_option maxHeartbeats 1000000
theorem el39 : ElT Tryz.prog 39 9 .str := elT_of (by kernel_rfl)
theorem zt9 : ZerT Tryz.prog 9 .str := zerT_of (z := .string ByteArray.empty) (by kernel_rfl) rfl rfl
theorem fillS {α : Type} {W : List α} {i n : Nat} {d x : α} (hn : W.length = n) (hi : i < W.length) (hx : W[i] = x) : (W.take i ++ List.replicate (n - i) d).set i x = W.take (i + 1) ++ List.replicate (n - (i + 1)) d := by
  have h1 : (W.take i).length = i := by rw [List.length_take]; omega
  rw [List.set_append_right _ _ (by omega), h1, Nat.sub_self, show n - i = (n - (i + 1)) + 1 by omega, List.replicate_succ, List.set_cons_zero, List.take_succ_eq_append_getElem hi, hx, List.append_assoc]; rfl
theorem fillN {α : Type} {W : List α} {i n : Nat} {d : α} (hn : W.length = n) (hi : i ≤ n) : (W.take i ++ List.replicate (n - i) d).length = n := by
  rw [List.length_append, List.length_take, List.length_replicate]; omega
theorem app_at {α : Type} {W A R : List α} {x : α} {i : Nat} (h : W = A ++ x :: R) (hA : A.length = i) : ∃ hi : i < W.length, W[i] = x := by
  subst h; refine ⟨by rw [List.length_append, List.length_cons]; omega, ?_⟩; subst hA; simp
theorem app_next {α : Type} {W R : List α} {x : α} {i : Nat} (h : W = W.take i ++ x :: R) (hi : i < W.length) : W = W.take (i + 1) ++ R := by
  obtain ⟨h1, h2⟩ := app_at (i := i) h (by rw [List.length_take]; omega); rw [List.take_succ_eq_append_getElem hi, h2, List.append_assoc]; exact h
theorem splS_one {c : UInt8} {s : ByteArray} (h : (toL s).count c = 0) : splS c s = [s] := by
  by_cases hx : Go.Lib.indexByte (toL s) c < 0
  · exact splS_no hx
  obtain ⟨m, hm⟩ := Int.eq_ofNat_of_zero_le (show 0 ≤ Go.Lib.indexByte (toL s) c by omega); have := count_idx hm; omega
theorem zGen_ok {s : ByteArray} {p : ByteArray} {sv : Int} {n : Int} (hp : p.size = 1) (hs : s.size < 100000) (hsv : sv = 0) (hn : n = -1) : VF Tryz.prog OA 117 [St s, St p, I sv, I n] (.v (.sl .str) (splS (sepB p) s)) := by
  refine VF.enter Tryz.func117 rfl (fun _ _ => rfl) rfl ?_; show VC _ _ _ _ _ [(0, St s), (1, St p), (2, I sv), (3, I n)] [] _; refine VC.seq (VC.text ?_); have hcl := List.count_le_length (a := sepB p) (l := toL s); rw [toL_len] at hcl; refine VO.c (.assign rfl) ?_; refine VO.go (VC.seq (VC.seq (VC.text ?_))); refine VO.c (.move rfl) (VO.c (.eql) (VO.go ?_)); refine VC.condD rfl (fun c1 => ?_) (fun c1 => ?_)
  · omega
  refine VC.skip (VC.seq (VC.seq (VC.text ?_))); refine VO.c (.move rfl) (VO.c (.seql) (VO.go ?_)); refine VC.condD rfl (fun c3 => ?_) (fun c3 => ?_)
  · rw [c3] at hp; cases hp
  refine VC.skip (VC.seq (VC.seq (VC.text ?_))); refine VO.c (.move rfl) (VO.c (.lss) (VO.go ?_)); refine VC.condD rfl (fun c5 => ?_) (fun c5 => ?_)
  · refine VC.text ?_; refine VO.c (.move rfl) (VO.c (.move rfl) ?_); refine VO.call rfl rfl (VF.call (zCnt_ok hp)) ?_; refine VO.c (.add rfl rfl (by omega)) (VO.c (.assign rfl) ?_); refine VO.go (VC.seq (VC.text ?_))
    have hmin : min ((((toL s).count (sepB p) : Nat) : Int) + 1) (((s.size : Nat) : Int) + 1) = (((toL s).count (sepB p) + 1 : Nat) : Int) := by omega
    have hwl := splS_len (c := sepB p) (s := s); refine VO.c (.move rfl) (VO.c (.move rfl) ?_); refine VO.r (.lenS) ?_; refine VO.c (.add rfl rfl (by omega)) (VO.c (.imin) ?_); rw [hmin]; refine VO.c (.assign rfl) ?_; refine VO.go (VC.seq (VC.text ?_)); refine VO.c (.move rfl) ?_; refine VO.cell (.make (k := ((toL s).count (sepB p) + 1)) rfl rfl el39 zt9 (by omega)) ?_; intro ww1; refine VO.c (.assign rfl) ?_; refine VO.go (VC.seq (VC.text ?_)); refine VO.c (.move rfl) (VO.c (.sub rfl rfl (by omega)) (VO.c (.assign rfl) ?_)); refine VO.go (VC.seq (VC.text ?_)); refine VO.c (.assign rfl) ?_; refine VO.go (VC.seq (VC.block ?_)); refine VC.keep [(0, St s), (1, St p), (2, I sv), (3, I ((((toL s).count (sepB p) + 1 : Nat) : Int) - (1 : Int))), (9, .raw ww1), (10, I ((0 : Nat) : Int))] ⟨rfl, rfl, rfl, rfl, rfl, rfl, trivial⟩ ?_; refine VC.loop (I := fun kk ff ss => ∃ (i : Nat) (S : ByteArray), kk = (toL s).count (sepB p) - i ∧ ff = [(0, St S), (1, St p), (2, I sv), (3, I ((((toL s).count (sepB p) + 1 : Nat) : Int) - (1 : Int))), (9, .raw ww1), (10, I ((i : Nat) : Int))] ∧ ss = [(ww1, .row 9 .str ((splS (sepB p) s).take i ++ List.replicate ((toL s).count (sepB p) + 1 - i) ByteArray.empty))] ∧ (i ≤ (toL s).count (sepB p)) ∧ (splS (sepB p) s = (splS (sepB p) s).take i ++ splS (sepB p) S) ∧ ((toL S).count (sepB p) + i = (toL s).count (sepB p)) ∧ (S.size ≤ s.size)) ?_ _ _ _ ⟨0, s, rfl, rfl, rfl, (by omega), (by rfl), (by rfl), (by exact Nat.le_refl _)⟩; rintro kk ff ss ⟨i, S, hk0, rfl, rfl, hi, hS, hc, hz⟩; have hfl := fillN (d := ByteArray.empty) hwl (i := i) (by omega); refine VC.seq (VC.seq (VC.text ?_)); refine VO.c (.move rfl) (VO.c (.move rfl) (VO.c (.lss) (VO.go ?_))); refine VC.condD rfl (fun c11 => ?_) (fun c11 => ?_)
    · have hit : i < (toL s).count (sepB p) := by omega
      have hge := Go.Lib.indexByte_ge (toL S) (sepB p); have hlt := idx_lt (s := S) (c := sepB p); refine VC.skip (VC.block (VC.seq (VC.text ?_))); refine VO.c (.move rfl) (VO.c (.move rfl) ?_); refine VO.call rfl rfl (VF.call (zIx_ok hp)) ?_; refine VO.c (.assign rfl) ?_; refine VO.go (VC.seq (VC.seq (VC.text ?_))); refine VO.c (.move rfl) (VO.c (.lss) (VO.go ?_)); refine VC.condD rfl (fun c13 => ?_) (fun c13 => ?_)
      · have := count_no (l := toL S) c13; omega
      obtain ⟨m, hm⟩ := Int.eq_ofNat_of_zero_le (show 0 ≤ Go.Lib.indexByte (toL S) (sepB p) by omega)
      have he1 : (Go.Lib.indexByte (toL S) (sepB p) + sv).toNat = m := by omega
      have he2 : (Go.Lib.indexByte (toL S) (sepB p) + ((p.size : Nat) : Int)).toNat = m + 1 := by omega
      have hsp := splS_idx hm; have hcn := count_idx hm; have hS2 := hS; rw [hsp] at hS2; have hnx := app_next hS2 (by omega); obtain ⟨hw1, hw2⟩ := app_at (i := i) hS2 (by rw [List.length_take]; omega); have hset := fillS (d := ByteArray.empty) hwl (by omega) hw2
      have hzl : (S.extract (m + 1) S.size).size ≤ S.size := by
        have h7 := congrArg List.length (toL_drop S (m + 1)); rw [toL_len, List.length_drop, toL_len] at h7; omega
      refine VC.skip (VC.seq (VC.text ?_)); refine VO.c (.move rfl) (VO.c (.move rfl) (VO.c (.move rfl) (VO.c (.move rfl) ?_))); refine VO.c (.move rfl) (VO.c (.add rfl rfl (by omega)) ?_); refine VO.r (.cutHS (by kernel_rfl) rfl rfl (by omega)) ?_; rw [he1]; refine VO.c (.ixO (j := i) rfl rfl m0 el39 (by omega)) ?_; refine VO.setE i rfl rfl vt9 (by omega) ?_; refine VO.go (VC.seq (VC.text ?_)); refine VO.c (.move rfl) (VO.c (.move rfl) (VO.c (.move rfl) ?_)); refine VO.r (.lenS) ?_; refine VO.c (.add rfl rfl (by omega)) ?_; refine VO.r (.cutLS (by kernel_rfl) rfl rfl (by omega)) ?_; rw [he2]; refine VO.c (.assign rfl) ?_; refine VO.go (VC.text ?_); refine VO.c (.move rfl) (VO.c (.add rfl rfl (by omega)) (VO.c (.assign rfl) ?_)); refine VO.nil ?_; refine ⟨_, [(0, St (S.extract (m + 1) S.size)), (1, St p), (2, I sv), (3, I ((((toL s).count (sepB p) + 1 : Nat) : Int) - (1 : Int))), (9, .raw ww1), (10, I (((i + 1) : Nat) : Int))], ?_, ⟨slE rfl (by first | rfl | simp | omega), rfl, rfl, rfl, rfl, rfl, trivial⟩, (i + 1), (S.extract (m + 1) S.size), rfl, rfl, (by rw [hset]), (by omega), (by exact hnx), (by rw [toL_drop]; omega), (by exact Nat.le_trans hzl hz)⟩; omega
    have hic : i = (toL s).count (sepB p) := by omega
    have hS4 := hS; rw [splS_one (s := S) (by omega)] at hS4; obtain ⟨hw1, hw2⟩ := app_at (i := i) hS4 (by rw [List.length_take]; omega); have hset := fillS (d := ByteArray.empty) hwl hw1 hw2
    have hall : ((splS (sepB p) s).take i ++ List.replicate ((toL s).count (sepB p) + 1 - i) ByteArray.empty).set i S = splS (sepB p) s := by
      rw [hset, List.take_of_length_le (by omega), show (toL s).count (sepB p) + 1 - (i + 1) = 0 by omega]; simp
    refine VC.exit (VC.seq (VC.text ?_)); refine VO.c (.move rfl) (VO.c (.move rfl) (VO.c (.move rfl) (VO.c (.ixO (j := i) rfl rfl m0 el39 (by omega)) ?_))); refine VO.setE i rfl rfl vt9 (by omega) ?_; refine VO.go (VC.seq (VC.text ?_)); refine VO.c (.move rfl) (VO.c (.move rfl) (VO.c (.add rfl rfl (by omega)) ?_)); refine VO.shut [(9, .v (.sl .str) (((splS (sepB p) s).take i ++ List.replicate ((toL s).count (sepB p) + 1 - i) ByteArray.empty).set i S)), (58, .v (.sl .str) (((splS (sepB p) s).take i ++ List.replicate ((toL s).count (sepB p) + 1 - i) ByteArray.empty).set i S)), (62, .v (.sl .str) (((splS (sepB p) s).take i ++ List.replicate ((toL s).count (sepB p) + 1 - i) ByteArray.empty).set i S))] (.cons rfl (.row m0) (.cons rfl (.row m0) (.cons rfl (.row m0) .nil))) ?_; refine VO.r (.cutH rfl rfl el39 (by rw [List.length_set]; omega)) ?_; refine VO.c (.assign rfl) (VO.go ?_); refine VC.ret ?_; exact VEnd.one rfl evT (pvE (by rw [hall, List.take_of_length_le (by omega)]))
  omega
theorem zSplit_ok {s : ByteArray} {p : ByteArray} (hp : p.size = 1) (hs : s.size < 100000) : VF Tryz.prog OA 93 [St s, St p] (.v (.sl .str) (splS (sepB p) s)) := by
  refine VF.enter Tryz.func93 rfl (fun _ _ => rfl) rfl ?_; show VC _ _ _ _ _ [(0, St s), (1, St p)] [] _; refine VC.seq (VC.text ?_); refine VO.c (.assign rfl) ?_; refine VO.go (VC.seq (VC.text ?_)); refine VO.c (.move rfl) (VO.c (.move rfl) ?_); refine VO.call rfl rfl (VF.call (zGen_ok hp hs rfl rfl)) ?_; refine VO.c (.assign rfl) (VO.go ?_); refine VC.ret ?_; exact VEnd.one rfl evT (pvE (by rfl))
end Go.Proofs
namespace Go.Proofs
open Go.Fs
set_option maxHeartbeats 1000000
abbrev y76 : Ty := (.sl (.int .u8))
theorem vt76 : ValT Tryz.prog 76 y76 := valT_of (by kernel_rfl)
theorem el76 : ElT Tryz.prog 76 5 (.int .u8) := elT_of (by kernel_rfl)
theorem zWrite_ok {b : Nat} {a u : Value} {acc s : ByteArray} (hsz : acc.size + s.size ≤ 1000000) (ha : a = .pointer none ∨ a = bP b) (hn : acc.size = 0 → u = .slice none 0 0) :
    VFG Tryz.prog OA 38 [.raw (bP b), St s] [(bW b, .cel 78 0 [.raw a, .raw u]), (u, .row 5 (.int .u8) (bytesI acc))] (fun r γ' => ∃ u', r = .tup [I ((s.size : Nat) : Int), .raw .nilIface] ∧ γ' = [(bW b, .cel 78 0 [.raw (bP b), .raw u']), (u', .row 5 (.int .u8) (bytesI (acc ++ s)))] ∧ ((acc ++ s).size = 0 → u' = .slice none 0 0)) := by
  refine VFG.enterK Tryz.func38 rfl (fun _ _ => rfl) rfl ?_; show VC _ _ _ _ _ [(0, .raw (bP b)), (1, St s)] [(bW b, .cel 78 0 [.raw a, .raw u]), (u, .row 5 (.int .u8) (bytesI acc))] _; refine VC.seq (VC.text ?_); refine VO.c (.assign rfl) (VO.c (.assign rfl) ?_); refine VO.go (VC.seq (VC.text ?_)); refine VO.c (.move rfl) ?_; refine VO.callG [(bW b, .cel 78 0 [.raw a, .raw u])] rfl rfl rfl (VFG.call (VFG.cop (O := orcA 89 39 5) (tb := 78) (fun _ _ => rfl) ha)) ?_; rintro _ _ ⟨rfl, rfl⟩; show VO _ _ _ _ _ _ [(bW b, .cel 78 0 [.raw (bP b), .raw u]), (u, .row 5 (.int .u8) (bytesI acc))] _; refine VO.go (VC.seq (VC.text ?_)); refine VO.c (.move rfl) (VO.c (.move rfl) (VO.c (.nilP) (VO.c (.faB (k := 1) m0) ?_))); refine VO.r (.ldB m0 vt76) ?_; refine VO.c (.move rfl) ?_; refine VO.perm swap1 ?_; refine VO.mk (MakeV.appS el76 (by kernel_rfl) rfl rfl hsz hn) ?_; rintro _ _ ⟨u', ⟨rfl, rfl⟩, hn2⟩; refine VO.c (.nilP) (VO.c (.faB (k := 1) m1) ?_); refine VO.perm swap1 ?_; refine VO.one m1 fun ho => ?_; refine VO.mk0 (MakeV.stB vt76 rfl rfl ho) ?_; rintro _ _ ⟨rfl, rfl⟩; refine VO.go (VC.seq (VC.text ?_)); refine VO.c (.move rfl) ?_; refine VO.r (.lenS) ?_; refine VO.c (.assign rfl) (VO.c (.assign rfl) (VO.go ?_)); refine VC.ret ?_; exact ⟨rfl, [I ((s.size : Nat) : Int), .raw .nilIface], .cons evT (.cons evT .nil), ⟨u', rfl, rfl, hn2⟩, bld_keep⟩
theorem zStr_ok {b : Nat} {a u : Value} {acc : ByteArray} (hsz : acc.size ≤ 1000000) (hn : acc.size = 0 → u = .slice none 0 0) :
    VFG Tryz.prog OA 40 [.raw (bP b)] [(bW b, .cel 78 0 [.raw a, .raw u]), (u, .row 5 (.int .u8) (bytesI acc))] (fun r γ' => r = St acc ∧ γ' = [(bW b, .cel 78 0 [.raw a, .raw u])]) := by
  refine VFG.enterK Tryz.func40 rfl (fun _ _ => rfl) rfl ?_; show VC _ _ _ _ _ [(0, .raw (bP b))] [(bW b, .cel 78 0 [.raw a, .raw u]), (u, .row 5 (.int .u8) (bytesI acc))] _; refine VC.seq (VC.text ?_); refine VO.c (.assign rfl) ?_; refine VO.go (VC.seq (VC.drawn ?_)); refine VD.c (.move rfl) (VD.c (.nilP) ?_); refine VD.co (.faB (k := 1) m0) ?_; refine VD.r [(bW b, .cel 78 0 [.raw a, .raw u]), (u, .row 5 (.int .u8) (bytesI acc))] (.ldB m0 vt76) (.inr ⟨rfl, rfl⟩) ?_; refine VD.r [(bW b, .cel 78 0 [.raw a, .raw u]), (u, .row 5 (.int .u8) (bytesI acc))] (.sd rfl m1 hn) (.inr ⟨rfl, rfl⟩) ?_; refine VD.c (.move rfl) (VD.c (.nilP) ?_); refine VD.co (.faB (k := 1) m0) ?_; refine VD.r [(bW b, .cel 78 0 [.raw a, .raw u]), (u, .row 5 (.int .u8) (bytesI acc))] (.ldB m0 vt76) (.inr ⟨rfl, rfl⟩) ?_; refine VD.r [(bW b, .cel 78 0 [.raw a, .raw u]), (u, .row 5 (.int .u8) (bytesI acc))] (.lenO m1 el76) (.inr ⟨rfl, rfl⟩) ?_; refine VD.perm swap1 ?_; refine VD.mk (MakeV.ustr (by kernel_rfl) (by kernel_rfl) rfl (by rw [← bytesI_len]; rfl) hsz hn) ?_; rintro _ _ tl ⟨rfl, rfl⟩; refine VD.c (.assign rfl) (VD.go ?_); refine VC.ret ?_; exact ⟨rfl, [St acc], .cons evT .nil, ⟨rfl, rfl⟩, bld_keep1⟩
end Go.Proofs
namespace Go.Proofs
open Go.Fs
set_option maxHeartbeats 1000000
theorem toL_mid (s : ByteArray) (f i : Nat) : toL (s.extract f i) = ((toL s).drop f).take (i - f) := by
  unfold toL; rw [ByteArray.data_extract, Array.toList_extract, List.extract_eq_take_drop]
theorem spl_cut {c : UInt8} {L : List UInt8} {k : Nat} (h : ∀ x ∈ L.take k, x ≠ c) (hk : k < L.length) (hc : L[k] = c) : splL c L = L.take k :: splL c (L.drop (k + 1)) := by
  have e : L = L.take k ++ c :: L.drop (k + 1) := by rw [← hc, ← List.drop_eq_getElem_cons hk, List.take_append_drop]
  have := spl_app (s := c) (w := L.take k) (r := L.drop (k + 1)) h; rw [← e] at this; exact this
theorem byteE_at {s : ByteArray} {i : Nat} (h : i < (toL s).length) : byteE s ((i : Nat) : Int) = ((((toL s)[i]).toNat : Nat) : Int) := by
  rw [byteE_nat]
  have h2 : i < s.data.size := by rw [toL_len] at h; exact h
  show (((s.data[i]!).toNat : Nat) : Int) = _; rw [getElem!_pos s.data i h2]; simp [toL]
def c8 (c : Int) : UInt8 := c.toNat.toUInt8
theorem c8_nat {c : Int} (h : 0 ≤ c ∧ c < 256) : (((c8 c).toNat : Nat) : Int) = c := by
  show (((UInt8.ofNat c.toNat).toNat : Nat) : Int) = c; rw [UInt8.toNat_ofNat']; omega
theorem c8_eq {c : Int} (h : 0 ≤ c ∧ c < 256) {x : UInt8} : (((x.toNat : Nat) : Int) = c) ↔ x = c8 c := by
  constructor
  · intro e; apply UInt8.toNat_inj.1; have := c8_nat h; omega
  rintro rfl; exact c8_nat h
structure SpS (s : ByteArray) (c : UInt8) (i f : Nat) (O : List ByteArray) : Prop where
  in_ : i ≤ (toL s).length → splL c (toL s) = O.map toL ++ splL c ((toL s).drop f) ∧ f ≤ i ∧ ∀ x ∈ ((toL s).drop f).take (i - f), x ≠ c
  out : (toL s).length < i → splL c (toL s) = O.map toL
theorem sps_0 {s : ByteArray} {c : UInt8} : SpS s c 0 0 [] := ⟨fun _ => ⟨rfl, Nat.le_refl _, fun x hx => by simp at hx⟩, fun h => by omega⟩
theorem sps_t {s : ByteArray} {c : UInt8} {i f : Nat} {O : List ByteArray} (h : SpS s c i f O) (hi : i ≤ (toL s).length) (hc : i = (toL s).length ∨ ∃ hk : i < (toL s).length, (toL s)[i] = c) : SpS s c (i + 1) (i + 1) (O ++ [s.extract f i]) := by
  obtain ⟨h1, h2, h3⟩ := h.in_ hi; by_cases he : i = (toL s).length
  · refine ⟨fun h => by omega, fun _ => ?_⟩; have h4 : ((toL s).drop f).take (i - f) = (toL s).drop f := List.take_of_length_le (by rw [List.length_drop]; omega); rw [h4] at h3; rw [h1, spl_word h3, List.map_append, List.map_singleton, toL_mid, h4]
  obtain ⟨hk, hx⟩ := hc.resolve_left he; refine ⟨fun _ => ⟨?_, Nat.le_refl _, fun x hx => by simp at hx⟩, fun h => by omega⟩; have h5 := spl_cut (L := (toL s).drop f) (k := i - f) h3 (by rw [List.length_drop]; omega) (by rw [List.getElem_drop]; simp only [show f + (i - f) = i by omega]; exact hx); rw [h1, h5, List.drop_drop, List.map_append, List.map_singleton, toL_mid, List.append_assoc, show f + (i - f + 1) = i + 1 by omega]; rfl
theorem sps_f {s : ByteArray} {c : UInt8} {i f : Nat} {O : List ByteArray} (h : SpS s c i f O) (hi : i < (toL s).length) (hc : (toL s)[i] ≠ c) : SpS s c (i + 1) f O := by
  obtain ⟨h1, h2, h3⟩ := h.in_ (by omega); refine ⟨fun _ => ⟨h1, by omega, fun x hx => ?_⟩, fun h => by omega⟩; rw [show i + 1 - f = (i - f) + 1 by omega, List.take_succ_eq_append_getElem (by rw [List.length_drop]; omega)] at hx; rcases List.mem_append.1 hx with hx | hx
  · exact h3 x hx
  rw [List.mem_singleton.1 hx, List.getElem_drop]; simp only [show f + (i - f) = i by omega]; exact hc
theorem sps_end {s : ByteArray} {c : UInt8} {i f : Nat} {O : List ByteArray} (h : SpS s c i f O) (hi : (toL s).length < i) : O = splS c s := by
  unfold splS; rw [h.out hi, List.map_map]; exact (List.map_id'' (fun x => rfl) O).symm
theorem sps_len {s : ByteArray} {c : UInt8} {i f : Nat} {O : List ByteArray} (h : SpS s c i f O) : O.length ≤ s.size + 1 := by
  have h0 := spl_len (c := c) (toL s); have hc := List.count_le_length (a := c) (l := toL s); rw [toL_len] at hc; by_cases hi : i ≤ (toL s).length
  · have h1 := congrArg List.length (h.in_ hi).1; rw [List.length_append, List.length_map] at h1; omega
  have h1 := congrArg List.length (h.out (by omega)); rw [List.length_map] at h1; omega
theorem rSplit_ok {s : ByteArray} {c : Int} (hs : s.size < 100000) (hc : 0 ≤ c ∧ c < 256) : VF Tryz.prog OA 15 [St s, .v (.int .u8) c] (.v (.sl .str) (splS (c8 c) s)) := by
  refine VF.enter Tryz.func15 rfl (fun _ _ => rfl) rfl ?_; show VC _ _ _ _ _ [(0, St s), (1, .v (.int .u8) c)] [] _; refine VC.seq (VC.text ?_); have hl := toL_len s; refine VO.c (.assign rfl) ?_; refine VO.go (VC.seq (VC.text ?_)); refine VO.c (.assign rfl) ?_; refine VO.go (VC.seq (VC.text ?_)); refine VO.c (.assign rfl) ?_; refine VO.go (VC.seq (VC.seq (VC.text ?_))); refine VO.c (.assign rfl) ?_; refine VO.go (VC.block ?_); refine VC.cell0 9 .str ?_; refine VC.keep [(0, St s), (1, .v (.int .u8) c), (5, .raw (.slice none 0 0)), (6, I ((0 : Nat) : Int)), (7, I ((0 : Nat) : Int))] ⟨rfl, rfl, rfl, rfl, rfl, trivial⟩ ?_; refine VC.loop (I := fun kk ff ss => ∃ (i : Nat) (f : Nat) (O : List ByteArray) (w : Value), kk = s.size + 1 - i ∧ ff = [(0, St s), (1, .v (.int .u8) c), (5, .raw w), (6, I ((f : Nat) : Int)), (7, I ((i : Nat) : Int))] ∧ ss = [(w, .row 9 .str O)] ∧ (i ≤ s.size + 1) ∧ (SpS s (c8 c) i f O)) ?_ _ _ _ ⟨0, 0, [], (.slice none 0 0), rfl, rfl, rfl, (by omega), (by exact sps_0)⟩; rintro kk ff ss ⟨i, f, O, w, hk0, rfl, rfl, hi, hS⟩; refine VC.seq (VC.seq (VC.text ?_)); refine VO.c (.move rfl) (VO.c (.move rfl) ?_); refine VO.r (.lenS) ?_; refine VO.c (.leq) (VO.go ?_); refine VC.condD rfl (fun c4 => ?_) (fun c4 => ?_)
  · have his : i ≤ s.size := by omega
    have hfi := (hS.in_ (by omega)).2.1; have hol := sps_len hS; refine VC.skip (VC.seq (VC.block (VC.seq (VC.text ?_)))); refine VO.c (.move rfl) (VO.c (.move rfl) ?_); refine VO.r (.lenS) ?_; refine VO.c (.eql) (VO.c (.move rfl) ?_); refine VO.cg (r := decide (((i : Nat) : Int) = ((s.size : Nat) : Int))) (w := false) [] trivial (fun _ => (.move rfl)) ?_; refine VO.cg (r := decide (((i : Nat) : Int) = ((s.size : Nat) : Int))) (w := false) [] trivial (fun _ => (.move rfl)) ?_; refine VO.cg (r := decide (((i : Nat) : Int) = ((s.size : Nat) : Int))) (w := false) [(19, St s), (20, I ((i : Nat) : Int))] ⟨rfl, rfl, trivial⟩ (fun hgd => have g6_4 : ¬ (((i : Nat) : Int) = ((s.size : Nat) : Int)) := (by simpa using hgd); (.ixS rfl rfl (by omega) (by omega))) ?_; refine VO.cg (r := decide (((i : Nat) : Int) = ((s.size : Nat) : Int))) (w := false) [] trivial (fun _ => (.move rfl)) ?_; refine VO.cg (r := decide (((i : Nat) : Int) = ((s.size : Nat) : Int))) (w := false) [(21, .v (.int .u8) (byteE s ((i : Nat) : Int))), (22, .v (.int .u8) c)] ⟨rfl, rfl, trivial⟩ (fun _ => (.eql)) ?_; refine VO.c (.or) (VO.go ?_); refine VC.condB rfl (fun c6 => ?_) (fun c6 => ?_)
    · try simp only [Bool.and_eq_true, Bool.or_eq_true, Bool.and_eq_false_iff, Bool.or_eq_false_iff, Bool.not_eq_true', Bool.not_eq_false', decide_eq_true_eq, decide_eq_false_iff_not] at c6
      have hcc : i = s.size ∨ byteE s ((i : Nat) : Int) = c := by omega
      have hS2 : SpS s (c8 c) (i + 1) (i + 1) (O ++ [s.extract f i]) := by
        refine sps_t hS (by omega) ?_; by_cases h7 : i = (toL s).length
        · exact .inl h7
        refine .inr ⟨by omega, (c8_eq hc).1 ?_⟩; rw [← byteE_at (by omega)]; rcases hcc with h | h
        · exact absurd (h.trans hl.symm) h7
        exact h
      refine VC.seq (VC.text ?_); refine VO.c (.move rfl) (VO.c (.move rfl) (VO.c (.move rfl) (VO.c (.move rfl) ?_))); refine VO.r (.cutLHS (by kernel_rfl) rfl rfl rfl (by omega) (by omega)) ?_; refine VO.new (.lit [(s.extract (((f : Nat) : Int)).toNat (((i : Nat) : Int)).toNat)] el39) ?_; refine VO.app rfl rfl el39 el39 (by simp; omega) ?_; intro ww1; refine VO.c (.assign rfl) ?_; refine VO.go (VC.text ?_); refine VO.c (.move rfl) (VO.c (.add rfl rfl (by omega)) (VO.c (.assign rfl) ?_)); refine VO.nil (VC.text ?_); refine VO.c (.move rfl) (VO.c (.add rfl rfl (by omega)) (VO.c (.assign rfl) ?_)); refine VO.nil ?_; refine ⟨_, [(0, St s), (1, .v (.int .u8) c), (5, .raw ww1), (6, I (((if (i = s.size ∨ byteE s ((i : Nat) : Int) = c) then i + 1 else f) : Nat) : Int)), (7, I (((i + 1) : Nat) : Int))], ?_, ⟨rfl, rfl, rfl, slI rfl (by first | (rw [if_pos hcc]; rfl) | (rw [if_neg hcn])), rfl, trivial⟩, (i + 1), (if (i = s.size ∨ byteE s ((i : Nat) : Int) = c) then i + 1 else f), (if (i = s.size ∨ byteE s ((i : Nat) : Int) = c) then O ++ [s.extract f i] else O), ww1, rfl, rfl, (by first | (rw [if_pos hcc]; rfl) | (rw [if_neg hcn])), (by omega), (by first | (rw [if_pos hcc, if_pos hcc]; exact hS2) | (rw [if_neg hcn, if_neg hcn]; exact hS2))⟩; omega
    try simp only [Bool.and_eq_true, Bool.or_eq_true, Bool.and_eq_false_iff, Bool.or_eq_false_iff, Bool.not_eq_true', Bool.not_eq_false', decide_eq_true_eq, decide_eq_false_iff_not] at c6
    have hcn : ¬ (i = s.size ∨ byteE s ((i : Nat) : Int) = c) := by omega
    have hlt : i < (toL s).length := by omega
    have hS2 := sps_f hS hlt (fun e => hcn (.inr (by rw [byteE_at hlt]; exact (c8_eq hc).2 e))); refine VC.skip (VC.text ?_); refine VO.c (.move rfl) (VO.c (.add rfl rfl (by omega)) (VO.c (.assign rfl) ?_)); refine VO.nil ?_; refine ⟨_, [(0, St s), (1, .v (.int .u8) c), (5, .raw w), (6, I (((if (i = s.size ∨ byteE s ((i : Nat) : Int) = c) then i + 1 else f) : Nat) : Int)), (7, I (((i + 1) : Nat) : Int))], ?_, ⟨rfl, rfl, rfl, slI rfl (by first | (rw [if_pos hcc]; rfl) | (rw [if_neg hcn])), rfl, trivial⟩, (i + 1), (if (i = s.size ∨ byteE s ((i : Nat) : Int) = c) then i + 1 else f), (if (i = s.size ∨ byteE s ((i : Nat) : Int) = c) then O ++ [s.extract f i] else O), w, rfl, rfl, (by first | (rw [if_pos hcc]; rfl) | (rw [if_neg hcn])), (by omega), (by first | (rw [if_pos hcc, if_pos hcc]; exact hS2) | (rw [if_neg hcn, if_neg hcn]; exact hS2))⟩; omega
  refine VC.exit (VC.seq (VC.text ?_)); refine VO.c (.move rfl) (VO.c (.assign rfl) (VO.go ?_)); refine VC.ret ?_; exact VEnd.one rfl (evC (.row m0)) (pvE (by exact sps_end hS (by omega)))
end Go.Proofs
namespace Go.Fs
variable {P : Program} {orc : FuncId → List Value → Heap → Option (Value × Heap)} {h : Heap} {S : List Nat}
theorem digs_dec : ∀ (f n : Nat), n < 10 ^ (f + 1) → digs (f + 1) n = decL n
  | f, n, h => by
    unfold digs
    cases hb : Nat.blt n 10 with
    | true => rw [decL_lt (nblt hb)]; rfl
    | false =>
      have h1 : 10 ≤ n := by have := nble_no hb; omega
      rw [decL_ge h1]; simp only [cond_false]
      cases f with
      | zero => simp at h; omega
      | succ f => rw [digs_dec f (n / 10) (by rw [Nat.pow_succ] at h; omega)]; rfl
theorem itoaF_nat {k : Nat} (h : k < 1000000000000000000) : itoaF ((k : Nat) : Int) = decL k := by
  show digs 20 k = _; refine digs_dec 19 k ?_
  have : (10 : Nat) ^ (19 + 1) = 100000000000000000000 := by decide
  omega
theorem joinF_one {c : UInt8} : ∀ l : List (List UInt8), joinF [c] l = joiL c l
  | [] => rfl
  | [w] => rfl
  | w :: v :: r => by
    show w ++ [c] ++ joinF [c] (v :: r) = w ++ c :: joiL c (v :: r); rw [joinF_one (v :: r), List.append_assoc]; rfl
theorem strs_ofs : ∀ l : List ByteArray, strs (l.map .string) = some l
  | [] => rfl
  | s :: r => by
    show (strs (r.map .string)).map (s :: ·) = _; rw [strs_ofs r]; rfl
theorem VF.itoa {f : FuncId} {n : Int} (hO : ∀ us h, orc f us h = (match us with | [.int .i64 n] => bif decide (-1000000000000000000 < n) && decide (n < 1000000000000000000) then some (.string ⟨(itoaF n).toArray⟩, h) else none | _ => none)) (h0 : -1000000000000000000 < n) (h1 : n < 1000000000000000000) :
    VF P orc f [.v (.int .i64) n] (.v .str (ofL (itoaF n))) := fun h S us hok hS hr => by
  obtain ⟨u, r, rfl, h2, h3⟩ := hr; obtain rfl : r = [] := h3; obtain rfl := RepV.int h2
  have ho : orc f [.int .i64 n] h = some (.string ⟨(itoaF n).toArray⟩, h) := by
    rw [hO]; simp only [decide_eq_true h0, decide_eq_true h1, Bool.and_self, cond_true]
  exact EvF.oracle ho ⟨Aft.refl _ _, RepV.ofStr _, fun _ => rfl⟩
theorem VF.join {f : FuncId} {ss : List ByteArray} {sep : ByteArray} (hO : ∀ us h, orc f us h = (match us with
    | [.slice (some ⟨b, o, none⟩) n _, .string sep] =>
      match h.get b with
      | some (.row _ cs _ _) =>
        bif Nat.ble (o + n) cs.length && Nat.ble n 1000000 then
          match strs ((cs.drop o).take n) with
          | some ss => let r := joinF sep.data.toList (ss.map (·.data.toList))
            bif Nat.ble r.length 1000000000 then some (.string ⟨r.toArray⟩, h) else none
          | none => none
        else none
      | _ => none
    | _ => none)) (h0 : 0 < ss.length) (h1 : ss.length ≤ 1000000) (h2 : (joinF (toL sep) (ss.map toL)).length ≤ 1000000000) :
    VF P orc f [.v (.sl .str) ss, .v .str sep] (.v .str (ofL (joinF (toL sep) (ss.map toL)))) := fun h S us hok hS hr => by
  obtain ⟨u, r, rfl, g1, u2, r2, rfl, g2, g3⟩ := hr; obtain rfl : r2 = [] := g3; obtain rfl := RepV.str g2; obtain ⟨b, o, mk, e', rs, own, more, rfl, hb, hg, hl, hel⟩ := (RepV.sl g1).row h0; have hl : o + ss.length * 1 ≤ rs.length := hl
  have hcs : (rs.drop o).take ss.length = ss.map .string := by
    refine List.ext_getElem (by simp; omega) fun i k1 k2 => ?_
    have hi : i < ss.length := by simpa using k2
    have h4 : (rs.drop (o + i * 1)).take 1 = [.string ss[i]] := hel i hi; rw [Nat.mul_one, List.drop_eq_getElem_cons (by omega)] at h4; have h5 := (List.cons.inj h4).1; rw [List.getElem_take, List.getElem_drop, List.getElem_map]; exact h5
  have ho : orc f [.slice (some ⟨b, o, none⟩) ss.length mk, .string sep] h = some (.string ⟨(joinF (toL sep) (ss.map toL)).toArray⟩, h) := by
    rw [hO]
    have e1 : Nat.ble (o + ss.length) rs.length = true := by rw [Nat.ble_eq]; omega
    have e2 : Nat.ble ss.length 1000000 = true := by rw [Nat.ble_eq]; exact h1
    have e3 : Nat.ble (joinF sep.data.toList (ss.map (·.data.toList))).length 1000000000 = true := by rw [Nat.ble_eq]; exact h2
    simp only [hg, e1, e2, Bool.and_self, cond_true, hcs, strs_ofs, e3]; rfl
  exact EvF.oracle ho ⟨Aft.refl _ _, RepV.ofStr _, fun _ => rfl⟩
end Go.Fs
namespace Go.Fs
variable {P : Program} {σ : Sto} {fl : VL} {x y : Operand} {T T' : TypeId} {k : IntKind} {p q : Int}
theorem CalmV.subK (hx : evV fl x = some (.v (.int k) p)) (hy : evV fl y = some (.v (.int k) q)) (h0 : k.wrap (p - q) = p - q) : CalmV P fl σ (.binOp .sub T x y T') (.v (.int k) (p - q)) :=
  CalmV.binI hx hy (u := .int k (p - q)) (by
    have e : binOp .sub T (.int k p) (.int k q) = pure (.int k (k.wrap (p - q))) := by cases k <;> rfl
    show purely P (do eqGuard .sub T x y (.int k p) (.int k q); binOp .sub T (.int k p) (.int k q)) = _
    rw [e, h0]; rfl) fun h S => RepV.ofInt _ _
theorem wrap32 {n : Int} (h : -2147483648 ≤ n ∧ n < 2147483648) : IntKind.i32.wrap n = n := by
  unfold IntKind.wrap; simp only [IntKind.signed, IntKind.bits]; simp [Int.bmod]; omega
end Go.Fs
namespace Go.Proofs
open Go.Fs
set_option maxHeartbeats 1000000
def decS (n : Int) : ByteArray := ofL (itoaF n)
theorem zItoaI_ok {n : Int} (h : -1000000000000000000 < n ∧ n < 1000000000000000000) : VF Tryz.prog OA 89 [I n] (St (decS n)) := VF.itoa (fun us h => rfl) h.1 h.2
theorem zItoa_ok {n : Int} (h : -1000000000000000000 < n ∧ n < 1000000000000000000) : VF Tryz.prog OA 36 [I n] (St (decS n)) := by
  refine VF.enter Tryz.func36 rfl (fun _ _ => rfl) rfl ?_; show VC _ _ _ _ _ [(0, I n)] [] _; refine VC.seq (VC.text ?_); refine VO.c (.assign rfl) ?_; refine VO.go (VC.seq (VC.text ?_)); refine VO.c (.move rfl) ?_; refine VO.call rfl rfl (VF.call (zItoaI_ok h)) ?_; refine VO.c (.assign rfl) (VO.go ?_); refine VC.ret ?_; exact VEnd.one rfl evT (pvE (by rfl))
def joinS (c : UInt8) (ss : List ByteArray) : ByteArray := ofL (joiL c (ss.map toL))
theorem zJoin_ok {ss : List ByteArray} {p : ByteArray} (hp : p.size = 1) (h0 : 0 < ss.length) (h1 : ss.length ≤ 1000000) (h2 : (joiL (sepB p) (ss.map toL)).length ≤ 1000000000) : VF Tryz.prog OA 39 [.v (.sl .str) ss, St p] (St (joinS (sepB p) ss)) := by
  obtain ⟨c, rfl⟩ := one_byte hp; have e : joinF (toL (ofL [c])) (ss.map toL) = joiL (sepB (ofL [c])) (ss.map toL) := joinF_one _; have h := VF.join (P := Tryz.prog) (orc := OA) (f := 39) (ss := ss) (sep := ofL [c]) (fun us h => rfl) h0 h1 (by rw [e]; exact h2); rw [e] at h; exact h
theorem cMapIS_ok {F : Int → ByteArray} {l : List Int} {f : PV} (hl : l.length < 100000) (hf : ∀ x ∈ l, VCall Tryz.prog OA f [I x] (St (F x))) : VF Tryz.prog OA 37 [.v y41 l, f] (.v (.sl .str) (l.map F)) := by
  refine VF.enter Tryz.func37 rfl (fun _ _ => rfl) rfl ?_; show VC _ _ _ _ _ [(0, .v y41 l), (1, f)] [] _; refine VC.seq (VC.text ?_); refine VO.c (.assign rfl) ?_; refine VO.go (VC.seq (VC.text ?_)); refine VO.c (.assign rfl) ?_; refine VO.go (VC.seq (VC.seq (VC.text ?_))); refine VO.c (.move rfl) ?_; refine VO.r (.len el41) ?_; refine VO.c (.move rfl) ?_; refine VO.go (VC.block ?_); refine VC.cell0 9 .str ?_; refine VC.keep [(1, f), (5, .raw (.slice none 0 0)), (8, .v y41 l), (9, I ((l.length : Nat) : Int)), (10, I ((0 : Nat) : Int))] ⟨rfl, rfl, rfl, rfl, rfl, trivial⟩ ?_; refine VC.loop (I := fun kk ff ss => ∃ (j : Nat) (out : Value), kk = l.length - j ∧ ff = [(1, f), (5, .raw out), (8, .v y41 l), (9, I ((l.length : Nat) : Int)), (10, I ((j : Nat) : Int))] ∧ ss = [(out, .row 9 .str ((l.take j).map F))] ∧ (j ≤ l.length)) ?_ _ _ _ ⟨0, (.slice none 0 0), rfl, rfl, rfl, Nat.zero_le _⟩; rintro kk ff ss ⟨j, out, hk0, rfl, rfl, hj⟩; refine VC.seq (VC.text ?_); refine VO.c (.lss) ?_; refine VO.go (VC.seq ?_); refine VC.condD rfl (fun c3 => ?_) (fun c3 => ?_)
  · refine VC.skip (VC.seq (VC.block (VC.seq (VC.text ?_)))); refine VO.c (.ix (j := j) rfl rfl el41 (by omega)) ?_; refine VO.r (.ld vt3) ?_; refine VO.c (.assign rfl) ?_; refine VO.go (VC.text ?_); refine VO.c (.move rfl) (VO.c (.move rfl) (VO.c (.move rfl) ?_)); refine VO.call rfl rfl ((hf _ (List.getElem_mem _)) ) ?_; refine VO.new (.lit [F (l[j])] el39) ?_; refine VO.app rfl rfl el39 el39 (by simp; omega) ?_; intro ww1; refine VO.c (.assign rfl) ?_; refine VO.nil (VC.text ?_); refine VO.c (.add rfl rfl (by omega)) (VO.c (.move rfl) ?_); refine VO.nil ?_; refine ⟨_, [(1, f), (5, .raw ww1), (8, .v y41 l), (9, I ((l.length : Nat) : Int)), (10, I (((j + 1) : Nat) : Int))], ?_, ⟨rfl, rfl, rfl, rfl, rfl, trivial⟩, (j + 1), ww1, rfl, rfl, (by rw [List.take_succ_eq_append_getElem (by omega), List.map_append] <;> rfl), (by omega)⟩; omega
  refine VC.exit (VC.seq (VC.text ?_)); refine VO.c (.move rfl) (VO.c (.assign rfl) (VO.go ?_)); refine VC.ret ?_; exact VEnd.one rfl (evC (.row m0)) (pvE (by rw [List.take_of_length_le (by omega)]))
def numV (s : ByteArray) : Int := (((numL (toL s)).getD 0 : Nat) : Int)
def numK (s : ByteArray) : Bool := (numL (toL s)).isSome
theorem numK_f {s : ByteArray} (h : (toL s = [] ∨ 9 < (toL s).length) ∨ (1 < (toL s).length ∧ ((toL s).headD 0).toNat = 48) ∨ (toL s).all digB = false) : numV s = 0 ∧ numK s = false := by
  have e : numL (toL s) = none := if_pos h; unfold numV numK; rw [e]; exact ⟨rfl, rfl⟩
theorem numK_t {s : ByteArray} (h : ¬ ((toL s = [] ∨ 9 < (toL s).length) ∨ (1 < (toL s).length ∧ ((toL s).headD 0).toNat = 48) ∨ (toL s).all digB = false)) : numV s = ((valL (toL s) 0 : Nat) : Int) ∧ numK s = true := by
  have e : numL (toL s) = some (valL (toL s) 0) := if_neg h; unfold numV numK; rw [e]; exact ⟨rfl, rfl⟩
theorem head_at {s : ByteArray} (h : 0 < (toL s).length) : byteE s 0 = ((((toL s).headD 0).toNat : Nat) : Int) := by
  have h1 := byteE_at (s := s) (i := 0) h
  have h2 : (toL s).headD 0 = (toL s)[0] := by
    generalize toL s = l at h
    cases l with
    | nil => simp at h
    | cons x r => rfl
  rw [h2]; exact h1
theorem val_take {s : ByteArray} {i : Nat} (h : i < (toL s).length) : valL ((toL s).take (i + 1)) 0 = 10 * valL ((toL s).take i) 0 + (((toL s)[i]).toNat - 48) := by
  rw [List.take_succ_eq_append_getElem h, valL_snoc]
theorem val_lt : ∀ (k : Nat) (w : List UInt8), w.length = k → (∀ c ∈ w, digB c = true) → valL w 0 < 10 ^ k
  | 0, w, hk, _ => by
    obtain rfl := List.eq_nil_of_length_eq_zero hk
    decide
  | k + 1, w, hk, hd => by
    obtain ⟨r, c, rfl⟩ := snoc_ex (w := w) (fun e => by rw [e] at hk; simp at hk); have h1 := val_lt k r (by simpa using hk) fun c hc => hd c (List.mem_append_left _ hc); have h2 := of_decide_eq_true (hd c (List.mem_append_right _ (List.mem_singleton.2 rfl))); rw [valL_snoc, Nat.pow_succ]; omega
theorem val_b {s : ByteArray} {i : Nat} (hi : i ≤ 9) (hs : i ≤ (toL s).length) (hd : ∀ c ∈ (toL s).take i, digB c = true) : valL ((toL s).take i) 0 < 1000000000 := by
  have h1 := val_lt i ((toL s).take i) (by rw [List.length_take]; omega) hd; have h2 : 10 ^ i ≤ 10 ^ 9 := Nat.pow_le_pow_right (by decide) hi
  have h3 : (10 : Nat) ^ 9 = 1000000000 := by decide
  omega
theorem dig_byte {s : ByteArray} {i : Nat} (h : i < (toL s).length) : digB (toL s)[i] = true ↔ ¬ (byteE s ((i : Nat) : Int) < 48 ∨ 57 < byteE s ((i : Nat) : Int)) := by
  rw [byteE_at h]; unfold digB; rw [decide_eq_true_eq]; omega
theorem all_no {s : ByteArray} {i : Nat} (h : i < (toL s).length) (hd : ¬ digB (toL s)[i] = true) : (toL s).all digB = false := by
  cases hc : (toL s).all digB with
  | false => rfl
  | true => exact absurd (List.all_eq_true.1 hc _ (List.getElem_mem h)) hd
theorem all_yes {s : ByteArray} (hd : ∀ c ∈ toL s, digB c = true) : ¬ (toL s).all digB = false := by
  rw [List.all_eq_true.2 hd]; decide
end Go.Proofs
namespace Go.Proofs
open Go.Fs
set_option maxHeartbeats 1000000
def numP (s : ByteArray) : Int := if (toL s).all digB = true ∧ (toL s).length ≤ 9 then ((valL (toL s) 0 : Nat) : Int) else 0
theorem rune_dig {s : ByteArray} {p : Nat} (h : ¬ (((((Utf8.decode s p).1 : Nat) : Int) < 48) ∨ 57 < (((Utf8.decode s p).1 : Nat) : Int))) : (((Utf8.decode s p).1 : Nat) : Int) = byteE s ((p : Nat) : Int) ∧ (Utf8.decode s p).2 = 1 := by
  by_cases hl : (s.get! p).toNat < 128
  · rw [decode_low hl]; exact ⟨rfl, rfl⟩
  have := Go.Fs.decode_high hl; omega
theorem rune_no {s : ByteArray} {p : Nat} (h : (((((Utf8.decode s p).1 : Nat) : Int) < 48) ∨ 57 < (((Utf8.decode s p).1 : Nat) : Int))) : byteE s ((p : Nat) : Int) < 48 ∨ 57 < byteE s ((p : Nat) : Int) := by
  by_cases hl : (s.get! p).toNat < 128
  · rw [decode_low hl] at h; exact h
  rw [byteE_nat]; omega
theorem numP_no {s : ByteArray} (h : (toL s).all digB = false ∨ 9 < (toL s).length) : numP s = 0 ∧ numK s = false := by
  refine ⟨if_neg fun hh => ?_, (numK_f (h.elim (fun h => .inr (.inr h)) fun h => .inl (.inr h))).2⟩; rcases h with h | h
  · rw [hh.1] at h; cases h
  omega
theorem numP_yes {s : ByteArray} (hd : ∀ c ∈ toL s, digB c = true) (h9 : (toL s).length ≤ 9) : numP s = ((valL (toL s) 0 : Nat) : Int) := if_pos ⟨List.all_eq_true.2 hd, h9⟩
theorem numK_yes {s : ByteArray} (hd : ∀ c ∈ toL s, digB c = true) (h9 : (toL s).length ≤ 9) : numK s = decide (0 < s.size ∧ (s.size = 1 ∨ byteE s 0 ≠ 48)) := by
  have hl := toL_len s; by_cases h : 0 < s.size ∧ (s.size = 1 ∨ byteE s 0 ≠ 48)
  · rw [decide_eq_true h]; refine (numK_t fun hh => ?_).2; rcases hh with (hh | hh) | ⟨h1, h2⟩ | hh
    · rw [hh] at hl; simp at hl; omega
    · omega
    · have := head_at (s := s) (by omega); omega
    exact all_yes hd hh
  rw [decide_eq_false h]; refine (numK_f ?_).2; by_cases h0 : 0 < s.size
  · have := head_at (s := s) (by omega); exact .inr (.inl ⟨by omega, by omega⟩)
  exact .inl (.inl (List.eq_nil_of_length_eq_zero (by omega)))
theorem cInt_ok {s : ByteArray} (hs : s.size < 100000) : VF Tryz.prog OA 118 [St s] (.tup [I (numP s), B (numK s)]) := by
  refine VF.enter Tryz.func118 rfl (fun _ _ => rfl) rfl ?_; show VC _ _ _ _ _ [(0, St s)] [] _; refine VC.seq (VC.text ?_); refine VO.c (.assign rfl) (VO.c (.assign rfl) ?_); refine VO.go (VC.seq (VC.text ?_)); have hl := toL_len s; refine VO.c (.assign rfl) ?_; refine VO.go (VC.seq (VC.seq (VC.text ?_))); refine VO.c (.move rfl) ?_; refine VO.cell (.rng) ?_; intro ww1; refine VO.go (VC.block ?_); refine VC.keep [(0, St s), (4, I ((valL ((toL s).take 0) 0 : Nat) : Int)), (8, .raw ww1)] ⟨rfl, rfl, rfl, trivial⟩ ?_; refine VC.loop (I := fun kk ff ss => ∃ (p : Nat), kk = s.size - p ∧ ff = [(0, St s), (4, I ((valL ((toL s).take p) 0 : Nat) : Int)), (8, .raw ww1)] ∧ ss = [(ww1, .it s p)] ∧ (p ≤ s.size) ∧ (∀ c ∈ (toL s).take p, digB c = true) ∧ (p = 0 ∨ s.size ≤ 9)) ?_ _ _ _ ⟨0, rfl, rfl, rfl, Nat.zero_le _, (by intro c hc; rw [List.take_zero] at hc; cases hc), (by omega)⟩; rintro kk ff ss ⟨p, hk0, rfl, rfl, hp, hd, h9⟩; refine VC.seq (VC.text ?_); refine VO.next rfl (fun h3_0 => ?_) (fun h3_0 => ?_)
  · refine VO.c (.extract) ?_; refine VO.go (VC.seq ?_); refine VC.condT rfl ?_; refine VC.skip (VC.block (VC.seq (VC.text ?_)))
    have hit : p < (toL s).length := by omega
    have hat := byteE_at hit; have hbr := byteE_range s ((p : Nat) : Int); have hvt := val_take hit; refine VO.c (.extract) (VO.c (.assign rfl) ?_); refine VO.go (VC.seq (VC.seq (VC.text ?_))); refine VO.c (.move rfl) (VO.c (.lss) (VO.c (.move rfl) ?_)); refine VO.cg (r := decide ((((Utf8.decode s p).1 : Nat) : Int) < (48 : Int))) (w := false) [] trivial (fun _ => (.move rfl)) ?_; refine VO.cg (r := decide ((((Utf8.decode s p).1 : Nat) : Int) < (48 : Int))) (w := false) [(15, .v (.int .i32) (((Utf8.decode s p).1 : Nat) : Int))] ⟨rfl, trivial⟩ (fun _ => (.gtr)) ?_; refine VO.c (.or) (VO.c (.move rfl) ?_); refine VO.cg (r := ((decide ((((Utf8.decode s p).1 : Nat) : Int) < (48 : Int))) || (decide ((57 : Int) < (((Utf8.decode s p).1 : Nat) : Int))))) (w := false) [] trivial (fun _ => (.move rfl)) ?_; refine VO.rg (r := ((decide ((((Utf8.decode s p).1 : Nat) : Int) < (48 : Int))) || (decide ((57 : Int) < (((Utf8.decode s p).1 : Nat) : Int))))) (w := false) [(19, St s)] ⟨rfl, trivial⟩ (fun _ => (.lenS)) ?_; refine VO.cg (r := ((decide ((((Utf8.decode s p).1 : Nat) : Int) < (48 : Int))) || (decide ((57 : Int) < (((Utf8.decode s p).1 : Nat) : Int))))) (w := false) [(20, I ((s.size : Nat) : Int))] ⟨rfl, trivial⟩ (fun _ => (.gtr)) ?_; refine VO.c (.or) (VO.go ?_); refine VC.condB rfl (fun c5 => ?_) (fun c5 => ?_)
    · try simp only [Bool.and_eq_true, Bool.or_eq_true, Bool.and_eq_false_iff, Bool.or_eq_false_iff, Bool.not_eq_true', Bool.not_eq_false', decide_eq_true_eq, decide_eq_false_iff_not] at c5
      have hno := numP_no (s := s) (by
        by_cases h7 : 9 < (toL s).length
        · exact .inr h7
        exact .inl (all_no hit fun h => (dig_byte hit).1 h (rune_no (by omega))))
      refine VC.seq (VC.text ?_); refine VO.c (.assign rfl) (VO.c (.assign rfl) (VO.go ?_)); refine VC.ret ?_; exact VEnd.two rfl evT evT (pvI (by exact hno.1.symm)) (pvE (by exact hno.2.symm))
    try simp only [Bool.and_eq_true, Bool.or_eq_true, Bool.and_eq_false_iff, Bool.or_eq_false_iff, Bool.not_eq_true', Bool.not_eq_false', decide_eq_true_eq, decide_eq_false_iff_not] at c5
    have hrd := rune_dig (s := s) (p := p) (by omega); have hdi : digB (toL s)[p] = true := (dig_byte hit).2 (by omega); have hvb := val_b (s := s) (i := p) (by omega) (by omega) hd; refine VC.skip (VC.text ?_); refine VO.c (.move rfl) (VO.c (.mul rfl rfl (by omega)) (VO.c (.move rfl) (VO.c (.subK rfl rfl (wrap32 (by omega))) ?_))); refine VO.c (.convI rfl .i64 (by exact wrap64 (by omega) (by omega))) (VO.c (.add rfl rfl (by omega)) (VO.c (.assign rfl) ?_)); refine VO.nil ?_; refine ⟨_, [(0, St s), (4, I ((valL ((toL s).take (p + 1)) 0 : Nat) : Int)), (8, .raw ww1)], ?_, ⟨rfl, slI rfl (by rw [hvt]; omega), rfl, trivial⟩, (p + 1), rfl, rfl, (by rw [hrd.2]), (by omega), (by rw [List.take_succ_eq_append_getElem (by omega)]; intro c hc; rcases List.mem_append.1 hc with h | h; exact hd c h; rw [List.mem_singleton.1 h]; exact hdi), (by omega)⟩; omega
  refine VO.c (.ext0) ?_; refine VO.go (VC.seq ?_); refine VC.condF rfl ?_; refine VC.exit (VC.seq (VC.drawn ?_)); have hall : (toL s).take p = toL s := List.take_of_length_le (by omega); rw [hall] at hd
  have h9l : (toL s).length ≤ 9 := by omega
  have hyp := numP_yes hd h9l; have hyk := numK_yes hd h9l; refine VD.c (.move rfl) (VD.c (.move rfl) (VD.c (.sneq) (VD.c (.move rfl) ?_))); refine VD.splitD (x := 32) rfl (fun g8_3 => ?_) (fun g8_3 => ?_)
  · refine VD.c (.move rfl) (VD.nw [] ?_); refine VD.r [] (.lenS) (.inl rfl) ?_; refine VD.c (.eql) (VD.c (.move rfl) ?_); refine VD.splitD (x := 36) rfl (fun g8_7 => ?_) (fun g8_7 => ?_)
    · refine VD.skip (VD.skip (VD.skip (VD.nw [] ?_))); refine VD.c (.pickT rfl rfl) (VD.c (.pickT rfl rfl) (VD.c (.assign rfl) (VD.c (.assign rfl) ?_))); refine VD.go ?_; refine VC.ret ?_; exact VEnd.two rfl evT evT (pvI (by rw [hall]; exact hyp.symm)) (pvE (by rw [hyk]; first | (symm; apply decide_eq_true; omega) | (have h6 := size_empty.1 g8_3; apply decide_eq_decide.2; omega) | (symm; apply decide_eq_false; intro hh; apply g8_3; apply size_empty.2; omega)))
    refine VD.c (.move rfl) (VD.c (.ixS rfl rfl (by omega) (by have h6 := size_empty.1 g8_3; omega)) (VD.c (.neq) (VD.nw [] ?_))); refine VD.c (.pickF rfl rfl) (VD.c (.pickT rfl rfl) (VD.c (.assign rfl) (VD.c (.assign rfl) ?_))); refine VD.go ?_; refine VC.ret ?_; exact VEnd.two rfl evT evT (pvI (by rw [hall]; exact hyp.symm)) (pvE (by rw [hyk]; first | (symm; apply decide_eq_true; omega) | (have h6 := size_empty.1 g8_3; apply decide_eq_decide.2; omega) | (symm; apply decide_eq_false; intro hh; apply g8_3; apply size_empty.2; omega)))
  refine VD.skip (VD.nw [] (VD.skip (VD.skip ?_))); refine VD.skip (VD.skip (VD.skip (VD.skip ?_))); refine VD.skip (VD.nw [] (VD.c (.pickF rfl rfl) (VD.c (.assign rfl) ?_))); refine VD.c (.assign rfl) (VD.go ?_); refine VC.ret ?_; exact VEnd.two rfl evT evT (pvI (by rw [hall]; exact hyp.symm)) (pvE (by rw [hyk]; first | (symm; apply decide_eq_true; omega) | (have h6 := size_empty.1 g8_3; apply decide_eq_decide.2; omega) | (symm; apply decide_eq_false; intro hh; apply g8_3; apply size_empty.2; omega)))
end Go.Proofs
namespace Go.Fs
variable {P : Program} {σ : Sto} {fl : VL} {x : Operand} {w : Value} {T : TypeId} {h h2 : Heap} {S S' : List Nat} {τ τ' : Ty}
theorem CalmV.nilO {cs : List PV} (hm : (w, Cell.var cs) ∈ σ) (hx : evV fl x = some (.raw w) := by rfl) : CalmV P fl σ (.nilCheck x) (.raw w) :=
  ⟨rfl, fun h S t hs hc => by
    have h1 : evalO t x = w := hs x (by simp [Op.operands]) _ hx; obtain ⟨b, e, vs, h3, _⟩ := hc _ hm; have h3 : w = .pointer (some ⟨b, 0, none⟩) := h3; refine ⟨_, rfl, fun _ _ _ _ _ H => ?_⟩; show (match evalO t x with | .pointer (some a) => some (Value.pointer (some a), H) | .func (.func f) a b => some (.func (.func f) a b, H) | _ => none) = _
    rw [h1, h3]⟩
theorem var_keep {a a' : τ.den} {c c' : τ'.den} (h h2 : Heap) (S : List Nat) (hg : ∀ z ∈ [(w, Cell.var [.v τ a, .v τ' c])], CellR h (own [(w, Cell.var [.v τ a, .v τ' c])] ++ S) z.1 z.2)
    (hs : ∀ z ∈ [(w, Cell.var [.v τ a', .v τ' c'])], CellR h2 (own [(w, Cell.var [.v τ a', .v τ' c'])] ++ S) z.1 z.2)
    (hk : ∀ b' ∈ own [(w, Cell.var [.v τ a, .v τ' c])], h2.get b' = h.get b') (hx : ∀ b o, h.get b = some o → h2.get b = some o) :
    (∀ b' ∈ own [(w, Cell.var [.v τ a', .v τ' c'])], b' ∈ own [(w, Cell.var [.v τ a, .v τ' c])]) ∧ ∀ z ∈ [(w, Cell.var [.v τ a', .v τ' c'])], CellR h (own [(w, Cell.var [.v τ a', .v τ' c'])] ++ S) z.1 z.2 := by
  obtain ⟨b, e, vs, g1, g2, g3, g4, g5⟩ := hg _ List.mem_cons_self; obtain ⟨b2, e2, vs2, s1, s2, s3, s4, s5⟩ := hs _ List.mem_cons_self; have g1 : w = .pointer (some ⟨b, 0, none⟩) := g1; have s1 : w = .pointer (some ⟨b2, 0, none⟩) := s1
  have hb : b2 = b := by
    rw [g1] at s1; injection s1 with s1; injection s1 with s1; injection s1 with s1; exact s1.symm
  subst hb; have h7 := hk b2 (by rw [own_cons]; exact List.mem_append_left _ (by rw [g1]; simp [blk])); rw [s3, g3] at h7; injection h7 with h7; injection h7 with _ h8; subst h8; obtain ⟨u1, r1, rfl, p1, u2, r2, rfl, p2, p3⟩ := g4; obtain ⟨v1, q1, e1, k1, v2, q2, e3, k2, k3⟩ := s4; injection e1 with e1 e4; subst e1 e4; injection e3 with e5 e6; subst e5 e6; obtain rfl : a = a' := RepC.same hx p1.2 k1.2; obtain rfl : c = c' := RepC.same hx p2.2 k2.2; exact ⟨fun _ hb => hb, hg⟩
end Go.Fs
namespace Go.Proofs
open Go.Fs
set_option maxHeartbeats 1000000
abbrev y39 : Ty := (.sl .str)
theorem vt4 : ValT Tryz.prog 4 .bool := valT_of (by kernel_rfl)
theorem vt39 : ValT Tryz.prog 39 y39 := valT_of (by kernel_rfl)
theorem cWord_ok {w : Value} {ws : List ByteArray} {wr : Bool} (h : 0 < ws.length) : VFG Tryz.prog OA 95 [.raw w] [(w, .var [.v (.sl .str) ws, B wr])] (fun r g => r = St ws[0] ∧ g = [(w, .var [.v (.sl .str) (ws.drop 1), B (wr || decide (ws[0] = ByteArray.empty))])]) := by
  refine VFG.enterK Tryz.func95 rfl (fun _ _ => rfl) rfl ?_; show VC _ _ _ _ _ [(0, .raw w)] [(w, .var [.v (.sl .str) ws, B wr])] _; cases wr
  · refine VC.seq (VC.text ?_); refine VO.c (.assign rfl) ?_; refine VO.go (VC.seq (VC.text ?_)); refine VO.c (.move rfl) (VO.c (.nilO m0) (VO.c (.faO (k := 0) m0) ?_)); refine VO.r (.ldF (k := 0) m0 vt39) ?_; refine VO.c (.ix (j := 0) rfl rfl el39 h) ?_; refine VO.r (.ld vt9) ?_; refine VO.c (.assign rfl) ?_; refine VO.go (VC.seq (VC.text ?_)); refine VO.c (.move rfl) (VO.c (.move rfl) (VO.c (.nilO m0) (VO.c (.faO (k := 0) m0) ?_))); refine VO.r (.ldF (k := 0) m0 vt39) ?_; refine VO.r (.cutL rfl rfl el39 (by omega)) ?_; refine VO.c (.nilO m0) (VO.c (.faO (k := 0) m0) ?_); refine VO.mk0 (MakeV.setF (k := 0) vt39 .v (Nat.le_of_ble_eq_true rfl) (.inl rfl) rfl rfl) ?_; rintro _ _ ⟨rfl, rfl⟩; refine VO.go (VC.seq (VC.text ?_)); refine VO.c (.move rfl) (VO.c (.move rfl) (VO.c (.nilO m0) (VO.c (.faO (k := 1) m0) ?_))); refine VO.r (.ldF (k := 1) m0 vt4) ?_; refine VO.c (.move rfl) (VO.c (.move rfl) (VO.c (.seql) (VO.c (.pickF rfl rfl) ?_))); refine VO.c (.nilO m0) (VO.c (.faO (k := 1) m0) ?_); refine VO.mk0 (MakeV.setF (k := 1) vt4 .v (Nat.le_of_ble_eq_true rfl) (.inl rfl) rfl rfl) ?_; rintro _ _ ⟨rfl, rfl⟩; refine VO.go (VC.seq (VC.text ?_)); refine VO.c (.move rfl) (VO.c (.assign rfl) (VO.go ?_)); refine VC.ret ?_; exact ⟨rfl, [St ws[0]], .cons evT .nil, ⟨rfl, rfl⟩, var_keep⟩
  refine VC.seq (VC.text ?_); refine VO.c (.assign rfl) ?_; refine VO.go (VC.seq (VC.text ?_)); refine VO.c (.move rfl) (VO.c (.nilO m0) (VO.c (.faO (k := 0) m0) ?_)); refine VO.r (.ldF (k := 0) m0 vt39) ?_; refine VO.c (.ix (j := 0) rfl rfl el39 h) ?_; refine VO.r (.ld vt9) ?_; refine VO.c (.assign rfl) ?_; refine VO.go (VC.seq (VC.text ?_)); refine VO.c (.move rfl) (VO.c (.move rfl) (VO.c (.nilO m0) (VO.c (.faO (k := 0) m0) ?_))); refine VO.r (.ldF (k := 0) m0 vt39) ?_; refine VO.r (.cutL rfl rfl el39 (by omega)) ?_; refine VO.c (.nilO m0) (VO.c (.faO (k := 0) m0) ?_); refine VO.mk0 (MakeV.setF (k := 0) vt39 .v (Nat.le_of_ble_eq_true rfl) (.inl rfl) rfl rfl) ?_; rintro _ _ ⟨rfl, rfl⟩; refine VO.go (VC.seq (VC.text ?_)); refine VO.c (.move rfl) (VO.c (.move rfl) (VO.c (.nilO m0) (VO.c (.faO (k := 1) m0) ?_))); refine VO.r (.ldF (k := 1) m0 vt4) ?_; refine VO.c (.move rfl) (VO.skip (VO.skip (VO.c (.pickT rfl rfl) ?_))); refine VO.c (.nilO m0) (VO.c (.faO (k := 1) m0) ?_); refine VO.mk0 (MakeV.setF (k := 1) vt4 .v (Nat.le_of_ble_eq_true rfl) (.inl rfl) rfl rfl) ?_; rintro _ _ ⟨rfl, rfl⟩; refine VO.go (VC.seq (VC.text ?_)); refine VO.c (.move rfl) (VO.c (.assign rfl) (VO.go ?_)); refine VC.ret ?_; exact ⟨rfl, [St ws[0]], .cons evT .nil, ⟨rfl, rfl⟩, var_keep⟩
theorem cTInt_ok {w : Value} {ws : List ByteArray} {wr : Bool} (h : 0 < ws.length) (hs : (ws[0]).size < 100000) : VFG Tryz.prog OA 94 [.raw w] [(w, .var [.v (.sl .str) ws, B wr])] (fun r g => r = I (numP ws[0]) ∧ g = [(w, .var [.v (.sl .str) (ws.drop 1), B ((wr || decide (ws[0] = ByteArray.empty)) || !numK ws[0])])]) := by
  refine VFG.enterK Tryz.func94 rfl (fun _ _ => rfl) rfl ?_; show VC _ _ _ _ _ [(0, .raw w)] [(w, .var [.v (.sl .str) ws, B wr])] _; refine VC.seq (VC.text ?_); refine VO.c (.assign rfl) ?_; refine VO.go (VC.seq (VC.text ?_)); refine VO.c (.move rfl) ?_; refine VO.callG [(w, .var [.v (.sl .str) ws, B wr])] rfl rfl rfl (VFG.call (cWord_ok h)) ?_; rintro _ _ ⟨rfl, rfl⟩; show VO _ _ _ _ _ _ [(w, .var [.v (.sl .str) (ws.drop 1), B (wr || decide (ws[0] = ByteArray.empty))])] _; refine VO.call rfl rfl (VF.call (cInt_ok hs)) ?_; refine VO.c (.move rfl) (VO.c (.extract) (VO.c (.extract) (VO.c (.assign rfl) ?_))); refine VO.c (.assign rfl) ?_; refine VO.go (VC.seq (VC.text ?_)); refine VO.c (.move rfl) (VO.c (.move rfl) (VO.c (.nilO m0) (VO.c (.faO (k := 1) m0) ?_))); refine VO.r (.ldF (k := 1) m0 vt4) ?_; refine VO.c (.move rfl) ?_; generalize (wr || decide (ws[0] = ByteArray.empty)) = q; cases q
  · refine VO.c (.move rfl) (VO.c (.not) (VO.c (.pickF rfl rfl) (VO.c (.nilO m0) ?_))); refine VO.c (.faO (k := 1) m0) ?_; refine VO.mk0 (MakeV.setF (k := 1) vt4 .v (Nat.le_of_ble_eq_true rfl) (.inl rfl) rfl rfl) ?_; rintro _ _ ⟨rfl, rfl⟩; refine VO.go (VC.seq (VC.text ?_)); refine VO.c (.move rfl) (VO.c (.assign rfl) (VO.go ?_)); refine VC.ret ?_; exact ⟨rfl, [I (numP ws[0])], .cons evT .nil, ⟨rfl, rfl⟩, var_keep⟩
  refine VO.skip (VO.skip (VO.c (.pickT rfl rfl) (VO.c (.nilO m0) ?_))); refine VO.c (.faO (k := 1) m0) ?_; refine VO.mk0 (MakeV.setF (k := 1) vt4 .v (Nat.le_of_ble_eq_true rfl) (.inl rfl) rfl rfl) ?_; rintro _ _ ⟨rfl, rfl⟩; refine VO.go (VC.seq (VC.text ?_)); refine VO.c (.move rfl) (VO.c (.assign rfl) (VO.go ?_)); refine VC.ret ?_; exact ⟨rfl, [I (numP ws[0])], .cons evT .nil, ⟨rfl, rfl⟩, var_keep⟩
end Go.Proofs
namespace Go.Fs
variable {P : Program} {orc : FuncId → List Value → Heap → Option (Value × Heap)} {τ : Ty}
end Go.Fs
namespace Go.Fs
variable {P : Program} {fl : VL} {σ γ : Sto} {Q : PV → Sto → Prop} {fn : Func} {τ : Ty}
end Go.Fs
namespace Go.Fs
variable {P : Program} {orc : FuncId → List Value → Heap → Option (Value × Heap)} {rnd : Option Nat} {h h' h0 h1 h2 : Heap} {S S' S0 B G : List Nat} {σ σ' : Sto} {t t' : Tr} {ms : List Nat} {fl : VL} {ops : Array Oper} {n : Nat} {l : List Oper} {K : VL → Sto → Prop} {Q : Ex → VL → Sto → Prop}
  {d : Tmp} {ty : TypeId} {pos : String} {after : Array Edge} {op : Op} {v : PV} {g : Option (Nat × Bool)}
end Go.Fs
namespace Go.Fs
variable {P : Program} {orc : FuncId → List Value → Heap → Option (Value × Heap)} {rnd : Option Nat} {h h' h0 h1 h2 : Heap} {S S' S0 B G : List Nat} {σ σ' : Sto} {t t' : Tr} {ms : List Nat} {fl : VL} {ops : Array Oper} {n : Nat} {l : List Oper} {K : VL → Sto → Prop} {Q : Ex → VL → Sto → Prop}
  {d : Tmp} {ty : TypeId} {pos : String} {after : Array Edge} {op : Op} {v : PV} {g : Option (Nat × Bool)} {w : Value} {x : Operand}
end Go.Fs
namespace Go.Proofs
open Go.Fs
set_option maxHeartbeats 1000000
theorem decS_nat {k : Nat} (h : k < 1000000000000000000) : decS ((k : Nat) : Int) = ofL (decL k) := by
  unfold decS; rw [itoaF_nat h]
theorem decS_size {n : Int} (h : 0 ≤ n ∧ n < 1000000000000000000) : (decS n).size ≤ 19 := by
  obtain ⟨k, rfl⟩ := Int.eq_ofNat_of_zero_le h.1; rw [decS_nat (by omega), ← toL_len, toL_ofL]; refine dec_len 18 k ?_
  have : (10 : Nat) ^ (18 + 1) = 10000000000000000000 := by decide
  omega
end Go.Proofs
namespace Go.Proofs
open Go.Fs
set_option maxHeartbeats 1000000
def spS : ByteArray := ⟨#[32]⟩
def nlS : ByteArray := ⟨#[10]⟩
def phS : ByteArray := ⟨#[112, 104, 97, 115, 101, 32]⟩
def prtH (s : ByteArray) (x : Pha) : ByteArray := ((((s ++ phS) ++ x.1) ++ spS) ++ decS x.2.1) ++ spS ++ decS x.2.2.1
def prtB : ByteArray → List Int → ByteArray
  | s, [] => s
  | s, b :: r => prtB ((s ++ spS) ++ decS b) r
def prtA : ByteArray → List Pha → ByteArray
  | s, [] => s
  | s, x :: r => prtA (prtB (prtH s x) x.2.2.2 ++ nlS) r
theorem prtA_snoc {x : Pha} : ∀ {l : List Pha} {s : ByteArray}, prtA s (l ++ [x]) = prtB (prtH (prtA s l) x) x.2.2.2 ++ nlS
  | [], s => rfl
  | y :: r, s => prtA_snoc (l := r)
structure PhOk (x : Pha) : Prop where
  nm : x.1.size ≤ 100
  lo : 0 ≤ x.2.1 ∧ x.2.1 < 1000000000000000000
  hi : 0 ≤ x.2.2.1 ∧ x.2.2.1 < 1000000000000000000
  bl : x.2.2.2.length ≤ 100
  be : ∀ b ∈ x.2.2.2, 0 ≤ b ∧ b < 1000000000000000000
theorem prtB_size : ∀ {l : List Int} {s : ByteArray}, (∀ b ∈ l, 0 ≤ b ∧ b < 1000000000000000000) → (prtB s l).size ≤ s.size + 20 * l.length
  | [], s, _ => by show s.size ≤ _; omega
  | b :: r, s, h => by
    have h1 := prtB_size (l := r) (s := (s ++ spS) ++ decS b) fun b hb => h b (List.mem_cons_of_mem _ hb); have h2 := decS_size (h b List.mem_cons_self)
    have h3 : ((s ++ spS) ++ decS b).size = s.size + 1 + (decS b).size := by rw [ByteArray.size_append, ByteArray.size_append] <;> rfl
    show (prtB ((s ++ spS) ++ decS b) r).size ≤ _; rw [List.length_cons]; omega
theorem prtH_size {s : ByteArray} {x : Pha} (h : PhOk x) : (prtH s x).size ≤ s.size + 150 := by
  have h1 := decS_size h.lo; have h2 := decS_size h.hi; have h3 := h.nm
  have h4 : (prtH s x).size = s.size + 6 + x.1.size + 1 + (decS x.2.1).size + 1 + (decS x.2.2.1).size := by
    unfold prtH; rw [ByteArray.size_append, ByteArray.size_append, ByteArray.size_append, ByteArray.size_append, ByteArray.size_append, ByteArray.size_append]; rfl
  omega
theorem prtA_size : ∀ {l : List Pha} {s : ByteArray}, (∀ x ∈ l, PhOk x) → (prtA s l).size ≤ s.size + 3000 * l.length
  | [], s, _ => by show s.size ≤ _; omega
  | x :: r, s, h => by
    have hx := h x List.mem_cons_self; have h1 := prtA_size (l := r) (s := prtB (prtH s x) x.2.2.2 ++ nlS) fun y hy => h y (List.mem_cons_of_mem _ hy); have h2 := prtB_size (s := prtH s x) hx.be; have h3 := prtH_size (s := s) hx; have h5 := hx.bl
    have h4 : (prtB (prtH s x) x.2.2.2 ++ nlS).size = (prtB (prtH s x) x.2.2.2).size + 1 := by rw [ByteArray.size_append] <;> rfl
    show (prtA (prtB (prtH s x) x.2.2.2 ++ nlS) r).size ≤ _; rw [List.length_cons]; omega
end Go.Proofs
namespace Go.Proofs
open Go.Fs
set_option maxHeartbeats 1000000
def phWd : ByteArray := ⟨#[112, 104, 97, 115, 101]⟩
def wrdA (w : List ByteArray) (k : Nat) : ByteArray := w.getD k ByteArray.empty
def phB (w : List ByteArray) : Bool := decide (4 ≤ w.length) && decide (wrdA w 0 = phWd) && decide (wrdA w 1 ≠ ByteArray.empty) && (w.drop 2).all numK
def phX (w : List ByteArray) : Pha := (wrdA w 1, numV (wrdA w 2), numV (wrdA w 3), ((w.drop 2).map numV).drop 2)
def prs : List ByteArray → List Pha → Nat → Option (List Pha) × Nat
  | [], out, i => (some out, i)
  | [x], out, i => if x = ByteArray.empty then (some out, i) else (none, i)
  | x :: y :: r, out, i => if phB (splS 32 x) = true then prs (y :: r) (out ++ [phX (splS 32 x)]) (i + 1) else (none, i)
def prsL (s : ByteArray) : Option (List Pha) × Nat := prs (splS 10 s) [] 0
def prsR (chk : List Pha → Int) (s : ByteArray) : List Pha := if 1000000 < s.size then [] else match (prsL s).1 with
  | some l => if chk l ≠ 0 then [] else l
  | none => []
def prsN (chk : List Pha → Int) (s : ByteArray) : Int := if 1000000 < s.size then 0 else match (prsL s).1 with
  | some l => if chk l ≠ 0 then (((splS 10 s).length : Nat) : Int) - 1 else 0
  | none => (((prsL s).2 : Nat) : Int)
def prsE (chk : List Pha → Int) (s : ByteArray) : Int := if 1000000 < s.size then 27 else match (prsL s).1 with
  | some l => chk l
  | none => 26
theorem prs_line {x y : ByteArray} {r : List ByteArray} {out : List Pha} {i : Nat} (h : phB (splS 32 x) = true) : prs (x :: y :: r) out i = prs (y :: r) (out ++ [phX (splS 32 x)]) (i + 1) := if_pos h
theorem prs_wrong {x y : ByteArray} {r : List ByteArray} {out : List Pha} {i : Nat} (h : phB (splS 32 x) = false) : prs (x :: y :: r) out i = (none, i) := if_neg (by rw [h]; decide)
theorem prs_last {x : ByteArray} {out : List Pha} {i : Nat} (h : x = ByteArray.empty) : prs [x] out i = (some out, i) := if_pos h
theorem prs_tail {x : ByteArray} {out : List Pha} {i : Nat} (h : x ≠ ByteArray.empty) : prs [x] out i = (none, i) := if_neg h
theorem splS_cut {s : ByteArray} {c : UInt8} (h : 0 ≤ Go.Lib.indexByte (toL s) c) : splS c s = cutA c s :: splS c (cutR c s) := by
  obtain ⟨k, hk⟩ := Int.eq_ofNat_of_zero_le h; unfold cutA cutR; rw [if_neg (by omega), if_neg (by omega), hk, Int.toNat_natCast]; exact splS_idx hk
theorem splS_nocut {s : ByteArray} {c : UInt8} (h : ¬ 0 ≤ Go.Lib.indexByte (toL s) c) : splS c s = [s] := splS_no (by omega)
theorem splS_nil {c : UInt8} : splS c ByteArray.empty = [ByteArray.empty] := rfl
theorem splS_ne {c : UInt8} {s : ByteArray} : splS c s ≠ [] := by
  unfold splS; intro h; exact spl_ne (s := c) (toL s) (List.map_eq_nil_iff.1 h)
theorem prs_end {out : List Pha} {i : Nat} : prs (splS 10 ByteArray.empty) out i = (some out, i) := by
  rw [splS_nil]; exact prs_last rfl
theorem prs_torn {s : ByteArray} {out : List Pha} {i : Nat} (hs : s ≠ ByteArray.empty) (h : ¬ 0 ≤ Go.Lib.indexByte (toL s) 10) : prs (splS 10 s) out i = (none, i) := by
  rw [splS_nocut h]; exact prs_tail hs
theorem prs_good {s : ByteArray} {out : List Pha} {i : Nat} (h : 0 ≤ Go.Lib.indexByte (toL s) 10) (hb : phB (splS 32 (cutA 10 s)) = true) : prs (splS 10 s) out i = prs (splS 10 (cutR 10 s)) (out ++ [phX (splS 32 (cutA 10 s))]) (i + 1) := by
  rw [splS_cut h]
  cases hr : splS 10 (cutR 10 s) with
  | nil => exact absurd hr splS_ne
  | cons y r => exact prs_line hb
theorem prs_bad {s : ByteArray} {out : List Pha} {i : Nat} (h : 0 ≤ Go.Lib.indexByte (toL s) 10) (hb : phB (splS 32 (cutA 10 s)) = false) : prs (splS 10 s) out i = (none, i) := by
  rw [splS_cut h]
  cases hr : splS 10 (cutR 10 s) with
  | nil => exact absurd hr splS_ne
  | cons y r => exact prs_wrong hb
theorem cutR_size {s : ByteArray} {c : UInt8} (h : 0 ≤ Go.Lib.indexByte (toL s) c) : (cutR c s).size < s.size := by
  have hlt := idx_lt (s := s) (c := c); unfold cutR; rw [if_neg (by omega)]; have h7 := congrArg List.length (toL_drop s ((Go.Lib.indexByte (toL s) c).toNat + 1)); rw [toL_len, List.length_drop, toL_len] at h7; omega
theorem numK_empty : numK ByteArray.empty = false := (numK_f (.inl (.inl rfl))).2
theorem phB_prog {w : List ByteArray} (h : 4 ≤ w.length) : phB w = (decide (wrdA w 0 = phWd) && !(decide (wrdA w 0 = ByteArray.empty) || decide (wrdA w 1 = ByteArray.empty) || (w.drop 2).any fun x => decide (x = ByteArray.empty) || !numK x)) := by
  unfold phB; rw [decide_eq_true h, Bool.true_and]; by_cases h0 : wrdA w 0 = phWd
  · have h1 : wrdA w 0 ≠ ByteArray.empty := by rw [h0]; decide
    have h2 : ((w.drop 2).any fun x => decide (x = ByteArray.empty) || !numK x) = !((w.drop 2).all numK) := by
      rw [List.not_all_eq_any_not]; congr 1; funext x; by_cases hx : x = ByteArray.empty
      · subst hx; rw [numK_empty] <;> rfl
      rw [decide_eq_false hx] <;> rfl
    rw [decide_eq_true h0, decide_eq_false h1, h2]; by_cases h3 : wrdA w 1 = ByteArray.empty
    · simp [h3]
    simp [h3]
  rw [decide_eq_false h0]; simp
end Go.Proofs
namespace Go.Proofs
open Go.Fs
set_option maxHeartbeats 1000000
def wrds (x : Pha) : List ByteArray := [phWd, x.1, decS x.2.1, decS x.2.2.1] ++ x.2.2.2.map decS
theorem joi_flat {s : UInt8} : ∀ {r : List (List UInt8)} {w : List UInt8}, joiL s (w :: r) = w ++ r.flatMap fun v => s :: v
  | [], w => by rw [List.flatMap_nil, List.append_nil] <;> rfl
  | v :: r, w => by
    rw [joi_cons (by simp), joi_flat (r := r), List.flatMap_cons] <;> rfl
theorem prtB_toL : ∀ {l : List Int} {s : ByteArray}, toL (prtB s l) = toL s ++ l.flatMap fun b => 32 :: toL (decS b)
  | [], s => by rw [List.flatMap_nil, List.append_nil] <;> rfl
  | b :: r, s => by
    show toL (prtB ((s ++ spS) ++ decS b) r) = _; rw [prtB_toL (l := r), toL_app, toL_app, List.flatMap_cons, List.append_assoc, List.append_assoc]; rfl
theorem line_eq {s : ByteArray} {x : Pha} : prtB (prtH s x) x.2.2.2 = s ++ joinS 32 (wrds x) := by
  apply toL_inj; rw [prtB_toL, toL_app]; unfold prtH joinS wrds; rw [toL_ofL]; simp only [toL_app, List.map_append, List.map_cons, List.map_nil, List.cons_append, List.nil_append, joi_flat, List.flatMap_cons, List.append_assoc, List.map_map, List.flatMap_map]; rfl
def txt : List Pha → ByteArray
  | [] => ByteArray.empty
  | x :: r => (joinS 32 (wrds x) ++ nlS) ++ txt r
theorem prt_txt : ∀ {l : List Pha} {s : ByteArray}, prtA s l = s ++ txt l
  | [], s => by
    show s = s ++ ByteArray.empty; apply toL_inj; rw [toL_app]
    exact (List.append_nil _).symm
  | x :: r, s => by
    show prtA (prtB (prtH s x) x.2.2.2 ++ nlS) r = s ++ ((joinS 32 (wrds x) ++ nlS) ++ txt r); rw [prt_txt (l := r), line_eq]; apply toL_inj; simp only [toL_app, List.append_assoc]
theorem txt_snoc {x : Pha} : ∀ {l : List Pha}, txt (l ++ [x]) = txt l ++ (joinS 32 (wrds x) ++ nlS)
  | [] => by
    apply toL_inj; show toL ((joinS 32 (wrds x) ++ nlS) ++ ByteArray.empty) = toL (ByteArray.empty ++ _); rw [toL_app, toL_app (ByteArray.empty)]
    exact List.append_nil _
  | y :: r => by
    show (joinS 32 (wrds y) ++ nlS) ++ txt (r ++ [x]) = ((joinS 32 (wrds y) ++ nlS) ++ txt r) ++ _; rw [txt_snoc (l := r)]; apply toL_inj; simp only [toL_app, List.append_assoc]
end Go.Proofs
namespace Go.Proofs
open Go.Fs
set_option maxHeartbeats 1000000
def freB (w : ByteArray) : Prop := ∀ c ∈ toL w, c ≠ 32 ∧ c ≠ 10
theorem dec_free {n : Int} (h : 0 ≤ n ∧ n < 1000000000000000000) : freB (decS n) := by
  obtain ⟨k, rfl⟩ := Int.eq_ofNat_of_zero_le h.1; intro c hc; rw [decS_nat (by omega), toL_ofL] at hc; have h1 := of_decide_eq_true (dec_dig k c hc); constructor
  · rintro rfl; revert h1; decide
  rintro rfl; revert h1; decide
theorem ph_free : freB phWd := by
  intro c hc; have : c ∈ ([112, 104, 97, 115, 101] : List UInt8) := hc; simp only [List.mem_cons, List.not_mem_nil, or_false] at this; rcases this with rfl | rfl | rfl | rfl | rfl <;> decide
theorem wrds_free {x : Pha} (h : PhOk x) (hn : freB x.1) : ∀ w ∈ wrds x, freB w := by
  intro w hw; unfold wrds at hw; simp only [List.cons_append, List.nil_append, List.mem_cons, List.mem_map] at hw; rcases hw with rfl | rfl | rfl | rfl | ⟨b, hb, rfl⟩
  · exact ph_free
  · exact hn
  · exact dec_free h.lo
  · exact dec_free h.hi
  exact dec_free (h.be b hb)
theorem splS_join {c : UInt8} {ws : List ByteArray} (h0 : ws ≠ []) (h : ∀ w ∈ ws, ∀ x ∈ toL w, x ≠ c) : splS c (joinS c ws) = ws := by
  unfold splS joinS
  rw [toL_ofL, spl_joi (by simpa using h0) (fun w hw => by
    obtain ⟨v, hv, rfl⟩ := List.mem_map.1 hw
    exact h v hv), List.map_map]
  exact List.map_id'' (fun x => rfl) ws
theorem joi_free {c d : UInt8} (hcd : c ≠ d) : ∀ {l : List (List UInt8)}, (∀ w ∈ l, ∀ x ∈ w, x ≠ d) → ∀ x ∈ joiL c l, x ≠ d
  | [], _, x, hx => by cases hx
  | [w], h, x, hx => h w List.mem_cons_self x hx
  | w :: v :: l, h, x, hx => by
    rw [joi_cons (by simp)] at hx; rcases List.mem_append.1 hx with hx | hx
    · exact h w List.mem_cons_self x hx
    rcases List.mem_cons.1 hx with rfl | hx
    · exact hcd
    exact joi_free hcd (fun u hu => h u (List.mem_cons_of_mem _ hu)) x hx
theorem line_free {x : Pha} (h : PhOk x) (hn : freB x.1) : ∀ c ∈ toL (joinS 32 (wrds x)), c ≠ 10 := by
  unfold joinS; rw [toL_ofL]; refine joi_free (by decide) fun w hw => ?_; obtain ⟨v, hv, rfl⟩ := List.mem_map.1 hw; exact fun c hc => (wrds_free h hn v hv c hc).2
theorem splS_txt : ∀ {l : List Pha}, (∀ x ∈ l, PhOk x ∧ freB x.1) → splS 10 (txt l) = l.map (fun x => joinS 32 (wrds x)) ++ [ByteArray.empty]
  | [], _ => rfl
  | x :: r, h => by
    have hx := h x List.mem_cons_self; have ih := splS_txt (l := r) fun y hy => h y (List.mem_cons_of_mem _ hy); unfold splS at ih ⊢
    have e : toL (txt (x :: r)) = toL (joinS 32 (wrds x)) ++ 10 :: toL (txt r) := by
      show toL ((joinS 32 (wrds x) ++ nlS) ++ txt r) = _; rw [toL_app, toL_app, List.append_assoc]; rfl
    rw [e, spl_app (line_free hx.1 hx.2), List.map_cons, ih]; rfl
theorem numL_dec {n : Int} (h : 0 ≤ n ∧ n < 1000000000) : numK (decS n) = true ∧ numV (decS n) = n := by
  obtain ⟨k, rfl⟩ := Int.eq_ofNat_of_zero_le h.1
  have e : (10 : Nat) ^ 9 = 1000000000 := by decide
  have h1 : numL (toL (decS ((k : Nat) : Int))) = some k := by
    rw [decS_nat (by omega), toL_ofL]; exact num_dec (by omega)
  unfold numK numV; rw [h1]; exact ⟨rfl, rfl⟩
structure PhNine (x : Pha) : Prop where
  nm : x.1 ≠ ByteArray.empty
  lo : 0 ≤ x.2.1 ∧ x.2.1 < 1000000000
  hi : 0 ≤ x.2.2.1 ∧ x.2.2.1 < 1000000000
  be : ∀ b ∈ x.2.2.2, 0 ≤ b ∧ b < 1000000000
theorem phB_wrds {x : Pha} (h : PhNine x) : phB (wrds x) = true := by
  unfold phB wrds
  have h1 : ((decS x.2.1 :: decS x.2.2.1 :: x.2.2.2.map decS).all numK) = true := by
    rw [List.all_eq_true]; intro w hw; rcases List.mem_cons.1 hw with rfl | hw
    · exact (numL_dec h.lo).1
    rcases List.mem_cons.1 hw with rfl | hw
    · exact (numL_dec h.hi).1
    obtain ⟨b, hb, rfl⟩ := List.mem_map.1 hw; exact (numL_dec (h.be b hb)).1
  show ((decide (4 ≤ (phWd :: x.1 :: decS x.2.1 :: decS x.2.2.1 :: x.2.2.2.map decS).length) && decide (phWd = phWd)) && decide (x.1 ≠ ByteArray.empty) && (decS x.2.1 :: decS x.2.2.1 :: x.2.2.2.map decS).all numK) = true; rw [h1, decide_eq_true h.nm, decide_eq_true (rfl : phWd = phWd), decide_eq_true (by simp)]; rfl
theorem phX_wrds {x : Pha} (h : PhNine x) : phX (wrds x) = x := by
  have h1 : (x.2.2.2.map decS).map numV = x.2.2.2 := by
    rw [List.map_map]; have h2 : x.2.2.2.map (numV ∘ decS) = x.2.2.2.map id := List.map_congr_left fun b hb => (numL_dec (h.be b hb)).2; rw [h2, List.map_id]
  show (x.1, numV (decS x.2.1), numV (decS x.2.2.1), (x.2.2.2.map decS).map numV) = x; rw [h1, (numL_dec h.lo).2, (numL_dec h.hi).2]
theorem prs_txt : ∀ {l out : List Pha} {i : Nat}, (∀ x ∈ l, (PhOk x ∧ freB x.1) ∧ PhNine x) → prs (splS 10 (txt l)) out i = (some (out ++ l), i + l.length)
  | [], out, i, _ => by rw [List.append_nil]; exact prs_end
  | x :: r, out, i, h => by
    have hx := h x List.mem_cons_self; have hs := splS_txt (l := x :: r) fun y hy => (h y hy).1; have hr := splS_txt (l := r) fun y hy => (h y (List.mem_cons_of_mem _ hy)).1; have hw : splS 32 (joinS 32 (wrds x)) = wrds x := splS_join (by unfold wrds; simp) fun w hw c hc => (wrds_free hx.1.1 hx.1.2 w hw c hc).1; rw [hs, List.map_cons, List.cons_append, ← hr]
    cases hq : splS 10 (txt r) with
    | nil => exact absurd hq splS_ne
    | cons y q =>
      rw [prs_line (by rw [hw]; exact phB_wrds hx.2), hw, phX_wrds hx.2, ← hq, prs_txt (l := r) fun y hy => h y (List.mem_cons_of_mem _ hy)]; rw [List.append_assoc, List.length_cons]; congr 1; omega
end Go.Proofs
namespace Go.Proofs
open Go.Fs
set_option maxHeartbeats 1000000
theorem dec_num {w : ByteArray} (h : numK w = true) : decS (numV w) = w := by
  unfold numK at h; obtain ⟨k, hk⟩ := Option.isSome_iff_exists.1 h; have h1 := dec_val hk
  have hlt : k < 1000000000000000000 := by
    have h2 : numL (toL w) = some k := hk; unfold numL at h2; split at h2
    · cases h2
    rename_i hn; obtain rfl := Option.some.inj h2
    have hd : ∀ c ∈ toL w, digB c = true := by
      cases hc : (toL w).all digB with
      | true => exact List.all_eq_true.1 hc
      | false => exact absurd (.inr (.inr hc)) hn
    have h3 := val_lt _ (toL w) rfl hd
    have h4 : (toL w).length ≤ 9 := by
      by_cases h9 : 9 < (toL w).length
      · exact absurd (.inl (.inr h9)) hn
      omega
    have h5 : 10 ^ (toL w).length ≤ 10 ^ 9 := Nat.pow_le_pow_right (by decide) h4
    have e : (10 : Nat) ^ 9 = 1000000000 := by decide
    omega
  unfold numV; rw [hk, Option.getD_some, decS_nat hlt, h1, ofL_toL]
theorem wrds_phX {W : List ByteArray} (h : phB W = true) : wrds (phX W) = W := by
  unfold phB at h; obtain ⟨h1, h2⟩ := band h; obtain ⟨h3, h4⟩ := band h1; obtain ⟨h5, h6⟩ := band h3; have h5 := of_decide_eq_true h5; have h6 := of_decide_eq_true h6
  match W, h5 with
  | a :: b :: c :: d :: r, _ =>
    have h6 : a = phWd := h6; have h7 : (c :: d :: r).all numK = true := h2; have hall := List.all_eq_true.1 h7
    have hr : (r.map numV).map decS = r := by
      rw [List.map_map]; have : r.map (decS ∘ numV) = r.map id := List.map_congr_left fun w hw => dec_num (hall w (List.mem_cons_of_mem _ (List.mem_cons_of_mem _ hw))); rw [this, List.map_id]
    show phWd :: b :: decS (numV c) :: decS (numV d) :: (r.map numV).map decS = _; rw [hr, dec_num (hall c List.mem_cons_self), dec_num (hall d (List.mem_cons_of_mem _ List.mem_cons_self)), h6]
theorem join_spl {c : UInt8} {s : ByteArray} : joinS c (splS c s) = s := by
  unfold joinS splS; rw [List.map_map]; have : (splL c (toL s)).map (toL ∘ ofL) = (splL c (toL s)).map id := List.map_congr_left fun w _ => rfl; rw [this, List.map_id, joi_spl, ofL_toL]
theorem cut_app {s : ByteArray} {c : UInt8} (h : 0 ≤ Go.Lib.indexByte (toL s) c) : toL s = toL (cutA c s) ++ c :: toL (cutR c s) := by
  obtain ⟨k, hk⟩ := Int.eq_ofNat_of_zero_le h; obtain ⟨h1, h2, h3⟩ := idx_some hk; unfold cutA cutR; rw [if_neg (by omega), if_neg (by omega), hk, Int.toNat_natCast, toL_take, toL_drop, ← h3, List.take_append_drop]
theorem txt_prs : ∀ (n : Nat) {s : ByteArray} {out l : List Pha} {i j : Nat}, s.size < n → prs (splS 10 s) out i = (some l, j) → ∃ r, l = out ++ r ∧ txt r = s ∧ j = i + r.length
  | 0, s, out, l, i, j, hn, h => by omega
  | n + 1, s, out, l, i, j, hn, h => by
    by_cases hs : s = ByteArray.empty
    · subst hs; rw [prs_end] at h; injection h with h1 h2; injection h1 with h1; exact ⟨[], by rw [List.append_nil, h1], rfl, by simp [h2]⟩
    by_cases hc : 0 ≤ Go.Lib.indexByte (toL s) 10
    · by_cases hb : phB (splS 32 (cutA 10 s)) = true
      · rw [prs_good hc hb] at h; have hz := cutR_size hc; obtain ⟨r, h1, h2, h3⟩ := txt_prs n (s := cutR 10 s) (by omega) h; refine ⟨phX (splS 32 (cutA 10 s)) :: r, by rw [h1, List.append_assoc]; rfl, ?_, by rw [List.length_cons]; omega⟩; show (joinS 32 (wrds (phX (splS 32 (cutA 10 s)))) ++ nlS) ++ txt r = s; rw [wrds_phX hb, join_spl, h2]; apply toL_inj; rw [toL_app, toL_app, List.append_assoc, cut_app hc]; rfl
      rw [prs_bad hc (by simpa using hb)] at h; injection h with h1 h2; cases h1
    rw [prs_torn hs hc] at h; injection h with h1 h2; cases h1
end Go.Proofs
namespace Go.Proofs
open Go.Fs
set_option maxHeartbeats 1000000
theorem splS_txt2 {w : ByteArray} (hw : ∀ c ∈ toL w, c ≠ 10) : ∀ {l : List Pha}, (∀ x ∈ l, PhOk x ∧ freB x.1) → splS 10 (txt l ++ w) = l.map (fun x => joinS 32 (wrds x)) ++ [w]
  | [], _ => by
    have e : toL (txt [] ++ w) = toL w := by rw [toL_app] <;> rfl
    unfold splS
    rw [e, spl_word hw] <;> rfl
  | x :: r, h => by
    have hx := h x List.mem_cons_self; have ih := splS_txt2 hw (l := r) fun y hy => h y (List.mem_cons_of_mem _ hy); unfold splS at ih ⊢
    have e : toL (txt (x :: r) ++ w) = toL (joinS 32 (wrds x)) ++ 10 :: toL (txt r ++ w) := by
      show toL (((joinS 32 (wrds x) ++ nlS) ++ txt r) ++ w) = _; rw [toL_app, toL_app, toL_app, toL_app, List.append_assoc, List.append_assoc]; rfl
    rw [e, spl_app (line_free hx.1 hx.2), List.map_cons, ih]; rfl
theorem prs_pre {L : List ByteArray} (hL : L ≠ []) : ∀ {l out : List Pha} {i : Nat}, (∀ x ∈ l, (PhOk x ∧ freB x.1) ∧ PhNine x) → prs (l.map (fun x => joinS 32 (wrds x)) ++ L) out i = prs L (out ++ l) (i + l.length)
  | [], out, i, _ => by rw [List.append_nil] <;> rfl
  | x :: r, out, i, h => by
    have hx := h x List.mem_cons_self; have hw : splS 32 (joinS 32 (wrds x)) = wrds x := splS_join (by unfold wrds; simp) fun w hw c hc => (wrds_free hx.1.1 hx.1.2 w hw c hc).1; have ih := fun o k => prs_pre hL (l := r) (out := o) (i := k) fun y hy => h y (List.mem_cons_of_mem _ hy); rw [List.map_cons, List.cons_append]
    cases hq : r.map (fun x => joinS 32 (wrds x)) ++ L with
    | nil => exact absurd (List.append_eq_nil_iff.1 hq).2 hL
    | cons y q =>
      rw [prs_line (by rw [hw]; exact phB_wrds hx.2), hw, phX_wrds hx.2, ← hq, ih]; rw [List.append_assoc, List.length_cons]; congr 1; omega
theorem line_ne {x : Pha} : joinS 32 (wrds x) ≠ ByteArray.empty := fun e => by
  have h1 := congrArg toL e; unfold joinS wrds at h1; rw [toL_ofL] at h1; simp only [List.cons_append, List.nil_append, List.map_cons, joi_flat] at h1; cases h1
theorem prs_short {l : List Pha} {x : Pha} (h : ∀ y ∈ l ++ [x], (PhOk y ∧ freB y.1) ∧ PhNine y) : prs (splS 10 (txt l ++ joinS 32 (wrds x))) [] 0 = (none, l.length) := by
  have hx := h x (List.mem_append_right _ (List.mem_singleton.2 rfl)); have hl := fun y hy => h y (List.mem_append_left _ hy); rw [splS_txt2 (line_free hx.1.1 hx.1.2) fun y hy => (hl y hy).1, prs_pre (by simp) hl, prs_tail line_ne, Nat.zero_add]
theorem txt_cut {l : List Pha} {x : Pha} : (txt (l ++ [x])).extract 0 ((txt (l ++ [x])).size - 1) = txt l ++ joinS 32 (wrds x) := by
  have e : toL (txt (l ++ [x])) = toL (txt l ++ joinS 32 (wrds x)) ++ [10] := by
    rw [txt_snoc, toL_app, toL_app, toL_app, List.append_assoc]; rfl
  apply toL_inj; rw [toL_take, ← toL_len, e, List.length_append]; simp
end Go.Proofs
namespace Go.Proofs
open Go.Fs
set_option maxHeartbeats 1000000
theorem name_free {s : ByteArray} (h : nameB s = true) : freB s ∧ s ≠ ByteArray.empty ∧ s.size ≤ 24 := by
  obtain ⟨h1, h2, h3⟩ := of_decide_eq_true h; have hl := toL_len s; refine ⟨fun c hc => ?_, size_empty.2 h1, h2⟩; obtain ⟨i, hi, rfl⟩ := List.mem_iff_getElem.1 hc; have h4 := h3 i (by omega); rw [byteE_at hi] at h4; unfold byteB letterB otherB at h4; constructor
  · intro e; rw [e] at h4
    revert h4
    cases decide (i ≠ 0) <;> decide
  intro e; rw [e] at h4
  revert h4
  cases decide (i ≠ 0) <;> decide
end Go.Proofs
namespace Go.Fs
variable {P : Program} {fl : VL} {σ : Sto} {T : TypeId} {τ : Ty} {h : Heap} {S : List Nat}
inductive PartP : PV → List PV → Prop where
  | v {τ : Ty} {x : τ.den} : PartP (.v τ x) (cellsPV τ x)
  | w {w : Value} (ho : oneCell w = true) : PartP (.raw w) [.raw w]
inductive BldR (pl : List (Nat × Nat)) : List PV → List Nat → List PV → List PV → Prop where
  | nil {L L' : List PV} (h : L = L') : BldR pl L [] [] L'
  | cons {L L' : List PV} {i o : Nat} {is : List Nat} {p : PV} {ps qs : List PV} (hp : PartP p qs) (hpl : pl[i]? = some (o, qs.length)) (ho : Nat.ble (o + qs.length) L.length = true) (r : BldR pl (spl L o qs) is ps L') : BldR pl L (i :: is) (p :: ps) L'
end Go.Fs
namespace Go.Fs
variable {P : Program} {fl : VL} {σ : Sto} {T T' : TypeId} {x y : Operand} {p q : Int}
end Go.Fs
namespace Go.Fs
variable {P : Program} {orc : FuncId → List Value → Heap → Option (Value × Heap)} {h : Heap} {σ ρ : Sto} {fl : VL} {ops : Array Oper} {n i mem : Nat} {l : List Oper} {K : VL → Sto → Prop} {nw bs : List Nat} {tl : Bool} {hr : Heap} {S0 A : List Nat} {t : Tr} {rd chg : List Nat}
end Go.Fs
namespace Go.Fs
variable {P : Program} {orc : FuncId → List Value → Heap → Option (Value × Heap)} {rnd : Option Nat} {h h' h0 h1 h2 hr : Heap} {S S' S0 B G A : List Nat} {σ σ' σr ρ : Sto} {t t' : Tr} {ms : List Nat} {fl : VL} {ops : Array Oper} {n i mem : Nat} {l : List Oper} {K : VL → Sto → Prop}
  {d : Tmp} {ty : TypeId} {pos : String} {after : Array Edge} {op : Op} {v pv : PV} {g : Option (Nat × Bool)} {x y z : Operand} {T T' e : TypeId} {τ τ' : Ty} {bs nw rd chg : List Nat} {segs : List (Nat × Nat × Nat)} {tail tl : Bool} {w w' : Value}
theorem VLt.cR {b : Nat} {q : Value} (hc : CalmV P fl σ op (.raw q)) (hk : VLt P orc ops n l (i + 1) ((d, .raw q) :: fl) (nwSet true d nw) σ ρ (bs ++ [b]) mem tl K)
    (hb : beforeOf bs ⟨some d, op, ty, pos, after, g⟩ = b := by rfl) (hw : wantV ops fl g = some true := by rfl) (hn : (Nat.blt d n && Nat.ble n 4000) = true := by rfl) :
    VLt P orc ops n (⟨some d, op, ty, pos, after, g⟩ :: l) i fl nw σ ρ bs mem tl K := fun hr h0 G S0 A t h ms rd chg segs tail ht I L => by
  obtain ⟨n1, n2⟩ := fits hn; obtain ⟨u, e1, e2⟩ := hc.2 h (own σ ++ S0) t I.slots.sees I.cells; refine EvL.opr (x' := (⟨t.set depth d u, h, bs ++ [b], segs, mem, tail⟩, rd, chg)) ?_ (hk hr h0 G S0 A _ h ms rd chg segs tail ht (I.set e1 n2) (L.set n2 fun _ => (e1 : u = q))); unfold lateDraw; have hwt : fsWanted ops t ⟨some d, op, ty, pos, after, g⟩ = some true := want_ok I.slots hw; simp only [hwt, hc.1, if_true, e2, Nat.beq_refl, cond_true, put_fits n1, Option.map_some, hb]
end Go.Fs
namespace Go.Fs
variable {P : Program} {σ : Sto} {fl : VL} {x y : Operand} {T T' : TypeId} {p q : ByteArray}
theorem CalmV.seqT (h : p = q) (hx : evV fl x = some (.v .str p) := by rfl) (hy : evV fl y = some (.v .str q) := by rfl) : CalmV P fl σ (.binOp .eql T x y T') (.v .bool true) := by
  have := CalmV.seql (P := P) (σ := σ) (T := T) (T' := T') hx hy
  rwa [decide_eq_true h] at this
theorem CalmV.seqF (h : p ≠ q) (hx : evV fl x = some (.v .str p) := by rfl) (hy : evV fl y = some (.v .str q) := by rfl) : CalmV P fl σ (.binOp .eql T x y T') (.v .bool false) := by
  have := CalmV.seql (P := P) (σ := σ) (T := T) (T' := T') hx hy
  rwa [decide_eq_false h] at this
end Go.Fs
namespace Go.Proofs
open Go.Fs
set_option maxHeartbeats 1000000
abbrev y155 : Ty := (.pair (.sl .str) .bool)
theorem zt155 : ZerT Tryz.prog 155 y155 := zerT_of (z := .agg #[.slice none 0 0, .bool false]) (by kernel_rfl) rfl rfl
def phP (W : List ByteArray) : Pha := if W.length < 4 then (ByteArray.empty, 0, 0, []) else (wrdA W 1, numP (wrdA W 2), numP (wrdA W 3), (W.drop 4).map numP)
def wst (W : List ByteArray) : Nat → Bool
  | 0 => false
  | 1 => false || decide (wrdA W 0 = ByteArray.empty)
  | 2 => (false || decide (wrdA W 0 = ByteArray.empty)) || decide (wrdA W 1 = ByteArray.empty)
  | k + 3 => (wst W (k + 2) || decide (wrdA W (k + 2) = ByteArray.empty)) || !numK (wrdA W (k + 2))
theorem wrd_at {W : List ByteArray} {k : Nat} (h : k < W.length) : wrdA W k = W[k] := by simp [wrdA, h]
theorem wst_any {W : List ByteArray} : ∀ k, k + 2 ≤ W.length → wst W (k + 2) = ((decide (wrdA W 0 = ByteArray.empty) || decide (wrdA W 1 = ByteArray.empty)) || ((W.drop 2).take k).any fun x => decide (x = ByteArray.empty) || !numK x)
  | 0, _ => by
    show ((false || decide (wrdA W 0 = ByteArray.empty)) || decide (wrdA W 1 = ByteArray.empty)) = _
    simp
  | k + 1, h => by
    show ((wst W (k + 2) || decide (wrdA W (k + 2) = ByteArray.empty)) || !numK (wrdA W (k + 2))) = _
    have hk : k < (W.drop 2).length := by rw [List.length_drop]; omega
    have he : (W.drop 2)[k] = wrdA W (k + 2) := by
      rw [wrd_at (by omega), List.getElem_drop]; congr 1; omega
    rw [wst_any k (by omega), List.take_succ_eq_append_getElem hk, List.any_append, he]; simp [Bool.or_assoc]
theorem wst_end {W : List ByteArray} (h : 4 ≤ W.length) : (decide (wrdA W 0 = phWd) && !wst W W.length) = phB W := by
  obtain ⟨k, hk⟩ : ∃ k, W.length = k + 2 := ⟨W.length - 2, by omega⟩; rw [phB_prog h, hk, wst_any k (by omega), List.take_of_length_le (by rw [List.length_drop]; omega)]
theorem numP_numV {s : ByteArray} (h : numK s = true) : numP s = numV s := by
  by_cases hh : (toL s = [] ∨ 9 < (toL s).length) ∨ (1 < (toL s).length ∧ ((toL s).headD 0).toNat = 48) ∨ (toL s).all digB = false
  · rw [(numK_f hh).2] at h; cases h
  rw [(numK_t hh).1]; refine if_pos ⟨?_, ?_⟩
  · cases ha : (toL s).all digB with
    | true => rfl
    | false => exact absurd (.inr (.inr ha)) hh
  by_cases h9 : 9 < (toL s).length
  · exact absurd (.inl (.inr h9)) hh
  omega
theorem phP_phX {W : List ByteArray} (h : phB W = true) : phP W = phX W := by
  unfold phB at h; simp only [Bool.and_eq_true, decide_eq_true_eq] at h; obtain ⟨⟨⟨h4, _⟩, _⟩, hn⟩ := h; have hn := List.all_eq_true.1 hn
  have hm : ∀ k, 2 ≤ k → k < W.length → numP (wrdA W k) = numV (wrdA W k) := fun k h2 hk => by
    refine numP_numV (hn _ ?_); rw [wrd_at hk]
    have : W[k] = (W.drop 2)[k - 2]'(by rw [List.length_drop]; omega) := by
      rw [List.getElem_drop]; congr 1; omega
    rw [this]; exact List.getElem_mem _
  unfold phP phX; rw [if_neg (by omega), hm 2 (by omega) (by omega), hm 3 (by omega) (by omega), ← List.map_drop, List.drop_drop]; congr 3; refine List.map_congr_left fun x hx => numP_numV (hn x ?_); rw [show (4 : Nat) = 2 + 2 from rfl, ← List.drop_drop] at hx; exact List.mem_of_mem_drop hx
theorem spl_mem {c : UInt8} : ∀ (l : List UInt8), ∀ w ∈ splL c l, w.length ≤ l.length
  | [], w, hw => by
    rw [show splL c [] = [[]] from rfl, List.mem_singleton] at hw
    subst hw; exact Nat.le_refl _
  | x :: r, w, hw => by
    by_cases h : x = c
    · subst h; rw [spl_sep] at hw; rcases List.mem_cons.1 hw with rfl | hw
      · exact Nat.zero_le _
      exact Nat.le_succ_of_le (spl_mem r w hw)
    cases hr : splL c r with
    | nil => exact absurd hr (spl_ne r)
    | cons v l =>
      rw [spl_cons h hr] at hw; have hv := spl_mem r v (by rw [hr]; exact List.mem_cons_self); rcases List.mem_cons.1 hw with rfl | hw
      · simp only [List.length_cons]; omega
      exact Nat.le_succ_of_le (spl_mem r w (by rw [hr]; exact List.mem_cons_of_mem _ hw))
theorem splS_size {c : UInt8} {s : ByteArray} : ∀ w ∈ splS c s, w.size ≤ s.size := fun w hw => by
  obtain ⟨v, hv, rfl⟩ := List.mem_map.1 hw; have h1 := spl_mem (toL s) v hv; rw [toL_len] at h1; rw [← toL_len, toL_ofL]; exact h1
theorem splS_few {c : UInt8} {s : ByteArray} : (splS c s).length ≤ s.size + 1 := by
  rw [splS_len]; have := List.count_le_length (a := c) (l := toL s); rw [toL_len] at this; omega
theorem wrd_size {c : UInt8} {s : ByteArray} {k : Nat} (h : k < (splS c s).length) : (wrdA (splS c s) k).size ≤ s.size := by
  rw [wrd_at h]; exact splS_size _ (List.getElem_mem h)
theorem cWordD {w : Value} {W : List ByteArray} {wr : Bool} {k : Nat} (h : k < W.length) : VFG Tryz.prog OA 95 [.raw w] [(w, .var [.v (.sl .str) (W.drop k), B wr])] (fun r g => r = St (wrdA W k) ∧ g = [(w, .var [.v (.sl .str) (W.drop (k + 1)), B (wr || decide (wrdA W k = ByteArray.empty))])]) := by
  have h1 : 0 < (W.drop k).length := by rw [List.length_drop]; omega
  have h2 := cWord_ok (w := w) (wr := wr) h1
  have e : (W.drop k)[0] = wrdA W k := by rw [wrd_at h, List.getElem_drop] <;> rfl
  rw [e, List.drop_drop] at h2; exact h2
theorem cTIntD {w : Value} {W : List ByteArray} {wr : Bool} {k : Nat} (h : k < W.length) (hs : (wrdA W k).size < 100000) : VFG Tryz.prog OA 94 [.raw w] [(w, .var [.v (.sl .str) (W.drop k), B wr])] (fun r g => r = I (numP (wrdA W k)) ∧ g = [(w, .var [.v (.sl .str) (W.drop (k + 1)), B ((wr || decide (wrdA W k = ByteArray.empty)) || !numK (wrdA W k))])]) := by
  have h1 : 0 < (W.drop k).length := by rw [List.length_drop]; omega
  have e : (W.drop k)[0] = wrdA W k := by rw [wrd_at h, List.getElem_drop] <;> rfl
  have h2 := cTInt_ok (w := w) (wr := wr) h1 (by rw [e]; exact hs); rw [e, List.drop_drop] at h2; exact h2
theorem bt155 : BldT Tryz.prog 155 y155 [(0, 1), (1, 1)] := bldT_of zt155 rfl (by kernel_rfl)
theorem cPhase_ok {s : ByteArray} (hs : s.size < 100000) : VF Tryz.prog OA 43 [St s] (.tup [.v y79 (phP (splS 32 s)), B (phB (splS 32 s))]) := by
  refine VF.enter Tryz.func43 rfl (fun _ _ => rfl) rfl ?_; show VC _ _ _ _ _ [(0, St s)] [] _; have hW1 : ∀ k, k < (splS 32 s).length → (wrdA (splS 32 s) k).size < 100000 := fun k hk => Nat.lt_of_le_of_lt (wrd_size hk) hs; have hW2 := splS_few (c := 32) (s := s); have hsp := zSplit_ok (s := s) (p := ⟨#[32]⟩) rfl hs; rw [show sepB ⟨#[32]⟩ = 32 from rfl] at hsp; generalize splS 32 s = W at *; refine VC.seq (VC.text ?_); refine VO.cell (.alloc zt79) ?_; intro v2; refine VO.c (.assign rfl) ?_; refine VO.go (VC.seq (VC.text ?_)); refine VO.c (.move rfl) ?_; refine VO.call rfl rfl (VF.call hsp) ?_; refine VO.c (.build (W, false) bt155) ?_; refine VO.cell (.box .v) ?_; intro w4; show VO _ _ _ _ _ _ [(w4, .var [.v (.sl .str) W, B false]), (v2, .var _)] _; refine VO.c (.assign rfl) ?_; refine VO.go (VC.seq (VC.seq (VC.text ?_))); refine VO.c (.move rfl) (VO.c (.nilO m0) (VO.c (.faO (k := 0) m0) ?_)); refine VO.r (.ldF (k := 0) m0 vt39) ?_; refine VO.r (.len el39) ?_; refine VO.c (.lss) (VO.go ?_); refine VC.condD rfl (fun c2 => ?_) (fun c2 => ?_)
  · refine VC.seq (VC.text ?_); refine VO.c (.build (ByteArray.empty, 0, 0, []) bt79) ?_; refine VO.perm swap1 ?_; refine VO.setV (cs' := [St ByteArray.empty, I 0, I 0, .v y41 []]) vt79 .v ?_; refine VO.c (.assign rfl) (VO.go ?_); refine VC.ret ?_
    have h4 : W.length < 4 := by omega
    have hb : phB W = false := by
      unfold phB; rw [decide_eq_false (by omega)] <;> rfl
    rw [hb, show phP W = (ByteArray.empty, 0, 0, []) from if_pos h4]; exact ⟨rfl, [.v y79 (ByteArray.empty, 0, 0, []), B false], .cons (.cell rfl m0 vt79 .refl) (.cons evT .nil), rfl⟩
  refine VC.skip (VC.seq (VC.text ?_)); refine VO.c (.move rfl) (VO.c (.func) (VO.c (.assign rfl) ?_)); refine VO.go (VC.seq (VC.text ?_)); refine VO.c (.move rfl) ?_; refine VO.callG [(w4, .var [.v (.sl .str) (W.drop 0), B (wst W 0)])] rfl rfl rfl (VFG.call (cWordD (by omega))) ?_; rintro _ _ ⟨rfl, rfl⟩; show VO _ _ _ _ _ _ [(w4, .var [.v (.sl .str) (W.drop 1), B (wst W 1)]), (v2, .var _)] _; refine VO.c (.assign rfl) ?_; refine VO.go (VC.seq (VC.text ?_)); refine VO.c (.move rfl) ?_; refine VO.callG [(w4, .var [.v (.sl .str) (W.drop 1), B (wst W 1)])] rfl rfl rfl (VFG.call (cWordD (by omega))) ?_; rintro _ _ ⟨rfl, rfl⟩; show VO _ _ _ _ _ _ [(w4, .var [.v (.sl .str) (W.drop 2), B (wst W 2)]), (v2, .var _)] _; refine VO.c (.buildA (cs := [St (wrdA W 1), .raw (.int .i64 0), .raw (.int .i64 0), nilV]) bt79 rfl) ?_; refine VO.cell (.alloc zt79) ?_; intro w7; refine VO.setV (cs' := [St (wrdA W 1), .raw (.int .i64 0), .raw (.int .i64 0), nilV]) vt79 (.aggs rfl rfl) ?_; refine VO.go (VC.seq (VC.text ?_)); refine VO.c (.move rfl) ?_; refine VO.perm swap1 ?_; refine VO.callG [(w4, .var [.v (.sl .str) (W.drop 2), B (wst W 2)])] rfl rfl rfl (VFG.clo (a := [.raw w4]) (args := []) (c := []) (cTIntD (by omega) (hW1 2 (by omega)))) ?_; rintro _ _ ⟨rfl, rfl⟩; show VO _ _ _ _ _ _ [(w4, .var [.v (.sl .str) (W.drop 3), B (wst W 3)]), (w7, .var [St (wrdA W 1), .raw (.int .i64 0), .raw (.int .i64 0), nilV]), (v2, .var _)] _; refine VO.c (.faO (k := 1) m1) ?_; refine VO.perm swap1 ?_; refine VO.setF (cs' := [St (wrdA W 1), I (numP (wrdA W 2)), .raw (.int .i64 0), nilV]) 1 vt3 .v ?_; refine VO.go (VC.seq (VC.text ?_)); refine VO.c (.move rfl) ?_; refine VO.perm swap1 ?_; refine VO.callG [(w4, .var [.v (.sl .str) (W.drop 3), B (wst W 3)])] rfl rfl rfl (VFG.clo (a := [.raw w4]) (args := []) (c := []) (cTIntD (by omega) (hW1 3 (by omega)))) ?_; rintro _ _ ⟨rfl, rfl⟩; show VO _ _ _ _ _ _ [(w4, .var [.v (.sl .str) (W.drop 4), B (wst W 4)]), (w7, .var [St (wrdA W 1), I (numP (wrdA W 2)), .raw (.int .i64 0), nilV]), (v2, .var _)] _; refine VO.c (.faO (k := 2) m1) ?_; refine VO.perm swap1 ?_; refine VO.setF (cs' := [St (wrdA W 1), I (numP (wrdA W 2)), I (numP (wrdA W 3)), nilV]) 2 vt3 .v ?_; refine VO.go (VC.seq (VC.block ?_)); refine VC.cell0 3 (.int .i64) ?_; refine VC.keep [(2, .raw v2), (4, .raw w4), (5, .clo 94 [.raw w4] []), (6, St (wrdA W 0)), (7, .raw w7)] ⟨rfl, rfl, rfl, rfl, rfl, trivial⟩ ?_; refine VC.loop (I := fun kk ff ss => ∃ (j : Nat) (w9 : Value), kk = W.length - (4 + j) ∧ ff = [(2, .raw v2), (4, .raw w4), (5, .clo 94 [.raw w4] []), (6, St (wrdA W 0)), (7, .raw w7)] ∧ ss = [(w9, .row 3 (.int .i64) (((W.drop 4).take j).map numP)), (w7, .var [St (wrdA W 1), I (numP (wrdA W 2)), I (numP (wrdA W 3)), .raw w9]), (w4, .var [.v (.sl .str) (W.drop (4 + j)), B (wst W (4 + j))]), (v2, .var [St ByteArray.empty, I 0, I 0, .v y41 []])] ∧ 4 + j ≤ W.length) ?_ _ _ _ ⟨0, .slice none 0 0, rfl, rfl, rfl, by omega⟩; rintro kk ff ss ⟨j, w9, hk0, rfl, rfl, hj⟩; refine VC.seq (VC.seq (VC.text ?_)); refine VO.c (.move rfl) (VO.c (.nilO m2) (VO.c (.faO (k := 0) m2) ?_)); refine VO.r (.ldF (k := 0) m2 vt39) ?_; refine VO.r (.len el39) ?_; refine VO.c (.gtr) (VO.go ?_); refine VC.condD rfl (fun c9 => ?_) (fun c9 => ?_)
  · have hjl : 4 + j < W.length := by
      rw [List.length_drop] at c9; omega
    have hjt : j < (W.drop 4).length := by rw [List.length_drop]; omega
    have hat : (W.drop 4)[j] = wrdA W (4 + j) := by rw [wrd_at hjl, List.getElem_drop]
    refine VC.skip (VC.block (VC.seq (VC.text ?_))); refine VO.c (.move rfl) ?_; refine VO.perm swap2 ?_; refine VO.callG [(w4, .var [.v (.sl .str) (W.drop (4 + j)), B (wst W (4 + j))])] rfl rfl rfl (VFG.clo (a := [.raw w4]) (args := []) (c := []) (cTIntD hjl (hW1 _ hjl))) ?_; rintro _ _ ⟨rfl, rfl⟩
    have hws : ((wst W (4 + j) || decide (wrdA W (4 + j) = ByteArray.empty)) || !numK (wrdA W (4 + j))) = wst W (4 + (j + 1)) := by
      rw [show 4 + j = (j + 2) + 2 by omega, show 4 + (j + 1) = (j + 2) + 3 by omega] <;> rfl
    rw [hws]; refine VO.c (.assign rfl) ?_; refine VO.go (VC.text ?_); refine VO.c (.faO (k := 3) m2) ?_; refine VO.r (.ldF (k := 3) m2 vt41) ?_; refine VO.c (.move rfl) ?_; refine VO.new (.lit [numP (wrdA W (4 + j))] el41) ?_; refine VO.perm swap1 ?_; refine VO.app rfl rfl el41 el41 (by simp; omega) ?_; intro ww9; refine VO.c (.faO (k := 3) m2) ?_; refine VO.perm swap2 ?_; refine VO.one m1 fun ho => ?_; refine VO.setF (cs' := [St (wrdA W 1), I (numP (wrdA W 2)), I (numP (wrdA W 3)), .raw ww9]) 3 vt41 (.raw rfl (agg_one ho) ho) ?_; refine VO.perm swap1 ?_; refine VO.nil ?_; refine ⟨_, [(2, .raw v2), (4, .raw w4), (5, .clo 94 [.raw w4] []), (6, St (wrdA W 0)), (7, .raw w7)], ?_, ⟨rfl, rfl, rfl, rfl, rfl, trivial⟩, (j + 1), ww9, rfl, rfl, ?_, by omega⟩
    · omega
    rw [List.take_succ_eq_append_getElem hjt, List.map_append, hat] <;> rfl
  have hje : 4 + j = W.length := by
    rw [List.length_drop] at c9; omega
  refine VC.exit ?_; show VC _ _ _ _ _ _ _ _
  have hv : (wrdA W 1, numP (wrdA W 2), numP (wrdA W 3), ((W.drop 4).take j).map numP) = phP W := by
    unfold phP; rw [if_neg (by omega), List.take_of_length_le (by rw [List.length_drop]; omega)]
  have hend := wst_end (W := W) (by omega); rw [← hje] at hend; refine VC.shutL [(w9, .row 3 (.int .i64) (((W.drop 4).take j).map numP)), (w7, .var [St (wrdA W 1), I (numP (wrdA W 2)), I (numP (wrdA W 3)), .raw w9])] [(7, .p y79 (wrdA W 1, numP (wrdA W 2), numP (wrdA W 3), ((W.drop 4).take j).map numP))] rfl (.cons rfl (.var m1 (.cons .same (.cons .same (.cons .same (.cons (.row m0) .nil))))) .nil) ?_; rw [hv]; refine VC.seq ?_; refine VC.perm swap1 ?_; refine VC.late [(w4, .var [.v (.sl .str) (W.drop (4 + j)), B (wst W (4 + j))])] ⟨[_], rfl⟩ ?_; refine VLt.q rfl (.ld vt79) ?_; refine VLt.c (.move rfl) ?_; by_cases h : wrdA W 0 = phWd
  · rw [decide_eq_true h, Bool.true_and] at hend; refine VLt.c (.seqT h) ?_; refine VLt.c (.move rfl) ?_; refine VLt.c (.move rfl) ?_; refine VLt.cR (.nilO m1) ?_; refine VLt.cR (.faO (k := 1) m1) ?_; refine VLt.qo rfl m0 (.inr ⟨1, rfl⟩) (.ldF (k := 1) m0 vt4) ?_; refine VLt.c (.not) ?_; refine VLt.c (.pickT rfl rfl) ?_; refine VLt.mk0 (MakeV.setF (k := 0) vt79 .v (Nat.le_of_ble_eq_true rfl) (.inr ⟨rfl, rfl⟩) rfl rfl) (TurnV.store rfl (.inl rfl)) ⟨[], rfl⟩ ?_; rintro _ _ ⟨rfl, rfl⟩; refine ⟨⟨[_], rfl⟩, ?_⟩; refine VLt.c (.assign rfl) ?_; refine VLt.go ?_; refine VC.ret ?_; rw [hend]; exact ⟨rfl, [.v y79 (phP W), B (phB W)], .cons (.cell rfl m0 vt79 .refl) (.cons evT .nil), rfl⟩
  rw [decide_eq_false h, Bool.false_and] at hend; refine VLt.c (.seqF h) ?_; refine VLt.c (.move rfl) ?_; refine VLt.skip ?_; refine VLt.skip ?_; refine VLt.skip ?_; refine VLt.skip ?_; refine VLt.skip ?_; refine VLt.c (.pickF rfl rfl) ?_; refine VLt.mk0 (MakeV.setF (k := 0) vt79 .v (Nat.le_of_ble_eq_true rfl) (.inr ⟨rfl, rfl⟩) rfl rfl) (TurnV.store rfl (.inl rfl)) ⟨[], rfl⟩ ?_; rintro _ _ ⟨rfl, rfl⟩; refine ⟨⟨[_], rfl⟩, ?_⟩; refine VLt.c (.assign rfl) ?_; refine VLt.go ?_; refine VC.ret ?_; rw [← hend]; exact ⟨rfl, [.v y79 (phP W), B false], .cons (.cell rfl m0 vt79 .refl) (.cons evT .nil), rfl⟩
end Go.Proofs
namespace Go.Proofs
open Go.Fs
set_option maxHeartbeats 1000000
theorem plan_ph {l : List Pha} (h : planE l = 0) : ∀ x ∈ l, (PhOk x ∧ freB x.1) ∧ PhNine x := fun x hx => by
  obtain ⟨i, hi, rfl⟩ := List.mem_iff_getElem.1 hx; have hp := plan_ok h; have hl := hp.len; have h1 := hp.dur i hi; have h2 := hp.blen hi; have h3 := hp.bef i hi; rw [phA_eq hi] at h1 h2 h3
  have hb : ∀ b ∈ l[i].2.2.2, 0 ≤ b ∧ b < 16 := fun b hb => by
    obtain ⟨k, hk, rfl⟩ := List.mem_iff_getElem.1 hb; have h4 := h3 k hk; rw [getDg (l := l[i].2.2.2) hk] at h4; omega
  have hn : nameB l[i].1 = true := by
    unfold planE at h; rw [if_neg (by omega)] at h; have h5 := firstR_zero.1 h i hi; by_cases h6 : firstE (headP l i) = 0
    · have h7 := firstE_zero.1 h6 (whenE (!nameB (phA l i).1) 8) (by simp [headP]); have h8 := (whenE_zero (by decide)).1 h7; rw [phA_eq hi] at h8; simpa using h8
    rw [pha_h h6] at h5; exact absurd h5 h6
  obtain ⟨n1, n2, n3⟩ := name_free hn; exact ⟨⟨⟨by omega, ⟨h1.1, by omega⟩, ⟨by omega, by omega⟩, by omega, fun b hb' => by have := hb b hb'; omega⟩, n1⟩, ⟨n2, ⟨h1.1, by omega⟩, ⟨by omega, by omega⟩, fun b hb' => by have := hb b hb'; omega⟩⟩
theorem prtA_one {l : List Pha} {x : Pha} : prtA ByteArray.empty (l ++ [x]) = prtA ByteArray.empty l ++ (joinS 32 (wrds x) ++ nlS) := by
  rw [prtA_snoc, line_eq, ByteArray.append_assoc]
def prtR (l : List Pha) : ByteArray := if planE l = 0 then prtA ByteArray.empty l else ByteArray.empty
theorem cPrint_ok {l : List Pha} (hl : l.length < 100000) (hb : ∀ x ∈ l, x.2.2.2.length < 100000) : VF Tryz.prog OA 7 [.v y28 l] (.tup [St (prtR l), I (planE l)]) := by
  refine VF.enter Tryz.func7 rfl (fun _ _ => rfl) rfl ?_; show VC _ _ _ _ _ [(0, .v y28 l)] [] _; refine VC.seq (VC.text ?_); refine VO.c (.assign rfl) (VO.c (.assign rfl) ?_); refine VO.go (VC.seq (VC.seq (VC.text ?_))); refine VO.c (.move rfl) ?_; refine VO.call rfl rfl (VF.call (cPlan_ok hl hb)) ?_; refine VO.c (.assign rfl) ?_; refine VO.go (VC.seq (VC.text ?_)); refine VO.c (.move rfl) (VO.c (.neq) (VO.go ?_)); refine VC.condD rfl (fun c2 => ?_) (fun c2 => ?_)
  · refine VC.seq (VC.text ?_); refine VO.c (.move rfl) (VO.c (.assign rfl) (VO.c (.assign rfl) (VO.go ?_))); refine VC.ret ?_; rw [show prtR l = ByteArray.empty from if_neg c2]; exact ⟨rfl, [St ByteArray.empty, I (planE l)], .cons evT (.cons evT .nil), rfl⟩
  have hz : planE l = 0 := Classical.not_not.1 c2; have hp := plan_ph hz; have hl16 := (plan_ok hz).len; refine VC.skip (VC.seq (VC.text ?_)); refine VO.mk (MakeV.allocB (by kernel_rfl)) ?_; rintro _ _ ⟨b, rfl, rfl⟩; refine VO.go (VC.seq (VC.seq (VC.text ?_))); refine VO.c (.move rfl) ?_; refine VO.r (.len el28) ?_; refine VO.c (.move rfl) ?_; refine VO.go (VC.block ?_); refine VC.cell0 5 (.int .u8) ?_; refine VC.perm swap1 ?_; refine VC.keep [(5, .raw (bP b)), (14, .v y28 l), (15, I ((l.length : Nat) : Int)), (16, I ((0 : Nat) : Int))] ⟨rfl, rfl, rfl, rfl, trivial⟩ ?_; refine VC.loop (I := fun kk ff ss => ∃ (i : Nat) (a u : Value), kk = l.length - i ∧ ff = [(5, .raw (bP b)), (14, .v y28 l), (15, I ((l.length : Nat) : Int)), (16, I ((i : Nat) : Int))] ∧ ss = [(bW b, .cel 78 0 [.raw a, .raw u]), (u, .row 5 (.int .u8) (bytesI (prtA ByteArray.empty (l.take i))))] ∧ i ≤ l.length ∧ (a = .pointer none ∨ a = bP b) ∧ ((prtA ByteArray.empty (l.take i)).size = 0 → u = .slice none 0 0)) ?_ _ _ _ ⟨0, .pointer none, .slice none 0 0, rfl, rfl, rfl, Nat.zero_le _, .inl rfl, fun _ => rfl⟩; rintro kk ff ss ⟨i, a, u, hk0, rfl, rfl, hi, ha, hu⟩; refine VC.seq (VC.text ?_); refine VO.c (.lss) ?_; refine VO.go (VC.seq ?_); refine VC.condD rfl (fun c6 => ?_) (fun c6 => ?_)
  · have hit : i < l.length := by omega
    have hx := hp _ (List.getElem_mem hit); obtain ⟨⟨hok, _⟩, _⟩ := hx; have hsz := prtA_size (l := l.take (i + 1)) (s := ByteArray.empty) fun x hx => (hp x (List.mem_of_mem_take hx)).1.1
    have hnx : prtA ByteArray.empty (l.take (i + 1)) = prtA ByteArray.empty (l.take i) ++ (joinS 32 (wrds l[i]) ++ nlS) := by
      rw [List.take_succ_eq_append_getElem hit, prtA_one]
    have hz1 : (joinS 32 (wrds l[i])).size = (joiL 32 ((wrds l[i]).map toL)).length := by
      rw [← toL_len] <;> rfl
    have z0 : ByteArray.empty.size = 0 := rfl; have z1 : nlS.size = 1 := rfl; have z1' : (⟨#[10]⟩ : ByteArray).size = 1 := rfl; rw [hnx, ByteArray.size_append, ByteArray.size_append, List.length_take] at hsz; have hbl := hok.bl; refine VC.skip (VC.seq (VC.block (VC.seq (VC.text ?_)))); refine VO.c (.ix (j := i) rfl rfl el28 hit) ?_; refine VO.r (.ld vt79) ?_; refine VO.cell (.alloc zt79) ?_; intro w7; refine VO.setV (cs' := [St (l[i].1), I (l[i].2.1), I (l[i].2.2.1), .v (.sl (.int .i64)) (l[i].2.2.2)]) vt79 .v ?_; refine VO.shut [(7, .p y79 l[i])] (.cons rfl (.var m0 .refl) .nil) ?_; refine VO.go (VC.seq (VC.drawn ?_)); refine VD.c (.fa (.l .o)) ?_; refine VD.r [] (.ld vt9) (.inl rfl) ?_; refine VD.c (.fa (.r (.l .o))) ?_; refine VD.r [] (.ld vt3) (.inl rfl) ?_; refine VD.call rfl rfl (VF.call (zItoa_ok (by have := hok.lo; omega))) ?_; refine VD.c (.fa (.r (.r (.l .o)))) ?_; refine VD.r [] (.ld vt3) (.inl rfl) ?_; refine VD.call rfl rfl (VF.call (zItoa_ok (by have := hok.hi; omega))) ?_; refine VD.cell (.lit [phWd, l[i].1, decS l[i].2.1, decS l[i].2.2.1] el39) ?_; intro w8; refine VD.c (.assign rfl) ?_; refine VD.go (VC.seq (VC.text ?_)); refine VO.c (.move rfl) (VO.c (.fa (.r (.r (.r .o)))) ?_); refine VO.r (.ld vt41) ?_; refine VO.call rfl rfl (VF.call (cMapIS_ok (F := decS) (by omega) fun x hx => VF.call (zItoa_ok (by have := hok.be x hx; omega)))) ?_; refine VO.app rfl rfl el39 el39 (by simp; omega) ?_; intro w9; refine VO.c (.assign rfl) ?_; refine VO.shut [(8, .v (.sl .str) (wrds l[i]))] (.cons rfl (.row m0) .nil) ?_; refine VO.go (VC.text ?_); refine VO.c (.move rfl) ?_; refine VO.call rfl rfl (VF.call (zJoin_ok (p := ⟨#[32]⟩) rfl (by simp [wrds]) (by simp [wrds]; omega) (by rw [show sepB ⟨#[32]⟩ = 32 from rfl]; omega))) ?_; refine VO.c (.sadd (p := joinS 32 (wrds l[i])) (q := nlS) (by omega)) ?_; refine VO.callG [(bW b, .cel 78 0 [.raw a, .raw u]), (u, .row 5 (.int .u8) (bytesI (prtA ByteArray.empty (l.take i))))] rfl rfl rfl (VFG.call (zWrite_ok (s := joinS 32 (wrds l[i]) ++ nlS) (by rw [ByteArray.size_append]; omega) ha hu)) ?_; rintro _ _ ⟨u', rfl, rfl, hu'⟩; refine VO.nil (VC.text ?_); refine VO.c (.add rfl rfl (by omega)) (VO.c (.move rfl) ?_); refine VO.nil ?_; refine ⟨_, [(5, .raw (bP b)), (14, .v y28 l), (15, I ((l.length : Nat) : Int)), (16, I (((i + 1) : Nat) : Int))], ?_, ⟨rfl, rfl, rfl, rfl, trivial⟩, (i + 1), bP b, u', rfl, rfl, ?_, by omega, .inr rfl, ?_⟩
    · omega
    · rw [hnx] <;> rfl
    rw [hnx]; exact hu'
  have hie : i = l.length := by omega
  refine VC.exit ?_; show VC _ _ _ _ _ _ _ _; have hsz := prtA_size (l := l) (s := ByteArray.empty) fun x hx => (hp x hx).1.1; have z0 : ByteArray.empty.size = 0 := rfl; rw [hie, List.take_length] at hu ⊢; rw [show prtR l = prtA ByteArray.empty l from if_pos hz, hz]; refine VC.seq (VC.text ?_); refine VO.callG [(bW b, .cel 78 0 [.raw a, .raw u]), (u, .row 5 (.int .u8) (bytesI (prtA ByteArray.empty l)))] rfl rfl rfl (VFG.call (zStr_ok (by omega) hu)) ?_; rintro _ _ ⟨rfl, rfl⟩; refine VO.c (.assign rfl) (VO.c (.assign rfl) (VO.go ?_)); refine VC.ret ?_; exact ⟨rfl, [St (prtA ByteArray.empty l), I 0], .cons evT (.cons evT .nil), rfl⟩
end Go.Proofs
namespace Go.Proofs
open Go.Fs
set_option maxHeartbeats 1000000
theorem prs_len : ∀ {L : List ByteArray} {out l : List Pha} {i j : Nat}, L ≠ [] → prs L out i = (some l, j) → l.length + 1 = out.length + L.length
  | [], _, _, _, _, h, _ => absurd rfl h
  | [x], out, l, i, j, _, h => by
    by_cases hx : x = ByteArray.empty
    · rw [prs_last hx] at h; injection h with h1 h2; injection h1 with h1; subst h1; rfl
    rw [prs_tail hx] at h; injection h with h1 h2
    cases h1
  | x :: y :: r, out, l, i, j, _, h => by
    by_cases hb : phB (splS 32 x) = true
    · rw [prs_line hb] at h; have := prs_len (L := y :: r) (by simp) h; simp only [List.length_append, List.length_cons, List.length_nil] at this ⊢; omega
    rw [prs_wrong (by simpa using hb)] at h; injection h with h1 h2; cases h1
theorem prsR_none {chk : List Pha → Int} {s : ByteArray} {i : Nat} (hs : s.size < 100000) (h : prs (splS 10 s) [] 0 = (none, i)) : prsR chk s = [] ∧ prsN chk s = ((i : Nat) : Int) ∧ prsE chk s = 26 := by
  have hc : ¬ 1000000 < s.size := by omega
  unfold prsR prsN prsE prsL; refine ⟨?_, ?_, ?_⟩ <;> simp only [if_neg hc, h]
theorem prsR_some {chk : List Pha → Int} {s : ByteArray} {l : List Pha} (hs : s.size < 100000) (h : (prs (splS 10 s) [] 0).1 = some l) : prsR chk s = (if chk l ≠ 0 then [] else l) ∧ prsN chk s = (if chk l ≠ 0 then (((splS 10 s).length : Nat) : Int) - 1 else 0) ∧ prsE chk s = chk l := by
  have hc : ¬ 1000000 < s.size := by omega
  unfold prsR prsN prsE prsL; refine ⟨?_, ?_, ?_⟩ <;> simp only [if_neg hc, h]
theorem cutA_size {s : ByteArray} {c : UInt8} : (cutA c s).size ≤ s.size := by
  unfold cutA; split
  · exact Nat.le_refl _
  rw [← toL_len, toL_take, List.length_take, toL_len]; exact Nat.min_le_right _ _
theorem phX_few {W : List ByteArray} : (phX W).2.2.2.length ≤ W.length - 4 := by
  show (((W.drop 2).map numV).drop 2).length ≤ _; rw [List.length_drop, List.length_map, List.length_drop]; omega
theorem cParse_ok {s : ByteArray} (hs : s.size < 100000) : VF Tryz.prog OA 9 [St s] (.tup [.v y28 (prsR planE s), I (prsN planE s), I (prsE planE s)]) := by
  refine VF.enter Tryz.func9 rfl (fun _ _ => rfl) rfl ?_; show VC _ _ _ _ _ [(0, St s)] [] _; refine VC.seq (VC.text ?_); refine VO.c (.assign rfl) (VO.c (.assign rfl) (VO.c (.assign rfl) ?_)); refine VO.go (VC.seq (VC.seq (VC.text ?_))); refine VO.c (.move rfl) ?_; refine VO.r (.lenS) ?_; refine VO.c (.gtr) (VO.go ?_); refine VC.condD rfl (fun c1 => ?_) (fun c1 => ?_)
  · exfalso; omega
  skip
  refine VC.skip (VC.seq (VC.text ?_)); refine VO.c (.assign rfl) ?_; refine VO.go (VC.seq (VC.block ?_)); refine VC.cell0 79 y79 ?_; refine VC.keep [(0, St s), (5, .raw (.slice none 0 0))] ⟨rfl, rfl, trivial⟩ ?_; refine VC.loop (I := fun kk ff ss => ∃ (r : ByteArray) (o : List Pha) (out : Value), kk = r.size ∧ ff = [(0, St r), (5, .raw out)] ∧ ss = [(out, .row 79 y79 o)] ∧ (o.length + r.size ≤ s.size) ∧ (prs (splS 10 s) [] 0 = prs (splS 10 r) o o.length) ∧ (∀ x ∈ o, x.2.2.2.length < 100000)) ?_ _ _ _ ⟨s, [], (.slice none 0 0), rfl, rfl, rfl, (by simp), (by rfl), (by intro x hx; cases hx)⟩; rintro kk ff ss ⟨r, o, out, hk0, rfl, rfl, hr, hp, hb⟩; refine VC.seq (VC.seq (VC.text ?_)); refine VO.c (.move rfl) (VO.c (.sneq) (VO.go ?_)); refine VC.condD rfl (fun c4 => ?_) (fun c4 => ?_)
  · have hca := cutA_size (s := r) (c := 10); refine VC.skip (VC.block (VC.seq (VC.text ?_))); refine VO.c (.move rfl) ?_; refine VO.call rfl rfl (VF.call (zCut_ok rfl (by omega))) ?_; refine VO.c (.move rfl) (VO.c (.extract) (VO.c (.extract) (VO.c (.extract) ?_))); refine VO.c (.assign rfl) (VO.c (.assign rfl) (VO.c (.assign rfl) ?_)); refine VO.go (VC.seq (VC.text ?_)); refine VO.c (.move rfl) ?_; refine VO.call rfl rfl (VF.call (cPhase_ok (show (cutA 10 r).size < 100000 by omega))) ?_; refine VO.c (.move rfl) (VO.c (.extract) (VO.c (.extract) ?_)); refine VO.cell (.alloc zt79) ?_; intro ww1; refine VO.setV (cs' := [St ((phP (splS 32 (cutA (sepB (⟨#[10]⟩)) r))).1), I ((phP (splS 32 (cutA (sepB (⟨#[10]⟩)) r))).2.1), I ((phP (splS 32 (cutA (sepB (⟨#[10]⟩)) r))).2.2.1), .v y41 ((phP (splS 32 (cutA (sepB (⟨#[10]⟩)) r))).2.2.2)]) vt79 .v ?_; refine VO.shut [(9, .p y79 (phP (splS 32 (cutA (sepB (⟨#[10]⟩)) r))))] (.cons rfl (.var m0 .refl) .nil) ?_; refine VO.c (.assign rfl) ?_; refine VO.go (VC.seq (VC.seq (VC.text ?_))); refine VO.c (.move rfl) (VO.c (.not) (VO.c (.move rfl) ?_)); refine VO.cg (r := (!(decide (0 ≤ Go.Lib.indexByte (toL r) (sepB (⟨#[10]⟩)))))) (w := false) [] trivial (fun _ => (.move rfl)) ?_; refine VO.cg (r := (!(decide (0 ≤ Go.Lib.indexByte (toL r) (sepB (⟨#[10]⟩)))))) (w := false) [(31, B (phB (splS 32 (cutA (sepB (⟨#[10]⟩)) r))))] ⟨rfl, trivial⟩ (fun _ => (.not)) ?_; refine VO.c (.or) (VO.go ?_); refine VC.condB rfl (fun c7 => ?_) (fun c7 => ?_)
    · try simp only [Bool.and_eq_true, Bool.or_eq_true, Bool.and_eq_false_iff, Bool.or_eq_false_iff, Bool.not_eq_true', Bool.not_eq_false', decide_eq_true_eq, decide_eq_false_iff_not] at c7
      have hne : prs (splS 10 s) [] 0 = (none, o.length) := by
        rw [hp]; rcases c7 with h | h
        · exact prs_torn c4 h
        by_cases hi : 0 ≤ Go.Lib.indexByte (toL r) 10
        · exact prs_bad hi h
        exact prs_torn c4 hi
      obtain ⟨e1, e2, e3⟩ := prsR_none (chk := planE) hs hne; refine VC.seq (VC.text ?_); refine VO.c (.move rfl) ?_; refine VO.r (.lenO m0 el28) ?_; refine VO.c (.assign rfl) (VO.c (.assign rfl) (VO.c (.assign rfl) (VO.go ?_))); refine VC.ret ?_; exact VEnd.three rfl (evC .nil) evT evT (pvE (by exact e1.symm)) (pvI (by exact e2.symm)) (pvI (by exact e3.symm))
    try simp only [Bool.and_eq_true, Bool.or_eq_true, Bool.and_eq_false_iff, Bool.or_eq_false_iff, Bool.not_eq_true', Bool.not_eq_false', decide_eq_true_eq, decide_eq_false_iff_not] at c7
    have hcr := cutR_size (s := r) (c := 10) c7.1; have hpe : phP (splS 32 (cutA 10 r)) = phX (splS 32 (cutA 10 r)) := phP_phX c7.2; have hfw := phX_few (W := splS 32 (cutA 10 r)); have hfs := splS_few (c := 32) (s := cutA 10 r); refine VC.skip (VC.seq (VC.text ?_)); refine VO.c (.move rfl) ?_; refine VO.r (.ld vt79) ?_; refine VO.new (.lit [phP (splS 32 (cutA (sepB (⟨#[10]⟩)) r))] el28) ?_; refine VO.app rfl rfl el28 el28 (by simp; omega) ?_; intro ww2; refine VO.c (.assign rfl) ?_; refine VO.go (VC.text ?_); refine VO.c (.move rfl) (VO.c (.assign rfl) ?_); refine VO.nil ?_; refine ⟨_, [(0, St (cutR 10 r)), (5, .raw ww2)], ?_, ⟨slE rfl (by first | rfl | simp | omega), rfl, trivial⟩, (cutR 10 r), (o ++ [phX (splS 32 (cutA 10 r))]), ww2, rfl, rfl, (by rw [← hpe] <;> rfl), (by simp only [List.length_append, List.length_cons, List.length_nil]; omega), (by rw [hp, prs_good c7.1 c7.2, List.length_append] <;> rfl), (by intro x hx; rcases List.mem_append.1 hx with hx | hx; exact hb x hx; rw [List.mem_singleton.1 hx]; omega)⟩; omega
  have hr0 : r = ByteArray.empty := Classical.not_not.1 c4
  have hs1 : (prs (splS 10 s) [] 0).1 = some o := by rw [hp, hr0, prs_end]
  have hs2 := prs_len (L := splS 10 s) splS_ne (show prs (splS 10 s) [] 0 = (some o, o.length) by rw [hp, hr0, prs_end]); obtain ⟨e1, e2, e3⟩ := prsR_some (chk := planE) hs hs1; refine VC.exit (VC.seq (VC.seq (VC.text ?_))); refine VO.c (.move rfl) ?_; refine VO.callC rfl rfl .same (.cons (.row m0) .nil) rfl (VF.call (cPlan_ok (by omega) hb)) ?_; refine VO.c (.assign rfl) ?_; refine VO.go (VC.seq (VC.text ?_)); refine VO.c (.move rfl) (VO.c (.neq) (VO.go ?_)); refine VC.condD rfl (fun c12 => ?_) (fun c12 => ?_)
  · refine VC.seq (VC.text ?_); refine VO.c (.move rfl) ?_; refine VO.r (.lenO m0 el28) ?_; refine VO.c (.move rfl) (VO.c (.assign rfl) (VO.c (.assign rfl) (VO.c (.assign rfl) ?_))); refine VO.go ?_; refine VC.ret ?_; exact VEnd.three rfl (evC .nil) evT evT (pvE (by rw [e1, if_pos c12])) (pvI (by rw [e2, if_pos c12]; simp only [List.length_nil] at hs2; omega)) (pvI (by exact e3.symm))
  refine VC.skip (VC.seq (VC.text ?_)); refine VO.c (.move rfl) (VO.c (.assign rfl) (VO.c (.assign rfl) (VO.c (.assign rfl) ?_))); refine VO.go ?_; refine VC.ret ?_; exact VEnd.three rfl (evC (.row m0)) evT evT (pvE (by rw [e1, if_neg c12])) (pvI (by rw [e2, if_neg c12])) (pvI (by rw [e3]; exact (Classical.not_not.1 c12).symm))
end Go.Proofs
namespace Go.Proofs
open Go.Fs
set_option maxHeartbeats 1000000
theorem lOwn_ok {l : List (ByteArray × Int × Int × (List Int))} (hl : l.length < 100000) : VF Tryz.prog OA 14 [.v y28 l] (.v y22 l) := by
  refine VF.enter Tryz.func14 rfl (fun _ _ => rfl) rfl ?_; show VC _ _ _ _ _ [(0, .v y28 l)] [] _; refine VC.seq (VC.text ?_); refine VO.c (.assign rfl) ?_; refine VO.go (VC.seq (VC.text ?_)); refine VO.c (.assign rfl) ?_; refine VO.go (VC.seq (VC.seq (VC.text ?_))); refine VO.c (.move rfl) ?_; refine VO.r (.len el28) ?_; refine VO.c (.move rfl) ?_; refine VO.go (VC.block ?_); refine VC.cell0 73 y73 ?_; refine VC.keep [(3, .raw (.slice none 0 0)), (6, .v y28 l), (7, I ((l.length : Nat) : Int)), (8, I ((0 : Nat) : Int))] ⟨rfl, rfl, rfl, rfl, trivial⟩ ?_; refine VC.loop (I := fun kk ff ss => ∃ (j : Nat) (out : Value), kk = l.length - j ∧ ff = [(3, .raw out), (6, .v y28 l), (7, I ((l.length : Nat) : Int)), (8, I ((j : Nat) : Int))] ∧ ss = [(out, .row 73 y73 (l.take j))] ∧ (j ≤ l.length)) ?_ _ _ _ ⟨0, (.slice none 0 0), rfl, rfl, rfl, Nat.zero_le _⟩; rintro kk ff ss ⟨j, out, hk0, rfl, rfl, hj⟩; refine VC.seq (VC.text ?_); refine VO.c (.lss) ?_; refine VO.go (VC.seq ?_); refine VC.condD rfl (fun c3 => ?_) (fun c3 => ?_)
  · refine VC.skip (VC.seq (VC.block (VC.seq (VC.text ?_)))); refine VO.c (.ix (j := j) rfl rfl el28 (by omega)) ?_; refine VO.r (.ld vt79) ?_; refine VO.cell (.alloc zt79) ?_; intro ww1; refine VO.setV (cs' := [St ((l[j]).1), I ((l[j]).2.1), I ((l[j]).2.2.1), .v y41 ((l[j]).2.2.2)]) vt79 .v ?_; refine VO.shut [(5, .p y79 (l[j]))] (.cons rfl (.var m0 .refl) .nil) ?_; refine VO.go (VC.text ?_); refine VO.c (.move rfl) ?_; refine VO.r (.ld vt79) ?_; refine VO.new (.lit [l[j]] el22) ?_; refine VO.app rfl rfl el22 el22 (by simp; omega) ?_; intro ww2; refine VO.c (.assign rfl) ?_; refine VO.nil (VC.text ?_); refine VO.c (.add rfl rfl (by omega)) (VO.c (.move rfl) ?_); refine VO.nil ?_; refine ⟨_, [(3, .raw ww2), (6, .v y28 l), (7, I ((l.length : Nat) : Int)), (8, I (((j + 1) : Nat) : Int))], ?_, ⟨rfl, rfl, rfl, rfl, trivial⟩, (j + 1), ww2, rfl, rfl, (by rw [List.take_succ_eq_append_getElem (by omega)] <;> rfl), (by omega)⟩; omega
  refine VC.exit (VC.seq (VC.text ?_)); refine VO.c (.move rfl) (VO.c (.assign rfl) (VO.go ?_)); refine VC.ret ?_; exact VEnd.one rfl (evC (.row m0)) (pvE (by rw [List.take_of_length_le (by omega)]))
theorem rSamePl_ok {a : List (ByteArray × Int × Int × (List Int))} {b : List (ByteArray × Int × Int × (List Int))} (ha : a.length < 100000) (hb : ∀ x ∈ a, x.2.2.2.length < 100000) : VF Tryz.prog OA 13 [.v y22 a, .v y22 b] (B (decide (a = b))) := by
  refine VF.enter Tryz.func13 rfl (fun _ _ => rfl) rfl ?_; show VC _ _ _ _ _ [(0, .v y22 a), (1, .v y22 b)] [] _; refine VC.seq (VC.text ?_); refine VO.c (.assign rfl) ?_; refine VO.go (VC.seq (VC.seq (VC.text ?_))); refine VO.c (.move rfl) ?_; refine VO.r (.len el22) ?_; refine VO.c (.move rfl) ?_; refine VO.r (.len el22) ?_; refine VO.c (.neq) (VO.go ?_); refine VC.condD rfl (fun c1 => ?_) (fun c1 => ?_)
  · refine VC.seq (VC.text ?_); refine VO.c (.assign rfl) (VO.go ?_); refine VC.ret ?_; exact VEnd.one rfl evT (pvE (by exact (decide_eq_false (fun e => by subst e; exact c1 rfl)).symm))
  have hlen : a.length = b.length := by omega
  refine VC.skip (VC.seq (VC.seq (VC.text ?_))); refine VO.c (.assign rfl) ?_; refine VO.go (VC.block ?_); refine VC.keep [(0, .v y22 a), (1, .v y22 b), (5, I ((0 : Nat) : Int))] ⟨rfl, rfl, rfl, trivial⟩ ?_; refine VC.loop (I := fun kk ff ss => ∃ (i : Nat), kk = a.length - i ∧ ff = [(0, .v y22 a), (1, .v y22 b), (5, I ((i : Nat) : Int))] ∧ ss = [] ∧ (i ≤ a.length) ∧ (∀ j (hj : j < a.length), j < i → a[j] = b[j]'(by omega))) ?_ _ _ _ ⟨0, rfl, rfl, rfl, Nat.zero_le _, (by intro j hj h; omega)⟩; rintro kk ff ss ⟨i, hk0, rfl, rfl, hi, hq⟩; refine VC.seq (VC.seq (VC.text ?_)); refine VO.c (.move rfl) (VO.c (.move rfl) ?_); refine VO.r (.len el22) ?_; refine VO.c (.lss) (VO.go ?_); refine VC.condD rfl (fun c4 => ?_) (fun c4 => ?_)
  · refine VC.skip (VC.seq (VC.block (VC.seq (VC.drawn ?_)))); refine VD.c (.move rfl) (VD.c (.move rfl) (VD.c (.ix (j := i) rfl rfl el22 (by omega)) (VD.c (.fa (.l .o)) ?_))); refine VD.r [] (.ld vt9) (.inl rfl) ?_; refine VD.c (.move rfl) (VD.nw [] (VD.c (.move rfl) (VD.c (.ix (j := i) rfl rfl el22 (by omega)) ?_))); refine VD.c (.fa (.l .o)) ?_; refine VD.r [] (.ld vt9) (.inl rfl) ?_; refine VD.c (.sneq) (VD.c (.move rfl) ?_); refine VD.splitD (x := 28) rfl (fun g6_11 => ?_) (fun g6_11 => ?_)
    · refine VD.nw [] (VD.skip (VD.skip (VD.skip ?_))); refine VD.skip (VD.skip (VD.skip (VD.skip ?_))); refine VD.nw [] (VD.skip (VD.skip (VD.skip ?_))); refine VD.skip (VD.c (.pickT rfl rfl) (VD.c (.move rfl) (VD.skip ?_))); refine VD.nw [] (VD.skip (VD.skip (VD.skip ?_))); refine VD.skip (VD.skip (VD.skip (VD.skip ?_))); refine VD.nw [] (VD.skip (VD.skip (VD.skip ?_))); refine VD.c (.pickT rfl rfl) (VD.c (.move rfl) (VD.skip (VD.skip ?_))); refine VD.nw [] (VD.skip (VD.skip (VD.skip ?_))); refine VD.skip (VD.skip (VD.skip (VD.skip ?_))); refine VD.nw [] (VD.skip (VD.skip (VD.skip ?_))); refine VD.c (.pickT rfl rfl) (VD.go ?_); refine VC.condT rfl ?_; refine VC.seq ?_; refine VC.keep [(0, .v y22 a), (1, .v y22 b), (5, I ((i : Nat) : Int))] ⟨rfl, rfl, rfl, trivial⟩ ?_; refine VC.text ?_; refine VO.c (.assign rfl) (VO.go ?_); refine VC.ret ?_; exact VEnd.one rfl evT (pvE (by exact (decide_eq_false fun e => by subst e; first | exact g6_11 rfl | exact g6_24 rfl | exact g6_37 rfl | exact c6 rfl).symm))
    refine VD.nw [] (VD.c (.move rfl) (VD.c (.move rfl) (VD.c (.ix (j := i) rfl rfl el22 (by omega)) ?_))); refine VD.c (.fa (.r (.l .o))) ?_; refine VD.r [] (.ld vt3) (.inl rfl) ?_; refine VD.c (.move rfl) (VD.c (.move rfl) (VD.nw [] (VD.c (.ix (j := i) rfl rfl el22 (by omega)) ?_))); refine VD.c (.fa (.r (.l .o))) ?_; refine VD.r [] (.ld vt3) (.inl rfl) ?_; refine VD.c (.neq) (VD.c (.pickF rfl rfl) (VD.c (.move rfl) ?_)); refine VD.splitD (x := 41) rfl (fun g6_24 => ?_) (fun g6_24 => ?_)
    · refine VD.nw [] (VD.skip (VD.skip (VD.skip ?_))); refine VD.skip (VD.skip (VD.skip (VD.skip ?_))); refine VD.nw [] (VD.skip (VD.skip (VD.skip ?_))); refine VD.skip (VD.c (.pickT rfl rfl) (VD.c (.move rfl) (VD.skip ?_))); refine VD.nw [] (VD.skip (VD.skip (VD.skip ?_))); refine VD.skip (VD.skip (VD.skip (VD.skip ?_))); refine VD.nw [] (VD.skip (VD.skip (VD.skip ?_))); refine VD.skip (VD.c (.pickT rfl rfl) (VD.go ?_)); refine VC.condT rfl ?_; refine VC.seq ?_; refine VC.keep [(0, .v y22 a), (1, .v y22 b), (5, I ((i : Nat) : Int))] ⟨rfl, rfl, rfl, trivial⟩ ?_; refine VC.text ?_; refine VO.c (.assign rfl) (VO.go ?_); refine VC.ret ?_; exact VEnd.one rfl evT (pvE (by exact (decide_eq_false fun e => by subst e; first | exact g6_11 rfl | exact g6_24 rfl | exact g6_37 rfl | exact c6 rfl).symm))
    refine VD.nw [] (VD.c (.move rfl) (VD.c (.move rfl) (VD.c (.ix (j := i) rfl rfl el22 (by omega)) ?_))); refine VD.c (.fa (.r (.r (.l .o)))) ?_; refine VD.r [] (.ld vt3) (.inl rfl) ?_; refine VD.c (.move rfl) (VD.c (.move rfl) (VD.nw [] (VD.c (.ix (j := i) rfl rfl el22 (by omega)) ?_))); refine VD.c (.fa (.r (.r (.l .o)))) ?_; refine VD.r [] (.ld vt3) (.inl rfl) ?_; refine VD.c (.neq) (VD.c (.pickF rfl rfl) (VD.c (.move rfl) ?_)); refine VD.splitD (x := 54) rfl (fun g6_37 => ?_) (fun g6_37 => ?_)
    · refine VD.nw [] (VD.skip (VD.skip (VD.skip ?_))); refine VD.skip (VD.skip (VD.skip (VD.skip ?_))); refine VD.nw [] (VD.skip (VD.skip (VD.skip ?_))); refine VD.skip (VD.skip (VD.c (.pickT rfl rfl) (VD.go ?_))); refine VC.condT rfl ?_; refine VC.seq ?_; refine VC.keep [(0, .v y22 a), (1, .v y22 b), (5, I ((i : Nat) : Int))] ⟨rfl, rfl, rfl, trivial⟩ ?_; refine VC.text ?_; refine VO.c (.assign rfl) (VO.go ?_); refine VC.ret ?_; exact VEnd.one rfl evT (pvE (by exact (decide_eq_false fun e => by subst e; first | exact g6_11 rfl | exact g6_24 rfl | exact g6_37 rfl | exact c6 rfl).symm))
    refine VD.nw [] (VD.c (.move rfl) (VD.c (.move rfl) (VD.c (.ix (j := i) rfl rfl el22 (by omega)) ?_))); refine VD.c (.fa (.r (.r (.r .o)))) ?_; refine VD.r [] (.ld vt41) (.inl rfl) ?_; refine VD.c (.move rfl) (VD.c (.move rfl) (VD.nw [] (VD.c (.ix (j := i) rfl rfl el22 (by omega)) ?_))); refine VD.c (.fa (.r (.r (.r .o)))) ?_; refine VD.r [] (.ld vt41) (.inl rfl) ?_; refine VD.call rfl rfl (VF.call (rSameI_ok (by have := hb _ (List.getElem_mem (show i < a.length by omega)); omega))) ?_; refine VD.c (.not) (VD.c (.pickF rfl rfl) (VD.go ?_)); refine VC.condB rfl (fun c6 => ?_) (fun c6 => ?_)
    · try simp only [Bool.and_eq_true, Bool.or_eq_true, Bool.and_eq_false_iff, Bool.or_eq_false_iff, Bool.not_eq_true', Bool.not_eq_false', decide_eq_true_eq, decide_eq_false_iff_not] at c6
      refine VC.seq ?_; refine VC.keep [(0, .v y22 a), (1, .v y22 b), (5, I ((i : Nat) : Int))] ⟨rfl, rfl, rfl, trivial⟩ ?_; refine VC.text ?_; refine VO.c (.assign rfl) (VO.go ?_); refine VC.ret ?_; exact VEnd.one rfl evT (pvE (by exact (decide_eq_false fun e => by subst e; first | exact g6_11 rfl | exact g6_24 rfl | exact g6_37 rfl | exact c6 rfl).symm))
    try simp only [Bool.and_eq_true, Bool.or_eq_true, Bool.and_eq_false_iff, Bool.or_eq_false_iff, Bool.not_eq_true', Bool.not_eq_false', decide_eq_true_eq, decide_eq_false_iff_not] at c6
    have e6 : a[i]'(by omega) = b[i]'(by omega) := Prod.ext (Classical.not_not.1 g6_11) (Prod.ext (Classical.not_not.1 g6_24) (Prod.ext (Classical.not_not.1 g6_37) c6)); refine VC.skip ?_; refine VC.keep [(0, .v y22 a), (1, .v y22 b), (5, I ((i : Nat) : Int))] ⟨rfl, rfl, rfl, trivial⟩ ?_; refine VC.text ?_; refine VO.c (.move rfl) (VO.c (.add rfl rfl (by omega)) (VO.c (.assign rfl) ?_)); refine VO.nil ?_; refine ⟨_, [(0, .v y22 a), (1, .v y22 b), (5, I (((i + 1) : Nat) : Int))], ?_, ⟨rfl, rfl, rfl, trivial⟩, (i + 1), rfl, rfl, rfl, (by omega), (by intro j hj h; rcases Nat.lt_succ_iff_lt_or_eq.1 h with h | h; exact hq j hj h; subst h; exact e6)⟩; omega
  refine VC.exit (VC.seq (VC.text ?_)); refine VO.c (.assign rfl) (VO.go ?_); refine VC.ret ?_; exact VEnd.one rfl evT (pvE (by exact (decide_eq_true (List.ext_getElem hlen fun j h1 h2 => hq j h1 (by omega))).symm))
end Go.Proofs
namespace Go.Proofs
open Go.Fs
set_option maxHeartbeats 1000000
theorem shortP_t {l : List Pha} (h : shortP l = true) : (∀ x ∈ l, x.1.size ≤ 40 ∧ x.2.2.2.length ≤ 8) ∧ (l.length ≤ 7 ∨ l.length = 17) := of_decide_eq_true h
theorem shortP_l {l : List Pha} (h : shortP l = true) : l.length < 100000 := by have := (shortP_t h).2; omega
theorem shortP_b {l : List Pha} (h : shortP l = true) : ∀ x ∈ l, x.2.2.2.length < 100000 := fun x hx => by have := ((shortP_t h).1 x hx).2; omega
theorem plan_few {l : List Pha} (h : planE l = 0) : l.length < 100000 ∧ ∀ x ∈ l, x.2.2.2.length < 100000 := by
  have hp := plan_ok h; have hl := hp.len; refine ⟨by omega, fun x hx => ?_⟩; obtain ⟨i, hi, rfl⟩ := List.mem_iff_getElem.1 hx; have := hp.blen hi; rw [phA_eq hi] at this; omega
theorem prsR_z {s : ByteArray} : planE (prsR planE s) = 0 := by
  have h0 : planE [] = 0 := by decide
  unfold prsR; split
  · exact h0
  split
  · split
    · exact h0
    rename_i h; exact Classical.not_not.1 h
  exact h0
end Go.Proofs
