/- Parts of the proof: an evaluator of the model, what it is sound for, and contracts of functions. No condition. -/
import Derived.Test.YteooaaiacpcfoaaGreatDoorP6
import Derived.Test.YteooaaiacpcfoaaGreatDoorP5
import Derived.Lib.Bytealg
import Derived.Test.YteooaaiacpcfoaaGreatDoorP4
import Derived.Lib.ConvBytes
import Derived.Lib.AtoiTie
import Derived.Lib.ItoaMem
set_option linter.all false
namespace Go.Fs
variable {P : Program} {orc : FuncId → List Value → Heap → Option (Value × Heap)} {rnd : Option Nat} {h h' h0 h1 h2 : Heap} {S S' S0 S1 S2 B G : List Nat} {σ σ' σr γ : Sto} {t t' : Tr} {ms : List Nat} {fl : VL} {ops : Array Oper} {n i mem : Nat} {l : List Oper} {K : VL → Sto → Prop} {Q : Ex → VL → Sto → Prop}
  {d : Tmp} {ty : TypeId} {pos : String} {after : Array Edge} {op : Op} {v pv : PV} {g : Option (Nat × Bool)} {x y z : Operand} {T T' e e' e2 : TypeId} {τ τ' : Ty} {w w' a u : Value} {c c' : Cell} {b : Nat}
def bytesI (s : ByteArray) : List Int := s.data.toList.map fun c => ((c.toNat : Nat) : Int)
theorem bytesI_len (s : ByteArray) : (bytesI s).length = s.size := by
  show (s.data.toList.map _).length = s.data.size; simp
theorem bytesI_app (s r : ByteArray) : bytesI (s ++ r) = bytesI s ++ bytesI r := by
  unfold bytesI; rw [ByteArray.data_append, Array.toList_append, List.map_append]
def bytesV (s : ByteArray) : List Value := (bytesI s).map (.int .u8)
theorem bytesV_len (s : ByteArray) : (bytesV s).length = s.size := by rw [bytesV, List.length_map, bytesI_len]
theorem u8_elems {rs : List Value} {xs : List Int} (he : Elems h S (.int .u8) rs xs) : rs = xs.map (.int .u8) := by
  have h1 := he.1; simp only [Ty.size, Nat.mul_one] at h1; refine List.ext_getElem (by simpa using h1) fun i h2 h3 => ?_; rw [List.getElem_map]
  have hi : i < xs.length := by simpa using h3
  have h4 := he.2 i hi; have h4 : (rs.drop (i * 1)).take 1 = [.int .u8 xs[i]] := h4; rw [Nat.mul_one, List.drop_eq_getElem_cons h2] at h4; exact List.cons.inj h4 |>.1
theorem elems_u8 {xs : List Int} : Elems h S (.int .u8) (xs.map (.int .u8)) xs := ⟨by simp [Ty.size], fun i hi => by
  show ((xs.map (Value.int .u8)).drop (i * 1)).take 1 = [.int .u8 xs[i]]; rw [Nat.mul_one, List.drop_eq_getElem_cons (by simpa using hi)]
  simp⟩
theorem bytesC_map : ∀ l : List UInt8, bytesC (l.map fun c => Value.int .u8 ((c.toNat : Nat) : Int)) = some l
  | [] => rfl
  | c :: r => by
    show (bif Nat.blt c.toNat 256 then (bytesC _).map (UInt8.ofNat c.toNat :: ·) else none) = _
    have h1 : Nat.blt c.toNat 256 = true := by
      show Nat.ble (c.toNat + 1) 256 = true; rw [Nat.ble_eq]; exact c.toNat_lt
    rw [h1, bytesC_map r]; simp
theorem bytesC_V (s : ByteArray) : bytesC (bytesV s) = some s.data.toList := by
  rw [bytesV, bytesI, List.map_map]; exact bytesC_map _
abbrev bP (b : Nat) : Value := .pointer (some ⟨b, 0, none⟩)
abbrev bW (b : Nat) : Value := .slice (some ⟨b, 0, none⟩) 0 0
theorem bld_get (hc : CellR h S (bW b) (.cel T 0 [.raw a, .raw u])) : b ∈ S ∧ h.get b = some (.row T [a, u] true false) ∧ oneCell a = true ∧ oneCell u = true := by
  rcases hc with ⟨h1, _⟩ | ⟨b', rs, m, h1, h2, h3, h4, h5, h6⟩
  · cases h1
  have h1 : bW b = .slice (some ⟨b', 0, none⟩) 0 0 := h1
  have hb : b = b' := by injection h1 with h1; injection h1 with h1; injection h1
  subst hb; obtain rfl : rs = [a, u] := raws_eq (us := [a, u]) h4; obtain rfl := h6 rfl; simp at h5; exact ⟨h2, h3, h5.1, h5.2⟩
theorem bld_of (hb : b ∈ S) (hg : h.get b = some (.row T [a, u] true false)) (ha : oneCell a = true) (hu : oneCell u = true) : CellR h S (bW b) (.cel T 0 [.raw a, .raw u]) :=
  .inr ⟨b, [a, u], false, rfl, hb, hg, raws_rep (us := [a, u]), by simp [ha, hu], fun _ => rfl⟩
theorem MakeV.allocB (hz : (P.info? T).bind (·.zero) = some (.agg #[.pointer none, .slice none 0 0])) : MakeV P fl σ (.alloc T) fun v σ' => ∃ b, v = .raw (bP b) ∧ σ' = (bW b, .cel T 0 [.raw (.pointer none), .raw (.slice none 0 0)]) :: σ :=
  ⟨rfl, fun S0 h t L => by
    refine ⟨_, h.push (.row T [.pointer none, .slice none 0 0] true false), .raw (bP h.next), _, ⟨_, rfl, rfl⟩, Made.cons L (Aft.push h _ _) (fun b hb => by simp [blk] at hb; omega) (by simp [blk]) fun hN => ?_, rfl, fun _ _ _ _ _ => ?_⟩
    · exact bld_of (List.mem_append_left _ (by rw [own_cons]; simp [blk])) (by rw [Heap.get_push, if_pos rfl]) rfl rfl
    show (match (P.info? T).bind (·.zero) with | some z => if af z then fsBox T z h else none | none => none) = _; rw [hz]
    rfl⟩
theorem CalmV.nilP {p : Addr} (hx : evV fl x = some (.raw (.pointer (some p))) := by rfl) : CalmV P fl σ (.nilCheck x) (.raw (.pointer (some p))) :=
  ⟨rfl, fun h S t hs hc => by
    have h1 : evalO t x = .pointer (some p) := hs x (by simp [Op.operands]) _ hx; refine ⟨_, rfl, fun _ _ _ _ _ H => ?_⟩; show (match evalO t x with | .pointer (some a) => some (Value.pointer (some a), H) | .func (.func f) a b => some (.func (.func f) a b, H) | _ => none) = _
    rw [h1]⟩
theorem CalmV.faB {s : TypeId} {f k : Nat} (hm : (bW b, Cell.cel T 0 [.raw a, .raw u]) ∈ σ) (hb : offB P s f k = true := by kernel_rfl) (hx : evV fl x = some (.raw (bP b)) := by rfl) : CalmV P fl σ (.fieldAddr s x f) (.raw (padd (bP b) k)) :=
  ⟨rfl, fun h S t hs hc => by
    have h1 : evalO t x = bP b := hs x (by simp [Op.operands]) _ hx; obtain ⟨_, h5, _⟩ := bld_get (hc _ hm); have hB : BoxR h 0 (bP b) [a, u] := ⟨b, T, rfl, Nat.zero_le _, h5⟩; refine ⟨_, rfl, fun _ _ _ _ _ H => ?_⟩; show (runPure P (Instr.fieldAt s (evalO t x) f)).map _ = _
    rw [h1, hB.fa hb]; rfl⟩
theorem ReadV.ldB (hm : (bW b, Cell.cel T 0 [.raw a, .raw u]) ∈ σ) (hT : ValT P T' τ) (ha : τ.agg = false := by rfl) (hx : evV fl x = some (.raw (padd (bP b) 1)) := by rfl) : ReadV P fl σ (.load T' x) (.raw u) :=
  ⟨rfl, fun h S t hs hc => by
    have h1 : evalO t x = padd (bP b) 1 := hs x (by simp [Op.operands]) _ hx; obtain ⟨_, h5, _⟩ := bld_get (hc _ hm); refine ⟨u, rfl, fun H hH _ _ _ _ _ => ?_⟩; have hB : BoxR H 0 (bP b) [a, u] := ⟨b, T, rfl, Nat.zero_le _, hH b _ h5⟩; show (fsLoad P T' (evalO t x) H).map _ = _
    rw [h1, hB.ld1 hT ha (u := u) (by rfl)]; rfl⟩
theorem MakeV.stB {u' : Value} (hT : ValT P T' (.sl τ)) (hx : evV fl x = some (.raw (padd (bP b) 1))) (hy : evV fl y = some (.raw u')) (ho : oneCell u' = true) :
    MakeV P fl ((bW b, .cel T 0 [.raw a, .raw u]) :: σ) (.store T' x y) fun v σ' => v = .raw undef ∧ σ' = (bW b, .cel T 0 [.raw a, .raw u']) :: σ :=
  ⟨rfl, fun S0 h t L => by
    have h1 : evalO t x = padd (bP b) 1 := evV_ok L.slots hx; have h2 : evalO t y = u' := evV_ok L.slots hy; obtain ⟨g1, g2, g3, g4⟩ := bld_get (L.cells _ List.mem_cons_self); obtain ⟨i, hi, hs⟩ := hT.info; have hs : i.size = 1 := hs
    have hul : u'.cells.toList = [u'] := by rw [cells_one (agg_one ho)]
    refine ⟨undef, h.set b (.row T [a, u'] true false), .raw undef, _, ⟨rfl, rfl⟩, Made.head L (Aft.set g2 (by simp [blk])) (fun b hb => .inl hb) (by simp [blk]) fun hN => ?_, rfl, fun _ _ _ _ _ => ?_⟩
    · exact bld_of (List.mem_append_left _ (by rw [own_cons]; simp [blk])) (by rw [Heap.get_set g2, if_pos rfl]) g3 ho
    show (fsStore P T' (evalO t x) (evalO t y) h).map _ = _
    have : fsStore P T' (evalO t x) (evalO t y) h = some (h.set b (.row T [a, u'] true false)) := by
      rw [h1, h2]; simp only [fsStore, padd, g2, hi, hs, hul]; rw [if_pos ⟨rfl, by show 0 + 1 + 1 ≤ 2; omega, by simp [ho]⟩]; rfl
    rw [this]; rfl⟩
theorem appended_str {i : TypeInfo} {z : Value} {s : ByteArray} {xd : TypeDesc} (hi : isInt xd = false) : appended i z (isInt xd) (.string s) h = some (s.size, bytesV s) := by
  rw [hi]; show (match lenV (.string s) with | some m => (cellsOf i.size m (.string s) h).map fun cs => (m, cs) | none => none) = _; simp only [lenV, cellsOf, Option.map_some]; congr 2; rw [show s.extract 0 s.size = s from ByteArray.extract_zero_size]; simp [bytesV, bytesI, Array.toList_map, List.map_map]
theorem row_growX (hT : ElT P T e τ) {xd : TypeDesc} (hT' : P.underlying T' = some xd) {u : Value} {news : List Value} {xs ys : List τ.den} (hok : HOk h) (hg : CellR h S w (.row e τ xs)) 
    (hap : ∀ i z, i.size = τ.size → z.cells.toList.all af0 = true → appended i z (isInt xd) u h = some (ys.length, news)) (hy : Elems h S τ news ys) (hk0 : 0 < ys.length) (hsz : xs.length + ys.length ≤ 1000000) :
    ∃ h' rs, fsAppend P #[T, T'] w u h = some (.slice (some ⟨h.next, 0, none⟩) (xs.length + ys.length) 0, h') ∧ Aft h h' (blk w) ∧ h'.get h.next = some (.row e rs true true) ∧ (∀ S', Goes h S h' S' → Elems h' S' τ rs (xs ++ ys)) := by
  obtain ⟨i, z, hi1, hi2, hi3, hi3', hi4, hi5, hi6⟩ := hT.sl.info; have hone : news.all oneCell = true := hy.allOne; have hnl : news.length = ys.length * τ.size := hy.1
  have hbytes : (xs.length + ys.length) * i.bytes ≤ 274877906944 := by
    have := Nat.mul_le_mul hsz hi3'; omega
  unfold fsAppend; simp only [List.getElem?_toArray, List.getElem?_cons_zero, List.getElem?_cons_succ, hT.sl.sl, hT', hi1, hi4, hap i z hi2 hi6, hi2]
  have hc : (Nat.blt 0 τ.size && Nat.blt 0 i.bytes && Nat.beq news.length (ys.length * τ.size) && news.all oneCell && Nat.beq z.cells.size τ.size) = true := by
    have e1 : Nat.blt 0 τ.size = true := by show Nat.ble 1 τ.size = true; rw [Nat.ble_eq]; exact hT.sl.pos
    have e2 : Nat.blt 0 i.bytes = true := by show Nat.ble 1 i.bytes = true; rw [Nat.ble_eq]; exact hi3
    rw [e1, e2, hnl, Nat.beq_refl, hone, hi5, Nat.beq_refl]; rfl
  rw [hc]; simp only [cond_true]; have e0 : Nat.beq ys.length 0 = false := beq_no (by omega); rcases hg with ⟨rfl, rfl⟩ | ⟨b0, rs, m, rfl, hb0, hrow, hel⟩
  · refine ⟨h.push (.row e news true true), news, ?_, Aft.push h _ _, by rw [Heap.get_push, if_pos rfl], fun S' hN => by rw [List.nil_append]; exact hy.nx hN⟩; unfold fsGrow
    have e2 : Nat.ble (ys.length * i.bytes) 274877906944 = true := by rw [Nat.ble_eq]; simpa using hbytes
    simp only [e0, cond_false, e2, cond_true, grown, List.length_nil, Nat.zero_add]
  have hrl := hel.1; have hks : 0 < ys.length * τ.size := Nat.mul_pos hk0 hT.sl.pos; have hadd : (xs.length + ys.length) * τ.size = xs.length * τ.size + ys.length * τ.size := Nat.add_mul _ _ _
  have e1 : (Nat.beq ys.length 0 && Nat.beq 0 1) = false := by rw [e0]; rfl
  have e2 : Nat.beq e e = true := Nat.beq_refl _
  have e3 : Nat.ble ((xs.length + ys.length) * i.bytes) 274877906944 = true := by rw [Nat.ble_eq]; exact hbytes
  have e4 : Nat.ble (0 + xs.length * i.size) rs.length = true := by rw [Nat.ble_eq, hi2]; omega
  have e5 : Nat.ble (0 + (xs.length + ys.length) * i.size) rs.length = false := by
    cases hx : Nat.ble (0 + (xs.length + ys.length) * i.size) rs.length with
    | false => rfl
    | true => have := nble hx; rw [hi2] at this; omega
  have e6 : Nat.beq (xs.length * i.size) rs.length = true := by rw [hi2, hrl]; exact Nat.beq_refl _
  have e7 : Nat.beq 0 1 = false := rfl; have e8 : Nat.beq 0 0 = true := rfl; have hlt0 := hok b0 _ hrow; have hbk : blk (.slice (some ⟨b0, 0, none⟩) xs.length 0) = [b0] := rfl
  cases m with
  | true =>
    refine ⟨(h.drop b0).push (.row e (rs ++ news) true true), rs ++ news, ?_, (Aft.drop (B := blk _) (by rw [hbk]; simp)).trans (Aft.push (h.drop b0) _ []) (fun i hi => by cases hi), ?_, fun S' hN => (hel.append hy).nx hN⟩
    · unfold fsGrow; simp only [hrow, e1, cond_false, e2, e3, e4, Bool.and_self, cond_true, e7, e8, e5, Bool.not_true, e6, grown, Bool.true_and, Bool.and_false]; rfl
    have : (h.drop b0).next = h.next := rfl
    rw [Heap.get_push, if_pos this.symm]
  | false =>
    refine ⟨h.push (.row e (rs ++ news) true true), rs ++ news, ?_, Aft.push h _ _, by rw [Heap.get_push, if_pos rfl], fun S' hN => (hel.append hy).nx hN⟩; unfold fsGrow
    have e9 : (rs.drop 0).take (xs.length * i.size) = rs := by rw [List.drop_zero, hi2, ← hrl, List.take_length]
    simp only [hrow, e1, cond_false, e2, e3, e4, Bool.and_self, cond_true, e7, e8, e5, Bool.not_false, grown, Bool.true_and, Bool.and_false, e9]
theorem MakeV.appS {acc s : ByteArray} (hT : ElT P T e (.int .u8)) (hT' : P.underlying T' = some .string) (hx : evV fl x = some (.raw w)) (hy : evV fl y = some (.v .str s)) (hsz : acc.size + s.size ≤ 1000000) (hn : acc.size = 0 → w = .slice none 0 0) :
    MakeV P fl ((w, .row e (.int .u8) (bytesI acc)) :: σ) (.call { callee := .builtin .append, args := #[x, y], argTypes := #[T, T'] }) fun v σ' => ∃ w', (v = .raw w' ∧ σ' = (w', .row e (.int .u8) (bytesI (acc ++ s))) :: σ) ∧ ((acc ++ s).size = 0 → w' = .slice none 0 0) :=
  ⟨rfl, fun S0 h t L => by
    have h1 : evalO t x = w := evV_ok L.slots hx; have h2 : evalO t y = .string s := RepV.str (evV_ok L.slots hy : RepV h _ .str (evalO t y) s); have hc := L.cells _ List.mem_cons_self
    have hst : ∀ u h', fsAppend P #[T, T'] w (.string s) h = some (u, h') → ∀ (d : Option Tmp) (ty : TypeId) (pos : String) (after : Array Edge) (g : Option (Nat × Bool)), stepO P ⟨d, .call { callee := .builtin .append, args := #[x, y], argTypes := #[T, T'] }, ty, pos, after, g⟩ (evalO t) h = some (u, h') := fun u h' e _ _ _ _ _ => by
      show fsAppend P #[T, T'] (evalO t x) (evalO t y) h = _; rw [h1, h2, e]
    have hal := bytesI_len acc; have hsl := bytesI_len s; by_cases hp : 0 < s.size
    · obtain ⟨h', rs', e1, e2, e3, e4⟩ := row_growX hT hT' L.ok hc (u := .string s) (news := bytesV s) (ys := bytesI s) (fun i z _ _ => by rw [hsl]; exact appended_str rfl) elems_u8 (by omega) (by omega); refine ⟨_, h', .raw (.slice (some ⟨h.next, 0, none⟩) ((bytesI acc).length + (bytesI s).length) 0), _, ⟨_, ⟨rfl, rfl⟩, fun hz => ?_⟩, Made.head L e2 (fun b hb => .inr (by simp [blk] at hb; omega)) (by simp [blk]) fun hN => ?_, rfl, hst _ _ e1⟩
      · rw [ByteArray.size_append] at hz; omega
      rw [bytesI_app]; exact .inr ⟨h.next, rs', true, by rw [List.length_append], List.mem_append_left _ (by rw [own_cons]; simp [blk]), e3, e4 _ hN⟩
    have hs0 : s.size = 0 := by omega
    have hse : acc ++ s = acc := by
      have : bytesI s = [] := List.eq_nil_of_length_eq_zero (by omega); apply ByteArray.ext; rw [ByteArray.data_append]; have h9 : s.data = #[] := Array.eq_empty_of_size_eq_zero hs0; rw [h9, Array.append_empty]
    refine ⟨w, h, .raw w, _, ⟨w, ⟨rfl, rfl⟩, fun hz => hn (by rw [hse] at hz; exact hz)⟩, ?_, rfl, hst _ _ ?_⟩
    · rw [hse]; exact Made.same L (Aft.refl _ _)
    obtain ⟨i, z, hi1, hi2, hi3, hi3', hi4, hi5, hi6⟩ := hT.sl.info; have hi2 : i.size = 1 := hi2
    have hap : appended i z (isInt .string) (.string s) h = some (0, []) := by
      have := appended_str (i := i) (z := z) (h := h) (s := s) (xd := .string) rfl; rw [this, hs0]; have h8 : bytesV s = [] := List.eq_nil_of_length_eq_zero (by rw [bytesV_len]; exact hs0); rw [h8]
    unfold fsAppend; simp only [List.getElem?_toArray, List.getElem?_cons_zero, List.getElem?_cons_succ, hT.sl.sl, hT', hi1, hi4, hap, hi2]
    have hc2 : (Nat.blt 0 1 && Nat.blt 0 i.bytes && Nat.beq ([] : List Value).length (0 * 1) && ([] : List Value).all oneCell && Nat.beq z.cells.size 1) = true := by
      have e2 : Nat.blt 0 i.bytes = true := by show Nat.ble 1 i.bytes = true; rw [Nat.ble_eq]; exact hi3
      rw [e2, show z.cells.size = 1 from hi5]; rfl
    rw [hc2]; simp only [cond_true]; rcases hc with ⟨hw0, hx0⟩ | ⟨b0, rs, m, hw0, hb0, hrow, hel⟩
    · have hw0 : w = .slice none 0 0 := hw0; rw [hw0]; rfl
    have hw0 : w = .slice (some ⟨b0, 0, none⟩) (bytesI acc).length 0 := hw0; rw [hw0]; have hrl : rs.length = (bytesI acc).length * 1 := hel.1
    have e3 : Nat.ble (((bytesI acc).length + 0) * i.bytes) 274877906944 = true := by
      rw [Nat.ble_eq]; have := Nat.mul_le_mul (show (bytesI acc).length + 0 ≤ 1000000 by omega) hi3'; omega
    have e4 : Nat.ble (0 + (bytesI acc).length * 1) rs.length = true := by rw [Nat.ble_eq]; omega
    have e5 : Nat.ble (0 + ((bytesI acc).length + 0) * 1) rs.length = true := by rw [Nat.ble_eq]; omega
    unfold fsGrow; simp only [hrow, hi2, e3, e4, e5, Nat.beq_refl, Bool.and_self, cond_true, show Nat.beq 0 1 = false from rfl, show Nat.beq 0 0 = true from rfl, Bool.and_false, cond_false, Nat.add_zero]; simp only [Nat.add_zero] at e3 e5; simp only [e3, e5, cond_true]
    rfl⟩
theorem VFG.cop {O O2 : FuncId → List Value → Heap → Option (Value × Heap)} {fc : FuncId} {tb : TypeId} (hE : ∀ us h, O2 fc us h = orcC fc tb O fc us h) (ha : a = .pointer none ∨ a = bP b) :
    VFG P O2 fc [.raw (bP b)] [(bW b, .cel tb 0 [.raw a, .raw u])] fun r γ' => r = .tup [] ∧ γ' = [(bW b, .cel tb 0 [.raw (bP b), .raw u])] := fun h S us hok hS hcells hnd hsep har => by
  obtain ⟨v, r, rfl, h1, h2⟩ := har; obtain rfl : r = [] := h2; obtain rfl : v = bP b := h1; obtain ⟨g1, g2, g3, g4⟩ := bld_get (hcells _ List.mem_cons_self); have gb : b ∈ own [(bW b, Cell.cel tb 0 [.raw (bP b), .raw u])] ++ S := List.mem_append_left _ (by simp [own, blk]); rcases ha with rfl | rfl
  · have ho : orcC fc tb O fc [bP b] h = some (.tuple #[], h.set b (.row tb [bP b, u] true false)) := by
      simp only [orcC, Nat.beq_refl, cond_true, g2]
    refine EvF.oracle ((hE _ _).trans ho) ⟨_, _, ⟨rfl, rfl⟩, ⟨Aft.set g2 (by simp [own, blk]), fun b' hb' => .inl (by simpa [own, blk] using hb'), by simp [own, blk], fun c hc => ?_⟩, ⟨[], rfl, rfl⟩⟩
    obtain rfl : c = _ := by simpa using hc
    exact bld_of gb (by rw [Heap.get_set g2, if_pos rfl]) rfl g4
  have ho : orcC fc tb O fc [bP b] h = some (.tuple #[], h) := by
    simp only [orcC, Nat.beq_refl, cond_true, g2, Bool.and_self]
  refine EvF.oracle ((hE _ _).trans ho) ⟨_, _, ⟨rfl, rfl⟩, ⟨Aft.refl _ _, fun b' hb' => .inl (by simpa [own, blk] using hb'), by simp [own, blk], fun c hc => ?_⟩, ⟨[], rfl, rfl⟩⟩
  obtain rfl : c = _ := by simpa using hc
  exact bld_of gb g2 rfl g4
def sdV : Value → Value
  | .slice a _ _ => .pointer a
  | v => v
theorem ReadV.sd {acc : ByteArray} {T1 : TypeId} (hx : evV fl x = some (.raw w)) (hm : (w, Cell.row e (.int .u8) (bytesI acc)) ∈ σ) (hn : acc.size = 0 → w = .slice none 0 0) : ReadV P fl σ (.call { callee := .builtin .unsafeSliceData, args := #[x], argTypes := #[T1] }) (.raw (sdV w)) :=
  ⟨rfl, fun h S t hs hc => by
    have h1 : evalO t x = w := hs x (by simp [Op.operands, Call.operands]) _ hx; refine ⟨sdV w, rfl, fun H hH _ _ _ _ _ => ?_⟩; show ((fsSliceData (evalO t x)).map fun v => (v, H)) = _; rw [h1]; rcases hc _ hm with ⟨h3, _⟩ | ⟨b, rs, m, h3, _⟩
    · have h3 : w = .slice none 0 0 := h3; rw [h3]; rfl
    have h3 : w = .slice (some ⟨b, 0, none⟩) (bytesI acc).length 0 := h3
    have hz : acc.size ≠ 0 := fun hz => by rw [hn hz] at h3; cases h3
    have hb : Nat.beq (bytesI acc).length 0 = false := beq_no (by rw [bytesI_len]; exact hz); rw [h3]; simp only [fsSliceData, hb, cond_false]
    rfl⟩
theorem MakeV.ustr {acc : ByteArray} {T1 T2 : TypeId} (hT : P.underlying T1 = some (.pointer e)) (hcell : P.cellsOf e = 1) (hx : evV fl x = some (.raw (sdV w))) (hy : evV fl y = some (.v (.int .i64) ((acc.size : Nat) : Int))) (hsz : acc.size ≤ 1000000) (hn : acc.size = 0 → w = .slice none 0 0) :
    MakeV P fl ((w, .row e (.int .u8) (bytesI acc)) :: σ) (.call { callee := .builtin .unsafeString, args := #[x, y], argTypes := #[T1, T2] }) fun v σ' => v = .v .str acc ∧ σ' = σ :=
  ⟨rfl, fun S0 h t L => by
    have h1 : evalO t x = sdV w := evV_ok L.slots hx; have h2 : evalO t y = .int .i64 ((acc.size : Nat) : Int) := RepV.int (evV_ok L.slots hy); have hap := L.apart; rw [own_cons] at hap; obtain ⟨hap1, hap2, hap3⟩ := List.nodup_append.1 hap
    have hkeep : ∀ {h' : Heap}, Aft h h' (blk w) → Made S0 h h' ((w, .row e (.int .u8) (bytesI acc)) :: σ) σ := fun {h'} ha => by
      have ha' : Aft h h' (own ((w, Cell.row e (.int .u8) (bytesI acc)) :: σ)) := ha.weak fun b hb => by rw [own_cons]; exact List.mem_append_left _ hb
      have hN : Goes h (own ((w, Cell.row e (.int .u8) (bytesI acc)) :: σ) ++ S0) h' (own σ ++ S0) := ha'.goes L.ok (fun b hb => List.mem_append_left _ hb) fun b hb => by
        rcases List.mem_append.1 hb with hb | hb
        · exact .inl (List.mem_append_left _ (by rw [own_cons]; exact List.mem_append_right _ hb))
        exact .inl (List.mem_append_right _ hb)
      refine ⟨ha', fun b hb => .inl (by rw [own_cons]; exact List.mem_append_right _ hb), hap2, fun c hc => ?_⟩; have hbo : ∀ b ∈ blk c.1, b ∈ own σ := fun b hb => List.mem_flatMap.2 ⟨c, hc, hb⟩; refine (L.cells c (List.mem_cons_of_mem _ hc)).keep (fun b hb => ?_) hN fun b hb => List.mem_append_left _ (hbo b hb); exact ha.get b (L.lt b (List.mem_append_left _ (by rw [own_cons]; exact List.mem_append_right _ (hbo b hb)))) fun hm => hap3 b hm b (hbo b hb) rfl
    rcases L.cells _ List.mem_cons_self with ⟨h3, h4⟩ | ⟨b, rs, m, h3, h4, h5, h6⟩
    · have h3 : w = .slice none 0 0 := h3; have h4 : bytesI acc = [] := h4
      have hz : acc.size = 0 := by rw [← bytesI_len, h4]; rfl
      have he : acc = ByteArray.empty := by
        apply ByteArray.ext; exact Array.eq_empty_of_size_eq_zero hz
      refine ⟨.string acc, h, .v .str acc, σ, ⟨rfl, rfl⟩, hkeep (Aft.refl _ _), RepV.ofStr _, fun _ _ _ _ _ => ?_⟩; show fsUnsafeStr P #[T1, T2] (evalO t x) (evalO t y) h = _; rw [h1, h2, h3, hz, he]; show fsUnsafeStr P #[T1, T2] (.pointer none) (.int .i64 0) h = _; unfold fsUnsafeStr; show (match P.underlying T1 with | some (.pointer _) => some (Value.string .empty, h) | _ => none) = _; rw [hT]
    have h3 : w = .slice (some ⟨b, 0, none⟩) (bytesI acc).length 0 := h3
    have hz : acc.size ≠ 0 := fun hz => by rw [hn hz] at h3; cases h3
    obtain ⟨q, hq⟩ : ∃ q, acc.size = q + 1 := ⟨acc.size - 1, by omega⟩; have hrs := u8_elems h6
    have hbk : blk w = [b] := by rw [h3]; rfl
    have htk : bytesC (rs.take (q + 1)) = some acc.data.toList := by
      rw [hrs, List.take_of_length_le (by rw [List.length_map, bytesI_len]; omega)]; exact bytesC_V acc
    refine ⟨.string acc, h.drop b, .v .str acc, σ, ⟨rfl, rfl⟩, hkeep (Aft.drop (by rw [hbk]; simp)), RepV.ofStr _, fun _ _ _ _ _ => ?_⟩; show fsUnsafeStr P #[T1, T2] (evalO t x) (evalO t y) h = _; rw [h1, h2, h3, hq]
    have e1 : Nat.ble (q + 1) rs.length = true := by rw [Nat.ble_eq, hrs, List.length_map, bytesI_len]; omega
    have e2 : Nat.ble q 1000000000 = true := by rw [Nat.ble_eq]; omega
    show fsUnsafeStr P #[T1, T2] (.pointer (some ⟨b, 0, none⟩)) (.int .i64 (.ofNat (q + 1))) h = _
    simp only [fsUnsafeStr, hT, h5, Nat.beq_refl, hcell, e1, e2, Bool.and_self, cond_true, htk]⟩
def VEndK (P : Program) (fn : Func) (γ : Sto) (Q : PV → Sto → Prop) : Ex → VL → Sto → Prop := fun e fl σ => e.goes = true ∧ ∃ ps, EndL P fl [] fn.results.toList ps ∧ Q (tupV ps) σ ∧ ∀ (h h2 : Heap) (S : List Nat), (∀ c ∈ γ, CellR h (own γ ++ S) c.1 c.2) → (∀ c ∈ σ, CellR h2 (own σ ++ S) c.1 c.2) → (∀ b ∈ own γ, h2.get b = h.get b) → (∀ b o, h.get b = some o → h2.get b = some o) → (∀ b ∈ own σ, b ∈ own γ) ∧ ∀ c ∈ σ, CellR h (own σ ++ S) c.1 c.2
theorem VFG.enterK {f : FuncId} {args : List PV} {fn : Func} {c : Code} {Q : PV → Sto → Prop} (hfn : P.funcs[f]? = some fn) (hc : fn.body = some c) (ho : ∀ us h, orc f us h = none) (hn : (Nat.blt 4000 fn.ntmps || Nat.blt fn.ntmps args.length) = false)
    (hb : VC P orc none c fn.ntmps (argVL 0 args) γ (VEndK P fn γ Q)) : VFG P orc f args γ Q := fun h S us hok hS hcells hnd hsep ha => by
  have hl := ha.len
  have hn2 : Nat.blt 4000 fn.ntmps = false ∧ Nat.blt fn.ntmps args.length = false := by simpa using hn
  have n3 := nble_no hn2.1; have n4 := nble_no hn2.2; have ha' : RepL (entry h) (own γ ++ S) args us := RepL.nx (h := h) (h' := entry h) (fun _ _ a b => ⟨a, b⟩) ha
  have I0 : Iv (entry h) (own γ) S (entry h) γ (fillTr .leaf 0 us) [] (argVL 0 args) := {
    ok := hok
    s0 := hS.1
    aft := Aft.refl _ _
    cells := fun c hc => (hcells c hc).keep (fun _ _ => rfl) (fun _ _ a b => ⟨a, b⟩) fun b hb => List.mem_append_left _ (List.mem_flatMap.2 ⟨c, hc, hb⟩)
    new := fun b hb => ⟨.inl hb, hsep b hb⟩
    apart := hnd
    mark := fun d hd => by cases hd
    marks := List.nodup_nil
    slots := slots_args (hS.2.ent hcells) ha' (by omega) }
  refine EvF.enter hfn hc (ho us h) (by rw [hl]; exact hn) ((hb (entry h) (own γ) S _ (entry h) [] I0).mono fun e fr h1 hq => ?_); obtain ⟨_, fl', σ', Iv1, he, ps, hps, hQ, hkd⟩ := hq; obtain ⟨h2, d1, d2, d3⟩ := drops_ok Iv1.marks fun d hd => (Iv1.mark d hd).2
  have hgd : ∀ b o, h1.get b = some o → o ≠ .defd → h2.get b = some o := fun b o hg hne => by
    rw [d3 b (fun hm => hne (by have := (Iv1.mark b hm).2; rw [hg] at this; exact Option.some.inj this))]; exact hg
  have a2 : Aft (entry h) h2 (own γ) := Iv1.aft.trans d2 fun i hi => .inr (Iv1.mark i hi).1; have L1 := Iv1.lc; have Lz : Lc (own σ' ++ S) h1 [] fr.t fl' := ⟨L1.ok, L1.lt, (fun c hc => by cases hc), (fun b hb => by cases hb), List.nodup_nil, L1.slots⟩; obtain ⟨us', e1, e2⟩ := hps.ok Lz hgd (fun b _ hg hne hbS => ⟨hgd b _ hg hne, hbS⟩); have hrep := tup_rep e2
  have hrow : ∀ c ∈ σ', ∀ b ∈ blk c.1, h2.get b = h1.get b := fun c hc b hb => by
    obtain ⟨o, hg, hne⟩ := (Iv1.cells c hc).isObj b hb; rw [hgd b _ hg hne, hg]
  have hcell2 : ∀ c ∈ σ', CellR h2 (own σ' ++ S) c.1 c.2 := fun c hc => by
    have hx := Iv1.cells c hc; have hN : GoesR h1 (own σ' ++ S) h2 (own σ' ++ S) := fun b _ hg hne hbS => ⟨hgd b _ hg hne, hbS⟩; have hgb := hrow c hc; obtain ⟨w, cc⟩ := c
    cases cc with
    | row e τ xs =>
      rcases hx with hx | ⟨b, rs, m, h3, h4, h5, h6⟩
      · exact .inl hx
      exact .inr ⟨b, rs, m, h3, h4, hgd b _ h5 (by simp), h6.1, fun i hi => (h6.2 i hi).nxR hN⟩
    | var cs =>
      obtain ⟨b, e, vs, h3, h4, h5, h6, h7⟩ := hx
      exact ⟨b, e, vs, h3, h4, hgd b _ h5 (by simp), h6.nxR hN, h7⟩
    | cap e k τ xs =>
      obtain ⟨b, rs, m, h3, h4, h5, h6, h7, h8⟩ := hx
      exact ⟨b, rs, m, h3, h4, hgd b _ h5 (by simp), h6, h7, h8.1, fun i hi => (h8.2 i hi).nxR hN⟩
    | mp κ ν kvs =>
      obtain ⟨b, es, c, h3, h4, h5, h6, h7⟩ := hx
      exact ⟨b, es, c, h3, h4, hgd b _ h5 (by simp), h6, fun i hi hj => ⟨⟨(h7 i hi hj).1.1, (h7 i hi hj).1.2.nxR hN⟩, ⟨(h7 i hi hj).2.1, (h7 i hi hj).2.2.nxR hN⟩⟩⟩
    | it s pos =>
      obtain ⟨b, h3, h4, h5⟩ := hx
      exact ⟨b, h3, h4, hgd b _ h5 (by simp)⟩
    | loop st jump n fl ps assign body =>
      obtain ⟨l, tmps, d, h3, h4, h5, h6⟩ := hx
      exact ⟨l, tmps, d, h3, h4, hgd l _ h5 (by simp), h6.nxR hN⟩
    | cel e n cs =>
      rcases hx with hx | ⟨b, rs, m, h3, h4, h5, h6, h7⟩
      · exact .inl hx
      exact .inr ⟨b, rs, m, h3, h4, hgd b _ h5 (by simp), h6.nxR hN, h7⟩
  have hnew2 : ∀ b ∈ own σ', b ∈ own γ ∨ h.next ≤ b := fun b hb => (Iv1.new b hb).1; refine ⟨he, h2, us', d1, e1, ?_⟩; unfold leftOf
  cases haf : (af (tupled us') && Nat.ble h.next h2.low) with
  | true =>
    obtain ⟨af1', hlow⟩ := band haf; have hlow := nble hlow
    have hsame : ∀ b ∈ own γ, h2.get b = h.get b := fun b hb => by
      rcases a2.chg b (own_lt hcells hok b hb) with h3 | h3
      · exact h3
      have := own_lt hcells hok b hb; omega
    have hall : ∀ b o, h.get b = some o → h2.get b = some o := fun b o hb => by
      have hlt := hok b o hb; rcases a2.chg b hlt with h3 | h3
      · rw [h3]; exact hb
      have : h.next ≤ b := Nat.le_trans hlow h3; omega
    obtain ⟨k1, k2⟩ := hkd h h2 S hcells hcell2 hsame hall
    exact ⟨_, σ', hQ, ⟨Aft.refl _ _, fun b hb => .inl (k1 b hb), Iv1.apart, k2⟩, hrep.anyAf af1'⟩
  | false =>
    refine ⟨_, σ', hQ, ⟨⟨a2.next, a2.get, fun x => a2.ok x, fun e h3 h4 h5 => Nat.le_min.2 ⟨h3, a2.low e (Nat.le_trans h4 (Nat.le_refl _)) h4 h5⟩, fun b hb => ?_, Nat.min_le_left _ _⟩, hnew2, Iv1.apart, fun c hc => (hcell2 c hc).keep (fun _ _ => rfl) (fun _ _ a b => ⟨a, b⟩) fun b hb => List.mem_append_left _ (List.mem_flatMap.2 ⟨c, hc, hb⟩)⟩, RepPV.nx (h := h2) (h' := { next := h2.next, low := min h.low h2.low, objs := h2.objs }) (fun _ _ a b => ⟨a, b⟩) hrep⟩; rcases a2.chg b hb with h3 | h3
    · exact .inl h3
    exact .inr (Nat.le_trans (Nat.min_le_right _ _) h3)
theorem bld_same {T1 T2 : TypeId} {a' u' : Value} (hg : CellR h S (bW b) (.cel T1 0 [.raw a, .raw u])) (hs : CellR h2 S' (bW b) (.cel T2 0 [.raw a', .raw u'])) (hk : h2.get b = h.get b) : T2 = T1 ∧ a' = a ∧ u' = u := by
  obtain ⟨_, g2, _⟩ := bld_get hg; obtain ⟨_, s2, _⟩ := bld_get hs; rw [s2, g2] at hk; injection hk with hk; injection hk with h1 h2; injection h2 with h3 h4; injection h4 with h5 h6; exact ⟨h1, h3, h5⟩
theorem bld_keep {acc acc' : ByteArray} {a' u' : Value} (h h2 : Heap) (S : List Nat) (hg : ∀ c ∈ [(bW b, Cell.cel T 0 [.raw a, .raw u]), (u, .row e (.int .u8) (bytesI acc))], CellR h (own [(bW b, Cell.cel T 0 [.raw a, .raw u]), (u, .row e (.int .u8) (bytesI acc))] ++ S) c.1 c.2)
    (hs : ∀ c ∈ [(bW b, Cell.cel T 0 [.raw a', .raw u']), (u', .row e (.int .u8) (bytesI acc'))], CellR h2 (own [(bW b, Cell.cel T 0 [.raw a', .raw u']), (u', .row e (.int .u8) (bytesI acc'))] ++ S) c.1 c.2)
    (hk : ∀ b' ∈ own [(bW b, Cell.cel T 0 [.raw a, .raw u]), (u, .row e (.int .u8) (bytesI acc))], h2.get b' = h.get b') (hx : ∀ b o, h.get b = some o → h2.get b = some o) :
    (∀ b' ∈ own [(bW b, Cell.cel T 0 [.raw a', .raw u']), (u', .row e (.int .u8) (bytesI acc'))], b' ∈ own [(bW b, Cell.cel T 0 [.raw a, .raw u]), (u, .row e (.int .u8) (bytesI acc))]) ∧ ∀ c ∈ [(bW b, Cell.cel T 0 [.raw a', .raw u']), (u', .row e (.int .u8) (bytesI acc'))], CellR h (own [(bW b, Cell.cel T 0 [.raw a', .raw u']), (u', .row e (.int .u8) (bytesI acc'))] ++ S) c.1 c.2 := by
  obtain ⟨_, rfl, rfl⟩ := bld_same (hg _ List.mem_cons_self) (hs _ List.mem_cons_self) (hk b (by simp [own, blk])); refine ⟨fun b' hb => hb, fun c hc => ?_⟩; rcases List.mem_cons.1 hc with rfl | hc
  · exact hg _ List.mem_cons_self
  obtain rfl := List.mem_singleton.1 hc; rcases hs _ (List.mem_cons_of_mem _ List.mem_cons_self) with hx | ⟨b2, rs, m, h3, h4, h5, h6⟩
  · exact .inl hx
  have h3 : u' = _ := h3; refine .inr ⟨b2, rs, m, h3, h4, ?_, ?_⟩
  · rw [← hk b2 (by rw [own_cons]; exact List.mem_append_right _ (by rw [own_cons, h3]; simp [blk]))]; exact h5
  rw [u8_elems h6]; exact elems_u8
theorem bld_keep1 {acc : ByteArray} {a' u' : Value} (h h2 : Heap) (S : List Nat) (hg : ∀ c ∈ [(bW b, Cell.cel T 0 [.raw a, .raw u]), (u, .row e (.int .u8) (bytesI acc))], CellR h (own [(bW b, Cell.cel T 0 [.raw a, .raw u]), (u, .row e (.int .u8) (bytesI acc))] ++ S) c.1 c.2)
    (hs : ∀ c ∈ [(bW b, Cell.cel T 0 [.raw a', .raw u'])], CellR h2 (own [(bW b, Cell.cel T 0 [.raw a', .raw u'])] ++ S) c.1 c.2)
    (hk : ∀ b' ∈ own [(bW b, Cell.cel T 0 [.raw a, .raw u]), (u, .row e (.int .u8) (bytesI acc))], h2.get b' = h.get b') (hx : ∀ b o, h.get b = some o → h2.get b = some o) :
    (∀ b' ∈ own [(bW b, Cell.cel T 0 [.raw a', .raw u'])], b' ∈ own [(bW b, Cell.cel T 0 [.raw a, .raw u]), (u, .row e (.int .u8) (bytesI acc))]) ∧ ∀ c ∈ [(bW b, Cell.cel T 0 [.raw a', .raw u'])], CellR h (own [(bW b, Cell.cel T 0 [.raw a', .raw u'])] ++ S) c.1 c.2 := by
  obtain ⟨_, rfl, rfl⟩ := bld_same (hg _ List.mem_cons_self) (hs _ List.mem_cons_self) (hk b (by simp [own, blk])); refine ⟨fun b' hb => by rw [own_cons] at hb ⊢; exact List.mem_append_left _ (by simpa [own] using hb), fun c hc => ?_⟩; obtain rfl := List.mem_singleton.1 hc; obtain ⟨_, g2, g3, g4⟩ := bld_get (hg _ List.mem_cons_self); exact bld_of (List.mem_append_left _ (by simp [own, blk])) g2 g3 g4
end Go.Fs
namespace Go.Fs
def digB (c : UInt8) : Bool := decide (48 ≤ c.toNat ∧ c.toNat ≤ 57)
def digO (d : Nat) : UInt8 := UInt8.ofNat (48 + d)
theorem digO_nat {d : Nat} (h : d < 10) : (digO d).toNat = 48 + d := by
  unfold digO; rw [UInt8.toNat_ofNat']; omega
theorem digO_dig {d : Nat} (h : d < 10) : digB (digO d) = true := decide_eq_true (by rw [digO_nat h]; omega)
theorem digO_of {c : UInt8} (h : digB c = true) : digO (c.toNat - 48) = c := by
  have h := of_decide_eq_true h; apply UInt8.toNat_inj.1; rw [digO_nat (by omega)]; omega
def decL (n : Nat) : List UInt8 := if n < 10 then [digO n] else decL (n / 10) ++ [digO (n % 10)]
termination_by n
decreasing_by omega
theorem decL_lt {n : Nat} (h : n < 10) : decL n = [digO n] := by rw [decL, if_pos h]
theorem decL_ge {n : Nat} (h : 10 ≤ n) : decL n = decL (n / 10) ++ [digO (n % 10)] := by rw [decL, if_neg (by omega)]
def valL (w : List UInt8) (v : Nat) : Nat := w.foldl (fun v c => 10 * v + (c.toNat - 48)) v
theorem valL_snoc {w : List UInt8} {c : UInt8} {v : Nat} : valL (w ++ [c]) v = 10 * valL w v + (c.toNat - 48) := by
  unfold valL; rw [List.foldl_append]; rfl
theorem val_dec (n : Nat) : valL (decL n) 0 = n := by
  induction n using Nat.strongRecOn with
  | ind n ih =>
    by_cases h : n < 10
    · rw [decL_lt h]; show 10 * 0 + ((digO n).toNat - 48) = n; rw [digO_nat h]; omega
    rw [decL_ge (by omega), valL_snoc, ih (n / 10) (by omega), digO_nat (by omega)]; omega
theorem dec_dig (n : Nat) : ∀ c ∈ decL n, digB c = true := by
  induction n using Nat.strongRecOn with
  | ind n ih =>
    by_cases h : n < 10
    · rw [decL_lt h]; intro c hc; rw [List.mem_singleton.1 hc]; exact digO_dig h
    rw [decL_ge (by omega)]; intro c hc; rcases List.mem_append.1 hc with hc | hc
    · exact ih (n / 10) (by omega) c hc
    rw [List.mem_singleton.1 hc]; exact digO_dig (by omega)
theorem dec_ne (n : Nat) : decL n ≠ [] := by
  by_cases h : n < 10
  · rw [decL_lt h]; simp
  rw [decL_ge (by omega)]; simp
theorem dec_len (k : Nat) : ∀ n : Nat, n < 10 ^ (k + 1) → (decL n).length ≤ k + 1 := by
  induction k with
  | zero => intro n h; rw [decL_lt (by simpa using h)]; simp
  | succ k ih =>
    intro n h; by_cases h2 : n < 10
    · rw [decL_lt h2]; simp
    rw [decL_ge (by omega), List.length_append]; have h3 : n / 10 < 10 ^ (k + 1) := Nat.div_lt_of_lt_mul (by rw [Nat.pow_succ, Nat.mul_comm] at h; exact h); have := ih _ h3; simp only [List.length_singleton]; omega
theorem dec_head {n : Nat} (h : 1 ≤ n) : ∃ c r, decL n = c :: r ∧ c.toNat ≠ 48 := by
  induction n using Nat.strongRecOn with
  | ind n ih =>
    by_cases h2 : n < 10
    · exact ⟨digO n, [], decL_lt h2, by rw [digO_nat h2]; omega⟩
    obtain ⟨c, r, h3, h4⟩ := ih (n / 10) (by omega) (by omega); exact ⟨c, r ++ [digO (n % 10)], by rw [decL_ge (by omega), h3]; rfl, h4⟩
def numL (w : List UInt8) : Option Nat := if (w = [] ∨ 9 < w.length) ∨ (1 < w.length ∧ (w.headD 0).toNat = 48) ∨ w.all digB = false then none else some (valL w 0)
theorem num_dec {n : Nat} (h : n < 10 ^ 9) : numL (decL n) = some n := by
  have h1 := dec_len 8 n h; unfold numL; rw [if_neg, val_dec]; rintro ((h2 | h2) | ⟨h2, h3⟩ | h2)
  · exact dec_ne n h2
  · omega
  · by_cases h4 : n < 10
    · rw [decL_lt h4] at h2; simp at h2
    obtain ⟨c, r, h5, h6⟩ := dec_head (n := n) (by omega); rw [h5] at h3; exact h6 h3
  rw [List.all_eq_true.2 (dec_dig n)] at h2; cases h2
theorem snoc_ex {α : Type} {w : List α} (h : w ≠ []) : ∃ r c, w = r ++ [c] := ⟨w.dropLast, w.getLast h, (List.dropLast_concat_getLast h).symm⟩
theorem val_pos : ∀ {r : List UInt8} {c : UInt8}, c.toNat ≠ 48 → digB c = true → 1 ≤ valL (c :: r) 0 := fun {r c} h hd => by
  have h0 := of_decide_eq_true hd
  have hmono : ∀ (r : List UInt8) (v : Nat), 1 ≤ v → 1 ≤ valL r v := by
    intro r
    induction r with
    | nil => exact fun v h => h
    | cons c r ih => exact fun v h => ih (10 * v + (c.toNat - 48)) (by omega)
  exact hmono r (10 * 0 + (c.toNat - 48)) (by omega)
theorem dec_val_aux (k : Nat) : ∀ w : List UInt8, w.length = k → w ≠ [] → (∀ c ∈ w, digB c = true) → (1 < w.length → (w.headD 0).toNat ≠ 48) → decL (valL w 0) = w := by
  induction k with
  | zero => intro w hk h; exact absurd (List.eq_nil_of_length_eq_zero hk) h
  | succ k ih =>
    intro w hk hne hd hz; obtain ⟨r, c, rfl⟩ := snoc_ex hne; have hc := hd c (List.mem_append_right _ (List.mem_singleton.2 rfl)); have hc2 := of_decide_eq_true hc; rw [valL_snoc]
    cases r with
    | nil =>
      show decL (10 * 0 + (c.toNat - 48)) = [c]
      rw [Nat.mul_zero, Nat.zero_add, decL_lt (by omega), digO_of hc]
    | cons x r =>
      have hx : x.toNat ≠ 48 := hz (by simp); have hxd := hd x (by simp); have hv := val_pos (r := r) hx hxd
      have hl : (x :: r).length = k := by simpa using hk
      have h1 := ih (x :: r) hl (by simp) (fun c hc => hd c (List.mem_append_left _ hc)) fun _ => hx; rw [decL_ge (by omega), show (10 * valL (x :: r) 0 + (c.toNat - 48)) / 10 = valL (x :: r) 0 by omega, show (10 * valL (x :: r) 0 + (c.toNat - 48)) % 10 = c.toNat - 48 by omega, h1, digO_of hc]
theorem dec_val {w : List UInt8} {n : Nat} (h : numL w = some n) : decL n = w := by
  unfold numL at h; split at h
  · cases h
  rename_i hn; have hn1 : w ≠ [] := fun e => hn (.inl (.inl e))
  have hn2 : w.all digB = true := by
    cases hc : w.all digB with
    | true => rfl
    | false => exact absurd (.inr (.inr hc)) hn
  obtain rfl := Option.some.inj h; exact dec_val_aux _ w rfl hn1 (List.all_eq_true.1 hn2) fun h1 h2 => hn (.inr (.inl ⟨h1, h2⟩))
def splL (s : UInt8) : List UInt8 → List (List UInt8)
  | [] => [[]]
  | x :: r => if x = s then [] :: splL s r else match splL s r with
    | [] => [[x]]
    | w :: l => (x :: w) :: l
theorem spl_ne {s : UInt8} : ∀ l : List UInt8, splL s l ≠ []
  | [] => by simp [splL]
  | x :: r => by
    unfold splL; split
    · simp
    split <;> simp
theorem spl_sep {s : UInt8} {r : List UInt8} : splL s (s :: r) = [] :: splL s r := by rw [splL, if_pos rfl]
theorem spl_cons {s x : UInt8} {r w : List UInt8} {l : List (List UInt8)} (h : x ≠ s) (hr : splL s r = w :: l) : splL s (x :: r) = (x :: w) :: l := by rw [splL, if_neg h, hr]
theorem spl_word {s : UInt8} : ∀ {w : List UInt8}, (∀ c ∈ w, c ≠ s) → splL s w = [w]
  | [], _ => rfl
  | x :: w, h => spl_cons (h x List.mem_cons_self) (spl_word fun c hc => h c (List.mem_cons_of_mem _ hc))
theorem spl_app {s : UInt8} : ∀ {w r : List UInt8}, (∀ c ∈ w, c ≠ s) → splL s (w ++ s :: r) = w :: splL s r
  | [], r, _ => spl_sep
  | x :: w, r, h => spl_cons (h x List.mem_cons_self) (spl_app fun c hc => h c (List.mem_cons_of_mem _ hc))
def joiL (s : UInt8) : List (List UInt8) → List UInt8
  | [] => []
  | [w] => w
  | w :: v :: l => w ++ s :: joiL s (v :: l)
theorem joi_cons {s : UInt8} {w : List UInt8} {l : List (List UInt8)} (h : l ≠ []) : joiL s (w :: l) = w ++ s :: joiL s l := by
  cases l with
  | nil => exact absurd rfl h
  | cons v l => rfl
end Go.Fs
namespace Go.Fs
variable {P : Program} {orc : FuncId → List Value → Heap → Option (Value × Heap)} {h : Heap} {S : List Nat} {σ : Sto} {t : Tr} {fl : VL} {x y z lo hi : Operand} {T : TypeId} {s : ByteArray} {a b : Int}
theorem bound_run {k : Int} {n : Nat} {q : BoundsCode} (h : 0 ≤ k ∧ k ≤ ((n : Nat) : Int)) : runPure P (Instr.sliceBound (.int .i64 k) n q) = some k.toNat := by
  unfold Instr.sliceBound; simp [runPure_bind, asIntOf, runPure_pure, h.1, h.2]
theorem str_slice {l r : Option Value} {i j : Nat} (hT : P.underlying T = some .string) (hb : runPure P (Instr.sliceBounds false s.size s.size l r none) = some (i, j, s.size)) : runPure P (Instr.sliceAt T (.string s) l r none) = some (.string (s.extract i j)) := by
  have h1 : runPure P (Instr.sliceAt T (.string s) l r none) = runPure P (Instr.slice T (.string s) l r none) := by
    unfold Instr.sliceAt; simp only [runPure_bind, runPure_underlying hT, Option.bind_some]
  rw [h1]; unfold Instr.slice; simp only [runPure_bind, runPure_underlying hT, Option.bind_some, Option.isSome_none, Bool.false_eq_true, if_false, hb, runPure_pure]
theorem ReadV.cutHS {k : Int} (hT : P.underlying T = some .string) (hx : evV fl x = some (.v .str s)) (hh : evV fl hi = some (.v (.int .i64) k)) (h0 : 0 ≤ k ∧ k ≤ ((s.size : Nat) : Int)) : ReadV P fl σ (.slice T x none (some hi) none) (.v .str (s.extract 0 k.toNat)) :=
  ⟨rfl, fun h S t hs _ => by
    have h1 := RepV.str (hs x (by simp [Op.operands]) _ hx : RepV h S .str (evalO t x) s); have h2 := RepV.int (hs hi (by simp [Op.operands]) _ hh); refine ⟨.string (s.extract 0 k.toNat), RepV.ofStr _, fun H _ _ _ _ _ _ => ?_⟩; show (fsSlice P T (evalO t x) none (some (evalO t hi)) none H).map _ = _
    have hb : runPure P (Instr.sliceBounds false s.size s.size none (some (.int .i64 k)) none) = some (0, k.toNat, s.size) := by
      unfold Instr.sliceBounds; simp only [runPure_bind, runPure_pure, Option.bind_some, bound_run h0]
    rw [h1, h2]; simp only [fsSlice, hT, str_slice hT hb]
    rfl⟩
theorem ReadV.cutLS {k : Int} (hT : P.underlying T = some .string) (hx : evV fl x = some (.v .str s)) (hh : evV fl lo = some (.v (.int .i64) k)) (h0 : 0 ≤ k ∧ k ≤ ((s.size : Nat) : Int)) : ReadV P fl σ (.slice T x (some lo) none none) (.v .str (s.extract k.toNat s.size)) :=
  ⟨rfl, fun h S t hs _ => by
    have h1 := RepV.str (hs x (by simp [Op.operands]) _ hx : RepV h S .str (evalO t x) s); have h2 := RepV.int (hs lo (by simp [Op.operands]) _ hh); refine ⟨.string (s.extract k.toNat s.size), RepV.ofStr _, fun H _ _ _ _ _ _ => ?_⟩; show (fsSlice P T (evalO t x) (some (evalO t lo)) none none H).map _ = _
    have hb : runPure P (Instr.sliceBounds false s.size s.size (some (.int .i64 k)) none none) = some (k.toNat, s.size, s.size) := by
      unfold Instr.sliceBounds; simp only [runPure_bind, runPure_pure, Option.bind_some, bound_run h0]
    rw [h1, h2]; simp only [fsSlice, hT, str_slice hT hb]
    rfl⟩
theorem ReadV.cutLHS (hT : P.underlying T = some .string) (hx : evV fl x = some (.v .str s)) (hl : evV fl lo = some (.v (.int .i64) a)) (hh : evV fl hi = some (.v (.int .i64) b)) (h0 : 0 ≤ a ∧ a ≤ b) (h1 : b ≤ ((s.size : Nat) : Int)) : ReadV P fl σ (.slice T x (some lo) (some hi) none) (.v .str (s.extract a.toNat b.toNat)) :=
  ⟨rfl, fun h S t hs _ => by
    have g1 := RepV.str (hs x (by simp [Op.operands]) _ hx : RepV h S .str (evalO t x) s); have g2 := RepV.int (hs lo (by simp [Op.operands]) _ hl); have g3 := RepV.int (hs hi (by simp [Op.operands]) _ hh); refine ⟨.string (s.extract a.toNat b.toNat), RepV.ofStr _, fun H _ _ _ _ _ _ => ?_⟩; show (fsSlice P T (evalO t x) (some (evalO t lo)) (some (evalO t hi)) none H).map _ = _
    have hb : runPure P (Instr.sliceBounds false s.size s.size (some (.int .i64 a)) (some (.int .i64 b)) none) = some (a.toNat, b.toNat, s.size) := by
      unfold Instr.sliceBounds
      have e2 : a ≤ ((b.toNat : Nat) : Int) := by omega
      simp only [runPure_bind, runPure_pure, Option.bind_some]; have e3 := bound_run (P := P) (k := b) (n := s.size) (q := .sliceAlen) ⟨by omega, h1⟩; have e4 := bound_run (P := P) (k := a) (n := b.toNat) (q := .sliceB) ⟨h0.1, e2⟩; show (runPure P (Instr.sliceBound (.int .i64 b) s.size .sliceAlen)).bind _ = _; rw [e3]; show (runPure P (Instr.sliceBound (.int .i64 a) b.toNat .sliceB)).bind _ = _; rw [e4]; rfl
    rw [g1, g2, g3]; simp only [fsSlice, hT, str_slice hT hb]
    rfl⟩
theorem repl_sb {h : Heap} {S : List Nat} {us : List Value} {c : Int} (hr : RepL h S [.v .str s, .v (.int .u8) c] us) : us = [.string s, .int .u8 c] := by
  obtain ⟨u, r, rfl, h2, u2, r2, rfl, h3, h4⟩ := hr; obtain rfl : r2 = [] := h4; rw [RepV.str h2, RepV.int h3]
theorem VF.idxByte {f : FuncId} {fn : Func} {c : Int} (hfn : P.funcs[f]? = some fn) (ho : ∀ us h, orc f us h = none) (hb : (fn.body.isNone && !(fn.name == "runtime.NumGoroutine")) = true) (h1 : (Extern.findNext fn).isNone = true) (h2 : Extern.find fn = some Extern.BytealgIndexByte.indexByte) :
    VF P orc f [.v .str s, .v (.int .u8) c] (.v (.int .i64) (Go.Lib.indexByte s.data.toList c.toNat.toUInt8)) :=
  VF.ext (us := [.string s, .int .u8 c]) hfn ho hb h1 h2 rfl (fun _ _ _ hr => repl_sb hr) (w := .int .i64 (Go.Lib.indexByte s.data.toList c.toNat.toUInt8)) (by
    have e : runPure P (Extern.BytealgIndexByte.indexByte #[.string s, .int .u8 c]) = some (.int .i64 (Go.Lib.indexByte s.data.toList c.toNat.toUInt8)) := by
      rw [← Go.Lib.firstIdx_eq]; unfold Go.firstIdx; show runPure P (do let b ← Extern.Bytes.bytesOf (.string s); let c ← Extern.Bytes.asByte (.int .u8 c); match (List.range b.size).find? fun i => b[i]! == c with | some i => pure (goInt i) | none => pure (goInt (-1))) = _; simp only [Extern.Bytes.bytesOf, Extern.Bytes.asByte, runPure_bind, runPure_pure, Option.bind_some]
      cases (List.range s.size).find? fun i => s[i]! == c.toNat.toUInt8 with
      | none => rfl
      | some i => rfl
    show ((runPure P (Extern.BytealgIndexByte.indexByte #[.string s, .int .u8 c])).bind fun v => if af v then some v else none) = _
    rw [e]; rfl) fun _ _ => RepV.ofInt _ _
theorem VF.cntByte {f : FuncId} {fn : Func} {c : Int} (hfn : P.funcs[f]? = some fn) (ho : ∀ us h, orc f us h = none) (hb : (fn.body.isNone && !(fn.name == "runtime.NumGoroutine")) = true) (h1 : (Extern.findNext fn).isNone = true) (h2 : Extern.find fn = some Extern.BytealgCount.count) :
    VF P orc f [.v .str s, .v (.int .u8) c] (.v (.int .i64) ((s.data.toList.count c.toNat.toUInt8 : Nat) : Int)) :=
  VF.ext (us := [.string s, .int .u8 c]) hfn ho hb h1 h2 rfl (fun _ _ _ hr => repl_sb hr) (w := .int .i64 ((s.data.toList.count c.toNat.toUInt8 : Nat) : Int)) (by
    have e : runPure P (Extern.BytealgCount.count #[.string s, .int .u8 c]) = some (.int .i64 ((s.data.toList.count c.toNat.toUInt8 : Nat) : Int)) := by
      show runPure P (do let b ← Extern.Bytes.bytesOf (.string s); let c' ← Extern.Bytes.asByte (.int .u8 c); pure (goInt (b.foldl (fun n x => if x == c' then n + 1 else n) (0 : Nat)))) = _; simp only [Extern.Bytes.bytesOf, Extern.Bytes.asByte, runPure_bind, runPure_pure, Option.bind_some]; rw [Go.Lib.foldl_data, Go.Lib.count_foldl]; simp [goInt, Go.Lib.countByte]
    show ((runPure P (Extern.BytealgCount.count #[.string s, .int .u8 c])).bind fun v => if af v then some v else none) = _
    rw [e]; rfl) fun _ _ => RepV.ofInt _ _
end Go.Fs
namespace Go.Fs
open Go.Lib (indexByte)
theorem idx_none {c : UInt8} : ∀ {l : List UInt8}, indexByte l c < 0 → ∀ x ∈ l, x ≠ c
  | [], _, x, hx => by cases hx
  | b :: l, h, x, hx => by
    unfold indexByte at h; by_cases hb : b = c
    · rw [if_pos (by simp [hb])] at h; omega
    rw [if_neg (by simp [hb])] at h
    have ih : indexByte l c < 0 := by
      split at h
      · rename_i he; have := of_decide_eq_true he; omega
      have := Go.Lib.indexByte_ge l c; omega
    rcases List.mem_cons.1 hx with rfl | hx
    · exact hb
    exact idx_none ih x hx
theorem idx_some {c : UInt8} : ∀ {l : List UInt8} {k : Nat}, indexByte l c = ((k : Nat) : Int) → k < l.length ∧ (∀ x ∈ l.take k, x ≠ c) ∧ l.drop k = c :: l.drop (k + 1)
  | [], k, h => by
    unfold indexByte at h
    omega
  | b :: l, k, h => by
    unfold indexByte at h; by_cases hb : b = c
    · rw [if_pos (by simp [hb])] at h
      obtain rfl : k = 0 := by omega
      subst hb; exact ⟨by simp, fun x hx => by simp at hx, rfl⟩
    rw [if_neg (by simp [hb])] at h; split at h
    · omega
    rename_i he; have hge := Go.Lib.indexByte_ge l c; have hne : indexByte l c ≠ -1 := fun e => he (by rw [e]; rfl); obtain ⟨j, rfl⟩ : ∃ j, k = j + 1 := ⟨k - 1, by omega⟩; obtain ⟨h1, h2, h3⟩ := idx_some (c := c) (l := l) (k := j) (by omega); refine ⟨by simp; omega, fun x hx => ?_, by simpa using h3⟩; rw [List.take_succ_cons] at hx; rcases List.mem_cons.1 hx with rfl | hx
    · exact hb
    exact h2 x hx
theorem spl_idx {c : UInt8} {l : List UInt8} {k : Nat} (h : indexByte l c = ((k : Nat) : Int)) : splL c l = l.take k :: splL c (l.drop (k + 1)) := by
  obtain ⟨h1, h2, h3⟩ := idx_some h
  have e : l = l.take k ++ c :: l.drop (k + 1) := by rw [← h3, List.take_append_drop]
  have := spl_app (s := c) (w := l.take k) (r := l.drop (k + 1)) h2; rw [← e] at this; exact this
theorem spl_no {c : UInt8} {l : List UInt8} (h : indexByte l c < 0) : splL c l = [l] := spl_word (idx_none h)
theorem spl_len {c : UInt8} : ∀ l : List UInt8, (splL c l).length = l.count c + 1
  | [] => rfl
  | x :: r => by
    have ih := spl_len (c := c) r; by_cases h : x = c
    · subst h; rw [spl_sep, List.length_cons, ih, List.count_cons_self]
    cases hr : splL c r with
    | nil => exact absurd hr (spl_ne r)
    | cons w l =>
      rw [hr] at ih; rw [spl_cons h hr, List.length_cons, List.count_cons_of_ne h]; simpa using ih
def toL (s : ByteArray) : List UInt8 := s.data.toList
def ofL (l : List UInt8) : ByteArray := ⟨l.toArray⟩
theorem ofL_toL (s : ByteArray) : ofL (toL s) = s := rfl
theorem toL_ofL (l : List UInt8) : toL (ofL l) = l := rfl
theorem toL_len (s : ByteArray) : (toL s).length = s.size := by
  show s.data.toList.length = s.data.size; simp
theorem toL_app (s r : ByteArray) : toL (s ++ r) = toL s ++ toL r := by
  unfold toL; rw [ByteArray.data_append, Array.toList_append]
theorem toL_inj {s r : ByteArray} (h : toL s = toL r) : s = r := by rw [← ofL_toL s, ← ofL_toL r, h]
theorem toL_take (s : ByteArray) (k : Nat) : toL (s.extract 0 k) = (toL s).take k := by
  unfold toL; rw [ByteArray.data_extract, Array.toList_extract, List.extract_eq_take_drop, List.drop_zero, Nat.sub_zero]
theorem toL_drop (s : ByteArray) (k : Nat) : toL (s.extract k s.size) = (toL s).drop k := by
  have hl := toL_len s; unfold toL at hl ⊢; rw [ByteArray.data_extract, Array.toList_extract, List.extract_eq_take_drop, List.take_of_length_le (by rw [List.length_drop]; omega)]
def splS (c : UInt8) (s : ByteArray) : List ByteArray := (splL c (toL s)).map ofL
theorem splS_len {c : UInt8} {s : ByteArray} : (splS c s).length = (toL s).count c + 1 := by rw [splS, List.length_map, spl_len]
theorem splS_idx {c : UInt8} {s : ByteArray} {k : Nat} (h : indexByte (toL s) c = ((k : Nat) : Int)) : splS c s = s.extract 0 k :: splS c (s.extract (k + 1) s.size) := by
  unfold splS; rw [spl_idx h, List.map_cons, toL_drop, ← toL_take, ofL_toL]
theorem splS_no {c : UInt8} {s : ByteArray} (h : indexByte (toL s) c < 0) : splS c s = [s] := by
  unfold splS; rw [spl_no h]; rfl
theorem count_idx {c : UInt8} {l : List UInt8} {k : Nat} (h : indexByte l c = ((k : Nat) : Int)) : l.count c = (l.drop (k + 1)).count c + 1 := by
  have h1 := spl_len (c := c) l; rw [spl_idx h, List.length_cons, spl_len] at h1; omega
theorem count_no {c : UInt8} {l : List UInt8} (h : indexByte l c < 0) : l.count c = 0 := by
  have h1 := spl_len (c := c) l; rw [spl_no h] at h1; simpa using h1.symm
end Go.Fs
namespace Go.Fs
variable {P : Program} {fl : VL} {σ : Sto} {x y : Operand} {T T' : TypeId} {p q : Int}
end Go.Fs
namespace Go.Proofs
open Go.Fs
set_option maxHeartbeats 1000000
theorem zIBS_ok {s : ByteArray} {c : Int} : VF Tryz.prog OA 189 [.v .str s, .v (.int .u8) c] (.v (.int .i64) (Go.Lib.indexByte (toL s) c.toNat.toUInt8)) := VF.idxByte Tryz.func189 (fun _ _ => rfl) (by kernel_rfl) (by kernel_rfl) (by kernel_rfl)
theorem zCntS_ok {s : ByteArray} {c : Int} : VF Tryz.prog OA 193 [.v .str s, .v (.int .u8) c] (.v (.int .i64) (((toL s).count c.toNat.toUInt8 : Nat) : Int)) := VF.cntByte Tryz.func193 (fun _ _ => rfl) (by kernel_rfl) (by kernel_rfl) (by kernel_rfl)
def sepB (p : ByteArray) : UInt8 := p.get! 0
theorem sepB_of {p : ByteArray} : (byteE p 0).toNat.toUInt8 = sepB p := by
  show ((((p.get! 0).toNat : Nat) : Int)).toNat.toUInt8 = p.get! 0; rw [Int.toNat_natCast]; exact UInt8.ofNat_toNat
theorem one_byte {p : ByteArray} (hp : p.size = 1) : ∃ c, p = ofL [c] := by
  have hl := toL_len p; rw [hp] at hl; obtain ⟨c, hc⟩ := List.length_eq_one_iff.1 hl; exact ⟨c, by rw [← hc, ofL_toL]⟩
theorem idx_self {p : ByteArray} (hp : p.size = 1) : Go.Lib.indexByte (toL p) (sepB p) = 0 := by
  obtain ⟨c, rfl⟩ := one_byte hp; show Go.Lib.indexByte [c] c = 0; unfold Go.Lib.indexByte; rw [if_pos (by simp)]
theorem zIB_ok {s : ByteArray} {c : Int} : VF Tryz.prog OA 156 [St s, .v (.int .u8) c] (I (Go.Lib.indexByte (toL s) c.toNat.toUInt8)) := by
  refine VF.enter Tryz.func156 rfl (fun _ _ => rfl) rfl ?_; show VC _ _ _ _ _ [(0, St s), (1, .v (.int .u8) c)] [] _; refine VC.seq (VC.text ?_); refine VO.c (.assign rfl) ?_; refine VO.go (VC.seq (VC.text ?_)); refine VO.c (.move rfl) (VO.c (.move rfl) ?_); refine VO.call rfl rfl (VF.call (zIBS_ok )) ?_; refine VO.c (.assign rfl) (VO.go ?_); refine VC.ret ?_; exact VEnd.one rfl evT (pvI (by rfl))
theorem zSIx_ok {s : ByteArray} {p : ByteArray} (hp : p.size = 1) : VF Tryz.prog OA 122 [St s, St p] (I (Go.Lib.indexByte (toL s) (sepB p))) := by
  refine VF.enter Tryz.func122 rfl (fun _ _ => rfl) rfl ?_; show VC _ _ _ _ _ [(0, St s), (1, St p)] [] _; refine VC.seq (VC.text ?_); refine VO.c (.assign rfl) ?_; refine VO.go (VC.seq (VC.text ?_)); refine VO.c (.move rfl) ?_; refine VO.r (.lenS) ?_; refine VO.c (.assign rfl) ?_; refine VO.go (VC.seq (VC.block (VC.seq (VC.text ?_)))); refine VO.c (.move rfl) (VO.c (.eql) (VO.c (.move rfl) ?_)); refine VO.cg (r := decide (((p.size : Nat) : Int) = (0 : Int))) (w := false) [] trivial (fun _ => (.move rfl)) ?_; refine VO.cg (r := decide (((p.size : Nat) : Int) = (0 : Int))) (w := false) [] trivial (fun _ => (.move rfl)) ?_; refine VO.cg (r := decide (((p.size : Nat) : Int) = (0 : Int))) (w := false) [(20, St p), (21, St s)] ⟨rfl, rfl, trivial⟩ (fun _ => (.seql)) ?_; refine VO.c (.or) (VO.c (.assign rfl) (VO.go ?_)); refine VC.condB rfl (fun c2 => ?_) (fun c2 => ?_)
  · try simp only [Bool.and_eq_true, Bool.or_eq_true, Bool.and_eq_false_iff, Bool.or_eq_false_iff, Bool.not_eq_true', Bool.not_eq_false', decide_eq_true_eq, decide_eq_false_iff_not] at c2
    refine VC.seq (VC.text ?_); refine VO.c (.assign rfl) (VO.go ?_); refine VC.ret ?_; exact VEnd.one rfl evT (pvI (by rcases c2 with h | h; exact absurd h (by omega); rw [← h, idx_self hp]))
  try simp only [Bool.and_eq_true, Bool.or_eq_true, Bool.and_eq_false_iff, Bool.or_eq_false_iff, Bool.not_eq_true', Bool.not_eq_false', decide_eq_true_eq, decide_eq_false_iff_not] at c2
  refine VC.seq (VC.text ?_); refine VO.c (.move rfl) (VO.c (.eql) (VO.c (.assign rfl) (VO.go ?_))); refine VC.condD rfl (fun c4 => ?_) (fun c4 => ?_)
  · refine VC.seq (VC.text ?_); refine VO.c (.move rfl) (VO.c (.move rfl) (VO.c (.ixS rfl rfl (by omega) (by omega)) ?_)); refine VO.call rfl rfl (VF.call (zIB_ok )) ?_; refine VO.c (.assign rfl) (VO.go ?_); refine VC.ret ?_; exact VEnd.one rfl evT (pvI (by exact congrArg (Go.Lib.indexByte (toL s)) sepB_of))
  omega
theorem zIx_ok {s : ByteArray} {p : ByteArray} (hp : p.size = 1) : VF Tryz.prog OA 162 [St s, St p] (I (Go.Lib.indexByte (toL s) (sepB p))) := by
  refine VF.enter Tryz.func162 rfl (fun _ _ => rfl) rfl ?_; show VC _ _ _ _ _ [(0, St s), (1, St p)] [] _; refine VC.seq (VC.text ?_); refine VO.c (.assign rfl) ?_; refine VO.go (VC.seq (VC.text ?_)); refine VO.c (.move rfl) (VO.c (.move rfl) ?_); refine VO.call rfl rfl (VF.call (zSIx_ok hp)) ?_; refine VO.c (.assign rfl) (VO.go ?_); refine VC.ret ?_; exact VEnd.one rfl evT (pvI (by rfl))
theorem zCnt_ok {s : ByteArray} {p : ByteArray} (hp : p.size = 1) : VF Tryz.prog OA 161 [St s, St p] (I (((toL s).count (sepB p) : Nat) : Int)) := by
  refine VF.enter Tryz.func161 rfl (fun _ _ => rfl) rfl ?_; show VC _ _ _ _ _ [(0, St s), (1, St p)] [] _; refine VC.seq (VC.text ?_); refine VO.c (.assign rfl) ?_; refine VO.go (VC.seq (VC.seq (VC.text ?_))); refine VO.c (.move rfl) ?_; refine VO.r (.lenS) ?_; refine VO.c (.eql) (VO.go ?_); refine VC.condD rfl (fun c1 => ?_) (fun c1 => ?_)
  · omega
  refine VC.skip (VC.seq (VC.seq (VC.text ?_))); refine VO.c (.move rfl) ?_; refine VO.r (.lenS) ?_; refine VO.c (.eql) (VO.go ?_); refine VC.condD rfl (fun c3 => ?_) (fun c3 => ?_)
  · refine VC.seq (VC.text ?_); refine VO.c (.move rfl) (VO.c (.move rfl) (VO.c (.ixS rfl rfl (by omega) (by omega)) ?_)); refine VO.call rfl rfl (VF.call (zCntS_ok )) ?_; refine VO.c (.assign rfl) (VO.go ?_); refine VC.ret ?_; exact VEnd.one rfl evT (pvI (by exact congrArg (fun c => (((toL s).count c : Nat) : Int)) sepB_of))
  omega
def cutA (c : UInt8) (s : ByteArray) : ByteArray := if Go.Lib.indexByte (toL s) c < 0 then s else s.extract 0 (Go.Lib.indexByte (toL s) c).toNat
def cutR (c : UInt8) (s : ByteArray) : ByteArray := if Go.Lib.indexByte (toL s) c < 0 then ByteArray.empty else s.extract ((Go.Lib.indexByte (toL s) c).toNat + 1) s.size
theorem idx_lt {s : ByteArray} {c : UInt8} : Go.Lib.indexByte (toL s) c < ((s.size : Nat) : Int) := by
  have hl := toL_len s; by_cases h : 0 ≤ Go.Lib.indexByte (toL s) c
  · obtain ⟨k, hk⟩ := Int.eq_ofNat_of_zero_le h; have := (idx_some hk).1; omega
  omega
theorem zSCut_ok {s : ByteArray} {p : ByteArray} (hp : p.size = 1) (hs : s.size < 1000000) : VF Tryz.prog OA 98 [St s, St p] (.tup [St (cutA (sepB p) s), St (cutR (sepB p) s), B (decide (0 ≤ Go.Lib.indexByte (toL s) (sepB p)))]) := by
  refine VF.enter Tryz.func98 rfl (fun _ _ => rfl) rfl ?_; show VC _ _ _ _ _ [(0, St s), (1, St p)] [] _; refine VC.seq (VC.text ?_); refine VO.c (.assign rfl) (VO.c (.assign rfl) (VO.c (.assign rfl) ?_)); refine VO.go (VC.seq (VC.seq (VC.text ?_))); refine VO.c (.move rfl) (VO.c (.move rfl) ?_); refine VO.call rfl rfl (VF.call (zSIx_ok hp)) ?_; refine VO.c (.assign rfl) ?_; refine VO.go (VC.seq (VC.text ?_)); have hlt := idx_lt (s := s) (c := sepB p); refine VO.c (.move rfl) (VO.c (.geq) (VO.go ?_)); refine VC.condD rfl (fun c2 => ?_) (fun c2 => ?_)
  · refine VC.seq (VC.drawn ?_); refine VD.c (.move rfl) (VD.c (.move rfl) ?_); refine VD.r [] (.cutHS (by kernel_rfl) rfl rfl (by omega)) (.inl rfl) ?_; refine VD.c (.move rfl) (VD.c (.move rfl) (VD.c (.move rfl) (VD.nw [] ?_))); refine VD.r [] (.lenS) (.inl rfl) ?_; refine VD.c (.add rfl rfl (by omega)) ?_; refine VD.r [] (.cutLS (by kernel_rfl) rfl rfl (by omega)) (.inl rfl) ?_; refine VD.c (.assign rfl) (VD.c (.assign rfl) (VD.c (.assign rfl) (VD.go ?_))); refine VC.ret ?_; exact VEnd.three rfl evT evT evT (pvE (by rw [cutA, if_neg (by omega)])) (pvE (by rw [cutR, if_neg (by omega), hp]; congr 1; omega)) (pvE (by exact (decide_eq_true c2).symm))
  refine VC.skip (VC.seq (VC.text ?_)); refine VO.c (.move rfl) (VO.c (.assign rfl) (VO.c (.assign rfl) (VO.c (.assign rfl) ?_))); refine VO.go ?_; refine VC.ret ?_; exact VEnd.three rfl evT evT evT (pvE (by rw [cutA, if_pos (by omega)])) (pvE (by rw [cutR, if_pos (by omega)]; rfl)) (pvE (by exact (decide_eq_false c2).symm))
theorem zCut_ok {s : ByteArray} {p : ByteArray} (hp : p.size = 1) (hs : s.size < 1000000) : VF Tryz.prog OA 59 [St s, St p] (.tup [St (cutA (sepB p) s), St (cutR (sepB p) s), B (decide (0 ≤ Go.Lib.indexByte (toL s) (sepB p)))]) := by
  refine VF.enter Tryz.func59 rfl (fun _ _ => rfl) rfl ?_; show VC _ _ _ _ _ [(0, St s), (1, St p)] [] _; refine VC.seq (VC.text ?_); refine VO.c (.assign rfl) (VO.c (.assign rfl) (VO.c (.assign rfl) ?_)); refine VO.go (VC.seq (VC.text ?_)); refine VO.c (.move rfl) (VO.c (.move rfl) ?_); refine VO.call rfl rfl (VF.call (zSCut_ok hp hs)) ?_; refine VO.c (.extract) (VO.c (.extract) (VO.c (.extract) (VO.c (.assign rfl) ?_))); refine VO.c (.assign rfl) (VO.c (.assign rfl) (VO.go ?_)); refine VC.ret ?_; exact VEnd.three rfl evT evT evT (pvE (by rfl)) (pvE (by rfl)) (pvE (by rfl))
end Go.Proofs
namespace Go.Proofs
open Go.Fs
set_option maxHeartbeats 1000000
theorem el116 : ElT Tryz.prog 116 9 .str := elT_of (by kernel_rfl)
theorem zt9 : ZerT Tryz.prog 9 .str := zerT_of (z := .string ByteArray.empty) (by kernel_rfl) rfl rfl
theorem fillS {α : Type} {W : List α} {i n : Nat} {d x : α} (hn : W.length = n) (hi : i < W.length) (hx : W[i] = x) : (W.take i ++ List.replicate (n - i) d).set i x = W.take (i + 1) ++ List.replicate (n - (i + 1)) d := by
  have h1 : (W.take i).length = i := by rw [List.length_take]; omega
  rw [List.set_append_right _ _ (by omega), h1, Nat.sub_self, show n - i = (n - (i + 1)) + 1 by omega, List.replicate_succ, List.set_cons_zero, List.take_succ_eq_append_getElem hi, hx, List.append_assoc]; rfl
theorem fillN {α : Type} {W : List α} {i n : Nat} {d : α} (hn : W.length = n) (hi : i ≤ n) : (W.take i ++ List.replicate (n - i) d).length = n := by
  rw [List.length_append, List.length_take, List.length_replicate]; omega
theorem app_at {α : Type} {W A R : List α} {x : α} {i : Nat} (h : W = A ++ x :: R) (hA : A.length = i) : ∃ hi : i < W.length, W[i] = x := by
  subst h; refine ⟨by rw [List.length_append, List.length_cons]; omega, ?_⟩; subst hA; simp
theorem app_next {α : Type} {W R : List α} {x : α} {i : Nat} (h : W = W.take i ++ x :: R) (hi : i < W.length) : W = W.take (i + 1) ++ R := by
  obtain ⟨h1, h2⟩ := app_at (i := i) h (by rw [List.length_take]; omega); rw [List.take_succ_eq_append_getElem hi, h2, List.append_assoc]; exact h
theorem splS_one {c : UInt8} {s : ByteArray} (h : (toL s).count c = 0) : splS c s = [s] := by
  by_cases hx : Go.Lib.indexByte (toL s) c < 0
  · exact splS_no hx
  obtain ⟨m, hm⟩ := Int.eq_ofNat_of_zero_le (show 0 ≤ Go.Lib.indexByte (toL s) c by omega); have := count_idx hm; omega
theorem zGen_ok {s : ByteArray} {p : ByteArray} {sv : Int} {n : Int} (hp : p.size = 1) (hs : s.size < 100000) (hsv : sv = 0) (hn : n = -1) : VF Tryz.prog OA 123 [St s, St p, I sv, I n] (.v (.sl .str) (splS (sepB p) s)) := by
  refine VF.enter Tryz.func123 rfl (fun _ _ => rfl) rfl ?_; show VC _ _ _ _ _ [(0, St s), (1, St p), (2, I sv), (3, I n)] [] _; refine VC.seq (VC.text ?_); have hcl := List.count_le_length (a := sepB p) (l := toL s); rw [toL_len] at hcl; refine VO.c (.assign rfl) ?_; refine VO.go (VC.seq (VC.seq (VC.text ?_))); refine VO.c (.move rfl) (VO.c (.eql) (VO.go ?_)); refine VC.condD rfl (fun c1 => ?_) (fun c1 => ?_)
  · omega
  refine VC.skip (VC.seq (VC.seq (VC.text ?_))); refine VO.c (.move rfl) (VO.c (.seql) (VO.go ?_)); refine VC.condD rfl (fun c3 => ?_) (fun c3 => ?_)
  · rw [c3] at hp; cases hp
  refine VC.skip (VC.seq (VC.seq (VC.text ?_))); refine VO.c (.move rfl) (VO.c (.lss) (VO.go ?_)); refine VC.condD rfl (fun c5 => ?_) (fun c5 => ?_)
  · refine VC.text ?_; refine VO.c (.move rfl) (VO.c (.move rfl) ?_); refine VO.call rfl rfl (VF.call (zCnt_ok hp)) ?_; refine VO.c (.add rfl rfl (by omega)) (VO.c (.assign rfl) ?_); refine VO.go (VC.seq (VC.text ?_))
    have hmin : min ((((toL s).count (sepB p) : Nat) : Int) + 1) (((s.size : Nat) : Int) + 1) = (((toL s).count (sepB p) + 1 : Nat) : Int) := by omega
    have hwl := splS_len (c := sepB p) (s := s); refine VO.c (.move rfl) (VO.c (.move rfl) ?_); refine VO.r (.lenS) ?_; refine VO.c (.add rfl rfl (by omega)) (VO.c (.imin) ?_); rw [hmin]; refine VO.c (.assign rfl) ?_; refine VO.go (VC.seq (VC.text ?_)); refine VO.c (.move rfl) ?_; refine VO.cell (.make (k := ((toL s).count (sepB p) + 1)) rfl rfl el116 zt9 (by omega)) ?_; intro ww1; refine VO.c (.assign rfl) ?_; refine VO.go (VC.seq (VC.text ?_)); refine VO.c (.move rfl) (VO.c (.sub rfl rfl (by omega)) (VO.c (.assign rfl) ?_)); refine VO.go (VC.seq (VC.text ?_)); refine VO.c (.assign rfl) ?_; refine VO.go (VC.seq (VC.block ?_)); refine VC.keep [(0, St s), (1, St p), (2, I sv), (3, I ((((toL s).count (sepB p) + 1 : Nat) : Int) - (1 : Int))), (9, .raw ww1), (10, I ((0 : Nat) : Int))] ⟨rfl, rfl, rfl, rfl, rfl, rfl, trivial⟩ ?_; refine VC.loop (I := fun kk ff ss => ∃ (i : Nat) (S : ByteArray), kk = (toL s).count (sepB p) - i ∧ ff = [(0, St S), (1, St p), (2, I sv), (3, I ((((toL s).count (sepB p) + 1 : Nat) : Int) - (1 : Int))), (9, .raw ww1), (10, I ((i : Nat) : Int))] ∧ ss = [(ww1, .row 9 .str ((splS (sepB p) s).take i ++ List.replicate ((toL s).count (sepB p) + 1 - i) ByteArray.empty))] ∧ (i ≤ (toL s).count (sepB p)) ∧ (splS (sepB p) s = (splS (sepB p) s).take i ++ splS (sepB p) S) ∧ ((toL S).count (sepB p) + i = (toL s).count (sepB p)) ∧ (S.size ≤ s.size)) ?_ _ _ _ ⟨0, s, rfl, rfl, rfl, (by omega), (by rfl), (by rfl), (by exact Nat.le_refl _)⟩; rintro kk ff ss ⟨i, S, hk0, rfl, rfl, hi, hS, hc, hz⟩; have hfl := fillN (d := ByteArray.empty) hwl (i := i) (by omega); refine VC.seq (VC.seq (VC.text ?_)); refine VO.c (.move rfl) (VO.c (.move rfl) (VO.c (.lss) (VO.go ?_))); refine VC.condD rfl (fun c11 => ?_) (fun c11 => ?_)
    · have hit : i < (toL s).count (sepB p) := by omega
      have hge := Go.Lib.indexByte_ge (toL S) (sepB p); have hlt := idx_lt (s := S) (c := sepB p); refine VC.skip (VC.block (VC.seq (VC.text ?_))); refine VO.c (.move rfl) (VO.c (.move rfl) ?_); refine VO.call rfl rfl (VF.call (zIx_ok hp)) ?_; refine VO.c (.assign rfl) ?_; refine VO.go (VC.seq (VC.seq (VC.text ?_))); refine VO.c (.move rfl) (VO.c (.lss) (VO.go ?_)); refine VC.condD rfl (fun c13 => ?_) (fun c13 => ?_)
      · have := count_no (l := toL S) c13; omega
      obtain ⟨m, hm⟩ := Int.eq_ofNat_of_zero_le (show 0 ≤ Go.Lib.indexByte (toL S) (sepB p) by omega)
      have he1 : (Go.Lib.indexByte (toL S) (sepB p) + sv).toNat = m := by omega
      have he2 : (Go.Lib.indexByte (toL S) (sepB p) + ((p.size : Nat) : Int)).toNat = m + 1 := by omega
      have hsp := splS_idx hm; have hcn := count_idx hm; have hS2 := hS; rw [hsp] at hS2; have hnx := app_next hS2 (by omega); obtain ⟨hw1, hw2⟩ := app_at (i := i) hS2 (by rw [List.length_take]; omega); have hset := fillS (d := ByteArray.empty) hwl (by omega) hw2
      have hzl : (S.extract (m + 1) S.size).size ≤ S.size := by
        have h7 := congrArg List.length (toL_drop S (m + 1)); rw [toL_len, List.length_drop, toL_len] at h7; omega
      refine VC.skip (VC.seq (VC.text ?_)); refine VO.c (.move rfl) (VO.c (.move rfl) (VO.c (.move rfl) (VO.c (.move rfl) ?_))); refine VO.c (.move rfl) (VO.c (.add rfl rfl (by omega)) ?_); refine VO.r (.cutHS (by kernel_rfl) rfl rfl (by omega)) ?_; rw [he1]; refine VO.c (.ixO (j := i) rfl rfl m0 el116 (by omega)) ?_; refine VO.setE i rfl rfl vt9 (by omega) ?_; refine VO.go (VC.seq (VC.text ?_)); refine VO.c (.move rfl) (VO.c (.move rfl) (VO.c (.move rfl) ?_)); refine VO.r (.lenS) ?_; refine VO.c (.add rfl rfl (by omega)) ?_; refine VO.r (.cutLS (by kernel_rfl) rfl rfl (by omega)) ?_; rw [he2]; refine VO.c (.assign rfl) ?_; refine VO.go (VC.text ?_); refine VO.c (.move rfl) (VO.c (.add rfl rfl (by omega)) (VO.c (.assign rfl) ?_)); refine VO.nil ?_; refine ⟨_, [(0, St (S.extract (m + 1) S.size)), (1, St p), (2, I sv), (3, I ((((toL s).count (sepB p) + 1 : Nat) : Int) - (1 : Int))), (9, .raw ww1), (10, I (((i + 1) : Nat) : Int))], ?_, ⟨slE rfl (by first | rfl | simp | omega), rfl, rfl, rfl, rfl, rfl, trivial⟩, (i + 1), (S.extract (m + 1) S.size), rfl, rfl, (by rw [hset]), (by omega), (by exact hnx), (by rw [toL_drop]; omega), (by exact Nat.le_trans hzl hz)⟩; omega
    have hic : i = (toL s).count (sepB p) := by omega
    have hS4 := hS; rw [splS_one (s := S) (by omega)] at hS4; obtain ⟨hw1, hw2⟩ := app_at (i := i) hS4 (by rw [List.length_take]; omega); have hset := fillS (d := ByteArray.empty) hwl hw1 hw2
    have hall : ((splS (sepB p) s).take i ++ List.replicate ((toL s).count (sepB p) + 1 - i) ByteArray.empty).set i S = splS (sepB p) s := by
      rw [hset, List.take_of_length_le (by omega), show (toL s).count (sepB p) + 1 - (i + 1) = 0 by omega]; simp
    refine VC.exit (VC.seq (VC.text ?_)); refine VO.c (.move rfl) (VO.c (.move rfl) (VO.c (.move rfl) (VO.c (.ixO (j := i) rfl rfl m0 el116 (by omega)) ?_))); refine VO.setE i rfl rfl vt9 (by omega) ?_; refine VO.go (VC.seq (VC.text ?_)); refine VO.c (.move rfl) (VO.c (.move rfl) (VO.c (.add rfl rfl (by omega)) ?_)); refine VO.shut [(9, .v (.sl .str) (((splS (sepB p) s).take i ++ List.replicate ((toL s).count (sepB p) + 1 - i) ByteArray.empty).set i S)), (58, .v (.sl .str) (((splS (sepB p) s).take i ++ List.replicate ((toL s).count (sepB p) + 1 - i) ByteArray.empty).set i S)), (62, .v (.sl .str) (((splS (sepB p) s).take i ++ List.replicate ((toL s).count (sepB p) + 1 - i) ByteArray.empty).set i S))] (.cons rfl (.row m0) (.cons rfl (.row m0) (.cons rfl (.row m0) .nil))) ?_; refine VO.r (.cutH rfl rfl el116 (by rw [List.length_set]; omega)) ?_; refine VO.c (.assign rfl) (VO.go ?_); refine VC.ret ?_; exact VEnd.one rfl evT (pvE (by rw [hall, List.take_of_length_le (by omega)]))
  omega
theorem zSplit_ok {s : ByteArray} {p : ByteArray} (hp : p.size = 1) (hs : s.size < 100000) : VF Tryz.prog OA 99 [St s, St p] (.v (.sl .str) (splS (sepB p) s)) := by
  refine VF.enter Tryz.func99 rfl (fun _ _ => rfl) rfl ?_; show VC _ _ _ _ _ [(0, St s), (1, St p)] [] _; refine VC.seq (VC.text ?_); refine VO.c (.assign rfl) ?_; refine VO.go (VC.seq (VC.text ?_)); refine VO.c (.move rfl) (VO.c (.move rfl) ?_); refine VO.call rfl rfl (VF.call (zGen_ok hp hs rfl rfl)) ?_; refine VO.c (.assign rfl) (VO.go ?_); refine VC.ret ?_; exact VEnd.one rfl evT (pvE (by rfl))
end Go.Proofs
namespace Go.Proofs
open Go.Fs
set_option maxHeartbeats 1000000
abbrev y26 : Ty := (.sl (.int .u8))
theorem vt26 : ValT Tryz.prog 26 y26 := valT_of (by kernel_rfl)
theorem el26 : ElT Tryz.prog 26 5 (.int .u8) := elT_of (by kernel_rfl)
theorem zWrite_ok {b : Nat} {a u : Value} {acc s : ByteArray} (hsz : acc.size + s.size ≤ 1000000) (ha : a = .pointer none ∨ a = bP b) (hn : acc.size = 0 → u = .slice none 0 0) :
    VFG Tryz.prog OA 54 [.raw (bP b), St s] [(bW b, .cel 99 0 [.raw a, .raw u]), (u, .row 5 (.int .u8) (bytesI acc))] (fun r γ' => ∃ u', r = .tup [I ((s.size : Nat) : Int), .raw .nilIface] ∧ γ' = [(bW b, .cel 99 0 [.raw (bP b), .raw u']), (u', .row 5 (.int .u8) (bytesI (acc ++ s)))] ∧ ((acc ++ s).size = 0 → u' = .slice none 0 0)) := by
  refine VFG.enterK Tryz.func54 rfl (fun _ _ => rfl) rfl ?_; show VC _ _ _ _ _ [(0, .raw (bP b)), (1, St s)] [(bW b, .cel 99 0 [.raw a, .raw u]), (u, .row 5 (.int .u8) (bytesI acc))] _; refine VC.seq (VC.text ?_); refine VO.c (.assign rfl) (VO.c (.assign rfl) ?_); refine VO.go (VC.seq (VC.text ?_)); refine VO.c (.move rfl) ?_; refine VO.callG [(bW b, .cel 99 0 [.raw a, .raw u])] rfl rfl rfl (VFG.call (VFG.cop (O := orcZ 61 (orcA 96 96 6)) (tb := 99) (fun _ _ => rfl) ha)) ?_; rintro _ _ ⟨rfl, rfl⟩; show VO _ _ _ _ _ _ [(bW b, .cel 99 0 [.raw (bP b), .raw u]), (u, .row 5 (.int .u8) (bytesI acc))] _; refine VO.go (VC.seq (VC.text ?_)); refine VO.c (.move rfl) (VO.c (.move rfl) (VO.c (.nilP) (VO.c (.faB (k := 1) m0) ?_))); refine VO.r (.ldB m0 vt26) ?_; refine VO.c (.move rfl) ?_; refine VO.perm swap1 ?_; refine VO.mk (MakeV.appS el26 (by kernel_rfl) rfl rfl hsz hn) ?_; rintro _ _ ⟨u', ⟨rfl, rfl⟩, hn2⟩; refine VO.c (.nilP) (VO.c (.faB (k := 1) m1) ?_); refine VO.perm swap1 ?_; refine VO.one m1 fun ho => ?_; refine VO.mk0 (MakeV.stB vt26 rfl rfl ho) ?_; rintro _ _ ⟨rfl, rfl⟩; refine VO.go (VC.seq (VC.text ?_)); refine VO.c (.move rfl) ?_; refine VO.r (.lenS) ?_; refine VO.c (.assign rfl) (VO.c (.assign rfl) (VO.go ?_)); refine VC.ret ?_; exact ⟨rfl, [I ((s.size : Nat) : Int), .raw .nilIface], .cons evT (.cons evT .nil), ⟨u', rfl, rfl, hn2⟩, bld_keep⟩
theorem zStr_ok {b : Nat} {a u : Value} {acc : ByteArray} (hsz : acc.size ≤ 1000000) (hn : acc.size = 0 → u = .slice none 0 0) :
    VFG Tryz.prog OA 58 [.raw (bP b)] [(bW b, .cel 99 0 [.raw a, .raw u]), (u, .row 5 (.int .u8) (bytesI acc))] (fun r γ' => r = St acc ∧ γ' = [(bW b, .cel 99 0 [.raw a, .raw u])]) := by
  refine VFG.enterK Tryz.func58 rfl (fun _ _ => rfl) rfl ?_; show VC _ _ _ _ _ [(0, .raw (bP b))] [(bW b, .cel 99 0 [.raw a, .raw u]), (u, .row 5 (.int .u8) (bytesI acc))] _; refine VC.seq (VC.text ?_); refine VO.c (.assign rfl) ?_; refine VO.go (VC.seq (VC.drawn ?_)); refine VD.c (.move rfl) (VD.c (.nilP) ?_); refine VD.co (.faB (k := 1) m0) ?_; refine VD.r [(bW b, .cel 99 0 [.raw a, .raw u]), (u, .row 5 (.int .u8) (bytesI acc))] (.ldB m0 vt26) (.inr ⟨rfl, rfl⟩) ?_; refine VD.r [(bW b, .cel 99 0 [.raw a, .raw u]), (u, .row 5 (.int .u8) (bytesI acc))] (.sd rfl m1 hn) (.inr ⟨rfl, rfl⟩) ?_; refine VD.c (.move rfl) (VD.c (.nilP) ?_); refine VD.co (.faB (k := 1) m0) ?_; refine VD.r [(bW b, .cel 99 0 [.raw a, .raw u]), (u, .row 5 (.int .u8) (bytesI acc))] (.ldB m0 vt26) (.inr ⟨rfl, rfl⟩) ?_; refine VD.r [(bW b, .cel 99 0 [.raw a, .raw u]), (u, .row 5 (.int .u8) (bytesI acc))] (.lenO m1 el26) (.inr ⟨rfl, rfl⟩) ?_; refine VD.perm swap1 ?_; refine VD.mk (MakeV.ustr (by kernel_rfl) (by kernel_rfl) rfl (by rw [← bytesI_len]; rfl) hsz hn) ?_; rintro _ _ tl ⟨rfl, rfl⟩; refine VD.c (.assign rfl) (VD.go ?_); refine VC.ret ?_; exact ⟨rfl, [St acc], .cons evT .nil, ⟨rfl, rfl⟩, bld_keep1⟩
end Go.Proofs
namespace Go.Proofs
open Go.Fs
set_option maxHeartbeats 1000000
theorem toL_mid (s : ByteArray) (f i : Nat) : toL (s.extract f i) = ((toL s).drop f).take (i - f) := by
  unfold toL; rw [ByteArray.data_extract, Array.toList_extract, List.extract_eq_take_drop]
theorem spl_cut {c : UInt8} {L : List UInt8} {k : Nat} (h : ∀ x ∈ L.take k, x ≠ c) (hk : k < L.length) (hc : L[k] = c) : splL c L = L.take k :: splL c (L.drop (k + 1)) := by
  have e : L = L.take k ++ c :: L.drop (k + 1) := by rw [← hc, ← List.drop_eq_getElem_cons hk, List.take_append_drop]
  have := spl_app (s := c) (w := L.take k) (r := L.drop (k + 1)) h; rw [← e] at this; exact this
theorem byteE_at {s : ByteArray} {i : Nat} (h : i < (toL s).length) : byteE s ((i : Nat) : Int) = ((((toL s)[i]).toNat : Nat) : Int) := by
  rw [byteE_nat]
  have h2 : i < s.data.size := by rw [toL_len] at h; exact h
  show (((s.data[i]!).toNat : Nat) : Int) = _; rw [getElem!_pos s.data i h2]; simp [toL]
def c8 (c : Int) : UInt8 := c.toNat.toUInt8
theorem c8_nat {c : Int} (h : 0 ≤ c ∧ c < 256) : (((c8 c).toNat : Nat) : Int) = c := by
  show (((UInt8.ofNat c.toNat).toNat : Nat) : Int) = c; rw [UInt8.toNat_ofNat']; omega
theorem c8_eq {c : Int} (h : 0 ≤ c ∧ c < 256) {x : UInt8} : (((x.toNat : Nat) : Int) = c) ↔ x = c8 c := by
  constructor
  · intro e; apply UInt8.toNat_inj.1; have := c8_nat h; omega
  rintro rfl; exact c8_nat h
structure SpS (s : ByteArray) (c : UInt8) (i f : Nat) (O : List ByteArray) : Prop where
  in_ : i ≤ (toL s).length → splL c (toL s) = O.map toL ++ splL c ((toL s).drop f) ∧ f ≤ i ∧ ∀ x ∈ ((toL s).drop f).take (i - f), x ≠ c
  out : (toL s).length < i → splL c (toL s) = O.map toL
theorem sps_0 {s : ByteArray} {c : UInt8} : SpS s c 0 0 [] := ⟨fun _ => ⟨rfl, Nat.le_refl _, fun x hx => by simp at hx⟩, fun h => by omega⟩
theorem sps_t {s : ByteArray} {c : UInt8} {i f : Nat} {O : List ByteArray} (h : SpS s c i f O) (hi : i ≤ (toL s).length) (hc : i = (toL s).length ∨ ∃ hk : i < (toL s).length, (toL s)[i] = c) : SpS s c (i + 1) (i + 1) (O ++ [s.extract f i]) := by
  obtain ⟨h1, h2, h3⟩ := h.in_ hi; by_cases he : i = (toL s).length
  · refine ⟨fun h => by omega, fun _ => ?_⟩; have h4 : ((toL s).drop f).take (i - f) = (toL s).drop f := List.take_of_length_le (by rw [List.length_drop]; omega); rw [h4] at h3; rw [h1, spl_word h3, List.map_append, List.map_singleton, toL_mid, h4]
  obtain ⟨hk, hx⟩ := hc.resolve_left he; refine ⟨fun _ => ⟨?_, Nat.le_refl _, fun x hx => by simp at hx⟩, fun h => by omega⟩; have h5 := spl_cut (L := (toL s).drop f) (k := i - f) h3 (by rw [List.length_drop]; omega) (by rw [List.getElem_drop]; simp only [show f + (i - f) = i by omega]; exact hx); rw [h1, h5, List.drop_drop, List.map_append, List.map_singleton, toL_mid, List.append_assoc, show f + (i - f + 1) = i + 1 by omega]; rfl
theorem sps_f {s : ByteArray} {c : UInt8} {i f : Nat} {O : List ByteArray} (h : SpS s c i f O) (hi : i < (toL s).length) (hc : (toL s)[i] ≠ c) : SpS s c (i + 1) f O := by
  obtain ⟨h1, h2, h3⟩ := h.in_ (by omega); refine ⟨fun _ => ⟨h1, by omega, fun x hx => ?_⟩, fun h => by omega⟩; rw [show i + 1 - f = (i - f) + 1 by omega, List.take_succ_eq_append_getElem (by rw [List.length_drop]; omega)] at hx; rcases List.mem_append.1 hx with hx | hx
  · exact h3 x hx
  rw [List.mem_singleton.1 hx, List.getElem_drop]; simp only [show f + (i - f) = i by omega]; exact hc
theorem sps_end {s : ByteArray} {c : UInt8} {i f : Nat} {O : List ByteArray} (h : SpS s c i f O) (hi : (toL s).length < i) : O = splS c s := by
  unfold splS; rw [h.out hi, List.map_map]; exact (List.map_id'' (fun x => rfl) O).symm
theorem sps_len {s : ByteArray} {c : UInt8} {i f : Nat} {O : List ByteArray} (h : SpS s c i f O) : O.length ≤ s.size + 1 := by
  have h0 := spl_len (c := c) (toL s); have hc := List.count_le_length (a := c) (l := toL s); rw [toL_len] at hc; by_cases hi : i ≤ (toL s).length
  · have h1 := congrArg List.length (h.in_ hi).1; rw [List.length_append, List.length_map] at h1; omega
  have h1 := congrArg List.length (h.out (by omega)); rw [List.length_map] at h1; omega
theorem rSplit_ok {s : ByteArray} {c : Int} (hs : s.size < 100000) (hc : 0 ≤ c ∧ c < 256) : VF Tryz.prog OA 66 [St s, .v (.int .u8) c] (.v (.sl .str) (splS (c8 c) s)) := by
  refine VF.enter Tryz.func66 rfl (fun _ _ => rfl) rfl ?_; show VC _ _ _ _ _ [(0, St s), (1, .v (.int .u8) c)] [] _; refine VC.seq (VC.text ?_); have hl := toL_len s; refine VO.c (.assign rfl) ?_; refine VO.go (VC.seq (VC.text ?_)); refine VO.c (.assign rfl) ?_; refine VO.go (VC.seq (VC.text ?_)); refine VO.c (.assign rfl) ?_; refine VO.go (VC.seq (VC.seq (VC.text ?_))); refine VO.c (.assign rfl) ?_; refine VO.go (VC.block ?_); refine VC.cell0 9 .str ?_; refine VC.keep [(0, St s), (1, .v (.int .u8) c), (5, .raw (.slice none 0 0)), (6, I ((0 : Nat) : Int)), (7, I ((0 : Nat) : Int))] ⟨rfl, rfl, rfl, rfl, rfl, trivial⟩ ?_; refine VC.loop (I := fun kk ff ss => ∃ (i : Nat) (f : Nat) (O : List ByteArray) (w : Value), kk = s.size + 1 - i ∧ ff = [(0, St s), (1, .v (.int .u8) c), (5, .raw w), (6, I ((f : Nat) : Int)), (7, I ((i : Nat) : Int))] ∧ ss = [(w, .row 9 .str O)] ∧ (i ≤ s.size + 1) ∧ (SpS s (c8 c) i f O)) ?_ _ _ _ ⟨0, 0, [], (.slice none 0 0), rfl, rfl, rfl, (by omega), (by exact sps_0)⟩; rintro kk ff ss ⟨i, f, O, w, hk0, rfl, rfl, hi, hS⟩; refine VC.seq (VC.seq (VC.text ?_)); refine VO.c (.move rfl) (VO.c (.move rfl) ?_); refine VO.r (.lenS) ?_; refine VO.c (.leq) (VO.go ?_); refine VC.condD rfl (fun c4 => ?_) (fun c4 => ?_)
  · have his : i ≤ s.size := by omega
    have hfi := (hS.in_ (by omega)).2.1; have hol := sps_len hS; refine VC.skip (VC.seq (VC.block (VC.seq (VC.text ?_)))); refine VO.c (.move rfl) (VO.c (.move rfl) ?_); refine VO.r (.lenS) ?_; refine VO.c (.eql) (VO.c (.move rfl) ?_); refine VO.cg (r := decide (((i : Nat) : Int) = ((s.size : Nat) : Int))) (w := false) [] trivial (fun _ => (.move rfl)) ?_; refine VO.cg (r := decide (((i : Nat) : Int) = ((s.size : Nat) : Int))) (w := false) [] trivial (fun _ => (.move rfl)) ?_; refine VO.cg (r := decide (((i : Nat) : Int) = ((s.size : Nat) : Int))) (w := false) [(19, St s), (20, I ((i : Nat) : Int))] ⟨rfl, rfl, trivial⟩ (fun hgd => have g6_4 : ¬ (((i : Nat) : Int) = ((s.size : Nat) : Int)) := (by simpa using hgd); (.ixS rfl rfl (by omega) (by omega))) ?_; refine VO.cg (r := decide (((i : Nat) : Int) = ((s.size : Nat) : Int))) (w := false) [] trivial (fun _ => (.move rfl)) ?_; refine VO.cg (r := decide (((i : Nat) : Int) = ((s.size : Nat) : Int))) (w := false) [(21, .v (.int .u8) (byteE s ((i : Nat) : Int))), (22, .v (.int .u8) c)] ⟨rfl, rfl, trivial⟩ (fun _ => (.eql)) ?_; refine VO.c (.or) (VO.go ?_); refine VC.condB rfl (fun c6 => ?_) (fun c6 => ?_)
    · try simp only [Bool.and_eq_true, Bool.or_eq_true, Bool.and_eq_false_iff, Bool.or_eq_false_iff, Bool.not_eq_true', Bool.not_eq_false', decide_eq_true_eq, decide_eq_false_iff_not] at c6
      have hcc : i = s.size ∨ byteE s ((i : Nat) : Int) = c := by omega
      have hS2 : SpS s (c8 c) (i + 1) (i + 1) (O ++ [s.extract f i]) := by
        refine sps_t hS (by omega) ?_; by_cases h7 : i = (toL s).length
        · exact .inl h7
        refine .inr ⟨by omega, (c8_eq hc).1 ?_⟩; rw [← byteE_at (by omega)]; rcases hcc with h | h
        · exact absurd (h.trans hl.symm) h7
        exact h
      refine VC.seq (VC.text ?_); refine VO.c (.move rfl) (VO.c (.move rfl) (VO.c (.move rfl) (VO.c (.move rfl) ?_))); refine VO.r (.cutLHS (by kernel_rfl) rfl rfl rfl (by omega) (by omega)) ?_; refine VO.new (.lit [(s.extract (((f : Nat) : Int)).toNat (((i : Nat) : Int)).toNat)] el116) ?_; refine VO.app rfl rfl el116 el116 (by simp; omega) ?_; intro ww1; refine VO.c (.assign rfl) ?_; refine VO.go (VC.text ?_); refine VO.c (.move rfl) (VO.c (.add rfl rfl (by omega)) (VO.c (.assign rfl) ?_)); refine VO.nil (VC.text ?_); refine VO.c (.move rfl) (VO.c (.add rfl rfl (by omega)) (VO.c (.assign rfl) ?_)); refine VO.nil ?_; refine ⟨_, [(0, St s), (1, .v (.int .u8) c), (5, .raw ww1), (6, I (((if (i = s.size ∨ byteE s ((i : Nat) : Int) = c) then i + 1 else f) : Nat) : Int)), (7, I (((i + 1) : Nat) : Int))], ?_, ⟨rfl, rfl, rfl, slI rfl (by first | (rw [if_pos hcc]; rfl) | (rw [if_neg hcn])), rfl, trivial⟩, (i + 1), (if (i = s.size ∨ byteE s ((i : Nat) : Int) = c) then i + 1 else f), (if (i = s.size ∨ byteE s ((i : Nat) : Int) = c) then O ++ [s.extract f i] else O), ww1, rfl, rfl, (by first | (rw [if_pos hcc]; rfl) | (rw [if_neg hcn])), (by omega), (by first | (rw [if_pos hcc, if_pos hcc]; exact hS2) | (rw [if_neg hcn, if_neg hcn]; exact hS2))⟩; omega
    try simp only [Bool.and_eq_true, Bool.or_eq_true, Bool.and_eq_false_iff, Bool.or_eq_false_iff, Bool.not_eq_true', Bool.not_eq_false', decide_eq_true_eq, decide_eq_false_iff_not] at c6
    have hcn : ¬ (i = s.size ∨ byteE s ((i : Nat) : Int) = c) := by omega
    have hlt : i < (toL s).length := by omega
    have hS2 := sps_f hS hlt (fun e => hcn (.inr (by rw [byteE_at hlt]; exact (c8_eq hc).2 e))); refine VC.skip (VC.text ?_); refine VO.c (.move rfl) (VO.c (.add rfl rfl (by omega)) (VO.c (.assign rfl) ?_)); refine VO.nil ?_; refine ⟨_, [(0, St s), (1, .v (.int .u8) c), (5, .raw w), (6, I (((if (i = s.size ∨ byteE s ((i : Nat) : Int) = c) then i + 1 else f) : Nat) : Int)), (7, I (((i + 1) : Nat) : Int))], ?_, ⟨rfl, rfl, rfl, slI rfl (by first | (rw [if_pos hcc]; rfl) | (rw [if_neg hcn])), rfl, trivial⟩, (i + 1), (if (i = s.size ∨ byteE s ((i : Nat) : Int) = c) then i + 1 else f), (if (i = s.size ∨ byteE s ((i : Nat) : Int) = c) then O ++ [s.extract f i] else O), w, rfl, rfl, (by first | (rw [if_pos hcc]; rfl) | (rw [if_neg hcn])), (by omega), (by first | (rw [if_pos hcc, if_pos hcc]; exact hS2) | (rw [if_neg hcn, if_neg hcn]; exact hS2))⟩; omega
  refine VC.exit (VC.seq (VC.text ?_)); refine VO.c (.move rfl) (VO.c (.assign rfl) (VO.go ?_)); refine VC.ret ?_; exact VEnd.one rfl (evC (.row m0)) (pvE (by exact sps_end hS (by omega)))
end Go.Proofs
namespace Go.Fs
variable {P : Program} {orc : FuncId → List Value → Heap → Option (Value × Heap)} {h : Heap} {S : List Nat}
theorem digs_dec : ∀ (f n : Nat), n < 10 ^ (f + 1) → digs (f + 1) n = decL n
  | f, n, h => by
    unfold digs
    cases hb : Nat.blt n 10 with
    | true => rw [decL_lt (nblt hb)]; rfl
    | false =>
      have h1 : 10 ≤ n := by have := nble_no hb; omega
      rw [decL_ge h1]; simp only [cond_false]
      cases f with
      | zero => simp at h; omega
      | succ f => rw [digs_dec f (n / 10) (by rw [Nat.pow_succ] at h; omega)]; rfl
theorem itoaF_nat {k : Nat} (h : k < 1000000000000000000) : itoaF ((k : Nat) : Int) = decL k := by
  show digs 20 k = _; refine digs_dec 19 k ?_
  have : (10 : Nat) ^ (19 + 1) = 100000000000000000000 := by decide
  omega
theorem VF.itoa {f : FuncId} {n : Int} (hO : ∀ us h, orc f us h = (match us with | [.int .i64 n] => bif decide (-1000000000000000000 < n) && decide (n < 1000000000000000000) then some (.string ⟨(itoaF n).toArray⟩, h) else none | _ => none)) (h0 : -1000000000000000000 < n) (h1 : n < 1000000000000000000) :
    VF P orc f [.v (.int .i64) n] (.v .str (ofL (itoaF n))) := fun h S us hok hS hr => by
  obtain ⟨u, r, rfl, h2, h3⟩ := hr; obtain rfl : r = [] := h3; obtain rfl := RepV.int h2
  have ho : orc f [.int .i64 n] h = some (.string ⟨(itoaF n).toArray⟩, h) := by
    rw [hO]; simp only [decide_eq_true h0, decide_eq_true h1, Bool.and_self, cond_true]
  exact EvF.oracle ho ⟨Aft.refl _ _, RepV.ofStr _, fun _ => rfl⟩
end Go.Fs
namespace Go.Fs
variable {P : Program} {σ : Sto} {fl : VL} {x y : Operand} {T T' : TypeId} {k : IntKind} {p q : Int}
theorem CalmV.subK (hx : evV fl x = some (.v (.int k) p)) (hy : evV fl y = some (.v (.int k) q)) (h0 : k.wrap (p - q) = p - q) : CalmV P fl σ (.binOp .sub T x y T') (.v (.int k) (p - q)) :=
  CalmV.binI hx hy (u := .int k (p - q)) (by
    have e : binOp .sub T (.int k p) (.int k q) = pure (.int k (k.wrap (p - q))) := by cases k <;> rfl
    show purely P (do eqGuard .sub T x y (.int k p) (.int k q); binOp .sub T (.int k p) (.int k q)) = _
    rw [e, h0]; rfl) fun h S => RepV.ofInt _ _
theorem wrap8 {n : Int} (h : 0 ≤ n ∧ n < 256) : IntKind.u8.wrap n = n := by
  unfold IntKind.wrap; simp only [IntKind.signed, IntKind.bits]; simp; omega
end Go.Fs
namespace Go.Proofs
open Go.Fs
set_option maxHeartbeats 1000000
def decS (n : Int) : ByteArray := ofL (itoaF n)
theorem zItoaI_ok {n : Int} (h : -1000000000000000000 < n ∧ n < 1000000000000000000) : VF Tryz.prog OA 96 [I n] (St (decS n)) := VF.itoa (fun us h => rfl) h.1 h.2
theorem zItoa_ok {n : Int} (h : -1000000000000000000 < n ∧ n < 1000000000000000000) : VF Tryz.prog OA 55 [I n] (St (decS n)) := by
  refine VF.enter Tryz.func55 rfl (fun _ _ => rfl) rfl ?_; show VC _ _ _ _ _ [(0, I n)] [] _; refine VC.seq (VC.text ?_); refine VO.c (.assign rfl) ?_; refine VO.go (VC.seq (VC.text ?_)); refine VO.c (.move rfl) ?_; refine VO.call rfl rfl (VF.call (zItoaI_ok h)) ?_; refine VO.c (.assign rfl) (VO.go ?_); refine VC.ret ?_; exact VEnd.one rfl evT (pvE (by rfl))
def joinS (c : UInt8) (ss : List ByteArray) : ByteArray := ofL (joiL c (ss.map toL))
def numV (s : ByteArray) : Int := (((numL (toL s)).getD 0 : Nat) : Int)
def numK (s : ByteArray) : Bool := (numL (toL s)).isSome
theorem numK_f {s : ByteArray} (h : (toL s = [] ∨ 9 < (toL s).length) ∨ (1 < (toL s).length ∧ ((toL s).headD 0).toNat = 48) ∨ (toL s).all digB = false) : numV s = 0 ∧ numK s = false := by
  have e : numL (toL s) = none := if_pos h; unfold numV numK; rw [e]; exact ⟨rfl, rfl⟩
theorem numK_t {s : ByteArray} (h : ¬ ((toL s = [] ∨ 9 < (toL s).length) ∨ (1 < (toL s).length ∧ ((toL s).headD 0).toNat = 48) ∨ (toL s).all digB = false)) : numV s = ((valL (toL s) 0 : Nat) : Int) ∧ numK s = true := by
  have e : numL (toL s) = some (valL (toL s) 0) := if_neg h; unfold numV numK; rw [e]; exact ⟨rfl, rfl⟩
theorem head_at {s : ByteArray} (h : 0 < (toL s).length) : byteE s 0 = ((((toL s).headD 0).toNat : Nat) : Int) := by
  have h1 := byteE_at (s := s) (i := 0) h
  have h2 : (toL s).headD 0 = (toL s)[0] := by
    generalize toL s = l at h
    cases l with
    | nil => simp at h
    | cons x r => rfl
  rw [h2]; exact h1
theorem val_take {s : ByteArray} {i : Nat} (h : i < (toL s).length) : valL ((toL s).take (i + 1)) 0 = 10 * valL ((toL s).take i) 0 + (((toL s)[i]).toNat - 48) := by
  rw [List.take_succ_eq_append_getElem h, valL_snoc]
theorem val_lt : ∀ (k : Nat) (w : List UInt8), w.length = k → (∀ c ∈ w, digB c = true) → valL w 0 < 10 ^ k
  | 0, w, hk, _ => by
    obtain rfl := List.eq_nil_of_length_eq_zero hk
    decide
  | k + 1, w, hk, hd => by
    obtain ⟨r, c, rfl⟩ := snoc_ex (w := w) (fun e => by rw [e] at hk; simp at hk); have h1 := val_lt k r (by simpa using hk) fun c hc => hd c (List.mem_append_left _ hc); have h2 := of_decide_eq_true (hd c (List.mem_append_right _ (List.mem_singleton.2 rfl))); rw [valL_snoc, Nat.pow_succ]; omega
theorem val_b {s : ByteArray} {i : Nat} (hi : i ≤ 9) (hs : i ≤ (toL s).length) (hd : ∀ c ∈ (toL s).take i, digB c = true) : valL ((toL s).take i) 0 < 1000000000 := by
  have h1 := val_lt i ((toL s).take i) (by rw [List.length_take]; omega) hd; have h2 : 10 ^ i ≤ 10 ^ 9 := Nat.pow_le_pow_right (by decide) hi
  have h3 : (10 : Nat) ^ 9 = 1000000000 := by decide
  omega
theorem num_cond {s : ByteArray} : (((((s.size : Nat) : Int) = 0 ∨ (9 : Int) < ((s.size : Nat) : Int)) ∨ ((1 : Int) < ((s.size : Nat) : Int) ∧ byteE s 0 = 48))) ↔ ((toL s = [] ∨ 9 < (toL s).length) ∨ (1 < (toL s).length ∧ ((toL s).headD 0).toNat = 48)) := by
  have hl := toL_len s
  have h0 : toL s = [] ↔ s.size = 0 := by rw [← hl, List.length_eq_zero_iff]
  constructor
  · rintro ((h | h) | ⟨h1, h2⟩)
    · exact .inl (.inl (h0.2 (by omega)))
    · exact .inl (.inr (by omega))
    rw [head_at (by omega)] at h2; exact .inr ⟨by omega, by omega⟩
  rintro ((h | h) | ⟨h1, h2⟩)
  · exact .inl (.inl (by have := h0.1 h; omega))
  · exact .inl (.inr (by omega))
  refine .inr ⟨by omega, ?_⟩; rw [head_at (by omega)]; omega
theorem dig_byte {s : ByteArray} {i : Nat} (h : i < (toL s).length) : digB (toL s)[i] = true ↔ ¬ (byteE s ((i : Nat) : Int) < 48 ∨ 57 < byteE s ((i : Nat) : Int)) := by
  rw [byteE_at h]; unfold digB; rw [decide_eq_true_eq]; omega
theorem all_no {s : ByteArray} {i : Nat} (h : i < (toL s).length) (hd : ¬ digB (toL s)[i] = true) : (toL s).all digB = false := by
  cases hc : (toL s).all digB with
  | false => rfl
  | true => exact absurd (List.all_eq_true.1 hc _ (List.getElem_mem h)) hd
theorem all_yes {s : ByteArray} (hd : ∀ c ∈ toL s, digB c = true) : ¬ (toL s).all digB = false := by
  rw [List.all_eq_true.2 hd]; decide
theorem rNum_ok {s : ByteArray} (hs : s.size < 100000) : VF Tryz.prog OA 67 [St s] (.tup [I (numV s), B (numK s)]) := by
  refine VF.enter Tryz.func67 rfl (fun _ _ => rfl) rfl ?_; show VC _ _ _ _ _ [(0, St s)] [] _; refine VC.seq (VC.text ?_); refine VO.c (.assign rfl) (VO.c (.assign rfl) ?_); refine VO.go (VC.seq (VC.seq (VC.text ?_))); have hl := toL_len s; have hh := head_at (s := s); refine VO.c (.move rfl) ?_; refine VO.r (.lenS) ?_; refine VO.c (.eql) (VO.c (.move rfl) ?_); refine VO.cg (r := decide (((s.size : Nat) : Int) = (0 : Int))) (w := false) [] trivial (fun _ => (.move rfl)) ?_; refine VO.rg (r := decide (((s.size : Nat) : Int) = (0 : Int))) (w := false) [(10, St s)] ⟨rfl, trivial⟩ (fun _ => (.lenS)) ?_; refine VO.cg (r := decide (((s.size : Nat) : Int) = (0 : Int))) (w := false) [(11, I ((s.size : Nat) : Int))] ⟨rfl, trivial⟩ (fun _ => (.gtr)) ?_; refine VO.c (.or) (VO.c (.move rfl) ?_); refine VO.splitB (x := 14) rfl (fun g1_8 => ?_) (fun g1_8 => ?_)
  · try simp only [Bool.and_eq_true, Bool.or_eq_true, Bool.and_eq_false_iff, Bool.or_eq_false_iff, Bool.not_eq_true', Bool.not_eq_false', decide_eq_true_eq, decide_eq_false_iff_not] at g1_8
    refine VO.skip (VO.skip (VO.skip (VO.skip ?_))); refine VO.skip (VO.skip (VO.skip (VO.skip ?_))); refine VO.c (.pickT rfl rfl) (VO.go ?_); refine VC.condT rfl ?_; refine VC.seq (VC.text ?_); refine VO.c (.assign rfl) (VO.c (.assign rfl) (VO.go ?_)); refine VC.ret ?_; exact VEnd.two rfl evT evT (pvI (by exact (numK_f (or_assoc.1 (.inl (num_cond.1 (by omega))))).1.symm)) (pvE (by exact (numK_f (or_assoc.1 (.inl (num_cond.1 (by omega))))).2.symm))
  try simp only [Bool.and_eq_true, Bool.or_eq_true, Bool.and_eq_false_iff, Bool.or_eq_false_iff, Bool.not_eq_true', Bool.not_eq_false', decide_eq_true_eq, decide_eq_false_iff_not] at g1_8
  refine VO.c (.move rfl) ?_; refine VO.r (.lenS) ?_; refine VO.c (.gtr) (VO.c (.move rfl) ?_); refine VO.cg (r := decide ((1 : Int) < ((s.size : Nat) : Int))) (w := true) [] trivial (fun _ => (.move rfl)) ?_; refine VO.cg (r := decide ((1 : Int) < ((s.size : Nat) : Int))) (w := true) [(19, St s)] ⟨rfl, trivial⟩ (fun hgd => have g1_12 : (1 : Int) < ((s.size : Nat) : Int) := (by simpa using hgd); (.ixS rfl rfl (by omega) (by omega))) ?_; refine VO.cg (r := decide ((1 : Int) < ((s.size : Nat) : Int))) (w := true) [(20, .v (.int .u8) (byteE s (0 : Int)))] ⟨rfl, trivial⟩ (fun _ => (.eql)) ?_; refine VO.c (.and) (VO.c (.pickF rfl rfl) (VO.go ?_)); refine VC.condB rfl (fun c1 => ?_) (fun c1 => ?_)
  · try simp only [Bool.and_eq_true, Bool.or_eq_true, Bool.and_eq_false_iff, Bool.or_eq_false_iff, Bool.not_eq_true', Bool.not_eq_false', decide_eq_true_eq, decide_eq_false_iff_not] at c1
    refine VC.seq (VC.text ?_); refine VO.c (.assign rfl) (VO.c (.assign rfl) (VO.go ?_)); refine VC.ret ?_; exact VEnd.two rfl evT evT (pvI (by exact (numK_f (or_assoc.1 (.inl (num_cond.1 (by omega))))).1.symm)) (pvE (by exact (numK_f (or_assoc.1 (.inl (num_cond.1 (by omega))))).2.symm))
  try simp only [Bool.and_eq_true, Bool.or_eq_true, Bool.and_eq_false_iff, Bool.or_eq_false_iff, Bool.not_eq_true', Bool.not_eq_false', decide_eq_true_eq, decide_eq_false_iff_not] at c1
  have hq : ¬ ((toL s = [] ∨ 9 < (toL s).length) ∨ (1 < (toL s).length ∧ ((toL s).headD 0).toNat = 48)) := fun h => by have h2 := num_cond.2 h; omega
  refine VC.skip (VC.seq (VC.text ?_)); refine VO.c (.assign rfl) ?_; refine VO.go (VC.seq (VC.seq (VC.text ?_))); refine VO.c (.assign rfl) ?_; refine VO.go (VC.block ?_); refine VC.keep [(0, St s), (4, I ((valL ((toL s).take 0) 0 : Nat) : Int)), (5, I ((0 : Nat) : Int))] ⟨rfl, rfl, rfl, trivial⟩ ?_; refine VC.loop (I := fun kk ff ss => ∃ (i : Nat), kk = s.size - i ∧ ff = [(0, St s), (4, I ((valL ((toL s).take i) 0 : Nat) : Int)), (5, I ((i : Nat) : Int))] ∧ ss = [] ∧ (i ≤ s.size) ∧ (∀ c ∈ (toL s).take i, digB c = true)) ?_ _ _ _ ⟨0, rfl, rfl, rfl, Nat.zero_le _, (by intro c hc; rw [List.take_zero] at hc; cases hc)⟩; rintro kk ff ss ⟨i, hk0, rfl, rfl, hi, hd⟩; refine VC.seq (VC.seq (VC.text ?_)); refine VO.c (.move rfl) (VO.c (.move rfl) ?_); refine VO.r (.lenS) ?_; refine VO.c (.lss) (VO.go ?_); refine VC.condD rfl (fun c5 => ?_) (fun c5 => ?_)
  · have hit : i < (toL s).length := by omega
    have hat := byteE_at hit; have hbr := byteE_range s ((i : Nat) : Int); have hvb := val_b (s := s) (i := i) (by omega) (by omega) hd; have hvt := val_take hit; refine VC.skip (VC.seq (VC.block (VC.seq (VC.seq (VC.text ?_))))); refine VO.c (.move rfl) (VO.c (.move rfl) (VO.c (.ixS rfl rfl (by omega) (by omega)) (VO.c (.lss) ?_))); refine VO.c (.move rfl) ?_; refine VO.cg (r := decide ((byteE s ((i : Nat) : Int)) < (48 : Int))) (w := false) [] trivial (fun _ => (.move rfl)) ?_; refine VO.cg (r := decide ((byteE s ((i : Nat) : Int)) < (48 : Int))) (w := false) [] trivial (fun _ => (.move rfl)) ?_; refine VO.cg (r := decide ((byteE s ((i : Nat) : Int)) < (48 : Int))) (w := false) [(35, St s), (36, I ((i : Nat) : Int))] ⟨rfl, rfl, trivial⟩ (fun hgd => have g7_4 : ¬ ((byteE s ((i : Nat) : Int)) < (48 : Int)) := (by simpa using hgd); (.ixS rfl rfl (by omega) (by omega))) ?_; refine VO.cg (r := decide ((byteE s ((i : Nat) : Int)) < (48 : Int))) (w := false) [(37, .v (.int .u8) (byteE s ((i : Nat) : Int)))] ⟨rfl, trivial⟩ (fun _ => (.gtr)) ?_; refine VO.c (.or) (VO.go ?_); refine VC.condB rfl (fun c7 => ?_) (fun c7 => ?_)
    · try simp only [Bool.and_eq_true, Bool.or_eq_true, Bool.and_eq_false_iff, Bool.or_eq_false_iff, Bool.not_eq_true', Bool.not_eq_false', decide_eq_true_eq, decide_eq_false_iff_not] at c7
      have hno := numK_f (.inr (.inr (all_no hit (fun h => (dig_byte hit).1 h c7)))); refine VC.seq (VC.text ?_); refine VO.c (.assign rfl) (VO.c (.assign rfl) (VO.go ?_)); refine VC.ret ?_; exact VEnd.two rfl evT evT (pvI (by exact hno.1.symm)) (pvE (by exact hno.2.symm))
    try simp only [Bool.and_eq_true, Bool.or_eq_true, Bool.and_eq_false_iff, Bool.or_eq_false_iff, Bool.not_eq_true', Bool.not_eq_false', decide_eq_true_eq, decide_eq_false_iff_not] at c7
    have hdi : digB (toL s)[i] = true := (dig_byte hit).2 (by omega); refine VC.skip (VC.text ?_); refine VO.c (.move rfl) (VO.c (.mul rfl rfl (by omega)) (VO.c (.move rfl) (VO.c (.move rfl) ?_))); refine VO.c (.ixS rfl rfl (by omega) (by omega)) (VO.c (.subK rfl rfl (wrap8 (by omega))) (VO.c (.convI rfl .i64 (by exact wrap64 (by omega) (by omega))) (VO.c (.add rfl rfl (by omega)) ?_))); refine VO.c (.assign rfl) ?_; refine VO.nil (VC.text ?_); refine VO.c (.move rfl) (VO.c (.add rfl rfl (by omega)) (VO.c (.assign rfl) ?_)); refine VO.nil ?_; refine ⟨_, [(0, St s), (4, I ((valL ((toL s).take (i + 1)) 0 : Nat) : Int)), (5, I (((i + 1) : Nat) : Int))], ?_, ⟨rfl, slI rfl (by rw [hvt]; omega), rfl, trivial⟩, (i + 1), rfl, rfl, rfl, (by omega), (by rw [List.take_succ_eq_append_getElem (by omega)]; intro c hc; rcases List.mem_append.1 hc with h | h; exact hd c h; rw [List.mem_singleton.1 h]; exact hdi)⟩; omega
  have hall : (toL s).take i = toL s := List.take_of_length_le (by omega); rw [hall] at hd; have hyes := numK_t (fun h => (or_assoc.2 h).elim hq (all_yes hd)); refine VC.exit (VC.seq (VC.text ?_)); refine VO.c (.move rfl) (VO.c (.assign rfl) (VO.c (.assign rfl) (VO.go ?_))); refine VC.ret ?_; exact VEnd.two rfl evT evT (pvI (by rw [hall]; exact hyes.1.symm)) (pvE (by exact hyes.2.symm))
end Go.Proofs
namespace Go.Fs
variable {P : Program} {σ : Sto} {fl : VL} {x : Operand} {w : Value} {T : TypeId} {h h2 : Heap} {S S' : List Nat} {τ τ' : Ty}
theorem CalmV.nilO {cs : List PV} (hm : (w, Cell.var cs) ∈ σ) (hx : evV fl x = some (.raw w) := by rfl) : CalmV P fl σ (.nilCheck x) (.raw w) :=
  ⟨rfl, fun h S t hs hc => by
    have h1 : evalO t x = w := hs x (by simp [Op.operands]) _ hx; obtain ⟨b, e, vs, h3, _⟩ := hc _ hm; have h3 : w = .pointer (some ⟨b, 0, none⟩) := h3; refine ⟨_, rfl, fun _ _ _ _ _ H => ?_⟩; show (match evalO t x with | .pointer (some a) => some (Value.pointer (some a), H) | .func (.func f) a b => some (.func (.func f) a b, H) | _ => none) = _
    rw [h1, h3]⟩
theorem var_keep {a a' : τ.den} {c c' : τ'.den} (h h2 : Heap) (S : List Nat) (hg : ∀ z ∈ [(w, Cell.var [.v τ a, .v τ' c])], CellR h (own [(w, Cell.var [.v τ a, .v τ' c])] ++ S) z.1 z.2)
    (hs : ∀ z ∈ [(w, Cell.var [.v τ a', .v τ' c'])], CellR h2 (own [(w, Cell.var [.v τ a', .v τ' c'])] ++ S) z.1 z.2)
    (hk : ∀ b' ∈ own [(w, Cell.var [.v τ a, .v τ' c])], h2.get b' = h.get b') (hx : ∀ b o, h.get b = some o → h2.get b = some o) :
    (∀ b' ∈ own [(w, Cell.var [.v τ a', .v τ' c'])], b' ∈ own [(w, Cell.var [.v τ a, .v τ' c])]) ∧ ∀ z ∈ [(w, Cell.var [.v τ a', .v τ' c'])], CellR h (own [(w, Cell.var [.v τ a', .v τ' c'])] ++ S) z.1 z.2 := by
  obtain ⟨b, e, vs, g1, g2, g3, g4, g5⟩ := hg _ List.mem_cons_self; obtain ⟨b2, e2, vs2, s1, s2, s3, s4, s5⟩ := hs _ List.mem_cons_self; have g1 : w = .pointer (some ⟨b, 0, none⟩) := g1; have s1 : w = .pointer (some ⟨b2, 0, none⟩) := s1
  have hb : b2 = b := by
    rw [g1] at s1; injection s1 with s1; injection s1 with s1; injection s1 with s1; exact s1.symm
  subst hb; have h7 := hk b2 (by rw [own_cons]; exact List.mem_append_left _ (by rw [g1]; simp [blk])); rw [s3, g3] at h7; injection h7 with h7; injection h7 with _ h8; subst h8; obtain ⟨u1, r1, rfl, p1, u2, r2, rfl, p2, p3⟩ := g4; obtain ⟨v1, q1, e1, k1, v2, q2, e3, k2, k3⟩ := s4; injection e1 with e1 e4; subst e1 e4; injection e3 with e5 e6; subst e5 e6; obtain rfl : a = a' := RepC.same hx p1.2 k1.2; obtain rfl : c = c' := RepC.same hx p2.2 k2.2; exact ⟨fun _ hb => hb, hg⟩
end Go.Fs
namespace Go.Fs
variable {P : Program} {orc : FuncId → List Value → Heap → Option (Value × Heap)} {τ : Ty}
end Go.Fs
namespace Go.Fs
variable {P : Program} {fl : VL} {σ γ : Sto} {Q : PV → Sto → Prop} {fn : Func} {τ : Ty}
end Go.Fs
namespace Go.Fs
variable {P : Program} {orc : FuncId → List Value → Heap → Option (Value × Heap)} {rnd : Option Nat} {h h' h0 h1 h2 : Heap} {S S' S0 B G : List Nat} {σ σ' : Sto} {t t' : Tr} {ms : List Nat} {fl : VL} {ops : Array Oper} {n : Nat} {l : List Oper} {K : VL → Sto → Prop} {Q : Ex → VL → Sto → Prop}
  {d : Tmp} {ty : TypeId} {pos : String} {after : Array Edge} {op : Op} {v : PV} {g : Option (Nat × Bool)}
end Go.Fs
namespace Go.Fs
variable {P : Program} {orc : FuncId → List Value → Heap → Option (Value × Heap)} {rnd : Option Nat} {h h' h0 h1 h2 : Heap} {S S' S0 B G : List Nat} {σ σ' : Sto} {t t' : Tr} {ms : List Nat} {fl : VL} {ops : Array Oper} {n : Nat} {l : List Oper} {K : VL → Sto → Prop} {Q : Ex → VL → Sto → Prop}
  {d : Tmp} {ty : TypeId} {pos : String} {after : Array Edge} {op : Op} {v : PV} {g : Option (Nat × Bool)} {w : Value} {x : Operand}
theorem step_bts {m : Nat} {s1 d1 : TypeId} {u r : Value} (hu : evalO t x = u) (haf : af u = false) (hs : fsBytes P s1 d1 u h = some r) : stepM P orc m ⟨some d, .convert s1 d1 x, ty, pos, after, g⟩ (evalO t) h = some (r, h) := by
  unfold stepM fsOpM
  have e1 : fsOp P (callOf P orc (fsCode P orc m)) (fsYield (fsCode P orc m)) ⟨some d, .convert s1 d1 x, ty, pos, after, g⟩ (evalO t) h = some (r, h) := by
    show (if af (evalO t x) = true then _ else (fsBytes P s1 d1 (evalO t x) h).map fun v => (v, h)) = _; rw [hu, haf, hs]; rfl
  rw [e1]
theorem afSl (a : Addr) (n k : Nat) : af (Value.slice (some a) n k) = false := by cases n <;> cases k <;> rfl
theorem fsBytes_of {s1 d1 e1 : TypeId} {a : Addr} {n' mk : Nat} {acc : ByteArray} {cs : List Value} (hs : P.underlying s1 = some (.slice e1)) (he : P.underlying e1 = some (.int .u8)) (hd : P.underlying d1 = some .string) (hc : cellsOf 1 n' (.slice (some a) n' mk) h = some cs) (hb : cs = bytesV acc) :
    fsBytes P s1 d1 (.slice (some a) n' mk) h = some (.string acc) := by
  unfold fsBytes; simp only [hs, he, hd, hc, hb, bytesC_V, Option.map_some]
theorem VO.bstr {s1 d1 e1 e : TypeId} {acc : ByteArray} (hx : evV fl x = some (.raw w)) (hm : (w, Cell.row e (.int .u8) (bytesI acc)) ∈ σ) (hp : 0 < acc.size) (hs : P.underlying s1 = some (.slice e1)) (he : P.underlying e1 = some (.int .u8)) (hd : P.underlying d1 = some .string) (hne : s1 ≠ d1)
    (hk : VO P orc ops n l ((d, .v .str acc) :: fl) σ K) (hw : wantV ops fl g = some true := by rfl) (hn : (Nat.blt d n && Nat.ble n 4000) = true := by rfl) :
    VO P orc ops n (⟨some d, .convert s1 d1 x, ty, pos, after, g⟩ :: l) fl σ K := fun h0 G S0 t h ms I => by
  obtain ⟨n1, n2⟩ := fits hn; have hv : evalO t x = w := evV_ok I.slots hx; have hbl := bytesI_len acc; rcases I.cells _ hm with ⟨_, h4⟩ | ⟨b, rs, mm, h3, h4, h5, h6⟩
  · have h4 : bytesI acc = [] := h4; rw [h4] at hbl; simp at hbl; omega
  have h3 : w = .slice (some ⟨b, 0, none⟩) (bytesI acc).length 0 := h3; have hrs := u8_elems h6
  have hrl : rs.length = (bytesI acc).length := by rw [hrs, List.length_map]
  have hcs : cellsOf 1 (bytesI acc).length (.slice (some ⟨b, 0, none⟩) (bytesI acc).length 0) h = some (bytesV acc) := by
    have e2 : Nat.beq ((bytesI acc).length * 1) 0 = false := beq_no (by omega)
    have e3 : Nat.ble (0 + (bytesI acc).length * 1) rs.length = true := by rw [Nat.ble_eq]; omega
    simp only [cellsOf, ble_refl', cond_true, e2, cond_false, h5, e3, List.drop_zero]; rw [List.take_of_length_le (by omega), hrs]; rfl
  have hS : fsBytes P s1 d1 w h = some (.string acc) := by
    rw [h3]; exact fsBytes_of hs he hd hcs rfl
  obtain ⟨m, t2, h2, hr, hq⟩ := hk h0 G S0 _ h ms (I.set (show RepPV h _ (.v .str acc) (.string acc) from RepV.ofStr _) n2); refine ⟨m, t2, h2, ?_, hq⟩
  have haf : af w = false := by rw [h3]; exact afSl _ _ _
  simp only [fsOps, want_ok (o := ⟨some d, .convert s1 d1 x, ty, pos, after, g⟩) I.slots hw, step_bts (orc := orc) (m := m) hv haf hS, put_fits n1 t]; exact hr
end Go.Fs
namespace Go.Proofs
open Go.Fs
set_option maxHeartbeats 1000000
theorem decS_nat {k : Nat} (h : k < 1000000000000000000) : decS ((k : Nat) : Int) = ofL (decL k) := by
  unfold decS; rw [itoaF_nat h]
theorem decS_one {n : Int} (h : 0 ≤ n ∧ n < 10) : bytesI (decS n) = [48 + n] ∧ (decS n).size = 1 := by
  obtain ⟨k, rfl⟩ := Int.eq_ofNat_of_zero_le h.1
  have e : decS ((k : Nat) : Int) = ofL [digO k] := by rw [decS_nat (by omega), decL_lt (by omega)]
  rw [e]; refine ⟨?_, rfl⟩; show [(((digO k).toNat : Nat) : Int)] = _; rw [digO_nat (by omega)]; congr 1
theorem decS_ten {n : Int} (h : 10 ≤ n ∧ n < 1000000000000000000) : decS (n.tdiv 10) ++ decS (n.tmod 10) = decS n := by
  obtain ⟨k, rfl⟩ := Int.eq_ofNat_of_zero_le (show 0 ≤ n by omega)
  have e1 : (((k : Nat) : Int)).tdiv 10 = ((k / 10 : Nat) : Int) := by rw [Int.tdiv_eq_ediv_of_nonneg (by omega)] <;> rfl
  have e2 : (((k : Nat) : Int)).tmod 10 = ((k % 10 : Nat) : Int) := by rw [Int.tmod_eq_emod_of_nonneg (by omega)] <;> rfl
  rw [e1, e2, decS_nat (by omega), decS_nat (by omega), decS_nat (by omega)]; apply toL_inj; rw [toL_app, toL_ofL, toL_ofL, toL_ofL, decL_ge (n := k) (by omega), decL_lt (n := k % 10) (by omega)]
theorem decS_size {n : Int} (h : 0 ≤ n ∧ n < 1000000000000000000) : (decS n).size ≤ 19 := by
  obtain ⟨k, rfl⟩ := Int.eq_ofNat_of_zero_le h.1; rw [decS_nat (by omega), ← toL_len, toL_ofL]; refine dec_len 18 k ?_
  have : (10 : Nat) ^ (18 + 1) = 10000000000000000000 := by decide
  omega
theorem rTextS_ok {n : Int} (h0 : 0 ≤ n ∧ n < 1000000000000000000) (ih : ∀ {m : Int}, 0 ≤ m → m < n → VF Tryz.prog OA 63 [I m] (St (decS m))) : VF Tryz.prog OA 63 [I n] (St (decS n)) := by
  refine VF.enter Tryz.func63 rfl (fun _ _ => rfl) rfl ?_; show VC _ _ _ _ _ [(0, I n)] [] _; refine VC.seq (VC.text ?_); refine VO.c (.assign rfl) ?_; refine VO.go (VC.seq (VC.seq (VC.text ?_))); refine VO.c (.move rfl) (VO.c (.gtr) (VO.go ?_)); refine VC.condD rfl (fun c1 => ?_) (fun c1 => ?_)
  · have hq := Int.tdiv_eq_ediv_of_nonneg (a := n) (b := 10) (by omega); have hr := Int.tmod_eq_emod_of_nonneg (a := n) (b := 10) (by omega); have hs1 := decS_size (n := n.tdiv 10) (by omega); have hs2 := decS_size (n := n.tmod 10) (by omega); refine VC.seq (VC.text ?_); refine VO.c (.move rfl) (VO.c (.quo rfl rfl (by omega) (by omega)) ?_); refine VO.call rfl rfl (VF.call (ih (by omega) (by omega))) ?_; refine VO.c (.move rfl) (VO.c (.rem rfl rfl (by omega)) ?_); refine VO.call rfl rfl (VF.call (ih (by omega) (by omega))) ?_; refine VO.c (.sadd (p := (decS (n.tdiv (10 : Int)))) (q := (decS (n.tmod (10 : Int)))) (by omega)) (VO.c (.assign rfl) (VO.go ?_)); refine VC.ret ?_; exact VEnd.one rfl evT (pvE (by exact decS_ten (n := n) (by omega)))
  refine VC.skip (VC.seq (VC.seq (VC.text ?_))); refine VO.c (.move rfl) (VO.c (.lss) (VO.go ?_)); refine VC.condD rfl (fun c3 => ?_) (fun c3 => ?_)
  · omega
  refine VC.skip (VC.seq (VC.seq (VC.text ?_))); refine VO.c (.move rfl) (VO.c (.lss) (VO.go ?_)); refine VC.condD rfl (fun c5 => ?_) (fun c5 => ?_)
  · omega
  refine VC.skip (VC.seq (VC.text ?_)); have hd1 := decS_one (n := n) (by omega); refine VO.c (.move rfl) (VO.c (.add rfl rfl (by omega)) (VO.c (.convI rfl .u8 (by exact wrap8 (by omega))) ?_)); refine VO.cell (.lit [((48 : Int) + n)] el26) ?_; intro ww1; refine VO.bstr (e1 := 5) (acc := decS n) rfl (by rw [hd1.1]; exact m0) (by omega) (by kernel_rfl) (by kernel_rfl) (by kernel_rfl) (by decide) ?_; refine VO.c (.assign rfl) (VO.go ?_); refine VC.ret ?_; exact VEnd.one rfl evT (pvE (by rfl))
theorem rTextN : ∀ (k : Nat) {n : Int}, 0 ≤ n → n < 1000000000000000000 → n.toNat < k → VF Tryz.prog OA 63 [I n] (St (decS n))
  | 0, n, _, _, h => by omega
  | k + 1, n, h0, h1, h => rTextS_ok ⟨h0, h1⟩ fun {m} hm hn => rTextN k hm (by omega) (by omega)
theorem rText_ok {n : Int} (h : 0 ≤ n ∧ n < 1000000000000000000) : VF Tryz.prog OA 63 [I n] (St (decS n)) := rTextN _ h.1 h.2 (Nat.lt_succ_self _)
end Go.Proofs
namespace Go.Proofs
open Go.Fs
set_option maxHeartbeats 1000000
def spS : ByteArray := ⟨#[32]⟩
def nlS : ByteArray := ⟨#[10]⟩
def wrdA (w : List ByteArray) (k : Nat) : ByteArray := w.getD k ByteArray.empty
theorem wrd_at {W : List ByteArray} {k : Nat} (h : k < W.length) : wrdA W k = W[k] := by simp [wrdA, h]
theorem splS_cut {s : ByteArray} {c : UInt8} (h : 0 ≤ Go.Lib.indexByte (toL s) c) : splS c s = cutA c s :: splS c (cutR c s) := by
  obtain ⟨k, hk⟩ := Int.eq_ofNat_of_zero_le h; unfold cutA cutR; rw [if_neg (by omega), if_neg (by omega), hk, Int.toNat_natCast]; exact splS_idx hk
theorem splS_nocut {s : ByteArray} {c : UInt8} (h : ¬ 0 ≤ Go.Lib.indexByte (toL s) c) : splS c s = [s] := splS_no (by omega)
theorem splS_nil {c : UInt8} : splS c ByteArray.empty = [ByteArray.empty] := rfl
theorem splS_ne {c : UInt8} {s : ByteArray} : splS c s ≠ [] := by
  unfold splS; intro h; exact spl_ne (s := c) (toL s) (List.map_eq_nil_iff.1 h)
theorem cutR_size {s : ByteArray} {c : UInt8} (h : 0 ≤ Go.Lib.indexByte (toL s) c) : (cutR c s).size < s.size := by
  have hlt := idx_lt (s := s) (c := c); unfold cutR; rw [if_neg (by omega)]; have h7 := congrArg List.length (toL_drop s ((Go.Lib.indexByte (toL s) c).toNat + 1)); rw [toL_len, List.length_drop, toL_len] at h7; omega
theorem cutA_size {s : ByteArray} {c : UInt8} : (cutA c s).size ≤ s.size := by
  unfold cutA; split
  · exact Nat.le_refl _
  rw [← toL_len, toL_take, List.length_take, toL_len]; exact Nat.min_le_right _ _
theorem numK_empty : numK ByteArray.empty = false := (numK_f (.inl (.inl rfl))).2
theorem spl_mem {c : UInt8} : ∀ (l : List UInt8), ∀ w ∈ splL c l, w.length ≤ l.length
  | [], w, hw => by
    rw [show splL c [] = [[]] from rfl, List.mem_singleton] at hw
    subst hw; exact Nat.le_refl _
  | x :: r, w, hw => by
    by_cases h : x = c
    · subst h; rw [spl_sep] at hw; rcases List.mem_cons.1 hw with rfl | hw
      · exact Nat.zero_le _
      exact Nat.le_succ_of_le (spl_mem r w hw)
    cases hr : splL c r with
    | nil => exact absurd hr (spl_ne r)
    | cons v l =>
      rw [spl_cons h hr] at hw; have hv := spl_mem r v (by rw [hr]; exact List.mem_cons_self); rcases List.mem_cons.1 hw with rfl | hw
      · simp only [List.length_cons]; omega
      exact Nat.le_succ_of_le (spl_mem r w (by rw [hr]; exact List.mem_cons_of_mem _ hw))
theorem splS_size {c : UInt8} {s : ByteArray} : ∀ w ∈ splS c s, w.size ≤ s.size := fun w hw => by
  obtain ⟨v, hv, rfl⟩ := List.mem_map.1 hw; have h1 := spl_mem (toL s) v hv; rw [toL_len] at h1; rw [← toL_len, toL_ofL]; exact h1
theorem splS_few {c : UInt8} {s : ByteArray} : (splS c s).length ≤ s.size + 1 := by
  rw [splS_len]; have := List.count_le_length (a := c) (l := toL s); rw [toL_len] at this; omega
theorem numL_dec {n : Int} (h : 0 ≤ n ∧ n < 1000000000) : numK (decS n) = true ∧ numV (decS n) = n := by
  obtain ⟨k, rfl⟩ := Int.eq_ofNat_of_zero_le h.1
  have e : (10 : Nat) ^ 9 = 1000000000 := by decide
  have h1 : numL (toL (decS ((k : Nat) : Int))) = some k := by
    rw [decS_nat (by omega), toL_ofL]; exact num_dec (by omega)
  unfold numK numV; rw [h1]; exact ⟨rfl, rfl⟩
theorem dec_num {w : ByteArray} (h : numK w = true) : decS (numV w) = w ∧ 0 ≤ numV w ∧ numV w < 1000000000 := by
  unfold numK at h; obtain ⟨k, hk⟩ := Option.isSome_iff_exists.1 h; have h1 := dec_val hk
  have hlt : k < 1000000000 := by
    have h2 : numL (toL w) = some k := hk; unfold numL at h2; split at h2
    · cases h2
    rename_i hn; obtain rfl := Option.some.inj h2
    have hd : ∀ c ∈ toL w, digB c = true := by
      cases hc : (toL w).all digB with
      | true => exact List.all_eq_true.1 hc
      | false => exact absurd (.inr (.inr hc)) hn
    have h3 := val_lt _ (toL w) rfl hd
    have h4 : (toL w).length ≤ 9 := by
      by_cases h9 : 9 < (toL w).length
      · exact absurd (.inl (.inr h9)) hn
      omega
    have h5 : 10 ^ (toL w).length ≤ 10 ^ 9 := Nat.pow_le_pow_right (by decide) h4
    have e : (10 : Nat) ^ 9 = 1000000000 := by decide
    omega
  unfold numV; rw [hk, Option.getD_some, decS_nat (by omega), h1, ofL_toL]; exact ⟨rfl, by omega, by omega⟩
section
variable {β : Type}
def prsG (f : β → ByteArray → Option β) : List ByteArray → β → Nat → Option β × Nat
  | [], b, i => (some b, i)
  | [x], b, i => if x = ByteArray.empty then (some b, i) else (none, i)
  | x :: y :: r, b, i => match f b x with
    | some b' => prsG f (y :: r) b' (i + 1)
    | none => (none, i)
def runT (f : β → ByteArray → Option β) : β → List ByteArray → Option β
  | b, [] => some b
  | b, x :: r => match f b x with
    | some b' => runT f b' r
    | none => none
variable {f : β → ByteArray → Option β} {b b' : β} {i j : Nat} {x y s : ByteArray} {r L ls : List ByteArray}
theorem prsG_line (h : f b x = some b') : prsG f (x :: y :: r) b i = prsG f (y :: r) b' (i + 1) := by
  show (match f b x with | some b' => _ | none => _) = _; rw [h]
theorem prsG_wrong (h : f b x = none) : prsG f (x :: y :: r) b i = (none, i) := by
  show (match f b x with | some b' => _ | none => _) = _; rw [h]
theorem prsG_last (h : x = ByteArray.empty) : prsG f [x] b i = (some b, i) := if_pos h
theorem prsG_tail (h : x ≠ ByteArray.empty) : prsG f [x] b i = (none, i) := if_neg h
theorem prsG_end : prsG f (splS 10 ByteArray.empty) b i = (some b, i) := by
  rw [splS_nil]; exact prsG_last rfl
theorem prsG_torn (hs : s ≠ ByteArray.empty) (h : ¬ 0 ≤ Go.Lib.indexByte (toL s) 10) : prsG f (splS 10 s) b i = (none, i) := by
  rw [splS_nocut h]; exact prsG_tail hs
theorem prsG_good (h : 0 ≤ Go.Lib.indexByte (toL s) 10) (hb : f b (cutA 10 s) = some b') : prsG f (splS 10 s) b i = prsG f (splS 10 (cutR 10 s)) b' (i + 1) := by
  rw [splS_cut h]
  cases hr : splS 10 (cutR 10 s) with
  | nil => exact absurd hr splS_ne
  | cons y r => exact prsG_line hb
theorem prsG_bad (h : 0 ≤ Go.Lib.indexByte (toL s) 10) (hb : f b (cutA 10 s) = none) : prsG f (splS 10 s) b i = (none, i) := by
  rw [splS_cut h]
  cases hr : splS 10 (cutR 10 s) with
  | nil => exact absurd hr splS_ne
  | cons y r => exact prsG_wrong hb
theorem prsG_d1 (h : i + 1 < L.length) (hb : f b L[i] = some b') : prsG f (L.drop i) b j = prsG f (L.drop (i + 1)) b' (j + 1) := by
  rw [List.drop_eq_getElem_cons (by omega), List.drop_eq_getElem_cons h]; exact prsG_line hb
theorem prsG_d0 (h : i + 1 < L.length) (hb : f b L[i] = none) : prsG f (L.drop i) b j = (none, j) := by
  rw [List.drop_eq_getElem_cons (by omega), List.drop_eq_getElem_cons h]; exact prsG_wrong hb
theorem prsG_e1 (h : i < L.length) (h2 : i + 1 = L.length) (he : L[i] = ByteArray.empty) : prsG f (L.drop i) b j = (some b, j) := by
  rw [List.drop_eq_getElem_cons h, List.drop_eq_nil_of_le (by omega)]; exact prsG_last he
theorem prsG_e0 (h : i < L.length) (h2 : i + 1 = L.length) (he : L[i] ≠ ByteArray.empty) : prsG f (L.drop i) b j = (none, j) := by
  rw [List.drop_eq_getElem_cons h, List.drop_eq_nil_of_le (by omega)]; exact prsG_tail he
theorem prsG_some : ∀ {L : List ByteArray} {b b' : β} {i j : Nat}, L ≠ [] → prsG f L b i = (some b', j) → ∃ ls, L = ls ++ [ByteArray.empty] ∧ runT f b ls = some b' ∧ j = i + ls.length
  | [], _, _, _, _, h, _ => absurd rfl h
  | [x], b, b', i, j, _, h => by
    by_cases hx : x = ByteArray.empty
    · rw [prsG_last hx] at h; injection h with h1 h2; subst hx h2; exact ⟨[], rfl, h1, rfl⟩
    rw [prsG_tail hx] at h; injection h with h1 h2
    cases h1
  | x :: y :: r, b, b', i, j, _, h => by
    cases hf : f b x with
    | none =>
      rw [prsG_wrong hf] at h; injection h with h1 h2
      cases h1
    | some b1 =>
      rw [prsG_line hf] at h; obtain ⟨ls, h1, h2, h3⟩ := prsG_some (by simp) h; refine ⟨x :: ls, by rw [h1]; rfl, ?_, by rw [List.length_cons]; omega⟩; unfold runT; rw [hf]; exact h2
end
def txtG : List ByteArray → ByteArray
  | [] => ByteArray.empty
  | x :: r => (x ++ nlS) ++ txtG r
theorem txtG_app : ∀ {l r : List ByteArray}, txtG (l ++ r) = txtG l ++ txtG r
  | [], r => (ByteArray.empty_append).symm
  | x :: l, r => by
    show (x ++ nlS) ++ txtG (l ++ r) = ((x ++ nlS) ++ txtG l) ++ txtG r; rw [txtG_app, ByteArray.append_assoc, ByteArray.append_assoc, ByteArray.append_assoc]
theorem txtG_one {x : ByteArray} : txtG [x] = x ++ nlS := ByteArray.append_empty
theorem txtG_size_le {l : List ByteArray} {m : Nat} (h : ∀ x ∈ l, x.size ≤ m) : (txtG l).size ≤ (m + 1) * l.length := by
  induction l with
  | nil => simp [txtG]
  | cons x r ih =>
    have h1 := h x List.mem_cons_self; have h2 := ih fun y hy => h y (List.mem_cons_of_mem _ hy); show ((x ++ nlS) ++ txtG r).size ≤ _; rw [ByteArray.size_append, ByteArray.size_append, List.length_cons, Nat.mul_add, Nat.mul_one]; have : nlS.size = 1 := rfl; omega
theorem joi_flat {s : UInt8} : ∀ {r : List (List UInt8)} {w : List UInt8}, joiL s (w :: r) = w ++ r.flatMap fun v => s :: v
  | [], w => by rw [List.flatMap_nil, List.append_nil] <;> rfl
  | v :: r, w => by
    rw [joi_cons (by simp), joi_flat (r := r), List.flatMap_cons] <;> rfl
theorem joinS_one {w : ByteArray} : joinS 32 [w] = w := by
  unfold joinS; rw [List.map_cons, List.map_nil]; exact ofL_toL w
theorem joinS_snoc {ws : List ByteArray} {w : ByteArray} (h : ws ≠ []) : joinS 32 (ws ++ [w]) = (joinS 32 ws ++ spS) ++ w := by
  cases ws with
  | nil => exact absurd rfl h
  | cons a r =>
    apply toL_inj; unfold joinS; rw [toL_app, toL_app, toL_ofL, toL_ofL, List.cons_append, List.map_cons, List.map_cons, joi_flat, joi_flat, List.map_append, List.flatMap_append, List.append_assoc, List.append_assoc]; simp [spS, toL]
end Go.Proofs
namespace Go.Proofs
open Go.Fs
set_option maxHeartbeats 1000000
end Go.Proofs
namespace Go.Proofs
open Ieee
def q16 (n : Int) : Nat := (single.div (single.write (.number (n < 0) n.natAbs 0)) 1098907648).getD 0
def q16B (n : Int) : Bool := decide (lvlE (q16 n) = 0) && decide (sxE (q16 n) = n) && (single.div (single.write (.number (n < 0) n.natAbs 0)) 1098907648).isSome
theorem q16_all : (List.range 2049).all (fun k => q16B ((k : Int) - 1024)) = true := by decide +kernel
theorem q16_ok {n : Int} (h : -1024 ≤ n ∧ n ≤ 1024) : lvlE (q16 n) = 0 ∧ sxE (q16 n) = n ∧ single.div (single.write (.number (n < 0) n.natAbs 0)) 1098907648 = some (q16 n) := by
  have h1 := List.all_eq_true.1 q16_all (n + 1024).toNat (List.mem_range.2 (by omega)); rw [show (((n + 1024).toNat : Nat) : Int) - 1024 = n by omega] at h1; unfold q16B at h1; simp only [Bool.and_eq_true, decide_eq_true_eq] at h1; refine ⟨h1.1.1, h1.1.2, ?_⟩; obtain ⟨r, hr⟩ := Option.isSome_iff_exists.1 h1.2; rw [q16, hr]; rfl
theorem q16_z : q16 0 = 0 := by decide +kernel
end Go.Proofs
namespace Go.Proofs
open Ieee
theorem sg_w : single.signWeight = 2147483648 := by decide
theorem sg_b : single.binade = 8388608 := by decide
theorem sg_i : single.infRung = 2139095040 := by decide
theorem sg_l : single.leastPlace = -149 := by decide
theorem sg_f : single.fractionBits = 23 := rfl
theorem rd_word {s : Bool} {e k : Nat} (he : e ≤ 200) (hk : 8388608 ≤ k ∧ k < 16777216) : single.read (single.word s (e * 8388608 + k)) = .number s k ((e : Int) - 149) := by
  have hr : e * 8388608 + k < 2139095040 := by omega
  have hm : single.word s (e * 8388608 + k) % 2147483648 = e * 8388608 + k := by
    unfold Format.word; rw [sg_w]; cases s <;> simp <;> omega
  have hn : (single.word s (e * 8388608 + k) / 2147483648 % 2 == 1) = s := by
    unfold Format.word; rw [sg_w]; cases s
    · rw [if_neg (by decide), show (e * 8388608 + k) / 2147483648 = 0 by omega]; rfl
    rw [if_pos rfl, show (2147483648 + (e * 8388608 + k)) / 2147483648 = 1 by omega]; rfl
  unfold Format.read; simp only [sg_w, sg_b, sg_i, sg_l, hm, hn]; rw [if_neg (by omega), if_pos hr]
  have h1 : 8388608 + (e * 8388608 + k) % 8388608 = k := by omega
  have h2 : (e * 8388608 + k) / 8388608 - 1 = e := by omega
  rw [h1, h2]; congr 1
theorem cut_0 {s : Bool} {n : Nat} : Toward.even.cut s n 0 = n := by
  unfold Toward.cut; simp; exact ⟨by omega, fun h => by omega⟩
theorem cut_bd {s : Bool} {n d : Nat} (hd : d ≤ n.log2) : n / 2 ^ d ≤ Toward.even.cut s n d ∧ Toward.even.cut s n d ≤ n / 2 ^ d + 1 := by
  unfold Toward.cut
  have hm : min d (n.log2 + 2) = d := by omega
  simp only [hm, Nat.one_shiftLeft]; generalize (decide (2 ^ d < 2 * (n % 2 ^ d)) || 2 ^ d == 2 * (n % 2 ^ d) && n / 2 ^ d % 2 == 1) = b; cases b
  · exact ⟨Nat.le_refl _, Nat.le_succ _⟩
  exact ⟨Nat.le_succ _, Nat.le_refl _⟩
theorem cut_ex {s : Bool} {n d : Nat} (hd : d ≤ (n * 2 ^ d).log2) : Toward.even.cut s (n * 2 ^ d) d = n := by
  unfold Toward.cut
  have hm : min d ((n * 2 ^ d).log2 + 2) = d := by omega
  have hp : 0 < 2 ^ d := Nat.two_pow_pos d; simp only [hm, Nat.one_shiftLeft]; rw [Nat.mul_mod_left, Nat.mul_div_cancel _ hp]
  have : (decide (2 ^ d < 2 * 0) || 2 ^ d == 2 * 0 && n % 2 == 1) = false := by
    have h1 : ¬ 2 ^ d < 2 * 0 := by omega
    have h2 : (2 ^ d == 2 * 0) = false := by simp
    rw [decide_eq_false h1, h2]; rfl
  rw [this]; rfl
theorem lg23 {k : Nat} (hk : 8388608 ≤ k ∧ k < 16777216) : k.log2 = 23 := (Nat.log2_eq_iff (by omega)).2 ⟨hk.1, hk.2⟩
theorem lg26 {k : Nat} (hk : 8388608 ≤ k ∧ k < 16777216) : (8 * k).log2 = 26 := (Nat.log2_eq_iff (by omega)).2 ⟨by show 67108864 ≤ _; omega, by show _ < 134217728; omega⟩
theorem div_word {s : Bool} {e k : Nat} (h1 : 4 ≤ e) (he : e ≤ 200) (hk : 8388608 ≤ k ∧ k < 16777216) : single.div (single.word s (e * 8388608 + k)) 1098907648 = some (single.word s ((e - 4) * 8388608 + k)) := by
  have h16 : single.read 1098907648 = .number false 8388608 (-19) := by decide
  unfold Format.div; rw [rd_word he hk, h16]
  have hq : Datum.quotient (single.fractionBits + 2) (.number s k ((e : Int) - 149)) (.number false 8388608 (-19)) = some (.number s (8 * k) ((e : Int) - 156)) := by
    have hm : 23 + 2 + (8388608 : Nat).log2 - k.log2 = 25 := by rw [lg23 hk]; decide
    show (if (8388608 : Nat) = 0 then (if k = 0 then none else some (Datum.infinity (s ^^ false))) else some (Datum.number (s ^^ false) (2 * ((k <<< (23 + 2 + (8388608 : Nat).log2 - k.log2)) / 8388608) + ((k <<< (23 + 2 + (8388608 : Nat).log2 - k.log2)) % 8388608 != 0).toNat) ((e : Int) - 149 - (-19) - ((23 + 2 + (8388608 : Nat).log2 - k.log2 : Nat) : Int) - 1))) = _; rw [if_neg (by decide), hm, Nat.shiftLeft_eq, show (2 : Nat) ^ 25 = 33554432 by decide, show k * 33554432 / 8388608 = 4 * k by omega, show k * 33554432 % 8388608 = 0 by omega, Bool.xor_false, show 2 * (4 * k) + ((0 : Nat) != 0).toNat = 8 * k by show 2 * (4 * k) + 0 = 8 * k; omega, show ((e : Int) - 149 - (-19) - ((25 : Nat) : Int) - 1) = (e : Int) - 156 by omega]
  rw [hq]; show some (single.nearest s (8 * k) ((e : Int) - 156)) = _; congr 1; unfold Format.nearest; rw [if_neg (by omega)]; simp only [lg26 hk, sg_f, sg_l, sg_b, sg_i]
  have h5 : max ((e : Int) - 156 + ((26 : Nat) : Int) - ((23 : Nat) : Int)) (-149) = (e : Int) - 153 := by omega
  rw [h5]
  have h6 : ((e : Int) - 156 - ((e : Int) - 153)).toNat = 0 := by omega
  have h7 : ((e : Int) - 153 - ((e : Int) - 156)).toNat = 3 := by omega
  rw [h6, h7, Nat.shiftLeft_zero, show 8 * k = k * 2 ^ 3 by omega, cut_ex (by rw [show k * 2 ^ 3 = 8 * k by omega, lg26 hk]; omega)]
  have h8 : ((e : Int) - 153 - -149).toNat = e - 4 := by omega
  rw [h8]; congr 1; omega
theorem units_word {s : Bool} {e k : Nat} (he : e ≤ 200) (hk : 8388608 ≤ k ∧ k < 16777216) : u32 (single.word s (e * 8388608 + k)) = some (sg s (k * 2 ^ e)) := by
  show single.units _ = _; unfold Format.units; rw [rd_word he hk]; simp only [sg_l]; rw [show ((e : Int) - 149 - -149).toNat = e by omega]
theorem wr_int {s : Bool} {m : Nat} (h0 : 1024 < m) (h1 : m < 1073741824) : ∃ e k, single.nearest s m 0 = single.word s (e * 8388608 + k) ∧ 4 ≤ e ∧ e ≤ 200 ∧ (8388608 ≤ k ∧ k < 16777216) ∧ 2 ^ 159 < k * 2 ^ e := by
  have hl0 : 10 ≤ m.log2 := (Nat.le_log2 (by omega)).2 (by show 1024 ≤ m; omega); have hl1 : m.log2 < 30 := (Nat.log2_lt (by omega)).2 (by show m < 1073741824; omega); have hlo : 2 ^ m.log2 ≤ m := Nat.log2_self_le (by omega); have hhi : m < 2 ^ (m.log2 + 1) := Nat.lt_log2_self; unfold Format.nearest; rw [if_neg (by omega)]; simp only [sg_f, sg_l, sg_b, sg_i]; generalize hL : m.log2 = L at *
  have hlast : max ((0 : Int) + ((L : Nat) : Int) - ((23 : Nat) : Int)) (-149) = (L : Int) - 23 := by omega
  rw [hlast]; by_cases hd : L ≤ 23
  · have a1 : ((0 : Int) - ((L : Int) - 23)).toNat = 23 - L := by omega
    have a2 : ((L : Int) - 23 - 0).toNat = 0 := by omega
    have a3 : ((L : Int) - 23 - -149).toNat = L + 126 := by omega
    rw [a1, a2, a3, cut_0, Nat.shiftLeft_eq]
    have e1 : 2 ^ L * 2 ^ (23 - L) = 8388608 := by rw [← Nat.pow_add, show L + (23 - L) = 23 by omega]
    have e2 : 2 ^ (L + 1) * 2 ^ (23 - L) = 16777216 := by rw [← Nat.pow_add, show L + 1 + (23 - L) = 24 by omega]
    have hp : 0 < 2 ^ (23 - L) := Nat.two_pow_pos _; have b1 := Nat.mul_le_mul_right (2 ^ (23 - L)) hlo; have b2 := Nat.mul_lt_mul_of_pos_right hhi hp; rw [e1] at b1; rw [e2] at b2
    have hv : m * 2 ^ (23 - L) * 2 ^ (L + 126) = m * 2 ^ 149 := by rw [Nat.mul_assoc, ← Nat.pow_add, show 23 - L + (L + 126) = 149 by omega]
    refine ⟨L + 126, m * 2 ^ (23 - L), ?_, by omega, by omega, ⟨b1, b2⟩, ?_⟩
    · have b3 : (L + 126) * 8388608 ≤ 149 * 8388608 := Nat.mul_le_mul_right _ (by omega); clear hv; rw [Nat.min_eq_left (Nat.le_trans (Nat.add_le_add b3 (Nat.le_of_lt b2)) (by decide))]
    rw [hv]; have := Nat.mul_lt_mul_of_pos_right h0 (Nat.two_pow_pos 149)
    have hc : (2 : Nat) ^ 159 = 1024 * 2 ^ 149 := by rw [show (1024 : Nat) = 2 ^ 10 by decide, ← Nat.pow_add]
    rw [hc]; exact this
  have a1 : ((0 : Int) - ((L : Int) - 23)).toNat = 0 := by omega
  have a2 : ((L : Int) - 23 - 0).toNat = L - 23 := by omega
  have a3 : ((L : Int) - 23 - -149).toNat = L + 126 := by omega
  rw [a1, a2, a3, Nat.shiftLeft_zero]; obtain ⟨c1, c2⟩ := cut_bd (s := s) (n := m) (d := L - 23) (by omega); have hp : 0 < 2 ^ (L - 23) := Nat.two_pow_pos _
  have e1 : 8388608 * 2 ^ (L - 23) = 2 ^ L := by rw [show (8388608 : Nat) = 2 ^ 23 by decide, ← Nat.pow_add, show 23 + (L - 23) = L by omega]
  have e2 : 16777216 * 2 ^ (L - 23) = 2 ^ (L + 1) := by rw [show (16777216 : Nat) = 2 ^ 24 by decide, ← Nat.pow_add, show 24 + (L - 23) = L + 1 by omega]
  have b1 : 8388608 ≤ m / 2 ^ (L - 23) := (Nat.le_div_iff_mul_le hp).2 (by rw [e1]; exact hlo); have b2 : m / 2 ^ (L - 23) < 16777216 := (Nat.div_lt_iff_lt_mul hp).2 (by rw [e2]; exact hhi); generalize Toward.even.cut s m (L - 23) = k at *
  have big : ∀ e k : Nat, 150 ≤ e → 8388608 ≤ k → 2 ^ 159 < k * 2 ^ e := fun e k he hk => by
    have := Nat.mul_le_mul hk (Nat.pow_le_pow_right (show 0 < 2 by decide) he); exact Nat.lt_of_lt_of_le (by decide) this
  by_cases hk : k < 16777216
  · refine ⟨L + 126, k, ?_, by omega, by omega, ⟨by omega, hk⟩, big _ _ (by omega) (by omega)⟩; congr 1; exact Nat.min_eq_left (by omega)
  refine ⟨L + 127, 8388608, ?_, by omega, by omega, ⟨by omega, by omega⟩, big _ _ (by omega) (by omega)⟩; congr 1; rw [Nat.min_eq_left (by omega)]; omega
theorem q16_big {n : Int} (h0 : 1024 < n.natAbs) (h1 : n.natAbs < 1073741824) : lvlE (q16 n) = 3 ∧ single.div (single.write (.number (n < 0) n.natAbs 0)) 1098907648 = some (q16 n) := by
  obtain ⟨e, k, hw, e1, e2, hk, hb⟩ := wr_int (s := decide (n < 0)) h0 h1; have hw : single.write (.number (n < 0) n.natAbs 0) = single.word (decide (n < 0)) (e * 8388608 + k) := hw; have hd := div_word (s := decide (n < 0)) e1 e2 hk; rw [← hw] at hd
  have hq : q16 n = single.word (decide (n < 0)) ((e - 4) * 8388608 + k) := by unfold q16; rw [hd]; rfl
  refine ⟨?_, by rw [hd, hq]⟩; have hu := units_word (s := decide (n < 0)) (e := e - 4) (by omega) hk; rw [← hq] at hu; unfold lvlE; rw [hu]
  have hz : 2 ^ 155 < k * 2 ^ (e - 4) := by
    have : k * 2 ^ e = k * 2 ^ (e - 4) * 16 := by rw [Nat.mul_assoc, show (16 : Nat) = 2 ^ 4 by decide, ← Nat.pow_add, show e - 4 + 4 = e by omega]
    rw [this] at hb
    have : (2 : Nat) ^ 159 = 2 ^ 155 * 16 := by decide
    omega
  have h155 : (2 : Nat) ^ 155 = 45671926166590716193865151022383844364247891968 := by decide
  rw [h155] at hz; show (if _ then (0 : Int) else 3) = 3; rw [if_neg]; rintro ⟨⟨h2, h3⟩, _⟩; generalize k * 2 ^ (e - 4) = u at *; cases hs : decide (n < 0)
  · rw [hs] at h3; have h3 : ((u : Nat) : Int) ≤ 45671926166590716193865151022383844364247891968 := h3; omega
  rw [hs] at h2; have h2 : -45671926166590716193865151022383844364247891968 ≤ -((u : Nat) : Int) := h2; omega
end Go.Proofs
namespace Go.Fs
variable {P : Program} {h : Heap} {S : List Nat}
variable {fl : VL} {σ : Sto} {x y : Operand} {T T' : TypeId} {τ : Ty}
end Go.Fs
namespace Go.Proofs
open Go.Fs Ieee
set_option maxHeartbeats 1000000
def sgB (s : ByteArray) : Bool := decide (1 < s.size) && decide (byteE s 0 = 45)
def sgR (s : ByteArray) : ByteArray := s.extract 1 s.size
def sgK (s : ByteArray) : Bool := if sgB s = true then numK (sgR s) && decide (0 < numV (sgR s)) else numK s
def sgV (s : ByteArray) : Int := if sgB s = true then 0 - numV (sgR s) else numV s
theorem numV_bd {s : ByteArray} : 0 ≤ numV s ∧ numV s < 1000000000 := by
  cases h : numK s with
  | true => exact (dec_num h).2
  | false =>
    unfold numK at h; unfold numV
    cases hn : numL (toL s) with
    | none => exact ⟨by decide, by decide⟩
    | some v => rw [hn] at h; cases h
theorem sgV_bd {s : ByteArray} : -1000000000 < sgV s ∧ sgV s < 1000000000 := by
  have h1 := numV_bd (s := s); have h2 := numV_bd (s := sgR s); unfold sgV; split <;> omega
theorem sg_t {s : ByteArray} (h1 : 1 < s.size) (h2 : byteE s 0 = 45) : sgB s = true := by
  unfold sgB; rw [decide_eq_true h1, decide_eq_true h2] <;> rfl
theorem rSigned_ok {s : ByteArray} (hs : s.size < 100000) : VF Tryz.prog OA 68 [St s] (.tup [I (sgV s), B (sgK s)]) := by
  refine VF.enter Tryz.func68 rfl (fun _ _ => rfl) rfl ?_; show VC _ _ _ _ _ [(0, St s)] [] _; refine VC.seq (VC.text ?_); refine VO.c (.assign rfl) (VO.c (.assign rfl) ?_); refine VO.go (VC.seq (VC.seq (VC.text ?_))); refine VO.c (.move rfl) ?_; refine VO.r (.lenS) ?_; refine VO.c (.gtr) (VO.c (.move rfl) ?_); refine VO.cg (r := decide ((1 : Int) < ((s.size : Nat) : Int))) (w := true) [] trivial (fun _ => (.move rfl)) ?_; refine VO.cg (r := decide ((1 : Int) < ((s.size : Nat) : Int))) (w := true) [(10, St s)] ⟨rfl, trivial⟩ (fun hgd => have g1_3 : (1 : Int) < ((s.size : Nat) : Int) := (by simpa using hgd); (.ixS rfl rfl (by omega) (by omega))) ?_; refine VO.cg (r := decide ((1 : Int) < ((s.size : Nat) : Int))) (w := true) [(11, .v (.int .u8) (byteE s (0 : Int)))] ⟨rfl, trivial⟩ (fun _ => (.eql)) ?_; refine VO.c (.and) (VO.go ?_); refine VC.condB rfl (fun c1 => ?_) (fun c1 => ?_)
  · try simp only [Bool.and_eq_true, Bool.or_eq_true, Bool.and_eq_false_iff, Bool.or_eq_false_iff, Bool.not_eq_true', Bool.not_eq_false', decide_eq_true_eq, decide_eq_false_iff_not] at c1
    have hb : sgB s = true := sg_t (by omega) (by omega)
    have hz : (s.extract 1 s.size).size < 100000 := by rw [← toL_len, toL_drop, List.length_drop, toL_len]; omega
    have hbd := numV_bd (s := sgR s); refine VC.seq (VC.text ?_); refine VO.c (.move rfl) ?_; refine VO.r (.cutLS (by kernel_rfl) rfl rfl (by omega)) ?_; refine VO.call rfl rfl (VF.call (rNum_ok hz)) ?_; refine VO.c (.move rfl) (VO.c (.extract) (VO.c (.extract) (VO.c (.assign rfl) ?_))); refine VO.c (.assign rfl) ?_; refine VO.go (VC.seq (VC.text ?_)); refine VO.keep [(4, I (numV (sgR s))), (5, B (numK (sgR s)))] ⟨rfl, rfl, trivial⟩ ?_; refine VO.c (.move rfl) (VO.c (.sub rfl rfl (by omega)) (VO.c (.move rfl) (VO.c (.move rfl) ?_))); refine VO.cg (r := numK (s.extract ((1 : Int)).toNat s.size)) (w := true) [] trivial (fun _ => (.move rfl)) ?_; refine VO.cg (r := numK (s.extract ((1 : Int)).toNat s.size)) (w := true) [(24, I (numV (sgR s)))] ⟨rfl, trivial⟩ (fun _ => (.gtr)) ?_; refine VO.c (.and) (VO.c (.assign rfl) (VO.c (.assign rfl) (VO.go ?_))); refine VC.ret ?_; exact VEnd.two rfl evT evT (pvI (by exact (if_pos hb).symm)) (pvE (by exact (if_pos hb).symm))
  try simp only [Bool.and_eq_true, Bool.or_eq_true, Bool.and_eq_false_iff, Bool.or_eq_false_iff, Bool.not_eq_true', Bool.not_eq_false', decide_eq_true_eq, decide_eq_false_iff_not] at c1
  have hb : ¬ sgB s = true := by
    unfold sgB; intro h; simp only [Bool.and_eq_true, decide_eq_true_eq] at h; omega
  refine VC.skip (VC.seq (VC.text ?_)); refine VO.c (.move rfl) ?_; refine VO.call rfl rfl (VF.call (rNum_ok hs)) ?_; refine VO.c (.extract) (VO.c (.extract) (VO.c (.assign rfl) (VO.c (.assign rfl) ?_))); refine VO.go ?_; refine VC.ret ?_; exact VEnd.two rfl evT evT (pvI (by exact (if_neg hb).symm)) (pvE (by exact (if_neg hb).symm))
def lvO (n : Int) : Bool := decide (-1024 ≤ n ∧ n ≤ 1024)
theorem div32E {p q r : Nat} (h : single.div p q = some r) : fopE .quo .f32 p q = some r := h
theorem rLevel_ok {n : Int} : VF Tryz.prog OA 69 [I n] (.tup [.v (.flt .f32) (if lvO n = true then q16 n else 0), B (lvO n)]) := by
  refine VF.enter Tryz.func69 rfl (fun _ _ => rfl) rfl ?_; show VC _ _ _ _ _ [(0, I n)] [] _; refine VC.seq (VC.text ?_); refine VO.c (.assign rfl) (VO.c (.assign rfl) ?_); refine VO.go (VC.seq (VC.seq (VC.text ?_))); refine VO.c (.move rfl) (VO.c (.gtr) (VO.c (.move rfl) ?_)); refine VO.cg (r := decide ((1024 : Int) < n)) (w := false) [] trivial (fun _ => (.move rfl)) ?_; refine VO.cg (r := decide ((1024 : Int) < n)) (w := false) [(7, I n)] ⟨rfl, trivial⟩ (fun _ => (.lss)) ?_; refine VO.c (.or) (VO.go ?_); refine VC.condB rfl (fun c1 => ?_) (fun c1 => ?_)
  · try simp only [Bool.and_eq_true, Bool.or_eq_true, Bool.and_eq_false_iff, Bool.or_eq_false_iff, Bool.not_eq_true', Bool.not_eq_false', decide_eq_true_eq, decide_eq_false_iff_not] at c1
    have hn : lvO n = false := decide_eq_false (by omega); refine VC.seq (VC.text ?_); refine VO.c (.assign rfl) (VO.c (.assign rfl) (VO.go ?_)); refine VC.ret ?_; exact VEnd.two rfl evT evT (pvE (by rw [hn]; rfl)) (pvE (by exact hn.symm))
  try simp only [Bool.and_eq_true, Bool.or_eq_true, Bool.and_eq_false_iff, Bool.or_eq_false_iff, Bool.not_eq_true', Bool.not_eq_false', decide_eq_true_eq, decide_eq_false_iff_not] at c1
  have hr : -1024 ≤ n ∧ n ≤ 1024 := by omega
  have hn : lvO n = true := decide_eq_true hr; have hq := q16_ok hr; refine VC.skip (VC.seq (VC.text ?_)); refine VO.c (.move rfl) (VO.c (.cvIF .f32) (VO.c (.fop (div32E hq.2.2)) (VO.c (.assign rfl) ?_))); refine VO.c (.assign rfl) (VO.go ?_); refine VC.ret ?_; exact VEnd.two rfl evT evT (pvE (by rw [hn]; rfl)) (pvE (by exact hn.symm))
end Go.Proofs
namespace Go.Proofs
open Go.Fs
set_option maxHeartbeats 1000000
theorem decL_dig (n : Nat) : decL n = Lib.decDigits n := by
  induction n using Nat.strongRecOn with
  | _ n ih =>
    by_cases h : n < 10
    · rw [decL_lt h, Lib.decDigits, dif_pos h] <;> rfl
    rw [decL_ge (by omega), Lib.decDigits, dif_neg h, ih (n / 10) (by omega)] <;> rfl
theorem decFrom_val : ∀ {l : List UInt8} {acc : Nat}, (∀ c ∈ l, digB c = true) → Lib.decFrom acc l = some (valL l acc)
  | [], acc, _ => rfl
  | c :: r, acc, h => by
    have hc : 48 ≤ c.toNat ∧ c.toNat ≤ 57 := of_decide_eq_true (h c List.mem_cons_self); have hd : Lib.digitVal c = some (c.toNat - 48) := if_pos hc; show (match Lib.digitVal c with | some d => Lib.decFrom (acc * 10 + d) r | none => none) = _; rw [hd]; show Lib.decFrom (acc * 10 + (c.toNat - 48)) r = _; rw [decFrom_val fun x hx => h x (List.mem_cons_of_mem _ hx), Nat.mul_comm]; rfl
theorem dig_of (n : Nat) : ∀ c ∈ decL n, digB c = true := by
  induction n using Nat.strongRecOn with
  | _ n ih =>
    by_cases h : n < 10
    · rw [decL_lt h]; intro c hc; rw [List.mem_singleton.1 hc]; refine decide_eq_true ?_; rw [digO_nat h]; omega
    rw [decL_ge (by omega)]; intro c hc; rcases List.mem_append.1 hc with hc | hc
    · exact ih (n / 10) (by omega) c hc
    rw [List.mem_singleton.1 hc]; refine decide_eq_true ?_; rw [digO_nat (by omega)]; omega
theorem decL_ne (n : Nat) : decL n ≠ [] := by
  by_cases h : n < 10
  · rw [decL_lt h]; simp
  rw [decL_ge (by omega)]; simp
theorem decNat_dec (n : Nat) : Lib.decNat (decL n) = some n := by
  unfold Lib.decNat
  have : (decL n).isEmpty = false := by
    cases h : decL n with
    | nil => exact absurd h (decL_ne n)
    | cons a r => rfl
  rw [this]; show Lib.decFrom 0 (decL n) = _; rw [decFrom_val (dig_of n), val_dec]
theorem lt_of_len {n m : Nat} (h : (decL n).length ≤ m) : n < 10 ^ m := by
  have h1 := val_lt _ (decL n) rfl (dig_of n); rw [val_dec] at h1; exact Nat.lt_of_lt_of_le h1 (Nat.pow_le_pow_right (by decide) h)
theorem numK_dec {s : ByteArray} : numK s = true ↔ ∃ n : Nat, n < 1000000000 ∧ toL s = decL n := by
  constructor
  · intro h; obtain ⟨h1, h2, h3⟩ := dec_num h; obtain ⟨k, hk⟩ := Int.eq_ofNat_of_zero_le h2; rw [hk] at h1 h3; refine ⟨k, by omega, ?_⟩; rw [← h1, decS_nat (by omega), toL_ofL]
  rintro ⟨n, hn, he⟩
  have : s = decS ((n : Nat) : Int) := by rw [decS_nat (by omega), ← he, ofL_toL]
  rw [this]; exact (numL_dec ⟨by omega, by omega⟩).1
theorem numV_dec {s : ByteArray} {n : Nat} (hn : n < 1000000000) (he : toL s = decL n) : numV s = ((n : Nat) : Int) := by
  have : s = decS ((n : Nat) : Int) := by rw [decS_nat (by omega), ← he, ofL_toL]
  rw [this]; exact (numL_dec ⟨by omega, by omega⟩).2
theorem dec_hd {n : Nat} {b : UInt8} {r : List UInt8} (h : decL n = b :: r) : b ≠ 45 ∧ b ≠ 43 := by
  have hd : 48 ≤ b.toNat ∧ b.toNat ≤ 57 := of_decide_eq_true (dig_of n b (by rw [h]; exact List.mem_cons_self)); refine ⟨fun e => ?_, fun e => ?_⟩ <;> (subst e; exact absurd hd (by decide))
theorem len9 {n : Nat} (h : n < 1000000000) : (decL n).length ≤ 9 := by
  have e : (10 : Nat) ^ (8 + 1) = 1000000000 := by decide
  exact dec_len 8 n (by omega)
theorem ato_nat {s : ByteArray} {n : Nat} (hn : n < 1000000000) (he : toL s = decL n) : atoV s = ((n : Nat) : Int) ∧ atoK s = true := by
  have h9 := len9 hn
  have ha : Lib.atoiAll s.data.toList = .ok ((n : Nat) : Int) := by
    show Lib.atoiAll (toL s) = _; rw [he, Lib.atoiAll_short _ (by omega)]
    cases hl : decL n with
    | nil => exact absurd hl (decL_ne n)
    | cons b r =>
      obtain ⟨h45, h43⟩ := dec_hd hl; have hd := decNat_dec n; rw [hl] at hd; show Lib.NumEnd.ofOption (if b == 45 then _ else if b == 43 then _ else (Lib.decNat (b :: r)).map fun (m : Nat) => (m : Int)) = _; rw [if_neg (by simpa using h45), if_neg (by simpa using h43), hd]; rfl
  refine ⟨by unfold atoV; rw [ha], ?_⟩; unfold atoK; rw [ha]
  have hi : (⟨(Lib.itoa ((n : Nat) : Int)).toArray⟩ : ByteArray) = s := by
    rw [Lib.itoa_nonneg, ← decL_dig, ← he]; exact ofL_toL s
  have hs : noSign s.data.toList = decL n := by
    show noSign (toL s) = _; rw [he]; unfold noSign
    cases hl : decL n with
    | nil => exact absurd hl (decL_ne n)
    | cons b r =>
      obtain ⟨h45, h43⟩ := dec_hd hl; rw [if_neg (by simpa using h45)]
  show (decide ((noSign s.data.toList).length ≤ 9) && decide _) = true; rw [hs, decide_eq_true h9, decide_eq_true hi] <;> rfl
theorem ato_neg {s : ByteArray} {n : Nat} (h1 : 1 ≤ n) (hn : n < 1000000000) (he : toL s = 45 :: decL n) : atoV s = -((n : Nat) : Int) ∧ atoK s = true := by
  have h9 := len9 hn
  have ha : Lib.atoiAll s.data.toList = .ok (-((n : Nat) : Int)) := by
    show Lib.atoiAll (toL s) = _; rw [he, Lib.atoiAll_short _ (by simp; omega)]; show Lib.NumEnd.ofOption (if (45 : UInt8) == 45 then (Lib.decNat (decL n)).map fun (m : Nat) => -(m : Int) else if (45 : UInt8) == 43 then (Lib.decNat (decL n)).map fun (m : Nat) => (m : Int) else (Lib.decNat (45 :: decL n)).map fun (m : Nat) => (m : Int)) = _; rw [if_pos (by decide), decNat_dec]; rfl
  refine ⟨by unfold atoV; rw [ha], ?_⟩; unfold atoK; rw [ha]
  have hi : (⟨(Lib.itoa (-((n : Nat) : Int))).toArray⟩ : ByteArray) = s := by
    rw [Lib.itoa_neg n h1, ← decL_dig, ← he]; exact ofL_toL s
  have hs : noSign s.data.toList = decL n := by
    show noSign (toL s) = _; rw [he]; exact if_pos rfl
  show (decide ((noSign s.data.toList).length ≤ 9) && decide _) = true; rw [hs, decide_eq_true h9, decide_eq_true hi] <;> rfl
theorem ato_inv {s : ByteArray} (h : atoK s = true) : (∃ n : Nat, n < 1000000000 ∧ toL s = decL n) ∨ ∃ n : Nat, 1 ≤ n ∧ n < 1000000000 ∧ toL s = 45 :: decL n := by
  unfold atoK at h; split at h
  · rename_i v hv; simp only [Bool.and_eq_true, decide_eq_true_eq] at h; obtain ⟨h9, hi⟩ := h
    have e10 : (10 : Nat) ^ 9 = 1000000000 := by decide
    by_cases hz : 0 ≤ v
    · obtain ⟨n, rfl⟩ := Int.eq_ofNat_of_zero_le hz
      have hl : toL s = decL n := by
        rw [← hi, Lib.itoa_nonneg, ← decL_dig] <;> rfl
      have hs : noSign s.data.toList = decL n := by
        show noSign (toL s) = _; rw [hl]; unfold noSign
        cases hd : decL n with
        | nil => exact absurd hd (decL_ne n)
        | cons b r =>
          obtain ⟨h45, h43⟩ := dec_hd hd; rw [if_neg (by simpa using h45)]
      rw [hs] at h9; have := lt_of_len h9; exact .inl ⟨n, by omega, hl⟩
    obtain ⟨n, hn⟩ := Int.eq_ofNat_of_zero_le (show 0 ≤ -v by omega)
    obtain rfl : v = -((n : Nat) : Int) := by omega
    have hl : toL s = 45 :: decL n := by
      rw [← hi, Lib.itoa_neg n (by omega), ← decL_dig] <;> rfl
    have hs : noSign s.data.toList = decL n := by
      show noSign (toL s) = _; rw [hl]; exact if_pos rfl
    rw [hs] at h9; have := lt_of_len h9; exact .inr ⟨n, by omega, by omega, hl⟩
  cases h
end Go.Proofs
namespace Go.Proofs
open Go.Fs
set_option maxHeartbeats 1000000
theorem head_byte {s : ByteArray} {c : UInt8} {r : List UInt8} (h : toL s = c :: r) : byteE s 0 = ((c.toNat : Nat) : Int) := by
  have : s = ofL (c :: r) := by rw [← h, ofL_toL]
  subst this; rfl
theorem sgR_toL {s : ByteArray} : toL (sgR s) = (toL s).drop 1 := toL_drop s 1
theorem sgB_t {s : ByteArray} {l : List UInt8} (h : toL s = 45 :: l) (hl : l ≠ []) : sgB s = true := by
  have hz : 1 < s.size := by
    rw [← toL_len, h, List.length_cons]; have := List.length_pos_iff.2 hl; omega
  exact sg_t hz (by rw [head_byte h]; rfl)
theorem sgB_inv {s : ByteArray} (h : sgB s = true) : toL s = 45 :: toL (sgR s) := by
  unfold sgB at h; simp only [Bool.and_eq_true, decide_eq_true_eq] at h; rw [sgR_toL]
  cases hl : toL s with
  | nil =>
    have := h.1; rw [← toL_len, hl] at this
    exact absurd this (by decide)
  | cons c r =>
    have h2 := h.2; rw [head_byte hl] at h2; have : c = 45 := UInt8.toNat_inj.1 (by show c.toNat = 45; omega); rw [this] <;> rfl
theorem sgB_f {s : ByteArray} {n : Nat} (h : toL s = decL n) : ¬ sgB s = true := fun hb => by
  have := sgB_inv hb; rw [h] at this; exact (dec_hd this).1 rfl
theorem sg_nat {s : ByteArray} {n : Nat} (hn : n < 1000000000) (h : toL s = decL n) : sgK s = true ∧ sgV s = ((n : Nat) : Int) := by
  have hb := sgB_f h; unfold sgK sgV; rw [if_neg hb, if_neg hb]; exact ⟨numK_dec.2 ⟨n, hn, h⟩, numV_dec hn h⟩
theorem sg_neg {s : ByteArray} {n : Nat} (h1 : 1 ≤ n) (hn : n < 1000000000) (h : toL s = 45 :: decL n) : sgK s = true ∧ sgV s = -((n : Nat) : Int) := by
  have hb := sgB_t h (decL_ne n)
  have hr : toL (sgR s) = decL n := by rw [sgR_toL, h] <;> rfl
  unfold sgK sgV; rw [if_pos hb, if_pos hb, numK_dec.2 ⟨n, hn, hr⟩, numV_dec hn hr, decide_eq_true (show (0 : Int) < ((n : Nat) : Int) by omega)]; exact ⟨rfl, by omega⟩
theorem sg_inv {s : ByteArray} (h : sgK s = true) : (∃ n : Nat, n < 1000000000 ∧ toL s = decL n) ∨ ∃ n : Nat, 1 ≤ n ∧ n < 1000000000 ∧ toL s = 45 :: decL n := by
  unfold sgK at h; split at h
  · rename_i hb; simp only [Bool.and_eq_true, decide_eq_true_eq] at h; obtain ⟨n, hn, he⟩ := numK_dec.1 h.1; rw [numV_dec hn he] at h; exact .inr ⟨n, by omega, hn, by rw [sgB_inv hb, he]⟩
  exact .inl (numK_dec.1 h)
theorem ato_sg {s : ByteArray} : atoK s = sgK s ∧ (sgK s = true → atoV s = sgV s) := by
  have h2 : sgK s = true → atoK s = true ∧ atoV s = sgV s := fun h => by
    rcases sg_inv h with ⟨n, hn, he⟩ | ⟨n, h1, hn, he⟩
    · obtain ⟨a, b⟩ := ato_nat hn he; exact ⟨b, a.trans (sg_nat hn he).2.symm⟩
    obtain ⟨a, b⟩ := ato_neg h1 hn he; exact ⟨b, a.trans (sg_neg h1 hn he).2.symm⟩
  refine ⟨?_, fun h => (h2 h).2⟩
  cases hs : sgK s with
  | true => exact (h2 hs).1
  | false =>
    cases ha : atoK s with
    | false => rfl
    | true =>
      rcases ato_inv ha with ⟨n, hn, he⟩ | ⟨n, h1, hn, he⟩
      · rw [(sg_nat hn he).1] at hs; cases hs
      rw [(sg_neg h1 hn he).1] at hs; cases hs
theorem ato_num {s : ByteArray} : (atoK s && decide (0 ≤ atoV s)) = numK s ∧ (numK s = true → atoV s = numV s) := by
  have h2 : numK s = true → atoK s = true ∧ atoV s = numV s := fun h => by
    obtain ⟨n, hn, he⟩ := numK_dec.1 h; obtain ⟨a, b⟩ := ato_nat hn he; exact ⟨b, a.trans (numV_dec hn he).symm⟩
  refine ⟨?_, fun h => (h2 h).2⟩
  cases hs : numK s with
  | true =>
    obtain ⟨a, b⟩ := h2 hs
    rw [a, b, decide_eq_true numV_bd.1] <;> rfl
  | false =>
    cases ha : atoK s with
    | false => rfl
    | true =>
      rcases ato_inv ha with ⟨n, hn, he⟩ | ⟨n, h1, hn, he⟩
      · rw [numK_dec.2 ⟨n, hn, he⟩] at hs; cases hs
      rw [(ato_neg h1 hn he).1, decide_eq_false (show ¬ (0 : Int) ≤ -((n : Nat) : Int) by omega)] <;> rfl
end Go.Proofs
namespace Go.Fs
variable {P : Program} {orc : FuncId → List Value → Heap → Option (Value × Heap)} {rnd : Option Nat} {h h' h0 h1 h2 hr : Heap} {S S' S0 B G A : List Nat} {σ σ' σr ρ : Sto} {t t' : Tr} {ms : List Nat} {fl : VL} {ops : Array Oper} {n i mem : Nat} {l : List Oper} {K : VL → Sto → Prop}
  {d : Tmp} {ty : TypeId} {pos : String} {after : Array Edge} {op : Op} {v pv : PV} {g : Option (Nat × Bool)} {x y z : Operand} {T T' e : TypeId} {τ τ' : Ty} {bs nw rd chg : List Nat} {segs : List (Nat × Nat × Nat)} {tail tl : Bool} {w w' : Value}
end Go.Fs
namespace Go.Fs
variable {P : Program} {σ : Sto} {fl : VL} {x y : Operand} {T T' : TypeId} {p q : ByteArray}
end Go.Fs
namespace Go.Fs
variable {P : Program} {orc : FuncId → List Value → Heap → Option (Value × Heap)} {h h1 h2 h' : Heap} {S S0 : List Nat} {σ γ σr : Sto} {fl : VL} {ops : Array Oper} {n : Nat} {l : List Oper} {K : VL → Sto → Prop} {d : Tmp} {ty : TypeId} {pos : String} {after : Array Edge} {g : Option (Nat × Bool)}
section
variable (P orc)
end
end Go.Fs
namespace Go.Fs
variable {P : Program} {h h2 : Heap} {S S' : List Nat} {w : Value} {e e0 e1 e2 : TypeId} {τ τ0 τ1 τ2 : Ty}
end Go.Fs
namespace Go.Fs
variable {P : Program} {orc : FuncId → List Value → Heap → Option (Value × Heap)} {rnd : Option Nat} {h h' h0 h1 h2 : Heap} {S S' S0 S1 S2 B G : List Nat} {σ σ' σr γ : Sto} {t t' : Tr} {ms : List Nat} {fl : VL} {ops : Array Oper} {n i mem : Nat} {l : List Oper} {K : VL → Sto → Prop} {Q : Ex → VL → Sto → Prop} {w : Value} {τ : Ty} {x y : Operand} {T T' : TypeId}
theorem CalmV.eqT {a b : Int} {k : IntKind} (hx : evV fl x = some (.v (.int k) a) := by rfl) (hy : evV fl y = some (.v (.int k) b) := by rfl) (h : a = b) : CalmV P fl σ (.binOp .eql T x y T') (.v .bool true) := by
  have := CalmV.eql (P := P) (σ := σ) (T := T) (T' := T') hx hy
  rwa [decide_eq_true h] at this
theorem CalmV.eqF {a b : Int} {k : IntKind} (hx : evV fl x = some (.v (.int k) a) := by rfl) (hy : evV fl y = some (.v (.int k) b) := by rfl) (h : a ≠ b) : CalmV P fl σ (.binOp .eql T x y T') (.v .bool false) := by
  have := CalmV.eql (P := P) (σ := σ) (T := T) (T' := T') hx hy
  rwa [decide_eq_false h] at this
end Go.Fs
namespace Go.Fs
variable {P : Program} {orc : FuncId → List Value → Heap → Option (Value × Heap)} {rnd : Option Nat} {h h' h0 h1 h2 : Heap} {S S' S0 S1 S2 B G : List Nat} {σ σ' σr γ : Sto}
end Go.Fs
namespace Go.Proofs
open Go.Fs
set_option maxHeartbeats 1000000
abbrev y116 : Ty := (.sl .str)
theorem vt116 : ValT Tryz.prog 116 y116 := valT_of (by kernel_rfl)
theorem sInt_ok {s : ByteArray} (hs : s.size ≤ 1000000000) : VF Tryz.prog OA 61 [St s] (.tup [I (atoV s), B (atoK s)]) := VF.ato fun h => by
  show (bif Nat.ble s.size 1000000000 then some _ else none) = _; rw [show Nat.ble s.size 1000000000 = true by rw [Nat.ble_eq]; exact hs] <;> rfl
theorem tWord_ok {w : Value} {l : List ByteArray} {b : Bool} : VFG Tryz.prog OA 100 [.raw w] [(w, .var [.v (.sl .str) l, B b])] (fun r g => r = St (l.headD ByteArray.empty) ∧ g = [(w, .var [.v (.sl .str) l.tail, B (b || decide (l.headD ByteArray.empty = ByteArray.empty))])]) := by
  refine VFG.enterK Tryz.func100 rfl (fun _ _ => rfl) rfl ?_; show VC _ _ _ _ _ [(0, .raw w)] [(w, .var [.v (.sl .str) l, B b])] _
  match l with
  | [] =>
    refine VC.seq (VC.text ?_); refine VO.c (.assign rfl) ?_; refine VO.go (VC.seq (VC.seq (VC.text ?_))); refine VO.c (.move rfl) (VO.c (.nilO m0) (VO.c (.faO (k := 0) m0) ?_)); refine VO.r (.ldF (k := 0) m0 vt116) ?_; refine VO.r (.len el116) ?_; refine VO.c (.eqT (h := rfl)) (VO.go ?_); refine VC.condT rfl ?_; refine VC.seq (VC.text ?_); refine VO.c (.move rfl) (VO.c (.nilO m0) (VO.c (.faO (k := 1) m0) ?_)); refine VO.setF (cs' := [.v (.sl .str) [], B true]) 1 vt4 .v ?_; refine VO.go (VC.seq (VC.text ?_)); refine VO.c (.assign rfl) (VO.go ?_); refine VC.ret ?_; rw [show (b || decide (([] : List ByteArray).headD ByteArray.empty = ByteArray.empty)) = true by cases b <;> rfl]
    exact ⟨rfl, [St ByteArray.empty], .cons evT .nil, ⟨rfl, rfl⟩, var_keep⟩
  | a :: r =>
    cases b
    · refine VC.seq (VC.text ?_); refine VO.c (.assign rfl) ?_; refine VO.go (VC.seq (VC.seq (VC.text ?_))); refine VO.c (.move rfl) (VO.c (.nilO m0) (VO.c (.faO (k := 0) m0) ?_)); refine VO.r (.ldF (k := 0) m0 vt116) ?_; refine VO.r (.len el116) ?_; refine VO.c (.eqF (h := by simp; omega)) (VO.go ?_); refine VC.condF rfl ?_; refine VC.skip (VC.seq (VC.text ?_)); refine VO.c (.move rfl) (VO.c (.nilO m0) (VO.c (.faO (k := 0) m0) ?_)); refine VO.r (.ldF (k := 0) m0 vt116) ?_; refine VO.c (.ix (j := 0) rfl rfl el116 (by simp)) ?_; refine VO.r (.ld vt9) ?_; refine VO.c (.assign rfl) ?_; refine VO.go (VC.seq (VC.text ?_)); refine VO.c (.move rfl) (VO.c (.move rfl) (VO.c (.nilO m0) (VO.c (.faO (k := 0) m0) ?_))); refine VO.r (.ldF (k := 0) m0 vt116) ?_; refine VO.r (.cutL rfl rfl el116 (by simp; omega)) ?_; refine VO.c (.nilO m0) (VO.c (.faO (k := 0) m0) ?_); refine VO.mk0 (MakeV.setF (k := 0) vt116 .v (Nat.le_of_ble_eq_true rfl) (.inl rfl) rfl rfl) ?_; rintro _ _ ⟨rfl, rfl⟩; refine VO.go (VC.seq (VC.text ?_)); refine VO.c (.move rfl) (VO.c (.move rfl) (VO.c (.nilO m0) (VO.c (.faO (k := 1) m0) ?_))); refine VO.r (.ldF (k := 1) m0 vt4) ?_; refine VO.c (.move rfl) (VO.c (.move rfl) (VO.c (.seql) (VO.c (.pickF rfl rfl) ?_))); refine VO.c (.nilO m0) (VO.c (.faO (k := 1) m0) ?_); refine VO.mk0 (MakeV.setF (k := 1) vt4 .v (Nat.le_of_ble_eq_true rfl) (.inl rfl) rfl rfl) ?_; rintro _ _ ⟨rfl, rfl⟩; refine VO.go (VC.seq (VC.text ?_)); refine VO.c (.move rfl) (VO.c (.assign rfl) (VO.go ?_)); refine VC.ret ?_; exact ⟨rfl, [St a], .cons evT .nil, ⟨rfl, rfl⟩, var_keep⟩
    refine VC.seq (VC.text ?_); refine VO.c (.assign rfl) ?_; refine VO.go (VC.seq (VC.seq (VC.text ?_))); refine VO.c (.move rfl) (VO.c (.nilO m0) (VO.c (.faO (k := 0) m0) ?_)); refine VO.r (.ldF (k := 0) m0 vt116) ?_; refine VO.r (.len el116) ?_; refine VO.c (.eqF (h := by simp; omega)) (VO.go ?_); refine VC.condF rfl ?_; refine VC.skip (VC.seq (VC.text ?_)); refine VO.c (.move rfl) (VO.c (.nilO m0) (VO.c (.faO (k := 0) m0) ?_)); refine VO.r (.ldF (k := 0) m0 vt116) ?_; refine VO.c (.ix (j := 0) rfl rfl el116 (by simp)) ?_; refine VO.r (.ld vt9) ?_; refine VO.c (.assign rfl) ?_; refine VO.go (VC.seq (VC.text ?_)); refine VO.c (.move rfl) (VO.c (.move rfl) (VO.c (.nilO m0) (VO.c (.faO (k := 0) m0) ?_))); refine VO.r (.ldF (k := 0) m0 vt116) ?_; refine VO.r (.cutL rfl rfl el116 (by simp; omega)) ?_; refine VO.c (.nilO m0) (VO.c (.faO (k := 0) m0) ?_); refine VO.mk0 (MakeV.setF (k := 0) vt116 .v (Nat.le_of_ble_eq_true rfl) (.inl rfl) rfl rfl) ?_; rintro _ _ ⟨rfl, rfl⟩; refine VO.go (VC.seq (VC.text ?_)); refine VO.c (.move rfl) (VO.c (.move rfl) (VO.c (.nilO m0) (VO.c (.faO (k := 1) m0) ?_))); refine VO.r (.ldF (k := 1) m0 vt4) ?_; refine VO.c (.move rfl) (VO.skip (VO.skip (VO.c (.pickT rfl rfl) ?_))); refine VO.c (.nilO m0) (VO.c (.faO (k := 1) m0) ?_); refine VO.mk0 (MakeV.setF (k := 1) vt4 .v (Nat.le_of_ble_eq_true rfl) (.inl rfl) rfl rfl) ?_; rintro _ _ ⟨rfl, rfl⟩; refine VO.go (VC.seq (VC.text ?_)); refine VO.c (.move rfl) (VO.c (.assign rfl) (VO.go ?_)); refine VC.ret ?_; exact ⟨rfl, [St a], .cons evT .nil, ⟨rfl, rfl⟩, var_keep⟩
end Go.Proofs
namespace Go.Proofs
open Go.Fs Ieee
set_option maxHeartbeats 40000000
theorem decS_neg {k : Nat} (h : 0 < k) : decS (-(k : Int)) = ⟨#[45]⟩ ++ decS (k : Int) := by
  obtain ⟨j, rfl⟩ : ∃ j, k = j + 1 := ⟨k - 1, by omega⟩; apply toL_inj; rw [toL_app]; unfold decS; rw [toL_ofL, toL_ofL]; rfl
theorem decS_sz {n : Int} (h : -1000000 ≤ n ∧ n ≤ 1000000) : (decS n).size ≤ 20 := by
  by_cases h0 : 0 ≤ n
  · have := decS_size (n := n) ⟨h0, by omega⟩; omega
  obtain ⟨k, rfl⟩ : ∃ k : Nat, n = Int.negSucc k := ⟨n.natAbs - 1, by omega⟩; have h1 := decS_size (n := ((k + 1 : Nat) : Int)) (by omega); unfold decS at h1 ⊢; rw [← toL_len, toL_ofL] at h1 ⊢; show (45 :: digs 20 (k + 1)).length ≤ 20; have e : itoaF ((k + 1 : Nat) : Int) = digs 20 (k + 1) := rfl; rw [e] at h1; rw [List.length_cons]; omega
theorem tdm_neg {k : Nat} : (-(k : Int)).tdiv 10 = -((k / 10 : Nat) : Int) ∧ (-(k : Int)).tmod 10 = -((k % 10 : Nat) : Int) := by
  rw [Int.neg_tdiv, Int.neg_tmod, Int.tdiv_eq_ediv_of_nonneg (by omega), Int.tmod_eq_emod_of_nonneg (by omega)]; exact ⟨rfl, rfl⟩
theorem decS_tenN {k : Nat} (h : 10 ≤ k ∧ k < 1000000000) : decS ((-(k : Int)).tdiv 10) ++ decS (0 - (-(k : Int)).tmod 10) = decS (-(k : Int)) := by
  have h1 := decS_ten (n := (k : Int)) (by omega); rw [Int.tdiv_eq_ediv_of_nonneg (by omega), Int.tmod_eq_emod_of_nonneg (by omega)] at h1; rw [tdm_neg.1, tdm_neg.2, show (0 : Int) - -((k % 10 : Nat) : Int) = ((k : Int) % 10) by omega, decS_neg (by omega), decS_neg (by omega), ByteArray.append_assoc]; congr 1
theorem rTextM_ok {n : Int} (h0 : -1000000 ≤ n ∧ n < 0) (ih : ∀ {m : Int}, n < m → m ≤ 1000000 → VF Tryz.prog OA 63 [I m] (St (decS m))) : VF Tryz.prog OA 63 [I n] (St (decS n)) := by
  refine VF.enter Tryz.func63 rfl (fun _ _ => rfl) rfl ?_; show VC _ _ _ _ _ [(0, I n)] [] _; refine VC.seq (VC.text ?_); obtain ⟨k, hk⟩ : ∃ k : Nat, n = -(k : Int) := ⟨n.natAbs, by omega⟩; obtain ⟨ht, hm⟩ := tdm_neg (k := k); rw [← hk] at ht hm; refine VO.c (.assign rfl) ?_; refine VO.go (VC.seq (VC.seq (VC.text ?_))); refine VO.c (.move rfl) (VO.c (.gtr) (VO.go ?_)); refine VC.condD rfl (fun c1 => ?_) (fun c1 => ?_)
  · omega
  refine VC.skip (VC.seq (VC.seq (VC.text ?_))); refine VO.c (.move rfl) (VO.c (.lss) (VO.go ?_)); refine VC.condD rfl (fun c3 => ?_) (fun c3 => ?_)
  · have hs1 := decS_sz (n := n.tdiv 10) (by omega); have hs2 := decS_sz (n := 0 - n.tmod 10) (by omega); have hj := decS_tenN (k := k) (by omega); rw [← hk] at hj; refine VC.seq (VC.text ?_); refine VO.c (.move rfl) (VO.c (.quo rfl rfl (by omega) (by omega)) ?_); refine VO.call rfl rfl (VF.call (ih (by omega) (by omega))) ?_; refine VO.c (.move rfl) (VO.c (.rem rfl rfl (by omega)) (VO.c (.sub rfl rfl (by omega)) ?_)); refine VO.call rfl rfl (VF.call (ih (by omega) (by omega))) ?_; refine VO.c (.sadd (p := (decS (n.tdiv (10 : Int)))) (q := (decS ((0 : Int) - (n.tmod (10 : Int))))) (by omega)) (VO.c (.assign rfl) (VO.go ?_)); refine VC.ret ?_; exact VEnd.one rfl evT (pvE (by exact hj))
  refine VC.skip (VC.seq (VC.seq (VC.text ?_))); refine VO.c (.move rfl) (VO.c (.lss) (VO.go ?_)); refine VC.condD rfl (fun c5 => ?_) (fun c5 => ?_)
  · have hs3 := decS_sz (n := 0 - n) (by omega); have hj := decS_neg (k := k) (by omega); rw [← hk, show ((k : Nat) : Int) = 0 - n by omega] at hj; refine VC.seq (VC.text ?_); refine VO.c (.move rfl) (VO.c (.sub rfl rfl (by omega)) ?_); refine VO.call rfl rfl (VF.call (ih (by omega) (by omega))) ?_; refine VO.c (.sadd (p := (⟨#[45]⟩)) (q := (decS ((0 : Int) - n))) (by (show 1 + (decS (0 - n)).size ≤ _; omega))) (VO.c (.assign rfl) (VO.go ?_)); refine VC.ret ?_; exact VEnd.one rfl evT (pvE (by exact hj.symm))
  omega
theorem rTextA : ∀ (f : Nat) {n : Int}, -1000000 ≤ n → n ≤ 1000000 → (1000000 - n).toNat < f → VF Tryz.prog OA 63 [I n] (St (decS n))
  | 0, n, _, _, h => by omega
  | f + 1, n, h0, h1, h => by
    by_cases hn : 0 ≤ n
    · exact rText_ok ⟨hn, by omega⟩
    exact rTextM_ok ⟨h0, by omega⟩ fun {m} hm1 hm2 => rTextA f (by omega) hm2 (by omega)
theorem rTextA_ok {n : Int} (h : -1000000 ≤ n ∧ n ≤ 1000000) : VF Tryz.prog OA 63 [I n] (St (decS n)) := rTextA _ h.1 h.2 (Nat.lt_succ_self _)
end Go.Proofs
namespace Go.Proofs
open Go.Fs Ieee
set_option maxHeartbeats 1000000
def gauWd : ByteArray := ⟨#[103, 97, 117, 103, 101]⟩
def dasS : ByteArray := ⟨#[45]⟩
def hdK (W : List ByteArray) : ByteArray := W.headD ByteArray.empty
def hdN (W : List ByteArray) : ByteArray := W.tail.headD ByteArray.empty
def hdT (W : List ByteArray) : ByteArray := W.tail.tail.headD ByteArray.empty
def hdB (W : List ByteArray) : Bool := atoK (hdT W) && (decide (0 ≤ atoV (hdT W)) && (decide (hdK W = gauWd) && (!(((false || decide (hdK W = ByteArray.empty)) || decide (hdN W = ByteArray.empty)) || decide (hdT W = ByteArray.empty)) && decide (W.tail.tail.tail.length = 0))))
theorem atoK_e : atoK ByteArray.empty = false := by rw [ato_sg.1]; decide +kernel
theorem hdB_n {W : List ByteArray} (h : W.length ≠ 3) : hdB W = false := by
  match W with
  | [] => unfold hdB; rw [show hdT [] = ByteArray.empty from rfl, atoK_e] <;> rfl
  | [_] => unfold hdB; rw [show hdT [_] = ByteArray.empty from rfl, atoK_e] <;> rfl
  | [a, b] => unfold hdB; rw [show hdT [a, b] = ByteArray.empty from rfl, atoK_e] <;> rfl
  | [_, _, _] => exact absurd rfl h
  | _ :: _ :: _ :: _ :: _ => unfold hdB; simp
theorem hdB_3 {a b c : ByteArray} : hdB [a, b, c] = (decide (a = gauWd) && (!decide (b = ByteArray.empty) && numK c)) := by
  unfold hdB; rw [show hdT [a, b, c] = c from rfl, show hdN [a, b, c] = b from rfl, show hdK [a, b, c] = a from rfl, ← Bool.and_assoc, ato_num.1]; by_cases hc : numK c = true
  · have hce : c ≠ ByteArray.empty := fun e => by rw [e, numK_empty] at hc; cases hc
    rw [hc]; by_cases ha : a = gauWd
    · have hae : gauWd ≠ ByteArray.empty := by decide
      subst ha; simp [hae, hce]
    simp [ha]
  have hc : numK c = false := by simpa using hc
  rw [hc]; simp
theorem hdB_t {W : List ByteArray} (h3 : W.length = 3) (h0 : wrdA W 0 = gauWd) (h1 : wrdA W 1 ≠ ByteArray.empty) (h2 : numK (wrdA W 2) = true) : hdB W = true ∧ hdN W = wrdA W 1 ∧ atoV (hdT W) = numV (wrdA W 2) := by
  match W, h3 with
  | [a, b, c], _ =>
    have h0 : a = gauWd := h0; have h1 : b ≠ ByteArray.empty := h1; have h2 : numK c = true := h2; refine ⟨?_, rfl, ato_num.2 h2⟩; rw [hdB_3, h2]; simp [h0, h1]
theorem hdB_f {W : List ByteArray} (h : ¬ (W.length = 3 ∧ wrdA W 0 = gauWd ∧ wrdA W 1 ≠ ByteArray.empty ∧ numK (wrdA W 2) = true)) : hdB W = false := by
  by_cases h3 : W.length = 3
  · match W, h3 with
    | [a, b, c], _ =>
      have h : ¬ (3 = 3 ∧ a = gauWd ∧ b ≠ ByteArray.empty ∧ numK c = true) := h; rw [hdB_3]; by_cases ha : a = gauWd
      · by_cases hb : b = ByteArray.empty
        · simp [hb]
        by_cases hc : numK c = true
        · exact absurd ⟨rfl, ha, hb, hc⟩ h
        simp [hc]
      simp [ha]
  exact hdB_n h3
abbrev Gst := Option (ByteArray × Int) × List Bool × List Int
def zG : Gst := (none, [], [])
def hdO (b : Gst) : ByteArray × Int := b.1.getD (ByteArray.empty, 0)
def okG (b : Gst) (x : ByteArray) : Bool := bif b.1.isSome then decide (x = dasS) || atoK x else hdB (splS 32 x)
def nxtG (b : Gst) (x : ByteArray) : Gst := bif b.1.isSome then (if x = dasS then (b.1, b.2.1 ++ [false], b.2.2 ++ [0]) else (b.1, b.2.1 ++ [true], b.2.2 ++ [atoV x])) else (some (hdN (splS 32 x), atoV (hdT (splS 32 x))), b.2.1, b.2.2)
def stpG (b : Gst) (x : ByteArray) : Option Gst := if okG b x = true then some (nxtG b x) else none
theorem stpG_t {b : Gst} {x : ByteArray} (h : okG b x = true) : stpG b x = some (nxtG b x) := if_pos h
theorem stpG_f {b : Gst} {x : ByteArray} (h : okG b x = false) : stpG b x = none := if_neg (by rw [h]; decide)
theorem nxt_0 {b : Gst} {x : ByteArray} (h : b.1.isSome = false) : nxtG b x = (some (hdN (splS 32 x), atoV (hdT (splS 32 x))), b.2.1, b.2.2) := by unfold nxtG; rw [h] <;> rfl
theorem nxt_d {b : Gst} {x : ByteArray} (h : b.1.isSome = true) (hx : x = dasS) : nxtG b x = (b.1, b.2.1 ++ [false], b.2.2 ++ [0]) := by unfold nxtG; rw [h, if_pos hx] <;> rfl
theorem nxt_n {b : Gst} {x : ByteArray} (h : b.1.isSome = true) (hx : ¬ x = dasS) : nxtG b x = (b.1, b.2.1 ++ [true], b.2.2 ++ [atoV x]) := by unfold nxtG; rw [h, if_neg hx] <;> rfl
theorem ok_0 {b : Gst} {x : ByteArray} (h : b.1.isSome = false) : okG b x = hdB (splS 32 x) := by unfold okG; rw [h] <;> rfl
theorem ok_1 {b : Gst} {x : ByteArray} (h : b.1.isSome = true) : okG b x = (decide (x = dasS) || atoK x) := by unfold okG; rw [h] <;> rfl
structure GsI (b : Gst) (i : Nat) : Prop where
  hd : b.1.isSome = decide (0 < i)
  ln : b.2.1.length = i - 1
  nm : b.2.2.length = b.2.1.length
  bd : ∀ n ∈ b.2.2, -1000000000 < n ∧ n < 1000000000
theorem gsI_z : GsI zG 0 := ⟨rfl, rfl, rfl, fun n hn => by cases hn⟩
theorem atoV_bd {s : ByteArray} (h : atoK s = true) : -1000000000 < atoV s ∧ atoV s < 1000000000 := by
  rw [ato_sg.1] at h; rw [ato_sg.2 h]; exact sgV_bd
theorem gsI_n {b : Gst} {i : Nat} {x : ByteArray} (h : GsI b i) (hk : okG b x = true) : GsI (nxtG b x) (i + 1) := by
  obtain ⟨h1, h2, h3, h4⟩ := h
  cases hs : b.1.isSome with
  | false =>
    rw [hs] at h1; have h0 := of_decide_eq_false h1.symm; rw [nxt_0 hs]
    exact ⟨by simp, by show b.2.1.length = _; omega, h3, h4⟩
  | true =>
    rw [hs] at h1; have h0 := of_decide_eq_true h1.symm; by_cases hx : x = dasS
    · rw [nxt_d hs hx]; refine ⟨by rw [hs]; simp, by simp only [List.length_append, List.length_singleton]; omega, by simp only [List.length_append, List.length_singleton]; omega, fun n hn => ?_⟩; rcases List.mem_append.1 hn with hn | hn
      · exact h4 n hn
      rw [List.mem_singleton.1 hn]; omega
    rw [ok_1 hs, decide_eq_false hx, Bool.false_or] at hk; rw [nxt_n hs hx]; refine ⟨by rw [hs]; simp, by simp only [List.length_append, List.length_singleton]; omega, by simp only [List.length_append, List.length_singleton]; omega, fun n hn => ?_⟩; rcases List.mem_append.1 hn with hn | hn
    · exact h4 n hn
    rw [List.mem_singleton.1 hn]; exact atoV_bd hk
def parG (s : ByteArray) : Option Gst × Nat := if s = ByteArray.empty then (none, 0) else prsG stpG (splS 10 s) zG 0
def rcG (b : Gst) : Rec1 := ((hdO b).1, (hdO b).2, b.2.2.map q16, [])
def kepG (f : Nat → Nat) (b : Gst) : Rec1 := ((hdO b).1, (hdO b).2, keptL (rcG b) b.2.1 f b.2.1.length, gapsE b.2.1 b.2.1.length)
def parE (s : ByteArray) : Int := match (parG s).1 with | none => 26 | some b => recE (rcG b)
def parN (s : ByteArray) : Int := match (parG s).1 with | none => (((parG s).2 : Nat) : Int) | some b => if recE (rcG b) ≠ 0 then (((parG s).2 : Nat) : Int) else 0
def parR (f : Nat → Nat) (s : ByteArray) : Rec1 := match (parG s).1 with | none => zRec | some b => if recE (rcG b) ≠ 0 then zRec else kepG f b
section
variable {s : ByteArray} {f : Nat → Nat} {b : Gst} {i : Nat}
theorem parG_e : parG ByteArray.empty = (none, 0) := if_pos rfl
theorem parG_ne (h : s ≠ ByteArray.empty) : parG s = prsG stpG (splS 10 s) zG 0 := if_neg h
theorem par_none (hp : parG s = (none, i)) : parR f s = zRec ∧ parN s = ((i : Nat) : Int) ∧ parE s = 26 := by
  unfold parR parN parE; rw [hp]; exact ⟨rfl, rfl, rfl⟩
theorem par_wrong (hp : parG s = (some b, i)) (hc : recE (rcG b) ≠ 0) : parR f s = zRec ∧ parN s = ((i : Nat) : Int) ∧ parE s = recE (rcG b) := by
  unfold parR parN parE; rw [hp]; exact ⟨if_pos hc, if_pos hc, rfl⟩
theorem par_good (hp : parG s = (some b, i)) (hc : recE (rcG b) = 0) : parR f s = kepG f b ∧ parN s = 0 ∧ parE s = 0 := by
  unfold parR parN parE; rw [hp]; exact ⟨if_neg (fun e => e hc), if_neg (fun e => e hc), hc⟩
end
theorem spans_nil : spansE [] = 0 := by decide
theorem rec_nog {r : Rec1} (hg : r.2.2.2 = []) : recE r = if headE r ≠ 0 then headE r else lvlsE r.2.2.1 := by
  have hb : bodyE r = lvlsE r.2.2.1 := by
    by_cases h : lvlsE r.2.2.1 = 0
    · rw [body_sp h, hg, spans_nil, h]
    exact body_lv h
  have h1 : beyB r = false := by unfold beyB; rw [hg] <;> rfl
  have h2 : fillB r = false := by unfold fillB; rw [hg] <;> rfl
  unfold recE; rw [hb, h1, h2]; by_cases h : headE r ≠ 0
  · rw [if_pos h, if_pos h]
  rw [if_neg h, if_neg h]; by_cases h3 : lvlsE r.2.2.1 ≠ 0
  · rw [if_pos h3]
  rw [if_neg h3, if_neg (by decide)]; rw [Classical.not_not.1 h3] <;> rfl
theorem lv_n {n : Int} (h : -1000000000 < n ∧ n < 1000000000) : lvlE (q16 n) = if lvO n = true then 0 else 3 := by
  by_cases hr : -1024 ≤ n ∧ n ≤ 1024
  · rw [if_pos (show lvO n = true from decide_eq_true hr)]; exact (q16_ok hr).1
  rw [if_neg (by rw [show lvO n = false from decide_eq_false hr]; decide)]; exact (q16_big (by omega) (by omega)).1
theorem same_kept {r : Rec1} {l : List Bool} {n : Nat} (hv : ∀ x ∈ r.2.2.1, lvlE x = 0) : sameLv (keptL r l plusZ n) (keptL r l id n) = true := by
  refine decide_eq_true ⟨by rw [keptL_len, keptL_len], fun i hi => ?_⟩; rw [keptL_len] at hi; rw [getDat (by rw [keptL_len]; exact hi), getDat (by rw [keptL_len]; exact hi), keptL_at hi, keptL_at hi]; by_cases h : i < n ∧ l.getD i false = true
  · rw [if_pos h, if_pos h, getDat hi]; have h1 := hv _ (List.getElem_mem hi); have h2 := (plusZ_ok h1).2.2; have h3 := (lvl_ok h1).1; show fcmpE .neq .f32 (plusZ r.2.2.1[i]) r.2.2.1[i] = false; rw [(fcmp32 (h2.trans h3) h3).2.1]; exact decide_eq_false (by simp)
  rw [if_neg h, if_neg h, (fcmp32 u32_0 u32_0).2.1]; exact decide_eq_false (by simp)
theorem told_par {s : ByteArray} : toldE (parR plusZ s) (parE s) (parE s) (parR id s) = true := by
  have hz : ∀ e : Int, e ≠ 0 → toldE zRec e e zRec = true := fun e he => by
    unfold toldE; rw [if_pos he, decide_eq_true rfl, Bool.and_true]; decide +kernel
  cases hp : parG s with
  | mk o i =>
    cases o with
    | none =>
      obtain ⟨e1, _, e3⟩ := par_none (f := plusZ) hp; obtain ⟨e4, _, _⟩ := par_none (f := id) hp; rw [e1, e3, e4]
      exact hz 26 (by decide)
    | some b =>
      by_cases hc : recE (rcG b) = 0
      · obtain ⟨e1, _, e3⟩ := par_good (f := plusZ) hp hc; obtain ⟨e4, _, _⟩ := par_good (f := id) hp hc; rw [e1, e3, e4]; unfold toldE; rw [if_neg (by decide), decide_eq_true rfl, Bool.true_and]; unfold sameRec kepG; rw [same_kept (rec_ok hc).2.2.2.1, decide_eq_true rfl, decide_eq_true rfl, decide_eq_true rfl] <;> rfl
      obtain ⟨e1, _, e3⟩ := par_wrong (f := plusZ) hp hc; obtain ⟨e4, _, _⟩ := par_wrong (f := id) hp hc; rw [e1, e3, e4]; exact hz _ hc
end Go.Proofs
namespace Go.Proofs
open Go.Fs
set_option maxHeartbeats 1000000
abbrev y155 : Ty := (.pair (.sl .str) .bool)
theorem zt155 : ZerT Tryz.prog 155 y155 := zerT_of (z := .agg #[.slice none 0 0, .bool false]) (by kernel_rfl) rfl rfl
def hdR (W : List ByteArray) : Bool := ((false || decide (hdK W = ByteArray.empty)) || decide (hdN W = ByteArray.empty)) || decide (hdT W = ByteArray.empty)
theorem geqB {P : Program} {σ : Sto} {fl : VL} {T T' : TypeId} {x y : Operand} {k : IntKind} {p q : Int} {b : Bool} (e : decide (q ≤ p) = b) (hx : evV fl x = some (.v (.int k) p) := by rfl) (hy : evV fl y = some (.v (.int k) q) := by rfl) : CalmV P fl σ (.binOp .geq T x y T') (.v .bool b) := by
  subst e; exact CalmV.geq hx hy
theorem bt155 : BldT Tryz.prog 155 y155 [(0, 1), (1, 1)] := bldT_of zt155 rfl (by kernel_rfl)
theorem tWK {w : Value} {W : List ByteArray} {b : Bool} : VFG Tryz.prog OA 100 [.raw w] [(w, .var [.v (.sl .str) W, B b])] (fun r g => r = St (hdK W) ∧ g = [(w, .var [.v (.sl .str) W.tail, B (b || decide (hdK W = ByteArray.empty))])]) := tWord_ok
theorem tWN {w : Value} {W : List ByteArray} {b : Bool} : VFG Tryz.prog OA 100 [.raw w] [(w, .var [.v (.sl .str) W.tail, B b])] (fun r g => r = St (hdN W) ∧ g = [(w, .var [.v (.sl .str) W.tail.tail, B (b || decide (hdN W = ByteArray.empty))])]) := tWord_ok
theorem tWT {w : Value} {W : List ByteArray} {b : Bool} : VFG Tryz.prog OA 100 [.raw w] [(w, .var [.v (.sl .str) W.tail.tail, B b])] (fun r g => r = St (hdT W) ∧ g = [(w, .var [.v (.sl .str) W.tail.tail.tail, B (b || decide (hdT W = ByteArray.empty))])]) := tWord_ok
theorem hdT_size {W : List ByteArray} {m : Nat} (h : ∀ x ∈ W, x.size ≤ m) : (hdT W).size ≤ m := by
  match W with
  | [] => exact Nat.zero_le _
  | [_] => exact Nat.zero_le _
  | [_, _] => exact Nat.zero_le _
  | _ :: _ :: c :: _ => exact h c (by simp)
theorem cHeaded_ok {s : ByteArray} (hs : s.size < 100000) : VF Tryz.prog OA 60 [St s] (.tup [St (hdN (splS 32 s)), I (atoV (hdT (splS 32 s))), B (hdB (splS 32 s))]) := by
  refine VF.enter Tryz.func60 rfl (fun _ _ => rfl) rfl ?_; show VC _ _ _ _ _ [(0, St s)] [] _; have hT : (hdT (splS 32 s)).size ≤ 1000000000 := Nat.le_trans (hdT_size fun x hx => splS_size x hx) (by omega); have hsp := zSplit_ok (s := s) (p := ⟨#[32]⟩) rfl hs; rw [show sepB ⟨#[32]⟩ = 32 from rfl] at hsp; generalize splS 32 s = W at *; refine VC.seq (VC.text ?_); refine VO.c (.assign rfl) (VO.c (.assign rfl) (VO.c (.assign rfl) ?_)); refine VO.go (VC.seq (VC.text ?_)); refine VO.c (.move rfl) ?_; refine VO.call rfl rfl (VF.call hsp) ?_; refine VO.c (.build (W, false) bt155) ?_; refine VO.cell (.box .v) ?_; intro w5; show VO _ _ _ _ _ _ [(w5, .var [.v (.sl .str) W, B false])] _; refine VO.c (.assign rfl) ?_; refine VO.go (VC.seq (VC.text ?_)); refine VO.c (.move rfl) (VO.c (.func) (VO.c (.assign rfl) ?_)); refine VO.go (VC.seq (VC.text ?_)); refine VO.c (.move rfl) ?_; refine VO.callG [(w5, .var [.v (.sl .str) W, B false])] rfl rfl rfl (VFG.clo (a := [.raw w5]) (args := []) (c := []) tWK) ?_; rintro _ _ ⟨rfl, rfl⟩; show VO _ _ _ _ _ _ [(w5, .var [.v (.sl .str) W.tail, B (false || decide (hdK W = ByteArray.empty))])] _; refine VO.c (.assign rfl) ?_; refine VO.go (VC.seq (VC.text ?_)); refine VO.c (.move rfl) ?_; refine VO.callG [(w5, .var [.v (.sl .str) W.tail, B (false || decide (hdK W = ByteArray.empty))])] rfl rfl rfl (VFG.clo (a := [.raw w5]) (args := []) (c := []) tWN) ?_; rintro _ _ ⟨rfl, rfl⟩; show VO _ _ _ _ _ _ [(w5, .var [.v (.sl .str) W.tail.tail, B ((false || decide (hdK W = ByteArray.empty)) || decide (hdN W = ByteArray.empty))])] _; refine VO.c (.assign rfl) ?_; refine VO.go (VC.seq (VC.text ?_)); refine VO.c (.move rfl) ?_; refine VO.callG [(w5, .var [.v (.sl .str) W.tail.tail, B ((false || decide (hdK W = ByteArray.empty)) || decide (hdN W = ByteArray.empty))])] rfl rfl rfl (VFG.clo (a := [.raw w5]) (args := []) (c := []) tWT) ?_; rintro _ _ ⟨rfl, rfl⟩; show VO _ _ _ _ _ _ [(w5, .var [.v (.sl .str) W.tail.tail.tail, B (hdR W)])] _; refine VO.call rfl rfl (VF.call (sInt_ok hT)) ?_; refine VO.c (.move rfl) (VO.c (.extract) (VO.c (.extract) (VO.c (.assign rfl) ?_))); refine VO.c (.assign rfl) (VO.go ?_); have hB : hdB W = (atoK (hdT W) && (decide (0 ≤ atoV (hdT W)) && (decide (hdK W = gauWd) && (!hdR W && decide (W.tail.tail.tail.length = 0))))) := rfl; rw [hB]; generalize atoK (hdT W) = q1; generalize hdR W = q4; refine VC.seq (VC.drawn ?_); refine VD.c (.move rfl) (VD.c (.move rfl) (VD.c (.move rfl) (VD.c (.move rfl) ?_))); cases q1
  · refine VD.skip (VD.skip (VD.c (.pickF rfl rfl) (VD.c (.move rfl) ?_))); refine VD.skip (VD.skip (VD.c (.pickF rfl rfl) (VD.c (.move rfl) ?_))); refine VD.skip (VD.skip (VD.skip (VD.skip ?_))); refine VD.skip (VD.c (.pickF rfl rfl) (VD.c (.move rfl) (VD.skip ?_))); refine VD.skip (VD.skip (VD.skip (VD.skip ?_))); refine VD.skip (VD.c (.pickF rfl rfl) (VD.c (.assign rfl) (VD.c (.assign rfl) ?_))); refine VD.c (.assign rfl) (VD.go ?_); refine VC.ret ?_; exact ⟨rfl, [St (hdN W), I (atoV (hdT W)), B false], .cons evT (.cons evT (.cons evT .nil)), rfl⟩
  refine VD.c (.move rfl) (VD.c (geqB rfl) (VD.c (.pickT rfl rfl) (VD.c (.move rfl) ?_))); by_cases h2 : 0 ≤ atoV (hdT W)
  · rw [decide_eq_true h2]; refine VD.c (.move rfl) (VD.c (.seql) (VD.c (.pickT rfl rfl) (VD.c (.move rfl) ?_))); by_cases h3 : hdK W = gauWd
    · rw [show decide (hdK W = ⟨#[103, 97, 117, 103, 101]⟩) = true from decide_eq_true h3, decide_eq_true h3]; refine VD.co (.move rfl) ?_; refine VD.co (.nilO m0) ?_; refine VD.co (.faO (k := 1) m0) ?_; refine VD.r [(w5, .var [.v (.sl .str) W.tail.tail.tail, B q4])] (.ldF (k := 1) m0 vt4) (.inr ⟨rfl, rfl⟩) (hold := by kernel_rfl) ?_; refine VD.c (.not) (VD.c (.pickT rfl rfl) (VD.c (.move rfl) ?_)); cases q4
      · refine VD.co (.move rfl) ?_; refine VD.co (.nilO m0) ?_; refine VD.co (.faO (k := 0) m0) ?_; refine VD.r [(w5, .var [.v (.sl .str) W.tail.tail.tail, B false])] (.ldF (k := 0) m0 vt116) (.inr ⟨rfl, rfl⟩) (hold := by kernel_rfl) ?_; refine VD.r [] (.len el116) (.inl rfl) (hold := by kernel_rfl) ?_; refine VD.c (.eql) (VD.c (.pickT rfl rfl) (VD.c (.assign rfl) (VD.c (.assign rfl) ?_))); refine VD.c (.assign rfl) (VD.go ?_); refine VC.ret ?_; rw [show decide ((((W.tail.tail.tail.length : Nat) : Int)) = 0) = decide (W.tail.tail.tail.length = 0) by by_cases h : W.tail.tail.tail.length = 0 <;> simp [h]]; exact ⟨rfl, [St (hdN W), I (atoV (hdT W)), B (decide (W.tail.tail.tail.length = 0))], .cons evT (.cons evT (.cons evT .nil)), rfl⟩
      refine VD.skip (VD.skip (VD.skip (VD.skip ?_))); refine VD.skip (VD.skip (VD.c (.pickF rfl rfl) (VD.c (.assign rfl) ?_))); refine VD.c (.assign rfl) (VD.c (.assign rfl) (VD.go ?_)); refine VC.ret ?_; exact ⟨rfl, [St (hdN W), I (atoV (hdT W)), B false], .cons evT (.cons evT (.cons evT .nil)), rfl⟩
    rw [show decide (hdK W = ⟨#[103, 97, 117, 103, 101]⟩) = false from decide_eq_false h3, decide_eq_false h3]; refine VD.skip (VD.skip (VD.skip (VD.skip ?_))); refine VD.skip (VD.c (.pickF rfl rfl) (VD.c (.move rfl) (VD.skip ?_))); refine VD.skip (VD.skip (VD.skip (VD.skip ?_))); refine VD.skip (VD.c (.pickF rfl rfl) (VD.c (.assign rfl) (VD.c (.assign rfl) ?_))); refine VD.c (.assign rfl) (VD.go ?_); refine VC.ret ?_; exact ⟨rfl, [St (hdN W), I (atoV (hdT W)), B false], .cons evT (.cons evT (.cons evT .nil)), rfl⟩
  rw [decide_eq_false h2]; refine VD.skip (VD.skip (VD.c (.pickF rfl rfl) (VD.c (.move rfl) ?_))); refine VD.skip (VD.skip (VD.skip (VD.skip ?_))); refine VD.skip (VD.c (.pickF rfl rfl) (VD.c (.move rfl) (VD.skip ?_))); refine VD.skip (VD.skip (VD.skip (VD.skip ?_))); refine VD.skip (VD.c (.pickF rfl rfl) (VD.c (.assign rfl) (VD.c (.assign rfl) ?_))); refine VD.c (.assign rfl) (VD.go ?_); refine VC.ret ?_; exact ⟨rfl, [St (hdN W), I (atoV (hdT W)), B false], .cons evT (.cons evT (.cons evT .nil)), rfl⟩
end Go.Proofs
namespace Go.Fs
variable {P : Program} {fl : VL} {e : TypeId} {τ : Ty}
def mixP : List Bool → List PV → List PV → List PV
  | b :: bs, x :: xs, y :: ys => (bif b then y else x) :: mixP bs xs ys
  | _, xs, _ => xs
theorem rep_mix {h : Heap} {S : List Nat} : ∀ (bs : List Bool) {xs ys : List PV} {vs : List Value}, RepL h S xs vs → RepL h S ys vs → RepL h S (mixP bs xs ys) vs
  | [], _, _, _, hx, _ => hx
  | _ :: _, [], _, _, hx, _ => hx
  | _ :: _, _ :: _, [], _, hx, _ => hx
  | b :: bs, _ :: _, _ :: _, _, ⟨u, r, e1, x1, x2⟩, ⟨u', r', e2, y1, y2⟩ => by
    rw [e1] at e2; obtain ⟨rfl, rfl⟩ := List.cons.inj e2; refine ⟨u, r, e1, ?_, rep_mix bs x2 y2⟩; cases b
    · exact x1
    exact y1
theorem FreshO.allocM (bs : List Bool) {zs : List PV} (hZ : ZerT P e τ) (hz : mixP bs (cellsPV τ (zeroD τ)) ((zeroC τ).map PV.raw) = zs := by rfl) : FreshO P fl (.alloc e) (.var zs) :=
  ⟨rfl, fun h S t hs hok hS => by
    obtain ⟨z, h1, h2, h3⟩ := hZ.zero; obtain ⟨z1, z2⟩ := zero_rep h S τ; obtain ⟨a1, a2⟩ := af_cells (u := z) (by rw [h2]; exact z2); subst hz; refine ⟨fun k => .pointer (some ⟨k, 0, none⟩), .row e z.cells.toList true false, fun _ => rfl, fun S' hN hm => ?_, fun H _ _ _ _ _ => ?_⟩
    · refine ⟨h.next, e, _, rfl, hm, by rw [Heap.get_push, if_pos rfl], ?_, a2⟩; have hc := (cells_repC z1).nx hN; rw [← h2] at hc ⊢; exact rep_mix bs hc (rep_raws _)
    show (match (P.info? e).bind (·.zero) with | some z => if af z then fsBox e z H else none | none => none) = _; rw [h1]; simp only [a1, if_true]; unfold fsBox
    rw [if_pos a2]⟩
end Go.Fs
