/- Parts of the proof: an evaluator of the model, what it is sound for, and contracts of functions. No condition. -/
import Derived.Test.YthedpadpeakecaaGreatDoorP6
import Derived.Test.YthedpadpeakecaaGreatDoorP4
import Derived.Test.YthedpadpeakecaaGreatDoorP5
import Derived.Lib.AtoiTie
import Derived.Lib.ItoaMem
set_option linter.all false
namespace Go.Proofs
open Go.Fs
set_option maxHeartbeats 1000000
theorem toL_mid (s : ByteArray) (f i : Nat) : toL (s.extract f i) = ((toL s).drop f).take (i - f) := by
  unfold toL; rw [ByteArray.data_extract, Array.toList_extract, List.extract_eq_take_drop]
theorem spl_cut {c : UInt8} {L : List UInt8} {k : Nat} (h : ∀ x ∈ L.take k, x ≠ c) (hk : k < L.length) (hc : L[k] = c) : splL c L = L.take k :: splL c (L.drop (k + 1)) := by
  have e : L = L.take k ++ c :: L.drop (k + 1) := by rw [← hc, ← List.drop_eq_getElem_cons hk, List.take_append_drop]
  have := spl_app (s := c) (w := L.take k) (r := L.drop (k + 1)) h; rw [← e] at this; exact this
theorem byteE_at {s : ByteArray} {i : Nat} (h : i < (toL s).length) : byteE s ((i : Nat) : Int) = ((((toL s)[i]).toNat : Nat) : Int) := by
  rw [byteE_nat]
  have h2 : i < s.data.size := by rw [toL_len] at h; exact h
  show (((s.data[i]!).toNat : Nat) : Int) = _; rw [getElem!_pos s.data i h2]; simp [toL]
def c8 (c : Int) : UInt8 := c.toNat.toUInt8
theorem c8_nat {c : Int} (h : 0 ≤ c ∧ c < 256) : (((c8 c).toNat : Nat) : Int) = c := by
  show (((UInt8.ofNat c.toNat).toNat : Nat) : Int) = c; rw [UInt8.toNat_ofNat']; omega
theorem c8_eq {c : Int} (h : 0 ≤ c ∧ c < 256) {x : UInt8} : (((x.toNat : Nat) : Int) = c) ↔ x = c8 c := by
  constructor
  · intro e; apply UInt8.toNat_inj.1; have := c8_nat h; omega
  rintro rfl; exact c8_nat h
structure SpS (s : ByteArray) (c : UInt8) (i f : Nat) (O : List ByteArray) : Prop where
  in_ : i ≤ (toL s).length → splL c (toL s) = O.map toL ++ splL c ((toL s).drop f) ∧ f ≤ i ∧ ∀ x ∈ ((toL s).drop f).take (i - f), x ≠ c
  out : (toL s).length < i → splL c (toL s) = O.map toL
theorem sps_0 {s : ByteArray} {c : UInt8} : SpS s c 0 0 [] := ⟨fun _ => ⟨rfl, Nat.le_refl _, fun x hx => by simp at hx⟩, fun h => by omega⟩
theorem sps_t {s : ByteArray} {c : UInt8} {i f : Nat} {O : List ByteArray} (h : SpS s c i f O) (hi : i ≤ (toL s).length) (hc : i = (toL s).length ∨ ∃ hk : i < (toL s).length, (toL s)[i] = c) : SpS s c (i + 1) (i + 1) (O ++ [s.extract f i]) := by
  obtain ⟨h1, h2, h3⟩ := h.in_ hi; by_cases he : i = (toL s).length
  · refine ⟨fun h => by omega, fun _ => ?_⟩; have h4 : ((toL s).drop f).take (i - f) = (toL s).drop f := List.take_of_length_le (by rw [List.length_drop]; omega); rw [h4] at h3; rw [h1, spl_word h3, List.map_append, List.map_singleton, toL_mid, h4]
  obtain ⟨hk, hx⟩ := hc.resolve_left he; refine ⟨fun _ => ⟨?_, Nat.le_refl _, fun x hx => by simp at hx⟩, fun h => by omega⟩; have h5 := spl_cut (L := (toL s).drop f) (k := i - f) h3 (by rw [List.length_drop]; omega) (by rw [List.getElem_drop]; simp only [show f + (i - f) = i by omega]; exact hx); rw [h1, h5, List.drop_drop, List.map_append, List.map_singleton, toL_mid, List.append_assoc, show f + (i - f + 1) = i + 1 by omega]; rfl
theorem sps_f {s : ByteArray} {c : UInt8} {i f : Nat} {O : List ByteArray} (h : SpS s c i f O) (hi : i < (toL s).length) (hc : (toL s)[i] ≠ c) : SpS s c (i + 1) f O := by
  obtain ⟨h1, h2, h3⟩ := h.in_ (by omega); refine ⟨fun _ => ⟨h1, by omega, fun x hx => ?_⟩, fun h => by omega⟩; rw [show i + 1 - f = (i - f) + 1 by omega, List.take_succ_eq_append_getElem (by rw [List.length_drop]; omega)] at hx; rcases List.mem_append.1 hx with hx | hx
  · exact h3 x hx
  rw [List.mem_singleton.1 hx, List.getElem_drop]; simp only [show f + (i - f) = i by omega]; exact hc
theorem sps_end {s : ByteArray} {c : UInt8} {i f : Nat} {O : List ByteArray} (h : SpS s c i f O) (hi : (toL s).length < i) : O = splS c s := by
  unfold splS; rw [h.out hi, List.map_map]; exact (List.map_id'' (fun x => rfl) O).symm
theorem sps_len {s : ByteArray} {c : UInt8} {i f : Nat} {O : List ByteArray} (h : SpS s c i f O) : O.length ≤ s.size + 1 := by
  have h0 := spl_len (c := c) (toL s); have hc := List.count_le_length (a := c) (l := toL s); rw [toL_len] at hc; by_cases hi : i ≤ (toL s).length
  · have h1 := congrArg List.length (h.in_ hi).1; rw [List.length_append, List.length_map] at h1; omega
  have h1 := congrArg List.length (h.out (by omega)); rw [List.length_map] at h1; omega
theorem rSplit_ok {s : ByteArray} {c : Int} (hs : s.size < 100000) (hc : 0 ≤ c ∧ c < 256) : VF Tryz.prog OA 17 [St s, .v (.int .u8) c] (.v (.sl .str) (splS (c8 c) s)) := by
  refine VF.enter Tryz.func17 rfl (fun _ _ => rfl) rfl ?_; show VC _ _ _ _ _ [(0, St s), (1, .v (.int .u8) c)] [] _; refine VC.seq (VC.text ?_); have hl := toL_len s; refine VO.c (.assign rfl) ?_; refine VO.go (VC.seq (VC.text ?_)); refine VO.c (.assign rfl) ?_; refine VO.go (VC.seq (VC.text ?_)); refine VO.c (.assign rfl) ?_; refine VO.go (VC.seq (VC.seq (VC.text ?_))); refine VO.c (.assign rfl) ?_; refine VO.go (VC.block ?_); refine VC.cell0 9 .str ?_; refine VC.keep [(0, St s), (1, .v (.int .u8) c), (5, .raw (.slice none 0 0)), (6, I ((0 : Nat) : Int)), (7, I ((0 : Nat) : Int))] ⟨rfl, rfl, rfl, rfl, rfl, trivial⟩ ?_; refine VC.loop (I := fun kk ff ss => ∃ (i : Nat) (f : Nat) (O : List ByteArray) (w : Value), kk = s.size + 1 - i ∧ ff = [(0, St s), (1, .v (.int .u8) c), (5, .raw w), (6, I ((f : Nat) : Int)), (7, I ((i : Nat) : Int))] ∧ ss = [(w, .row 9 .str O)] ∧ (i ≤ s.size + 1) ∧ (SpS s (c8 c) i f O)) ?_ _ _ _ ⟨0, 0, [], (.slice none 0 0), rfl, rfl, rfl, (by omega), (by exact sps_0)⟩; rintro kk ff ss ⟨i, f, O, w, hk0, rfl, rfl, hi, hS⟩; refine VC.seq (VC.seq (VC.text ?_)); refine VO.c (.move rfl) (VO.c (.move rfl) ?_); refine VO.r (.lenS) ?_; refine VO.c (.leq) (VO.go ?_); refine VC.condD rfl (fun c4 => ?_) (fun c4 => ?_)
  · have his : i ≤ s.size := by omega
    have hfi := (hS.in_ (by omega)).2.1; have hol := sps_len hS; refine VC.skip (VC.seq (VC.block (VC.seq (VC.text ?_)))); refine VO.c (.move rfl) (VO.c (.move rfl) ?_); refine VO.r (.lenS) ?_; refine VO.c (.eql) (VO.c (.move rfl) ?_); refine VO.cg (r := decide (((i : Nat) : Int) = ((s.size : Nat) : Int))) (w := false) [] trivial (fun _ => (.move rfl)) ?_; refine VO.cg (r := decide (((i : Nat) : Int) = ((s.size : Nat) : Int))) (w := false) [] trivial (fun _ => (.move rfl)) ?_; refine VO.cg (r := decide (((i : Nat) : Int) = ((s.size : Nat) : Int))) (w := false) [(19, St s), (20, I ((i : Nat) : Int))] ⟨rfl, rfl, trivial⟩ (fun hgd => have g6_4 : ¬ (((i : Nat) : Int) = ((s.size : Nat) : Int)) := (by simpa using hgd); (.ixS rfl rfl (by omega) (by omega))) ?_; refine VO.cg (r := decide (((i : Nat) : Int) = ((s.size : Nat) : Int))) (w := false) [] trivial (fun _ => (.move rfl)) ?_; refine VO.cg (r := decide (((i : Nat) : Int) = ((s.size : Nat) : Int))) (w := false) [(21, .v (.int .u8) (byteE s ((i : Nat) : Int))), (22, .v (.int .u8) c)] ⟨rfl, rfl, trivial⟩ (fun _ => (.eql)) ?_; refine VO.c (.or) (VO.go ?_); refine VC.condB rfl (fun c6 => ?_) (fun c6 => ?_)
    · try simp only [Bool.and_eq_true, Bool.or_eq_true, Bool.and_eq_false_iff, Bool.or_eq_false_iff, Bool.not_eq_true', Bool.not_eq_false', decide_eq_true_eq, decide_eq_false_iff_not] at c6
      have hcc : i = s.size ∨ byteE s ((i : Nat) : Int) = c := by omega
      have hS2 : SpS s (c8 c) (i + 1) (i + 1) (O ++ [s.extract f i]) := by
        refine sps_t hS (by omega) ?_; by_cases h7 : i = (toL s).length
        · exact .inl h7
        refine .inr ⟨by omega, (c8_eq hc).1 ?_⟩; rw [← byteE_at (by omega)]; rcases hcc with h | h
        · exact absurd (h.trans hl.symm) h7
        exact h
      refine VC.seq (VC.text ?_); refine VO.c (.move rfl) (VO.c (.move rfl) (VO.c (.move rfl) (VO.c (.move rfl) ?_))); refine VO.r (.cutLHS (by kernel_rfl) rfl rfl rfl (by omega) (by omega)) ?_; refine VO.new (.lit [(s.extract (((f : Nat) : Int)).toNat (((i : Nat) : Int)).toNat)] el47) ?_; refine VO.app rfl rfl el47 el47 (by simp; omega) ?_; intro ww1; refine VO.c (.assign rfl) ?_; refine VO.go (VC.text ?_); refine VO.c (.move rfl) (VO.c (.add rfl rfl (by omega)) (VO.c (.assign rfl) ?_)); refine VO.nil (VC.text ?_); refine VO.c (.move rfl) (VO.c (.add rfl rfl (by omega)) (VO.c (.assign rfl) ?_)); refine VO.nil ?_; refine ⟨_, [(0, St s), (1, .v (.int .u8) c), (5, .raw ww1), (6, I (((if (i = s.size ∨ byteE s ((i : Nat) : Int) = c) then i + 1 else f) : Nat) : Int)), (7, I (((i + 1) : Nat) : Int))], ?_, ⟨rfl, rfl, rfl, slI rfl (by first | (rw [if_pos hcc]; rfl) | (rw [if_neg hcn])), rfl, trivial⟩, (i + 1), (if (i = s.size ∨ byteE s ((i : Nat) : Int) = c) then i + 1 else f), (if (i = s.size ∨ byteE s ((i : Nat) : Int) = c) then O ++ [s.extract f i] else O), ww1, rfl, rfl, (by first | (rw [if_pos hcc]; rfl) | (rw [if_neg hcn])), (by omega), (by first | (rw [if_pos hcc, if_pos hcc]; exact hS2) | (rw [if_neg hcn, if_neg hcn]; exact hS2))⟩; omega
    try simp only [Bool.and_eq_true, Bool.or_eq_true, Bool.and_eq_false_iff, Bool.or_eq_false_iff, Bool.not_eq_true', Bool.not_eq_false', decide_eq_true_eq, decide_eq_false_iff_not] at c6
    have hcn : ¬ (i = s.size ∨ byteE s ((i : Nat) : Int) = c) := by omega
    have hlt : i < (toL s).length := by omega
    have hS2 := sps_f hS hlt (fun e => hcn (.inr (by rw [byteE_at hlt]; exact (c8_eq hc).2 e))); refine VC.skip (VC.text ?_); refine VO.c (.move rfl) (VO.c (.add rfl rfl (by omega)) (VO.c (.assign rfl) ?_)); refine VO.nil ?_; refine ⟨_, [(0, St s), (1, .v (.int .u8) c), (5, .raw w), (6, I (((if (i = s.size ∨ byteE s ((i : Nat) : Int) = c) then i + 1 else f) : Nat) : Int)), (7, I (((i + 1) : Nat) : Int))], ?_, ⟨rfl, rfl, rfl, slI rfl (by first | (rw [if_pos hcc]; rfl) | (rw [if_neg hcn])), rfl, trivial⟩, (i + 1), (if (i = s.size ∨ byteE s ((i : Nat) : Int) = c) then i + 1 else f), (if (i = s.size ∨ byteE s ((i : Nat) : Int) = c) then O ++ [s.extract f i] else O), w, rfl, rfl, (by first | (rw [if_pos hcc]; rfl) | (rw [if_neg hcn])), (by omega), (by first | (rw [if_pos hcc, if_pos hcc]; exact hS2) | (rw [if_neg hcn, if_neg hcn]; exact hS2))⟩; omega
  refine VC.exit (VC.seq (VC.text ?_)); refine VO.c (.move rfl) (VO.c (.assign rfl) (VO.go ?_)); refine VC.ret ?_; exact VEnd.one rfl (evC (.row m0)) (pvE (by exact sps_end hS (by omega)))
end Go.Proofs
namespace Go.Fs
variable {P : Program} {orc : FuncId → List Value → Heap → Option (Value × Heap)} {h : Heap} {S : List Nat}
theorem digs_dec : ∀ (f n : Nat), n < 10 ^ (f + 1) → digs (f + 1) n = decL n
  | f, n, h => by
    unfold digs
    cases hb : Nat.blt n 10 with
    | true => rw [decL_lt (nblt hb)]; rfl
    | false =>
      have h1 : 10 ≤ n := by have := nble_no hb; omega
      rw [decL_ge h1]; simp only [cond_false]
      cases f with
      | zero => simp at h; omega
      | succ f => rw [digs_dec f (n / 10) (by rw [Nat.pow_succ] at h; omega)]; rfl
theorem itoaF_nat {k : Nat} (h : k < 1000000000000000000) : itoaF ((k : Nat) : Int) = decL k := by
  show digs 20 k = _; refine digs_dec 19 k ?_
  have : (10 : Nat) ^ (19 + 1) = 100000000000000000000 := by decide
  omega
theorem joinF_one {c : UInt8} : ∀ l : List (List UInt8), joinF [c] l = joiL c l
  | [] => rfl
  | [w] => rfl
  | w :: v :: r => by
    show w ++ [c] ++ joinF [c] (v :: r) = w ++ c :: joiL c (v :: r); rw [joinF_one (v :: r), List.append_assoc]; rfl
theorem strs_ofs : ∀ l : List ByteArray, strs (l.map .string) = some l
  | [] => rfl
  | s :: r => by
    show (strs (r.map .string)).map (s :: ·) = _; rw [strs_ofs r]; rfl
theorem VF.itoa {f : FuncId} {n : Int} (hO : ∀ us h, orc f us h = (match us with | [.int .i64 n] => bif decide (-1000000000000000000 < n) && decide (n < 1000000000000000000) then some (.string ⟨(itoaF n).toArray⟩, h) else none | _ => none)) (h0 : -1000000000000000000 < n) (h1 : n < 1000000000000000000) :
    VF P orc f [.v (.int .i64) n] (.v .str (ofL (itoaF n))) := fun h S us hok hS hr => by
  obtain ⟨u, r, rfl, h2, h3⟩ := hr; obtain rfl : r = [] := h3; obtain rfl := RepV.int h2
  have ho : orc f [.int .i64 n] h = some (.string ⟨(itoaF n).toArray⟩, h) := by
    rw [hO]; simp only [decide_eq_true h0, decide_eq_true h1, Bool.and_self, cond_true]
  exact EvF.oracle ho ⟨Aft.refl _ _, RepV.ofStr _, fun _ => rfl⟩
theorem VF.join {f : FuncId} {ss : List ByteArray} {sep : ByteArray} (hO : ∀ us h, orc f us h = (match us with
    | [.slice (some ⟨b, o, none⟩) n _, .string sep] =>
      match h.get b with
      | some (.row _ cs _ _) =>
        bif Nat.ble (o + n) cs.length && Nat.ble n 1000000 then
          match strs ((cs.drop o).take n) with
          | some ss => let r := joinF sep.data.toList (ss.map (·.data.toList))
            bif Nat.ble r.length 1000000000 then some (.string ⟨r.toArray⟩, h) else none
          | none => none
        else none
      | _ => none
    | _ => none)) (h0 : 0 < ss.length) (h1 : ss.length ≤ 1000000) (h2 : (joinF (toL sep) (ss.map toL)).length ≤ 1000000000) :
    VF P orc f [.v (.sl .str) ss, .v .str sep] (.v .str (ofL (joinF (toL sep) (ss.map toL)))) := fun h S us hok hS hr => by
  obtain ⟨u, r, rfl, g1, u2, r2, rfl, g2, g3⟩ := hr; obtain rfl : r2 = [] := g3; obtain rfl := RepV.str g2; obtain ⟨b, o, mk, e', rs, own, more, rfl, hb, hg, hl, hel⟩ := (RepV.sl g1).row h0; have hl : o + ss.length * 1 ≤ rs.length := hl
  have hcs : (rs.drop o).take ss.length = ss.map .string := by
    refine List.ext_getElem (by simp; omega) fun i k1 k2 => ?_
    have hi : i < ss.length := by simpa using k2
    have h4 : (rs.drop (o + i * 1)).take 1 = [.string ss[i]] := hel i hi; rw [Nat.mul_one, List.drop_eq_getElem_cons (by omega)] at h4; have h5 := (List.cons.inj h4).1; rw [List.getElem_take, List.getElem_drop, List.getElem_map]; exact h5
  have ho : orc f [.slice (some ⟨b, o, none⟩) ss.length mk, .string sep] h = some (.string ⟨(joinF (toL sep) (ss.map toL)).toArray⟩, h) := by
    rw [hO]
    have e1 : Nat.ble (o + ss.length) rs.length = true := by rw [Nat.ble_eq]; omega
    have e2 : Nat.ble ss.length 1000000 = true := by rw [Nat.ble_eq]; exact h1
    have e3 : Nat.ble (joinF sep.data.toList (ss.map (·.data.toList))).length 1000000000 = true := by rw [Nat.ble_eq]; exact h2
    simp only [hg, e1, e2, Bool.and_self, cond_true, hcs, strs_ofs, e3]; rfl
  exact EvF.oracle ho ⟨Aft.refl _ _, RepV.ofStr _, fun _ => rfl⟩
end Go.Fs
namespace Go.Fs
variable {P : Program} {σ : Sto} {fl : VL} {x y : Operand} {T T' : TypeId} {k : IntKind} {p q : Int}
end Go.Fs
namespace Go.Proofs
open Go.Fs
set_option maxHeartbeats 1000000
def decS (n : Int) : ByteArray := ofL (itoaF n)
theorem zItoaI_ok {n : Int} (h : -1000000000000000000 < n ∧ n < 1000000000000000000) : VF Tryz.prog OA 132 [I n] (St (decS n)) := VF.itoa (fun us h => rfl) h.1 h.2
theorem zItoa_ok {n : Int} (h : -1000000000000000000 < n ∧ n < 1000000000000000000) : VF Tryz.prog OA 87 [I n] (St (decS n)) := by
  refine VF.enter Tryz.func87 rfl (fun _ _ => rfl) rfl ?_; show VC _ _ _ _ _ [(0, I n)] [] _; refine VC.seq (VC.text ?_); refine VO.c (.assign rfl) ?_; refine VO.go (VC.seq (VC.text ?_)); refine VO.c (.move rfl) ?_; refine VO.call rfl rfl (VF.call (zItoaI_ok h)) ?_; refine VO.c (.assign rfl) (VO.go ?_); refine VC.ret ?_; exact VEnd.one rfl evT (pvE (by rfl))
def joinS (c : UInt8) (ss : List ByteArray) : ByteArray := ofL (joiL c (ss.map toL))
theorem zJoin_ok {ss : List ByteArray} {p : ByteArray} (hp : p.size = 1) (h0 : 0 < ss.length) (h1 : ss.length ≤ 1000000) (h2 : (joiL (sepB p) (ss.map toL)).length ≤ 1000000000) : VF Tryz.prog OA 32 [.v (.sl .str) ss, St p] (St (joinS (sepB p) ss)) := by
  obtain ⟨c, rfl⟩ := one_byte hp; have e : joinF (toL (ofL [c])) (ss.map toL) = joiL (sepB (ofL [c])) (ss.map toL) := joinF_one _; have h := VF.join (P := Tryz.prog) (orc := OA) (f := 32) (ss := ss) (sep := ofL [c]) (fun us h => rfl) h0 h1 (by rw [e]; exact h2); rw [e] at h; exact h
def numV (s : ByteArray) : Int := (((numL (toL s)).getD 0 : Nat) : Int)
def numK (s : ByteArray) : Bool := (numL (toL s)).isSome
theorem numK_f {s : ByteArray} (h : (toL s = [] ∨ 9 < (toL s).length) ∨ (1 < (toL s).length ∧ ((toL s).headD 0).toNat = 48) ∨ (toL s).all digB = false) : numV s = 0 ∧ numK s = false := by
  have e : numL (toL s) = none := if_pos h; unfold numV numK; rw [e]; exact ⟨rfl, rfl⟩
theorem val_lt : ∀ (k : Nat) (w : List UInt8), w.length = k → (∀ c ∈ w, digB c = true) → valL w 0 < 10 ^ k
  | 0, w, hk, _ => by
    obtain rfl := List.eq_nil_of_length_eq_zero hk
    decide
  | k + 1, w, hk, hd => by
    obtain ⟨r, c, rfl⟩ := snoc_ex (w := w) (fun e => by rw [e] at hk; simp at hk); have h1 := val_lt k r (by simpa using hk) fun c hc => hd c (List.mem_append_left _ hc); have h2 := of_decide_eq_true (hd c (List.mem_append_right _ (List.mem_singleton.2 rfl))); rw [valL_snoc, Nat.pow_succ]; omega
end Go.Proofs
namespace Go.Fs
variable {P : Program} {σ : Sto} {fl : VL} {x : Operand} {w : Value} {T : TypeId} {h h2 : Heap} {S S' : List Nat} {τ τ' : Ty}
theorem CalmV.nilO {cs : List PV} (hm : (w, Cell.var cs) ∈ σ) (hx : evV fl x = some (.raw w) := by rfl) : CalmV P fl σ (.nilCheck x) (.raw w) :=
  ⟨rfl, fun h S t hs hc => by
    have h1 : evalO t x = w := hs x (by simp [Op.operands]) _ hx; obtain ⟨b, e, vs, h3, _⟩ := hc _ hm; have h3 : w = .pointer (some ⟨b, 0, none⟩) := h3; refine ⟨_, rfl, fun _ _ _ _ _ H => ?_⟩; show (match evalO t x with | .pointer (some a) => some (Value.pointer (some a), H) | .func (.func f) a b => some (.func (.func f) a b, H) | _ => none) = _
    rw [h1, h3]⟩
theorem var_keep {a a' : τ.den} {c c' : τ'.den} (h h2 : Heap) (S : List Nat) (hg : ∀ z ∈ [(w, Cell.var [.v τ a, .v τ' c])], CellR h (own [(w, Cell.var [.v τ a, .v τ' c])] ++ S) z.1 z.2)
    (hs : ∀ z ∈ [(w, Cell.var [.v τ a', .v τ' c'])], CellR h2 (own [(w, Cell.var [.v τ a', .v τ' c'])] ++ S) z.1 z.2)
    (hk : ∀ b' ∈ own [(w, Cell.var [.v τ a, .v τ' c])], h2.get b' = h.get b') (hx : ∀ b o, h.get b = some o → h2.get b = some o) :
    (∀ b' ∈ own [(w, Cell.var [.v τ a', .v τ' c'])], b' ∈ own [(w, Cell.var [.v τ a, .v τ' c])]) ∧ ∀ z ∈ [(w, Cell.var [.v τ a', .v τ' c'])], CellR h (own [(w, Cell.var [.v τ a', .v τ' c'])] ++ S) z.1 z.2 := by
  obtain ⟨b, e, vs, g1, g2, g3, g4, g5⟩ := hg _ List.mem_cons_self; obtain ⟨b2, e2, vs2, s1, s2, s3, s4, s5⟩ := hs _ List.mem_cons_self; have g1 : w = .pointer (some ⟨b, 0, none⟩) := g1; have s1 : w = .pointer (some ⟨b2, 0, none⟩) := s1
  have hb : b2 = b := by
    rw [g1] at s1; injection s1 with s1; injection s1 with s1; injection s1 with s1; exact s1.symm
  subst hb; have h7 := hk b2 (by rw [own_cons]; exact List.mem_append_left _ (by rw [g1]; simp [blk])); rw [s3, g3] at h7; injection h7 with h7; injection h7 with _ h8; subst h8; obtain ⟨u1, r1, rfl, p1, u2, r2, rfl, p2, p3⟩ := g4; obtain ⟨v1, q1, e1, k1, v2, q2, e3, k2, k3⟩ := s4; injection e1 with e1 e4; subst e1 e4; injection e3 with e5 e6; subst e5 e6; obtain rfl : a = a' := RepC.same hx p1.2 k1.2; obtain rfl : c = c' := RepC.same hx p2.2 k2.2; exact ⟨fun _ hb => hb, hg⟩
end Go.Fs
namespace Go.Fs
variable {P : Program} {orc : FuncId → List Value → Heap → Option (Value × Heap)} {τ : Ty}
end Go.Fs
namespace Go.Fs
variable {P : Program} {fl : VL} {σ γ : Sto} {Q : PV → Sto → Prop} {fn : Func} {τ : Ty}
end Go.Fs
namespace Go.Fs
variable {P : Program} {orc : FuncId → List Value → Heap → Option (Value × Heap)} {rnd : Option Nat} {h h' h0 h1 h2 : Heap} {S S' S0 B G : List Nat} {σ σ' : Sto} {t t' : Tr} {ms : List Nat} {fl : VL} {ops : Array Oper} {n : Nat} {l : List Oper} {K : VL → Sto → Prop} {Q : Ex → VL → Sto → Prop}
  {d : Tmp} {ty : TypeId} {pos : String} {after : Array Edge} {op : Op} {v : PV} {g : Option (Nat × Bool)}
end Go.Fs
namespace Go.Fs
variable {P : Program} {orc : FuncId → List Value → Heap → Option (Value × Heap)} {rnd : Option Nat} {h h' h0 h1 h2 : Heap} {S S' S0 B G : List Nat} {σ σ' : Sto} {t t' : Tr} {ms : List Nat} {fl : VL} {ops : Array Oper} {n : Nat} {l : List Oper} {K : VL → Sto → Prop} {Q : Ex → VL → Sto → Prop}
  {d : Tmp} {ty : TypeId} {pos : String} {after : Array Edge} {op : Op} {v : PV} {g : Option (Nat × Bool)} {w : Value} {x : Operand}
end Go.Fs
namespace Go.Proofs
open Go.Fs
set_option maxHeartbeats 1000000
theorem decS_nat {k : Nat} (h : k < 1000000000000000000) : decS ((k : Nat) : Int) = ofL (decL k) := by
  unfold decS; rw [itoaF_nat h]
theorem decS_size {n : Int} (h : 0 ≤ n ∧ n < 1000000000000000000) : (decS n).size ≤ 19 := by
  obtain ⟨k, rfl⟩ := Int.eq_ofNat_of_zero_le h.1; rw [decS_nat (by omega), ← toL_len, toL_ofL]; refine dec_len 18 k ?_
  have : (10 : Nat) ^ (18 + 1) = 10000000000000000000 := by decide
  omega
end Go.Proofs
namespace Go.Proofs
open Go.Fs
set_option maxHeartbeats 1000000
def spS : ByteArray := ⟨#[32]⟩
def nlS : ByteArray := ⟨#[10]⟩
def wrdA (w : List ByteArray) (k : Nat) : ByteArray := w.getD k ByteArray.empty
theorem splS_cut {s : ByteArray} {c : UInt8} (h : 0 ≤ Go.Lib.indexByte (toL s) c) : splS c s = cutA c s :: splS c (cutR c s) := by
  obtain ⟨k, hk⟩ := Int.eq_ofNat_of_zero_le h; unfold cutA cutR; rw [if_neg (by omega), if_neg (by omega), hk, Int.toNat_natCast]; exact splS_idx hk
theorem splS_nocut {s : ByteArray} {c : UInt8} (h : ¬ 0 ≤ Go.Lib.indexByte (toL s) c) : splS c s = [s] := splS_no (by omega)
theorem splS_nil {c : UInt8} : splS c ByteArray.empty = [ByteArray.empty] := rfl
theorem splS_ne {c : UInt8} {s : ByteArray} : splS c s ≠ [] := by
  unfold splS; intro h; exact spl_ne (s := c) (toL s) (List.map_eq_nil_iff.1 h)
theorem cutR_size {s : ByteArray} {c : UInt8} (h : 0 ≤ Go.Lib.indexByte (toL s) c) : (cutR c s).size < s.size := by
  have hlt := idx_lt (s := s) (c := c); unfold cutR; rw [if_neg (by omega)]; have h7 := congrArg List.length (toL_drop s ((Go.Lib.indexByte (toL s) c).toNat + 1)); rw [toL_len, List.length_drop, toL_len] at h7; omega
theorem cutA_size {s : ByteArray} {c : UInt8} : (cutA c s).size ≤ s.size := by
  unfold cutA; split
  · exact Nat.le_refl _
  rw [← toL_len, toL_take, List.length_take, toL_len]; exact Nat.min_le_right _ _
theorem numK_empty : numK ByteArray.empty = false := (numK_f (.inl (.inl rfl))).2
theorem spl_mem {c : UInt8} : ∀ (l : List UInt8), ∀ w ∈ splL c l, w.length ≤ l.length
  | [], w, hw => by
    rw [show splL c [] = [[]] from rfl, List.mem_singleton] at hw
    subst hw; exact Nat.le_refl _
  | x :: r, w, hw => by
    by_cases h : x = c
    · subst h; rw [spl_sep] at hw; rcases List.mem_cons.1 hw with rfl | hw
      · exact Nat.zero_le _
      exact Nat.le_succ_of_le (spl_mem r w hw)
    cases hr : splL c r with
    | nil => exact absurd hr (spl_ne r)
    | cons v l =>
      rw [spl_cons h hr] at hw; have hv := spl_mem r v (by rw [hr]; exact List.mem_cons_self); rcases List.mem_cons.1 hw with rfl | hw
      · simp only [List.length_cons]; omega
      exact Nat.le_succ_of_le (spl_mem r w (by rw [hr]; exact List.mem_cons_of_mem _ hw))
theorem splS_size {c : UInt8} {s : ByteArray} : ∀ w ∈ splS c s, w.size ≤ s.size := fun w hw => by
  obtain ⟨v, hv, rfl⟩ := List.mem_map.1 hw; have h1 := spl_mem (toL s) v hv; rw [toL_len] at h1; rw [← toL_len, toL_ofL]; exact h1
theorem splS_few {c : UInt8} {s : ByteArray} : (splS c s).length ≤ s.size + 1 := by
  rw [splS_len]; have := List.count_le_length (a := c) (l := toL s); rw [toL_len] at this; omega
def freB (w : ByteArray) : Prop := ∀ c ∈ toL w, c ≠ 32 ∧ c ≠ 10
theorem dec_free {n : Int} (h : 0 ≤ n ∧ n < 1000000000000000000) : freB (decS n) := by
  obtain ⟨k, rfl⟩ := Int.eq_ofNat_of_zero_le h.1; intro c hc; rw [decS_nat (by omega), toL_ofL] at hc; have h1 := of_decide_eq_true (dec_dig k c hc); constructor
  · rintro rfl; revert h1; decide
  rintro rfl; revert h1; decide
theorem splS_join {c : UInt8} {ws : List ByteArray} (h0 : ws ≠ []) (h : ∀ w ∈ ws, ∀ x ∈ toL w, x ≠ c) : splS c (joinS c ws) = ws := by
  unfold splS joinS
  rw [toL_ofL, spl_joi (by simpa using h0) (fun w hw => by
    obtain ⟨v, hv, rfl⟩ := List.mem_map.1 hw
    exact h v hv), List.map_map]
  exact List.map_id'' (fun x => rfl) ws
theorem join_spl {c : UInt8} {s : ByteArray} : joinS c (splS c s) = s := by
  unfold joinS splS; rw [List.map_map]; have : (splL c (toL s)).map (toL ∘ ofL) = (splL c (toL s)).map id := List.map_congr_left fun w _ => rfl; rw [this, List.map_id, joi_spl, ofL_toL]
theorem joi_free {c d : UInt8} (hcd : c ≠ d) : ∀ {l : List (List UInt8)}, (∀ w ∈ l, ∀ x ∈ w, x ≠ d) → ∀ x ∈ joiL c l, x ≠ d
  | [], _, x, hx => by cases hx
  | [w], h, x, hx => h w List.mem_cons_self x hx
  | w :: v :: l, h, x, hx => by
    rw [joi_cons (by simp)] at hx; rcases List.mem_append.1 hx with hx | hx
    · exact h w List.mem_cons_self x hx
    rcases List.mem_cons.1 hx with rfl | hx
    · exact hcd
    exact joi_free hcd (fun u hu => h u (List.mem_cons_of_mem _ hu)) x hx
theorem joinS_free {ws : List ByteArray} (h : ∀ w ∈ ws, freB w) : ∀ c ∈ toL (joinS 32 ws), c ≠ 10 := by
  unfold joinS; rw [toL_ofL]; refine joi_free (by decide) fun w hw => ?_; obtain ⟨v, hv, rfl⟩ := List.mem_map.1 hw; exact fun c hc => (h v hv c hc).2
theorem numL_dec {n : Int} (h : 0 ≤ n ∧ n < 1000000000) : numK (decS n) = true ∧ numV (decS n) = n := by
  obtain ⟨k, rfl⟩ := Int.eq_ofNat_of_zero_le h.1
  have e : (10 : Nat) ^ 9 = 1000000000 := by decide
  have h1 : numL (toL (decS ((k : Nat) : Int))) = some k := by
    rw [decS_nat (by omega), toL_ofL]; exact num_dec (by omega)
  unfold numK numV; rw [h1]; exact ⟨rfl, rfl⟩
theorem dec_num {w : ByteArray} (h : numK w = true) : decS (numV w) = w ∧ 0 ≤ numV w ∧ numV w < 1000000000 := by
  unfold numK at h; obtain ⟨k, hk⟩ := Option.isSome_iff_exists.1 h; have h1 := dec_val hk
  have hlt : k < 1000000000 := by
    have h2 : numL (toL w) = some k := hk; unfold numL at h2; split at h2
    · cases h2
    rename_i hn; obtain rfl := Option.some.inj h2
    have hd : ∀ c ∈ toL w, digB c = true := by
      cases hc : (toL w).all digB with
      | true => exact List.all_eq_true.1 hc
      | false => exact absurd (.inr (.inr hc)) hn
    have h3 := val_lt _ (toL w) rfl hd
    have h4 : (toL w).length ≤ 9 := by
      by_cases h9 : 9 < (toL w).length
      · exact absurd (.inl (.inr h9)) hn
      omega
    have h5 : 10 ^ (toL w).length ≤ 10 ^ 9 := Nat.pow_le_pow_right (by decide) h4
    have e : (10 : Nat) ^ 9 = 1000000000 := by decide
    omega
  unfold numV; rw [hk, Option.getD_some, decS_nat (by omega), h1, ofL_toL]; exact ⟨rfl, by omega, by omega⟩
section
variable {β : Type}
def prsG (f : β → ByteArray → Option β) : List ByteArray → β → Nat → Option β × Nat
  | [], b, i => (some b, i)
  | [x], b, i => if x = ByteArray.empty then (some b, i) else (none, i)
  | x :: y :: r, b, i => match f b x with
    | some b' => prsG f (y :: r) b' (i + 1)
    | none => (none, i)
def runG (f : β → ByteArray → Option β) : β → List ByteArray → Option β
  | b, [] => some b
  | b, x :: r => match f b x with
    | some b' => runG f b' r
    | none => none
variable {f : β → ByteArray → Option β} {b b' : β} {i j : Nat} {x y s : ByteArray} {r L ls : List ByteArray}
theorem prsG_line (h : f b x = some b') : prsG f (x :: y :: r) b i = prsG f (y :: r) b' (i + 1) := by
  show (match f b x with | some b' => _ | none => _) = _; rw [h]
theorem prsG_wrong (h : f b x = none) : prsG f (x :: y :: r) b i = (none, i) := by
  show (match f b x with | some b' => _ | none => _) = _; rw [h]
theorem prsG_last (h : x = ByteArray.empty) : prsG f [x] b i = (some b, i) := if_pos h
theorem prsG_tail (h : x ≠ ByteArray.empty) : prsG f [x] b i = (none, i) := if_neg h
theorem prsG_end : prsG f (splS 10 ByteArray.empty) b i = (some b, i) := by
  rw [splS_nil]; exact prsG_last rfl
theorem prsG_torn (hs : s ≠ ByteArray.empty) (h : ¬ 0 ≤ Go.Lib.indexByte (toL s) 10) : prsG f (splS 10 s) b i = (none, i) := by
  rw [splS_nocut h]; exact prsG_tail hs
theorem prsG_good (h : 0 ≤ Go.Lib.indexByte (toL s) 10) (hb : f b (cutA 10 s) = some b') : prsG f (splS 10 s) b i = prsG f (splS 10 (cutR 10 s)) b' (i + 1) := by
  rw [splS_cut h]
  cases hr : splS 10 (cutR 10 s) with
  | nil => exact absurd hr splS_ne
  | cons y r => exact prsG_line hb
theorem prsG_bad (h : 0 ≤ Go.Lib.indexByte (toL s) 10) (hb : f b (cutA 10 s) = none) : prsG f (splS 10 s) b i = (none, i) := by
  rw [splS_cut h]
  cases hr : splS 10 (cutR 10 s) with
  | nil => exact absurd hr splS_ne
  | cons y r => exact prsG_wrong hb
theorem prsG_run : ∀ {ls : List ByteArray} {b b' : β} {i : Nat}, runG f b ls = some b' → prsG f (ls ++ [x]) b i = prsG f [x] b' (i + ls.length)
  | [], b, b', i, h => by
    obtain rfl : b = b' := Option.some.inj h
    rfl
  | y :: r, b, b', i, h => by
    unfold runG at h
    cases hf : f b y with
    | none => rw [hf] at h; cases h
    | some b1 =>
      rw [hf] at h; have ih := prsG_run (i := i + 1) h; rw [List.length_cons, show i + (r.length + 1) = i + 1 + r.length by omega, ← ih]
      cases hr : r ++ [x] with
      | nil => simp at hr
      | cons z q =>
        rw [List.cons_append, hr]; exact prsG_line hf
theorem prsG_some : ∀ {L : List ByteArray} {b b' : β} {i j : Nat}, L ≠ [] → prsG f L b i = (some b', j) → ∃ ls, L = ls ++ [ByteArray.empty] ∧ runG f b ls = some b' ∧ j = i + ls.length
  | [], _, _, _, _, h, _ => absurd rfl h
  | [x], b, b', i, j, _, h => by
    by_cases hx : x = ByteArray.empty
    · rw [prsG_last hx] at h; injection h with h1 h2; subst hx h2; exact ⟨[], rfl, h1, rfl⟩
    rw [prsG_tail hx] at h; injection h with h1 h2
    cases h1
  | x :: y :: r, b, b', i, j, _, h => by
    cases hf : f b x with
    | none =>
      rw [prsG_wrong hf] at h; injection h with h1 h2
      cases h1
    | some b1 =>
      rw [prsG_line hf] at h; obtain ⟨ls, h1, h2, h3⟩ := prsG_some (by simp) h; refine ⟨x :: ls, by rw [h1]; rfl, ?_, by rw [List.length_cons]; omega⟩; unfold runG; rw [hf]; exact h2
end
def txtG : List ByteArray → ByteArray
  | [] => ByteArray.empty
  | x :: r => (x ++ nlS) ++ txtG r
theorem txtG_app : ∀ {l r : List ByteArray}, txtG (l ++ r) = txtG l ++ txtG r
  | [], r => (ByteArray.empty_append).symm
  | x :: l, r => by
    show (x ++ nlS) ++ txtG (l ++ r) = ((x ++ nlS) ++ txtG l) ++ txtG r; rw [txtG_app, ByteArray.append_assoc, ByteArray.append_assoc, ByteArray.append_assoc]
theorem txtG_one {x : ByteArray} : txtG [x] = x ++ nlS := ByteArray.append_empty
theorem txtG_toL : ∀ {l : List ByteArray}, toL (txtG l) = l.flatMap fun w => toL w ++ [10]
  | [] => rfl
  | x :: l => by
    show toL ((x ++ nlS) ++ txtG l) = _; rw [toL_app, toL_app, txtG_toL, List.flatMap_cons] <;> rfl
theorem splS_txtG {w : ByteArray} (hw : ∀ c ∈ toL w, c ≠ 10) : ∀ {l : List ByteArray}, (∀ x ∈ l, ∀ c ∈ toL x, c ≠ 10) → splS 10 (txtG l ++ w) = l ++ [w]
  | [], _ => by
    have e : toL (txtG [] ++ w) = toL w := by rw [toL_app] <;> rfl
    unfold splS
    rw [e, spl_word hw] <;> rfl
  | x :: r, h => by
    have hx := h x List.mem_cons_self; have ih := splS_txtG hw (l := r) fun y hy => h y (List.mem_cons_of_mem _ hy); unfold splS at ih ⊢
    have e : toL (txtG (x :: r) ++ w) = toL x ++ 10 :: toL (txtG r ++ w) := by
      show toL (((x ++ nlS) ++ txtG r) ++ w) = _; rw [toL_app, toL_app, toL_app, toL_app, List.append_assoc, List.append_assoc]; rfl
    rw [e, spl_app hx, List.map_cons, ih]; rfl
theorem splS_txt0 {l : List ByteArray} (h : ∀ x ∈ l, ∀ c ∈ toL x, c ≠ 10) : splS 10 (txtG l) = l ++ [ByteArray.empty] := by
  have := splS_txtG (w := ByteArray.empty) (fun c hc => by cases hc) h
  rwa [ByteArray.append_empty] at this
theorem toL_joiL {c : UInt8} : ∀ {ls : List (List UInt8)}, joiL c (ls ++ [[]]) = ls.flatMap fun w => w ++ [c]
  | [] => rfl
  | w :: ls => by
    rw [List.cons_append, joi_cons (by simp), toL_joiL, List.flatMap_cons, List.append_assoc] <;> rfl
theorem txtG_spl {s : ByteArray} {ls : List ByteArray} (h : splS 10 s = ls ++ [ByteArray.empty]) : txtG ls = s := by
  apply toL_inj; have h1 := join_spl (c := 10) (s := s); rw [h] at h1; unfold joinS at h1; rw [List.map_append] at h1; have h2 := congrArg toL h1; rw [toL_ofL, show [ByteArray.empty].map toL = [[]] from rfl, toL_joiL] at h2; rw [txtG_toL, ← h2, List.flatMap_map]
theorem txtG_cut {l : List ByteArray} {x : ByteArray} : (txtG (l ++ [x])).extract 0 ((txtG (l ++ [x])).size - 1) = txtG l ++ x := by
  have e : toL (txtG (l ++ [x])) = toL (txtG l ++ x) ++ [10] := by
    rw [txtG_app, txtG_one, toL_app, toL_app, toL_app, List.append_assoc]; rfl
  apply toL_inj; rw [toL_take, ← toL_len, e, List.length_append]; simp
theorem txtG_size_le {l : List ByteArray} {m : Nat} (h : ∀ x ∈ l, x.size ≤ m) : (txtG l).size ≤ (m + 1) * l.length := by
  induction l with
  | nil => simp [txtG]
  | cons x r ih =>
    have h1 := h x List.mem_cons_self; have h2 := ih fun y hy => h y (List.mem_cons_of_mem _ hy); show ((x ++ nlS) ++ txtG r).size ≤ _; rw [ByteArray.size_append, ByteArray.size_append, List.length_cons, Nat.mul_add, Nat.mul_one]; have : nlS.size = 1 := rfl; omega
end Go.Proofs
namespace Go.Fs
variable {P : Program} {fl : VL} {σ : Sto} {T : TypeId} {τ : Ty} {h : Heap} {S : List Nat}
inductive PartP : PV → List PV → Prop where
  | v {τ : Ty} {x : τ.den} : PartP (.v τ x) (cellsPV τ x)
  | w {w : Value} (ho : oneCell w = true) : PartP (.raw w) [.raw w]
inductive BldR (pl : List (Nat × Nat)) : List PV → List Nat → List PV → List PV → Prop where
  | nil {L L' : List PV} (h : L = L') : BldR pl L [] [] L'
  | cons {L L' : List PV} {i o : Nat} {is : List Nat} {p : PV} {ps qs : List PV} (hp : PartP p qs) (hpl : pl[i]? = some (o, qs.length)) (ho : Nat.ble (o + qs.length) L.length = true) (r : BldR pl (spl L o qs) is ps L') : BldR pl L (i :: is) (p :: ps) L'
end Go.Fs
namespace Go.Fs
variable {P : Program} {fl : VL} {σ : Sto} {T T' : TypeId} {x y : Operand} {p q : Int}
end Go.Fs
namespace Go.Fs
variable {P : Program} {orc : FuncId → List Value → Heap → Option (Value × Heap)} {h : Heap} {σ ρ : Sto} {fl : VL} {ops : Array Oper} {n i mem : Nat} {l : List Oper} {K : VL → Sto → Prop} {nw bs : List Nat} {tl : Bool} {hr : Heap} {S0 A : List Nat} {t : Tr} {rd chg : List Nat}
end Go.Fs
namespace Go.Fs
variable {P : Program} {orc : FuncId → List Value → Heap → Option (Value × Heap)} {rnd : Option Nat} {h h' h0 h1 h2 hr : Heap} {S S' S0 B G A : List Nat} {σ σ' σr ρ : Sto} {t t' : Tr} {ms : List Nat} {fl : VL} {ops : Array Oper} {n i mem : Nat} {l : List Oper} {K : VL → Sto → Prop}
  {d : Tmp} {ty : TypeId} {pos : String} {after : Array Edge} {op : Op} {v pv : PV} {g : Option (Nat × Bool)} {x y z : Operand} {T T' e : TypeId} {τ τ' : Ty} {bs nw rd chg : List Nat} {segs : List (Nat × Nat × Nat)} {tail tl : Bool} {w w' : Value}
theorem VLt.cR {b : Nat} {q : Value} (hc : CalmV P fl σ op (.raw q)) (hk : VLt P orc ops n l (i + 1) ((d, .raw q) :: fl) (nwSet true d nw) σ ρ (bs ++ [b]) mem tl K)
    (hb : beforeOf bs ⟨some d, op, ty, pos, after, g⟩ = b := by rfl) (hw : wantV ops fl g = some true := by rfl) (hn : (Nat.blt d n && Nat.ble n 4000) = true := by rfl) :
    VLt P orc ops n (⟨some d, op, ty, pos, after, g⟩ :: l) i fl nw σ ρ bs mem tl K := fun hr h0 G S0 A t h ms rd chg segs tail ht I L => by
  obtain ⟨n1, n2⟩ := fits hn; obtain ⟨u, e1, e2⟩ := hc.2 h (own σ ++ S0) t I.slots.sees I.cells; refine EvL.opr (x' := (⟨t.set depth d u, h, bs ++ [b], segs, mem, tail⟩, rd, chg)) ?_ (hk hr h0 G S0 A _ h ms rd chg segs tail ht (I.set e1 n2) (L.set n2 fun _ => (e1 : u = q))); unfold lateDraw; have hwt : fsWanted ops t ⟨some d, op, ty, pos, after, g⟩ = some true := want_ok I.slots hw; simp only [hwt, hc.1, if_true, e2, Nat.beq_refl, cond_true, put_fits n1, Option.map_some, hb]
end Go.Fs
namespace Go.Fs
variable {P : Program} {σ : Sto} {fl : VL} {x y : Operand} {T T' : TypeId} {p q : ByteArray}
theorem CalmV.seqT (h : p = q) (hx : evV fl x = some (.v .str p) := by rfl) (hy : evV fl y = some (.v .str q) := by rfl) : CalmV P fl σ (.binOp .eql T x y T') (.v .bool true) := by
  have := CalmV.seql (P := P) (σ := σ) (T := T) (T' := T') hx hy
  rwa [decide_eq_true h] at this
theorem CalmV.seqF (h : p ≠ q) (hx : evV fl x = some (.v .str p) := by rfl) (hy : evV fl y = some (.v .str q) := by rfl) : CalmV P fl σ (.binOp .eql T x y T') (.v .bool false) := by
  have := CalmV.seql (P := P) (σ := σ) (T := T) (T' := T') hx hy
  rwa [decide_eq_false h] at this
end Go.Fs
namespace Go.Fs
variable {P : Program} {orc : FuncId → List Value → Heap → Option (Value × Heap)} {h h1 h2 h' : Heap} {S S0 : List Nat} {σ γ σr : Sto} {fl : VL} {ops : Array Oper} {n : Nat} {l : List Oper} {K : VL → Sto → Prop} {d : Tmp} {ty : TypeId} {pos : String} {after : Array Edge} {g : Option (Nat × Bool)}
theorem VC.rangeFuncH {f : FuncId} {a c : List PV} {x : Operand} {ps : Array Tmp} {assign body : Code} {Q : Ex → VL → Sto → Prop} (hg : evV fl x = some (.clo f a c))
    (hit : ∀ yv, VFGK P orc f (a ++ [.raw yv] ++ c) ((yv, .loop .ready none n fl ps assign body) :: σ) fun γ' => ∃ st e σ', st ≠ .busy ∧ γ' = (yv, .loop st (jumpOf e) n fl ps assign body) :: σ' ∧ Q e fl σ') : VC P orc none (.rangeFunc x ps assign body) n fl σ Q := fun hb0 G S0 t h ms Iv0 => by
  obtain ⟨va, vc, hv, ra, rc⟩ := (evV_ok Iv0.slots hg : RepPV h _ (.clo f a c) (evalO t x))
  let hm := h.push .defd
  let j := hm.next
  let yv : Value := .func (.yield j) #[] #[]
  let L : AObj := .loopo .ready none t n ps assign body h.next
  have hjd : j = h.next + 1 := rfl
  have hg2 : ∀ b, (hm.push L).get b = if b = h.next + 1 then some L else if b = h.next then some .defd else h.get b := fun b => by
    rw [Heap.get_push]; show (if b = h.next + 1 then _ else (h.push .defd).get b) = _; rw [Heap.get_push]
  have ap : Aft h (hm.push L) (j :: own σ) := (Aft.push h .defd _).trans (Aft.push hm L (j :: own σ)) fun i hi => .inl hi; have hlt : ∀ b ∈ own σ, b < h.next := own_lt Iv0.cells Iv0.ok; have Lc0 := Iv0.lc
  have goes0 : Goes h (own σ ++ S0) (hm.push L) (j :: own σ ++ S0) := fun b o hb hn => by
    have hbn : b < h.next := Iv0.ok b o hb; refine ⟨by rw [hg2, if_neg (by omega), if_neg (by omega)]; exact hb, fun hm2 => ?_⟩; rcases List.mem_append.1 hm2 with hm2 | hm2
    · rcases List.mem_cons.1 hm2 with hm2 | hm2
      · omega
      exact hn (List.mem_append_left _ hm2)
    exact hn (List.mem_append_right _ hm2)
  have hS0 : ∀ b ∈ S0, b < h.next := Lc0.s0
  have hj1 : j ∉ own σ := fun hm2 => by have := hlt j hm2; omega
  have hit2 := hit yv; have how : ∀ (c : Cell) (s : Sto), own ((yv, c) :: s) = j :: own s := fun c s => rfl; refine EvC.rangeFunc (fr := ⟨t, n, ms⟩) hv ((hit2 (hm.push L) S0 _ (ap.ok Iv0.ok) ⟨fun b hb => by have := hS0 b hb; have := ap.next; omega, (Iv0.slots.nx goes0).1.less fun b hb => List.mem_append_right _ hb⟩ (fun cc hc => ?_) (by rw [how]; exact List.nodup_cons.2 ⟨hj1, Iv0.apart⟩) (fun b hb => ?_) ?_).mono fun u h3 hq => ?_)
  · rw [how]; rcases List.mem_cons.1 hc with hc' | hc'
    · subst hc'; exact ⟨j, t, h.next, rfl, List.mem_append_left _ List.mem_cons_self, by rw [hg2, if_pos hjd], Iv0.slots.nx goes0⟩
    refine (Iv0.cells cc hc').keep (fun b hb => ?_) goes0 fun b hb => List.mem_append_left _ (List.mem_cons_of_mem _ (List.mem_flatMap.2 ⟨cc, hc', hb⟩)); have := hlt b (List.mem_flatMap.2 ⟨cc, hc', hb⟩); rw [hg2, if_neg (by omega), if_neg (by omega)]
  · rw [how] at hb; intro hbs; rcases List.mem_cons.1 hb with hb | hb
    · have := hS0 b hbs; omega
    exact (Iv0.new b hb).2 hbs
  · rw [how]; have ry : RepL (hm.push L) (j :: own σ ++ S0) [.raw yv] [yv] := ⟨yv, [], rfl, rfl, rfl⟩; exact ((ra.nx goes0).append ry).append (rc.nx goes0)
  obtain ⟨γ', hq, made⟩ := hq; obtain ⟨st, e, σ', hst, rfl, hQ⟩ := hq; obtain ⟨j', tm, dm, hj', hjS, hgj, _⟩ := made.cells _ List.mem_cons_self
  have hjj : j = j' := by
    have : yv = .func (.yield j') #[] #[] := hj'; injection this with h5; injection h5
  subst hjj; refine ⟨st, e, tm, n, ps, assign, body, dm, hgj, hst, rfl, fl, σ', ?_, hQ⟩; have hnd := made.apart; rw [how] at hnd; obtain ⟨hj3, hnd2⟩ := List.nodup_cons.1 hnd
  let C : AObj := .loopo .exhausted (jumpOf e) tm n ps assign body dm
  have hgC : ∀ b, (h3.set j C).get b = if b = j then some C else h3.get b := fun b => Heap.get_set hgj ..; have ma : Aft (hm.push L) h3 (j :: own σ) := made.aft; have at3 : Aft h (h3.set j C) (j :: own σ) := (ap.trans ma fun i hi => .inl hi).trans (Aft.set (B := [j]) hgj List.mem_cons_self) fun i hi => .inl (by rw [List.mem_singleton.1 hi]; exact List.mem_cons_self)
  have hnew : ∀ b ∈ own σ', b ∈ own σ ∨ h.next ≤ b := fun b hb => by
    rcases made.new b (by rw [how]; exact List.mem_cons_of_mem _ hb) with h5 | h5
    · rw [how] at h5; rcases List.mem_cons.1 h5 with h5 | h5
      · subst h5; exact absurd hb hj3
      exact .inl h5
    have := ap.next; exact .inr (by omega)
  have goes3 : Goes h (own σ ++ S0) (h3.set j C) (own σ' ++ S0) := fun b o hb hn => by
    have hbn : b < h.next := Iv0.ok b o hb
    refine ⟨by rw [at3.get b hbn (fun hm2 => by
      rcases List.mem_cons.1 hm2 with hm2 | hm2
      · omega
      exact hn (List.mem_append_left _ hm2))]; exact hb, fun hm2 => ?_⟩
    rcases List.mem_append.1 hm2 with hm2 | hm2
    · rcases hnew b hm2 with h5 | h5
      · exact hn (List.mem_append_left _ h5)
      omega
    exact hn (List.mem_append_right _ hm2)
  have hdef : h3.get h.next = some .defd := by
    rw [ma.get h.next (by show h.next < h.next + 1 + 1; omega) (fun hm2 => by
      rcases List.mem_cons.1 hm2 with hm2 | hm2
      · omega
      have := hlt _ hm2; omega), hg2, if_neg (by omega), if_pos rfl]
  exact {
    ok := at3.ok Iv0.ok
    s0 := Iv0.s0
    aft := Iv0.aft.trans at3 fun i hi => by
      have := Iv0.aft.next; rcases List.mem_cons.1 hi with hi | hi
      · right; omega
      exact (Iv0.new i hi).1
    cells := fun c hc => (made.cells c (List.mem_cons_of_mem _ hc)).keep (fun b hb => by
        rw [hgC, if_neg (fun e => hj3 (by subst e; exact List.mem_flatMap.2 ⟨c, hc, hb⟩))]) (fun b o hb hn => ⟨by
        rw [hgC, if_neg (fun e => hn (by subst e; exact List.mem_append_left _ List.mem_cons_self))]; exact hb, fun hm2 => hn (by
        rcases List.mem_append.1 hm2 with hm2 | hm2
        · exact List.mem_append_left _ (List.mem_cons_of_mem _ hm2)
        exact List.mem_append_right _ hm2)⟩) fun b hb => List.mem_append_left _ (List.mem_flatMap.2 ⟨c, hc, hb⟩)
    new := fun b hb => by
      have := Iv0.aft.next; rcases hnew b hb with h5 | h5
      · exact Iv0.new b h5
      exact ⟨.inr (by omega), fun hm2 => by have := hS0 b hm2; omega⟩
    apart := hnd2
    mark := fun d hd => by
      have := Iv0.aft.next; rcases List.mem_cons.1 hd with hd | hd
      · subst hd; exact ⟨this, by rw [hgC, if_neg (by omega)]; exact hdef⟩
      obtain ⟨m1, m2⟩ := Iv0.mark d hd; refine ⟨m1, ?_⟩; have hdn : d < h.next := Iv0.ok d _ m2
      rw [at3.get d hdn (fun hm2 => by
        rcases List.mem_cons.1 hm2 with hm2 | hm2
        · omega
        obtain ⟨c, hc, hb⟩ := List.mem_flatMap.1 hm2; obtain ⟨o, hgo, hne⟩ := (Iv0.cells c hc).isObj d hb; rw [m2] at hgo
        exact hne (Option.some.inj hgo).symm)]
      exact m2
    marks := List.nodup_cons.2 ⟨fun hm2 => by have := Iv0.ok _ _ (Iv0.mark _ hm2).2; omega, Iv0.marks⟩
    slots := Iv0.slots.nx goes3 }
theorem Made.permR {γ γ1 γ2 : Sto} (hp : γ1.Perm γ2) (m : Made S h h' γ γ1) : Made S h h' γ γ2 :=
  have ho := own_perm hp
  { aft := m.aft
    new := fun b hb => m.new b (ho.mem_iff.2 hb)
    apart := ho.nodup_iff.1 m.apart
    cells := fun c hc => by
      have hN : Goes h' (own γ1 ++ S) h' (own γ2 ++ S) := Goes.less fun b hb => by
        rcases List.mem_append.1 hb with hb | hb
        · exact List.mem_append_left _ (ho.mem_iff.2 hb)
        exact List.mem_append_right _ hb
      exact (m.cells c (hp.mem_iff.2 hc)).keep (fun _ _ => rfl) hN fun b hb => List.mem_append_left _ (List.mem_flatMap.2 ⟨c, hc, hb⟩) }
theorem Made.permL {γ γ1 γ2 : Sto} (hp : γ1.Perm γ2) (m : Made S h h' γ1 γ) : Made S h h' γ2 γ :=
  have ho := own_perm hp
  { aft := m.aft.weak fun b hb => ho.mem_iff.1 hb
    new := fun b hb => (m.new b hb).imp_left fun h => ho.mem_iff.1 h
    apart := m.apart
    cells := m.cells }
theorem VFGK.perm {f : FuncId} {args : List PV} {γ1 γ2 : Sto} {Q Q' : Sto → Prop} (hf : VFGK P orc f args γ1 Q) (hp : γ1.Perm γ2) (hq : ∀ s, Q s → ∃ s', s.Perm s' ∧ Q' s') : VFGK P orc f args γ2 Q' := fun h S us hok hS hcells hnd hsep ha => by
  have ho := own_perm hp
  have hN : Goes h (own γ2 ++ S) h (own γ1 ++ S) := Goes.less fun b hb => by
    rcases List.mem_append.1 hb with hb | hb
    · exact List.mem_append_left _ (ho.mem_iff.1 hb)
    exact List.mem_append_right _ hb
  refine (hf h S us hok hS (fun c hc => (hcells c (hp.mem_iff.1 hc)).keep (fun _ _ => rfl) hN fun b hb => List.mem_append_left _ (List.mem_flatMap.2 ⟨c, hc, hb⟩)) (ho.nodup_iff.2 hnd) (fun b hb => hsep b (ho.mem_iff.1 hb)) (ha.nx hN)).mono fun v h1 hq1 => ?_; obtain ⟨s, q, m⟩ := hq1; obtain ⟨s', p, q'⟩ := hq s q; exact ⟨s', q', (m.permR p).permL hp⟩
section
variable (P orc)
def IterW {X : Type} (f : FuncId) (a c : List PV) (asl : X → List PV) (xs : List X) (w : Value) (C0 : Cell) : Prop := ∀ (yv : Value) (I : List X → Sto → Prop) (E : Sto → Prop) (γ : Sto),
  (∀ x rest γ, I (x :: rest) γ → VYG P orc yv (asl x) γ fun r γ' => (r = .v .bool true ∧ I rest γ') ∨ (r = .v .bool false ∧ E γ')) → I xs γ → VFGK P orc f (a ++ [.raw yv] ++ c) ((w, C0) :: γ) fun γ' => ∃ C1 σ', γ' = (w, C1) :: σ' ∧ (I [] σ' ∨ E σ')
end
theorem VC.rangeFuncW {X : Type} {asl : X → List PV} {xs : List X} {f : FuncId} {a c : List PV} {x : Operand} {ps : Array Tmp} {assign body : Code} {w : Value} {C0 : Cell} {Q : Ex → VL → Sto → Prop} (hg : evV fl x = some (.clo f a c)) (hit : IterW P orc f a c asl xs w C0) (hlen : ∀ y, ps.size = (asl y).length) (hps : ps.toList.all (fun p => Nat.blt p n) = true) (hn4 : Nat.ble n 4000 = true)
    (I : List X → Sto → Prop) (E : Ex → Sto → Prop) (h0 : I xs σ)
    (hb : ∀ j y rest σ, I (y :: rest) σ → VC P orc (some j) assign n (prmVL ps.toList (asl y) fl) σ fun e fl' σ' => e = .normal ∧ VC P orc (some j) body n fl' σ' fun e _ σ' => (e = .normal ∧ I rest σ') ∨ (e ≠ .normal ∧ E e σ'))
    (h1 : ∀ C1 σ', I [] σ' → Q .normal fl ((w, C1) :: σ')) (h2 : ∀ C1 e σ', e ≠ .normal → E e σ' → Q e fl ((w, C1) :: σ')) : VC P orc none (.rangeFunc x ps assign body) n fl ((w, C0) :: σ) Q := by
  refine VC.rangeFuncH hg fun yv => VFGK.perm (hit yv (fun rest γ => ∃ σ', γ = (yv, .loop .ready none n fl ps assign body) :: σ' ∧ I rest σ') (fun γ => ∃ e σ', e ≠ .normal ∧ γ = (yv, .loop .done (jumpOf e) n fl ps assign body) :: σ' ∧ E e σ') ((yv, .loop .ready none n fl ps assign body) :: σ)
    (fun y rest γ ⟨σ', hγ, hI⟩ => ?_) ⟨σ, rfl, h0⟩) swap1 fun s hs => ?_
  · subst hγ; refine (VYG.round (hlen y) (fun p hp => List.all_eq_true.1 hps p hp) (nble hn4) (fun jj => hb jj y rest σ' hI)).mono fun r s hq => ?_; obtain ⟨e, fl', σ2, hQ, rfl, rfl⟩ := hq; rcases hQ with ⟨rfl, hI2⟩ | ⟨hne, hE⟩
    · exact .inl ⟨rfl, σ2, rfl, hI2⟩
    refine .inr ⟨?_, e, σ2, hne, ?_, hE⟩
    · cases e <;> first | exact absurd rfl hne | rfl
    cases e <;> first | exact absurd rfl hne | rfl
  obtain ⟨C1, s', rfl, hs⟩ := hs; rcases hs with ⟨σ', rfl, hI⟩ | ⟨e, σ', hne, rfl, hE⟩
  · exact ⟨_, swap1, .ready, .normal, (w, C1) :: σ', (fun e => by cases e), rfl, h1 C1 σ' hI⟩
  exact ⟨_, swap1, .done, e, (w, C1) :: σ', (fun e => by cases e), rfl, h2 C1 e σ' hne hE⟩
end Go.Fs
namespace Go.Proofs
open Go.Fs
set_option maxHeartbeats 1000000
def lnA (s : ByteArray) : ByteArray := if Go.Lib.indexByte (toL s) 10 < 0 then s else s.extract 0 ((Go.Lib.indexByte (toL s) 10).toNat + 1)
def linF : Nat → ByteArray → List ByteArray
  | 0, _ => []
  | n + 1, s => if s.size = 0 then [] else lnA s :: linF n (cutR 10 s)
theorem linF_nil {n : Nat} {s : ByteArray} (h : s.size = 0) : linF n s = [] := by
  cases n with
  | zero => rfl
  | succ n => exact if_pos h
theorem linF_s {n : Nat} {s : ByteArray} (h : s.size ≠ 0) : linF (n + 1) s = lnA s :: linF n (cutR 10 s) := if_neg h
theorem cutR_less {s : ByteArray} (h : s.size ≠ 0) : (cutR 10 s).size < s.size := by
  by_cases hi : 0 ≤ Go.Lib.indexByte (toL s) 10
  · exact cutR_size hi
  unfold cutR; rw [if_pos (by omega)]; show 0 < s.size; omega
theorem zIxB_ok {s : ByteArray} {c : Int} : VF Tryz.prog OA 94 [St s, .v (.int .u8) c] (I (Go.Lib.indexByte (toL s) c.toNat.toUInt8)) := by
  refine VF.enter Tryz.func94 rfl (fun _ _ => rfl) rfl ?_; show VC _ _ _ _ _ [(0, St s), (1, .v (.int .u8) c)] [] _; refine VC.seq (VC.text ?_); refine VO.c (.assign rfl) ?_; refine VO.go (VC.seq (VC.text ?_)); refine VO.c (.move rfl) (VO.c (.move rfl) ?_); refine VO.call rfl rfl (VF.call (zIB_ok )) ?_; refine VO.c (.assign rfl) (VO.go ?_); refine VC.ret ?_; exact VEnd.one rfl evT (pvI (by rfl))
theorem zLines1_ok {w : Value} {n : Nat} {s : ByteArray} (hn : s.size < n) (hs : s.size < 1000000) : IterW Tryz.prog OA 93 [] [.raw w] (fun x => [St x]) (linF n s) w (.var [St s]) := fun yv I E γ hy h0 => by
  refine VFGK.enter Tryz.func93 rfl rfl rfl ?_; show VC _ _ _ _ _ [(0, .raw yv), (1, .raw w)] ((w, .var [St s]) :: γ) _; refine VC.block ?_; refine VC.loop (I := fun kk ff ss => ∃ (m : Nat) (r : ByteArray) (γ : Sto), kk = r.size ∧ ff = [(0, .raw yv), (1, .raw w)] ∧ ss = (w, .var [St r]) :: γ ∧ r.size < m ∧ r.size < 1000000 ∧ I (linF m r) γ) ?_ _ _ _ ⟨n, s, γ, rfl, rfl, rfl, hn, hs, h0⟩; rintro kk ff ss ⟨m, r, γ, hk0, rfl, rfl, hm, hr, hI⟩; refine VC.seq (VC.seq (VC.text ?_)); refine VO.r (.ldV m0 vt9) ?_; refine VO.r (.lenS) ?_; refine VO.c (.gtr) (VO.go ?_); refine VC.condD rfl (fun c0 => ?_) (fun c0 => ?_)
  · have hr0 : r.size ≠ 0 := by omega
    obtain ⟨m, rfl⟩ : ∃ q, m = q + 1 := ⟨m - 1, by omega⟩; have hlt := cutR_less hr0; rw [linF_s hr0] at hI; refine VC.skip (VC.block (VC.seq (VC.text ?_))); refine VO.c (.assign rfl) ?_; refine VO.go (VC.seq (VC.seq (VC.text ?_))); refine VO.r (.ldV m0 vt9) ?_; refine VO.call rfl rfl (VF.call (show VF Tryz.prog OA 94 [St r, .v (.int .u8) 10] (.v (.int .i64) (Go.Lib.indexByte (toL r) 10)) from zIxB_ok)) ?_; refine VO.c (.assign rfl) ?_; refine VO.go (VC.seq (VC.text ?_)); refine VO.c (.move rfl) (VO.c (.geq) (VO.go ?_)); refine VC.join [(0, .raw yv), (1, .raw w), (3, St (lnA r))] ((w, .var [St (cutR 10 r)]) :: γ) ?_ ?_
    · refine VC.condD rfl (fun c3 => ?_) (fun c3 => ?_)
      · have hix := idx_lt (s := r) (c := 10); have c3 : (0 : Int) ≤ Go.Lib.indexByte (toL r) 10 := c3; obtain ⟨k, hk⟩ := Int.eq_ofNat_of_zero_le c3
        have e1 : lnA r = r.extract 0 ((Go.Lib.indexByte (toL r) 10) + 1).toNat := by
          unfold lnA; rw [if_neg (by omega)]; congr 1; omega
        have e2 : cutR 10 r = r.extract ((Go.Lib.indexByte (toL r) 10) + 1).toNat r.size := by
          unfold cutR; rw [if_neg (by omega)]; congr 1; omega
        refine VC.drawn ?_; refine VD.r ((w, .var [St r]) :: γ) (.ldV m0 vt9) (.inr ⟨rfl, rfl⟩) ?_; refine VD.c (.move rfl) (VD.c (.add rfl rfl (by omega)) ?_); refine VD.r [] (.cutHS (by kernel_rfl) rfl rfl (by omega)) (.inl rfl) ?_; refine VD.r ((w, .var [St r]) :: γ) (.ldV m0 vt9) (.inr ⟨rfl, rfl⟩) ?_; refine VD.c (.move rfl) (VD.c (.add rfl rfl (by omega)) ?_); refine VD.r [] (.cutLS (by kernel_rfl) rfl rfl (by omega)) (.inl rfl) ?_; refine VD.c (.assign rfl) ?_; refine VD.mk0 (MakeV.setF (k := 0) vt9 .v (Nat.le_of_ble_eq_true rfl) (.inr ⟨rfl, rfl⟩) rfl rfl) ?_; rintro _ _ tl ⟨rfl, rfl⟩; refine VD.nil ?_; rw [e1, e2]; exact ⟨⟨rfl, rfl, rfl, trivial⟩, rfl⟩
      have c3 : ¬ (0 : Int) ≤ Go.Lib.indexByte (toL r) 10 := c3; have e1 : lnA r = r := if_pos (by omega); have e2 : cutR 10 r = ⟨#[]⟩ := if_pos (by omega); refine VC.text ?_; refine VO.r (.ldV m0 vt9) ?_; refine VO.c (.assign rfl) ?_; refine VO.setV (cs' := [St ⟨#[]⟩]) vt9 .v ?_; refine VO.nil ?_; rw [e1, e2]; exact ⟨⟨rfl, rfl, rfl, trivial⟩, rfl⟩
    refine VC.seq (VC.text ?_); refine VO.c (.move rfl) (VO.c (.move rfl) ?_); refine VO.perm (List.perm_append_singleton _ _).symm ?_; refine VO.callY (σ := [(w, .var [St (cutR 10 r)])]) γ rfl rfl rfl (hy _ _ _ hI) ?_; rintro r' γ' hq; refine VO.perm (List.perm_append_singleton _ _) ?_; rcases hq with ⟨rfl, hI2⟩ | ⟨rfl, hE⟩
    · refine VO.c (.not) (VO.go ?_); refine VC.condF rfl ?_; refine VC.skip ?_; exact ⟨(cutR 10 r).size, [(0, .raw yv), (1, .raw w)], by omega, ⟨rfl, rfl, trivial⟩, m, cutR 10 r, γ', rfl, rfl, rfl, by omega, by omega, hI2⟩
    refine VO.c (.not) (VO.go ?_); refine VC.condT rfl ?_; refine VC.ret ?_; exact ⟨rfl, _, γ', rfl, .inr hE⟩
  have hr0 : r.size = 0 := by omega
  rw [linF_nil hr0] at hI; refine VC.exit ?_; exact ⟨rfl, _, γ, rfl, .inl hI⟩
end Go.Proofs
namespace Go.Proofs
open Go.Fs
set_option maxHeartbeats 4000000
def sufB (s p : ByteArray) : Bool := decide (p.size ≤ s.size) && decide (s.extract (s.size - p.size) s.size = p)
def sufA (s p : ByteArray) : ByteArray := if sufB s p = true then s.extract 0 (s.size - p.size) else s
theorem zHasS_ok {s p : ByteArray} (hs : s.size < 1000000) : VF Tryz.prog OA 135 [St s, St p] (B (sufB s p)) := by
  refine VF.enter Tryz.func135 rfl (fun _ _ => rfl) rfl ?_; show VC _ _ _ _ _ [(0, St s), (1, St p)] [] _; refine VC.seq (VC.text ?_); refine VO.c (.assign rfl) ?_; refine VO.go (VC.seq (VC.text ?_)); refine VO.c (.move rfl) ?_; refine VO.r (.lenS) ?_; refine VO.c (.move rfl) ?_; refine VO.r (.lenS) ?_; refine VO.c (.geq) (VO.c (.move rfl) ?_); refine VO.splitB (x := 10) rfl (fun hg => ?_) (fun hg => ?_)
  · have hg := of_decide_eq_true hg
    have hl : p.size ≤ s.size := by omega
    refine VO.c (.move rfl) (VO.c (.move rfl) ?_); refine VO.r (.lenS) ?_; refine VO.c (.move rfl) ?_; refine VO.r (.lenS) ?_; have hp0 : (0 : Int) ≤ ((p.size : Nat) : Int) := Int.natCast_nonneg _; refine VO.c (.sub rfl rfl (by omega)) ?_; refine VO.r (.cutLS (by kernel_rfl) rfl rfl ⟨by omega, by omega⟩) ?_; refine VO.c (.move rfl) (VO.c (.seql) (VO.c (.pickT rfl rfl) (VO.c (.assign rfl) ?_))); refine VO.go ?_; refine VC.ret ?_; refine ⟨rfl, [_], .cons evT .nil, ?_⟩
    have e : (((s.size : Nat) : Int) - ((p.size : Nat) : Int)).toNat = s.size - p.size := by omega
    show PV.v .bool _ = PV.v .bool _; unfold sufB; rw [decide_eq_true hl, Bool.true_and, e]
  have hg := of_decide_eq_false hg
  have hl : ¬ p.size ≤ s.size := by omega
  refine VO.skip (VO.skip (VO.skip (VO.skip ?_))); refine VO.skip (VO.skip (VO.skip (VO.skip ?_))); refine VO.skip (VO.c (.pickF rfl rfl) (VO.c (.assign rfl) (VO.go ?_))); refine VC.ret ?_; refine ⟨rfl, [_], .cons evT .nil, ?_⟩; show PV.v .bool _ = PV.v .bool _; unfold sufB; rw [decide_eq_false hl, Bool.false_and]
theorem zSCut_ok {s p : ByteArray} (hs : s.size < 1000000) : VF Tryz.prog OA 95 [St s, St p] (.tup [St (sufA s p), B (sufB s p)]) := by
  refine VF.enter Tryz.func95 rfl (fun _ _ => rfl) rfl ?_; show VC _ _ _ _ _ [(0, St s), (1, St p)] [] _; refine VC.seq (VC.text ?_); refine VO.c (.assign rfl) (VO.c (.assign rfl) ?_); refine VO.go (VC.seq (VC.seq (VC.text ?_))); refine VO.c (.move rfl) (VO.c (.move rfl) ?_); refine VO.call rfl rfl (VF.call (zHasS_ok hs)) ?_; refine VO.c (.not) (VO.go ?_); refine VC.condB rfl (fun hc => ?_) (fun hc => ?_)
  · have hf : sufB s p = false := by simpa using hc
    refine VC.seq (VC.text ?_); refine VO.c (.move rfl) (VO.c (.assign rfl) (VO.c (.assign rfl) (VO.go ?_))); refine VC.ret ?_; exact VEnd.two rfl evT evT (pvE (by unfold sufA; rw [hf]; rfl)) (pvE hf.symm)
  have hf : sufB s p = true := by simpa using hc
  have hl : p.size ≤ s.size := by
    unfold sufB at hf; simp only [Bool.and_eq_true, decide_eq_true_eq] at hf; exact hf.1
  refine VC.skip (VC.seq (VC.text ?_)); refine VO.c (.move rfl) (VO.c (.move rfl) ?_); refine VO.r (.lenS) ?_; refine VO.c (.move rfl) ?_; refine VO.r (.lenS) ?_; have hp0 : (0 : Int) ≤ ((p.size : Nat) : Int) := Int.natCast_nonneg _; refine VO.c (.sub rfl rfl (by omega)) ?_; refine VO.r (.cutHS (by kernel_rfl) rfl rfl (by omega)) ?_; refine VO.c (.assign rfl) (VO.c (.assign rfl) (VO.go ?_)); refine VC.ret ?_
  have e : (((s.size : Nat) : Int) - ((p.size : Nat) : Int)).toNat = s.size - p.size := by omega
  exact VEnd.two rfl evT evT (pvE (by rw [e]; unfold sufA; rw [hf]; rfl)) (pvE hf.symm)
theorem zCutS_ok {s p : ByteArray} (hs : s.size < 1000000) : VF Tryz.prog OA 40 [St s, St p] (.tup [St (sufA s p), B (sufB s p)]) := by
  refine VF.enter Tryz.func40 rfl (fun _ _ => rfl) rfl ?_; show VC _ _ _ _ _ [(0, St s), (1, St p)] [] _; refine VC.seq (VC.text ?_); refine VO.c (.assign rfl) (VO.c (.assign rfl) ?_); refine VO.go (VC.seq (VC.text ?_)); refine VO.c (.move rfl) (VO.c (.move rfl) ?_); refine VO.call rfl rfl (VF.call (zSCut_ok hs)) ?_; refine VO.c (.extract) (VO.c (.extract) (VO.c (.assign rfl) (VO.c (.assign rfl) ?_))); refine VO.go ?_; refine VC.ret ?_; exact VEnd.two rfl evT evT rfl rfl
theorem zLines_ok {s : ByteArray} : VFG Tryz.prog OA 39 [St s] [] (fun r g => ∃ w, r = .clo 93 [] [.raw w] ∧ g = [(w, .var [St s])]) := by
  refine VFG.enter Tryz.func39 rfl (fun _ _ => rfl) rfl ?_; show VC _ _ _ _ _ [(0, St s)] [] _; refine VC.seq (VC.text ?_); refine VO.cell (.box .v) ?_; intro w; refine VO.c (.assign rfl) ?_; refine VO.go (VC.seq (VC.text ?_)); refine VO.c (.func) (VO.c (.assign rfl) (VO.go ?_)); refine VC.ret ?_; refine ⟨rfl, [.clo 93 [] [.raw w]], .cons evT .nil, ⟨w, rfl, rfl⟩, .inr (.inr (.inr ⟨rfl, fun h S u hu hc ha => ?_⟩))⟩; exfalso; obtain ⟨b, e, vs, rfl, _⟩ := hc _ List.mem_cons_self; obtain ⟨va, vc, rfl, h1, h2⟩ := hu; obtain ⟨u1, r, rfl, h3, h4⟩ := h2; obtain rfl : u1 = _ := h3; obtain rfl : r = [] := h4; exact absurd ha (by simp [af, af1, af0])
theorem suf_app {a p : ByteArray} : sufB (a ++ p) p = true ∧ sufA (a ++ p) p = a := by
  have hz : (a ++ p).size = a.size + p.size := by rw [← toL_len, toL_app, List.length_append, toL_len, toL_len]
  have h1 : sufB (a ++ p) p = true := by
    unfold sufB; rw [decide_eq_true (show p.size ≤ (a ++ p).size by omega), Bool.true_and]; refine decide_eq_true (toL_inj ?_); rw [toL_drop, toL_app, hz, Nat.add_sub_cancel, ← toL_len, List.drop_left]
  refine ⟨h1, ?_⟩; unfold sufA; rw [if_pos h1]; apply toL_inj; rw [toL_take, toL_app, hz, Nat.add_sub_cancel, ← toL_len, List.take_left]
theorem lnA_app {r : ByteArray} (hi : 0 ≤ Go.Lib.indexByte (toL r) 10) : lnA r = cutA 10 r ++ nlS := by
  obtain ⟨k, hk⟩ := Int.eq_ofNat_of_zero_le hi; obtain ⟨h1, h2, h3⟩ := Go.Fs.idx_some hk; unfold lnA cutA; rw [if_neg (by omega), if_neg (by omega), hk, Int.toNat_natCast]; apply toL_inj; rw [toL_app, toL_take, toL_take, List.take_add, h3]; rfl
theorem lnA_suf {r : ByteArray} (hi : 0 ≤ Go.Lib.indexByte (toL r) 10) : sufB (lnA r) nlS = true ∧ sufA (lnA r) nlS = cutA 10 r := by
  rw [lnA_app hi]; exact suf_app
theorem lnA_no {r : ByteArray} (hi : ¬ 0 ≤ Go.Lib.indexByte (toL r) 10) : sufB (lnA r) nlS = false := by
  cases h : sufB (lnA r) nlS with
  | false => rfl
  | true =>
    exfalso; have hl : lnA r = r := if_pos (by omega); rw [hl] at h; unfold sufB at h; simp only [Bool.and_eq_true, decide_eq_true_eq] at h; have h2 := h.2
    have h3 : toL (r.extract (r.size - nlS.size) r.size) = [10] := by rw [h2] <;> rfl
    rw [toL_drop] at h3; exact Go.Fs.idx_none (show Go.Lib.indexByte (toL r) 10 < 0 by omega) 10 (List.mem_of_mem_drop (h3 ▸ List.mem_singleton.2 rfl)) rfl
theorem lnA_size {r : ByteArray} : (lnA r).size ≤ r.size := by
  by_cases hi : 0 ≤ Go.Lib.indexByte (toL r) 10
  · obtain ⟨k, hk⟩ := Int.eq_ofNat_of_zero_le hi; unfold lnA; rw [if_neg (by omega), ← toL_len, toL_take, List.length_take, toL_len]; omega
  exact Nat.le_of_eq (congrArg ByteArray.size (if_pos (by omega)))
end Go.Proofs
namespace Go.Proofs
open Ieee
def q16 (n : Int) : Nat := (single.div (single.write (.number (n < 0) n.natAbs 0)) 1098907648).getD 0
def q16B (n : Int) : Bool := decide (lvlE (q16 n) = 0) && decide (sxE (q16 n) = n) && (single.div (single.write (.number (n < 0) n.natAbs 0)) 1098907648).isSome
theorem q16_all : (List.range 2049).all (fun k => q16B ((k : Int) - 1024)) = true := by decide +kernel
theorem q16_ok {n : Int} (h : -1024 ≤ n ∧ n ≤ 1024) : lvlE (q16 n) = 0 ∧ sxE (q16 n) = n ∧ single.div (single.write (.number (n < 0) n.natAbs 0)) 1098907648 = some (q16 n) := by
  have h1 := List.all_eq_true.1 q16_all (n + 1024).toNat (List.mem_range.2 (by omega)); rw [show (((n + 1024).toNat : Nat) : Int) - 1024 = n by omega] at h1; unfold q16B at h1; simp only [Bool.and_eq_true, decide_eq_true_eq] at h1; refine ⟨h1.1.1, h1.1.2, ?_⟩; obtain ⟨r, hr⟩ := Option.isSome_iff_exists.1 h1.2; rw [q16, hr]; rfl
end Go.Proofs
namespace Go.Proofs
open Ieee
theorem sg_w : single.signWeight = 2147483648 := by decide
theorem sg_b : single.binade = 8388608 := by decide
theorem sg_i : single.infRung = 2139095040 := by decide
theorem sg_l : single.leastPlace = -149 := by decide
theorem sg_f : single.fractionBits = 23 := rfl
theorem rd_word {s : Bool} {e k : Nat} (he : e ≤ 200) (hk : 8388608 ≤ k ∧ k < 16777216) : single.read (single.word s (e * 8388608 + k)) = .number s k ((e : Int) - 149) := by
  have hr : e * 8388608 + k < 2139095040 := by omega
  have hm : single.word s (e * 8388608 + k) % 2147483648 = e * 8388608 + k := by
    unfold Format.word; rw [sg_w]; cases s <;> simp <;> omega
  have hn : (single.word s (e * 8388608 + k) / 2147483648 % 2 == 1) = s := by
    unfold Format.word; rw [sg_w]; cases s
    · rw [if_neg (by decide), show (e * 8388608 + k) / 2147483648 = 0 by omega]; rfl
    rw [if_pos rfl, show (2147483648 + (e * 8388608 + k)) / 2147483648 = 1 by omega]; rfl
  unfold Format.read; simp only [sg_w, sg_b, sg_i, sg_l, hm, hn]; rw [if_neg (by omega), if_pos hr]
  have h1 : 8388608 + (e * 8388608 + k) % 8388608 = k := by omega
  have h2 : (e * 8388608 + k) / 8388608 - 1 = e := by omega
  rw [h1, h2]; congr 1
theorem cut_0 {s : Bool} {n : Nat} : Toward.even.cut s n 0 = n := by
  unfold Toward.cut; simp; exact ⟨by omega, fun h => by omega⟩
theorem cut_bd {s : Bool} {n d : Nat} (hd : d ≤ n.log2) : n / 2 ^ d ≤ Toward.even.cut s n d ∧ Toward.even.cut s n d ≤ n / 2 ^ d + 1 := by
  unfold Toward.cut
  have hm : min d (n.log2 + 2) = d := by omega
  simp only [hm, Nat.one_shiftLeft]; generalize (decide (2 ^ d < 2 * (n % 2 ^ d)) || 2 ^ d == 2 * (n % 2 ^ d) && n / 2 ^ d % 2 == 1) = b; cases b
  · exact ⟨Nat.le_refl _, Nat.le_succ _⟩
  exact ⟨Nat.le_succ _, Nat.le_refl _⟩
theorem cut_ex {s : Bool} {n d : Nat} (hd : d ≤ (n * 2 ^ d).log2) : Toward.even.cut s (n * 2 ^ d) d = n := by
  unfold Toward.cut
  have hm : min d ((n * 2 ^ d).log2 + 2) = d := by omega
  have hp : 0 < 2 ^ d := Nat.two_pow_pos d; simp only [hm, Nat.one_shiftLeft]; rw [Nat.mul_mod_left, Nat.mul_div_cancel _ hp]
  have : (decide (2 ^ d < 2 * 0) || 2 ^ d == 2 * 0 && n % 2 == 1) = false := by
    have h1 : ¬ 2 ^ d < 2 * 0 := by omega
    have h2 : (2 ^ d == 2 * 0) = false := by simp
    rw [decide_eq_false h1, h2]; rfl
  rw [this]; rfl
theorem lg23 {k : Nat} (hk : 8388608 ≤ k ∧ k < 16777216) : k.log2 = 23 := (Nat.log2_eq_iff (by omega)).2 ⟨hk.1, hk.2⟩
theorem lg26 {k : Nat} (hk : 8388608 ≤ k ∧ k < 16777216) : (8 * k).log2 = 26 := (Nat.log2_eq_iff (by omega)).2 ⟨by show 67108864 ≤ _; omega, by show _ < 134217728; omega⟩
theorem div_word {s : Bool} {e k : Nat} (h1 : 4 ≤ e) (he : e ≤ 200) (hk : 8388608 ≤ k ∧ k < 16777216) : single.div (single.word s (e * 8388608 + k)) 1098907648 = some (single.word s ((e - 4) * 8388608 + k)) := by
  have h16 : single.read 1098907648 = .number false 8388608 (-19) := by decide
  unfold Format.div; rw [rd_word he hk, h16]
  have hq : Datum.quotient (single.fractionBits + 2) (.number s k ((e : Int) - 149)) (.number false 8388608 (-19)) = some (.number s (8 * k) ((e : Int) - 156)) := by
    have hm : 23 + 2 + (8388608 : Nat).log2 - k.log2 = 25 := by rw [lg23 hk]; decide
    show (if (8388608 : Nat) = 0 then (if k = 0 then none else some (Datum.infinity (s ^^ false))) else some (Datum.number (s ^^ false) (2 * ((k <<< (23 + 2 + (8388608 : Nat).log2 - k.log2)) / 8388608) + ((k <<< (23 + 2 + (8388608 : Nat).log2 - k.log2)) % 8388608 != 0).toNat) ((e : Int) - 149 - (-19) - ((23 + 2 + (8388608 : Nat).log2 - k.log2 : Nat) : Int) - 1))) = _; rw [if_neg (by decide), hm, Nat.shiftLeft_eq, show (2 : Nat) ^ 25 = 33554432 by decide, show k * 33554432 / 8388608 = 4 * k by omega, show k * 33554432 % 8388608 = 0 by omega, Bool.xor_false, show 2 * (4 * k) + ((0 : Nat) != 0).toNat = 8 * k by show 2 * (4 * k) + 0 = 8 * k; omega, show ((e : Int) - 149 - (-19) - ((25 : Nat) : Int) - 1) = (e : Int) - 156 by omega]
  rw [hq]; show some (single.nearest s (8 * k) ((e : Int) - 156)) = _; congr 1; unfold Format.nearest; rw [if_neg (by omega)]; simp only [lg26 hk, sg_f, sg_l, sg_b, sg_i]
  have h5 : max ((e : Int) - 156 + ((26 : Nat) : Int) - ((23 : Nat) : Int)) (-149) = (e : Int) - 153 := by omega
  rw [h5]
  have h6 : ((e : Int) - 156 - ((e : Int) - 153)).toNat = 0 := by omega
  have h7 : ((e : Int) - 153 - ((e : Int) - 156)).toNat = 3 := by omega
  rw [h6, h7, Nat.shiftLeft_zero, show 8 * k = k * 2 ^ 3 by omega, cut_ex (by rw [show k * 2 ^ 3 = 8 * k by omega, lg26 hk]; omega)]
  have h8 : ((e : Int) - 153 - -149).toNat = e - 4 := by omega
  rw [h8]; congr 1; omega
theorem units_word {s : Bool} {e k : Nat} (he : e ≤ 200) (hk : 8388608 ≤ k ∧ k < 16777216) : u32 (single.word s (e * 8388608 + k)) = some (sg s (k * 2 ^ e)) := by
  show single.units _ = _; unfold Format.units; rw [rd_word he hk]; simp only [sg_l]; rw [show ((e : Int) - 149 - -149).toNat = e by omega]
theorem wr_int {s : Bool} {m : Nat} (h0 : 1024 < m) (h1 : m < 1073741824) : ∃ e k, single.nearest s m 0 = single.word s (e * 8388608 + k) ∧ 4 ≤ e ∧ e ≤ 200 ∧ (8388608 ≤ k ∧ k < 16777216) ∧ 2 ^ 159 < k * 2 ^ e := by
  have hl0 : 10 ≤ m.log2 := (Nat.le_log2 (by omega)).2 (by show 1024 ≤ m; omega); have hl1 : m.log2 < 30 := (Nat.log2_lt (by omega)).2 (by show m < 1073741824; omega); have hlo : 2 ^ m.log2 ≤ m := Nat.log2_self_le (by omega); have hhi : m < 2 ^ (m.log2 + 1) := Nat.lt_log2_self; unfold Format.nearest; rw [if_neg (by omega)]; simp only [sg_f, sg_l, sg_b, sg_i]; generalize hL : m.log2 = L at *
  have hlast : max ((0 : Int) + ((L : Nat) : Int) - ((23 : Nat) : Int)) (-149) = (L : Int) - 23 := by omega
  rw [hlast]; by_cases hd : L ≤ 23
  · have a1 : ((0 : Int) - ((L : Int) - 23)).toNat = 23 - L := by omega
    have a2 : ((L : Int) - 23 - 0).toNat = 0 := by omega
    have a3 : ((L : Int) - 23 - -149).toNat = L + 126 := by omega
    rw [a1, a2, a3, cut_0, Nat.shiftLeft_eq]
    have e1 : 2 ^ L * 2 ^ (23 - L) = 8388608 := by rw [← Nat.pow_add, show L + (23 - L) = 23 by omega]
    have e2 : 2 ^ (L + 1) * 2 ^ (23 - L) = 16777216 := by rw [← Nat.pow_add, show L + 1 + (23 - L) = 24 by omega]
    have hp : 0 < 2 ^ (23 - L) := Nat.two_pow_pos _; have b1 := Nat.mul_le_mul_right (2 ^ (23 - L)) hlo; have b2 := Nat.mul_lt_mul_of_pos_right hhi hp; rw [e1] at b1; rw [e2] at b2
    have hv : m * 2 ^ (23 - L) * 2 ^ (L + 126) = m * 2 ^ 149 := by rw [Nat.mul_assoc, ← Nat.pow_add, show 23 - L + (L + 126) = 149 by omega]
    refine ⟨L + 126, m * 2 ^ (23 - L), ?_, by omega, by omega, ⟨b1, b2⟩, ?_⟩
    · have b3 : (L + 126) * 8388608 ≤ 149 * 8388608 := Nat.mul_le_mul_right _ (by omega); clear hv; rw [Nat.min_eq_left (Nat.le_trans (Nat.add_le_add b3 (Nat.le_of_lt b2)) (by decide))]
    rw [hv]; have := Nat.mul_lt_mul_of_pos_right h0 (Nat.two_pow_pos 149)
    have hc : (2 : Nat) ^ 159 = 1024 * 2 ^ 149 := by rw [show (1024 : Nat) = 2 ^ 10 by decide, ← Nat.pow_add]
    rw [hc]; exact this
  have a1 : ((0 : Int) - ((L : Int) - 23)).toNat = 0 := by omega
  have a2 : ((L : Int) - 23 - 0).toNat = L - 23 := by omega
  have a3 : ((L : Int) - 23 - -149).toNat = L + 126 := by omega
  rw [a1, a2, a3, Nat.shiftLeft_zero]; obtain ⟨c1, c2⟩ := cut_bd (s := s) (n := m) (d := L - 23) (by omega); have hp : 0 < 2 ^ (L - 23) := Nat.two_pow_pos _
  have e1 : 8388608 * 2 ^ (L - 23) = 2 ^ L := by rw [show (8388608 : Nat) = 2 ^ 23 by decide, ← Nat.pow_add, show 23 + (L - 23) = L by omega]
  have e2 : 16777216 * 2 ^ (L - 23) = 2 ^ (L + 1) := by rw [show (16777216 : Nat) = 2 ^ 24 by decide, ← Nat.pow_add, show 24 + (L - 23) = L + 1 by omega]
  have b1 : 8388608 ≤ m / 2 ^ (L - 23) := (Nat.le_div_iff_mul_le hp).2 (by rw [e1]; exact hlo); have b2 : m / 2 ^ (L - 23) < 16777216 := (Nat.div_lt_iff_lt_mul hp).2 (by rw [e2]; exact hhi); generalize Toward.even.cut s m (L - 23) = k at *
  have big : ∀ e k : Nat, 150 ≤ e → 8388608 ≤ k → 2 ^ 159 < k * 2 ^ e := fun e k he hk => by
    have := Nat.mul_le_mul hk (Nat.pow_le_pow_right (show 0 < 2 by decide) he); exact Nat.lt_of_lt_of_le (by decide) this
  by_cases hk : k < 16777216
  · refine ⟨L + 126, k, ?_, by omega, by omega, ⟨by omega, hk⟩, big _ _ (by omega) (by omega)⟩; congr 1; exact Nat.min_eq_left (by omega)
  refine ⟨L + 127, 8388608, ?_, by omega, by omega, ⟨by omega, by omega⟩, big _ _ (by omega) (by omega)⟩; congr 1; rw [Nat.min_eq_left (by omega)]; omega
theorem q16_big {n : Int} (h0 : 1024 < n.natAbs) (h1 : n.natAbs < 1073741824) : lvlE (q16 n) = 3 ∧ single.div (single.write (.number (n < 0) n.natAbs 0)) 1098907648 = some (q16 n) := by
  obtain ⟨e, k, hw, e1, e2, hk, hb⟩ := wr_int (s := decide (n < 0)) h0 h1; have hw : single.write (.number (n < 0) n.natAbs 0) = single.word (decide (n < 0)) (e * 8388608 + k) := hw; have hd := div_word (s := decide (n < 0)) e1 e2 hk; rw [← hw] at hd
  have hq : q16 n = single.word (decide (n < 0)) ((e - 4) * 8388608 + k) := by unfold q16; rw [hd]; rfl
  refine ⟨?_, by rw [hd, hq]⟩; have hu := units_word (s := decide (n < 0)) (e := e - 4) (by omega) hk; rw [← hq] at hu; unfold lvlE; rw [hu]
  have hz : 2 ^ 155 < k * 2 ^ (e - 4) := by
    have : k * 2 ^ e = k * 2 ^ (e - 4) * 16 := by rw [Nat.mul_assoc, show (16 : Nat) = 2 ^ 4 by decide, ← Nat.pow_add, show e - 4 + 4 = e by omega]
    rw [this] at hb
    have : (2 : Nat) ^ 159 = 2 ^ 155 * 16 := by decide
    omega
  have h155 : (2 : Nat) ^ 155 = 45671926166590716193865151022383844364247891968 := by decide
  rw [h155] at hz; show (if _ then (0 : Int) else 3) = 3; rw [if_neg]; rintro ⟨⟨h2, h3⟩, _⟩; generalize k * 2 ^ (e - 4) = u at *; cases hs : decide (n < 0)
  · rw [hs] at h3; have h3 : ((u : Nat) : Int) ≤ 45671926166590716193865151022383844364247891968 := h3; omega
  rw [hs] at h2; have h2 : -45671926166590716193865151022383844364247891968 ≤ -((u : Nat) : Int) := h2; omega
end Go.Proofs
namespace Go.Fs
variable {P : Program} {h : Heap} {S : List Nat}
variable {fl : VL} {σ : Sto} {x y : Operand} {T T' : TypeId} {τ : Ty}
end Go.Fs
namespace Go.Proofs
open Go.Fs Ieee
set_option maxHeartbeats 1000000
def sgB (s : ByteArray) : Bool := decide (1 < s.size) && decide (byteE s 0 = 45)
def sgR (s : ByteArray) : ByteArray := s.extract 1 s.size
def sgK (s : ByteArray) : Bool := if sgB s = true then numK (sgR s) && decide (0 < numV (sgR s)) else numK s
def sgV (s : ByteArray) : Int := if sgB s = true then 0 - numV (sgR s) else numV s
theorem numV_bd {s : ByteArray} : 0 ≤ numV s ∧ numV s < 1000000000 := by
  cases h : numK s with
  | true => exact (dec_num h).2
  | false =>
    unfold numK at h; unfold numV
    cases hn : numL (toL s) with
    | none => exact ⟨by decide, by decide⟩
    | some v => rw [hn] at h; cases h
theorem sgV_bd {s : ByteArray} : -1000000000 < sgV s ∧ sgV s < 1000000000 := by
  have h1 := numV_bd (s := s); have h2 := numV_bd (s := sgR s); unfold sgV; split <;> omega
theorem sg_t {s : ByteArray} (h1 : 1 < s.size) (h2 : byteE s 0 = 45) : sgB s = true := by
  unfold sgB; rw [decide_eq_true h1, decide_eq_true h2] <;> rfl
theorem div32E {p q r : Nat} (h : single.div p q = some r) : fopE .quo .f32 p q = some r := h
end Go.Proofs
namespace Go.Proofs
open Go.Fs
set_option maxHeartbeats 1000000
theorem decL_dig (n : Nat) : decL n = Lib.decDigits n := by
  induction n using Nat.strongRecOn with
  | _ n ih =>
    by_cases h : n < 10
    · rw [decL_lt h, Lib.decDigits, dif_pos h] <;> rfl
    rw [decL_ge (by omega), Lib.decDigits, dif_neg h, ih (n / 10) (by omega)] <;> rfl
theorem decFrom_val : ∀ {l : List UInt8} {acc : Nat}, (∀ c ∈ l, digB c = true) → Lib.decFrom acc l = some (valL l acc)
  | [], acc, _ => rfl
  | c :: r, acc, h => by
    have hc : 48 ≤ c.toNat ∧ c.toNat ≤ 57 := of_decide_eq_true (h c List.mem_cons_self); have hd : Lib.digitVal c = some (c.toNat - 48) := if_pos hc; show (match Lib.digitVal c with | some d => Lib.decFrom (acc * 10 + d) r | none => none) = _; rw [hd]; show Lib.decFrom (acc * 10 + (c.toNat - 48)) r = _; rw [decFrom_val fun x hx => h x (List.mem_cons_of_mem _ hx), Nat.mul_comm]; rfl
theorem dig_of (n : Nat) : ∀ c ∈ decL n, digB c = true := by
  induction n using Nat.strongRecOn with
  | _ n ih =>
    by_cases h : n < 10
    · rw [decL_lt h]; intro c hc; rw [List.mem_singleton.1 hc]; refine decide_eq_true ?_; rw [digO_nat h]; omega
    rw [decL_ge (by omega)]; intro c hc; rcases List.mem_append.1 hc with hc | hc
    · exact ih (n / 10) (by omega) c hc
    rw [List.mem_singleton.1 hc]; refine decide_eq_true ?_; rw [digO_nat (by omega)]; omega
theorem decL_ne (n : Nat) : decL n ≠ [] := by
  by_cases h : n < 10
  · rw [decL_lt h]; simp
  rw [decL_ge (by omega)]; simp
theorem decNat_dec (n : Nat) : Lib.decNat (decL n) = some n := by
  unfold Lib.decNat
  have : (decL n).isEmpty = false := by
    cases h : decL n with
    | nil => exact absurd h (decL_ne n)
    | cons a r => rfl
  rw [this]; show Lib.decFrom 0 (decL n) = _; rw [decFrom_val (dig_of n), val_dec]
theorem lt_of_len {n m : Nat} (h : (decL n).length ≤ m) : n < 10 ^ m := by
  have h1 := val_lt _ (decL n) rfl (dig_of n); rw [val_dec] at h1; exact Nat.lt_of_lt_of_le h1 (Nat.pow_le_pow_right (by decide) h)
theorem numK_dec {s : ByteArray} : numK s = true ↔ ∃ n : Nat, n < 1000000000 ∧ toL s = decL n := by
  constructor
  · intro h; obtain ⟨h1, h2, h3⟩ := dec_num h; obtain ⟨k, hk⟩ := Int.eq_ofNat_of_zero_le h2; rw [hk] at h1 h3; refine ⟨k, by omega, ?_⟩; rw [← h1, decS_nat (by omega), toL_ofL]
  rintro ⟨n, hn, he⟩
  have : s = decS ((n : Nat) : Int) := by rw [decS_nat (by omega), ← he, ofL_toL]
  rw [this]; exact (numL_dec ⟨by omega, by omega⟩).1
theorem numV_dec {s : ByteArray} {n : Nat} (hn : n < 1000000000) (he : toL s = decL n) : numV s = ((n : Nat) : Int) := by
  have : s = decS ((n : Nat) : Int) := by rw [decS_nat (by omega), ← he, ofL_toL]
  rw [this]; exact (numL_dec ⟨by omega, by omega⟩).2
theorem dec_hd {n : Nat} {b : UInt8} {r : List UInt8} (h : decL n = b :: r) : b ≠ 45 ∧ b ≠ 43 := by
  have hd : 48 ≤ b.toNat ∧ b.toNat ≤ 57 := of_decide_eq_true (dig_of n b (by rw [h]; exact List.mem_cons_self)); refine ⟨fun e => ?_, fun e => ?_⟩ <;> (subst e; exact absurd hd (by decide))
theorem len9 {n : Nat} (h : n < 1000000000) : (decL n).length ≤ 9 := by
  have e : (10 : Nat) ^ (8 + 1) = 1000000000 := by decide
  exact dec_len 8 n (by omega)
theorem ato_nat {s : ByteArray} {n : Nat} (hn : n < 1000000000) (he : toL s = decL n) : atoV s = ((n : Nat) : Int) ∧ atoK s = true := by
  have h9 := len9 hn
  have ha : Lib.atoiAll s.data.toList = .ok ((n : Nat) : Int) := by
    show Lib.atoiAll (toL s) = _; rw [he, Lib.atoiAll_short _ (by omega)]
    cases hl : decL n with
    | nil => exact absurd hl (decL_ne n)
    | cons b r =>
      obtain ⟨h45, h43⟩ := dec_hd hl; have hd := decNat_dec n; rw [hl] at hd; show Lib.NumEnd.ofOption (if b == 45 then _ else if b == 43 then _ else (Lib.decNat (b :: r)).map fun (m : Nat) => (m : Int)) = _; rw [if_neg (by simpa using h45), if_neg (by simpa using h43), hd]; rfl
  refine ⟨by unfold atoV; rw [ha], ?_⟩; unfold atoK; rw [ha]
  have hi : (⟨(Lib.itoa ((n : Nat) : Int)).toArray⟩ : ByteArray) = s := by
    rw [Lib.itoa_nonneg, ← decL_dig, ← he]; exact ofL_toL s
  have hs : noSign s.data.toList = decL n := by
    show noSign (toL s) = _; rw [he]; unfold noSign
    cases hl : decL n with
    | nil => exact absurd hl (decL_ne n)
    | cons b r =>
      obtain ⟨h45, h43⟩ := dec_hd hl; rw [if_neg (by simpa using h45)]
  show (decide ((noSign s.data.toList).length ≤ 9) && decide _) = true; rw [hs, decide_eq_true h9, decide_eq_true hi] <;> rfl
theorem ato_neg {s : ByteArray} {n : Nat} (h1 : 1 ≤ n) (hn : n < 1000000000) (he : toL s = 45 :: decL n) : atoV s = -((n : Nat) : Int) ∧ atoK s = true := by
  have h9 := len9 hn
  have ha : Lib.atoiAll s.data.toList = .ok (-((n : Nat) : Int)) := by
    show Lib.atoiAll (toL s) = _; rw [he, Lib.atoiAll_short _ (by simp; omega)]; show Lib.NumEnd.ofOption (if (45 : UInt8) == 45 then (Lib.decNat (decL n)).map fun (m : Nat) => -(m : Int) else if (45 : UInt8) == 43 then (Lib.decNat (decL n)).map fun (m : Nat) => (m : Int) else (Lib.decNat (45 :: decL n)).map fun (m : Nat) => (m : Int)) = _; rw [if_pos (by decide), decNat_dec]; rfl
  refine ⟨by unfold atoV; rw [ha], ?_⟩; unfold atoK; rw [ha]
  have hi : (⟨(Lib.itoa (-((n : Nat) : Int))).toArray⟩ : ByteArray) = s := by
    rw [Lib.itoa_neg n h1, ← decL_dig, ← he]; exact ofL_toL s
  have hs : noSign s.data.toList = decL n := by
    show noSign (toL s) = _; rw [he]; exact if_pos rfl
  show (decide ((noSign s.data.toList).length ≤ 9) && decide _) = true; rw [hs, decide_eq_true h9, decide_eq_true hi] <;> rfl
theorem ato_inv {s : ByteArray} (h : atoK s = true) : (∃ n : Nat, n < 1000000000 ∧ toL s = decL n) ∨ ∃ n : Nat, 1 ≤ n ∧ n < 1000000000 ∧ toL s = 45 :: decL n := by
  unfold atoK at h; split at h
  · rename_i v hv; simp only [Bool.and_eq_true, decide_eq_true_eq] at h; obtain ⟨h9, hi⟩ := h
    have e10 : (10 : Nat) ^ 9 = 1000000000 := by decide
    by_cases hz : 0 ≤ v
    · obtain ⟨n, rfl⟩ := Int.eq_ofNat_of_zero_le hz
      have hl : toL s = decL n := by
        rw [← hi, Lib.itoa_nonneg, ← decL_dig] <;> rfl
      have hs : noSign s.data.toList = decL n := by
        show noSign (toL s) = _; rw [hl]; unfold noSign
        cases hd : decL n with
        | nil => exact absurd hd (decL_ne n)
        | cons b r =>
          obtain ⟨h45, h43⟩ := dec_hd hd; rw [if_neg (by simpa using h45)]
      rw [hs] at h9; have := lt_of_len h9; exact .inl ⟨n, by omega, hl⟩
    obtain ⟨n, hn⟩ := Int.eq_ofNat_of_zero_le (show 0 ≤ -v by omega)
    obtain rfl : v = -((n : Nat) : Int) := by omega
    have hl : toL s = 45 :: decL n := by
      rw [← hi, Lib.itoa_neg n (by omega), ← decL_dig] <;> rfl
    have hs : noSign s.data.toList = decL n := by
      show noSign (toL s) = _; rw [hl]; exact if_pos rfl
    rw [hs] at h9; have := lt_of_len h9; exact .inr ⟨n, by omega, by omega, hl⟩
  cases h
end Go.Proofs
namespace Go.Proofs
open Go.Fs
set_option maxHeartbeats 1000000
theorem head_byte {s : ByteArray} {c : UInt8} {r : List UInt8} (h : toL s = c :: r) : byteE s 0 = ((c.toNat : Nat) : Int) := by
  have : s = ofL (c :: r) := by rw [← h, ofL_toL]
  subst this; rfl
theorem sgR_toL {s : ByteArray} : toL (sgR s) = (toL s).drop 1 := toL_drop s 1
theorem sgB_t {s : ByteArray} {l : List UInt8} (h : toL s = 45 :: l) (hl : l ≠ []) : sgB s = true := by
  have hz : 1 < s.size := by
    rw [← toL_len, h, List.length_cons]; have := List.length_pos_iff.2 hl; omega
  exact sg_t hz (by rw [head_byte h]; rfl)
theorem sgB_inv {s : ByteArray} (h : sgB s = true) : toL s = 45 :: toL (sgR s) := by
  unfold sgB at h; simp only [Bool.and_eq_true, decide_eq_true_eq] at h; rw [sgR_toL]
  cases hl : toL s with
  | nil =>
    have := h.1; rw [← toL_len, hl] at this
    exact absurd this (by decide)
  | cons c r =>
    have h2 := h.2; rw [head_byte hl] at h2; have : c = 45 := UInt8.toNat_inj.1 (by show c.toNat = 45; omega); rw [this] <;> rfl
theorem sgB_f {s : ByteArray} {n : Nat} (h : toL s = decL n) : ¬ sgB s = true := fun hb => by
  have := sgB_inv hb; rw [h] at this; exact (dec_hd this).1 rfl
theorem sg_nat {s : ByteArray} {n : Nat} (hn : n < 1000000000) (h : toL s = decL n) : sgK s = true ∧ sgV s = ((n : Nat) : Int) := by
  have hb := sgB_f h; unfold sgK sgV; rw [if_neg hb, if_neg hb]; exact ⟨numK_dec.2 ⟨n, hn, h⟩, numV_dec hn h⟩
theorem sg_neg {s : ByteArray} {n : Nat} (h1 : 1 ≤ n) (hn : n < 1000000000) (h : toL s = 45 :: decL n) : sgK s = true ∧ sgV s = -((n : Nat) : Int) := by
  have hb := sgB_t h (decL_ne n)
  have hr : toL (sgR s) = decL n := by rw [sgR_toL, h] <;> rfl
  unfold sgK sgV; rw [if_pos hb, if_pos hb, numK_dec.2 ⟨n, hn, hr⟩, numV_dec hn hr, decide_eq_true (show (0 : Int) < ((n : Nat) : Int) by omega)]; exact ⟨rfl, by omega⟩
theorem sg_inv {s : ByteArray} (h : sgK s = true) : (∃ n : Nat, n < 1000000000 ∧ toL s = decL n) ∨ ∃ n : Nat, 1 ≤ n ∧ n < 1000000000 ∧ toL s = 45 :: decL n := by
  unfold sgK at h; split at h
  · rename_i hb; simp only [Bool.and_eq_true, decide_eq_true_eq] at h; obtain ⟨n, hn, he⟩ := numK_dec.1 h.1; rw [numV_dec hn he] at h; exact .inr ⟨n, by omega, hn, by rw [sgB_inv hb, he]⟩
  exact .inl (numK_dec.1 h)
theorem ato_sg {s : ByteArray} : atoK s = sgK s ∧ (sgK s = true → atoV s = sgV s) := by
  have h2 : sgK s = true → atoK s = true ∧ atoV s = sgV s := fun h => by
    rcases sg_inv h with ⟨n, hn, he⟩ | ⟨n, h1, hn, he⟩
    · obtain ⟨a, b⟩ := ato_nat hn he; exact ⟨b, a.trans (sg_nat hn he).2.symm⟩
    obtain ⟨a, b⟩ := ato_neg h1 hn he; exact ⟨b, a.trans (sg_neg h1 hn he).2.symm⟩
  refine ⟨?_, fun h => (h2 h).2⟩
  cases hs : sgK s with
  | true => exact (h2 hs).1
  | false =>
    cases ha : atoK s with
    | false => rfl
    | true =>
      rcases ato_inv ha with ⟨n, hn, he⟩ | ⟨n, h1, hn, he⟩
      · rw [(sg_nat hn he).1] at hs; cases hs
      rw [(sg_neg h1 hn he).1] at hs; cases hs
theorem ato_num {s : ByteArray} : (atoK s && decide (0 ≤ atoV s)) = numK s ∧ (numK s = true → atoV s = numV s) := by
  have h2 : numK s = true → atoK s = true ∧ atoV s = numV s := fun h => by
    obtain ⟨n, hn, he⟩ := numK_dec.1 h; obtain ⟨a, b⟩ := ato_nat hn he; exact ⟨b, a.trans (numV_dec hn he).symm⟩
  refine ⟨?_, fun h => (h2 h).2⟩
  cases hs : numK s with
  | true =>
    obtain ⟨a, b⟩ := h2 hs
    rw [a, b, decide_eq_true numV_bd.1] <;> rfl
  | false =>
    cases ha : atoK s with
    | false => rfl
    | true =>
      rcases ato_inv ha with ⟨n, hn, he⟩ | ⟨n, h1, hn, he⟩
      · rw [numK_dec.2 ⟨n, hn, he⟩] at hs; cases hs
      rw [(ato_neg h1 hn he).1, decide_eq_false (show ¬ (0 : Int) ≤ -((n : Nat) : Int) by omega)] <;> rfl
end Go.Proofs
namespace Go.Fs
variable {P : Program} {h h2 : Heap} {S S' : List Nat} {w : Value} {e e0 e1 e2 : TypeId} {τ τ0 τ1 τ2 : Ty}
end Go.Fs
namespace Go.Fs
variable {P : Program} {orc : FuncId → List Value → Heap → Option (Value × Heap)} {rnd : Option Nat} {h h' h0 h1 h2 : Heap} {S S' S0 S1 S2 B G : List Nat} {σ σ' σr γ : Sto} {t t' : Tr} {ms : List Nat} {fl : VL} {ops : Array Oper} {n i mem : Nat} {l : List Oper} {K : VL → Sto → Prop} {Q : Ex → VL → Sto → Prop} {w : Value} {τ : Ty} {x y : Operand} {T T' : TypeId}
theorem CalmV.eqT {a b : Int} {k : IntKind} (hx : evV fl x = some (.v (.int k) a) := by rfl) (hy : evV fl y = some (.v (.int k) b) := by rfl) (h : a = b) : CalmV P fl σ (.binOp .eql T x y T') (.v .bool true) := by
  have := CalmV.eql (P := P) (σ := σ) (T := T) (T' := T') hx hy
  rwa [decide_eq_true h] at this
theorem CalmV.eqF {a b : Int} {k : IntKind} (hx : evV fl x = some (.v (.int k) a) := by rfl) (hy : evV fl y = some (.v (.int k) b) := by rfl) (h : a ≠ b) : CalmV P fl σ (.binOp .eql T x y T') (.v .bool false) := by
  have := CalmV.eql (P := P) (σ := σ) (T := T) (T' := T') hx hy
  rwa [decide_eq_false h] at this
end Go.Fs
namespace Go.Fs
variable {P : Program} {orc : FuncId → List Value → Heap → Option (Value × Heap)} {rnd : Option Nat} {h h' h0 h1 h2 : Heap} {S S' S0 S1 S2 B G : List Nat} {σ σ' σr γ : Sto}
end Go.Fs
namespace Go.Proofs
open Go.Fs
set_option maxHeartbeats 1000000
abbrev y47 : Ty := (.sl .str)
theorem vt4 : ValT Tryz.prog 4 .bool := valT_of (by kernel_rfl)
theorem vt47 : ValT Tryz.prog 47 y47 := valT_of (by kernel_rfl)
abbrev Tk := List ByteArray × Bool
def pkw (s : Tk) : ByteArray := s.1.headD ByteArray.empty
def pkn (s : Tk) : Tk := if s.1.headD ByteArray.empty = ByteArray.empty then (s.1, true) else (s.1.tail, s.2)
def pkg (s : Tk) : Tk := ((pkn s).1, (pkn s).2 || !atoK (pkw s))
def pkp (s : Tk) : Tk := ((pkg s).1, (pkg s).2 || decide (atoV (pkw s) < 0))
theorem pkn_no {r : List ByteArray} {b : Bool} : pkn (ByteArray.empty :: r, b) = (ByteArray.empty :: r, true) := if_pos rfl
theorem pkn_yes {a : ByteArray} {r : List ByteArray} {b : Bool} (h : a ≠ ByteArray.empty) : pkn (a :: r, b) = (r, b) := if_neg h
theorem pkw_size {s : Tk} {m : Nat} (h : ∀ x ∈ s.1, x.size < m + 1) : (pkw s).size < m + 1 := by
  obtain ⟨l, b⟩ := s
  cases l with
  | nil => exact Nat.zero_lt_succ _
  | cons a r => exact h a List.mem_cons_self
theorem pkn_mem {s : Tk} {x : ByteArray} (h : x ∈ (pkn s).1) : x ∈ s.1 := by
  unfold pkn at h; split at h
  · exact h
  exact List.mem_of_mem_tail h
theorem sInt_ok {s : ByteArray} (hs : s.size ≤ 1000000000) : VF Tryz.prog OA 137 [St s] (.tup [I (atoV s), B (atoK s)]) := VF.ato fun h => by
  show (bif Nat.ble s.size 1000000000 then some _ else none) = _; rw [show Nat.ble s.size 1000000000 = true by rw [Nat.ble_eq]; exact hs] <;> rfl
theorem sWord_ok {w : Value} {l : List ByteArray} {b : Bool} : VFG Tryz.prog OA 97 [.raw w] [(w, .var [.v (.sl .str) l, B b])] (fun r g => r = St (pkw (l, b)) ∧ g = [(w, .var [.v (.sl .str) (pkn (l, b)).1, B (pkn (l, b)).2])]) := by
  refine VFG.enterK Tryz.func97 rfl (fun _ _ => rfl) rfl ?_; show VC _ _ _ _ _ [(0, .raw w)] [(w, .var [.v (.sl .str) l, B b])] _
  match l with
  | [] =>
    refine VC.seq (VC.text ?_); refine VO.c (.assign rfl) ?_; refine VO.go (VC.seq (VC.seq (VC.text ?_))); refine VO.c (.move rfl) (VO.c (.nilO m0) (VO.c (.faO (k := 0) m0) ?_)); refine VO.r (.ldF (k := 0) m0 vt47) ?_; refine VO.r (.len el47) ?_; refine VO.c (.eqT (h := rfl)) (VO.c (.move rfl) (VO.skip (VO.skip ?_))); refine VO.skip (VO.skip (VO.skip (VO.skip ?_))); refine VO.skip (VO.c (.pickT rfl rfl) (VO.go ?_)); refine VC.condT rfl ?_; refine VC.seq (VC.text ?_); refine VO.c (.move rfl) (VO.c (.nilO m0) (VO.c (.faO (k := 1) m0) ?_)); refine VO.setF (cs' := [.v (.sl .str) [], B true]) 1 vt4 .v ?_; refine VO.go (VC.seq (VC.text ?_)); refine VO.c (.assign rfl) (VO.go ?_); refine VC.ret ?_
    exact ⟨rfl, [St ByteArray.empty], .cons evT .nil, ⟨rfl, rfl⟩, var_keep⟩
  | a :: r =>
    by_cases ha : a = ByteArray.empty
    · subst ha; rw [pkn_no]; refine VC.seq (VC.text ?_); refine VO.c (.assign rfl) ?_; refine VO.go (VC.seq (VC.seq (VC.text ?_))); refine VO.c (.move rfl) (VO.c (.nilO m0) (VO.c (.faO (k := 0) m0) ?_)); refine VO.r (.ldF (k := 0) m0 vt47) ?_; refine VO.r (.len el47) ?_; refine VO.c (.eqF (h := by simp; omega)) (VO.c (.move rfl) (VO.c (.move rfl) (VO.c (.nilO m0) ?_))); refine VO.c (.faO (k := 0) m0) ?_; refine VO.r (.ldF (k := 0) m0 vt47) ?_; refine VO.c (.ix (j := 0) rfl rfl el47 (by simp)) ?_; refine VO.r (.ld vt9) ?_; refine VO.c (.seqT rfl) (VO.c (.pickF rfl rfl) (VO.go ?_)); refine VC.condT rfl ?_; refine VC.seq (VC.text ?_); refine VO.c (.move rfl) (VO.c (.nilO m0) (VO.c (.faO (k := 1) m0) ?_)); refine VO.setF (cs' := [.v (.sl .str) (ByteArray.empty :: r), B true]) 1 vt4 .v ?_; refine VO.go (VC.seq (VC.text ?_)); refine VO.c (.assign rfl) (VO.go ?_); refine VC.ret ?_; exact ⟨rfl, [St ByteArray.empty], .cons evT .nil, ⟨rfl, rfl⟩, var_keep⟩
    rw [pkn_yes ha]; refine VC.seq (VC.text ?_); refine VO.c (.assign rfl) ?_; refine VO.go (VC.seq (VC.seq (VC.text ?_))); refine VO.c (.move rfl) (VO.c (.nilO m0) (VO.c (.faO (k := 0) m0) ?_)); refine VO.r (.ldF (k := 0) m0 vt47) ?_; refine VO.r (.len el47) ?_; refine VO.c (.eqF (h := by simp; omega)) (VO.c (.move rfl) (VO.c (.move rfl) (VO.c (.nilO m0) ?_))); refine VO.c (.faO (k := 0) m0) ?_; refine VO.r (.ldF (k := 0) m0 vt47) ?_; refine VO.c (.ix (j := 0) rfl rfl el47 (by simp)) ?_; refine VO.r (.ld vt9) ?_; refine VO.c (.seqF ha) (VO.c (.pickF rfl rfl) (VO.go ?_)); refine VC.condF rfl ?_; refine VC.skip (VC.seq (VC.text ?_)); refine VO.c (.move rfl) (VO.c (.nilO m0) (VO.c (.faO (k := 0) m0) ?_)); refine VO.r (.ldF (k := 0) m0 vt47) ?_; refine VO.c (.ix (j := 0) rfl rfl el47 (by simp)) ?_; refine VO.r (.ld vt9) ?_; refine VO.c (.assign rfl) ?_; refine VO.go (VC.seq (VC.text ?_)); refine VO.c (.move rfl) (VO.c (.move rfl) (VO.c (.nilO m0) (VO.c (.faO (k := 0) m0) ?_))); refine VO.r (.ldF (k := 0) m0 vt47) ?_; refine VO.r (.cutL rfl rfl el47 (by simp; omega)) ?_; refine VO.c (.nilO m0) (VO.c (.faO (k := 0) m0) ?_); refine VO.mk0 (MakeV.setF (k := 0) vt47 .v (Nat.le_of_ble_eq_true rfl) (.inl rfl) rfl rfl) ?_; rintro _ _ ⟨rfl, rfl⟩; refine VO.go (VC.seq (VC.text ?_)); refine VO.c (.move rfl) (VO.c (.assign rfl) (VO.go ?_)); refine VC.ret ?_; exact ⟨rfl, [St a], .cons evT .nil, ⟨rfl, rfl⟩, var_keep⟩
theorem sSgn_ok {w : Value} {s : Tk} (hs : ∀ x ∈ s.1, x.size < 100000) : VFG Tryz.prog OA 99 [.raw w] [(w, .var [.v (.sl .str) s.1, B s.2])] (fun r g => r = I (atoV (pkw s)) ∧ g = [(w, .var [.v (.sl .str) (pkg s).1, B (pkg s).2])]) := by
  refine VFG.enterK Tryz.func99 rfl (fun _ _ => rfl) rfl ?_; show VC _ _ _ _ _ [(0, .raw w)] [(w, .var [.v (.sl .str) s.1, B s.2])] _; have hw2 : (pkw s).size < 100000 := pkw_size hs; refine VC.seq (VC.text ?_); refine VO.c (.assign rfl) ?_; refine VO.go (VC.seq (VC.text ?_)); refine VO.c (.move rfl) ?_; refine VO.callG [(w, .var [.v (.sl .str) s.1, B s.2])] rfl rfl rfl (VFG.call sWord_ok) ?_; rintro _ _ ⟨rfl, rfl⟩; refine VO.call rfl rfl (VF.call (sInt_ok (s := pkw s) (by omega))) ?_; refine VO.c (.move rfl) (VO.c (.extract) (VO.c (.extract) (VO.c (.assign rfl) ?_))); refine VO.c (.assign rfl) (VO.go ?_); have htv : pkg s = ((pkn s).1, (pkn s).2 || !atoK (pkw s)) := rfl; rw [htv]; generalize (pkn s).1 = l2; generalize (pkn s).2 = q; show VC _ _ _ _ _ _ [(w, .var [.v (.sl .str) l2, B q])] _; refine VC.seq (VC.text ?_); refine VO.c (.move rfl) (VO.c (.move rfl) (VO.c (.nilO m0) (VO.c (.faO (k := 1) m0) ?_))); refine VO.r (.ldF (k := 1) m0 vt4) ?_; refine VO.c (.move rfl) ?_; cases q
  · refine VO.c (.move rfl) (VO.c (.not) (VO.c (.pickF rfl rfl) (VO.c (.nilO m0) ?_))); refine VO.c (.faO (k := 1) m0) ?_; refine VO.mk0 (MakeV.setF (k := 1) vt4 .v (Nat.le_of_ble_eq_true rfl) (.inl rfl) rfl rfl) ?_; rintro _ _ ⟨rfl, rfl⟩; refine VO.go (VC.seq (VC.text ?_)); refine VO.c (.move rfl) (VO.c (.assign rfl) (VO.go ?_)); refine VC.ret ?_; exact ⟨rfl, [I (atoV (pkw s))], .cons evT .nil, ⟨rfl, rfl⟩, var_keep⟩
  refine VO.skip (VO.skip (VO.c (.pickT rfl rfl) (VO.c (.nilO m0) ?_))); refine VO.c (.faO (k := 1) m0) ?_; refine VO.mk0 (MakeV.setF (k := 1) vt4 .v (Nat.le_of_ble_eq_true rfl) (.inl rfl) rfl rfl) ?_; rintro _ _ ⟨rfl, rfl⟩; refine VO.go (VC.seq (VC.text ?_)); refine VO.c (.move rfl) (VO.c (.assign rfl) (VO.go ?_)); refine VC.ret ?_; exact ⟨rfl, [I (atoV (pkw s))], .cons evT .nil, ⟨rfl, rfl⟩, var_keep⟩
theorem sPla_ok {w : Value} {s : Tk} (hs : ∀ x ∈ s.1, x.size < 100000) : VFG Tryz.prog OA 98 [.raw w] [(w, .var [.v (.sl .str) s.1, B s.2])] (fun r g => r = I (atoV (pkw s)) ∧ g = [(w, .var [.v (.sl .str) (pkp s).1, B (pkp s).2])]) := by
  refine VFG.enterK Tryz.func98 rfl (fun _ _ => rfl) rfl ?_; show VC _ _ _ _ _ [(0, .raw w)] [(w, .var [.v (.sl .str) s.1, B s.2])] _; refine VC.seq (VC.text ?_); refine VO.c (.assign rfl) ?_; refine VO.go (VC.seq (VC.text ?_)); refine VO.c (.move rfl) ?_; refine VO.callG [(w, .var [.v (.sl .str) s.1, B s.2])] rfl rfl rfl (VFG.call (sSgn_ok hs)) ?_; rintro _ _ ⟨rfl, rfl⟩; refine VO.c (.assign rfl) (VO.go ?_); have htv : pkp s = ((pkg s).1, (pkg s).2 || decide (atoV (pkw s) < 0)) := rfl; rw [htv]; generalize (pkg s).1 = l2; generalize (pkg s).2 = q; show VC _ _ _ _ _ _ [(w, .var [.v (.sl .str) l2, B q])] _; refine VC.seq (VC.text ?_); refine VO.c (.move rfl) (VO.c (.move rfl) (VO.c (.nilO m0) (VO.c (.faO (k := 1) m0) ?_))); refine VO.r (.ldF (k := 1) m0 vt4) ?_; refine VO.c (.move rfl) ?_; cases q
  · refine VO.c (.move rfl) (VO.c (.lss) (VO.c (.pickF rfl rfl) (VO.c (.nilO m0) ?_))); refine VO.c (.faO (k := 1) m0) ?_; refine VO.mk0 (MakeV.setF (k := 1) vt4 .v (Nat.le_of_ble_eq_true rfl) (.inl rfl) rfl rfl) ?_; rintro _ _ ⟨rfl, rfl⟩; refine VO.go (VC.seq (VC.text ?_)); refine VO.c (.move rfl) (VO.c (.assign rfl) (VO.go ?_)); refine VC.ret ?_; exact ⟨rfl, [I (atoV (pkw s))], .cons evT .nil, ⟨rfl, rfl⟩, var_keep⟩
  refine VO.skip (VO.skip (VO.c (.pickT rfl rfl) (VO.c (.nilO m0) ?_))); refine VO.c (.faO (k := 1) m0) ?_; refine VO.mk0 (MakeV.setF (k := 1) vt4 .v (Nat.le_of_ble_eq_true rfl) (.inl rfl) rfl rfl) ?_; rintro _ _ ⟨rfl, rfl⟩; refine VO.go (VC.seq (VC.text ?_)); refine VO.c (.move rfl) (VO.c (.assign rfl) (VO.go ?_)); refine VC.ret ?_; exact ⟨rfl, [I (atoV (pkw s))], .cons evT .nil, ⟨rfl, rfl⟩, var_keep⟩
end Go.Proofs
namespace Go.Proofs
open Go.Fs Ieee
set_option maxHeartbeats 4000000
abbrev y182 : Ty := (.pair (.sl .str) .bool)
theorem zt182 : ZerT Tryz.prog 182 y182 := zerT_of (z := .agg #[.slice none 0 0, .bool false]) (by kernel_rfl) rfl rfl
theorem bt60 : BldT Tryz.prog 60 y60 [(0, 1), (1, 1), (2, 1), (3, 1), (4, 1)] := bldT_of zt60 rfl (by kernel_rfl)
theorem bt182 : BldT Tryz.prog 182 y182 [(0, 1), (1, 1)] := bldT_of zt182 rfl (by kernel_rfl)
theorem CalmV.isT {P : Program} {fl : VL} {σ : Sto} {op : Op} {p : Prop} {i : Decidable p} (hc : CalmV P fl σ op (.v .bool (@decide p i))) (h : p) : CalmV P fl σ op (.v .bool true) := by
  rwa [decide_eq_true h] at hc
theorem CalmV.isF {P : Program} {fl : VL} {σ : Sto} {op : Op} {p : Prop} {i : Decidable p} (hc : CalmV P fl σ op (.v .bool (@decide p i))) (h : ¬ p) : CalmV P fl σ op (.v .bool false) := by
  rwa [decide_eq_false h] at hc
theorem rd_le {s : Bool} {r : Nat} (h : r ≤ 2139095040) : (∃ a m p, single.read (single.word s r) = .number a m p) ∨ ∃ a, single.read (single.word s r) = .infinity a := by
  have hm : single.word s r % 2147483648 = r := by
    unfold Format.word; rw [sg_w]; cases s <;> simp <;> omega
  unfold Format.read; simp only [sg_w, sg_b, sg_i, sg_l, hm]; split
  · exact .inl ⟨_, _, _, rfl⟩
  split
  · exact .inl ⟨_, _, _, rfl⟩
  rw [if_pos (by omega)]; exact .inr ⟨_, rfl⟩
theorem q16_any (n : Int) : single.div (single.write (.number (n < 0) n.natAbs 0)) 1098907648 = some (q16 n) := by
  have hw : ∃ r, r ≤ 2139095040 ∧ single.write (.number (n < 0) n.natAbs 0) = single.word (decide (n < 0)) r := by
    show ∃ r, r ≤ 2139095040 ∧ single.nearest _ _ _ = _; unfold Format.nearest; split
    · exact ⟨0, by decide, rfl⟩
    exact ⟨_, Nat.le_trans (Nat.min_le_right _ _) (Nat.le_of_eq sg_i), rfl⟩
  obtain ⟨r, hr, hw⟩ := hw
  have h16 : single.read 1098907648 = .number false 8388608 (-19) := by decide
  have hs : ∃ q, single.div (single.write (.number (n < 0) n.natAbs 0)) 1098907648 = some q := by
    unfold Format.div; rw [hw, h16]; rcases rd_le (s := decide (n < 0)) hr with ⟨a, m, p, h⟩ | ⟨a, h⟩ <;> rw [h] <;> exact ⟨_, rfl⟩
  obtain ⟨q, hq⟩ := hs; unfold q16; rw [hq] <;> rfl
def pieWd : ByteArray := ⟨#[112, 105, 101, 99, 101]⟩
def finP : Nat → Tk → List Int → Tk × List Int
  | 0, s, o => (s, o)
  | n + 1, s, o => if s.1.length ≠ 0 ∧ s.2 = false then finP n (pkg s) (o ++ [atoV (pkw s)]) else (s, o)
def muP (s : Tk) : Nat := if s.2 = true then 0 else s.1.length + 1
theorem pkg_mu {s : Tk} (h1 : s.1.length ≠ 0) (h2 : s.2 = false) : muP (pkg s) < muP s := by
  obtain ⟨l, b⟩ := s; have h2 : b = false := h2; subst h2
  cases l with
  | nil => exact absurd rfl h1
  | cons a r =>
    have e : muP (a :: r, false) = r.length + 1 + 1 := rfl; rw [e]; by_cases ha : a = ByteArray.empty
    · subst ha
      have : (pkg (ByteArray.empty :: r, false)).2 = true := by unfold pkg; rw [pkn_no] <;> rfl
      unfold muP; rw [if_pos this]; omega
    unfold muP; split
    · omega
    have : (pkg (a :: r, false)).1 = r := by unfold pkg; rw [pkn_yes ha]
    rw [this]; omega
theorem finP_s {n : Nat} {s : Tk} {o : List Int} (h1 : s.1.length ≠ 0) (h2 : s.2 = false) : finP (n + 1) s o = finP n (pkg s) (o ++ [atoV (pkw s)]) := if_pos ⟨h1, h2⟩
theorem finP_e {n : Nat} {s : Tk} {o : List Int} (h : ¬ (s.1.length ≠ 0 ∧ s.2 = false)) : finP n s o = (s, o) := by
  cases n with
  | zero => rfl
  | succ n => exact if_neg h
theorem pkn_len {s : Tk} : (pkn s).1.length ≤ s.1.length := by
  unfold pkn; split
  · exact Nat.le_refl _
  rw [List.length_tail]; omega
abbrev s1P (W : List ByteArray) : Tk := pkn (W, false)
abbrev s2P (W : List ByteArray) : Tk := pkp (s1P W)
abbrev s3P (W : List ByteArray) : Tk := pkn (s2P W)
abbrev s4P (W : List ByteArray) : Tk := pkp (s3P W)
abbrev s5P (W : List ByteArray) : Tk := pkp (s4P W)
def endP (W : List ByteArray) : Tk × List Int := finP (W.length + 1) (s5P W) []
def prP (W : List ByteArray) : Pc := if pkw (W, false) = pieWd then (atoV (pkw (s1P W)), pkw (s2P W), atoV (pkw (s3P W)), atoV (pkw (s4P W)), (endP W).2.map q16) else (0, ByteArray.empty, 0, 0, [])
def prB (W : List ByteArray) : Bool := if pkw (W, false) = pieWd then !(endP W).1.2 else false
theorem pkp_mem {s : Tk} {x : ByteArray} (h : x ∈ (pkp s).1) : x ∈ s.1 := pkn_mem h
theorem pkg_mem {s : Tk} {x : ByteArray} (h : x ∈ (pkg s).1) : x ∈ s.1 := pkn_mem h
theorem sParsed_ok {s : ByteArray} (hs : s.size < 100000) : VF Tryz.prog OA 41 [St s] (.tup [.v y60 (prP (splS 32 s)), B (prB (splS 32 s))]) := by
  refine VF.enter Tryz.func41 rfl (fun _ _ => rfl) rfl ?_; show VC _ _ _ _ _ [(0, St s)] [] _; have hz : ∀ x ∈ splS 32 s, x.size < 100000 := fun x hx => Nat.lt_of_le_of_lt (splS_size _ hx) hs; have hW2 := splS_few (c := 32) (s := s); have hsp : VF Tryz.prog OA 96 [St s, St spS] (.v (.sl .str) (splS 32 s)) := zSplit_ok rfl hs; generalize splS 32 s = W at *; refine VC.seq (VC.text ?_); refine VO.cell (.alloc zt60) ?_; intro v2; refine VO.c (.assign rfl) ?_; refine VO.go (VC.seq (VC.text ?_)); refine VO.c (.move rfl) ?_; refine VO.call rfl rfl (VF.call hsp) ?_; refine VO.c (.build (W, false) bt182) ?_; refine VO.cell (.box .v) ?_; intro w4; show VO _ _ _ _ _ _ [(w4, .var [.v (.sl .str) W, B false]), (v2, .var _)] _; refine VO.c (.assign rfl) ?_; refine VO.go (VC.seq (VC.text ?_)); refine VO.c (.move rfl) (VO.c (.func) (VO.c (.move rfl) (VO.c (.func) ?_))); refine VO.c (.assign rfl) (VO.c (.assign rfl) ?_); refine VO.go (VC.seq (VC.seq (VC.text ?_))); refine VO.c (.move rfl) ?_; refine VO.callG [(w4, .var [.v (.sl .str) W, B false])] rfl rfl rfl (VFG.clo (a := [.raw w4]) (args := []) (c := []) sWord_ok) ?_; rintro _ _ ⟨rfl, rfl⟩; have hz1 : ∀ x ∈ (s1P W).1, x.size < 100000 := fun x hx => hz x (pkn_mem (s := (W, false)) hx); refine VO.c (.sneq) (VO.go ?_); refine VC.condD rfl (fun c3 => ?_) (fun c3 => ?_)
  · have hne : ¬ pkw (W, false) = pieWd := c3; refine VC.seq (VC.text ?_); refine VO.c (.build (0, ByteArray.empty, 0, 0, []) bt60) ?_; refine VO.perm swap1 ?_; refine VO.setV (cs' := [I 0, St ByteArray.empty, I 0, I 0, .v y51 []]) vt60 .v ?_; refine VO.c (.assign rfl) (VO.go ?_); refine VC.ret ?_; have e1 : prP W = (0, ByteArray.empty, 0, 0, []) := if_neg hne; have e2 : prB W = false := if_neg hne; rw [e1, e2]; exact ⟨rfl, [.v y60 (0, ByteArray.empty, 0, 0, []), B false], .cons (.cell rfl m0 vt60 .refl) (.cons evT .nil), rfl⟩
  have hye : pkw (W, false) = pieWd := Classical.not_not.1 c3; have e1 : prP W = (atoV (pkw (s1P W)), pkw (s2P W), atoV (pkw (s3P W)), atoV (pkw (s4P W)), (endP W).2.map q16) := if_pos hye; have e2 : prB W = !(endP W).1.2 := if_pos hye; rw [e1, e2]; have hE : endP W = finP (W.length + 1) (s5P W) [] := rfl; have hl1 : (s1P W).1.length ≤ W.length := pkn_len (s := (W, false)); have hl2 : (s2P W).1.length ≤ (s1P W).1.length := pkn_len (s := s1P W); have hl3 : (s3P W).1.length ≤ (s2P W).1.length := pkn_len (s := s2P W); have hl4 : (s4P W).1.length ≤ (s3P W).1.length := pkn_len (s := s3P W); have hl5 : (s5P W).1.length ≤ (s4P W).1.length := pkn_len (s := s4P W); have hz2 : ∀ x ∈ (s2P W).1, x.size < 100000 := fun x hx => hz1 x (pkp_mem hx); have hz3 : ∀ x ∈ (s3P W).1, x.size < 100000 := fun x hx => hz2 x (pkn_mem hx); have hz4 : ∀ x ∈ (s4P W).1, x.size < 100000 := fun x hx => hz3 x (pkp_mem hx); have hz5 : ∀ x ∈ (s5P W).1, x.size < 100000 := fun x hx => hz4 x (pkp_mem hx); refine VC.skip ?_; show VC _ _ _ _ _ _ [(w4, .var [.v (.sl .str) (s1P W).1, B (s1P W).2]), (v2, .var _)] _; refine VC.seq (VC.text ?_); refine VO.c (.move rfl) ?_; refine VO.callG [(w4, .var [.v (.sl .str) (s1P W).1, B (s1P W).2])] rfl rfl rfl (VFG.clo (a := [.raw w4]) (args := []) (c := []) (sPla_ok hz1)) ?_; rintro _ _ ⟨rfl, rfl⟩; show VO _ _ _ _ _ _ [(w4, .var [.v (.sl .str) (s2P W).1, B (s2P W).2]), (v2, .var _)] _; generalize atoV (pkw (s1P W)) = run at *; refine VO.c (.buildA (cs := [I run, .raw (.string ByteArray.empty), .raw (.int .i64 0), .raw (.int .i64 0), nilV]) bt60 rfl) ?_; refine VO.cell (.alloc zt60) ?_; intro w7; refine VO.setV (cs' := [I run, .raw (.string ByteArray.empty), .raw (.int .i64 0), .raw (.int .i64 0), nilV]) vt60 (.aggs rfl rfl) ?_; refine VO.go (VC.seq (VC.text ?_)); refine VO.c (.move rfl) ?_; refine VO.perm swap1 ?_; refine VO.callG [(w4, .var [.v (.sl .str) (s2P W).1, B (s2P W).2])] rfl rfl rfl (VFG.clo (a := [.raw w4]) (args := []) (c := []) sWord_ok) ?_; rintro _ _ ⟨rfl, rfl⟩; show VO _ _ _ _ _ _ [(w4, .var [.v (.sl .str) (s3P W).1, B (s3P W).2]), (w7, .var [I run, .raw (.string ByteArray.empty), .raw (.int .i64 0), .raw (.int .i64 0), nilV]), (v2, .var _)] _; have hpw : pkw ((s2P W).1, (s2P W).2) = pkw (s2P W) := rfl; rw [hpw]; generalize pkw (s2P W) = nm at *; refine VO.c (.faO (k := 1) m1) ?_; refine VO.perm swap1 ?_; refine VO.setF (cs' := [I run, St nm, .raw (.int .i64 0), .raw (.int .i64 0), nilV]) 1 vt9 .v ?_; refine VO.go (VC.seq (VC.text ?_)); refine VO.c (.move rfl) ?_; refine VO.perm swap1 ?_; refine VO.callG [(w4, .var [.v (.sl .str) (s3P W).1, B (s3P W).2])] rfl rfl rfl (VFG.clo (a := [.raw w4]) (args := []) (c := []) (sPla_ok hz3)) ?_; rintro _ _ ⟨rfl, rfl⟩; show VO _ _ _ _ _ _ [(w4, .var [.v (.sl .str) (s4P W).1, B (s4P W).2]), (w7, .var [I run, St nm, .raw (.int .i64 0), .raw (.int .i64 0), nilV]), (v2, .var _)] _; generalize atoV (pkw (s3P W)) = tick at *; refine VO.c (.faO (k := 2) m1) ?_; refine VO.perm swap1 ?_; refine VO.setF (cs' := [I run, St nm, I tick, .raw (.int .i64 0), nilV]) 2 vt3 .v ?_; refine VO.go (VC.seq (VC.text ?_)); refine VO.c (.move rfl) ?_; refine VO.perm swap1 ?_; refine VO.callG [(w4, .var [.v (.sl .str) (s4P W).1, B (s4P W).2])] rfl rfl rfl (VFG.clo (a := [.raw w4]) (args := []) (c := []) (sPla_ok hz4)) ?_; rintro _ _ ⟨rfl, rfl⟩; show VO _ _ _ _ _ _ [(w4, .var [.v (.sl .str) (s5P W).1, B (s5P W).2]), (w7, .var [I run, St nm, I tick, .raw (.int .i64 0), nilV]), (v2, .var _)] _; generalize atoV (pkw (s4P W)) = row at *; refine VO.c (.faO (k := 3) m1) ?_; refine VO.perm swap1 ?_; refine VO.setF (cs' := [I run, St nm, I tick, I row, nilV]) 3 vt3 .v ?_; refine VO.go ?_
  have hl : (s5P W).1.length ≤ W.length := by omega
  clear hl1 hl2 hl3 hl4 hl5 hz1 hz2 hz3 hz4 e1 e2 hpw; generalize s5P W = s5 at *; refine VC.seq (VC.block ?_); refine VC.cell0 54 (.flt .f32) ?_; refine VC.keep [(2, .raw v2), (4, .raw w4), (7, .raw w7)] ⟨rfl, rfl, rfl, trivial⟩ ?_; refine VC.loop (I := fun kk ff ss => ∃ (t : Tk) (o : List Int) (w9 : Value) (m : Nat), kk = muP t ∧ ff = [(2, .raw v2), (4, .raw w4), (7, .raw w7)] ∧ ss = [(w9, .row 54 (.flt .f32) (o.map q16)), (w7, .var [I run, St nm, I tick, I row, .raw w9]), (w4, .var [.v (.sl .str) t.1, B t.2]), (v2, .var [I 0, St ByteArray.empty, I 0, I 0, .v y51 []])] ∧ muP t ≤ m ∧ o.length + muP t ≤ W.length + 1 ∧ (∀ x ∈ t.1, x.size < 100000) ∧ finP m t o = endP W) ?_ _ _ _ ⟨s5, [], .slice none 0 0, W.length + 1, rfl, rfl, rfl, by unfold muP; split <;> omega, by show 0 + muP s5 ≤ _; unfold muP; split <;> omega, hz5, hE.symm⟩; rintro kk ff ss ⟨t, o, w9, m, hk0, rfl, rfl, hm, hol, hzt, hfe⟩; refine VC.seq (VC.seq (VC.text ?_)); refine VO.c (.move rfl) (VO.c (.nilO m2) (VO.c (.faO (k := 0) m2) ?_)); refine VO.r (.ldF (k := 0) m2 vt47) ?_; refine VO.r (.len el47) ?_; by_cases g1 : t.1.length ≠ 0
  · refine VO.c (CalmV.isT (.gtr) (Int.natCast_pos.2 (Nat.pos_of_ne_zero g1))) (VO.c (.move rfl) (VO.c (.move rfl) (VO.c (.nilO m2) ?_))); refine VO.c (.faO (k := 1) m2) ?_; refine VO.r (.ldF (k := 1) m2 vt4) ?_; by_cases g2 : t.2 = false
    · have hlt := pkg_mu g1 g2; obtain ⟨m, rfl⟩ : ∃ q, m = q + 1 := ⟨m - 1, by omega⟩; rw [finP_s g1 g2] at hfe; have hzg : ∀ x ∈ (pkg t).1, x.size < 100000 := fun x hx => hzt x (pkg_mem hx)
      have hnot : (!t.2) = true := by rw [g2] <;> rfl
      refine VO.c (.not) (VO.c (.pickT rfl rfl) (VO.go ?_)); refine VC.condB rfl (fun _ => ?_) (fun hf => by rw [hnot] at hf; cases hf); refine VC.skip (VC.block (VC.seq (VC.text ?_))); refine VO.c (.move rfl) ?_; refine VO.perm swap2 ?_; refine VO.callG [(w4, .var [.v (.sl .str) t.1, B t.2])] rfl rfl rfl (VFG.call (sSgn_ok hzt)) ?_; rintro _ _ ⟨rfl, rfl⟩; refine VO.c (.assign rfl) ?_; refine VO.go (VC.text ?_); refine VO.c (.faO (k := 4) m2) ?_; refine VO.r (.ldF (k := 4) m2 vt51) ?_; refine VO.c (.move rfl) (VO.c (.cvIF .f32) (VO.c (.fop (div32E (q16_any (atoV (pkw t))))) ?_)); refine VO.new (.lit [q16 (atoV (pkw t))] el51) ?_; refine VO.perm swap1 ?_; refine VO.app rfl rfl el51 el51 (by simp; omega) ?_; intro ww9; refine VO.c (.faO (k := 4) m2) ?_; refine VO.perm swap2 ?_; refine VO.one m1 fun ho => ?_; refine VO.setF (cs' := [I run, St nm, I tick, I row, .raw ww9]) 4 vt51 (.raw rfl (agg_one ho) ho) ?_; refine VO.perm swap1 ?_; refine VO.nil ?_; refine ⟨muP (pkg t), [(2, .raw v2), (4, .raw w4), (7, .raw w7)], by omega, ⟨rfl, rfl, rfl, trivial⟩, pkg t, o ++ [atoV (pkw t)], ww9, m, rfl, rfl, ?_, by omega, by simp only [List.length_append, List.length_singleton]; omega, hzg, hfe⟩; rw [List.map_append] <;> rfl
    have hnot : (!t.2) = false := by
      cases hq : t.2 with
      | false => exact absurd hq g2
      | true => rfl
    refine VO.c (.not) (VO.c (.pickT rfl rfl) (VO.go ?_)); refine VC.condB rfl (fun ht => by rw [hnot] at ht; cases ht) (fun _ => ?_)
    have hst : endP W = (t, o) := by rw [← hfe]; exact finP_e (fun h => g2 h.2)
    rw [hst]; refine VC.exit ?_; refine VC.shutL [(w9, .row 54 (.flt .f32) (o.map q16)), (w7, .var [I run, St nm, I tick, I row, .raw w9])] [(7, .p y60 (run, nm, tick, row, o.map q16))] rfl (.cons rfl (.var m1 (.cons .same (.cons .same (.cons .same (.cons .same (.cons (.row m0) .nil)))))) .nil) ?_; refine VC.seq ?_; refine VC.perm swap1 ?_; refine VC.late [(w4, .var [.v (.sl .str) t.1, B t.2])] ⟨[_], rfl⟩ ?_; refine VLt.q rfl (.ld vt60) ?_; refine VLt.c (.move rfl) ?_; refine VLt.cR (.nilO m1) ?_; refine VLt.cR (.faO (k := 1) m1) ?_; refine VLt.qo rfl m0 (.inr ⟨1, rfl⟩) (.ldF (k := 1) m0 vt4) ?_; refine VLt.c (.not) ?_; refine VLt.mk0 (MakeV.setF (k := 0) vt60 .v (Nat.le_of_ble_eq_true rfl) (.inr ⟨rfl, rfl⟩) rfl rfl) (TurnV.store rfl (.inl rfl)) ⟨[], rfl⟩ ?_; rintro _ _ ⟨rfl, rfl⟩; refine ⟨⟨[_], rfl⟩, ?_⟩; refine VLt.c (.assign rfl) ?_; refine VLt.go ?_; refine VC.ret ?_; exact ⟨rfl, [.v y60 (run, nm, tick, row, o.map q16), B (!t.2)], .cons (.cell rfl m0 vt60 .refl) (.cons evT .nil), rfl⟩
  refine VO.c (CalmV.isF (.gtr) (fun h => g1 (Nat.ne_of_gt (Int.natCast_pos.1 h)))) (VO.c (.move rfl) (VO.skip (VO.skip ?_))); refine VO.skip (VO.skip (VO.skip (VO.c (.pickF rfl rfl) ?_)))
  have hst : endP W = (t, o) := by rw [← hfe]; exact finP_e (fun h => g1 h.1)
  rw [hst]; refine VO.go ?_; refine VC.condF rfl ?_; refine VC.exit ?_; refine VC.shutL [(w9, .row 54 (.flt .f32) (o.map q16)), (w7, .var [I run, St nm, I tick, I row, .raw w9])] [(7, .p y60 (run, nm, tick, row, o.map q16))] rfl (.cons rfl (.var m1 (.cons .same (.cons .same (.cons .same (.cons .same (.cons (.row m0) .nil)))))) .nil) ?_; refine VC.seq ?_; refine VC.perm swap1 ?_; refine VC.late [(w4, .var [.v (.sl .str) t.1, B t.2])] ⟨[_], rfl⟩ ?_; refine VLt.q rfl (.ld vt60) ?_; refine VLt.c (.move rfl) ?_; refine VLt.cR (.nilO m1) ?_; refine VLt.cR (.faO (k := 1) m1) ?_; refine VLt.qo rfl m0 (.inr ⟨1, rfl⟩) (.ldF (k := 1) m0 vt4) ?_; refine VLt.c (.not) ?_; refine VLt.mk0 (MakeV.setF (k := 0) vt60 .v (Nat.le_of_ble_eq_true rfl) (.inr ⟨rfl, rfl⟩) rfl rfl) (TurnV.store rfl (.inl rfl)) ⟨[], rfl⟩ ?_; rintro _ _ ⟨rfl, rfl⟩; refine ⟨⟨[_], rfl⟩, ?_⟩; refine VLt.c (.assign rfl) ?_; refine VLt.go ?_; refine VC.ret ?_; exact ⟨rfl, [.v y60 (run, nm, tick, row, o.map q16), B (!t.2)], .cons (.cell rfl m0 vt60 .refl) (.cons evT .nil), rfl⟩
end Go.Proofs
namespace Go.Proofs
open Go.Fs Ieee
set_option maxHeartbeats 1000000
abbrev Lp := Int × ByteArray × Int × Int × List Int
def lnB (W : List ByteArray) : Bool := decide (5 ≤ W.length) && (decide (wrdA W 0 = pieWd) && (decide (wrdA W 2 ≠ ByteArray.empty) && ((numK (wrdA W 1) && (numK (wrdA W 3) && numK (wrdA W 4))) && (W.drop 5).all sgK)))
def lnP (W : List ByteArray) : Lp := (numV (wrdA W 1), wrdA W 2, numV (wrdA W 3), numV (wrdA W 4), (W.drop 5).map sgV)
def pcP (x : Lp) : Pc := (x.1, x.2.1, x.2.2.1, x.2.2.2.1, x.2.2.2.2.map q16)
theorem pkn_w {s : Tk} (h : s.2 = true) : (pkn s).2 = true := by
  unfold pkn; split
  · rfl
  exact h
theorem pkg_w {s : Tk} (h : s.2 = true) : (pkg s).2 = true := by
  show ((pkn s).2 || _) = true; rw [pkn_w h] <;> rfl
theorem pkp_w {s : Tk} (h : s.2 = true) : (pkp s).2 = true := by
  show ((pkg s).2 || _) = true; rw [pkg_w h] <;> rfl
theorem finP_w {n : Nat} {s : Tk} {o : List Int} (h : s.2 = true) : (finP n s o).1.2 = true := by
  rw [finP_e (fun h2 => by rw [h] at h2; exact absurd h2.2 (by decide))]; exact h
theorem ato_empty : atoK ByteArray.empty = false := by
  have h := (ato_sg (s := ByteArray.empty)).1; rw [h]
  have : sgB ByteArray.empty = false := by decide
  unfold sgK; rw [this]; exact numK_empty
theorem pkg_e {b : Bool} : (pkg ([], b)).2 = true := by
  show ((pkn ([], b)).2 || !atoK ByteArray.empty) = true; rw [ato_empty]; simp
theorem pkp_e {b : Bool} : (pkp ([], b)).2 = true := by
  show ((pkg ([], b)).2 || decide (atoV (pkw ([], b)) < 0)) = true; rw [pkg_e] <;> rfl
theorem pkg_t {a : ByteArray} {r : List ByteArray} (h : sgK a = true) : pkg (a :: r, false) = (r, false) := by
  have h1 : atoK a = true := (ato_sg (s := a)).1.trans h
  have ha : a ≠ ByteArray.empty := fun e => by rw [e, ato_empty] at h1; cases h1
  show ((pkn (a :: r, false)).1, (pkn (a :: r, false)).2 || !atoK a) = _; rw [pkn_yes ha, h1] <;> rfl
theorem pkg_f {a : ByteArray} {r : List ByteArray} (h : sgK a = false) : (pkg (a :: r, false)).2 = true := by
  have h1 : atoK a = false := (ato_sg (s := a)).1.trans h; show ((pkn (a :: r, false)).2 || !atoK a) = true; rw [h1]; simp
theorem numK_sg {a : ByteArray} (h : numK a = true) : sgK a = true ∧ 0 ≤ atoV a := by
  have h1 := (ato_num (s := a)).1; rw [h, Bool.and_eq_true, decide_eq_true_eq] at h1; exact ⟨(ato_sg (s := a)).1.symm.trans h1.1, h1.2⟩
theorem pkp_t {a : ByteArray} {r : List ByteArray} (h : numK a = true) : pkp (a :: r, false) = (r, false) := by
  obtain ⟨h1, h2⟩ := numK_sg h; show ((pkg (a :: r, false)).1, (pkg (a :: r, false)).2 || decide (atoV a < 0)) = _; rw [pkg_t h1, decide_eq_false (show ¬ atoV a < 0 by omega)] <;> rfl
theorem pkp_f {a : ByteArray} {r : List ByteArray} (h : numK a = false) : (pkp (a :: r, false)).2 = true := by
  show ((pkg (a :: r, false)).2 || decide (atoV a < 0)) = true; have h1 := (ato_num (s := a)).1; rw [h] at h1
  cases hk : sgK a with
  | false => rw [pkg_f hk] <;> rfl
  | true =>
    have h2 : atoK a = true := (ato_sg (s := a)).1.trans hk; rw [h2, Bool.true_and, decide_eq_false_iff_not] at h1; rw [decide_eq_true (show atoV a < 0 by omega)]; simp
theorem fin_all : ∀ {vs : List ByteArray} {n : Nat} {o : List Int}, vs.length < n → (vs.all sgK = true → finP n (vs, false) o = (([], false), o ++ vs.map atoV)) ∧ (vs.all sgK = false → (finP n (vs, false) o).1.2 = true)
  | [], n, o, _ => ⟨fun _ => by rw [finP_e (fun h => h.1 rfl)]; simp, fun h => by cases h⟩
  | v :: vs, 0, o, h => by omega
  | v :: vs, n + 1, o, h => by
    have hs : finP (n + 1) (v :: vs, false) o = finP n (pkg (v :: vs, false)) (o ++ [atoV v]) := finP_s (by simp) rfl; rw [hs]
    have hl : vs.length < n := by simpa using h
    cases hk : sgK v with
    | false =>
      refine ⟨fun h => ?_, fun _ => finP_w (pkg_f hk)⟩
      rw [List.all_cons, hk] at h; cases h
    | true =>
      rw [pkg_t hk, List.all_cons, hk, Bool.true_and]; obtain ⟨h1, h2⟩ := fin_all (n := n) (o := o ++ [atoV v]) hl; exact ⟨fun h => by rw [h1 h]; simp, h2⟩
theorem prB_w {W : List ByteArray} (h : (s5P W).2 = true) : prB W = false := by
  unfold prB; split
  · have : (endP W).1.2 = true := finP_w h; rw [this] <;> rfl
  rfl
theorem prB_ln {W : List ByteArray} : prB W = lnB W ∧ (lnB W = true → prP W = pcP (lnP W)) := by
  have no : ∀ {W : List ByteArray}, prB W = false → lnB W = false → prB W = lnB W ∧ (lnB W = true → prP W = pcP (lnP W)) := fun h1 h2 => ⟨h1.trans h2.symm, fun h => by rw [h2] at h; cases h⟩
  have short : ∀ {W : List ByteArray}, W.length < 5 → lnB W = false := fun h => by
    unfold lnB; rw [decide_eq_false (by omega)] <;> rfl
  match W with
  | [] => exact no (by unfold prB; rw [if_neg (by decide)]) (short (by simp))
  | a :: r =>
    by_cases ha : a = pieWd
    · subst ha; have e1 : s1P (pieWd :: r) = (r, false) := pkn_yes (by decide)
      match r with
      | [] => exact no (prB_w (pkp_w (pkp_w (pkn_w (by rw [s2P, e1]; exact pkp_e))))) (short (by simp))
      | b :: r =>
        cases hb : numK b with
        | false => exact no (prB_w (pkp_w (pkp_w (pkn_w (by rw [s2P, e1]; exact pkp_f hb))))) (by unfold lnB; simp [wrdA, hb])
        | true =>
          have e2 : s2P (pieWd :: b :: r) = (r, false) := by rw [s2P, e1]; exact pkp_t hb
          match r with
          | [] => exact no (prB_w (pkp_w (pkp_w (by rw [s3P, e2]; rfl)))) (short (by simp))
          | c :: r =>
            by_cases hc : c = ByteArray.empty
            · subst hc; exact no (prB_w (pkp_w (pkp_w (by rw [s3P, e2, pkn_no])))) (by unfold lnB; simp [wrdA])
            have e3 : s3P (pieWd :: b :: c :: r) = (r, false) := by rw [s3P, e2]; exact pkn_yes hc
            match r with
            | [] => exact no (prB_w (pkp_w (by rw [s4P, e3]; exact pkp_e))) (short (by simp))
            | t :: r =>
              cases ht : numK t with
              | false => exact no (prB_w (pkp_w (by rw [s4P, e3]; exact pkp_f ht))) (by unfold lnB; simp [wrdA, ht])
              | true =>
                have e4 : s4P (pieWd :: b :: c :: t :: r) = (r, false) := by rw [s4P, e3]; exact pkp_t ht
                match r with
                | [] => exact no (prB_w (by rw [s5P, e4]; exact pkp_e)) (short (by simp))
                | w :: vs =>
                  cases hw : numK w with
                  | false => exact no (prB_w (by rw [s5P, e4]; exact pkp_f hw)) (by unfold lnB; simp [wrdA, hw])
                  | true =>
                    have e5 : s5P (pieWd :: b :: c :: t :: w :: vs) = (vs, false) := by rw [s5P, e4]; exact pkp_t hw
                    obtain ⟨f1, f2⟩ := fin_all (vs := vs) (n := (pieWd :: b :: c :: t :: w :: vs).length + 1) (o := []) (by simp; omega)
                    have hend : endP (pieWd :: b :: c :: t :: w :: vs) = finP ((pieWd :: b :: c :: t :: w :: vs).length + 1) (vs, false) [] := by unfold endP; rw [e5]
                    have hln : lnB (pieWd :: b :: c :: t :: w :: vs) = vs.all sgK := by
                      unfold lnB; simp [wrdA, hb, ht, hw, hc]
                    cases hv : vs.all sgK with
                    | false =>
                      refine no ?_ (hln.trans hv); unfold prB
                      rw [if_pos (by rfl), hend, f2 hv] <;> rfl
                    | true =>
                      refine ⟨?_, fun _ => ?_⟩
                      · unfold prB; rw [if_pos (by rfl), hend, f1 hv, hln, hv] <;> rfl
                      unfold prP; rw [if_pos (by rfl), hend, f1 hv, e1, e2, e3, e4]; have g1 : atoV b = numV b := (ato_num (s := b)).2 hb; have g2 : atoV t = numV t := (ato_num (s := t)).2 ht; have g3 : atoV w = numV w := (ato_num (s := w)).2 hw; have g4 : vs.map atoV = vs.map sgV := List.map_congr_left fun v hv2 => (ato_sg (s := v)).2 (List.all_eq_true.1 hv v hv2); show (atoV b, c, atoV t, atoV w, (([] : List Int) ++ vs.map atoV).map q16) = _; rw [g1, g2, g3, List.nil_append, g4]; rfl
    exact no (by unfold prB; rw [if_neg (show ¬ pkw (a :: r, false) = pieWd from ha)]) (by unfold lnB; simp [wrdA, ha])
end Go.Proofs
namespace Go.Proofs
open Go.Fs Ieee
set_option maxHeartbeats 4000000
end Go.Proofs
namespace Go.Proofs
open Go.Fs Ieee
set_option maxHeartbeats 1000000
def stpL (l : List Lp) (x : ByteArray) : Option (List Lp) := if lnB (splS 32 x) = true then some (l ++ [lnP (splS 32 x)]) else none
theorem stp_t {l : List Lp} {x : ByteArray} (h : lnB (splS 32 x) = true) : stpL l x = some (l ++ [lnP (splS 32 x)]) := if_pos h
theorem stp_f {l : List Lp} {x : ByteArray} (h : lnB (splS 32 x) = false) : stpL l x = none := if_neg (by rw [h]; decide)
def parG (s : ByteArray) : Option (List Lp) × Nat := prsG stpL (splS 10 s) [] 0
def parE (d : Dom) (s : ByteArray) : Int := if domE d ≠ 0 then domE d else if 1000000 < s.size then 27 else match (parG s).1 with | none => 26 | some l => storeE d (l.map pcP)
def parN (d : Dom) (s : ByteArray) : Int := if domE d ≠ 0 then 0 else if 1000000 < s.size then 0 else match (parG s).1 with | none => (((parG s).2 : Nat) : Int) | some l => if storeE d (l.map pcP) ≠ 0 then (((parG s).2 : Nat) : Int) else 0
def parC (d : Dom) (s : ByteArray) : List Pc := if domE d ≠ 0 then [] else if 1000000 < s.size then [] else match (parG s).1 with | none => [] | some l => if storeE d (l.map pcP) ≠ 0 then [] else l.map pcP
section
variable {d : Dom} {s : ByteArray}
theorem par_dom (h : domE d ≠ 0) : parC d s = [] ∧ parN d s = 0 ∧ parE d s = domE d := ⟨if_pos h, if_pos h, if_pos h⟩
theorem par_big (h0 : domE d = 0) (h : 1000000 < s.size) : parC d s = [] ∧ parN d s = 0 ∧ parE d s = 27 := by
  unfold parC parN parE; refine ⟨?_, ?_, ?_⟩ <;> rw [if_neg (by simpa using h0), if_pos h]
theorem par_none {i : Nat} (h0 : domE d = 0) (h : ¬ 1000000 < s.size) (hp : parG s = (none, i)) : parC d s = [] ∧ parN d s = ((i : Nat) : Int) ∧ parE d s = 26 := by
  unfold parC parN parE; refine ⟨?_, ?_, ?_⟩ <;> rw [if_neg (by simpa using h0), if_neg h, hp]
theorem par_wrong {l : List Lp} {i : Nat} (h0 : domE d = 0) (h : ¬ 1000000 < s.size) (hp : parG s = (some l, i)) (hc : storeE d (l.map pcP) ≠ 0) : parC d s = [] ∧ parN d s = ((i : Nat) : Int) ∧ parE d s = storeE d (l.map pcP) := by
  unfold parC parN parE; refine ⟨?_, ?_, ?_⟩ <;> rw [if_neg (by simpa using h0), if_neg h, hp]
  · exact if_pos hc
  exact if_pos hc
theorem par_good {l : List Lp} {i : Nat} (h0 : domE d = 0) (h : ¬ 1000000 < s.size) (hp : parG s = (some l, i)) (hc : storeE d (l.map pcP) = 0) : parC d s = l.map pcP ∧ parN d s = 0 ∧ parE d s = 0 := by
  unfold parC parN parE; refine ⟨?_, ?_, ?_⟩ <;> rw [if_neg (by simpa using h0), if_neg h, hp]
  · exact if_neg (fun e => e hc)
  · exact if_neg (fun e => e hc)
  exact hc
end
def LpOk (x : Lp) : Prop := ∀ n ∈ x.2.2.2.2, -1000000000 < n ∧ n < 1000000000
theorem lnP_ok {W : List ByteArray} : LpOk (lnP W) := fun n hn => by
  obtain ⟨v, _, rfl⟩ := List.mem_map.1 hn; exact sgV_bd
theorem store_dom {d : Dom} {l : List Pc} (h : storeE d l = 0) : domE d = 0 ∧ l.length ≤ 4096 ∧ ∀ k, k < l.length → pieceE d l k = 0 := by
  unfold storeE at h; split at h
  · rename_i h0; have := storeP_ok h0; rw [firstE_zero] at h; exact ⟨this.1, this.2, fun k hk => h _ (List.mem_map_of_mem (List.mem_range.2 hk))⟩
  contradiction
theorem pc_lv {d : Dom} {p : Pc} (h : pcE d p = 0) : pcPre d p = 0 ∧ ∀ x ∈ p.2.2.2.2, lvlE x = 0 := by
  unfold pcE at h; split at h
  · rename_i h0; rw [firstE_zero] at h; exact ⟨h0, fun x hx => h _ (List.mem_map_of_mem hx)⟩
  contradiction
def LsI (l : List Lp) (n : Nat) : Prop := l.length = n ∧ ∀ x ∈ l, LpOk x ∧ x.2.2.2.2.length < 100000
theorem lsI_nil : LsI [] 0 := ⟨rfl, fun x hx => by cases hx⟩
theorem lsI_more {l : List Lp} {n : Nat} {W : List ByteArray} (h : LsI l n) (hW : W.length < 100000) : LsI (l ++ [lnP W]) (n + 1) := by
  refine ⟨by rw [List.length_append, h.1]; rfl, fun x hx => ?_⟩; rcases List.mem_append.1 hx with hx | hx
  · exact h.2 x hx
  obtain rfl := List.mem_singleton.1 hx; refine ⟨lnP_ok, ?_⟩; show ((W.drop 5).map sgV).length < 100000; rw [List.length_map, List.length_drop]; omega
theorem lsI_P {l : List Lp} {n : Nat} (h : LsI l n) : (l.map pcP).length = n ∧ ∀ p ∈ l.map pcP, p.2.2.2.2.length < 100000 := by
  refine ⟨by rw [List.length_map]; exact h.1, fun p hp => ?_⟩; obtain ⟨x, hx, rfl⟩ := List.mem_map.1 hp; show (x.2.2.2.2.map q16).length < 100000; rw [List.length_map]; exact (h.2 x hx).2
end Go.Proofs
namespace Go.Fs
variable {P : Program} {orc : FuncId → List Value → Heap → Option (Value × Heap)} {h h' h0 h1 h2 : Heap} {S S' S0 G : List Nat} {σ σ' γ γ' : Sto} {t t' : Tr} {ms : List Nat} {fl : VL} {τ : Ty}
end Go.Fs
namespace Go.Fs
variable {P : Program} {orc : FuncId → List Value → Heap → Option (Value × Heap)} {h h' h0 h1 h2 : Heap} {S S' S0 G : List Nat} {σ σ' : Sto} {t t' : Tr} {ms : List Nat} {fl : VL} {ops : Array Oper} {n i mem : Nat} {l : List Oper} {K : VL → Sto → Prop}
  {d : Tmp} {ty : TypeId} {pos : String} {after : Array Edge} {g : Option (Nat × Bool)} {bs nw : List Nat} {tail so : Bool} {e : TypeId} {τ : Ty}
end Go.Fs
namespace Go.Proofs
open Go.Fs
set_option maxHeartbeats 4000000
theorem vt36 : ValT Tryz.prog 36 y36 := valT_of (by kernel_rfl)
theorem zt29 : ZerT Tryz.prog 29 (.int .i64) := zerT_of (z := .int .i64 0) (by kernel_rfl) rfl rfl
theorem zt36 : ZerT Tryz.prog 36 y36 := zerT_of (z := .slice none 0 0) (by kernel_rfl) rfl rfl
theorem perm_res {a b c d : Value × Cell} {l : Sto} : (l ++ [d, c, b, a]).Perm ([a, b, c] ++ (d :: l)) :=
  (List.perm_append_comm).trans ((List.reverse_perm [a, b, c, d]).append_right l)
theorem me5 {a b c d e f : Value × Cell} {r : Sto} : f ∈ a :: b :: c :: d :: e :: f :: r := List.mem_append_right [a, b, c, d, e] List.mem_cons_self
theorem me6 {a b c d e f g : Value × Cell} {r : Sto} : g ∈ a :: b :: c :: d :: e :: f :: g :: r := List.mem_append_right [a, b, c, d, e, f] List.mem_cons_self
theorem pr3 {a b c : Value × Cell} {r : Sto} : (a :: b :: c :: r).Perm (c :: a :: b :: r) := (List.Perm.cons a (List.Perm.swap c b r)).trans (List.Perm.swap c a (b :: r))
abbrev nilCs : List PV := [.raw (.slice none 0 0)]
abbrev resS (w2 w3 w4 : Value) (c : List PV) (n e : Int) : Sto := [(w2, .var c), (w3, .var [I n]), (w4, .var [I e])]
theorem sParse_ok {d : Dom} {s : ByteArray} (hs : s.size ≤ 90000 ∨ 1000000 < s.size) : VF Tryz.prog OA 11 [.v y34 d, St s] (.tup [.v y36 (parC d s), I (parN d s), I (parE d s)]) := by
  refine VF.enter Tryz.func11 rfl (fun _ _ => rfl) rfl ?_; show VC _ _ _ _ _ [(0, .v y34 d), (1, St s)] [] _; refine VC.seq (VC.text ?_); refine VO.new (.box) ?_; refine VO.cell (.alloc0 zt36) ?_; intro w4; refine VO.cell (.alloc zt3) ?_; intro w5; refine VO.cell (.alloc zt29) ?_; intro w6; refine VO.go (VC.seq (VC.seq (VC.text ?_))); refine VO.r (.ld vt34) ?_; refine VO.call rfl rfl (VF.call sDom_ok) ?_; refine VO.c (.move rfl) ?_; refine VO.r (.lenS) ?_; refine VO.c (.gtr) ?_; refine VO.call rfl rfl (VF.call sWhen_ok) ?_; refine VO.new (.lit [domE d, whenE (decide ((1000000 : Int) < ((s.size : Nat) : Int))) 27] el175) ?_; refine VO.call rfl rfl (VF.call (sFirst_ok (by simp))) ?_; refine VO.c (.assign rfl) (VO.go ?_)
  have he : firstE [domE d, whenE (decide ((1000000 : Int) < ((s.size : Nat) : Int))) 27] = if domE d ≠ 0 then domE d else if 1000000 < s.size then 27 else 0 := by
    by_cases h1 : domE d = 0
    · rw [if_neg (by simpa using h1), h1]; by_cases h2 : 1000000 < s.size
      · rw [if_pos h2, decide_eq_true (by omega)] <;> rfl
      rw [if_neg h2, decide_eq_false (by omega)] <;> rfl
    rw [if_pos h1]; simp [firstE, h1]
  rw [he]; refine VC.seq (VC.text ?_); refine VO.c (.move rfl) (VO.c (.neq) (VO.go ?_)); refine VC.condD rfl (fun c1 => ?_) (fun c1 => ?_)
  · have hpar : parC d s = [] ∧ parN d s = 0 ∧ parE d s = if domE d ≠ 0 then domE d else if 1000000 < s.size then 27 else 0 := by
      by_cases h1 : domE d = 0
      · by_cases h2 : 1000000 < s.size
        · rw [if_neg (by simpa using h1), if_pos h2]; exact par_big h1 h2
        rw [if_neg (by simpa using h1), if_neg h2] at c1; exact absurd rfl c1
      rw [if_pos h1]; exact par_dom h1
    obtain ⟨e1, e2, e3⟩ := hpar; refine VC.seq ?_; refine VC.perm pr3 ?_; refine VC.text ?_; refine VO.c (.move rfl) ?_; refine VO.setV (cs' := nilCs) vt36 (.raw rfl rfl rfl) ?_; refine VO.perm pr3 ?_; refine VO.setV (cs' := [I (0 : Int)]) vt3 .v ?_; refine VO.perm pr3 ?_; refine VO.setV (cs' := [I (if domE d ≠ 0 then domE d else if 1000000 < s.size then 27 else 0)]) vt29 .v ?_; refine VO.go ?_; refine VC.ret ?_; exact VEnd.three rfl (.cell (x := ([] : List Pc)) rfl m2 vt36 (.cons .nil .nil)) (.cell (x := (0 : Int)) rfl m1 vt3 .refl) (.cell (x := (if domE d ≠ 0 then domE d else if 1000000 < s.size then 27 else 0)) rfl m0 vt29 .refl) (pvE e1.symm) (pvI e2.symm) (pvI e3.symm)
  have hd : domE d = 0 := by
    by_cases h1 : domE d = 0
    · exact h1
    rw [if_pos h1] at c1; exact absurd h1 c1
  have hbg : ¬ 1000000 < s.size := by
    intro h2; rw [if_neg (by simpa using hd), if_pos h2] at c1; exact absurd (by decide) c1
  have hs9 : s.size ≤ 90000 := by omega
  refine VC.skip (VC.seq (VC.text ?_)); refine VO.cell (.alloc0 zt36) ?_; intro wo; refine VO.go (VC.seq (VC.text ?_)); refine VO.cell (.alloc zt3) ?_; intro wn; refine VO.setV (cs' := [I (0 : Int)]) vt3 .v ?_; refine VO.go ?_; refine VC.nilRow 60 y60 ?_; refine VC.perm (List.Perm.cons _ (List.Perm.swap _ _ _)) ?_; refine VC.seq (VC.seq (VC.text ?_)); refine VO.c (.move rfl) ?_; refine VO.callG [] rfl rfl rfl (VFG.call zLines_ok) ?_; rintro _ _ ⟨w, rfl, rfl⟩; refine VO.go (VC.block ?_); refine VC.keep [(1, St s), (2, .p y34 d), (4, .raw w4), (5, .raw w5), (6, .raw w6), (8, .raw wo), (9, .raw wn), (28, .clo 93 [] [.raw w])] ⟨rfl, rfl, rfl, rfl, rfl, rfl, rfl, rfl, trivial⟩ ?_
  refine VC.rangeFuncW rfl (zLines1_ok (n := s.size + 1) (by omega) (by omega)) (fun _ => rfl) rfl rfl
    (fun rest ss => ∃ (l : List Lp) (r : ByteArray) (m i : Nat) (wr : Value), rest = linF m r ∧ r.size < m ∧ i + r.size ≤ s.size ∧ LsI l i ∧ parG s = prsG stpL (splS 10 r) l i ∧ ss = [(wr, .row 60 y60 (l.map pcP)), (wo, .var [.raw wr])] ++ [(wn, .var [I ((i : Nat) : Int)]), (w6, .var [I (0 : Int)]), (w5, .var [I (0 : Int)]), (w4, .var nilCs)])
    (fun ee ss => ee = .ret ∧ ∃ (i : Nat) (l : Sto), parG s = (none, i) ∧ ss = resS w4 w5 w6 nilCs ((i : Nat) : Int) 26 ++ l)
    ⟨[], s, s.size + 1, 0, _, rfl, by omega, by omega, lsI_nil, rfl, rfl⟩ ?_ ?_ ?_
  · rintro jj y rest _ ⟨l, r, m, i, wr, hr, hm, hi, hc, hp, rfl⟩; obtain ⟨m, rfl⟩ : ∃ q, m = q + 1 := ⟨m - 1, by omega⟩
    have hr0 : r.size ≠ 0 := fun e => by rw [linF_nil e] at hr; cases hr
    rw [linF_s hr0] at hr; injection hr with hr1 hr2; subst hr1 hr2; have hlt := cutR_less hr0; have hls := lnA_size (r := r); have hca := cutA_size (s := r) (c := 10); have hre : r ≠ ByteArray.empty := fun e => hr0 (by rw [e]; rfl); have hfw := splS_few (c := 32) (s := cutA 10 r); show VC _ _ _ _ _ [(29, St (lnA r)), (1, St s), (2, .p y34 d), (4, .raw w4), (5, .raw w5), (6, .raw w6), (8, .raw wo), (9, .raw wn), (28, .clo 93 [] [.raw w])] _ _; refine VC.text ?_; refine VO.c (.assign rfl) ?_; refine VO.nil ?_; refine ⟨rfl, ?_⟩; refine VC.block (VC.seq (VC.text ?_)); refine VO.c (.move rfl) ?_; refine VO.call rfl rfl (VF.call (show VF Tryz.prog OA 40 [St (lnA r), St nlS] (.tup [St (sufA (lnA r) nlS), B (sufB (lnA r) nlS)]) from zCutS_ok (by omega))) ?_; refine VO.c (.move rfl) (VO.c (.extract) (VO.c (.extract) (VO.c (.assign rfl) ?_))); refine VO.c (.assign rfl) (VO.go ?_); by_cases hx : 0 ≤ Go.Lib.indexByte (toL r) 10
    · obtain ⟨hx1, hx2⟩ := lnA_suf hx; rw [hx1, hx2]; obtain ⟨hb, hpp⟩ := prB_ln (W := splS 32 (cutA 10 r)); refine VC.seq (VC.text ?_); refine VO.c (.move rfl) ?_; refine VO.call rfl rfl (VF.call (sParsed_ok (s := cutA 10 r) (by omega))) ?_; rw [hb]; generalize prP (splS 32 (cutA 10 r)) = p at *; refine VO.c (.move rfl) (VO.c (.extract) (VO.c (.extract) ?_)); refine VO.cell (.alloc zt60) ?_; intro w13; refine VO.setV (cs' := [I p.1, St p.2.1, I p.2.2.1, I p.2.2.2.1, .v y51 p.2.2.2.2]) vt60 .v ?_; refine VO.c (.assign rfl) ?_; refine VO.shut [(13, .p y60 p)] (.cons rfl (.var m0 .refl) .nil) ?_; refine VO.go (VC.seq (VC.seq (VC.text ?_))); refine VO.c (.move rfl) (VO.c (.not) (VO.c (.move rfl) (VO.c (.move rfl) ?_))); refine VO.c (.not) (VO.c (.pickF rfl rfl) (VO.go ?_))
      cases hq : lnB (splS 32 (cutA 10 r)) with
      | false =>
        have hpn : parG s = (none, i) := hp.trans (prsG_bad hx (stp_f hq)); refine VC.condT rfl ?_; refine VC.seq ?_; refine VC.perm perm_res ?_; refine VC.late [(wn, .var [I ((i : Nat) : Int)]), (wr, .row 60 y60 (l.map pcP)), (wo, .var [.raw wr])] ⟨resS w4 w5 w6 nilCs 0 0, rfl⟩ ?_; refine VLt.qo rfl m0 (.inl rfl) (.ldV m0 vt3) ?_; refine VLt.mk0 (MakeV.setF (k := 0) vt36 (.raw rfl rfl rfl) (Nat.le_of_ble_eq_true rfl) (.inr ⟨rfl, rfl⟩) rfl rfl) (TurnV.store rfl (.inl rfl)) ⟨[_, _], rfl⟩ ?_; rintro _ _ ⟨rfl, rfl⟩; refine ⟨⟨[_, _, _], rfl⟩, ?_⟩; refine VLt.perm swap1 ⟨[_, _, _], rfl⟩ ?_; refine VLt.mk0 (MakeV.setF (k := 0) vt3 .v (Nat.le_of_ble_eq_true rfl) (.inr ⟨rfl, rfl⟩) rfl rfl) (TurnV.store rfl (.inl rfl)) ⟨[_, _], rfl⟩ ?_; rintro _ _ ⟨rfl, rfl⟩; refine ⟨⟨[_, _, _], rfl⟩, ?_⟩; refine VLt.perm swap2 ⟨[_, _, _], rfl⟩ ?_; refine VLt.mk0 (MakeV.setF (k := 0) vt29 .v (Nat.le_of_ble_eq_true rfl) (.inr ⟨rfl, rfl⟩) rfl rfl) (TurnV.store rfl (.inl rfl)) ⟨[_, _], rfl⟩ ?_; rintro _ _ ⟨rfl, rfl⟩; refine ⟨⟨[_, _, _], rfl⟩, ?_⟩; refine VLt.perm (show List.Perm _ (resS w4 w5 w6 nilCs ((i : Nat) : Int) 26 ++ [(wn, .var [I ((i : Nat) : Int)]), (wr, .row 60 y60 (l.map pcP)), (wo, .var [.raw wr])]) from (List.reverse_perm [_, _, _]).append_right _) ⟨[_, _, _], rfl⟩ ?_; refine VLt.go ?_; refine VC.ret ?_
        exact .inr ⟨(by intro h; cases h), rfl, i, _, hpn, rfl⟩
      | true =>
        have hpe := hpp hq; subst hpe; have hlp := lsI_P hc; refine VC.condF rfl ?_; refine VC.skip (VC.seq (VC.text ?_)); refine VO.r (.ldV m1 vt36) ?_; refine VO.r (.ld vt60) ?_; refine VO.new (.lit [pcP (lnP (splS 32 (cutA 10 r)))] el36) ?_; refine VO.app rfl rfl el36 el36 (by rw [hlp.1]; simp; omega) ?_; intro wq; refine VO.perm swap1 ?_; refine VO.one m1 fun ho => ?_; refine VO.setV (cs' := [.raw wq]) vt36 (.raw rfl (agg_one ho) ho) ?_; refine VO.perm swap1 ?_; refine VO.go (VC.text ?_); refine VO.r (.ldV m2 vt3) ?_; refine VO.c (.add rfl rfl (by omega)) ?_; refine VO.perm pr3 ?_; refine VO.setV (cs' := [I (((i + 1 : Nat) : Nat) : Int)]) vt3 .v ?_; refine VO.perm pr3.symm ?_; refine VO.nil ?_; refine .inl ⟨rfl, l ++ [lnP (splS 32 (cutA 10 r))], cutR 10 r, m, i + 1, wq, rfl, by omega, by omega, lsI_more hc (by omega), hp.trans (prsG_good hx (stp_t hq)), by rw [List.map_append]; rfl⟩
    have hx1 := lnA_no hx; rw [hx1]; have hpn : parG s = (none, i) := hp.trans (prsG_torn hre hx)
    have hsu : (sufA (lnA r) nlS).size ≤ 90000 := by
      unfold sufA; rw [hx1]; show (lnA r).size ≤ 90000; omega
    refine VC.seq (VC.text ?_); refine VO.c (.move rfl) ?_; refine VO.call rfl rfl (VF.call (sParsed_ok (s := sufA (lnA r) nlS) (by omega))) ?_; generalize prP (splS 32 (sufA (lnA r) nlS)) = p at *; refine VO.c (.move rfl) (VO.c (.extract) (VO.c (.extract) ?_)); refine VO.cell (.alloc zt60) ?_; intro w13; refine VO.setV (cs' := [I p.1, St p.2.1, I p.2.2.1, I p.2.2.2.1, .v y51 p.2.2.2.2]) vt60 .v ?_; refine VO.c (.assign rfl) ?_; refine VO.shut [(13, .p y60 p)] (.cons rfl (.var m0 .refl) .nil) ?_; refine VO.go (VC.seq (VC.seq (VC.text ?_))); refine VO.c (.move rfl) (VO.c (.not) (VO.c (.move rfl) (VO.skip ?_))); refine VO.skip (VO.c (.pickT rfl rfl) (VO.go ?_)); refine VC.condT rfl ?_; refine VC.seq ?_; refine VC.perm perm_res ?_; refine VC.late [(wn, .var [I ((i : Nat) : Int)]), (wr, .row 60 y60 (l.map pcP)), (wo, .var [.raw wr])] ⟨resS w4 w5 w6 nilCs 0 0, rfl⟩ ?_; refine VLt.qo rfl m0 (.inl rfl) (.ldV m0 vt3) ?_; refine VLt.mk0 (MakeV.setF (k := 0) vt36 (.raw rfl rfl rfl) (Nat.le_of_ble_eq_true rfl) (.inr ⟨rfl, rfl⟩) rfl rfl) (TurnV.store rfl (.inl rfl)) ⟨[_, _], rfl⟩ ?_; rintro _ _ ⟨rfl, rfl⟩; refine ⟨⟨[_, _, _], rfl⟩, ?_⟩; refine VLt.perm swap1 ⟨[_, _, _], rfl⟩ ?_; refine VLt.mk0 (MakeV.setF (k := 0) vt3 .v (Nat.le_of_ble_eq_true rfl) (.inr ⟨rfl, rfl⟩) rfl rfl) (TurnV.store rfl (.inl rfl)) ⟨[_, _], rfl⟩ ?_; rintro _ _ ⟨rfl, rfl⟩; refine ⟨⟨[_, _, _], rfl⟩, ?_⟩; refine VLt.perm swap2 ⟨[_, _, _], rfl⟩ ?_; refine VLt.mk0 (MakeV.setF (k := 0) vt29 .v (Nat.le_of_ble_eq_true rfl) (.inr ⟨rfl, rfl⟩) rfl rfl) (TurnV.store rfl (.inl rfl)) ⟨[_, _], rfl⟩ ?_; rintro _ _ ⟨rfl, rfl⟩; refine ⟨⟨[_, _, _], rfl⟩, ?_⟩; refine VLt.perm (show List.Perm _ (resS w4 w5 w6 nilCs ((i : Nat) : Int) 26 ++ [(wn, .var [I ((i : Nat) : Int)]), (wr, .row 60 y60 (l.map pcP)), (wo, .var [.raw wr])]) from (List.reverse_perm [_, _, _]).append_right _) ⟨[_, _, _], rfl⟩ ?_; refine VLt.go ?_; refine VC.ret ?_; exact .inr ⟨(by intro h; cases h), rfl, i, _, hpn, rfl⟩
  · rintro C1 _ ⟨l, r, m, i, wr, hr, hm, hi, hc, hp, rfl⟩
    have hr0 : r = ByteArray.empty := by
      by_cases h0 : r.size = 0
      · exact toL_inj (List.eq_nil_of_length_eq_zero (by rw [toL_len]; exact h0))
      obtain ⟨m, rfl⟩ : ∃ q, m = q + 1 := ⟨m - 1, by omega⟩; rw [linF_s h0] at hr; cases hr
    have hps : parG s = (some l, i) := by rw [hp, hr0, prsG_end]
    have hlp := lsI_P hc; show VC _ _ _ _ _ _ ([(w, C1), (wr, .row 60 y60 (l.map pcP)), (wo, .var [.raw wr])] ++ [(wn, .var [I ((i : Nat) : Int)]), (w6, .var [I (0 : Int)]), (w5, .var [I (0 : Int)]), (w4, .var nilCs)]) _; refine VC.perm perm_res ?_; refine VC.seq (VC.seq (VC.text ?_)); refine VO.r (.ld vt34) ?_; refine VO.r (.ldV me6 vt36) ?_; refine VO.callC rfl rfl .same (.cons .same (.cons (.row me5) .nil)) rfl (VF.call (sStore_ok (by rw [hlp.1]; omega) hlp.2)) ?_; refine VO.c (.assign rfl) ?_; refine VO.go (VC.seq (VC.text ?_)); refine VO.c (.move rfl) (VO.c (.neq) (VO.go ?_)); refine VC.condD rfl (fun c2 => ?_) (fun c2 => ?_)
    · obtain ⟨e1, e2, e3⟩ := par_wrong hd hbg hps c2; refine VC.seq ?_; refine VC.late [(wn, .var [I ((i : Nat) : Int)]), (w, C1), (wr, .row 60 y60 (l.map pcP)), (wo, .var [.raw wr])] ⟨resS w4 w5 w6 nilCs 0 0, rfl⟩ ?_; refine VLt.qo rfl m0 (.inl rfl) (.ldV m0 vt3) ?_; refine VLt.c (.move rfl) ?_; refine VLt.mk0 (MakeV.setF (k := 0) vt36 (.raw rfl rfl rfl) (Nat.le_of_ble_eq_true rfl) (.inr ⟨rfl, rfl⟩) rfl rfl) (TurnV.store rfl (.inl rfl)) ⟨[_, _], rfl⟩ ?_; rintro _ _ ⟨rfl, rfl⟩; refine ⟨⟨[_, _, _], rfl⟩, ?_⟩; refine VLt.perm swap1 ⟨[_, _, _], rfl⟩ ?_; refine VLt.mk0 (MakeV.setF (k := 0) vt3 .v (Nat.le_of_ble_eq_true rfl) (.inr ⟨rfl, rfl⟩) rfl rfl) (TurnV.store rfl (.inl rfl)) ⟨[_, _], rfl⟩ ?_; rintro _ _ ⟨rfl, rfl⟩; refine ⟨⟨[_, _, _], rfl⟩, ?_⟩; refine VLt.perm swap2 ⟨[_, _, _], rfl⟩ ?_; refine VLt.mk0 (MakeV.setF (k := 0) vt29 .v (Nat.le_of_ble_eq_true rfl) (.inr ⟨rfl, rfl⟩) rfl rfl) (TurnV.store rfl (.inl rfl)) ⟨[_, _], rfl⟩ ?_; rintro _ _ ⟨rfl, rfl⟩; refine ⟨⟨[_, _, _], rfl⟩, ?_⟩; refine VLt.go ?_; refine VC.ret ?_; exact VEnd.three rfl (.cell (x := ([] : List Pc)) rfl m2 vt36 (.cons .nil .nil)) (.cell (x := ((i : Nat) : Int)) rfl m1 vt3 .refl) (.cell (x := storeE d (l.map pcP)) rfl m0 vt29 .refl) (pvE e1.symm) (pvI e2.symm) (pvI e3.symm)
    obtain ⟨e1, e2, e3⟩ := par_good hd hbg hps (Classical.not_not.1 c2); refine VC.skip (VC.seq (VC.text ?_)); refine VO.r (.ldV me6 vt36) ?_; refine VO.one me5 fun ho => ?_; refine VO.setV (cs' := [.raw wr]) vt36 (.raw rfl (agg_one ho) ho) ?_; refine VO.perm swap1 ?_; refine VO.setV (cs' := [I (0 : Int)]) vt3 .v ?_; refine VO.perm swap2 ?_; refine VO.setV (cs' := [I (0 : Int)]) vt29 .v ?_; refine VO.go ?_; refine VC.ret ?_; exact VEnd.three rfl (.cell (x := l.map pcP) rfl m2 vt36 (.cons (.row me5) .nil)) (.cell (x := (0 : Int)) rfl m1 vt3 .refl) (.cell (x := (0 : Int)) rfl m0 vt29 .refl) (pvE e1.symm) (pvI e2.symm) (pvI e3.symm)
  rintro C1 ee _ hne ⟨rfl, i, l, hpn, rfl⟩; obtain ⟨e1, e2, e3⟩ := par_none hd hbg hpn; exact VEnd.three rfl (.cell (x := ([] : List Pc)) rfl m1 vt36 (.cons .nil .nil)) (.cell (x := ((i : Nat) : Int)) rfl m2 vt3 .refl) (.cell (x := (26 : Int)) rfl m3 vt29 .refl) (pvE e1.symm) (pvI e2.symm) (pvI e3.symm)
end Go.Proofs
namespace Go.Proofs
open Go.Fs Ieee
set_option maxHeartbeats 4000000
end Go.Proofs
namespace Go.Proofs
open Go.Fs Ieee
set_option maxHeartbeats 2000000
abbrev y214 : Ty := (.sl (.sl .str))
theorem el214 : ElT Tryz.prog 214 47 y47 := elT_of (by kernel_rfl)
theorem flat_le {α : Type} {l : List (List α)} (j : Nat) : (l.take j).flatten.length ≤ l.flatten.length := by
  have : l.flatten = (l.take j).flatten ++ (l.drop j).flatten := by rw [← List.flatten_append, List.take_append_drop]
  rw [this, List.length_append]; omega
theorem flat_succ {α : Type} {l : List (List α)} {j : Nat} (hj : j < l.length) : (l.take (j + 1)).flatten = (l.take j).flatten ++ l[j] := by
  rw [List.take_succ_eq_append_getElem hj, List.flatten_append]; simp
theorem zGrowS_ok {n : Nat} (h0 : 0 < n) (h1 : n ≤ 1000000) : VFG Tryz.prog OA 133 [nilV, I ((n : Nat) : Int)] [] (fun r g => ∃ w, r = .raw w ∧ g = [(w, .cap 9 n .str [])]) := by
  refine VFG.enter Tryz.func133 rfl (fun _ _ => rfl) rfl ?_; show VC _ _ _ _ _ [(0, nilV), (1, I ((n : Nat) : Int))] [] _; refine VC.seq (VC.text ?_); refine VO.c (.assign rfl) ?_; refine VO.go (VC.seq (VC.seq (VC.text ?_))); refine VO.c (.move rfl) (VO.c (.lss) (VO.go ?_)); refine VC.condD rfl (fun c1 => ?_) (fun c1 => ?_)
  · exact absurd c1 (by omega)
  refine VC.skip (VC.seq (VC.seq (VC.text ?_))); refine VO.c (.move rfl) (VO.c (.move rfl) ?_); refine VO.r (.cap0 el47) ?_; refine VO.c (.move rfl) ?_; refine VO.r (.len0 el47) ?_; refine VO.c (.sub rfl rfl (by decide)) (VO.c (.sub rfl rfl (by omega)) (VO.c (.assign rfl) ?_)); refine VO.go (VC.seq (VC.text ?_)); refine VO.c (.move rfl) (VO.c (.gtr) (VO.go ?_)); refine VC.condD rfl (fun c4 => ?_) (fun c4 => ?_)
  · refine VC.text ?_; refine VO.c (.move rfl) (VO.c (.move rfl) ?_); refine VO.r (.cap0 el47) ?_; refine VO.r (.nil0 el47 rfl rfl) ?_; refine VO.c (.move rfl) ?_; refine VO.grow (k := n) rfl (congrArg (fun z : Int => some (PV.v (.int .i64) z)) (show (((n : Nat) : Int) - (((0 : Nat) : Int) - ((0 : Nat) : Int))) = ((n : Nat) : Int) by omega)) el47 (by kernel_rfl) (by omega) (by omega) ?_; intro bb1; refine VO.c (.move rfl) ?_; refine VO.r (.len0 el47) ?_; refine VO.r (.cut0 el47 rfl rfl) ?_; refine VO.c (.assign rfl) ?_; refine VO.go (VC.seq (VC.text ?_)); refine VO.c (.move rfl) (VO.c (.assign rfl) (VO.go ?_)); refine VC.ret ?_; exact VEndG.cap rfl evT m0 ⟨(.slice (some ⟨bb1, 0, none⟩) 0 0), rfl, (by rfl)⟩
  exact absurd (by omega) c4
theorem zConcatS1_ok {l : List (List ByteArray)} (hl : l.length < 100000) (h0 : 0 < l.flatten.length) (h1 : l.flatten.length ≤ 1000000) : VF Tryz.prog OA 91 [.v y214 l] (.v (.sl .str) l.flatten) := by
  refine VF.enter Tryz.func91 rfl (fun _ _ => rfl) rfl ?_; show VC _ _ _ _ _ [(0, .v y214 l)] [] _; refine VC.seq (VC.text ?_); refine VO.c (.assign rfl) ?_; refine VO.go (VC.seq (VC.text ?_)); refine VO.c (.assign rfl) ?_; refine VO.go (VC.seq (VC.seq (VC.text ?_))); refine VO.c (.move rfl) ?_; refine VO.r (.len el214) ?_; refine VO.c (.move rfl) ?_; refine VO.go (VC.block ?_); refine VC.keep [(0, .v y214 l), (3, I (((l.take 0).flatten.length : Nat) : Int)), (9, .v y214 l), (10, I ((l.length : Nat) : Int)), (11, I ((0 : Nat) : Int))] ⟨rfl, slI rfl (by rfl), rfl, rfl, rfl, trivial⟩ ?_; refine VC.loop (I := fun kk ff ss => ∃ (j : Nat), kk = l.length - j ∧ ff = [(0, .v y214 l), (3, I (((l.take j).flatten.length : Nat) : Int)), (9, .v y214 l), (10, I ((l.length : Nat) : Int)), (11, I ((j : Nat) : Int))] ∧ ss = [] ∧ (j ≤ l.length)) ?_ _ _ _ ⟨0, rfl, rfl, rfl, Nat.zero_le _⟩; rintro kk ff ss ⟨j, hk0, rfl, rfl, hj⟩; refine VC.seq (VC.text ?_); refine VO.c (.lss) ?_; refine VO.go (VC.seq ?_); refine VC.condD rfl (fun c3 => ?_) (fun c3 => ?_)
  · refine VC.skip (VC.seq (VC.block (VC.seq (VC.text ?_)))); refine VO.c (.ix (j := j) rfl rfl el214 (by omega)) ?_; refine VO.r (.ld vt47) ?_; refine VO.c (.assign rfl) ?_; refine VO.go (VC.seq (VC.text ?_)); have hs := flat_le (l := l) (j + 1); rw [flat_succ (by omega), List.length_append] at hs; refine VO.c (.move rfl) (VO.c (.move rfl) ?_); refine VO.r (.len el47) ?_; refine VO.c (.add rfl rfl (by omega)) (VO.c (.assign rfl) ?_); refine VO.go (VC.seq (VC.text ?_)); refine VO.c (.move rfl) (VO.c (.lss) (VO.go ?_)); refine VC.condD rfl (fun c6 => ?_) (fun c6 => ?_)
    · exact absurd c6 (by omega)
    refine VC.skip (VC.text ?_); refine VO.c (.add rfl rfl (by omega)) (VO.c (.move rfl) ?_); refine VO.nil ?_; refine ⟨_, [(0, .v y214 l), (3, I (((l.take (j + 1)).flatten.length : Nat) : Int)), (9, .v y214 l), (10, I ((l.length : Nat) : Int)), (11, I (((j + 1) : Nat) : Int))], ?_, ⟨rfl, slI rfl (by rw [flat_succ (by omega), List.length_append] <;> rfl), rfl, rfl, rfl, trivial⟩, (j + 1), rfl, rfl, rfl, (by omega)⟩; omega
  refine VC.exit (VC.seq (VC.text ?_)); have hjl : l.take j = l := List.take_of_length_le (by omega); refine VO.c (.move rfl) ?_; refine VO.callG [] rfl rfl rfl (VFG.call (zGrowS_ok (by rw [hjl]; exact h0) (by rw [hjl]; exact h1))) ?_; rintro _ _ ⟨ww2, rfl, rfl⟩; show VO _ _ _ _ _ _ [(ww2, .cap 9 ((l.take j).flatten.length) .str [])] _; refine VO.c (.assign rfl) ?_; refine VO.go (VC.seq (VC.seq (VC.text ?_))); refine VO.c (.move rfl) ?_; refine VO.r (.len el214) ?_; refine VO.c (.move rfl) ?_; refine VO.go (VC.block ?_); refine VC.keep [(6, .raw ww2), (25, .v y214 l), (26, I ((l.length : Nat) : Int)), (27, I ((0 : Nat) : Int))] ⟨rfl, rfl, rfl, rfl, trivial⟩ ?_; refine VC.loop (I := fun kk ff ss => ∃ (i : Nat) (out : Value), kk = l.length - i ∧ ff = [(6, .raw out), (25, .v y214 l), (26, I ((l.length : Nat) : Int)), (27, I ((i : Nat) : Int))] ∧ ss = [(out, .cap 9 ((l.take j).flatten.length) .str ((l.take i).flatten))] ∧ (i ≤ l.length)) ?_ _ _ _ ⟨0, ww2, rfl, rfl, rfl, Nat.zero_le _⟩; rintro kk ff ss ⟨i, out, hk2, rfl, rfl, hi⟩; refine VC.seq (VC.text ?_); refine VO.c (.lss) ?_; refine VO.go (VC.seq ?_); refine VC.condD rfl (fun c11 => ?_) (fun c11 => ?_)
  · refine VC.skip (VC.seq (VC.block (VC.seq (VC.text ?_)))); refine VO.c (.ix (j := i) rfl rfl el214 (by omega)) ?_; refine VO.r (.ld vt47) ?_; refine VO.c (.assign rfl) ?_; refine VO.go (VC.text ?_); have hs := flat_le (l := l) (i + 1); rw [flat_succ (by omega), List.length_append] at hs; refine VO.c (.move rfl) (VO.c (.move rfl) ?_); refine VO.appC rfl rfl el47 el47 (by rw [hjl]; exact hs) (by rw [hjl]; exact h1) ?_; intro ww3; refine VO.c (.assign rfl) ?_; refine VO.nil (VC.text ?_); refine VO.c (.add rfl rfl (by omega)) (VO.c (.move rfl) ?_); refine VO.nil ?_; refine ⟨_, [(6, .raw ww3), (25, .v y214 l), (26, I ((l.length : Nat) : Int)), (27, I (((i + 1) : Nat) : Int))], ?_, ⟨rfl, rfl, rfl, rfl, trivial⟩, (i + 1), ww3, rfl, rfl, (by rw [flat_succ (by omega)] <;> rfl), (by omega)⟩; omega
  refine VC.exit (VC.seq ?_); refine VC.capRow (by rw [hjl, List.take_of_length_le (by omega)]) ?_; refine VC.text ?_; refine VO.c (.move rfl) (VO.c (.assign rfl) (VO.go ?_)); refine VC.ret ?_; exact VEnd.one rfl (evC (.row m0)) (pvE (by rw [List.take_of_length_le (by omega)]))
theorem zGrowS0_ok {n : Nat} (h0 : n = 0) : VF Tryz.prog OA 133 [nilV, I ((n : Nat) : Int)] (nilV) := by
  refine VF.enter Tryz.func133 rfl (fun _ _ => rfl) rfl ?_; show VC _ _ _ _ _ [(0, nilV), (1, I ((n : Nat) : Int))] [] _; refine VC.seq (VC.text ?_); refine VO.c (.assign rfl) ?_; refine VO.go (VC.seq (VC.seq (VC.text ?_))); refine VO.c (.move rfl) (VO.c (.lss) (VO.go ?_)); refine VC.condD rfl (fun c1 => ?_) (fun c1 => ?_)
  · exact absurd c1 (by omega)
  refine VC.skip (VC.seq (VC.seq (VC.text ?_))); refine VO.c (.move rfl) (VO.c (.move rfl) ?_); refine VO.r (.cap0 el47) ?_; refine VO.c (.move rfl) ?_; refine VO.r (.len0 el47) ?_; refine VO.c (.sub rfl rfl (by decide)) (VO.c (.sub rfl rfl (by omega)) (VO.c (.assign rfl) ?_)); refine VO.go (VC.seq (VC.text ?_)); refine VO.c (.move rfl) (VO.c (.gtr) (VO.go ?_)); refine VC.condD rfl (fun c4 => ?_) (fun c4 => ?_)
  · exact absurd c4 (by omega)
  refine VC.skip (VC.seq (VC.text ?_)); refine VO.c (.move rfl) (VO.c (.assign rfl) (VO.go ?_)); refine VC.ret ?_; exact VEnd.one rfl evT rfl
theorem zConcatS0_ok {l : List (List ByteArray)} (hl : l.length < 100000) (h0 : l.flatten.length = 0) : VF Tryz.prog OA 91 [.v y214 l] (.v (.sl .str) l.flatten) := by
  refine VF.enter Tryz.func91 rfl (fun _ _ => rfl) rfl ?_; show VC _ _ _ _ _ [(0, .v y214 l)] [] _; refine VC.seq (VC.text ?_); refine VO.c (.assign rfl) ?_; refine VO.go (VC.seq (VC.text ?_)); refine VO.c (.assign rfl) ?_; refine VO.go (VC.seq (VC.seq (VC.text ?_))); refine VO.c (.move rfl) ?_; refine VO.r (.len el214) ?_; refine VO.c (.move rfl) ?_; refine VO.go (VC.block ?_); refine VC.keep [(0, .v y214 l), (3, I (((l.take 0).flatten.length : Nat) : Int)), (9, .v y214 l), (10, I ((l.length : Nat) : Int)), (11, I ((0 : Nat) : Int))] ⟨rfl, slI rfl (by rfl), rfl, rfl, rfl, trivial⟩ ?_; refine VC.loop (I := fun kk ff ss => ∃ (j : Nat), kk = l.length - j ∧ ff = [(0, .v y214 l), (3, I (((l.take j).flatten.length : Nat) : Int)), (9, .v y214 l), (10, I ((l.length : Nat) : Int)), (11, I ((j : Nat) : Int))] ∧ ss = [] ∧ (j ≤ l.length)) ?_ _ _ _ ⟨0, rfl, rfl, rfl, Nat.zero_le _⟩; rintro kk ff ss ⟨j, hk0, rfl, rfl, hj⟩; refine VC.seq (VC.text ?_); refine VO.c (.lss) ?_; refine VO.go (VC.seq ?_); refine VC.condD rfl (fun c3 => ?_) (fun c3 => ?_)
  · refine VC.skip (VC.seq (VC.block (VC.seq (VC.text ?_)))); refine VO.c (.ix (j := j) rfl rfl el214 (by omega)) ?_; refine VO.r (.ld vt47) ?_; refine VO.c (.assign rfl) ?_; refine VO.go (VC.seq (VC.text ?_)); have hs := flat_le (l := l) (j + 1); rw [flat_succ (by omega), List.length_append] at hs; refine VO.c (.move rfl) (VO.c (.move rfl) ?_); refine VO.r (.len el47) ?_; refine VO.c (.add rfl rfl (by omega)) (VO.c (.assign rfl) ?_); refine VO.go (VC.seq (VC.text ?_)); refine VO.c (.move rfl) (VO.c (.lss) (VO.go ?_)); refine VC.condD rfl (fun c6 => ?_) (fun c6 => ?_)
    · exact absurd c6 (by omega)
    refine VC.skip (VC.text ?_); refine VO.c (.add rfl rfl (by omega)) (VO.c (.move rfl) ?_); refine VO.nil ?_; refine ⟨_, [(0, .v y214 l), (3, I (((l.take (j + 1)).flatten.length : Nat) : Int)), (9, .v y214 l), (10, I ((l.length : Nat) : Int)), (11, I (((j + 1) : Nat) : Int))], ?_, ⟨rfl, slI rfl (by rw [flat_succ (by omega), List.length_append] <;> rfl), rfl, rfl, rfl, trivial⟩, (j + 1), rfl, rfl, rfl, (by omega)⟩; omega
  refine VC.exit (VC.seq (VC.text ?_)); have hjl : l.take j = l := List.take_of_length_le (by omega); refine VO.c (.move rfl) ?_; refine VO.call rfl rfl (VF.call (zGrowS0_ok (by rw [hjl]; exact h0))) ?_; refine VO.c (.assign rfl) ?_; refine VO.go (VC.seq (VC.seq (VC.text ?_))); refine VO.c (.move rfl) ?_; refine VO.r (.len el214) ?_; refine VO.c (.move rfl) ?_; refine VO.go (VC.block ?_); refine VC.cell0 9 .str ?_; refine VC.keep [(6, .raw (.slice none 0 0)), (25, .v y214 l), (26, I ((l.length : Nat) : Int)), (27, I ((0 : Nat) : Int))] ⟨rfl, rfl, rfl, rfl, trivial⟩ ?_; refine VC.loop (I := fun kk ff ss => ∃ (i : Nat) (out : Value), kk = l.length - i ∧ ff = [(6, .raw out), (25, .v y214 l), (26, I ((l.length : Nat) : Int)), (27, I ((i : Nat) : Int))] ∧ ss = [(out, .row 9 .str ((l.take i).flatten))] ∧ (i ≤ l.length)) ?_ _ _ _ ⟨0, (.slice none 0 0), rfl, rfl, rfl, Nat.zero_le _⟩; rintro kk ff ss ⟨i, out, hk2, rfl, rfl, hi⟩; refine VC.seq (VC.text ?_); refine VO.c (.lss) ?_; refine VO.go (VC.seq ?_); refine VC.condD rfl (fun c11 => ?_) (fun c11 => ?_)
  · refine VC.skip (VC.seq (VC.block (VC.seq (VC.text ?_)))); refine VO.c (.ix (j := i) rfl rfl el214 (by omega)) ?_; refine VO.r (.ld vt47) ?_; refine VO.c (.assign rfl) ?_; refine VO.go (VC.text ?_); have hs := flat_le (l := l) (i + 1); rw [flat_succ (by omega), List.length_append] at hs; refine VO.c (.move rfl) (VO.c (.move rfl) ?_); refine VO.app rfl rfl el47 el47 (by omega) ?_; intro ww4; refine VO.c (.assign rfl) ?_; refine VO.nil (VC.text ?_); refine VO.c (.add rfl rfl (by omega)) (VO.c (.move rfl) ?_); refine VO.nil ?_; refine ⟨_, [(6, .raw ww4), (25, .v y214 l), (26, I ((l.length : Nat) : Int)), (27, I (((i + 1) : Nat) : Int))], ?_, ⟨rfl, rfl, rfl, rfl, trivial⟩, (i + 1), ww4, rfl, rfl, (by rw [flat_succ (by omega)] <;> rfl), (by omega)⟩; omega
  refine VC.exit (VC.seq (VC.text ?_)); refine VO.c (.move rfl) (VO.c (.assign rfl) (VO.go ?_)); refine VC.ret ?_; exact VEnd.one rfl (evC (.row m0)) (pvE (by rw [List.take_of_length_le (by omega)]))
theorem zConcatS_ok {l : List (List ByteArray)} (hl : l.length < 100000) (h1 : l.flatten.length ≤ 1000000) : VF Tryz.prog OA 91 [.v y214 l] (.v (.sl .str) l.flatten) := by
  by_cases h : l.flatten.length = 0
  · exact zConcatS0_ok hl h
  exact zConcatS1_ok hl (Nat.pos_of_ne_zero h) h1
def lnL (p : Pc) : List ByteArray := [pieWd, decS p.1, p.2.1, decS p.2.2.1, decS p.2.2.2.1] ++ p.2.2.2.2.map fun x => decS (sxE x)
def lnT (p : Pc) : ByteArray := joinS 32 (lnL p) ++ nlS
structure PcT (p : Pc) : Prop where
  r : 0 ≤ p.1 ∧ p.1 ≤ 100000
  m : p.2.1.size ≤ 24
  t : 0 ≤ p.2.2.1 ∧ p.2.2.1 ≤ 100
  w : 0 ≤ p.2.2.2.1 ∧ p.2.2.2.1 ≤ 100
  n : p.2.2.2.2.length ≤ 8
  v : ∀ x ∈ p.2.2.2.2, lvlE x = 0
theorem sLine1_ok {x : Nat} (hx : lvlE x = 0) : VF Tryz.prog OA 89 [.v (.flt .f32) x] (St (decS (sxE x))) := by
  refine VF.enter Tryz.func89 rfl (fun _ _ => rfl) rfl ?_; show VC _ _ _ _ _ [(0, .v (.flt .f32) x)] [] _; refine VC.seq (VC.text ?_); refine VO.c (.assign rfl) ?_; refine VO.go (VC.seq (VC.text ?_)); refine VO.c (.move rfl) ?_; refine VO.call rfl rfl (VF.call (sSix_ok hx)) ?_; refine VO.call rfl rfl (VF.call (zItoa_ok (by have := (lvl_ok hx).2; omega))) ?_; refine VO.c (.assign rfl) (VO.go ?_); refine VC.ret ?_; exact VEnd.one rfl evT (pvE (by rfl))
theorem sMapFS_ok {F : Nat → ByteArray} {l : List Nat} {f : PV} (hl : l.length < 100000) (hf : ∀ x ∈ l, VCall Tryz.prog OA f [.v (.flt .f32) x] (St (F x))) : VF Tryz.prog OA 88 [.v y51 l, f] (.v (.sl .str) (l.map F)) := by
  refine VF.enter Tryz.func88 rfl (fun _ _ => rfl) rfl ?_; show VC _ _ _ _ _ [(0, .v y51 l), (1, f)] [] _; refine VC.seq (VC.text ?_); refine VO.c (.assign rfl) ?_; refine VO.go (VC.seq (VC.text ?_)); refine VO.c (.assign rfl) ?_; refine VO.go (VC.seq (VC.seq (VC.text ?_))); refine VO.c (.move rfl) ?_; refine VO.r (.len el51) ?_; refine VO.c (.move rfl) ?_; refine VO.go (VC.block ?_); refine VC.cell0 9 .str ?_; refine VC.keep [(1, f), (5, .raw (.slice none 0 0)), (8, .v y51 l), (9, I ((l.length : Nat) : Int)), (10, I ((0 : Nat) : Int))] ⟨rfl, rfl, rfl, rfl, rfl, trivial⟩ ?_; refine VC.loop (I := fun kk ff ss => ∃ (j : Nat) (out : Value), kk = l.length - j ∧ ff = [(1, f), (5, .raw out), (8, .v y51 l), (9, I ((l.length : Nat) : Int)), (10, I ((j : Nat) : Int))] ∧ ss = [(out, .row 9 .str ((l.take j).map F))] ∧ (j ≤ l.length)) ?_ _ _ _ ⟨0, (.slice none 0 0), rfl, rfl, rfl, Nat.zero_le _⟩; rintro kk ff ss ⟨j, out, hk0, rfl, rfl, hj⟩; refine VC.seq (VC.text ?_); refine VO.c (.lss) ?_; refine VO.go (VC.seq ?_); refine VC.condD rfl (fun c3 => ?_) (fun c3 => ?_)
  · refine VC.skip (VC.seq (VC.block (VC.seq (VC.text ?_)))); refine VO.c (.ix (j := j) rfl rfl el51 (by omega)) ?_; refine VO.r (.ld vt54) ?_; refine VO.c (.assign rfl) ?_; refine VO.go (VC.text ?_); refine VO.c (.move rfl) (VO.c (.move rfl) (VO.c (.move rfl) ?_)); refine VO.call rfl rfl ((hf _ (List.getElem_mem _)) ) ?_; refine VO.new (.lit [F (l[j])] el47) ?_; refine VO.app rfl rfl el47 el47 (by simp; omega) ?_; intro ww5; refine VO.c (.assign rfl) ?_; refine VO.nil (VC.text ?_); refine VO.c (.add rfl rfl (by omega)) (VO.c (.move rfl) ?_); refine VO.nil ?_; refine ⟨_, [(1, f), (5, .raw ww5), (8, .v y51 l), (9, I ((l.length : Nat) : Int)), (10, I (((j + 1) : Nat) : Int))], ?_, ⟨rfl, rfl, rfl, rfl, rfl, trivial⟩, (j + 1), ww5, rfl, rfl, (by rw [List.take_succ_eq_append_getElem (by omega), List.map_append] <;> rfl), (by omega)⟩; omega
  refine VC.exit (VC.seq (VC.text ?_)); refine VO.c (.move rfl) (VO.c (.assign rfl) (VO.go ?_)); refine VC.ret ?_; exact VEnd.one rfl (evC (.row m0)) (pvE (by rw [List.take_of_length_le (by omega)]))
theorem joiL_len {c : UInt8} {m : Nat} : ∀ {l : List (List UInt8)}, (∀ w ∈ l, w.length ≤ m) → (joiL c l).length ≤ (m + 1) * l.length
  | [], _ => by simp [joiL]
  | [w], h => by
    have := h w List.mem_cons_self; show w.length ≤ _
    simp; omega
  | w :: v :: r, h => by
    have h1 := h w List.mem_cons_self; have ih := joiL_len (c := c) (l := v :: r) fun x hx => h x (List.mem_cons_of_mem _ hx); show (w ++ c :: joiL c (v :: r)).length ≤ _; rw [List.length_append, List.length_cons]; rw [List.length_cons, Nat.mul_succ]; omega
theorem decS_sz {n : Int} (h : -1000000 ≤ n ∧ n ≤ 1000000) : (decS n).size ≤ 20 := by
  by_cases h0 : 0 ≤ n
  · have := decS_size (n := n) ⟨h0, by omega⟩; omega
  obtain ⟨k, rfl⟩ : ∃ k : Nat, n = Int.negSucc k := ⟨n.natAbs - 1, by omega⟩; have h1 := decS_size (n := ((k + 1 : Nat) : Int)) (by omega); unfold decS at h1 ⊢; rw [← toL_len, toL_ofL] at h1 ⊢; show (45 :: digs 20 (k + 1)).length ≤ 20; have e : itoaF ((k + 1 : Nat) : Int) = digs 20 (k + 1) := rfl; rw [e] at h1; rw [List.length_cons]; omega
theorem lnL_sz {p : Pc} (h : PcT p) : (∀ w ∈ (lnL p).map toL, w.length ≤ 24) ∧ (lnL p).length ≤ 13 := by
  refine ⟨fun w hw => ?_, ?_⟩
  · obtain ⟨x, hx, rfl⟩ := List.mem_map.1 hw; rw [toL_len]; unfold lnL at hx; rcases List.mem_append.1 hx with hx | hx
    · simp only [List.mem_cons, List.not_mem_nil, or_false] at hx; rcases hx with rfl | rfl | rfl | rfl | rfl
      · decide
      · have := decS_sz (n := p.1) (by have := h.r; omega); omega
      · exact h.m
      · have := decS_sz (n := p.2.2.1) (by have := h.t; omega); omega
      have := decS_sz (n := p.2.2.2.1) (by have := h.w; omega); omega
    obtain ⟨v, hv, rfl⟩ := List.mem_map.1 hx; have := decS_sz (n := sxE v) (by have := (lvl_ok (h.v v hv)).2; omega); omega
  have := h.n; unfold lnL; rw [List.length_append, List.length_map]
  simp; omega
theorem lnT_sz {p : Pc} (h : PcT p) : (joinS 32 (lnL p)).size ≤ 325 := by
  obtain ⟨h1, h2⟩ := lnL_sz h; have h3 := joiL_len (c := 32) h1; rw [List.length_map] at h3; unfold joinS; rw [← toL_len, toL_ofL]; have : (24 + 1) * (lnL p).length ≤ 25 * 13 := Nat.mul_le_mul_left _ h2; omega
theorem sLine_ok {p : Int × ByteArray × Int × Int × (List Nat)} (hp : PcT p) : VF Tryz.prog OA 34 [.v y60 p] (St (lnT p)) := by
  refine VF.enter Tryz.func34 rfl (fun _ _ => rfl) rfl ?_; show VC _ _ _ _ _ [(0, .v y60 p)] [] _; refine VC.seq (VC.text ?_); refine VO.new (.box) ?_; refine VO.c (.assign rfl) ?_; refine VO.go (VC.seq (VC.drawn ?_)); refine VD.c (.fa (.l .o)) ?_; refine VD.r [] (.ld vt3) (.inl rfl) ?_; refine VD.call rfl rfl (VF.call (zItoa_ok (by have := hp.r; omega))) ?_; refine VD.c (.fa (.r (.l .o))) ?_; refine VD.r [] (.ld vt9) (.inl rfl) ?_; refine VD.c (.fa (.r (.r (.l .o)))) (VD.nw [] ?_); refine VD.r [] (.ld vt3) (.inl rfl) ?_; refine VD.call rfl rfl (VF.call (zItoa_ok (by have := hp.t; omega))) ?_; refine VD.c (.fa (.r (.r (.r (.l .o))))) ?_; refine VD.r [] (.ld vt3) (.inl rfl) ?_; refine VD.call rfl rfl (VF.call (zItoa_ok (by have := hp.w; omega))) ?_; refine VD.new (.lit [(⟨#[112, 105, 101, 99, 101]⟩ : ByteArray), decS p.1, p.2.1, decS p.2.2.1, decS p.2.2.2.1] el47) ?_; refine VD.c (.assign rfl) ?_; refine VD.go (VC.seq (VC.text ?_)); refine VO.c (.fa (.r (.r (.r (.r .o))))) ?_; refine VO.r (.ld vt51) ?_; refine VO.call rfl rfl (VF.call (sMapFS_ok (by have := hp.n; omega) (fun x m => VF.call (sLine1_ok (hp.v x m))) (F := fun x => decS (sxE x)))) ?_; refine VO.c (.assign rfl) ?_; refine VO.go (VC.seq (VC.text ?_)); refine VO.c (.move rfl) (VO.c (.move rfl) ?_); refine VO.new (.lit [[(⟨#[112, 105, 101, 99, 101]⟩ : ByteArray), decS p.1, p.2.1, decS p.2.2.1, decS p.2.2.2.1], p.2.2.2.2.map (fun x => decS (sxE x))] el214) ?_; refine VO.call rfl rfl (VF.call (zConcatS_ok (by simp) (by have := hp.n; simp; omega))) ?_; rw [show ([[(⟨#[112, 105, 101, 99, 101]⟩ : ByteArray), decS p.1, p.2.1, decS p.2.2.1, decS p.2.2.2.1], p.2.2.2.2.map (fun x => decS (sxE x))] : List (List ByteArray)).flatten = lnL p by simp [lnL]; rfl]; obtain ⟨hz1, hz2⟩ := lnL_sz hp; have hz3 := joiL_len (c := 32) hz1; rw [List.length_map] at hz3; have hz4 : (24 + 1) * (lnL p).length ≤ 25 * 13 := Nat.mul_le_mul_left _ hz2; have hz5 := lnT_sz hp; refine VO.call rfl rfl (VF.call (zJoin_ok rfl (by simp [lnL]) (by omega) (by show (joiL 32 _).length ≤ _; omega))) ?_; refine VO.c (.sadd (p := (joinS (sepB (⟨#[32]⟩)) (lnL p))) (q := (⟨#[10]⟩)) (by (show (joinS 32 (lnL p)).size + 1 ≤ _; omega))) (VO.c (.assign rfl) (VO.go ?_)); refine VC.ret ?_; exact VEnd.one rfl evT (pvE (by rfl))
end Go.Proofs
namespace Go.Fs
variable {P : Program} {orc : FuncId → List Value → Heap → Option (Value × Heap)}
theorem VF.enterOr {f : FuncId} {args : List PV} {fn : Func} {c : Code} {r : PV} (hfn : P.funcs[f]? = some fn) (hc : fn.body = some c) (ho : ∀ us h S, RepL h S args us → orc f us h = none ∨ ∃ u, orc f us h = some (u, h) ∧ RepPV h S r u) (hn : (Nat.blt 4000 fn.ntmps || Nat.blt fn.ntmps args.length) = false)
    (hb : VC P orc none c fn.ntmps (argVL 0 args) [] (VEnd P fn r)) : VF P orc f args r := fun h S us hok hS ha => by
  rcases ho us h S ha with hoo | ⟨u, hoo, hrr⟩
  case inr => exact EvF.oracle hoo ⟨Aft.refl _ _, hrr, fun _ => rfl⟩
  have hl := ha.len
  have hn2 : Nat.blt 4000 fn.ntmps = false ∧ Nat.blt fn.ntmps args.length = false := by simpa using hn
  have n3 := nble_no hn2.1; have n4 := nble_no hn2.2; have ha' : RepL (entry h) S args us := RepL.nx (h := h) (h' := entry h) (Goes.objs fun _ => rfl) ha
  have I0 : Iv (entry h) [] S (entry h) [] (fillTr .leaf 0 us) [] (argVL 0 args) := {
    ok := hok
    s0 := hS.1
    aft := Aft.refl _ _
    cells := fun c hc => by cases hc
    new := fun b hb => by cases hb
    apart := List.nodup_nil
    mark := fun d hd => by cases hd
    marks := List.nodup_nil
    slots := slots_args (hS.2.nx (Goes.objs fun _ => rfl)) ha' (by omega) }
  refine EvF.enter hfn hc hoo (by rw [hl]; exact hn) ((hb (entry h) [] S _ (entry h) [] I0).mono fun e fr h1 hq => ?_); obtain ⟨_, fl', σ', I, he, ps, hps, rfl⟩ := hq; obtain ⟨h2, d1, d2, d3⟩ := drops_ok I.marks fun d hd => (I.mark d hd).2
  have hgd : ∀ b o, h1.get b = some o → o ≠ .defd → h2.get b = some o := fun b o hg hne => by
    rw [d3 b (fun hm => hne (by have := (I.mark b hm).2; rw [hg] at this; exact Option.some.inj this))]; exact hg
  have a2 : Aft (entry h) h2 [] := I.aft.trans d2 fun i hi => .inr (I.mark i hi).1; have hN : GoesR h1 S h2 S := fun b _ hg hne hbS => ⟨hgd b _ hg hne, hbS⟩; obtain ⟨us', e1, e2⟩ := hps.ok I.lc hgd hN; have hrep := tup_rep e2; have hlow : h.next ≤ h2.low := a2.low h.next (Nat.le_refl _) (Nat.le_refl _) (by simp); refine ⟨he, h2, us', d1, e1, ?_⟩; unfold leftOf
  have hble : Nat.ble h.next h2.low = true := by rw [Nat.ble_eq]; exact hlow
  cases haf : af (tupled us') with
  | true =>
    rw [hble]
    exact ⟨Aft.refl _ _, hrep.anyAf haf, fun _ => rfl⟩
  | false =>
    refine ⟨⟨a2.next, fun b hb _ => a2.get b hb (by simp), fun x => a2.ok x, fun e h3 h4 _ => Nat.le_min.2 ⟨h3, Nat.le_trans h4 hlow⟩, fun b hb => .inl (a2.get b hb (by simp)), Nat.min_le_left _ _⟩, RepPV.nx (h := h2) (h' := { next := h2.next, low := min h.low h2.low, objs := h2.objs }) (fun _ _ a b => ⟨a, b⟩) hrep, fun hf => ?_⟩; rw [(hrep.flat hf).1] at haf; cases haf
end Go.Fs
namespace Go.Proofs
open Go.Fs Ieee
set_option maxHeartbeats 2000000
theorem sMapPS_ok {F : Pc → ByteArray} {l : List (Int × ByteArray × Int × Int × (List Nat))} {f : PV} (hl : l.length < 100000) (hf : ∀ x ∈ l, VCall Tryz.prog OA f [.v y60 x] (St (F x))) : VF Tryz.prog OA 33 [.v y36 l, f] (.v (.sl .str) (l.map F)) := by
  refine VF.enter Tryz.func33 rfl (fun _ _ => rfl) rfl ?_; show VC _ _ _ _ _ [(0, .v y36 l), (1, f)] [] _; refine VC.seq (VC.text ?_); refine VO.c (.assign rfl) ?_; refine VO.go (VC.seq (VC.text ?_)); refine VO.c (.assign rfl) ?_; refine VO.go (VC.seq (VC.seq (VC.text ?_))); refine VO.c (.move rfl) ?_; refine VO.r (.len el36) ?_; refine VO.c (.move rfl) ?_; refine VO.go (VC.block ?_); refine VC.cell0 9 .str ?_; refine VC.keep [(1, f), (5, .raw (.slice none 0 0)), (8, .v y36 l), (9, I ((l.length : Nat) : Int)), (10, I ((0 : Nat) : Int))] ⟨rfl, rfl, rfl, rfl, rfl, trivial⟩ ?_; refine VC.loop (I := fun kk ff ss => ∃ (j : Nat) (out : Value), kk = l.length - j ∧ ff = [(1, f), (5, .raw out), (8, .v y36 l), (9, I ((l.length : Nat) : Int)), (10, I ((j : Nat) : Int))] ∧ ss = [(out, .row 9 .str ((l.take j).map F))] ∧ (j ≤ l.length)) ?_ _ _ _ ⟨0, (.slice none 0 0), rfl, rfl, rfl, Nat.zero_le _⟩; rintro kk ff ss ⟨j, out, hk0, rfl, rfl, hj⟩; refine VC.seq (VC.text ?_); refine VO.c (.lss) ?_; refine VO.go (VC.seq ?_); refine VC.condD rfl (fun c3 => ?_) (fun c3 => ?_)
  · refine VC.skip (VC.seq (VC.block (VC.seq (VC.text ?_)))); refine VO.c (.ix (j := j) rfl rfl el36 (by omega)) ?_; refine VO.r (.ld vt60) ?_; refine VO.cell (.alloc zt60) ?_; intro ww1; refine VO.setV (cs' := [I ((l[j]).1), St ((l[j]).2.1), I ((l[j]).2.2.1), I ((l[j]).2.2.2.1), .v y51 ((l[j]).2.2.2.2)]) vt60 .v ?_; refine VO.shut [(7, .p y60 (l[j]))] (.cons rfl (.var m0 .refl) .nil) ?_; refine VO.go (VC.text ?_); refine VO.c (.move rfl) (VO.c (.move rfl) ?_); refine VO.r (.ld vt60) ?_; refine VO.call rfl rfl ((hf _ (List.getElem_mem _)) ) ?_; refine VO.new (.lit [F (l[j])] el47) ?_; refine VO.app rfl rfl el47 el47 (by simp; omega) ?_; intro ww2; refine VO.c (.assign rfl) ?_; refine VO.nil (VC.text ?_); refine VO.c (.add rfl rfl (by omega)) (VO.c (.move rfl) ?_); refine VO.nil ?_; refine ⟨_, [(1, f), (5, .raw ww2), (8, .v y36 l), (9, I ((l.length : Nat) : Int)), (10, I (((j + 1) : Nat) : Int))], ?_, ⟨rfl, rfl, rfl, rfl, rfl, trivial⟩, (j + 1), ww2, rfl, rfl, (by rw [List.take_succ_eq_append_getElem (by omega), List.map_append] <;> rfl), (by omega)⟩; omega
  refine VC.exit (VC.seq (VC.text ?_)); refine VO.c (.move rfl) (VO.c (.assign rfl) (VO.go ?_)); refine VC.ret ?_; exact VEnd.one rfl (evC (.row m0)) (pvE (by rw [List.take_of_length_le (by omega)]))
def catS (ss : List ByteArray) : ByteArray := ofL (ss.map toL).flatten
theorem joinF_nil : ∀ ls : List (List UInt8), joinF [] ls = ls.flatten
  | [] => rfl
  | [w] => by simp [joinF]
  | w :: v :: r => by
    show w ++ [] ++ joinF [] (v :: r) = _; rw [joinF_nil (v :: r)]; simp
theorem zJoin0_ok : VF Tryz.prog OA 32 [.v (.sl .str) [], St ByteArray.empty] (St ByteArray.empty) := by
  refine VF.enterOr Tryz.func32 rfl (fun us h S hr => ?_) rfl ?_
  · obtain ⟨u, r, rfl, g1, u2, r2, rfl, g2, g3⟩ := hr; obtain rfl : r2 = [] := g3; obtain rfl := RepV.str g2; have hs := RepV.sl g1; rcases hs with ⟨rfl, _⟩ | ⟨b, o, mk, rfl, _⟩
    · exact .inl rfl
    show (match h.get b with
      | some (.row _ cs _ _) => (bif Nat.ble (o + 0) cs.length && Nat.ble 0 1000000 then (match strs ((cs.drop o).take 0) with
        | some ss => let r := joinF (toL ByteArray.empty) (ss.map (·.data.toList))
          bif Nat.ble r.length 1000000000 then some (Value.string ⟨r.toArray⟩, h) else none
        | none => none) else none)
      | _ => none) = none ∨ ∃ u, (match h.get b with
      | some (.row _ cs _ _) => (bif Nat.ble (o + 0) cs.length && Nat.ble 0 1000000 then (match strs ((cs.drop o).take 0) with
        | some ss => let r := joinF (toL ByteArray.empty) (ss.map (·.data.toList))
          bif Nat.ble r.length 1000000000 then some (Value.string ⟨r.toArray⟩, h) else none
        | none => none) else none)
      | _ => none) = some (u, h) ∧ RepPV h S (St ByteArray.empty) u
    cases hg : h.get b with
    | none => exact .inl rfl
    | some ob =>
      cases ob with
      | row e rs own more =>
        cases hc : (Nat.ble (o + 0) rs.length && Nat.ble 0 1000000) with
        | false => exact .inl (by simp only [hc]; rfl)
        | true => exact .inr ⟨.string ByteArray.empty, by simp only [hc]; rfl, RepV.ofStr _⟩
      | _ => exact .inl rfl
  show VC _ _ _ _ _ [(0, .v (.sl .str) []), (1, St ByteArray.empty)] [] _; refine VC.seq (VC.text ?_); refine VO.c (.assign rfl) ?_; refine VO.go (VC.seq (VC.seq (VC.text ?_))); refine VO.c (.move rfl) ?_; refine VO.r (.len el47) ?_; refine VO.go (VC.block (VC.seq (VC.text ?_))); refine VO.c (.eqT (h := rfl)) (VO.c (.assign rfl) (VO.go ?_)); refine VC.condT rfl ?_; refine VC.seq (VC.text ?_); refine VO.c (.assign rfl) (VO.go ?_); refine VC.ret ?_; exact VEnd.one rfl evT (pvE rfl)
theorem zJoinE_ok {ss : List ByteArray} (h1 : ss.length ≤ 1000000) (h2 : ((ss.map toL).flatten).length ≤ 1000000000) : VF Tryz.prog OA 32 [.v (.sl .str) ss, St ByteArray.empty] (St (catS ss)) := by
  match ss, h1, h2 with
  | [], _, _ => exact zJoin0_ok
  | w :: r, h1, h2 =>
    have e : joinF (toL ByteArray.empty) ((w :: r).map toL) = ((w :: r).map toL).flatten := joinF_nil _; have h := VF.join (P := Tryz.prog) (orc := OA) (f := 32) (ss := w :: r) (sep := ByteArray.empty) (fun us h => rfl) (by simp) h1 (by rw [e]; exact h2); rw [e] at h; exact h
end Go.Proofs
namespace Go.Proofs
open Go.Fs Ieee
set_option maxHeartbeats 2000000
theorem nameB_24 {s : ByteArray} (h : nameB s = true) : s.size ≤ 24 := (of_decide_eq_true h).2.1
theorem store_T {d : Dom} {l : List Pc} (h : storeE d l = 0) : ∀ p ∈ l, PcT p ∧ nameB p.2.1 = true := fun p hp => by
  obtain ⟨hd, _, hz⟩ := store_dom h; obtain ⟨i, hi, e⟩ := List.mem_iff_getElem.1 hp; have hpc := piece_zero (hz i hi); rw [← pcA_eq hi, e] at hpc; obtain ⟨h1, h2⟩ := pc_lv hpc; obtain ⟨d1, d2, d3, d4, _, d6⟩ := dom_ok hd; unfold pcPre at h1; rw [firstE_zero] at h1; have r1 := h1 (rangeE p.1 0 100000) (by simp); have r2 := h1 (whenE (!(hasM d p.2.1).isSome) 10) (by simp); have r3 := h1 (rangeE p.2.2.1 0 (d.2.2.1 - 1)) (by simp); have r4 := h1 (rangeE p.2.2.2.1 0 (d.1 - 1)) (by simp); have r5 := whenE_zero (by decide) (h1 (whenE (decide ((p.2.2.2.2.length : Int) ≠ d.2.1)) 2) (by simp))
  have hrg : ∀ {n a b : Int}, rangeE n a b = 0 → a ≤ n ∧ n ≤ b := fun {n a b} h => by
    unfold rangeE at h; split at h
    · cases h
    omega
  have hname : nameB p.2.1 = true := by
    cases hm : hasM d p.2.1 with
    | none => rw [hm] at r2; cases r2
    | some v =>
      obtain ⟨k, hk, _, hn⟩ := idx_some _ hm; have hme := d6 k hk; unfold memE at hme; rw [firstE_zero] at hme; have := hme (whenE (!nameB (nmE d.2.2.2 k)) 8) (by simp); rw [hn] at this
      cases hb : nameB p.2.1 with
      | true => rfl
      | false => rw [hb] at this; cases this
  have a1 := hrg r1; have a3 := hrg r3; have a4 := hrg r4; have a5 : (p.2.2.2.2.length : Int) = d.2.1 := Classical.not_not.1 r5; exact ⟨⟨a1, nameB_24 hname, by omega, by omega, by omega, h2⟩, hname⟩
def prtT (l : List Pc) : ByteArray := txtG (l.map fun p => joinS 32 (lnL p))
theorem cat_prt (l : List Pc) : catS (l.map lnT) = prtT l := by
  apply toL_inj; unfold catS prtT; rw [toL_ofL, txtG_toL, List.map_map, List.flatMap_map]; show (l.map (toL ∘ lnT)).flatten = _; rw [List.flatMap_def]; congr 1
theorem flat_sz {m : Nat} : ∀ {l : List (List UInt8)}, (∀ w ∈ l, w.length ≤ m) → l.flatten.length ≤ m * l.length
  | [], _ => by simp
  | w :: r, h => by
    have h1 := h w List.mem_cons_self; have ih := flat_sz (l := r) fun x hx => h x (List.mem_cons_of_mem _ hx); rw [List.flatten_cons, List.length_append, List.length_cons, Nat.mul_succ]; omega
theorem prt_sz {l : List Pc} (h : ∀ p ∈ l, PcT p) : ((l.map lnT).map toL).flatten.length ≤ 326 * l.length := by
  have := flat_sz (m := 326) (l := (l.map lnT).map toL) fun w hw => by
    rw [List.map_map] at hw; obtain ⟨p, hp, rfl⟩ := List.mem_map.1 hw; have h1 := lnT_sz (h p hp); show (toL (joinS 32 (lnL p) ++ nlS)).length ≤ 326; rw [toL_app, List.length_append, toL_len]; show _ + 1 ≤ 326; omega
  rw [List.length_map, List.length_map] at this; exact this
theorem zJoinE1_ok {ss : List ByteArray} {p : ByteArray} (hp : p = ByteArray.empty) (h1 : ss.length ≤ 1000000) (h2 : ((ss.map toL).flatten).length ≤ 1000000000) : VF Tryz.prog OA 32 [.v (.sl .str) ss, St p] (St (catS ss)) := by
  subst hp; exact zJoinE_ok h1 h2
def spT (d : Dom) (l : List Pc) : ByteArray := if storeE d l = 0 then prtT l else ByteArray.empty
theorem sPrint_ok {d : Int × Int × Int × (List (ByteArray × Int))} {l : List (Int × ByteArray × Int × Int × (List Nat))} (hl : l.length < 100000) (hr : ∀ p ∈ l, p.2.2.2.2.length < 100000) : VF Tryz.prog OA 8 [.v y34 d, .v y36 l] (.tup [St (spT d l), I (storeE d l)]) := by
  refine VF.enter Tryz.func8 rfl (fun _ _ => rfl) rfl ?_; show VC _ _ _ _ _ [(0, .v y34 d), (1, .v y36 l)] [] _; refine VC.seq (VC.text ?_); refine VO.new (.box) ?_; refine VO.c (.assign rfl) (VO.c (.assign rfl) ?_); refine VO.go (VC.seq (VC.seq (VC.text ?_))); refine VO.r (.ld vt34) ?_; refine VO.c (.move rfl) ?_; refine VO.call rfl rfl (VF.call (sStore_ok hl hr)) ?_; refine VO.c (.assign rfl) ?_; refine VO.go (VC.seq (VC.text ?_)); refine VO.c (.move rfl) (VO.c (.neq) (VO.go ?_)); refine VC.condD rfl (fun c2 => ?_) (fun c2 => ?_)
  · refine VC.seq (VC.text ?_); refine VO.c (.move rfl) (VO.c (.assign rfl) (VO.c (.assign rfl) (VO.go ?_))); refine VC.ret ?_; exact VEnd.two rfl evT evT (pvE (by exact (if_neg c2).symm)) (pvI (by rfl))
  have hz : storeE d l = 0 := Classical.not_not.1 c2; have hT := store_T hz; have hsz := prt_sz (l := l) (fun p hp => (hT p hp).1); have hl4 := (store_dom hz).2.1; refine VC.skip (VC.seq (VC.text ?_)); refine VO.c (.move rfl) ?_; refine VO.call rfl rfl (VF.call (sMapPS_ok hl (fun x m => VF.call (sLine_ok (hT x m).1)) (F := lnT))) ?_; refine VO.call rfl rfl (VF.call (zJoinE1_ok rfl (by rw [List.length_map]; omega) (by omega))) ?_; refine VO.c (.assign rfl) (VO.c (.assign rfl) (VO.go ?_)); refine VC.ret ?_; exact VEnd.two rfl evT evT (pvE (by rw [cat_prt]; exact (if_pos hz).symm)) (pvI (by exact hz.symm))
end Go.Proofs
namespace Go.Proofs
open Go.Fs Ieee
set_option maxHeartbeats 40000000
theorem decS_neg {k : Nat} (h : 0 < k) : decS (-(k : Int)) = ⟨#[45]⟩ ++ decS (k : Int) := by
  obtain ⟨j, rfl⟩ : ∃ j, k = j + 1 := ⟨k - 1, by omega⟩; apply toL_inj; rw [toL_app]; unfold decS; rw [toL_ofL, toL_ofL]; rfl
def prK (l : List Pc) (i : Nat) : ByteArray := txtG ((l.take i).map fun p => joinS 32 (lnL p))
theorem prK_sz {l : List Pc} (h : ∀ p ∈ l, PcT p) {i : Nat} : (prK l i).size ≤ 326 * l.length := by
  have h1 := txtG_size_le (m := 325) (l := (l.take i).map fun p => joinS 32 (lnL p)) fun x hx => by
    obtain ⟨p, hp, rfl⟩ := List.mem_map.1 hx; exact lnT_sz (h p (List.mem_of_mem_take hp))
  rw [List.length_map, List.length_take] at h1; unfold prK; have h2 : 326 * min i l.length ≤ 326 * l.length := Nat.mul_le_mul_left _ (Nat.min_le_right _ _); omega
end Go.Proofs
