/- Parts of the proof: an evaluator of the model, what it is sound for, and contracts of functions. No condition. -/
import Derived.Test.YtedakjflddcbbaaGreatDoorP6
import Derived.Test.YtedakjflddcbbaaGreatDoorP5
import Derived.Test.YtedakjflddcbbaaGreatDoorP3
set_option linter.all false
namespace Go.Proofs
open Go.Fs
set_option maxHeartbeats 1000000
abbrev y89 : Ty := (.sl (.int .u8))
theorem vt89 : ValT Tryz.prog 89 y89 := valT_of (by kernel_rfl)
theorem el89 : ElT Tryz.prog 89 5 (.int .u8) := elT_of (by kernel_rfl)
theorem zWrite_ok {b : Nat} {a u : Value} {acc s : ByteArray} (hsz : acc.size + s.size ≤ 1000000) (ha : a = .pointer none ∨ a = bP b) (hn : acc.size = 0 → u = .slice none 0 0) :
    VFG Tryz.prog OA 42 [.raw (bP b), St s] [(bW b, .cel 91 0 [.raw a, .raw u]), (u, .row 5 (.int .u8) (bytesI acc))] (fun r γ' => ∃ u', r = .tup [I ((s.size : Nat) : Int), .raw .nilIface] ∧ γ' = [(bW b, .cel 91 0 [.raw (bP b), .raw u']), (u', .row 5 (.int .u8) (bytesI (acc ++ s)))] ∧ ((acc ++ s).size = 0 → u' = .slice none 0 0)) := by
  refine VFG.enterK Tryz.func42 rfl (fun _ _ => rfl) rfl ?_; show VC _ _ _ _ _ [(0, .raw (bP b)), (1, St s)] [(bW b, .cel 91 0 [.raw a, .raw u]), (u, .row 5 (.int .u8) (bytesI acc))] _; refine VC.seq (VC.text ?_); refine VO.c (.assign rfl) (VO.c (.assign rfl) ?_); refine VO.go (VC.seq (VC.text ?_)); refine VO.c (.move rfl) ?_; refine VO.callG [(bW b, .cel 91 0 [.raw a, .raw u])] rfl rfl rfl (VFG.call (VFG.cop (O := orcA 92 43 6) (tb := 91) (fun _ _ => rfl) ha)) ?_; rintro _ _ ⟨rfl, rfl⟩; show VO _ _ _ _ _ _ [(bW b, .cel 91 0 [.raw (bP b), .raw u]), (u, .row 5 (.int .u8) (bytesI acc))] _; refine VO.go (VC.seq (VC.text ?_)); refine VO.c (.move rfl) (VO.c (.move rfl) (VO.c (.nilP) (VO.c (.faB (k := 1) m0) ?_))); refine VO.r (.ldB m0 vt89) ?_; refine VO.c (.move rfl) ?_; refine VO.perm swap1 ?_; refine VO.mk (MakeV.appS el89 (by kernel_rfl) rfl rfl hsz hn) ?_; rintro _ _ ⟨u', ⟨rfl, rfl⟩, hn2⟩; refine VO.c (.nilP) (VO.c (.faB (k := 1) m1) ?_); refine VO.perm swap1 ?_; refine VO.one m1 fun ho => ?_; refine VO.mk0 (MakeV.stB vt89 rfl rfl ho) ?_; rintro _ _ ⟨rfl, rfl⟩; refine VO.go (VC.seq (VC.text ?_)); refine VO.c (.move rfl) ?_; refine VO.r (.lenS) ?_; refine VO.c (.assign rfl) (VO.c (.assign rfl) (VO.go ?_)); refine VC.ret ?_; exact ⟨rfl, [I ((s.size : Nat) : Int), .raw .nilIface], .cons evT (.cons evT .nil), ⟨u', rfl, rfl, hn2⟩, bld_keep⟩
theorem zStr_ok {b : Nat} {a u : Value} {acc : ByteArray} (hsz : acc.size ≤ 1000000) (hn : acc.size = 0 → u = .slice none 0 0) :
    VFG Tryz.prog OA 46 [.raw (bP b)] [(bW b, .cel 91 0 [.raw a, .raw u]), (u, .row 5 (.int .u8) (bytesI acc))] (fun r γ' => r = St acc ∧ γ' = [(bW b, .cel 91 0 [.raw a, .raw u])]) := by
  refine VFG.enterK Tryz.func46 rfl (fun _ _ => rfl) rfl ?_; show VC _ _ _ _ _ [(0, .raw (bP b))] [(bW b, .cel 91 0 [.raw a, .raw u]), (u, .row 5 (.int .u8) (bytesI acc))] _; refine VC.seq (VC.text ?_); refine VO.c (.assign rfl) ?_; refine VO.go (VC.seq (VC.drawn ?_)); refine VD.c (.move rfl) (VD.c (.nilP) ?_); refine VD.co (.faB (k := 1) m0) ?_; refine VD.r [(bW b, .cel 91 0 [.raw a, .raw u]), (u, .row 5 (.int .u8) (bytesI acc))] (.ldB m0 vt89) (.inr ⟨rfl, rfl⟩) ?_; refine VD.r [(bW b, .cel 91 0 [.raw a, .raw u]), (u, .row 5 (.int .u8) (bytesI acc))] (.sd rfl m1 hn) (.inr ⟨rfl, rfl⟩) ?_; refine VD.c (.move rfl) (VD.c (.nilP) ?_); refine VD.co (.faB (k := 1) m0) ?_; refine VD.r [(bW b, .cel 91 0 [.raw a, .raw u]), (u, .row 5 (.int .u8) (bytesI acc))] (.ldB m0 vt89) (.inr ⟨rfl, rfl⟩) ?_; refine VD.r [(bW b, .cel 91 0 [.raw a, .raw u]), (u, .row 5 (.int .u8) (bytesI acc))] (.lenO m1 el89) (.inr ⟨rfl, rfl⟩) ?_; refine VD.perm swap1 ?_; refine VD.mk (MakeV.ustr (by kernel_rfl) (by kernel_rfl) rfl (by rw [← bytesI_len]; rfl) hsz hn) ?_; rintro _ _ tl ⟨rfl, rfl⟩; refine VD.c (.assign rfl) (VD.go ?_); refine VC.ret ?_; exact ⟨rfl, [St acc], .cons evT .nil, ⟨rfl, rfl⟩, bld_keep1⟩
end Go.Proofs
namespace Go.Proofs
open Go.Fs
set_option maxHeartbeats 1000000
theorem toL_mid (s : ByteArray) (f i : Nat) : toL (s.extract f i) = ((toL s).drop f).take (i - f) := by
  unfold toL; rw [ByteArray.data_extract, Array.toList_extract, List.extract_eq_take_drop]
theorem spl_cut {c : UInt8} {L : List UInt8} {k : Nat} (h : ∀ x ∈ L.take k, x ≠ c) (hk : k < L.length) (hc : L[k] = c) : splL c L = L.take k :: splL c (L.drop (k + 1)) := by
  have e : L = L.take k ++ c :: L.drop (k + 1) := by rw [← hc, ← List.drop_eq_getElem_cons hk, List.take_append_drop]
  have := spl_app (s := c) (w := L.take k) (r := L.drop (k + 1)) h; rw [← e] at this; exact this
theorem byteE_at {s : ByteArray} {i : Nat} (h : i < (toL s).length) : byteE s ((i : Nat) : Int) = ((((toL s)[i]).toNat : Nat) : Int) := by
  rw [byteE_nat]
  have h2 : i < s.data.size := by rw [toL_len] at h; exact h
  show (((s.data[i]!).toNat : Nat) : Int) = _; rw [getElem!_pos s.data i h2]; simp [toL]
def c8 (c : Int) : UInt8 := c.toNat.toUInt8
theorem c8_nat {c : Int} (h : 0 ≤ c ∧ c < 256) : (((c8 c).toNat : Nat) : Int) = c := by
  show (((UInt8.ofNat c.toNat).toNat : Nat) : Int) = c; rw [UInt8.toNat_ofNat']; omega
theorem c8_eq {c : Int} (h : 0 ≤ c ∧ c < 256) {x : UInt8} : (((x.toNat : Nat) : Int) = c) ↔ x = c8 c := by
  constructor
  · intro e; apply UInt8.toNat_inj.1; have := c8_nat h; omega
  rintro rfl; exact c8_nat h
structure SpS (s : ByteArray) (c : UInt8) (i f : Nat) (O : List ByteArray) : Prop where
  in_ : i ≤ (toL s).length → splL c (toL s) = O.map toL ++ splL c ((toL s).drop f) ∧ f ≤ i ∧ ∀ x ∈ ((toL s).drop f).take (i - f), x ≠ c
  out : (toL s).length < i → splL c (toL s) = O.map toL
theorem sps_0 {s : ByteArray} {c : UInt8} : SpS s c 0 0 [] := ⟨fun _ => ⟨rfl, Nat.le_refl _, fun x hx => by simp at hx⟩, fun h => by omega⟩
theorem sps_t {s : ByteArray} {c : UInt8} {i f : Nat} {O : List ByteArray} (h : SpS s c i f O) (hi : i ≤ (toL s).length) (hc : i = (toL s).length ∨ ∃ hk : i < (toL s).length, (toL s)[i] = c) : SpS s c (i + 1) (i + 1) (O ++ [s.extract f i]) := by
  obtain ⟨h1, h2, h3⟩ := h.in_ hi; by_cases he : i = (toL s).length
  · refine ⟨fun h => by omega, fun _ => ?_⟩; have h4 : ((toL s).drop f).take (i - f) = (toL s).drop f := List.take_of_length_le (by rw [List.length_drop]; omega); rw [h4] at h3; rw [h1, spl_word h3, List.map_append, List.map_singleton, toL_mid, h4]
  obtain ⟨hk, hx⟩ := hc.resolve_left he; refine ⟨fun _ => ⟨?_, Nat.le_refl _, fun x hx => by simp at hx⟩, fun h => by omega⟩; have h5 := spl_cut (L := (toL s).drop f) (k := i - f) h3 (by rw [List.length_drop]; omega) (by rw [List.getElem_drop]; simp only [show f + (i - f) = i by omega]; exact hx); rw [h1, h5, List.drop_drop, List.map_append, List.map_singleton, toL_mid, List.append_assoc, show f + (i - f + 1) = i + 1 by omega]; rfl
theorem sps_f {s : ByteArray} {c : UInt8} {i f : Nat} {O : List ByteArray} (h : SpS s c i f O) (hi : i < (toL s).length) (hc : (toL s)[i] ≠ c) : SpS s c (i + 1) f O := by
  obtain ⟨h1, h2, h3⟩ := h.in_ (by omega); refine ⟨fun _ => ⟨h1, by omega, fun x hx => ?_⟩, fun h => by omega⟩; rw [show i + 1 - f = (i - f) + 1 by omega, List.take_succ_eq_append_getElem (by rw [List.length_drop]; omega)] at hx; rcases List.mem_append.1 hx with hx | hx
  · exact h3 x hx
  rw [List.mem_singleton.1 hx, List.getElem_drop]; simp only [show f + (i - f) = i by omega]; exact hc
theorem sps_end {s : ByteArray} {c : UInt8} {i f : Nat} {O : List ByteArray} (h : SpS s c i f O) (hi : (toL s).length < i) : O = splS c s := by
  unfold splS; rw [h.out hi, List.map_map]; exact (List.map_id'' (fun x => rfl) O).symm
theorem sps_len {s : ByteArray} {c : UInt8} {i f : Nat} {O : List ByteArray} (h : SpS s c i f O) : O.length ≤ s.size + 1 := by
  have h0 := spl_len (c := c) (toL s); have hc := List.count_le_length (a := c) (l := toL s); rw [toL_len] at hc; by_cases hi : i ≤ (toL s).length
  · have h1 := congrArg List.length (h.in_ hi).1; rw [List.length_append, List.length_map] at h1; omega
  have h1 := congrArg List.length (h.out (by omega)); rw [List.length_map] at h1; omega
theorem rSplit_ok {s : ByteArray} {c : Int} (hs : s.size < 100000) (hc : 0 ≤ c ∧ c < 256) : VF Tryz.prog OA 15 [St s, .v (.int .u8) c] (.v (.sl .str) (splS (c8 c) s)) := by
  refine VF.enter Tryz.func15 rfl (fun _ _ => rfl) rfl ?_; show VC _ _ _ _ _ [(0, St s), (1, .v (.int .u8) c)] [] _; refine VC.seq (VC.text ?_); have hl := toL_len s; refine VO.c (.assign rfl) ?_; refine VO.go (VC.seq (VC.text ?_)); refine VO.c (.assign rfl) ?_; refine VO.go (VC.seq (VC.text ?_)); refine VO.c (.assign rfl) ?_; refine VO.go (VC.seq (VC.seq (VC.text ?_))); refine VO.c (.assign rfl) ?_; refine VO.go (VC.block ?_); refine VC.cell0 9 .str ?_; refine VC.keep [(0, St s), (1, .v (.int .u8) c), (5, .raw (.slice none 0 0)), (6, I ((0 : Nat) : Int)), (7, I ((0 : Nat) : Int))] ⟨rfl, rfl, rfl, rfl, rfl, trivial⟩ ?_; refine VC.loop (I := fun kk ff ss => ∃ (i : Nat) (f : Nat) (O : List ByteArray) (w : Value), kk = s.size + 1 - i ∧ ff = [(0, St s), (1, .v (.int .u8) c), (5, .raw w), (6, I ((f : Nat) : Int)), (7, I ((i : Nat) : Int))] ∧ ss = [(w, .row 9 .str O)] ∧ (i ≤ s.size + 1) ∧ (SpS s (c8 c) i f O)) ?_ _ _ _ ⟨0, 0, [], (.slice none 0 0), rfl, rfl, rfl, (by omega), (by exact sps_0)⟩; rintro kk ff ss ⟨i, f, O, w, hk0, rfl, rfl, hi, hS⟩; refine VC.seq (VC.seq (VC.text ?_)); refine VO.c (.move rfl) (VO.c (.move rfl) ?_); refine VO.r (.lenS) ?_; refine VO.c (.leq) (VO.go ?_); refine VC.condD rfl (fun c4 => ?_) (fun c4 => ?_)
  · have his : i ≤ s.size := by omega
    have hfi := (hS.in_ (by omega)).2.1; have hol := sps_len hS; refine VC.skip (VC.seq (VC.block (VC.seq (VC.text ?_)))); refine VO.c (.move rfl) (VO.c (.move rfl) ?_); refine VO.r (.lenS) ?_; refine VO.c (.eql) (VO.c (.move rfl) ?_); refine VO.cg (r := decide (((i : Nat) : Int) = ((s.size : Nat) : Int))) (w := false) [] trivial (fun _ => (.move rfl)) ?_; refine VO.cg (r := decide (((i : Nat) : Int) = ((s.size : Nat) : Int))) (w := false) [] trivial (fun _ => (.move rfl)) ?_; refine VO.cg (r := decide (((i : Nat) : Int) = ((s.size : Nat) : Int))) (w := false) [(19, St s), (20, I ((i : Nat) : Int))] ⟨rfl, rfl, trivial⟩ (fun hgd => have g6_4 : ¬ (((i : Nat) : Int) = ((s.size : Nat) : Int)) := (by simpa using hgd); (.ixS rfl rfl (by omega) (by omega))) ?_; refine VO.cg (r := decide (((i : Nat) : Int) = ((s.size : Nat) : Int))) (w := false) [] trivial (fun _ => (.move rfl)) ?_; refine VO.cg (r := decide (((i : Nat) : Int) = ((s.size : Nat) : Int))) (w := false) [(21, .v (.int .u8) (byteE s ((i : Nat) : Int))), (22, .v (.int .u8) c)] ⟨rfl, rfl, trivial⟩ (fun _ => (.eql)) ?_; refine VO.c (.or) (VO.go ?_); refine VC.condB rfl (fun c6 => ?_) (fun c6 => ?_)
    · try simp only [Bool.and_eq_true, Bool.or_eq_true, Bool.and_eq_false_iff, Bool.or_eq_false_iff, Bool.not_eq_true', Bool.not_eq_false', decide_eq_true_eq, decide_eq_false_iff_not] at c6
      have hcc : i = s.size ∨ byteE s ((i : Nat) : Int) = c := by omega
      have hS2 : SpS s (c8 c) (i + 1) (i + 1) (O ++ [s.extract f i]) := by
        refine sps_t hS (by omega) ?_; by_cases h7 : i = (toL s).length
        · exact .inl h7
        refine .inr ⟨by omega, (c8_eq hc).1 ?_⟩; rw [← byteE_at (by omega)]; rcases hcc with h | h
        · exact absurd (h.trans hl.symm) h7
        exact h
      refine VC.seq (VC.text ?_); refine VO.c (.move rfl) (VO.c (.move rfl) (VO.c (.move rfl) (VO.c (.move rfl) ?_))); refine VO.r (.cutLHS (by kernel_rfl) rfl rfl rfl (by omega) (by omega)) ?_; refine VO.new (.lit [(s.extract (((f : Nat) : Int)).toNat (((i : Nat) : Int)).toNat)] el48) ?_; refine VO.app rfl rfl el48 el48 (by simp; omega) ?_; intro ww1; refine VO.c (.assign rfl) ?_; refine VO.go (VC.text ?_); refine VO.c (.move rfl) (VO.c (.add rfl rfl (by omega)) (VO.c (.assign rfl) ?_)); refine VO.nil (VC.text ?_); refine VO.c (.move rfl) (VO.c (.add rfl rfl (by omega)) (VO.c (.assign rfl) ?_)); refine VO.nil ?_; refine ⟨_, [(0, St s), (1, .v (.int .u8) c), (5, .raw ww1), (6, I (((if (i = s.size ∨ byteE s ((i : Nat) : Int) = c) then i + 1 else f) : Nat) : Int)), (7, I (((i + 1) : Nat) : Int))], ?_, ⟨rfl, rfl, rfl, slI rfl (by first | (rw [if_pos hcc]; rfl) | (rw [if_neg hcn])), rfl, trivial⟩, (i + 1), (if (i = s.size ∨ byteE s ((i : Nat) : Int) = c) then i + 1 else f), (if (i = s.size ∨ byteE s ((i : Nat) : Int) = c) then O ++ [s.extract f i] else O), ww1, rfl, rfl, (by first | (rw [if_pos hcc]; rfl) | (rw [if_neg hcn])), (by omega), (by first | (rw [if_pos hcc, if_pos hcc]; exact hS2) | (rw [if_neg hcn, if_neg hcn]; exact hS2))⟩; omega
    try simp only [Bool.and_eq_true, Bool.or_eq_true, Bool.and_eq_false_iff, Bool.or_eq_false_iff, Bool.not_eq_true', Bool.not_eq_false', decide_eq_true_eq, decide_eq_false_iff_not] at c6
    have hcn : ¬ (i = s.size ∨ byteE s ((i : Nat) : Int) = c) := by omega
    have hlt : i < (toL s).length := by omega
    have hS2 := sps_f hS hlt (fun e => hcn (.inr (by rw [byteE_at hlt]; exact (c8_eq hc).2 e))); refine VC.skip (VC.text ?_); refine VO.c (.move rfl) (VO.c (.add rfl rfl (by omega)) (VO.c (.assign rfl) ?_)); refine VO.nil ?_; refine ⟨_, [(0, St s), (1, .v (.int .u8) c), (5, .raw w), (6, I (((if (i = s.size ∨ byteE s ((i : Nat) : Int) = c) then i + 1 else f) : Nat) : Int)), (7, I (((i + 1) : Nat) : Int))], ?_, ⟨rfl, rfl, rfl, slI rfl (by first | (rw [if_pos hcc]; rfl) | (rw [if_neg hcn])), rfl, trivial⟩, (i + 1), (if (i = s.size ∨ byteE s ((i : Nat) : Int) = c) then i + 1 else f), (if (i = s.size ∨ byteE s ((i : Nat) : Int) = c) then O ++ [s.extract f i] else O), w, rfl, rfl, (by first | (rw [if_pos hcc]; rfl) | (rw [if_neg hcn])), (by omega), (by first | (rw [if_pos hcc, if_pos hcc]; exact hS2) | (rw [if_neg hcn, if_neg hcn]; exact hS2))⟩; omega
  refine VC.exit (VC.seq (VC.text ?_)); refine VO.c (.move rfl) (VO.c (.assign rfl) (VO.go ?_)); refine VC.ret ?_; exact VEnd.one rfl (evC (.row m0)) (pvE (by exact sps_end hS (by omega)))
end Go.Proofs
namespace Go.Fs
variable {P : Program} {orc : FuncId → List Value → Heap → Option (Value × Heap)} {h : Heap} {S : List Nat}
theorem digs_dec : ∀ (f n : Nat), n < 10 ^ (f + 1) → digs (f + 1) n = decL n
  | f, n, h => by
    unfold digs
    cases hb : Nat.blt n 10 with
    | true => rw [decL_lt (nblt hb)]; rfl
    | false =>
      have h1 : 10 ≤ n := by have := nble_no hb; omega
      rw [decL_ge h1]; simp only [cond_false]
      cases f with
      | zero => simp at h; omega
      | succ f => rw [digs_dec f (n / 10) (by rw [Nat.pow_succ] at h; omega)]; rfl
theorem itoaF_nat {k : Nat} (h : k < 1000000000000000000) : itoaF ((k : Nat) : Int) = decL k := by
  show digs 20 k = _; refine digs_dec 19 k ?_
  have : (10 : Nat) ^ (19 + 1) = 100000000000000000000 := by decide
  omega
theorem joinF_one {c : UInt8} : ∀ l : List (List UInt8), joinF [c] l = joiL c l
  | [] => rfl
  | [w] => rfl
  | w :: v :: r => by
    show w ++ [c] ++ joinF [c] (v :: r) = w ++ c :: joiL c (v :: r); rw [joinF_one (v :: r), List.append_assoc]; rfl
theorem strs_ofs : ∀ l : List ByteArray, strs (l.map .string) = some l
  | [] => rfl
  | s :: r => by
    show (strs (r.map .string)).map (s :: ·) = _; rw [strs_ofs r]; rfl
theorem VF.itoa {f : FuncId} {n : Int} (hO : ∀ us h, orc f us h = (match us with | [.int .i64 n] => bif decide (-1000000000000000000 < n) && decide (n < 1000000000000000000) then some (.string ⟨(itoaF n).toArray⟩, h) else none | _ => none)) (h0 : -1000000000000000000 < n) (h1 : n < 1000000000000000000) :
    VF P orc f [.v (.int .i64) n] (.v .str (ofL (itoaF n))) := fun h S us hok hS hr => by
  obtain ⟨u, r, rfl, h2, h3⟩ := hr; obtain rfl : r = [] := h3; obtain rfl := RepV.int h2
  have ho : orc f [.int .i64 n] h = some (.string ⟨(itoaF n).toArray⟩, h) := by
    rw [hO]; simp only [decide_eq_true h0, decide_eq_true h1, Bool.and_self, cond_true]
  exact EvF.oracle ho ⟨Aft.refl _ _, RepV.ofStr _, fun _ => rfl⟩
theorem VF.join {f : FuncId} {ss : List ByteArray} {sep : ByteArray} (hO : ∀ us h, orc f us h = (match us with
    | [.slice (some ⟨b, o, none⟩) n _, .string sep] =>
      match h.get b with
      | some (.row _ cs _ _) =>
        bif Nat.ble (o + n) cs.length && Nat.ble n 1000000 then
          match strs ((cs.drop o).take n) with
          | some ss => let r := joinF sep.data.toList (ss.map (·.data.toList))
            bif Nat.ble r.length 1000000000 then some (.string ⟨r.toArray⟩, h) else none
          | none => none
        else none
      | _ => none
    | _ => none)) (h0 : 0 < ss.length) (h1 : ss.length ≤ 1000000) (h2 : (joinF (toL sep) (ss.map toL)).length ≤ 1000000000) :
    VF P orc f [.v (.sl .str) ss, .v .str sep] (.v .str (ofL (joinF (toL sep) (ss.map toL)))) := fun h S us hok hS hr => by
  obtain ⟨u, r, rfl, g1, u2, r2, rfl, g2, g3⟩ := hr; obtain rfl : r2 = [] := g3; obtain rfl := RepV.str g2; obtain ⟨b, o, mk, e', rs, own, more, rfl, hb, hg, hl, hel⟩ := (RepV.sl g1).row h0; have hl : o + ss.length * 1 ≤ rs.length := hl
  have hcs : (rs.drop o).take ss.length = ss.map .string := by
    refine List.ext_getElem (by simp; omega) fun i k1 k2 => ?_
    have hi : i < ss.length := by simpa using k2
    have h4 : (rs.drop (o + i * 1)).take 1 = [.string ss[i]] := hel i hi; rw [Nat.mul_one, List.drop_eq_getElem_cons (by omega)] at h4; have h5 := (List.cons.inj h4).1; rw [List.getElem_take, List.getElem_drop, List.getElem_map]; exact h5
  have ho : orc f [.slice (some ⟨b, o, none⟩) ss.length mk, .string sep] h = some (.string ⟨(joinF (toL sep) (ss.map toL)).toArray⟩, h) := by
    rw [hO]
    have e1 : Nat.ble (o + ss.length) rs.length = true := by rw [Nat.ble_eq]; omega
    have e2 : Nat.ble ss.length 1000000 = true := by rw [Nat.ble_eq]; exact h1
    have e3 : Nat.ble (joinF sep.data.toList (ss.map (·.data.toList))).length 1000000000 = true := by rw [Nat.ble_eq]; exact h2
    simp only [hg, e1, e2, Bool.and_self, cond_true, hcs, strs_ofs, e3]; rfl
  exact EvF.oracle ho ⟨Aft.refl _ _, RepV.ofStr _, fun _ => rfl⟩
end Go.Fs
namespace Go.Fs
variable {P : Program} {σ : Sto} {fl : VL} {x y : Operand} {T T' : TypeId} {k : IntKind} {p q : Int}
theorem CalmV.subK (hx : evV fl x = some (.v (.int k) p)) (hy : evV fl y = some (.v (.int k) q)) (h0 : k.wrap (p - q) = p - q) : CalmV P fl σ (.binOp .sub T x y T') (.v (.int k) (p - q)) :=
  CalmV.binI hx hy (u := .int k (p - q)) (by
    have e : binOp .sub T (.int k p) (.int k q) = pure (.int k (k.wrap (p - q))) := by cases k <;> rfl
    show purely P (do eqGuard .sub T x y (.int k p) (.int k q); binOp .sub T (.int k p) (.int k q)) = _
    rw [e, h0]; rfl) fun h S => RepV.ofInt _ _
theorem wrap32 {n : Int} (h : -2147483648 ≤ n ∧ n < 2147483648) : IntKind.i32.wrap n = n := by
  unfold IntKind.wrap; simp only [IntKind.signed, IntKind.bits]; simp [Int.bmod]; omega
end Go.Fs
namespace Go.Proofs
open Go.Fs
set_option maxHeartbeats 1000000
def decS (n : Int) : ByteArray := ofL (itoaF n)
theorem zItoaI_ok {n : Int} (h : -1000000000000000000 < n ∧ n < 1000000000000000000) : VF Tryz.prog OA 92 [I n] (St (decS n)) := VF.itoa (fun us h => rfl) h.1 h.2
theorem zItoa_ok {n : Int} (h : -1000000000000000000 < n ∧ n < 1000000000000000000) : VF Tryz.prog OA 44 [I n] (St (decS n)) := by
  refine VF.enter Tryz.func44 rfl (fun _ _ => rfl) rfl ?_; show VC _ _ _ _ _ [(0, I n)] [] _; refine VC.seq (VC.text ?_); refine VO.c (.assign rfl) ?_; refine VO.go (VC.seq (VC.text ?_)); refine VO.c (.move rfl) ?_; refine VO.call rfl rfl (VF.call (zItoaI_ok h)) ?_; refine VO.c (.assign rfl) (VO.go ?_); refine VC.ret ?_; exact VEnd.one rfl evT (pvE (by rfl))
def joinS (c : UInt8) (ss : List ByteArray) : ByteArray := ofL (joiL c (ss.map toL))
theorem zJoin_ok {ss : List ByteArray} {p : ByteArray} (hp : p.size = 1) (h0 : 0 < ss.length) (h1 : ss.length ≤ 1000000) (h2 : (joiL (sepB p) (ss.map toL)).length ≤ 1000000000) : VF Tryz.prog OA 43 [.v (.sl .str) ss, St p] (St (joinS (sepB p) ss)) := by
  obtain ⟨c, rfl⟩ := one_byte hp; have e : joinF (toL (ofL [c])) (ss.map toL) = joiL (sepB (ofL [c])) (ss.map toL) := joinF_one _; have h := VF.join (P := Tryz.prog) (orc := OA) (f := 43) (ss := ss) (sep := ofL [c]) (fun us h => rfl) h0 h1 (by rw [e]; exact h2); rw [e] at h; exact h
def numV (s : ByteArray) : Int := (((numL (toL s)).getD 0 : Nat) : Int)
def numK (s : ByteArray) : Bool := (numL (toL s)).isSome
theorem numK_f {s : ByteArray} (h : (toL s = [] ∨ 9 < (toL s).length) ∨ (1 < (toL s).length ∧ ((toL s).headD 0).toNat = 48) ∨ (toL s).all digB = false) : numV s = 0 ∧ numK s = false := by
  have e : numL (toL s) = none := if_pos h; unfold numV numK; rw [e]; exact ⟨rfl, rfl⟩
theorem numK_t {s : ByteArray} (h : ¬ ((toL s = [] ∨ 9 < (toL s).length) ∨ (1 < (toL s).length ∧ ((toL s).headD 0).toNat = 48) ∨ (toL s).all digB = false)) : numV s = ((valL (toL s) 0 : Nat) : Int) ∧ numK s = true := by
  have e : numL (toL s) = some (valL (toL s) 0) := if_neg h; unfold numV numK; rw [e]; exact ⟨rfl, rfl⟩
theorem head_at {s : ByteArray} (h : 0 < (toL s).length) : byteE s 0 = ((((toL s).headD 0).toNat : Nat) : Int) := by
  have h1 := byteE_at (s := s) (i := 0) h
  have h2 : (toL s).headD 0 = (toL s)[0] := by
    generalize toL s = l at h
    cases l with
    | nil => simp at h
    | cons x r => rfl
  rw [h2]; exact h1
theorem val_take {s : ByteArray} {i : Nat} (h : i < (toL s).length) : valL ((toL s).take (i + 1)) 0 = 10 * valL ((toL s).take i) 0 + (((toL s)[i]).toNat - 48) := by
  rw [List.take_succ_eq_append_getElem h, valL_snoc]
theorem val_lt : ∀ (k : Nat) (w : List UInt8), w.length = k → (∀ c ∈ w, digB c = true) → valL w 0 < 10 ^ k
  | 0, w, hk, _ => by
    obtain rfl := List.eq_nil_of_length_eq_zero hk
    decide
  | k + 1, w, hk, hd => by
    obtain ⟨r, c, rfl⟩ := snoc_ex (w := w) (fun e => by rw [e] at hk; simp at hk); have h1 := val_lt k r (by simpa using hk) fun c hc => hd c (List.mem_append_left _ hc); have h2 := of_decide_eq_true (hd c (List.mem_append_right _ (List.mem_singleton.2 rfl))); rw [valL_snoc, Nat.pow_succ]; omega
theorem val_b {s : ByteArray} {i : Nat} (hi : i ≤ 9) (hs : i ≤ (toL s).length) (hd : ∀ c ∈ (toL s).take i, digB c = true) : valL ((toL s).take i) 0 < 1000000000 := by
  have h1 := val_lt i ((toL s).take i) (by rw [List.length_take]; omega) hd; have h2 : 10 ^ i ≤ 10 ^ 9 := Nat.pow_le_pow_right (by decide) hi
  have h3 : (10 : Nat) ^ 9 = 1000000000 := by decide
  omega
theorem dig_byte {s : ByteArray} {i : Nat} (h : i < (toL s).length) : digB (toL s)[i] = true ↔ ¬ (byteE s ((i : Nat) : Int) < 48 ∨ 57 < byteE s ((i : Nat) : Int)) := by
  rw [byteE_at h]; unfold digB; rw [decide_eq_true_eq]; omega
theorem all_no {s : ByteArray} {i : Nat} (h : i < (toL s).length) (hd : ¬ digB (toL s)[i] = true) : (toL s).all digB = false := by
  cases hc : (toL s).all digB with
  | false => rfl
  | true => exact absurd (List.all_eq_true.1 hc _ (List.getElem_mem h)) hd
theorem all_yes {s : ByteArray} (hd : ∀ c ∈ toL s, digB c = true) : ¬ (toL s).all digB = false := by
  rw [List.all_eq_true.2 hd]; decide
end Go.Proofs
namespace Go.Proofs
open Go.Fs
set_option maxHeartbeats 1000000
def numP (s : ByteArray) : Int := if (toL s).all digB = true ∧ (toL s).length ≤ 9 then ((valL (toL s) 0 : Nat) : Int) else 0
theorem rune_dig {s : ByteArray} {p : Nat} (h : ¬ (((((Utf8.decode s p).1 : Nat) : Int) < 48) ∨ 57 < (((Utf8.decode s p).1 : Nat) : Int))) : (((Utf8.decode s p).1 : Nat) : Int) = byteE s ((p : Nat) : Int) ∧ (Utf8.decode s p).2 = 1 := by
  by_cases hl : (s.get! p).toNat < 128
  · rw [decode_low hl]; exact ⟨rfl, rfl⟩
  have := Go.Fs.decode_high hl; omega
theorem rune_no {s : ByteArray} {p : Nat} (h : (((((Utf8.decode s p).1 : Nat) : Int) < 48) ∨ 57 < (((Utf8.decode s p).1 : Nat) : Int))) : byteE s ((p : Nat) : Int) < 48 ∨ 57 < byteE s ((p : Nat) : Int) := by
  by_cases hl : (s.get! p).toNat < 128
  · rw [decode_low hl] at h; exact h
  rw [byteE_nat]; omega
theorem numP_no {s : ByteArray} (h : (toL s).all digB = false ∨ 9 < (toL s).length) : numP s = 0 ∧ numK s = false := by
  refine ⟨if_neg fun hh => ?_, (numK_f (h.elim (fun h => .inr (.inr h)) fun h => .inl (.inr h))).2⟩; rcases h with h | h
  · rw [hh.1] at h; cases h
  omega
theorem numP_yes {s : ByteArray} (hd : ∀ c ∈ toL s, digB c = true) (h9 : (toL s).length ≤ 9) : numP s = ((valL (toL s) 0 : Nat) : Int) := if_pos ⟨List.all_eq_true.2 hd, h9⟩
theorem numK_yes {s : ByteArray} (hd : ∀ c ∈ toL s, digB c = true) (h9 : (toL s).length ≤ 9) : numK s = decide (0 < s.size ∧ (s.size = 1 ∨ byteE s 0 ≠ 48)) := by
  have hl := toL_len s; by_cases h : 0 < s.size ∧ (s.size = 1 ∨ byteE s 0 ≠ 48)
  · rw [decide_eq_true h]; refine (numK_t fun hh => ?_).2; rcases hh with (hh | hh) | ⟨h1, h2⟩ | hh
    · rw [hh] at hl; simp at hl; omega
    · omega
    · have := head_at (s := s) (by omega); omega
    exact all_yes hd hh
  rw [decide_eq_false h]; refine (numK_f ?_).2; by_cases h0 : 0 < s.size
  · have := head_at (s := s) (by omega); exact .inr (.inl ⟨by omega, by omega⟩)
  exact .inl (.inl (List.eq_nil_of_length_eq_zero (by omega)))
theorem cInt_ok {s : ByteArray} (hs : s.size < 100000) : VF Tryz.prog OA 140 [St s] (.tup [I (numP s), B (numK s)]) := by
  refine VF.enter Tryz.func140 rfl (fun _ _ => rfl) rfl ?_; show VC _ _ _ _ _ [(0, St s)] [] _; refine VC.seq (VC.text ?_); refine VO.c (.assign rfl) (VO.c (.assign rfl) ?_); refine VO.go (VC.seq (VC.text ?_)); have hl := toL_len s; refine VO.c (.assign rfl) ?_; refine VO.go (VC.seq (VC.seq (VC.text ?_))); refine VO.c (.move rfl) ?_; refine VO.cell (.rng) ?_; intro ww1; refine VO.go (VC.block ?_); refine VC.keep [(0, St s), (4, I ((valL ((toL s).take 0) 0 : Nat) : Int)), (8, .raw ww1)] ⟨rfl, rfl, rfl, trivial⟩ ?_; refine VC.loop (I := fun kk ff ss => ∃ (p : Nat), kk = s.size - p ∧ ff = [(0, St s), (4, I ((valL ((toL s).take p) 0 : Nat) : Int)), (8, .raw ww1)] ∧ ss = [(ww1, .it s p)] ∧ (p ≤ s.size) ∧ (∀ c ∈ (toL s).take p, digB c = true) ∧ (p = 0 ∨ s.size ≤ 9)) ?_ _ _ _ ⟨0, rfl, rfl, rfl, Nat.zero_le _, (by intro c hc; rw [List.take_zero] at hc; cases hc), (by omega)⟩; rintro kk ff ss ⟨p, hk0, rfl, rfl, hp, hd, h9⟩; refine VC.seq (VC.text ?_); refine VO.next rfl (fun h3_0 => ?_) (fun h3_0 => ?_)
  · refine VO.c (.extract) ?_; refine VO.go (VC.seq ?_); refine VC.condT rfl ?_; refine VC.skip (VC.block (VC.seq (VC.text ?_)))
    have hit : p < (toL s).length := by omega
    have hat := byteE_at hit; have hbr := byteE_range s ((p : Nat) : Int); have hvt := val_take hit; refine VO.c (.extract) (VO.c (.assign rfl) ?_); refine VO.go (VC.seq (VC.seq (VC.text ?_))); refine VO.c (.move rfl) (VO.c (.lss) (VO.c (.move rfl) ?_)); refine VO.cg (r := decide ((((Utf8.decode s p).1 : Nat) : Int) < (48 : Int))) (w := false) [] trivial (fun _ => (.move rfl)) ?_; refine VO.cg (r := decide ((((Utf8.decode s p).1 : Nat) : Int) < (48 : Int))) (w := false) [(15, .v (.int .i32) (((Utf8.decode s p).1 : Nat) : Int))] ⟨rfl, trivial⟩ (fun _ => (.gtr)) ?_; refine VO.c (.or) (VO.c (.move rfl) ?_); refine VO.cg (r := ((decide ((((Utf8.decode s p).1 : Nat) : Int) < (48 : Int))) || (decide ((57 : Int) < (((Utf8.decode s p).1 : Nat) : Int))))) (w := false) [] trivial (fun _ => (.move rfl)) ?_; refine VO.rg (r := ((decide ((((Utf8.decode s p).1 : Nat) : Int) < (48 : Int))) || (decide ((57 : Int) < (((Utf8.decode s p).1 : Nat) : Int))))) (w := false) [(19, St s)] ⟨rfl, trivial⟩ (fun _ => (.lenS)) ?_; refine VO.cg (r := ((decide ((((Utf8.decode s p).1 : Nat) : Int) < (48 : Int))) || (decide ((57 : Int) < (((Utf8.decode s p).1 : Nat) : Int))))) (w := false) [(20, I ((s.size : Nat) : Int))] ⟨rfl, trivial⟩ (fun _ => (.gtr)) ?_; refine VO.c (.or) (VO.go ?_); refine VC.condB rfl (fun c5 => ?_) (fun c5 => ?_)
    · try simp only [Bool.and_eq_true, Bool.or_eq_true, Bool.and_eq_false_iff, Bool.or_eq_false_iff, Bool.not_eq_true', Bool.not_eq_false', decide_eq_true_eq, decide_eq_false_iff_not] at c5
      have hno := numP_no (s := s) (by
        by_cases h7 : 9 < (toL s).length
        · exact .inr h7
        exact .inl (all_no hit fun h => (dig_byte hit).1 h (rune_no (by omega))))
      refine VC.seq (VC.text ?_); refine VO.c (.assign rfl) (VO.c (.assign rfl) (VO.go ?_)); refine VC.ret ?_; exact VEnd.two rfl evT evT (pvI (by exact hno.1.symm)) (pvE (by exact hno.2.symm))
    try simp only [Bool.and_eq_true, Bool.or_eq_true, Bool.and_eq_false_iff, Bool.or_eq_false_iff, Bool.not_eq_true', Bool.not_eq_false', decide_eq_true_eq, decide_eq_false_iff_not] at c5
    have hrd := rune_dig (s := s) (p := p) (by omega); have hdi : digB (toL s)[p] = true := (dig_byte hit).2 (by omega); have hvb := val_b (s := s) (i := p) (by omega) (by omega) hd; refine VC.skip (VC.text ?_); refine VO.c (.move rfl) (VO.c (.mul rfl rfl (by omega)) (VO.c (.move rfl) (VO.c (.subK rfl rfl (wrap32 (by omega))) ?_))); refine VO.c (.convI rfl .i64 (by exact wrap64 (by omega) (by omega))) (VO.c (.add rfl rfl (by omega)) (VO.c (.assign rfl) ?_)); refine VO.nil ?_; refine ⟨_, [(0, St s), (4, I ((valL ((toL s).take (p + 1)) 0 : Nat) : Int)), (8, .raw ww1)], ?_, ⟨rfl, slI rfl (by rw [hvt]; omega), rfl, trivial⟩, (p + 1), rfl, rfl, (by rw [hrd.2]), (by omega), (by rw [List.take_succ_eq_append_getElem (by omega)]; intro c hc; rcases List.mem_append.1 hc with h | h; exact hd c h; rw [List.mem_singleton.1 h]; exact hdi), (by omega)⟩; omega
  refine VO.c (.ext0) ?_; refine VO.go (VC.seq ?_); refine VC.condF rfl ?_; refine VC.exit (VC.seq (VC.drawn ?_)); have hall : (toL s).take p = toL s := List.take_of_length_le (by omega); rw [hall] at hd
  have h9l : (toL s).length ≤ 9 := by omega
  have hyp := numP_yes hd h9l; have hyk := numK_yes hd h9l; refine VD.c (.move rfl) (VD.c (.move rfl) (VD.c (.sneq) (VD.c (.move rfl) ?_))); refine VD.splitD (x := 32) rfl (fun g8_3 => ?_) (fun g8_3 => ?_)
  · refine VD.c (.move rfl) (VD.nw [] ?_); refine VD.r [] (.lenS) (.inl rfl) ?_; refine VD.c (.eql) (VD.c (.move rfl) ?_); refine VD.splitD (x := 36) rfl (fun g8_7 => ?_) (fun g8_7 => ?_)
    · refine VD.skip (VD.skip (VD.skip (VD.nw [] ?_))); refine VD.c (.pickT rfl rfl) (VD.c (.pickT rfl rfl) (VD.c (.assign rfl) (VD.c (.assign rfl) ?_))); refine VD.go ?_; refine VC.ret ?_; exact VEnd.two rfl evT evT (pvI (by rw [hall]; exact hyp.symm)) (pvE (by rw [hyk]; first | (symm; apply decide_eq_true; omega) | (have h6 := size_empty.1 g8_3; apply decide_eq_decide.2; omega) | (symm; apply decide_eq_false; intro hh; apply g8_3; apply size_empty.2; omega)))
    refine VD.c (.move rfl) (VD.c (.ixS rfl rfl (by omega) (by have h6 := size_empty.1 g8_3; omega)) (VD.c (.neq) (VD.nw [] ?_))); refine VD.c (.pickF rfl rfl) (VD.c (.pickT rfl rfl) (VD.c (.assign rfl) (VD.c (.assign rfl) ?_))); refine VD.go ?_; refine VC.ret ?_; exact VEnd.two rfl evT evT (pvI (by rw [hall]; exact hyp.symm)) (pvE (by rw [hyk]; first | (symm; apply decide_eq_true; omega) | (have h6 := size_empty.1 g8_3; apply decide_eq_decide.2; omega) | (symm; apply decide_eq_false; intro hh; apply g8_3; apply size_empty.2; omega)))
  refine VD.skip (VD.nw [] (VD.skip (VD.skip ?_))); refine VD.skip (VD.skip (VD.skip (VD.skip ?_))); refine VD.skip (VD.nw [] (VD.c (.pickF rfl rfl) (VD.c (.assign rfl) ?_))); refine VD.c (.assign rfl) (VD.go ?_); refine VC.ret ?_; exact VEnd.two rfl evT evT (pvI (by rw [hall]; exact hyp.symm)) (pvE (by rw [hyk]; first | (symm; apply decide_eq_true; omega) | (have h6 := size_empty.1 g8_3; apply decide_eq_decide.2; omega) | (symm; apply decide_eq_false; intro hh; apply g8_3; apply size_empty.2; omega)))
end Go.Proofs
namespace Go.Fs
variable {P : Program} {σ : Sto} {fl : VL} {x : Operand} {w : Value} {T : TypeId} {h h2 : Heap} {S S' : List Nat} {τ τ' : Ty}
theorem CalmV.nilO {cs : List PV} (hm : (w, Cell.var cs) ∈ σ) (hx : evV fl x = some (.raw w) := by rfl) : CalmV P fl σ (.nilCheck x) (.raw w) :=
  ⟨rfl, fun h S t hs hc => by
    have h1 : evalO t x = w := hs x (by simp [Op.operands]) _ hx; obtain ⟨b, e, vs, h3, _⟩ := hc _ hm; have h3 : w = .pointer (some ⟨b, 0, none⟩) := h3; refine ⟨_, rfl, fun _ _ _ _ _ H => ?_⟩; show (match evalO t x with | .pointer (some a) => some (Value.pointer (some a), H) | .func (.func f) a b => some (.func (.func f) a b, H) | _ => none) = _
    rw [h1, h3]⟩
theorem var_keep {a a' : τ.den} {c c' : τ'.den} (h h2 : Heap) (S : List Nat) (hg : ∀ z ∈ [(w, Cell.var [.v τ a, .v τ' c])], CellR h (own [(w, Cell.var [.v τ a, .v τ' c])] ++ S) z.1 z.2)
    (hs : ∀ z ∈ [(w, Cell.var [.v τ a', .v τ' c'])], CellR h2 (own [(w, Cell.var [.v τ a', .v τ' c'])] ++ S) z.1 z.2)
    (hk : ∀ b' ∈ own [(w, Cell.var [.v τ a, .v τ' c])], h2.get b' = h.get b') (hx : ∀ b o, h.get b = some o → h2.get b = some o) :
    (∀ b' ∈ own [(w, Cell.var [.v τ a', .v τ' c'])], b' ∈ own [(w, Cell.var [.v τ a, .v τ' c])]) ∧ ∀ z ∈ [(w, Cell.var [.v τ a', .v τ' c'])], CellR h (own [(w, Cell.var [.v τ a', .v τ' c'])] ++ S) z.1 z.2 := by
  obtain ⟨b, e, vs, g1, g2, g3, g4, g5⟩ := hg _ List.mem_cons_self; obtain ⟨b2, e2, vs2, s1, s2, s3, s4, s5⟩ := hs _ List.mem_cons_self; have g1 : w = .pointer (some ⟨b, 0, none⟩) := g1; have s1 : w = .pointer (some ⟨b2, 0, none⟩) := s1
  have hb : b2 = b := by
    rw [g1] at s1; injection s1 with s1; injection s1 with s1; injection s1 with s1; exact s1.symm
  subst hb; have h7 := hk b2 (by rw [own_cons]; exact List.mem_append_left _ (by rw [g1]; simp [blk])); rw [s3, g3] at h7; injection h7 with h7; injection h7 with _ h8; subst h8; obtain ⟨u1, r1, rfl, p1, u2, r2, rfl, p2, p3⟩ := g4; obtain ⟨v1, q1, e1, k1, v2, q2, e3, k2, k3⟩ := s4; injection e1 with e1 e4; subst e1 e4; injection e3 with e5 e6; subst e5 e6; obtain rfl : a = a' := RepC.same hx p1.2 k1.2; obtain rfl : c = c' := RepC.same hx p2.2 k2.2; exact ⟨fun _ hb => hb, hg⟩
end Go.Fs
namespace Go.Fs
variable {P : Program} {orc : FuncId → List Value → Heap → Option (Value × Heap)} {τ : Ty}
end Go.Fs
namespace Go.Fs
variable {P : Program} {fl : VL} {σ γ : Sto} {Q : PV → Sto → Prop} {fn : Func} {τ : Ty}
end Go.Fs
namespace Go.Fs
variable {P : Program} {orc : FuncId → List Value → Heap → Option (Value × Heap)} {rnd : Option Nat} {h h' h0 h1 h2 : Heap} {S S' S0 B G : List Nat} {σ σ' : Sto} {t t' : Tr} {ms : List Nat} {fl : VL} {ops : Array Oper} {n : Nat} {l : List Oper} {K : VL → Sto → Prop} {Q : Ex → VL → Sto → Prop}
  {d : Tmp} {ty : TypeId} {pos : String} {after : Array Edge} {op : Op} {v : PV} {g : Option (Nat × Bool)}
end Go.Fs
namespace Go.Fs
variable {P : Program} {orc : FuncId → List Value → Heap → Option (Value × Heap)} {rnd : Option Nat} {h h' h0 h1 h2 : Heap} {S S' S0 B G : List Nat} {σ σ' : Sto} {t t' : Tr} {ms : List Nat} {fl : VL} {ops : Array Oper} {n : Nat} {l : List Oper} {K : VL → Sto → Prop} {Q : Ex → VL → Sto → Prop}
  {d : Tmp} {ty : TypeId} {pos : String} {after : Array Edge} {op : Op} {v : PV} {g : Option (Nat × Bool)} {w : Value} {x : Operand}
end Go.Fs
namespace Go.Proofs
open Go.Fs
set_option maxHeartbeats 1000000
theorem decS_nat {k : Nat} (h : k < 1000000000000000000) : decS ((k : Nat) : Int) = ofL (decL k) := by
  unfold decS; rw [itoaF_nat h]
theorem decS_size {n : Int} (h : 0 ≤ n ∧ n < 1000000000000000000) : (decS n).size ≤ 19 := by
  obtain ⟨k, rfl⟩ := Int.eq_ofNat_of_zero_le h.1; rw [decS_nat (by omega), ← toL_len, toL_ofL]; refine dec_len 18 k ?_
  have : (10 : Nat) ^ (18 + 1) = 10000000000000000000 := by decide
  omega
end Go.Proofs
namespace Go.Proofs
open Go.Fs
set_option maxHeartbeats 1000000
def spS : ByteArray := ⟨#[32]⟩
def nlS : ByteArray := ⟨#[10]⟩
def wrdA (w : List ByteArray) (k : Nat) : ByteArray := w.getD k ByteArray.empty
theorem wrd_at {W : List ByteArray} {k : Nat} (h : k < W.length) : wrdA W k = W[k] := by simp [wrdA, h]
theorem splS_cut {s : ByteArray} {c : UInt8} (h : 0 ≤ Go.Lib.indexByte (toL s) c) : splS c s = cutA c s :: splS c (cutR c s) := by
  obtain ⟨k, hk⟩ := Int.eq_ofNat_of_zero_le h; unfold cutA cutR; rw [if_neg (by omega), if_neg (by omega), hk, Int.toNat_natCast]; exact splS_idx hk
theorem splS_nocut {s : ByteArray} {c : UInt8} (h : ¬ 0 ≤ Go.Lib.indexByte (toL s) c) : splS c s = [s] := splS_no (by omega)
theorem splS_nil {c : UInt8} : splS c ByteArray.empty = [ByteArray.empty] := rfl
theorem splS_ne {c : UInt8} {s : ByteArray} : splS c s ≠ [] := by
  unfold splS; intro h; exact spl_ne (s := c) (toL s) (List.map_eq_nil_iff.1 h)
theorem cutR_size {s : ByteArray} {c : UInt8} (h : 0 ≤ Go.Lib.indexByte (toL s) c) : (cutR c s).size < s.size := by
  have hlt := idx_lt (s := s) (c := c); unfold cutR; rw [if_neg (by omega)]; have h7 := congrArg List.length (toL_drop s ((Go.Lib.indexByte (toL s) c).toNat + 1)); rw [toL_len, List.length_drop, toL_len] at h7; omega
theorem cutA_size {s : ByteArray} {c : UInt8} : (cutA c s).size ≤ s.size := by
  unfold cutA; split
  · exact Nat.le_refl _
  rw [← toL_len, toL_take, List.length_take, toL_len]; exact Nat.min_le_right _ _
theorem numK_empty : numK ByteArray.empty = false := (numK_f (.inl (.inl rfl))).2
theorem spl_mem {c : UInt8} : ∀ (l : List UInt8), ∀ w ∈ splL c l, w.length ≤ l.length
  | [], w, hw => by
    rw [show splL c [] = [[]] from rfl, List.mem_singleton] at hw
    subst hw; exact Nat.le_refl _
  | x :: r, w, hw => by
    by_cases h : x = c
    · subst h; rw [spl_sep] at hw; rcases List.mem_cons.1 hw with rfl | hw
      · exact Nat.zero_le _
      exact Nat.le_succ_of_le (spl_mem r w hw)
    cases hr : splL c r with
    | nil => exact absurd hr (spl_ne r)
    | cons v l =>
      rw [spl_cons h hr] at hw; have hv := spl_mem r v (by rw [hr]; exact List.mem_cons_self); rcases List.mem_cons.1 hw with rfl | hw
      · simp only [List.length_cons]; omega
      exact Nat.le_succ_of_le (spl_mem r w (by rw [hr]; exact List.mem_cons_of_mem _ hw))
theorem splS_size {c : UInt8} {s : ByteArray} : ∀ w ∈ splS c s, w.size ≤ s.size := fun w hw => by
  obtain ⟨v, hv, rfl⟩ := List.mem_map.1 hw; have h1 := spl_mem (toL s) v hv; rw [toL_len] at h1; rw [← toL_len, toL_ofL]; exact h1
theorem splS_few {c : UInt8} {s : ByteArray} : (splS c s).length ≤ s.size + 1 := by
  rw [splS_len]; have := List.count_le_length (a := c) (l := toL s); rw [toL_len] at this; omega
def freB (w : ByteArray) : Prop := ∀ c ∈ toL w, c ≠ 32 ∧ c ≠ 10
theorem dec_free {n : Int} (h : 0 ≤ n ∧ n < 1000000000000000000) : freB (decS n) := by
  obtain ⟨k, rfl⟩ := Int.eq_ofNat_of_zero_le h.1; intro c hc; rw [decS_nat (by omega), toL_ofL] at hc; have h1 := of_decide_eq_true (dec_dig k c hc); constructor
  · rintro rfl; revert h1; decide
  rintro rfl; revert h1; decide
theorem splS_join {c : UInt8} {ws : List ByteArray} (h0 : ws ≠ []) (h : ∀ w ∈ ws, ∀ x ∈ toL w, x ≠ c) : splS c (joinS c ws) = ws := by
  unfold splS joinS
  rw [toL_ofL, spl_joi (by simpa using h0) (fun w hw => by
    obtain ⟨v, hv, rfl⟩ := List.mem_map.1 hw
    exact h v hv), List.map_map]
  exact List.map_id'' (fun x => rfl) ws
theorem join_spl {c : UInt8} {s : ByteArray} : joinS c (splS c s) = s := by
  unfold joinS splS; rw [List.map_map]; have : (splL c (toL s)).map (toL ∘ ofL) = (splL c (toL s)).map id := List.map_congr_left fun w _ => rfl; rw [this, List.map_id, joi_spl, ofL_toL]
theorem joi_free {c d : UInt8} (hcd : c ≠ d) : ∀ {l : List (List UInt8)}, (∀ w ∈ l, ∀ x ∈ w, x ≠ d) → ∀ x ∈ joiL c l, x ≠ d
  | [], _, x, hx => by cases hx
  | [w], h, x, hx => h w List.mem_cons_self x hx
  | w :: v :: l, h, x, hx => by
    rw [joi_cons (by simp)] at hx; rcases List.mem_append.1 hx with hx | hx
    · exact h w List.mem_cons_self x hx
    rcases List.mem_cons.1 hx with rfl | hx
    · exact hcd
    exact joi_free hcd (fun u hu => h u (List.mem_cons_of_mem _ hu)) x hx
theorem joinS_free {ws : List ByteArray} (h : ∀ w ∈ ws, freB w) : ∀ c ∈ toL (joinS 32 ws), c ≠ 10 := by
  unfold joinS; rw [toL_ofL]; refine joi_free (by decide) fun w hw => ?_; obtain ⟨v, hv, rfl⟩ := List.mem_map.1 hw; exact fun c hc => (h v hv c hc).2
theorem numL_dec {n : Int} (h : 0 ≤ n ∧ n < 1000000000) : numK (decS n) = true ∧ numV (decS n) = n := by
  obtain ⟨k, rfl⟩ := Int.eq_ofNat_of_zero_le h.1
  have e : (10 : Nat) ^ 9 = 1000000000 := by decide
  have h1 : numL (toL (decS ((k : Nat) : Int))) = some k := by
    rw [decS_nat (by omega), toL_ofL]; exact num_dec (by omega)
  unfold numK numV; rw [h1]; exact ⟨rfl, rfl⟩
theorem dec_num {w : ByteArray} (h : numK w = true) : decS (numV w) = w ∧ 0 ≤ numV w ∧ numV w < 1000000000 := by
  unfold numK at h; obtain ⟨k, hk⟩ := Option.isSome_iff_exists.1 h; have h1 := dec_val hk
  have hlt : k < 1000000000 := by
    have h2 : numL (toL w) = some k := hk; unfold numL at h2; split at h2
    · cases h2
    rename_i hn; obtain rfl := Option.some.inj h2
    have hd : ∀ c ∈ toL w, digB c = true := by
      cases hc : (toL w).all digB with
      | true => exact List.all_eq_true.1 hc
      | false => exact absurd (.inr (.inr hc)) hn
    have h3 := val_lt _ (toL w) rfl hd
    have h4 : (toL w).length ≤ 9 := by
      by_cases h9 : 9 < (toL w).length
      · exact absurd (.inl (.inr h9)) hn
      omega
    have h5 : 10 ^ (toL w).length ≤ 10 ^ 9 := Nat.pow_le_pow_right (by decide) h4
    have e : (10 : Nat) ^ 9 = 1000000000 := by decide
    omega
  unfold numV; rw [hk, Option.getD_some, decS_nat (by omega), h1, ofL_toL]; exact ⟨rfl, by omega, by omega⟩
section
variable {β : Type}
def prsG (f : β → ByteArray → Option β) : List ByteArray → β → Nat → Option β × Nat
  | [], b, i => (some b, i)
  | [x], b, i => if x = ByteArray.empty then (some b, i) else (none, i)
  | x :: y :: r, b, i => match f b x with
    | some b' => prsG f (y :: r) b' (i + 1)
    | none => (none, i)
def runT (f : β → ByteArray → Option β) : β → List ByteArray → Option β
  | b, [] => some b
  | b, x :: r => match f b x with
    | some b' => runT f b' r
    | none => none
variable {f : β → ByteArray → Option β} {b b' : β} {i j : Nat} {x y s : ByteArray} {r L ls : List ByteArray}
theorem prsG_line (h : f b x = some b') : prsG f (x :: y :: r) b i = prsG f (y :: r) b' (i + 1) := by
  show (match f b x with | some b' => _ | none => _) = _; rw [h]
theorem prsG_wrong (h : f b x = none) : prsG f (x :: y :: r) b i = (none, i) := by
  show (match f b x with | some b' => _ | none => _) = _; rw [h]
theorem prsG_last (h : x = ByteArray.empty) : prsG f [x] b i = (some b, i) := if_pos h
theorem prsG_tail (h : x ≠ ByteArray.empty) : prsG f [x] b i = (none, i) := if_neg h
theorem prsG_end : prsG f (splS 10 ByteArray.empty) b i = (some b, i) := by
  rw [splS_nil]; exact prsG_last rfl
theorem prsG_torn (hs : s ≠ ByteArray.empty) (h : ¬ 0 ≤ Go.Lib.indexByte (toL s) 10) : prsG f (splS 10 s) b i = (none, i) := by
  rw [splS_nocut h]; exact prsG_tail hs
theorem prsG_good (h : 0 ≤ Go.Lib.indexByte (toL s) 10) (hb : f b (cutA 10 s) = some b') : prsG f (splS 10 s) b i = prsG f (splS 10 (cutR 10 s)) b' (i + 1) := by
  rw [splS_cut h]
  cases hr : splS 10 (cutR 10 s) with
  | nil => exact absurd hr splS_ne
  | cons y r => exact prsG_line hb
theorem prsG_bad (h : 0 ≤ Go.Lib.indexByte (toL s) 10) (hb : f b (cutA 10 s) = none) : prsG f (splS 10 s) b i = (none, i) := by
  rw [splS_cut h]
  cases hr : splS 10 (cutR 10 s) with
  | nil => exact absurd hr splS_ne
  | cons y r => exact prsG_wrong hb
theorem prsG_run : ∀ {ls : List ByteArray} {b b' : β} {i : Nat}, runT f b ls = some b' → prsG f (ls ++ [x]) b i = prsG f [x] b' (i + ls.length)
  | [], b, b', i, h => by
    obtain rfl : b = b' := Option.some.inj h
    rfl
  | y :: r, b, b', i, h => by
    unfold runT at h
    cases hf : f b y with
    | none => rw [hf] at h; cases h
    | some b1 =>
      rw [hf] at h; have ih := prsG_run (i := i + 1) h; rw [List.length_cons, show i + (r.length + 1) = i + 1 + r.length by omega, ← ih]
      cases hr : r ++ [x] with
      | nil => simp at hr
      | cons z q =>
        rw [List.cons_append, hr]; exact prsG_line hf
theorem prsG_some : ∀ {L : List ByteArray} {b b' : β} {i j : Nat}, L ≠ [] → prsG f L b i = (some b', j) → ∃ ls, L = ls ++ [ByteArray.empty] ∧ runT f b ls = some b' ∧ j = i + ls.length
  | [], _, _, _, _, h, _ => absurd rfl h
  | [x], b, b', i, j, _, h => by
    by_cases hx : x = ByteArray.empty
    · rw [prsG_last hx] at h; injection h with h1 h2; subst hx h2; exact ⟨[], rfl, h1, rfl⟩
    rw [prsG_tail hx] at h; injection h with h1 h2
    cases h1
  | x :: y :: r, b, b', i, j, _, h => by
    cases hf : f b x with
    | none =>
      rw [prsG_wrong hf] at h; injection h with h1 h2
      cases h1
    | some b1 =>
      rw [prsG_line hf] at h; obtain ⟨ls, h1, h2, h3⟩ := prsG_some (by simp) h; refine ⟨x :: ls, by rw [h1]; rfl, ?_, by rw [List.length_cons]; omega⟩; unfold runT; rw [hf]; exact h2
end
def txtG : List ByteArray → ByteArray
  | [] => ByteArray.empty
  | x :: r => (x ++ nlS) ++ txtG r
theorem txtG_app : ∀ {l r : List ByteArray}, txtG (l ++ r) = txtG l ++ txtG r
  | [], r => (ByteArray.empty_append).symm
  | x :: l, r => by
    show (x ++ nlS) ++ txtG (l ++ r) = ((x ++ nlS) ++ txtG l) ++ txtG r; rw [txtG_app, ByteArray.append_assoc, ByteArray.append_assoc, ByteArray.append_assoc]
theorem txtG_one {x : ByteArray} : txtG [x] = x ++ nlS := ByteArray.append_empty
theorem txtG_toL : ∀ {l : List ByteArray}, toL (txtG l) = l.flatMap fun w => toL w ++ [10]
  | [] => rfl
  | x :: l => by
    show toL ((x ++ nlS) ++ txtG l) = _; rw [toL_app, toL_app, txtG_toL, List.flatMap_cons] <;> rfl
theorem splS_txtG {w : ByteArray} (hw : ∀ c ∈ toL w, c ≠ 10) : ∀ {l : List ByteArray}, (∀ x ∈ l, ∀ c ∈ toL x, c ≠ 10) → splS 10 (txtG l ++ w) = l ++ [w]
  | [], _ => by
    have e : toL (txtG [] ++ w) = toL w := by rw [toL_app] <;> rfl
    unfold splS
    rw [e, spl_word hw] <;> rfl
  | x :: r, h => by
    have hx := h x List.mem_cons_self; have ih := splS_txtG hw (l := r) fun y hy => h y (List.mem_cons_of_mem _ hy); unfold splS at ih ⊢
    have e : toL (txtG (x :: r) ++ w) = toL x ++ 10 :: toL (txtG r ++ w) := by
      show toL (((x ++ nlS) ++ txtG r) ++ w) = _; rw [toL_app, toL_app, toL_app, toL_app, List.append_assoc, List.append_assoc]; rfl
    rw [e, spl_app hx, List.map_cons, ih]; rfl
theorem splS_txt0 {l : List ByteArray} (h : ∀ x ∈ l, ∀ c ∈ toL x, c ≠ 10) : splS 10 (txtG l) = l ++ [ByteArray.empty] := by
  have := splS_txtG (w := ByteArray.empty) (fun c hc => by cases hc) h
  rwa [ByteArray.append_empty] at this
theorem toL_joiL {c : UInt8} : ∀ {ls : List (List UInt8)}, joiL c (ls ++ [[]]) = ls.flatMap fun w => w ++ [c]
  | [] => rfl
  | w :: ls => by
    rw [List.cons_append, joi_cons (by simp), toL_joiL, List.flatMap_cons, List.append_assoc] <;> rfl
theorem txtG_spl {s : ByteArray} {ls : List ByteArray} (h : splS 10 s = ls ++ [ByteArray.empty]) : txtG ls = s := by
  apply toL_inj; have h1 := join_spl (c := 10) (s := s); rw [h] at h1; unfold joinS at h1; rw [List.map_append] at h1; have h2 := congrArg toL h1; rw [toL_ofL, show [ByteArray.empty].map toL = [[]] from rfl, toL_joiL] at h2; rw [txtG_toL, ← h2, List.flatMap_map]
theorem txtG_cut {l : List ByteArray} {x : ByteArray} : (txtG (l ++ [x])).extract 0 ((txtG (l ++ [x])).size - 1) = txtG l ++ x := by
  have e : toL (txtG (l ++ [x])) = toL (txtG l ++ x) ++ [10] := by
    rw [txtG_app, txtG_one, toL_app, toL_app, toL_app, List.append_assoc]; rfl
  apply toL_inj; rw [toL_take, ← toL_len, e, List.length_append]; simp
theorem txtG_size_le {l : List ByteArray} {m : Nat} (h : ∀ x ∈ l, x.size ≤ m) : (txtG l).size ≤ (m + 1) * l.length := by
  induction l with
  | nil => simp [txtG]
  | cons x r ih =>
    have h1 := h x List.mem_cons_self; have h2 := ih fun y hy => h y (List.mem_cons_of_mem _ hy); show ((x ++ nlS) ++ txtG r).size ≤ _; rw [ByteArray.size_append, ByteArray.size_append, List.length_cons, Nat.mul_add, Nat.mul_one]; have : nlS.size = 1 := rfl; omega
theorem joi_flat {s : UInt8} : ∀ {r : List (List UInt8)} {w : List UInt8}, joiL s (w :: r) = w ++ r.flatMap fun v => s :: v
  | [], w => by rw [List.flatMap_nil, List.append_nil] <;> rfl
  | v :: r, w => by
    rw [joi_cons (by simp), joi_flat (r := r), List.flatMap_cons] <;> rfl
end Go.Proofs
namespace Go.Proofs
open Go.Fs
set_option maxHeartbeats 1000000
def vWd : ByteArray := ⟨#[118, 101, 114, 115, 105, 111, 110]⟩
def eWd : ByteArray := ⟨#[101, 118, 105, 100, 101, 110, 99, 101]⟩
def cWd : ByteArray := ⟨#[99, 108, 97, 105, 109]⟩
def allW : ByteArray := ⟨#[97, 108, 108]⟩
def anyW : ByteArray := ⟨#[97, 110, 121]⟩
def parK : List ByteArray → Bool
  | [] => true
  | [_] => false
  | a :: b :: r => decide (a ≠ ByteArray.empty) && (numK b && parK r)
def parV : List ByteArray → List Vers
  | a :: b :: r => (a, numV b) :: parV r
  | _ => []
def empB (W : List ByteArray) : Bool := W.any fun w => decide (w = ByteArray.empty)
def stpW (c : Cse) (W : List ByteArray) : Option Cse :=
  if empB W = true then none
  else if wrdA W 0 = vWd ∧ W.length = 3 ∧ c.2.1.length = 0 ∧ c.2.2.length = 0 then (if numK (wrdA W 2) = true then some (c.1 ++ [(wrdA W 1, numV (wrdA W 2))], c.2.1, c.2.2) else none)
  else if wrdA W 0 = eWd ∧ 2 ≤ W.length ∧ W.length % 2 = 0 ∧ c.2.2.length = 0 then (if parK (W.drop 2) = true then some (c.1, c.2.1 ++ [(wrdA W 1, parV (W.drop 2))], c.2.2) else none)
  else if wrdA W 0 = cWd ∧ 3 ≤ W.length ∧ (wrdA W 2 = allW ∨ wrdA W 2 = anyW) then some (c.1, c.2.1, c.2.2 ++ [(wrdA W 1, decide (wrdA W 2 = anyW), W.drop 3)])
  else none
def stpC (c : Cse) (l : ByteArray) : Option Cse := stpW c (splS 32 l)
theorem numP_numV {s : ByteArray} (h : numK s = true) : numP s = numV s := by
  by_cases hh : (toL s = [] ∨ 9 < (toL s).length) ∨ (1 < (toL s).length ∧ ((toL s).headD 0).toNat = 48) ∨ (toL s).all digB = false
  · rw [(numK_f hh).2] at h; cases h
  rw [(numK_t hh).1]; refine if_pos ⟨?_, ?_⟩
  · cases ha : (toL s).all digB with
    | true => rfl
    | false => exact absurd (.inr (.inr ha)) hh
  by_cases h9 : 9 < (toL s).length
  · exact absurd (.inl (.inr h9)) hh
  omega
abbrev Tk := List ByteArray × Bool
def tkw (s : Tk) : ByteArray := s.1.headD ByteArray.empty
def tkn (s : Tk) : Tk := if s.1.headD ByteArray.empty = ByteArray.empty then ([], true) else (s.1.tail, s.2)
def tkv (s : Tk) : Vers := (tkw s, numP (tkw (tkn s)))
def tkvn (s : Tk) : Tk := ((tkn (tkn s)).1, (tkn (tkn s)).2 || !numK (tkw (tkn s)))
theorem tkn_len {s : Tk} (h : s.1 ≠ []) : (tkn s).1.length < s.1.length := by
  unfold tkn; obtain ⟨l, b⟩ := s
  cases l with
  | nil => exact absurd rfl h
  | cons a r =>
    split
    · exact Nat.succ_pos _
    exact Nat.lt_succ_self _
theorem tkn_le {s : Tk} : (tkn s).1.length ≤ s.1.length := by
  by_cases h : s.1 = []
  · unfold tkn; rw [h]; exact Nat.le_refl _
  exact Nat.le_of_lt (tkn_len h)
theorem tkn_mem {s : Tk} {x : ByteArray} (h : x ∈ (tkn s).1) : x ∈ s.1 := by
  unfold tkn at h; split at h
  · cases h
  exact List.mem_of_mem_tail h
theorem tkw_size {s : Tk} {m : Nat} (h : ∀ x ∈ s.1, x.size < m + 1) : (tkw s).size < m + 1 := by
  obtain ⟨l, b⟩ := s
  cases l with
  | nil => exact Nat.succ_pos _
  | cons a r => exact h a List.mem_cons_self
theorem tkvn_len {s : Tk} (h : s.1 ≠ []) : (tkvn s).1.length < s.1.length := Nat.lt_of_le_of_lt (tkn_le (s := tkn s)) (tkn_len h)
def finE : Nat → Tk → List Vers → Tk × List Vers
  | 0, s, o => (s, o)
  | n + 1, s, o => if s.1 = [] then (s, o) else finE n (tkvn s) (o ++ [tkv s])
def finC : Nat → Tk → List ByteArray → Tk × List ByteArray
  | 0, s, o => (s, o)
  | n + 1, s, o => if s.1 = [] then (s, o) else finC n (tkn s) (o ++ [tkw s])
theorem finE_nil : ∀ {n : Nat} {b : Bool} {o : List Vers}, finE n ([], b) o = (([], b), o)
  | 0, _, _ => rfl
  | n + 1, _, _ => if_pos rfl
theorem finC_nil : ∀ {n : Nat} {b : Bool} {o : List ByteArray}, finC n ([], b) o = (([], b), o)
  | 0, _, _ => rfl
  | n + 1, _, _ => if_pos rfl
theorem finE_s {n : Nat} {s : Tk} {o : List Vers} (h : s.1 ≠ []) : finE (n + 1) s o = finE n (tkvn s) (o ++ [tkv s]) := if_neg h
theorem finC_s {n : Nat} {s : Tk} {o : List ByteArray} (h : s.1 ≠ []) : finC (n + 1) s o = finC n (tkn s) (o ++ [tkw s]) := if_neg h
theorem tkn_no {r : List ByteArray} {b : Bool} : tkn (ByteArray.empty :: r, b) = ([], true) := if_pos rfl
theorem tkn_none {b : Bool} : tkn ([], b) = ([], true) := if_pos rfl
theorem tkn_yes {a : ByteArray} {r : List ByteArray} {b : Bool} (h : a ≠ ByteArray.empty) : tkn (a :: r, b) = (r, b) := if_neg h
theorem finE_end : ∀ (n : Nat) (l : List ByteArray) (b : Bool) (o : List Vers), l.length ≤ n → (finE n (l, b) o).1.2 = (b || !parK l) ∧ (b = false → parK l = true → (finE n (l, b) o).2 = o ++ parV l)
  | n, [], b, o, _ => by
    rw [finE_nil]
    exact ⟨by simp [parK], fun _ _ => (List.append_nil _).symm⟩
  | 0, a :: r, b, o, h => by simp at h
  | n + 1, [a], b, o, h => by
    rw [finE_s (by simp)]
    have h1 : tkvn ([a], b) = ([], true) := by
      unfold tkvn; by_cases ha : a = ByteArray.empty
      · subst ha; rw [tkn_no, tkn_none] <;> rfl
      rw [tkn_yes ha, tkn_none] <;> rfl
    rw [h1, finE_nil]
    exact ⟨by simp [parK], fun _ hp => by simp [parK] at hp⟩
  | n + 1, a :: c :: r, b, o, h => by
    rw [finE_s (by simp)]; by_cases ha : a = ByteArray.empty
    · subst ha
      have h1 : tkvn (ByteArray.empty :: c :: r, b) = ([], true) := by
        unfold tkvn; rw [tkn_no, tkn_none] <;> rfl
      rw [h1, finE_nil]; exact ⟨by simp [parK], fun _ hp => by simp [parK] at hp⟩
    by_cases hc : c = ByteArray.empty
    · subst hc
      have h1 : tkvn (a :: ByteArray.empty :: r, b) = ([], true) := by
        unfold tkvn; rw [tkn_yes ha, tkn_no] <;> rfl
      rw [h1, finE_nil]; exact ⟨by simp [parK, numK_empty], fun _ hp => by simp [parK, numK_empty] at hp⟩
    have h1 : tkvn (a :: c :: r, b) = (r, b || !numK c) := by
      unfold tkvn; rw [tkn_yes ha, tkn_yes hc] <;> rfl
    have h2 : tkv (a :: c :: r, b) = (a, numP c) := by
      unfold tkv; rw [tkn_yes ha] <;> rfl
    rw [h1, h2]; obtain ⟨i1, i2⟩ := finE_end n r (b || !numK c) (o ++ [(a, numP c)]) (by simp at h; omega); rw [i1]
    have hp : parK (a :: c :: r) = (numK c && parK r) := by
      show (decide (a ≠ ByteArray.empty) && (numK c && parK r)) = _; rw [decide_eq_true ha, Bool.true_and]
    refine ⟨?_, fun hb hk => ?_⟩
    · rw [hp]; cases numK c <;> cases b <;> simp
    rw [hp, Bool.and_eq_true] at hk; rw [i2 (by rw [hb, hk.1]; rfl) hk.2, numP_numV hk.1, List.append_assoc]; rfl
theorem finC_end : ∀ (n : Nat) (l : List ByteArray) (b : Bool) (o : List ByteArray), l.length ≤ n → (finC n (l, b) o).1.2 = (b || empB l) ∧ (b = false → empB l = false → (finC n (l, b) o).2 = o ++ l)
  | n, [], b, o, _ => by
    rw [finC_nil]
    exact ⟨by simp [empB], fun _ _ => (List.append_nil _).symm⟩
  | 0, a :: r, b, o, h => by simp at h
  | n + 1, a :: r, b, o, h => by
    rw [finC_s (by simp)]; have he : empB (a :: r) = (decide (a = ByteArray.empty) || empB r) := rfl; by_cases ha : a = ByteArray.empty
    · subst ha; rw [tkn_no, finC_nil, he]; exact ⟨by simp, fun _ hp => by simp at hp⟩
    rw [tkn_yes ha]; obtain ⟨i1, i2⟩ := finC_end n r b (o ++ [tkw (a :: r, b)]) (by simp at h; omega); rw [i1, he, decide_eq_false ha, Bool.false_or]; refine ⟨rfl, fun hb hk => ?_⟩; rw [i2 hb hk, List.append_assoc]; rfl
theorem parK_emp : ∀ {l : List ByteArray}, parK l = true → empB l = false ∧ l.length % 2 = 0
  | [], _ => ⟨rfl, rfl⟩
  | [_], h => by simp [parK] at h
  | a :: b :: r, h => by
    simp only [parK, Bool.and_eq_true, decide_eq_true_eq] at h; obtain ⟨h1, h2, h3⟩ := h; obtain ⟨i1, i2⟩ := parK_emp h3
    have hb : b ≠ ByteArray.empty := fun e => by subst e; rw [numK_empty] at h2; cases h2
    refine ⟨?_, by simp only [List.length_cons]; omega⟩; show (decide (a = ByteArray.empty) || (decide (b = ByteArray.empty) || empB r)) = false; rw [decide_eq_false h1, decide_eq_false hb, i1] <;> rfl
theorem read_v {c : Cse} {W : List ByteArray} (h0 : 0 < W.length) (hw : wrdA W 0 = vWd) : stpW c W = if (!(tkvn (W.drop 1, false)).2 && (decide ((tkvn (W.drop 1, false)).1.length = 0) && (decide (c.2.1.length = 0) && decide (c.2.2.length = 0)))) = true then some (c.1 ++ [tkv (W.drop 1, false)], c.2.1, c.2.2) else none := by
  have hv1 : vWd ≠ ByteArray.empty := by decide
  have hv2 : vWd ≠ eWd := by decide
  have hv3 : vWd ≠ cWd := by decide
  match W, h0, hw with
  | [a], _, hw =>
    have hw : a = vWd := hw; subst hw; have h1 : tkvn ([], false) = ([], true) := rfl; show stpW c [vWd] = if (!(tkvn ([], false)).2 && (decide ((tkvn ([], false)).1.length = 0) && (decide (c.2.1.length = 0) && decide (c.2.2.length = 0)))) = true then some (c.1 ++ [tkv ([], false)], c.2.1, c.2.2) else none; rw [h1]; unfold stpW; rw [if_neg (by decide), if_neg (by simp), if_neg (by simp), if_neg (by simp)]
    rfl
  | [a, b], _, hw =>
    have hw : a = vWd := hw; subst hw
    have h1 : (tkvn ([b], false)) = ([], true) := by
      unfold tkvn; by_cases hb : b = ByteArray.empty
      · subst hb; rw [tkn_no, tkn_none] <;> rfl
      rw [tkn_yes hb, tkn_none] <;> rfl
    show stpW c [vWd, b] = if (!(tkvn ([b], false)).2 && (decide ((tkvn ([b], false)).1.length = 0) && (decide (c.2.1.length = 0) && decide (c.2.2.length = 0)))) = true then some (c.1 ++ [tkv ([b], false)], c.2.1, c.2.2) else none; rw [h1]; unfold stpW; split
    · rfl
    rw [if_neg (by simp), if_neg (fun h => hv2 h.1), if_neg (by simp)]
    rfl
  | a :: b :: d :: r, _, hw =>
    have hw : a = vWd := hw; subst hw; show stpW c (vWd :: b :: d :: r) = if (!(tkvn (b :: d :: r, false)).2 && (decide ((tkvn (b :: d :: r, false)).1.length = 0) && (decide (c.2.1.length = 0) && decide (c.2.2.length = 0)))) = true then some (c.1 ++ [tkv (b :: d :: r, false)], c.2.1, c.2.2) else none
    have he : empB (vWd :: b :: d :: r) = (decide (b = ByteArray.empty) || (decide (d = ByteArray.empty) || empB r)) := by
      show (decide (vWd = ByteArray.empty) || _) = _; rw [decide_eq_false hv1, Bool.false_or] <;> rfl
    by_cases hb : b = ByteArray.empty
    · have h1 : (tkvn (b :: d :: r, false)) = ([], true) := by
        subst hb; unfold tkvn; rw [tkn_no, tkn_none] <;> rfl
      rw [h1]; unfold stpW; rw [if_pos (by rw [he, decide_eq_true hb]; rfl)]; rfl
    by_cases hd : d = ByteArray.empty
    · have h1 : (tkvn (b :: d :: r, false)) = ([], true) := by
        subst hd; unfold tkvn; rw [tkn_yes hb, tkn_no] <;> rfl
      rw [h1]; unfold stpW; rw [if_pos (by rw [he, decide_eq_false hb, decide_eq_true hd]; rfl)]; rfl
    have h1 : (tkvn (b :: d :: r, false)) = (r, !numK d) := by
      unfold tkvn; rw [tkn_yes hb, tkn_yes hd] <;> rfl
    have h2 : tkv (b :: d :: r, false) = (b, numP d) := by
      unfold tkv; rw [tkn_yes hb] <;> rfl
    rw [h1, h2]; unfold stpW; by_cases hr : r = []
    · subst hr; rw [if_neg (by rw [he, decide_eq_false hb, decide_eq_false hd]; decide)]; by_cases hc : c.2.1.length = 0 ∧ c.2.2.length = 0
      · rw [if_pos ⟨rfl, rfl, hc.1, hc.2⟩, decide_eq_true hc.1, decide_eq_true hc.2]; show (if numK d = true then some (c.1 ++ [(b, numV d)], c.2.1, c.2.2) else none) = if (!(!numK d) && (true && (true && true))) = true then _ else _; by_cases hk : numK d = true
        · rw [if_pos hk, if_pos (by rw [hk]; rfl), numP_numV hk]
        have hk' : numK d = false := by simpa using hk
        rw [if_neg hk, if_neg (by rw [hk']; decide)]
      rw [if_neg (fun h => hc h.2.2), if_neg (fun h => hv2 h.1), if_neg (fun h => hv3 h.1), if_neg]; intro h; simp only [Bool.and_eq_true, decide_eq_true_eq] at h; exact hc h.2.2
    have hl : (vWd :: b :: d :: r).length ≠ 3 := fun h => hr (List.eq_nil_of_length_eq_zero (by simpa using h))
    have hcond : ¬ (!((r, !numK d) : Tk).2 && (decide (((r, !numK d) : Tk).1.length = 0) && (decide (c.2.1.length = 0) && decide (c.2.2.length = 0)))) = true := by
      intro h; simp only [Bool.and_eq_true, decide_eq_true_eq] at h; exact hr (List.eq_nil_of_length_eq_zero h.2.1)
    rw [if_neg hcond]; split
    · rfl
    rw [if_neg (fun h => hl h.2.1), if_neg (fun h => hv2 h.1), if_neg (fun h => hv3 h.1)]
theorem read_e {c : Cse} {W : List ByteArray} {n : Nat} (h0 : 0 < W.length) (hn : W.length ≤ n) (hw : wrdA W 0 = eWd) : stpW c W = if (!(finE n (tkn (W.drop 1, false)) []).1.2 && decide (c.2.2.length = 0)) = true then some (c.1, c.2.1 ++ [(tkw (W.drop 1, false), (finE n (tkn (W.drop 1, false)) []).2)], c.2.2) else none := by
  have hv1 : eWd ≠ ByteArray.empty := by decide
  have hv2 : eWd ≠ vWd := by decide
  have hv3 : eWd ≠ cWd := by decide
  match W, h0, hw with
  | [a], _, hw =>
    have hw : a = eWd := hw; subst hw; have h1 : tkn ([], false) = ([], true) := rfl; show stpW c [eWd] = if (!(finE n (tkn ([], false)) []).1.2 && _) = true then _ else _; rw [h1, finE_nil]; unfold stpW; rw [if_neg (by decide), if_neg (by simp), if_neg (by simp), if_neg (by simp)]
    rfl
  | a :: b :: r, _, hw =>
    have hw : a = eWd := hw; subst hw; show stpW c (eWd :: b :: r) = if (!(finE n (tkn (b :: r, false)) []).1.2 && _) = true then some (c.1, c.2.1 ++ [(b, (finE n (tkn (b :: r, false)) []).2)], c.2.2) else none
    have he : empB (eWd :: b :: r) = (decide (b = ByteArray.empty) || empB r) := by
      show (decide (eWd = ByteArray.empty) || _) = _; rw [decide_eq_false hv1, Bool.false_or] <;> rfl
    by_cases hb : b = ByteArray.empty
    · subst hb; rw [tkn_no, finE_nil]; unfold stpW; rw [if_pos (by rw [he]; rfl)]; rfl
    rw [tkn_yes hb]; obtain ⟨i1, i2⟩ := finE_end n r false [] (by simp at hn; omega); rw [i1, Bool.false_or]; by_cases hk : parK r = true
    · obtain ⟨j1, j2⟩ := parK_emp hk; rw [i2 rfl hk, hk, List.nil_append]; unfold stpW; rw [if_neg (by rw [he, decide_eq_false hb, j1]; decide), if_neg (fun h => hv2 h.1)]; by_cases hc : c.2.2.length = 0
      · rw [if_pos ⟨rfl, by simp, by simp only [List.length_cons]; omega, hc⟩, if_pos (show parK ((eWd :: b :: r).drop 2) = true from hk), decide_eq_true hc]; rfl
      rw [if_neg (fun h => hc h.2.2.2), if_neg (fun h => hv3 h.1), decide_eq_false hc]; rfl
    have hk' : parK r = false := by simpa using hk
    rw [hk']; unfold stpW; split
    · rfl
    rw [if_neg (fun h => hv2 h.1)]; split
    · rw [if_neg (show ¬ parK ((eWd :: b :: r).drop 2) = true from hk)]; rfl
    rw [if_neg (fun h => hv3 h.1)]; rfl
theorem read_c {c : Cse} {W : List ByteArray} {n : Nat} (h0 : 0 < W.length) (hn : W.length ≤ n) (hw : wrdA W 0 = cWd) : stpW c W = if (!(finC n (tkn (tkn (W.drop 1, false))) []).1.2 && (decide (tkw (tkn (W.drop 1, false)) = allW) || decide (tkw (tkn (W.drop 1, false)) = anyW))) = true then some (c.1, c.2.1, c.2.2 ++ [(tkw (W.drop 1, false), decide (tkw (tkn (W.drop 1, false)) = anyW), (finC n (tkn (tkn (W.drop 1, false))) []).2)]) else none := by
  have hv1 : cWd ≠ ByteArray.empty := by decide
  have hv2 : cWd ≠ vWd := by decide
  have hv3 : cWd ≠ eWd := by decide
  match W, h0, hw with
  | [a], _, hw =>
    have hw : a = cWd := hw; subst hw; have h1 : tkn ([], false) = ([], true) := rfl; show stpW c [cWd] = if (!(finC n (tkn (tkn ([], false))) []).1.2 && _) = true then _ else _; rw [h1, tkn_none, finC_nil]; unfold stpW; rw [if_neg (by decide), if_neg (by simp), if_neg (by simp), if_neg (by simp)]
    rfl
  | [a, b], _, hw =>
    have hw : a = cWd := hw; subst hw
    have h1 : tkn (tkn ([b], false)) = ([], true) := by
      by_cases hb : b = ByteArray.empty
      · subst hb; rw [tkn_no, tkn_none]
      rw [tkn_yes hb, tkn_none]
    show stpW c [cWd, b] = if (!(finC n (tkn (tkn ([b], false))) []).1.2 && _) = true then _ else _; rw [h1, finC_nil]; unfold stpW; split
    · rfl
    rw [if_neg (by simp), if_neg (fun h => hv3 h.1), if_neg (by simp)]
    rfl
  | a :: b :: d :: r, _, hw =>
    have hw : a = cWd := hw; subst hw
    have he : empB (cWd :: b :: d :: r) = (decide (b = ByteArray.empty) || (decide (d = ByteArray.empty) || empB r)) := by
      show (decide (cWd = ByteArray.empty) || _) = _; rw [decide_eq_false hv1, Bool.false_or] <;> rfl
    show stpW c (cWd :: b :: d :: r) = if (!(finC n (tkn (tkn (b :: d :: r, false))) []).1.2 && (decide (tkw (tkn (b :: d :: r, false)) = allW) || decide (tkw (tkn (b :: d :: r, false)) = anyW))) = true then some (c.1, c.2.1, c.2.2 ++ [(b, decide (tkw (tkn (b :: d :: r, false)) = anyW), (finC n (tkn (tkn (b :: d :: r, false))) []).2)]) else none; by_cases hb : b = ByteArray.empty
    · subst hb; rw [tkn_no, tkn_none, finC_nil]; unfold stpW; rw [if_pos (by rw [he]; rfl)]; rfl
    rw [tkn_yes hb]; by_cases hd : d = ByteArray.empty
    · subst hd; rw [tkn_no, finC_nil]; unfold stpW; rw [if_pos (by rw [he, decide_eq_false hb]; rfl)]; rfl
    rw [tkn_yes hd]; obtain ⟨i1, i2⟩ := finC_end n r false [] (by simp at hn; omega); rw [i1, Bool.false_or]; have htk : tkw (d :: r, false) = d := rfl; rw [htk]
    cases hk : empB r with
    | true =>
      unfold stpW; rw [if_pos (by rw [he, hk]; simp)]
      rfl
    | false =>
      rw [i2 rfl hk, List.nil_append]; unfold stpW; rw [if_neg (by rw [he, decide_eq_false hb, decide_eq_false hd, hk]; decide), if_neg (fun h => hv2 h.1), if_neg (fun h => hv3 h.1)]; by_cases hq : d = allW ∨ d = anyW
      · rw [if_pos ⟨rfl, by simp, hq⟩, if_pos (by rcases hq with hq | hq <;> simp [hq])]; rfl
      rw [if_neg (fun h => hq h.2.2), if_neg]; intro h; simp only [Bool.and_eq_true, Bool.or_eq_true, decide_eq_true_eq] at h; exact hq h.2
theorem read_n {c : Cse} {W : List ByteArray} (h1 : wrdA W 0 ≠ vWd) (h2 : wrdA W 0 ≠ eWd) (h3 : wrdA W 0 ≠ cWd) : stpW c W = none := by
  unfold stpW; split
  · rfl
  rw [if_neg (fun h => h1 h.1), if_neg (fun h => h2 h.1), if_neg (fun h => h3 h.1)]
end Go.Proofs
namespace Go.Fs
variable {P : Program} {fl : VL} {σ : Sto} {T : TypeId} {τ : Ty} {h : Heap} {S : List Nat}
inductive PartP : PV → List PV → Prop where
  | v {τ : Ty} {x : τ.den} : PartP (.v τ x) (cellsPV τ x)
  | w {w : Value} (ho : oneCell w = true) : PartP (.raw w) [.raw w]
inductive BldR (pl : List (Nat × Nat)) : List PV → List Nat → List PV → List PV → Prop where
  | nil {L L' : List PV} (h : L = L') : BldR pl L [] [] L'
  | cons {L L' : List PV} {i o : Nat} {is : List Nat} {p : PV} {ps qs : List PV} (hp : PartP p qs) (hpl : pl[i]? = some (o, qs.length)) (ho : Nat.ble (o + qs.length) L.length = true) (r : BldR pl (spl L o qs) is ps L') : BldR pl L (i :: is) (p :: ps) L'
end Go.Fs
namespace Go.Fs
variable {P : Program} {fl : VL} {σ : Sto} {T T' : TypeId} {x y : Operand} {p q : Int}
end Go.Fs
namespace Go.Fs
variable {P : Program} {orc : FuncId → List Value → Heap → Option (Value × Heap)} {h : Heap} {σ ρ : Sto} {fl : VL} {ops : Array Oper} {n i mem : Nat} {l : List Oper} {K : VL → Sto → Prop} {nw bs : List Nat} {tl : Bool} {hr : Heap} {S0 A : List Nat} {t : Tr} {rd chg : List Nat}
end Go.Fs
namespace Go.Fs
variable {P : Program} {orc : FuncId → List Value → Heap → Option (Value × Heap)} {rnd : Option Nat} {h h' h0 h1 h2 hr : Heap} {S S' S0 B G A : List Nat} {σ σ' σr ρ : Sto} {t t' : Tr} {ms : List Nat} {fl : VL} {ops : Array Oper} {n i mem : Nat} {l : List Oper} {K : VL → Sto → Prop}
  {d : Tmp} {ty : TypeId} {pos : String} {after : Array Edge} {op : Op} {v pv : PV} {g : Option (Nat × Bool)} {x y z : Operand} {T T' e : TypeId} {τ τ' : Ty} {bs nw rd chg : List Nat} {segs : List (Nat × Nat × Nat)} {tail tl : Bool} {w w' : Value}
end Go.Fs
namespace Go.Fs
variable {P : Program} {σ : Sto} {fl : VL} {x y : Operand} {T T' : TypeId} {p q : ByteArray}
theorem CalmV.seqT (h : p = q) (hx : evV fl x = some (.v .str p) := by rfl) (hy : evV fl y = some (.v .str q) := by rfl) : CalmV P fl σ (.binOp .eql T x y T') (.v .bool true) := by
  have := CalmV.seql (P := P) (σ := σ) (T := T) (T' := T') hx hy
  rwa [decide_eq_true h] at this
theorem CalmV.seqF (h : p ≠ q) (hx : evV fl x = some (.v .str p) := by rfl) (hy : evV fl y = some (.v .str q) := by rfl) : CalmV P fl σ (.binOp .eql T x y T') (.v .bool false) := by
  have := CalmV.seql (P := P) (σ := σ) (T := T) (T' := T') hx hy
  rwa [decide_eq_false h] at this
end Go.Fs
namespace Go.Fs
variable {P : Program} {orc : FuncId → List Value → Heap → Option (Value × Heap)} {h h1 h2 h' : Heap} {S S0 : List Nat} {σ γ σr : Sto} {fl : VL} {ops : Array Oper} {n : Nat} {l : List Oper} {K : VL → Sto → Prop} {d : Tmp} {ty : TypeId} {pos : String} {after : Array Edge} {g : Option (Nat × Bool)}
theorem VC.rangeFuncH {f : FuncId} {a c : List PV} {x : Operand} {ps : Array Tmp} {assign body : Code} {Q : Ex → VL → Sto → Prop} (hg : evV fl x = some (.clo f a c))
    (hit : ∀ yv, VFGK P orc f (a ++ [.raw yv] ++ c) ((yv, .loop .ready none n fl ps assign body) :: σ) fun γ' => ∃ st e σ', st ≠ .busy ∧ γ' = (yv, .loop st (jumpOf e) n fl ps assign body) :: σ' ∧ Q e fl σ') : VC P orc none (.rangeFunc x ps assign body) n fl σ Q := fun hb0 G S0 t h ms Iv0 => by
  obtain ⟨va, vc, hv, ra, rc⟩ := (evV_ok Iv0.slots hg : RepPV h _ (.clo f a c) (evalO t x))
  let hm := h.push .defd
  let j := hm.next
  let yv : Value := .func (.yield j) #[] #[]
  let L : AObj := .loopo .ready none t n ps assign body h.next
  have hjd : j = h.next + 1 := rfl
  have hg2 : ∀ b, (hm.push L).get b = if b = h.next + 1 then some L else if b = h.next then some .defd else h.get b := fun b => by
    rw [Heap.get_push]; show (if b = h.next + 1 then _ else (h.push .defd).get b) = _; rw [Heap.get_push]
  have ap : Aft h (hm.push L) (j :: own σ) := (Aft.push h .defd _).trans (Aft.push hm L (j :: own σ)) fun i hi => .inl hi; have hlt : ∀ b ∈ own σ, b < h.next := own_lt Iv0.cells Iv0.ok; have Lc0 := Iv0.lc
  have goes0 : Goes h (own σ ++ S0) (hm.push L) (j :: own σ ++ S0) := fun b o hb hn => by
    have hbn : b < h.next := Iv0.ok b o hb; refine ⟨by rw [hg2, if_neg (by omega), if_neg (by omega)]; exact hb, fun hm2 => ?_⟩; rcases List.mem_append.1 hm2 with hm2 | hm2
    · rcases List.mem_cons.1 hm2 with hm2 | hm2
      · omega
      exact hn (List.mem_append_left _ hm2)
    exact hn (List.mem_append_right _ hm2)
  have hS0 : ∀ b ∈ S0, b < h.next := Lc0.s0
  have hj1 : j ∉ own σ := fun hm2 => by have := hlt j hm2; omega
  have hit2 := hit yv; have how : ∀ (c : Cell) (s : Sto), own ((yv, c) :: s) = j :: own s := fun c s => rfl; refine EvC.rangeFunc (fr := ⟨t, n, ms⟩) hv ((hit2 (hm.push L) S0 _ (ap.ok Iv0.ok) ⟨fun b hb => by have := hS0 b hb; have := ap.next; omega, (Iv0.slots.nx goes0).1.less fun b hb => List.mem_append_right _ hb⟩ (fun cc hc => ?_) (by rw [how]; exact List.nodup_cons.2 ⟨hj1, Iv0.apart⟩) (fun b hb => ?_) ?_).mono fun u h3 hq => ?_)
  · rw [how]; rcases List.mem_cons.1 hc with hc' | hc'
    · subst hc'; exact ⟨j, t, h.next, rfl, List.mem_append_left _ List.mem_cons_self, by rw [hg2, if_pos hjd], Iv0.slots.nx goes0⟩
    refine (Iv0.cells cc hc').keep (fun b hb => ?_) goes0 fun b hb => List.mem_append_left _ (List.mem_cons_of_mem _ (List.mem_flatMap.2 ⟨cc, hc', hb⟩)); have := hlt b (List.mem_flatMap.2 ⟨cc, hc', hb⟩); rw [hg2, if_neg (by omega), if_neg (by omega)]
  · rw [how] at hb; intro hbs; rcases List.mem_cons.1 hb with hb | hb
    · have := hS0 b hbs; omega
    exact (Iv0.new b hb).2 hbs
  · rw [how]; have ry : RepL (hm.push L) (j :: own σ ++ S0) [.raw yv] [yv] := ⟨yv, [], rfl, rfl, rfl⟩; exact ((ra.nx goes0).append ry).append (rc.nx goes0)
  obtain ⟨γ', hq, made⟩ := hq; obtain ⟨st, e, σ', hst, rfl, hQ⟩ := hq; obtain ⟨j', tm, dm, hj', hjS, hgj, _⟩ := made.cells _ List.mem_cons_self
  have hjj : j = j' := by
    have : yv = .func (.yield j') #[] #[] := hj'; injection this with h5; injection h5
  subst hjj; refine ⟨st, e, tm, n, ps, assign, body, dm, hgj, hst, rfl, fl, σ', ?_, hQ⟩; have hnd := made.apart; rw [how] at hnd; obtain ⟨hj3, hnd2⟩ := List.nodup_cons.1 hnd
  let C : AObj := .loopo .exhausted (jumpOf e) tm n ps assign body dm
  have hgC : ∀ b, (h3.set j C).get b = if b = j then some C else h3.get b := fun b => Heap.get_set hgj ..; have ma : Aft (hm.push L) h3 (j :: own σ) := made.aft; have at3 : Aft h (h3.set j C) (j :: own σ) := (ap.trans ma fun i hi => .inl hi).trans (Aft.set (B := [j]) hgj List.mem_cons_self) fun i hi => .inl (by rw [List.mem_singleton.1 hi]; exact List.mem_cons_self)
  have hnew : ∀ b ∈ own σ', b ∈ own σ ∨ h.next ≤ b := fun b hb => by
    rcases made.new b (by rw [how]; exact List.mem_cons_of_mem _ hb) with h5 | h5
    · rw [how] at h5; rcases List.mem_cons.1 h5 with h5 | h5
      · subst h5; exact absurd hb hj3
      exact .inl h5
    have := ap.next; exact .inr (by omega)
  have goes3 : Goes h (own σ ++ S0) (h3.set j C) (own σ' ++ S0) := fun b o hb hn => by
    have hbn : b < h.next := Iv0.ok b o hb
    refine ⟨by rw [at3.get b hbn (fun hm2 => by
      rcases List.mem_cons.1 hm2 with hm2 | hm2
      · omega
      exact hn (List.mem_append_left _ hm2))]; exact hb, fun hm2 => ?_⟩
    rcases List.mem_append.1 hm2 with hm2 | hm2
    · rcases hnew b hm2 with h5 | h5
      · exact hn (List.mem_append_left _ h5)
      omega
    exact hn (List.mem_append_right _ hm2)
  have hdef : h3.get h.next = some .defd := by
    rw [ma.get h.next (by show h.next < h.next + 1 + 1; omega) (fun hm2 => by
      rcases List.mem_cons.1 hm2 with hm2 | hm2
      · omega
      have := hlt _ hm2; omega), hg2, if_neg (by omega), if_pos rfl]
  exact {
    ok := at3.ok Iv0.ok
    s0 := Iv0.s0
    aft := Iv0.aft.trans at3 fun i hi => by
      have := Iv0.aft.next; rcases List.mem_cons.1 hi with hi | hi
      · right; omega
      exact (Iv0.new i hi).1
    cells := fun c hc => (made.cells c (List.mem_cons_of_mem _ hc)).keep (fun b hb => by
        rw [hgC, if_neg (fun e => hj3 (by subst e; exact List.mem_flatMap.2 ⟨c, hc, hb⟩))]) (fun b o hb hn => ⟨by
        rw [hgC, if_neg (fun e => hn (by subst e; exact List.mem_append_left _ List.mem_cons_self))]; exact hb, fun hm2 => hn (by
        rcases List.mem_append.1 hm2 with hm2 | hm2
        · exact List.mem_append_left _ (List.mem_cons_of_mem _ hm2)
        exact List.mem_append_right _ hm2)⟩) fun b hb => List.mem_append_left _ (List.mem_flatMap.2 ⟨c, hc, hb⟩)
    new := fun b hb => by
      have := Iv0.aft.next; rcases hnew b hb with h5 | h5
      · exact Iv0.new b h5
      exact ⟨.inr (by omega), fun hm2 => by have := hS0 b hm2; omega⟩
    apart := hnd2
    mark := fun d hd => by
      have := Iv0.aft.next; rcases List.mem_cons.1 hd with hd | hd
      · subst hd; exact ⟨this, by rw [hgC, if_neg (by omega)]; exact hdef⟩
      obtain ⟨m1, m2⟩ := Iv0.mark d hd; refine ⟨m1, ?_⟩; have hdn : d < h.next := Iv0.ok d _ m2
      rw [at3.get d hdn (fun hm2 => by
        rcases List.mem_cons.1 hm2 with hm2 | hm2
        · omega
        obtain ⟨c, hc, hb⟩ := List.mem_flatMap.1 hm2; obtain ⟨o, hgo, hne⟩ := (Iv0.cells c hc).isObj d hb; rw [m2] at hgo
        exact hne (Option.some.inj hgo).symm)]
      exact m2
    marks := List.nodup_cons.2 ⟨fun hm2 => by have := Iv0.ok _ _ (Iv0.mark _ hm2).2; omega, Iv0.marks⟩
    slots := Iv0.slots.nx goes3 }
theorem Made.permR {γ γ1 γ2 : Sto} (hp : γ1.Perm γ2) (m : Made S h h' γ γ1) : Made S h h' γ γ2 :=
  have ho := own_perm hp
  { aft := m.aft
    new := fun b hb => m.new b (ho.mem_iff.2 hb)
    apart := ho.nodup_iff.1 m.apart
    cells := fun c hc => by
      have hN : Goes h' (own γ1 ++ S) h' (own γ2 ++ S) := Goes.less fun b hb => by
        rcases List.mem_append.1 hb with hb | hb
        · exact List.mem_append_left _ (ho.mem_iff.2 hb)
        exact List.mem_append_right _ hb
      exact (m.cells c (hp.mem_iff.2 hc)).keep (fun _ _ => rfl) hN fun b hb => List.mem_append_left _ (List.mem_flatMap.2 ⟨c, hc, hb⟩) }
theorem Made.permL {γ γ1 γ2 : Sto} (hp : γ1.Perm γ2) (m : Made S h h' γ1 γ) : Made S h h' γ2 γ :=
  have ho := own_perm hp
  { aft := m.aft.weak fun b hb => ho.mem_iff.1 hb
    new := fun b hb => (m.new b hb).imp_left fun h => ho.mem_iff.1 h
    apart := m.apart
    cells := m.cells }
theorem VFGK.perm {f : FuncId} {args : List PV} {γ1 γ2 : Sto} {Q Q' : Sto → Prop} (hf : VFGK P orc f args γ1 Q) (hp : γ1.Perm γ2) (hq : ∀ s, Q s → ∃ s', s.Perm s' ∧ Q' s') : VFGK P orc f args γ2 Q' := fun h S us hok hS hcells hnd hsep ha => by
  have ho := own_perm hp
  have hN : Goes h (own γ2 ++ S) h (own γ1 ++ S) := Goes.less fun b hb => by
    rcases List.mem_append.1 hb with hb | hb
    · exact List.mem_append_left _ (ho.mem_iff.1 hb)
    exact List.mem_append_right _ hb
  refine (hf h S us hok hS (fun c hc => (hcells c (hp.mem_iff.1 hc)).keep (fun _ _ => rfl) hN fun b hb => List.mem_append_left _ (List.mem_flatMap.2 ⟨c, hc, hb⟩)) (ho.nodup_iff.2 hnd) (fun b hb => hsep b (ho.mem_iff.1 hb)) (ha.nx hN)).mono fun v h1 hq1 => ?_; obtain ⟨s, q, m⟩ := hq1; obtain ⟨s', p, q'⟩ := hq s q; exact ⟨s', q', (m.permR p).permL hp⟩
section
variable (P orc)
def IterW {X : Type} (f : FuncId) (a c : List PV) (asl : X → List PV) (xs : List X) (w : Value) (C0 : Cell) : Prop := ∀ (yv : Value) (I : List X → Sto → Prop) (E : Sto → Prop) (γ : Sto),
  (∀ x rest γ, I (x :: rest) γ → VYG P orc yv (asl x) γ fun r γ' => (r = .v .bool true ∧ I rest γ') ∨ (r = .v .bool false ∧ E γ')) → I xs γ → VFGK P orc f (a ++ [.raw yv] ++ c) ((w, C0) :: γ) fun γ' => ∃ C1 σ', γ' = (w, C1) :: σ' ∧ (I [] σ' ∨ E σ')
end
theorem VC.rangeFuncW {X : Type} {asl : X → List PV} {xs : List X} {f : FuncId} {a c : List PV} {x : Operand} {ps : Array Tmp} {assign body : Code} {w : Value} {C0 : Cell} {Q : Ex → VL → Sto → Prop} (hg : evV fl x = some (.clo f a c)) (hit : IterW P orc f a c asl xs w C0) (hlen : ∀ y, ps.size = (asl y).length) (hps : ps.toList.all (fun p => Nat.blt p n) = true) (hn4 : Nat.ble n 4000 = true)
    (I : List X → Sto → Prop) (E : Ex → Sto → Prop) (h0 : I xs σ)
    (hb : ∀ j y rest σ, I (y :: rest) σ → VC P orc (some j) assign n (prmVL ps.toList (asl y) fl) σ fun e fl' σ' => e = .normal ∧ VC P orc (some j) body n fl' σ' fun e _ σ' => (e = .normal ∧ I rest σ') ∨ (e ≠ .normal ∧ E e σ'))
    (h1 : ∀ C1 σ', I [] σ' → Q .normal fl ((w, C1) :: σ')) (h2 : ∀ C1 e σ', e ≠ .normal → E e σ' → Q e fl ((w, C1) :: σ')) : VC P orc none (.rangeFunc x ps assign body) n fl ((w, C0) :: σ) Q := by
  refine VC.rangeFuncH hg fun yv => VFGK.perm (hit yv (fun rest γ => ∃ σ', γ = (yv, .loop .ready none n fl ps assign body) :: σ' ∧ I rest σ') (fun γ => ∃ e σ', e ≠ .normal ∧ γ = (yv, .loop .done (jumpOf e) n fl ps assign body) :: σ' ∧ E e σ') ((yv, .loop .ready none n fl ps assign body) :: σ)
    (fun y rest γ ⟨σ', hγ, hI⟩ => ?_) ⟨σ, rfl, h0⟩) swap1 fun s hs => ?_
  · subst hγ; refine (VYG.round (hlen y) (fun p hp => List.all_eq_true.1 hps p hp) (nble hn4) (fun jj => hb jj y rest σ' hI)).mono fun r s hq => ?_; obtain ⟨e, fl', σ2, hQ, rfl, rfl⟩ := hq; rcases hQ with ⟨rfl, hI2⟩ | ⟨hne, hE⟩
    · exact .inl ⟨rfl, σ2, rfl, hI2⟩
    refine .inr ⟨?_, e, σ2, hne, ?_, hE⟩
    · cases e <;> first | exact absurd rfl hne | rfl
    cases e <;> first | exact absurd rfl hne | rfl
  obtain ⟨C1, s', rfl, hs⟩ := hs; rcases hs with ⟨σ', rfl, hI⟩ | ⟨e, σ', hne, rfl, hE⟩
  · exact ⟨_, swap1, .ready, .normal, (w, C1) :: σ', (fun e => by cases e), rfl, h1 C1 σ' hI⟩
  exact ⟨_, swap1, .done, e, (w, C1) :: σ', (fun e => by cases e), rfl, h2 C1 e σ' hne hE⟩
end Go.Fs
namespace Go.Proofs
open Go.Fs
set_option maxHeartbeats 1000000
def lnA (s : ByteArray) : ByteArray := if Go.Lib.indexByte (toL s) 10 < 0 then s else s.extract 0 ((Go.Lib.indexByte (toL s) 10).toNat + 1)
def linF : Nat → ByteArray → List ByteArray
  | 0, _ => []
  | n + 1, s => if s.size = 0 then [] else lnA s :: linF n (cutR 10 s)
theorem linF_nil {n : Nat} {s : ByteArray} (h : s.size = 0) : linF n s = [] := by
  cases n with
  | zero => rfl
  | succ n => exact if_pos h
theorem linF_s {n : Nat} {s : ByteArray} (h : s.size ≠ 0) : linF (n + 1) s = lnA s :: linF n (cutR 10 s) := if_neg h
theorem cutR_less {s : ByteArray} (h : s.size ≠ 0) : (cutR 10 s).size < s.size := by
  by_cases hi : 0 ≤ Go.Lib.indexByte (toL s) 10
  · exact cutR_size hi
  unfold cutR; rw [if_pos (by omega)]; show 0 < s.size; omega
theorem zIxB_ok {s : ByteArray} {c : Int} : VF Tryz.prog OA 94 [St s, .v (.int .u8) c] (I (Go.Lib.indexByte (toL s) c.toNat.toUInt8)) := by
  refine VF.enter Tryz.func94 rfl (fun _ _ => rfl) rfl ?_; show VC _ _ _ _ _ [(0, St s), (1, .v (.int .u8) c)] [] _; refine VC.seq (VC.text ?_); refine VO.c (.assign rfl) ?_; refine VO.go (VC.seq (VC.text ?_)); refine VO.c (.move rfl) (VO.c (.move rfl) ?_); refine VO.call rfl rfl (VF.call (zIB_ok )) ?_; refine VO.c (.assign rfl) (VO.go ?_); refine VC.ret ?_; exact VEnd.one rfl evT (pvI (by rfl))
theorem zLines1_ok {w : Value} {n : Nat} {s : ByteArray} (hn : s.size < n) (hs : s.size < 1000000) : IterW Tryz.prog OA 93 [] [.raw w] (fun x => [St x]) (linF n s) w (.var [St s]) := fun yv I E γ hy h0 => by
  refine VFGK.enter Tryz.func93 rfl rfl rfl ?_; show VC _ _ _ _ _ [(0, .raw yv), (1, .raw w)] ((w, .var [St s]) :: γ) _; refine VC.block ?_; refine VC.loop (I := fun kk ff ss => ∃ (m : Nat) (r : ByteArray) (γ : Sto), kk = r.size ∧ ff = [(0, .raw yv), (1, .raw w)] ∧ ss = (w, .var [St r]) :: γ ∧ r.size < m ∧ r.size < 1000000 ∧ I (linF m r) γ) ?_ _ _ _ ⟨n, s, γ, rfl, rfl, rfl, hn, hs, h0⟩; rintro kk ff ss ⟨m, r, γ, hk0, rfl, rfl, hm, hr, hI⟩; refine VC.seq (VC.seq (VC.text ?_)); refine VO.r (.ldV m0 vt9) ?_; refine VO.r (.lenS) ?_; refine VO.c (.gtr) (VO.go ?_); refine VC.condD rfl (fun c0 => ?_) (fun c0 => ?_)
  · have hr0 : r.size ≠ 0 := by omega
    obtain ⟨m, rfl⟩ : ∃ q, m = q + 1 := ⟨m - 1, by omega⟩; have hlt := cutR_less hr0; rw [linF_s hr0] at hI; refine VC.skip (VC.block (VC.seq (VC.text ?_))); refine VO.c (.assign rfl) ?_; refine VO.go (VC.seq (VC.seq (VC.text ?_))); refine VO.r (.ldV m0 vt9) ?_; refine VO.call rfl rfl (VF.call (show VF Tryz.prog OA 94 [St r, .v (.int .u8) 10] (.v (.int .i64) (Go.Lib.indexByte (toL r) 10)) from zIxB_ok)) ?_; refine VO.c (.assign rfl) ?_; refine VO.go (VC.seq (VC.text ?_)); refine VO.c (.move rfl) (VO.c (.geq) (VO.go ?_)); refine VC.join [(0, .raw yv), (1, .raw w), (3, St (lnA r))] ((w, .var [St (cutR 10 r)]) :: γ) ?_ ?_
    · refine VC.condD rfl (fun c3 => ?_) (fun c3 => ?_)
      · have hix := idx_lt (s := r) (c := 10); have c3 : (0 : Int) ≤ Go.Lib.indexByte (toL r) 10 := c3; obtain ⟨k, hk⟩ := Int.eq_ofNat_of_zero_le c3
        have e1 : lnA r = r.extract 0 ((Go.Lib.indexByte (toL r) 10) + 1).toNat := by
          unfold lnA; rw [if_neg (by omega)]; congr 1; omega
        have e2 : cutR 10 r = r.extract ((Go.Lib.indexByte (toL r) 10) + 1).toNat r.size := by
          unfold cutR; rw [if_neg (by omega)]; congr 1; omega
        refine VC.drawn ?_; refine VD.r ((w, .var [St r]) :: γ) (.ldV m0 vt9) (.inr ⟨rfl, rfl⟩) ?_; refine VD.c (.move rfl) (VD.c (.add rfl rfl (by omega)) ?_); refine VD.r [] (.cutHS (by kernel_rfl) rfl rfl (by omega)) (.inl rfl) ?_; refine VD.r ((w, .var [St r]) :: γ) (.ldV m0 vt9) (.inr ⟨rfl, rfl⟩) ?_; refine VD.c (.move rfl) (VD.c (.add rfl rfl (by omega)) ?_); refine VD.r [] (.cutLS (by kernel_rfl) rfl rfl (by omega)) (.inl rfl) ?_; refine VD.c (.assign rfl) ?_; refine VD.mk0 (MakeV.setF (k := 0) vt9 .v (Nat.le_of_ble_eq_true rfl) (.inr ⟨rfl, rfl⟩) rfl rfl) ?_; rintro _ _ tl ⟨rfl, rfl⟩; refine VD.nil ?_; rw [e1, e2]; exact ⟨⟨rfl, rfl, rfl, trivial⟩, rfl⟩
      have c3 : ¬ (0 : Int) ≤ Go.Lib.indexByte (toL r) 10 := c3; have e1 : lnA r = r := if_pos (by omega); have e2 : cutR 10 r = ⟨#[]⟩ := if_pos (by omega); refine VC.text ?_; refine VO.r (.ldV m0 vt9) ?_; refine VO.c (.assign rfl) ?_; refine VO.setV (cs' := [St ⟨#[]⟩]) vt9 .v ?_; refine VO.nil ?_; rw [e1, e2]; exact ⟨⟨rfl, rfl, rfl, trivial⟩, rfl⟩
    refine VC.seq (VC.text ?_); refine VO.c (.move rfl) (VO.c (.move rfl) ?_); refine VO.perm (List.perm_append_singleton _ _).symm ?_; refine VO.callY (σ := [(w, .var [St (cutR 10 r)])]) γ rfl rfl rfl (hy _ _ _ hI) ?_; rintro r' γ' hq; refine VO.perm (List.perm_append_singleton _ _) ?_; rcases hq with ⟨rfl, hI2⟩ | ⟨rfl, hE⟩
    · refine VO.c (.not) (VO.go ?_); refine VC.condF rfl ?_; refine VC.skip ?_; exact ⟨(cutR 10 r).size, [(0, .raw yv), (1, .raw w)], by omega, ⟨rfl, rfl, trivial⟩, m, cutR 10 r, γ', rfl, rfl, rfl, by omega, by omega, hI2⟩
    refine VO.c (.not) (VO.go ?_); refine VC.condT rfl ?_; refine VC.ret ?_; exact ⟨rfl, _, γ', rfl, .inr hE⟩
  have hr0 : r.size = 0 := by omega
  rw [linF_nil hr0] at hI; refine VC.exit ?_; exact ⟨rfl, _, γ, rfl, .inl hI⟩
end Go.Proofs
namespace Go.Fs
variable {P : Program} {h h2 : Heap} {S S' : List Nat} {w : Value} {e e0 e1 e2 : TypeId} {τ τ0 τ1 τ2 : Ty}
theorem row_same {xs ys : List τ.den} (hx : ∀ b o, h.get b = some o → h2.get b = some o) (hg : CellR h S w (.row e τ xs)) (hs : CellR h2 S' w (.row e τ ys)) : ys = xs := by
  rcases hg with ⟨g1, g2⟩ | ⟨b, rs, m, g1, g2, g3, g4⟩
  · rcases hs with ⟨_, s2⟩ | ⟨b2, rs2, m2, s1, _⟩
    · rw [g2, s2]
    rw [show w = _ from g1] at s1; cases s1
  rcases hs with ⟨s1, _⟩ | ⟨b2, rs2, m2, s1, s2, s3, s4⟩
  · rw [show w = _ from g1] at s1; cases s1
  have g1 : w = .slice (some ⟨b, 0, none⟩) xs.length 0 := g1; have s1 : w = .slice (some ⟨b2, 0, none⟩) ys.length 0 := s1; rw [g1] at s1; injection s1 with s5 s6; injection s5 with s5; injection s5 with s5; subst s5; have h3 := hx b _ g3; rw [s3] at h3; injection h3 with h3; injection h3 with _ h4; subst h4; exact List.ext_getElem s6.symm fun i h5 h6 => (RepC.same hx (g4.2 i h6) (s4.2 i h5)).symm
theorem raws_same {us us' : List Value} (hk : ∀ b ∈ blk w, h2.get b = h.get b) (hg : CellR h S w (.var (us.map .raw))) (hs : CellR h2 S' w (.var (us'.map .raw))) : us' = us := by
  obtain ⟨b, e, vs, g1, g2, g3, g4, g5⟩ := hg; obtain ⟨b2, e2, vs2, s1, s2, s3, s4, s5⟩ := hs; have g1 : w = .pointer (some ⟨b, 0, none⟩) := g1; have s1 : w = .pointer (some ⟨b2, 0, none⟩) := s1; rw [g1] at s1; injection s1 with s1; injection s1 with s1; injection s1 with s1; subst s1; have h3 := hk b (by rw [g1]; simp [blk]); rw [s3, g3] at h3; injection h3 with h3; injection h3 with _ h4; rw [← raws_eq s4, ← raws_eq g4, h4]
theorem rows_keep3 {a0 a1 a2 b0 b1 b2 : Value} {x0 y0 : List τ0.den} {x1 y1 : List τ1.den} {x2 y2 : List τ2.den} (h h2 : Heap) (S : List Nat)
    (hg : ∀ c ∈ [(w, Cell.var [.raw a0, .raw a1, .raw a2]), (a0, .row e0 τ0 x0), (a1, .row e1 τ1 x1), (a2, .row e2 τ2 x2)], CellR h (own [(w, Cell.var [.raw a0, .raw a1, .raw a2]), (a0, .row e0 τ0 x0), (a1, .row e1 τ1 x1), (a2, .row e2 τ2 x2)] ++ S) c.1 c.2)
    (hs : ∀ c ∈ [(w, Cell.var [.raw b0, .raw b1, .raw b2]), (b0, .row e0 τ0 y0), (b1, .row e1 τ1 y1), (b2, .row e2 τ2 y2)], CellR h2 (own [(w, Cell.var [.raw b0, .raw b1, .raw b2]), (b0, .row e0 τ0 y0), (b1, .row e1 τ1 y1), (b2, .row e2 τ2 y2)] ++ S) c.1 c.2)
    (hk : ∀ b ∈ own [(w, Cell.var [.raw a0, .raw a1, .raw a2]), (a0, .row e0 τ0 x0), (a1, .row e1 τ1 x1), (a2, .row e2 τ2 x2)], h2.get b = h.get b) (hx : ∀ b o, h.get b = some o → h2.get b = some o) :
    (∀ b ∈ own [(w, Cell.var [.raw b0, .raw b1, .raw b2]), (b0, .row e0 τ0 y0), (b1, .row e1 τ1 y1), (b2, .row e2 τ2 y2)], b ∈ own [(w, Cell.var [.raw a0, .raw a1, .raw a2]), (a0, .row e0 τ0 x0), (a1, .row e1 τ1 x1), (a2, .row e2 τ2 x2)]) ∧
    ∀ c ∈ [(w, Cell.var [.raw b0, .raw b1, .raw b2]), (b0, .row e0 τ0 y0), (b1, .row e1 τ1 y1), (b2, .row e2 τ2 y2)], CellR h (own [(w, Cell.var [.raw b0, .raw b1, .raw b2]), (b0, .row e0 τ0 y0), (b1, .row e1 τ1 y1), (b2, .row e2 τ2 y2)] ++ S) c.1 c.2 := by
  have hu := raws_same (us := [a0, a1, a2]) (us' := [b0, b1, b2]) (fun b hb => hk b (by rw [own_cons]; exact List.mem_append_left _ hb)) (hg _ List.mem_cons_self) (hs _ List.mem_cons_self); injection hu with hu0 hu; injection hu with hu1 hu; injection hu with hu2 _; subst hu0 hu1 hu2; obtain rfl : y0 = x0 := row_same hx (hg (b0, .row e0 τ0 x0) (.tail _ (.head _))) (hs (b0, .row e0 τ0 y0) (.tail _ (.head _))); obtain rfl : y1 = x1 := row_same hx (hg (b1, .row e1 τ1 x1) (.tail _ (.tail _ (.head _)))) (hs (b1, .row e1 τ1 y1) (.tail _ (.tail _ (.head _)))); obtain rfl : y2 = x2 := row_same hx (hg (b2, .row e2 τ2 x2) (.tail _ (.tail _ (.tail _ (.head _))))) (hs (b2, .row e2 τ2 y2) (.tail _ (.tail _ (.tail _ (.head _))))); exact ⟨fun _ hb => hb, hg⟩
end Go.Fs
namespace Go.Fs
variable {P : Program} {orc : FuncId → List Value → Heap → Option (Value × Heap)} {rnd : Option Nat} {h h' h0 h1 h2 : Heap} {S S' S0 S1 S2 B G : List Nat} {σ σ' σr γ : Sto} {t t' : Tr} {ms : List Nat} {fl : VL} {ops : Array Oper} {n i mem : Nat} {l : List Oper} {K : VL → Sto → Prop} {Q : Ex → VL → Sto → Prop} {w : Value} {τ : Ty} {x y : Operand} {T T' : TypeId}
theorem Iv.recell {cs cs' : List PV} (hc : ∀ {h : Heap} {S : List Nat} {vs : List Value}, RepL h S cs vs → RepL h S cs' vs) (I : Iv h0 G S0 h ((w, .var cs) :: σ) t ms fl) : Iv h0 G S0 h ((w, .var cs') :: σ) t ms fl where
  ok := I.ok
  s0 := I.s0
  aft := I.aft
  cells := fun c hm => by
    rcases List.mem_cons.1 hm with rfl | hm
    · obtain ⟨b, e, vs, g1, g2, g3, g4, g5⟩ := I.cells _ List.mem_cons_self; exact ⟨b, e, vs, g1, g2, g3, hc g4, g5⟩
    exact I.cells c (List.mem_cons_of_mem _ hm)
  new := I.new
  apart := I.apart
  mark := I.mark
  marks := I.marks
  slots := I.slots
theorem VO.recell {cs cs' : List PV} (hc : ∀ {h : Heap} {S : List Nat} {vs : List Value}, RepL h S cs vs → RepL h S cs' vs) (hx : VO P orc ops n l fl ((w, .var cs') :: σ) K) : VO P orc ops n l fl ((w, .var cs) :: σ) K := fun h0 G S0 t h ms I => hx h0 G S0 t h ms (I.recell hc)
theorem RepL.cons' {p p' : PV} {cs cs' : List PV} {vs : List Value} (hp : ∀ {u : Value}, RepPV h S p u → RepPV h S p' u) (hc : ∀ {vs : List Value}, RepL h S cs vs → RepL h S cs' vs) : RepL h S (p :: cs) vs → RepL h S (p' :: cs') vs := fun ⟨u, r, h1, h2, h3⟩ => ⟨u, r, h1, hp h2, hc h3⟩
theorem nil_sl {u : Value} (hu : RepPV h S (.raw (.slice none 0 0)) u) : RepPV h S (.v (.sl τ) []) u := by
  have hu : u = .slice none 0 0 := hu; subst hu; exact SlV.nil.rep
theorem CalmV.eqT {a b : Int} {k : IntKind} (hx : evV fl x = some (.v (.int k) a) := by rfl) (hy : evV fl y = some (.v (.int k) b) := by rfl) (h : a = b) : CalmV P fl σ (.binOp .eql T x y T') (.v .bool true) := by
  have := CalmV.eql (P := P) (σ := σ) (T := T) (T' := T') hx hy
  rwa [decide_eq_true h] at this
theorem CalmV.eqF {a b : Int} {k : IntKind} (hx : evV fl x = some (.v (.int k) a) := by rfl) (hy : evV fl y = some (.v (.int k) b) := by rfl) (h : a ≠ b) : CalmV P fl σ (.binOp .eql T x y T') (.v .bool false) := by
  have := CalmV.eql (P := P) (σ := σ) (T := T) (T' := T') hx hy
  rwa [decide_eq_false h] at this
end Go.Fs
namespace Go.Fs
variable {P : Program} {orc : FuncId → List Value → Heap → Option (Value × Heap)} {rnd : Option Nat} {h h' h0 h1 h2 : Heap} {S S' S0 S1 S2 B G : List Nat} {σ σ' σr γ : Sto}
def VEndKC (P : Program) (fn : Func) (γ : Sto) (Q : PV → Sto → Prop) : Ex → VL → Sto → Prop := fun e fl σ => e.goes = true ∧ ∃ σ1 σ2 ps, σ.Perm (σ1 ++ σ2) ∧ EndL P fl σ1 fn.results.toList ps ∧ Q (tupV ps) σ2 ∧ ∀ (h h2 : Heap) (S : List Nat), (∀ c ∈ γ, CellR h (own γ ++ S) c.1 c.2) → (∀ c ∈ σ2, CellR h2 (own σ2 ++ S) c.1 c.2) → (∀ b ∈ own γ, h2.get b = h.get b) → (∀ b o, h.get b = some o → h2.get b = some o) → (∀ b ∈ own σ2, b ∈ own γ) ∧ ∀ c ∈ σ2, CellR h (own σ2 ++ S) c.1 c.2
theorem VFG.enterKC {f : FuncId} {args : List PV} {fn : Func} {c : Code} {Q : PV → Sto → Prop} (hfn : P.funcs[f]? = some fn) (hc : fn.body = some c) (ho : ∀ us h, orc f us h = none) (hn : (Nat.blt 4000 fn.ntmps || Nat.blt fn.ntmps args.length) = false)
    (hb : VC P orc none c fn.ntmps (argVL 0 args) γ (VEndKC P fn γ Q)) : VFG P orc f args γ Q := fun h S us hok hS hcells hnd hsep ha => by
  have hl := ha.len
  have hn2 : Nat.blt 4000 fn.ntmps = false ∧ Nat.blt fn.ntmps args.length = false := by simpa using hn
  have n3 := nble_no hn2.1; have n4 := nble_no hn2.2; have ha' : RepL (entry h) (own γ ++ S) args us := RepL.nx (h := h) (h' := entry h) (fun _ _ a b => ⟨a, b⟩) ha
  have I0 : Iv (entry h) (own γ) S (entry h) γ (fillTr .leaf 0 us) [] (argVL 0 args) := {
    ok := hok
    s0 := hS.1
    aft := Aft.refl _ _
    cells := fun c hc => (hcells c hc).keep (fun _ _ => rfl) (fun _ _ a b => ⟨a, b⟩) fun b hb => List.mem_append_left _ (List.mem_flatMap.2 ⟨c, hc, hb⟩)
    new := fun b hb => ⟨.inl hb, hsep b hb⟩
    apart := hnd
    mark := fun d hd => by cases hd
    marks := List.nodup_nil
    slots := slots_args (hS.2.ent hcells) ha' (by omega) }
  refine EvF.enter hfn hc (ho us h) (by rw [hl]; exact hn) ((hb (entry h) (own γ) S _ (entry h) [] I0).mono fun e fr h1 hq => ?_); obtain ⟨_, fl', σ0, Iv0, he, σ1, σ', ps, hperm, hps, hQ, hkd⟩ := hq; have Iv1 := Iv0.perm hperm; obtain ⟨h2, d1, d2, d3⟩ := drops_ok Iv1.marks fun d hd => (Iv1.mark d hd).2
  have hgd : ∀ b o, h1.get b = some o → o ≠ .defd → h2.get b = some o := fun b o hg hne => by
    rw [d3 b (fun hm => hne (by have := (Iv1.mark b hm).2; rw [hg] at this; exact Option.some.inj this))]; exact hg
  have a2 : Aft (entry h) h2 (own γ) := Iv1.aft.trans d2 fun i hi => .inr (Iv1.mark i hi).1; have L1 := Iv1.lc; have hap := L1.apart; rw [own_app] at hap; obtain ⟨hap1, hap2, hap3⟩ := List.nodup_append.1 hap
  have hoe : own (σ1 ++ σ') ++ S = own σ1 ++ (own σ' ++ S) := by rw [own_app, List.append_assoc]
  have Lz : Lc (own σ' ++ S) h1 σ1 fr.t fl' := ⟨L1.ok, fun b hb => L1.lt b (by rw [hoe]; exact List.mem_append_right _ hb), (fun c hc => by rw [← hoe]; exact L1.cells c (List.mem_append_left _ hc)), (fun b hb hm => by
    rcases List.mem_append.1 hm with hm | hm
    · exact hap3 b hb b hm rfl
    exact L1.sep b (by rw [own_app]; exact List.mem_append_left _ hb) hm), hap1, by rw [← hoe]; exact L1.slots⟩
  obtain ⟨us', e1, e2⟩ := hps.ok Lz hgd (fun b _ hg hne hbS => ⟨hgd b _ hg hne, hbS⟩); have hrep := tup_rep e2
  have hrow : ∀ c ∈ σ', ∀ b ∈ blk c.1, h2.get b = h1.get b := fun c hc b hb => by
    obtain ⟨o, hg, hne⟩ := (Iv1.cells c (List.mem_append_right _ hc)).isObj b hb; rw [hgd b _ hg hne, hg]
  have hcell2 : ∀ c ∈ σ', CellR h2 (own σ' ++ S) c.1 c.2 := fun c hc => by
    have hx : CellR h1 (own σ' ++ S) c.1 c.2 := (Iv1.cells c (List.mem_append_right _ hc)).keep (fun _ _ => rfl) (Goes.less fun b hb => by rw [hoe]; exact List.mem_append_right _ hb) fun b hb => List.mem_append_left _ (List.mem_flatMap.2 ⟨c, hc, hb⟩); have hN : GoesR h1 (own σ' ++ S) h2 (own σ' ++ S) := fun b _ hg hne hbS => ⟨hgd b _ hg hne, hbS⟩; have hgb := hrow c hc; obtain ⟨w, cc⟩ := c
    cases cc with
    | row e τ xs =>
      rcases hx with hx | ⟨b, rs, m, h3, h4, h5, h6⟩
      · exact .inl hx
      exact .inr ⟨b, rs, m, h3, h4, hgd b _ h5 (by simp), h6.1, fun i hi => (h6.2 i hi).nxR hN⟩
    | var cs =>
      obtain ⟨b, e, vs, h3, h4, h5, h6, h7⟩ := hx
      exact ⟨b, e, vs, h3, h4, hgd b _ h5 (by simp), h6.nxR hN, h7⟩
    | cap e k τ xs =>
      obtain ⟨b, rs, m, h3, h4, h5, h6, h7, h8⟩ := hx
      exact ⟨b, rs, m, h3, h4, hgd b _ h5 (by simp), h6, h7, h8.1, fun i hi => (h8.2 i hi).nxR hN⟩
    | mp κ ν kvs =>
      obtain ⟨b, es, c, h3, h4, h5, h6, h7⟩ := hx
      exact ⟨b, es, c, h3, h4, hgd b _ h5 (by simp), h6, fun i hi hj => ⟨⟨(h7 i hi hj).1.1, (h7 i hi hj).1.2.nxR hN⟩, ⟨(h7 i hi hj).2.1, (h7 i hi hj).2.2.nxR hN⟩⟩⟩
    | it s pos =>
      obtain ⟨b, h3, h4, h5⟩ := hx
      exact ⟨b, h3, h4, hgd b _ h5 (by simp)⟩
    | loop st jump n fl ps assign body =>
      obtain ⟨l, tmps, d, h3, h4, h5, h6⟩ := hx
      exact ⟨l, tmps, d, h3, h4, hgd l _ h5 (by simp), h6.nxR hN⟩
    | cel e n cs =>
      rcases hx with hx | ⟨b, rs, m, h3, h4, h5, h6, h7⟩
      · exact .inl hx
      exact .inr ⟨b, rs, m, h3, h4, hgd b _ h5 (by simp), h6.nxR hN, h7⟩
  have hnew2 : ∀ b ∈ own σ', b ∈ own γ ∨ h.next ≤ b := fun b hb => (Iv1.new b (by rw [own_app]; exact List.mem_append_right _ hb)).1; refine ⟨he, h2, us', d1, e1, ?_⟩; unfold leftOf
  cases haf : (af (tupled us') && Nat.ble h.next h2.low) with
  | true =>
    obtain ⟨af1', hlow⟩ := band haf; have hlow := nble hlow
    have hsame : ∀ b ∈ own γ, h2.get b = h.get b := fun b hb => by
      rcases a2.chg b (own_lt hcells hok b hb) with h3 | h3
      · exact h3
      have := own_lt hcells hok b hb; omega
    have hall : ∀ b o, h.get b = some o → h2.get b = some o := fun b o hb => by
      have hlt := hok b o hb; rcases a2.chg b hlt with h3 | h3
      · rw [h3]; exact hb
      have : h.next ≤ b := Nat.le_trans hlow h3; omega
    obtain ⟨k1, k2⟩ := hkd h h2 S hcells hcell2 hsame hall
    exact ⟨_, σ', hQ, ⟨Aft.refl _ _, fun b hb => .inl (k1 b hb), hap2, k2⟩, hrep.anyAf af1'⟩
  | false =>
    refine ⟨_, σ', hQ, ⟨⟨a2.next, a2.get, fun x => a2.ok x, fun e h3 h4 h5 => Nat.le_min.2 ⟨h3, a2.low e (Nat.le_trans h4 (Nat.le_refl _)) h4 h5⟩, fun b hb => ?_, Nat.min_le_left _ _⟩, hnew2, hap2, fun c hc => (hcell2 c hc).keep (fun _ _ => rfl) (fun _ _ a b => ⟨a, b⟩) fun b hb => List.mem_append_left _ (List.mem_flatMap.2 ⟨c, hc, hb⟩)⟩, RepPV.nx (h := h2) (h' := { next := h2.next, low := min h.low h2.low, objs := h2.objs }) (fun _ _ a b => ⟨a, b⟩) hrep⟩; rcases a2.chg b hb with h3 | h3
    · exact .inl h3
    exact .inr (Nat.le_trans (Nat.min_le_right _ _) h3)
end Go.Fs
namespace Go.Proofs
open Go.Fs
set_option maxHeartbeats 1000000
theorem bt98 : BldT Tryz.prog 98 y98 [(0, 1), (1, 1)] := bldT_of zt98 rfl (by kernel_rfl)
theorem sWord_ok {w : Value} {l : List ByteArray} {b : Bool} : VFG Tryz.prog OA 97 [.raw w] [(w, .var [.v (.sl .str) l, B b])] (fun r g => r = St (tkw (l, b)) ∧ g = [(w, .var [.v (.sl .str) (tkn (l, b)).1, B (tkn (l, b)).2])]) := by
  refine VFG.enterK Tryz.func97 rfl (fun _ _ => rfl) rfl ?_; show VC _ _ _ _ _ [(0, .raw w)] [(w, .var [.v (.sl .str) l, B b])] _
  match l with
  | [] =>
    refine VC.seq (VC.text ?_); refine VO.c (.assign rfl) ?_; refine VO.go (VC.seq (VC.seq (VC.text ?_))); refine VO.c (.move rfl) (VO.c (.nilO m0) (VO.c (.faO (k := 0) m0) ?_)); refine VO.r (.ldF (k := 0) m0 vt48) ?_; refine VO.r (.len el48) ?_; refine VO.c (.eqT (h := rfl)) (VO.c (.move rfl) (VO.skip (VO.skip ?_))); refine VO.skip (VO.skip (VO.skip (VO.skip ?_))); refine VO.skip (VO.c (.pickT rfl rfl) (VO.go ?_)); refine VC.condT rfl ?_; refine VC.seq (VC.text ?_); refine VO.c (.move rfl) (VO.c (.move rfl) (VO.c (.nilO m0) (VO.c (.faO (k := 0) m0) ?_))); refine VO.setF (cs' := [.raw (.slice none 0 0), B b]) 0 vt48 (.raw rfl (agg_one rfl) rfl) ?_; refine VO.c (.nilO m0) (VO.c (.faO (k := 1) m0) ?_); refine VO.setF (cs' := [.raw (.slice none 0 0), B true]) 1 vt4 .v ?_; refine VO.recell (cs' := [.v (.sl .str) [], B true]) (fun hx => RepL.cons' nil_sl (fun hy => hy) hx) ?_; refine VO.go (VC.seq (VC.text ?_)); refine VO.c (.assign rfl) (VO.go ?_); refine VC.ret ?_
    exact ⟨rfl, [St ByteArray.empty], .cons evT .nil, ⟨rfl, rfl⟩, var_keep⟩
  | a :: r =>
    by_cases ha : a = ByteArray.empty
    · subst ha; refine VC.seq (VC.text ?_); refine VO.c (.assign rfl) ?_; refine VO.go (VC.seq (VC.seq (VC.text ?_))); refine VO.c (.move rfl) (VO.c (.nilO m0) (VO.c (.faO (k := 0) m0) ?_)); refine VO.r (.ldF (k := 0) m0 vt48) ?_; refine VO.r (.len el48) ?_; refine VO.c (.eqF (h := by simp; omega)) (VO.c (.move rfl) (VO.c (.move rfl) (VO.c (.nilO m0) ?_))); refine VO.c (.faO (k := 0) m0) ?_; refine VO.r (.ldF (k := 0) m0 vt48) ?_; refine VO.c (.ix (j := 0) rfl rfl el48 (by simp)) ?_; refine VO.r (.ld vt9) ?_; refine VO.c (.seqT rfl) (VO.c (.pickF rfl rfl) (VO.go ?_)); refine VC.condT rfl ?_; refine VC.seq (VC.text ?_); refine VO.c (.move rfl) (VO.c (.move rfl) (VO.c (.nilO m0) (VO.c (.faO (k := 0) m0) ?_))); refine VO.setF (cs' := [.raw (.slice none 0 0), B b]) 0 vt48 (.raw rfl (agg_one rfl) rfl) ?_; refine VO.c (.nilO m0) (VO.c (.faO (k := 1) m0) ?_); refine VO.setF (cs' := [.raw (.slice none 0 0), B true]) 1 vt4 .v ?_; refine VO.recell (cs' := [.v (.sl .str) [], B true]) (fun hx => RepL.cons' nil_sl (fun hy => hy) hx) ?_; refine VO.go (VC.seq (VC.text ?_)); refine VO.c (.assign rfl) (VO.go ?_); refine VC.ret ?_; exact ⟨rfl, [St ByteArray.empty], .cons evT .nil, ⟨rfl, rfl⟩, var_keep⟩
    rw [tkn_yes ha]; refine VC.seq (VC.text ?_); refine VO.c (.assign rfl) ?_; refine VO.go (VC.seq (VC.seq (VC.text ?_))); refine VO.c (.move rfl) (VO.c (.nilO m0) (VO.c (.faO (k := 0) m0) ?_)); refine VO.r (.ldF (k := 0) m0 vt48) ?_; refine VO.r (.len el48) ?_; refine VO.c (.eqF (h := by simp; omega)) (VO.c (.move rfl) (VO.c (.move rfl) (VO.c (.nilO m0) ?_))); refine VO.c (.faO (k := 0) m0) ?_; refine VO.r (.ldF (k := 0) m0 vt48) ?_; refine VO.c (.ix (j := 0) rfl rfl el48 (by simp)) ?_; refine VO.r (.ld vt9) ?_; refine VO.c (.seqF ha) (VO.c (.pickF rfl rfl) (VO.go ?_)); refine VC.condF rfl ?_; refine VC.skip (VC.seq (VC.text ?_)); refine VO.c (.move rfl) (VO.c (.nilO m0) (VO.c (.faO (k := 0) m0) ?_)); refine VO.r (.ldF (k := 0) m0 vt48) ?_; refine VO.c (.ix (j := 0) rfl rfl el48 (by simp)) ?_; refine VO.r (.ld vt9) ?_; refine VO.c (.assign rfl) ?_; refine VO.go (VC.seq (VC.text ?_)); refine VO.c (.move rfl) (VO.c (.move rfl) (VO.c (.nilO m0) (VO.c (.faO (k := 0) m0) ?_))); refine VO.r (.ldF (k := 0) m0 vt48) ?_; refine VO.r (.cutL rfl rfl el48 (by simp; omega)) ?_; refine VO.c (.nilO m0) (VO.c (.faO (k := 0) m0) ?_); refine VO.mk0 (MakeV.setF (k := 0) vt48 .v (Nat.le_of_ble_eq_true rfl) (.inl rfl) rfl rfl) ?_; rintro _ _ ⟨rfl, rfl⟩; refine VO.go (VC.seq (VC.text ?_)); refine VO.c (.move rfl) (VO.c (.assign rfl) (VO.go ?_)); refine VC.ret ?_; exact ⟨rfl, [St a], .cons evT .nil, ⟨rfl, rfl⟩, var_keep⟩
theorem sVers_ok {w : Value} {s : Tk} (hs : ∀ x ∈ s.1, x.size < 100000) : VFG Tryz.prog OA 96 [.raw w] [(w, .var [.v (.sl .str) s.1, B s.2])] (fun r g => r = .v y98 (tkv s) ∧ g = [(w, .var [.v (.sl .str) (tkvn s).1, B (tkvn s).2])]) := by
  refine VFG.enterKC Tryz.func96 rfl (fun _ _ => rfl) rfl ?_; show VC _ _ _ _ _ [(0, .raw w)] [(w, .var [.v (.sl .str) s.1, B s.2])] _; have hw2 : (tkw (tkn s)).size < 100000 := tkw_size (fun x hx => hs x (tkn_mem hx)); refine VC.seq (VC.text ?_); refine VO.cell (.alloc zt98) ?_; intro v2; refine VO.perm swap1 ?_; refine VO.go (VC.seq (VC.text ?_)); refine VO.c (.move rfl) ?_; refine VO.callG [(w, .var [.v (.sl .str) s.1, B s.2])] rfl rfl rfl (VFG.call sWord_ok) ?_; rintro _ _ ⟨rfl, rfl⟩; refine VO.c (.assign rfl) ?_; refine VO.go (VC.seq (VC.text ?_)); refine VO.c (.move rfl) ?_; refine VO.callG [(w, .var [.v (.sl .str) (tkn s).1, B (tkn s).2])] rfl rfl rfl (VFG.call sWord_ok) ?_; rintro _ _ ⟨rfl, rfl⟩; show VO _ _ _ _ _ _ [(w, .var [.v (.sl .str) (tkn (tkn s)).1, B (tkn (tkn s)).2]), (v2, .var _)] _; refine VO.call rfl rfl (VF.call (cInt_ok hw2)) ?_; refine VO.c (.move rfl) (VO.c (.extract) (VO.c (.extract) (VO.c (.assign rfl) ?_))); refine VO.c (.assign rfl) (VO.go ?_); have htv : tkvn s = ((tkn (tkn s)).1, (tkn (tkn s)).2 || !numK (tkw (tkn s))) := rfl; have hts : tkv s = (tkw s, numP (tkw (tkn s))) := rfl; rw [htv]; generalize (tkn (tkn s)).1 = l2; generalize (tkn (tkn s)).2 = q; refine VC.seq (VC.text ?_); refine VO.c (.move rfl) (VO.c (.move rfl) (VO.c (.nilO m0) (VO.c (.faO (k := 1) m0) ?_))); refine VO.r (.ldF (k := 1) m0 vt4) ?_; refine VO.c (.move rfl) ?_; cases q
  · refine VO.c (.move rfl) (VO.c (.not) (VO.c (.pickF rfl rfl) (VO.c (.nilO m0) ?_))); refine VO.c (.faO (k := 1) m0) ?_; refine VO.mk0 (MakeV.setF (k := 1) vt4 .v (Nat.le_of_ble_eq_true rfl) (.inl rfl) rfl rfl) ?_; rintro _ _ ⟨rfl, rfl⟩; refine VO.go (VC.seq (VC.text ?_)); refine VO.c (.move rfl) (VO.c (.move rfl) (VO.c (.build (tkv s) bt98) ?_)); refine VO.perm swap1 ?_; refine VO.setV (cs' := [St (tkv s).1, I (tkv s).2]) vt98 .v ?_; refine VO.go ?_; refine VC.ret ?_; exact ⟨rfl, [(v2, .var [St (tkv s).1, I (tkv s).2])], _, [.v y98 (tkv s)], .refl _, .cons (.cell rfl m0 vt98 .refl) .nil, ⟨rfl, rfl⟩, var_keep⟩
  refine VO.skip (VO.skip (VO.c (.pickT rfl rfl) (VO.c (.nilO m0) ?_))); refine VO.c (.faO (k := 1) m0) ?_; refine VO.mk0 (MakeV.setF (k := 1) vt4 .v (Nat.le_of_ble_eq_true rfl) (.inl rfl) rfl rfl) ?_; rintro _ _ ⟨rfl, rfl⟩; refine VO.go (VC.seq (VC.text ?_)); refine VO.c (.move rfl) (VO.c (.move rfl) (VO.c (.build (tkv s) bt98) ?_)); refine VO.perm swap1 ?_; refine VO.setV (cs' := [St (tkv s).1, I (tkv s).2]) vt98 .v ?_; refine VO.go ?_; refine VC.ret ?_; exact ⟨rfl, [(v2, .var [St (tkv s).1, I (tkv s).2])], _, [.v y98 (tkv s)], .refl _, .cons (.cell rfl m0 vt98 .refl) .nil, ⟨rfl, rfl⟩, var_keep⟩
end Go.Proofs
namespace Go.Proofs
open Go.Fs
set_option maxHeartbeats 4000000
abbrev y156 : Ty := (.pair (.sl .str) .bool)
theorem zt156 : ZerT Tryz.prog 156 y156 := zerT_of (z := .agg #[.slice none 0 0, .bool false]) (by kernel_rfl) rfl rfl
theorem bt156 : BldT Tryz.prog 156 y156 [(0, 1), (1, 1)] := bldT_of zt156 rfl (by kernel_rfl)
abbrev cseS (w a0 a1 a2 : Value) (c : Cse) : Sto := [(w, .var [.raw a0, .raw a1, .raw a2]), (a0, .row 98 y98 c.1), (a1, .row 101 y101 c.2.1), (a2, .row 102 y102 c.2.2)]
def RdQ (w : Value) (c : Cse) (W : List ByteArray) (r : PV) (g : Sto) : Prop := ∃ b0 b1 b2 c', g = cseS w b0 b1 b2 c' ∧ r = B (stpW c W).isSome ∧ ∀ c2, stpW c W = some c2 → c' = c2
theorem rdq {w b0 b1 b2 : Value} {c c' : Cse} {W : List ByteArray} {q : Bool} (h : stpW c W = if q = true then some c' else none) : RdQ w c W (B q) (cseS w b0 b1 b2 c') := by
  refine ⟨b0, b1, b2, c', rfl, ?_, fun c2 h2 => ?_⟩
  · rw [h]; cases q <;> rfl
  rw [h] at h2; cases q
  · cases h2
  exact Option.some.inj h2
theorem swap_c3 {a b c d e : Value × Cell} {r : Sto} : (a :: b :: c :: d :: e :: r).Perm (e :: a :: b :: c :: d :: r) := (swap3.cons a).trans (List.Perm.swap e a (b :: c :: d :: r))
theorem me4 {a b c d e : Value × Cell} {r : Sto} : e ∈ a :: b :: c :: d :: e :: r := List.mem_append_right [a, b, c, d] List.mem_cons_self
theorem me5 {a b c d e f : Value × Cell} {r : Sto} : f ∈ a :: b :: c :: d :: e :: f :: r := List.mem_append_right [a, b, c, d, e] List.mem_cons_self
theorem sRead_v {wc a0 a1 a2 : Value} {c : Cse} {W : List ByteArray} (h0 : 0 < W.length) (hW : W.length < 100000) (hz : ∀ x ∈ W, x.size < 100000) (h1 : c.1.length < 100000) (h2 : c.2.1.length < 100000) (h3 : c.2.2.length < 100000) (hw : wrdA W 0 = vWd) :
    VFG Tryz.prog OA 50 [.raw wc, .v (.sl .str) W] (cseS wc a0 a1 a2 c) (RdQ wc c W) := by
  refine VFG.enterKC Tryz.func50 rfl (fun _ _ => rfl) rfl ?_; show VC _ _ _ _ _ [(0, .raw wc), (1, .v (.sl .str) W)] (cseS wc a0 a1 a2 c) _; have hz1 : ∀ x ∈ W.drop 1, x.size < 100000 := fun x hx => hz x (List.mem_of_mem_drop hx); have hl1 : (W.drop 1).length = W.length - 1 := List.length_drop; have hw0 : wrdA W 0 = W[0] := wrd_at h0; rw [hw0] at hw; refine VC.seq (VC.text ?_); refine VO.c (.assign rfl) ?_; refine VO.go (VC.seq (VC.text ?_)); refine VO.c (.move rfl) ?_; refine VO.r (.cutL rfl rfl el48 (by omega)) ?_; refine VO.c (.build (W.drop 1, false) bt156) ?_; refine VO.cell (.box .v) ?_; intro w5; show VO _ _ _ _ _ _ ((w5, .var [.v (.sl .str) (W.drop 1), B false]) :: cseS wc a0 a1 a2 c) _; refine VO.c (.assign rfl) ?_; refine VO.go (VC.seq (VC.text ?_)); refine VO.c (.move rfl) (VO.c (.func) (VO.c (.assign rfl) ?_)); refine VO.go (VC.seq (VC.seq (VC.text ?_))); refine VO.c (.move rfl) (VO.c (.ix (j := 0) rfl rfl el48 h0) ?_); refine VO.r (.ld vt9) ?_; refine VO.go (VC.block (VC.seq (VC.text ?_))); refine VO.c (.seqT hw) (VO.c (.assign rfl) (VO.go ?_)); refine VC.condT rfl ?_; have hrd := read_v (c := c) h0 (hw0.trans hw); have hvn : ∀ x ∈ ((W.drop 1, false) : Tk).1, x.size < 100000 := hz1; refine VC.seq (VC.text ?_); refine VO.c (.move rfl) ?_; refine VO.callG [(w5, .var [.v (.sl .str) ((W.drop 1, false) : Tk).1, B ((W.drop 1, false) : Tk).2])] rfl rfl rfl (VFG.clo (a := [.raw w5]) (args := []) (c := []) (sVers_ok (s := (W.drop 1, false)) hvn)) ?_; rintro _ _ ⟨rfl, rfl⟩; generalize tkv (W.drop 1, false) = v at *; generalize tkvn (W.drop 1, false) = s1 at *; show VO _ _ _ _ _ _ ((w5, .var [.v (.sl .str) s1.1, B s1.2]) :: cseS wc a0 a1 a2 c) _; refine VO.cell (.alloc zt98) ?_; intro w7; refine VO.setV (cs' := [St v.1, I v.2]) vt98 .v ?_; refine VO.shut [(7, .p y98 v)] (.cons rfl (.var m0 .refl) .nil) ?_; refine VO.go (VC.seq (VC.drawn ?_)); refine VD.c (.move rfl) (VD.c (.move rfl) ?_); refine VD.co (.nilO m1) ?_; refine VD.co (.faO (k := 0) m1) ?_; refine VD.r ((w5, .var [.v (.sl .str) s1.1, B s1.2]) :: cseS wc a0 a1 a2 c) (.ldF (k := 0) m1 vt32) (.inr ⟨rfl, rfl⟩) ?_; refine VD.r [] (.ld vt98) (.inl rfl) ?_; refine VD.new (.lit [v] el32) ?_; refine VD.perm swap2 ?_; refine VD.mk (MakeV.app el32 el32 rfl rfl (by simp; omega)) ?_; rintro _ _ tl ⟨wn, rfl, rfl⟩; refine VD.co (.nilO m2) ?_; refine VD.co (.faO (k := 0) m2) ?_; refine VD.perm swap2 ?_; refine VD.one m1 fun ho => ?_; refine VD.mk0 (MakeV.setF (k := 0) vt32 (.raw rfl (agg_one ho) ho) (Nat.le_of_ble_eq_true rfl) (.inl rfl) rfl rfl) ?_; rintro _ _ tl2 ⟨rfl, rfl⟩; refine VD.go (VC.seq (VC.text ?_)); refine VO.c (.move rfl) (VO.c (.nilO m2) (VO.c (.faO (k := 1) m2) ?_)); refine VO.r (.ldF (k := 1) m2 vt4) ?_; cases hq : s1.2
  · skip
    refine VO.c (.not) (VO.c (.move rfl) ?_); by_cases hl : s1.1.length = 0
    · skip
      refine VO.c (.move rfl) (VO.c (.nilO m2) (VO.c (.faO (k := 0) m2) ?_)); refine VO.r (.ldF (k := 0) m2 vt48) ?_; refine VO.r (.len el48) ?_; refine VO.c (.eqT (h := by omega)) (VO.c (.pickT rfl rfl) (VO.c (.move rfl) ?_)); by_cases he : c.2.1.length = 0
      · skip
        refine VO.c (.move rfl) (VO.c (.nilO m0) (VO.c (.faO (k := 1) m0) ?_)); refine VO.r (.ldF (k := 1) m0 vt33) ?_; refine VO.r (.lenO m3 el33) ?_; refine VO.c (.eqT (h := by omega)) (VO.c (.pickT rfl rfl) (VO.c (.move rfl) ?_)); by_cases hk : c.2.2.length = 0
        · skip
          refine VO.c (.move rfl) (VO.c (.nilO m0) (VO.c (.faO (k := 2) m0) ?_)); refine VO.r (.ldF (k := 2) m0 vt34) ?_; refine VO.r (.lenO me4 el34) ?_; refine VO.c (.eqT (h := by omega)) (VO.c (.pickT rfl rfl) (VO.c (.assign rfl) (VO.go ?_))); refine VC.ret ?_; exact ⟨rfl, [(w5, .var [.v (.sl .str) s1.1, B false])], cseS wc wn a1 a2 (c.1 ++ [v], c.2.1, c.2.2), [B true], swap2, .cons evT .nil, rdq (by rw [hrd]; congr 1; simp [hq, hl, he, hk]), rows_keep3⟩
        skip
        refine VO.c (.move rfl) (VO.c (.nilO m0) (VO.c (.faO (k := 2) m0) ?_)); refine VO.r (.ldF (k := 2) m0 vt34) ?_; refine VO.r (.lenO me4 el34) ?_; refine VO.c (.eqF (h := by omega)) (VO.c (.pickT rfl rfl) (VO.c (.assign rfl) (VO.go ?_))); refine VC.ret ?_; exact ⟨rfl, [(w5, .var [.v (.sl .str) s1.1, B false])], cseS wc wn a1 a2 (c.1 ++ [v], c.2.1, c.2.2), [B false], swap2, .cons evT .nil, rdq (by rw [hrd]; congr 1; simp [hq, hl, he, hk]), rows_keep3⟩
      skip
      refine VO.c (.move rfl) (VO.c (.nilO m0) (VO.c (.faO (k := 1) m0) ?_)); refine VO.r (.ldF (k := 1) m0 vt33) ?_; refine VO.r (.lenO m3 el33) ?_; refine VO.c (.eqF (h := by omega)) (VO.c (.pickT rfl rfl) (VO.c (.move rfl) (VO.skip ?_))); refine VO.skip (VO.skip (VO.skip (VO.skip ?_))); refine VO.skip (VO.c (.pickF rfl rfl) (VO.c (.assign rfl) (VO.go ?_))); refine VC.ret ?_; exact ⟨rfl, [(w5, .var [.v (.sl .str) s1.1, B false])], cseS wc wn a1 a2 (c.1 ++ [v], c.2.1, c.2.2), [B false], swap2, .cons evT .nil, rdq (by rw [hrd]; congr 1; simp [hq, hl, he]), rows_keep3⟩
    skip
    refine VO.c (.move rfl) (VO.c (.nilO m2) (VO.c (.faO (k := 0) m2) ?_)); refine VO.r (.ldF (k := 0) m2 vt48) ?_; refine VO.r (.len el48) ?_; refine VO.c (.eqF (h := by omega)) (VO.c (.pickT rfl rfl) (VO.c (.move rfl) (VO.skip ?_))); refine VO.skip (VO.skip (VO.skip (VO.skip ?_))); refine VO.skip (VO.c (.pickF rfl rfl) (VO.c (.move rfl) (VO.skip ?_))); refine VO.skip (VO.skip (VO.skip (VO.skip ?_))); refine VO.skip (VO.c (.pickF rfl rfl) (VO.c (.assign rfl) (VO.go ?_))); refine VC.ret ?_; exact ⟨rfl, [(w5, .var [.v (.sl .str) s1.1, B false])], cseS wc wn a1 a2 (c.1 ++ [v], c.2.1, c.2.2), [B false], swap2, .cons evT .nil, rdq (by rw [hrd]; congr 1; simp [hq, hl]), rows_keep3⟩
  skip
  refine VO.c (.not) (VO.c (.move rfl) (VO.skip (VO.skip ?_))); refine VO.skip (VO.skip (VO.skip (VO.skip ?_))); refine VO.c (.pickF rfl rfl) (VO.c (.move rfl) (VO.skip (VO.skip ?_))); refine VO.skip (VO.skip (VO.skip (VO.skip ?_))); refine VO.c (.pickF rfl rfl) (VO.c (.move rfl) (VO.skip (VO.skip ?_))); refine VO.skip (VO.skip (VO.skip (VO.skip ?_))); refine VO.c (.pickF rfl rfl) (VO.c (.assign rfl) (VO.go ?_)); refine VC.ret ?_; exact ⟨rfl, [(w5, .var [.v (.sl .str) s1.1, B true])], cseS wc wn a1 a2 (c.1 ++ [v], c.2.1, c.2.2), [B false], swap2, .cons evT .nil, rdq (by rw [hrd]; congr 1; simp [hq]), rows_keep3⟩
theorem sRead_e {wc a0 a1 a2 : Value} {c : Cse} {W : List ByteArray} (h0 : 0 < W.length) (hW : W.length < 100000) (hz : ∀ x ∈ W, x.size < 100000) (h1 : c.1.length < 100000) (h2 : c.2.1.length < 100000) (h3 : c.2.2.length < 100000) (hw : wrdA W 0 = eWd) :
    VFG Tryz.prog OA 50 [.raw wc, .v (.sl .str) W] (cseS wc a0 a1 a2 c) (RdQ wc c W) := by
  refine VFG.enterKC Tryz.func50 rfl (fun _ _ => rfl) rfl ?_; show VC _ _ _ _ _ [(0, .raw wc), (1, .v (.sl .str) W)] (cseS wc a0 a1 a2 c) _; have hz1 : ∀ x ∈ W.drop 1, x.size < 100000 := fun x hx => hz x (List.mem_of_mem_drop hx); have hl1 : (W.drop 1).length = W.length - 1 := List.length_drop; have hw0 : wrdA W 0 = W[0] := wrd_at h0; rw [hw0] at hw; refine VC.seq (VC.text ?_); refine VO.c (.assign rfl) ?_; refine VO.go (VC.seq (VC.text ?_)); refine VO.c (.move rfl) ?_; refine VO.r (.cutL rfl rfl el48 (by omega)) ?_; refine VO.c (.build (W.drop 1, false) bt156) ?_; refine VO.cell (.box .v) ?_; intro w5; show VO _ _ _ _ _ _ ((w5, .var [.v (.sl .str) (W.drop 1), B false]) :: cseS wc a0 a1 a2 c) _; refine VO.c (.assign rfl) ?_; refine VO.go (VC.seq (VC.text ?_)); refine VO.c (.move rfl) (VO.c (.func) (VO.c (.assign rfl) ?_)); refine VO.go (VC.seq (VC.seq (VC.text ?_))); refine VO.c (.move rfl) (VO.c (.ix (j := 0) rfl rfl el48 h0) ?_); refine VO.r (.ld vt9) ?_; refine VO.go (VC.block (VC.seq (VC.text ?_)))
  have hwv : W[0] ≠ vWd := by rw [hw]; decide
  refine VO.c (.seqF hwv) (VO.c (.assign rfl) (VO.go ?_)); refine VC.condF rfl ?_; refine VC.seq (VC.text ?_); refine VO.c (.seqT hw) (VO.c (.assign rfl) (VO.go ?_)); refine VC.condT rfl ?_; have hrd := read_e (c := c) (n := W.length) h0 (Nat.le_refl _) (hw0.trans hw); refine VC.seq (VC.text ?_); refine VO.c (.move rfl) ?_; refine VO.callG [(w5, .var [.v (.sl .str) (W.drop 1), B false])] rfl rfl rfl (VFG.call sWord_ok) ?_; rintro _ _ ⟨rfl, rfl⟩; generalize tkw (W.drop 1, false) = nm at *; have hm1 : ∀ x ∈ (tkn (W.drop 1, false)).1, x.size < 100000 := fun x hx => hz1 x (tkn_mem hx); have hl2 : (tkn (W.drop 1, false)).1.length ≤ (W.drop 1).length := tkn_le
  have hl2 : (tkn (W.drop 1, false)).1.length ≤ W.length := by omega
  generalize tkn (W.drop 1, false) = s0 at *; show VO _ _ _ _ _ _ ((w5, .var [.v (.sl .str) s0.1, B s0.2]) :: cseS wc a0 a1 a2 c) _; refine VO.c (.buildA (cs := [St nm, nilV]) bt101 rfl) ?_; refine VO.cell (.alloc zt101) ?_; intro w8; refine VO.setV (cs' := [St nm, nilV]) vt101 (.aggs rfl rfl) ?_; refine VO.go (VC.seq (VC.block ?_)); refine VC.cell0 98 y98 ?_; refine VC.keep [(0, .raw wc), (5, .raw w5), (6, .clo 96 [.raw w5] []), (8, .raw w8)] ⟨rfl, rfl, rfl, rfl, trivial⟩ ?_; refine VC.loop (I := fun kk ff ss => ∃ (s : Tk) (o : List Vers) (w2 : Value) (m : Nat), kk = s.1.length ∧ ff = [(0, .raw wc), (5, .raw w5), (6, .clo 96 [.raw w5] []), (8, .raw w8)] ∧ ss = (w2, .row 98 y98 o) :: (w8, .var [St nm, .raw w2]) :: (w5, .var [.v (.sl .str) s.1, B s.2]) :: cseS wc a0 a1 a2 c ∧ s.1.length ≤ m ∧ o.length + s.1.length ≤ W.length ∧ (∀ x ∈ s.1, x.size < 100000) ∧ finE m s o = finE W.length s0 []) ?_ _ _ _ ⟨s0, [], .slice none 0 0, W.length, rfl, rfl, rfl, hl2, by simpa using hl2, hm1, rfl⟩; rintro kk ff ss ⟨s, o, w2, m, hk0, rfl, rfl, hsm, hol, hsz, hfe⟩; refine VC.seq (VC.seq (VC.text ?_)); refine VO.c (.move rfl) (VO.c (.nilO m2) (VO.c (.faO (k := 0) m2) ?_)); refine VO.r (.ldF (k := 0) m2 vt48) ?_; refine VO.r (.len el48) ?_; refine VO.c (.gtr) (VO.go ?_); refine VC.condD rfl (fun c10 => ?_) (fun c10 => ?_)
  · have hs0 : s.1 ≠ [] := fun h => by rw [h] at c10; simp at c10
    obtain ⟨m, rfl⟩ : ∃ q, m = q + 1 := ⟨m - 1, by omega⟩; rw [finE_s hs0] at hfe; have hlt := tkvn_len hs0; have hmem : ∀ x ∈ (tkvn s).1, x.size < 100000 := fun x hx => hsz x (tkn_mem (tkn_mem hx)); refine VC.skip (VC.block (VC.seq (VC.text ?_))); refine VO.c (.move rfl) ?_; refine VO.perm swap2 ?_; refine VO.callG [(w5, .var [.v (.sl .str) s.1, B s.2])] rfl rfl rfl (VFG.clo (a := [.raw w5]) (args := []) (c := []) (sVers_ok hsz)) ?_; rintro _ _ ⟨rfl, rfl⟩; refine VO.cell (.alloc zt98) ?_; intro w9; refine VO.setV (cs' := [St (tkv s).1, I (tkv s).2]) vt98 .v ?_; refine VO.shut [(9, .p y98 (tkv s))] (.cons rfl (.var m0 .refl) .nil) ?_; refine VO.go (VC.text ?_); refine VO.c (.faO (k := 1) m2) ?_; refine VO.r (.ldF (k := 1) m2 vt32) ?_; refine VO.r (.ld vt98) ?_; refine VO.new (.lit [tkv s] el32) ?_; refine VO.perm swap1 ?_; refine VO.app rfl rfl el32 el32 (by simp; omega) ?_; intro wn; refine VO.c (.faO (k := 1) m2) ?_; refine VO.perm swap2 ?_; refine VO.one m1 fun ho => ?_; refine VO.setF (cs' := [St nm, .raw wn]) 1 vt32 (.raw rfl (agg_one ho) ho) ?_; refine VO.perm swap1 ?_; refine VO.nil ?_; exact ⟨(tkvn s).1.length, [(0, .raw wc), (5, .raw w5), (6, .clo 96 [.raw w5] []), (8, .raw w8)], by omega, ⟨rfl, rfl, rfl, rfl, trivial⟩, tkvn s, o ++ [tkv s], wn, m, rfl, rfl, rfl, by omega, by simp only [List.length_append, List.length_cons, List.length_nil]; omega, hmem, hfe⟩
  have hs0 : s.1 = [] := List.eq_nil_of_length_eq_zero (by omega)
  have hfe2 : finE W.length s0 [] = (s, o) := by
    obtain ⟨sl, sb⟩ := s; have hs0 : sl = [] := hs0; subst hs0; rw [← hfe, finE_nil]
  rw [hfe2] at hrd; refine VC.exit ?_; refine VC.shutL [(w2, .row 98 y98 o), (w8, .var [St nm, .raw w2])] [(8, .p y101 (nm, o))] rfl (.cons rfl (.var m1 (.cons .same (.cons (.row m0) .nil))) .nil) ?_; clear hfe hfe2 hk0 hsm hl2 hm1; generalize hs1 : s = s1 at *; refine VC.seq (VC.drawn ?_); refine VD.c (.move rfl) (VD.c (.move rfl) ?_); refine VD.co (.nilO m1) ?_; refine VD.co (.faO (k := 1) m1) ?_; refine VD.r ((w5, .var [.v (.sl .str) s1.1, B s1.2]) :: cseS wc a0 a1 a2 c) (.ldF (k := 1) m1 vt33) (.inr ⟨rfl, rfl⟩) ?_; refine VD.r [] (.ld vt101) (.inl rfl) ?_; refine VD.new (.lit [(nm, o)] el33) ?_; refine VD.perm swap3 ?_; refine VD.mk (MakeV.app el33 el33 rfl rfl (by simp; omega)) ?_; rintro _ _ tl ⟨wn, rfl, rfl⟩; refine VD.co (.nilO m2) ?_; refine VD.co (.faO (k := 1) m2) ?_; refine VD.perm swap2 ?_; refine VD.one m1 fun ho => ?_; refine VD.mk0 (MakeV.setF (k := 1) vt33 (.raw rfl (agg_one ho) ho) (Nat.le_of_ble_eq_true rfl) (.inl rfl) rfl rfl) ?_; rintro _ _ tl2 ⟨rfl, rfl⟩; refine VD.go (VC.seq (VC.text ?_)); refine VO.c (.move rfl) (VO.c (.nilO m2) (VO.c (.faO (k := 1) m2) ?_)); refine VO.r (.ldF (k := 1) m2 vt4) ?_; cases hq : s1.2
  · skip
    refine VO.c (.not) (VO.c (.move rfl) ?_); by_cases hk : c.2.2.length = 0
    · skip
      refine VO.c (.move rfl) (VO.c (.nilO m0) (VO.c (.faO (k := 2) m0) ?_)); refine VO.r (.ldF (k := 2) m0 vt34) ?_; refine VO.r (.lenO me4 el34) ?_; refine VO.c (.eqT (h := by omega)) (VO.c (.pickT rfl rfl) (VO.c (.assign rfl) (VO.go ?_))); refine VC.ret ?_; exact ⟨rfl, [(w5, .var [.v (.sl .str) s1.1, B false])], cseS wc a0 wn a2 (c.1, c.2.1 ++ [(nm, o)], c.2.2), [B true], (swap2.trans (List.Perm.cons _ (List.Perm.cons _ swap1))), .cons evT .nil, rdq (by rw [hrd]; congr 1; simp [hq, hk]), rows_keep3⟩
    skip
    refine VO.c (.move rfl) (VO.c (.nilO m0) (VO.c (.faO (k := 2) m0) ?_)); refine VO.r (.ldF (k := 2) m0 vt34) ?_; refine VO.r (.lenO me4 el34) ?_; refine VO.c (.eqF (h := by omega)) (VO.c (.pickT rfl rfl) (VO.c (.assign rfl) (VO.go ?_))); refine VC.ret ?_; exact ⟨rfl, [(w5, .var [.v (.sl .str) s1.1, B false])], cseS wc a0 wn a2 (c.1, c.2.1 ++ [(nm, o)], c.2.2), [B false], (swap2.trans (List.Perm.cons _ (List.Perm.cons _ swap1))), .cons evT .nil, rdq (by rw [hrd]; congr 1; simp [hq, hk]), rows_keep3⟩
  skip
  refine VO.c (.not) (VO.c (.move rfl) (VO.skip (VO.skip ?_))); refine VO.skip (VO.skip (VO.skip (VO.skip ?_))); refine VO.c (.pickF rfl rfl) (VO.c (.assign rfl) (VO.go ?_)); refine VC.ret ?_; exact ⟨rfl, [(w5, .var [.v (.sl .str) s1.1, B true])], cseS wc a0 wn a2 (c.1, c.2.1 ++ [(nm, o)], c.2.2), [B false], (swap2.trans (List.Perm.cons _ (List.Perm.cons _ swap1))), .cons evT .nil, rdq (by rw [hrd]; congr 1; simp [hq]), rows_keep3⟩
theorem sRead_c {wc a0 a1 a2 : Value} {c : Cse} {W : List ByteArray} (h0 : 0 < W.length) (hW : W.length < 100000) (hz : ∀ x ∈ W, x.size < 100000) (h1 : c.1.length < 100000) (h2 : c.2.1.length < 100000) (h3 : c.2.2.length < 100000) (hw : wrdA W 0 = cWd) :
    VFG Tryz.prog OA 50 [.raw wc, .v (.sl .str) W] (cseS wc a0 a1 a2 c) (RdQ wc c W) := by
  refine VFG.enterKC Tryz.func50 rfl (fun _ _ => rfl) rfl ?_; show VC _ _ _ _ _ [(0, .raw wc), (1, .v (.sl .str) W)] (cseS wc a0 a1 a2 c) _; have hz1 : ∀ x ∈ W.drop 1, x.size < 100000 := fun x hx => hz x (List.mem_of_mem_drop hx); have hl1 : (W.drop 1).length = W.length - 1 := List.length_drop; have hw0 : wrdA W 0 = W[0] := wrd_at h0; rw [hw0] at hw; refine VC.seq (VC.text ?_); refine VO.c (.assign rfl) ?_; refine VO.go (VC.seq (VC.text ?_)); refine VO.c (.move rfl) ?_; refine VO.r (.cutL rfl rfl el48 (by omega)) ?_; refine VO.c (.build (W.drop 1, false) bt156) ?_; refine VO.cell (.box .v) ?_; intro w5; show VO _ _ _ _ _ _ ((w5, .var [.v (.sl .str) (W.drop 1), B false]) :: cseS wc a0 a1 a2 c) _; refine VO.c (.assign rfl) ?_; refine VO.go (VC.seq (VC.text ?_)); refine VO.c (.move rfl) (VO.c (.func) (VO.c (.assign rfl) ?_)); refine VO.go (VC.seq (VC.seq (VC.text ?_))); refine VO.c (.move rfl) (VO.c (.ix (j := 0) rfl rfl el48 h0) ?_); refine VO.r (.ld vt9) ?_; refine VO.go (VC.block (VC.seq (VC.text ?_)))
  have hwv : W[0] ≠ vWd := by rw [hw]; decide
  have hwe : W[0] ≠ eWd := by rw [hw]; decide
  refine VO.c (.seqF hwv) (VO.c (.assign rfl) (VO.go ?_)); refine VC.condF rfl ?_; refine VC.seq (VC.text ?_); refine VO.c (.seqF hwe) (VO.c (.assign rfl) (VO.go ?_)); refine VC.condF rfl ?_; refine VC.seq (VC.text ?_); refine VO.c (.seqT hw) (VO.c (.assign rfl) (VO.go ?_)); refine VC.condT rfl ?_; have hrd := read_c (c := c) (n := W.length) h0 (Nat.le_refl _) (hw0.trans hw); refine VC.seq (VC.text ?_); refine VO.c (.move rfl) ?_; refine VO.callG [(w5, .var [.v (.sl .str) (W.drop 1), B false])] rfl rfl rfl (VFG.call sWord_ok) ?_; rintro _ _ ⟨rfl, rfl⟩; generalize tkw (W.drop 1, false) = nm at *; have hl2 : (tkn (W.drop 1, false)).1.length ≤ (W.drop 1).length := tkn_le
  have hl2 : (tkn (W.drop 1, false)).1.length ≤ W.length := by omega
  generalize tkn (W.drop 1, false) = sa at *; show VO _ _ _ _ _ _ ((w5, .var [.v (.sl .str) sa.1, B sa.2]) :: cseS wc a0 a1 a2 c) _; refine VO.c (.buildA (cs := [St nm, .raw (.bool false), nilV]) bt102 rfl) ?_; refine VO.cell (.alloc zt102) ?_; intro w10; refine VO.setV (cs' := [St nm, .raw (.bool false), nilV]) vt102 (.aggs rfl rfl) ?_; refine VO.go (VC.seq (VC.text ?_)); refine VO.c (.move rfl) ?_; refine VO.perm swap1 ?_; refine VO.callG [(w5, .var [.v (.sl .str) sa.1, B sa.2])] rfl rfl rfl (VFG.call sWord_ok) ?_; rintro _ _ ⟨rfl, rfl⟩; have hl3 := tkn_le (s := sa)
  have hl3 : (tkn sa).1.length ≤ W.length := by omega
  generalize tkw sa = kd at *; generalize tkn sa = s0 at *; show VO _ _ _ _ _ _ ((w5, .var [.v (.sl .str) s0.1, B s0.2]) :: (w10, .var [St nm, .raw (.bool false), nilV]) :: cseS wc a0 a1 a2 c) _; refine VO.c (.assign rfl) ?_; refine VO.go (VC.seq (VC.text ?_)); refine VO.c (.move rfl) (VO.c (.seql) (VO.c (.faO (k := 1) m1) ?_)); refine VO.perm swap1 ?_; refine VO.setF (cs' := [St nm, B (decide (kd = anyW)), nilV]) 1 vt4 .v ?_; refine VO.go (VC.seq (VC.block ?_)); refine VC.cell0 9 .str ?_; refine VC.keep [(0, .raw wc), (5, .raw w5), (10, .raw w10), (11, St kd)] ⟨rfl, rfl, rfl, rfl, trivial⟩ ?_; refine VC.loop (I := fun kk ff ss => ∃ (s : Tk) (o : List ByteArray) (w2 : Value) (m : Nat), kk = s.1.length ∧ ff = [(0, .raw wc), (5, .raw w5), (10, .raw w10), (11, St kd)] ∧ ss = (w2, .row 9 .str o) :: (w10, .var [St nm, B (decide (kd = anyW)), .raw w2]) :: (w5, .var [.v (.sl .str) s.1, B s.2]) :: cseS wc a0 a1 a2 c ∧ s.1.length ≤ m ∧ o.length + s.1.length ≤ W.length ∧ finC m s o = finC W.length s0 []) ?_ _ _ _ ⟨s0, [], .slice none 0 0, W.length, rfl, rfl, rfl, hl3, by simpa using hl3, rfl⟩; rintro kk ff ss ⟨s, o, w2, m, hk0, rfl, rfl, hsm, hol, hfe⟩; refine VC.seq (VC.seq (VC.text ?_)); refine VO.c (.move rfl) (VO.c (.nilO m2) (VO.c (.faO (k := 0) m2) ?_)); refine VO.r (.ldF (k := 0) m2 vt48) ?_; refine VO.r (.len el48) ?_; refine VO.c (.gtr) (VO.go ?_); refine VC.condD rfl (fun c19 => ?_) (fun c19 => ?_)
  · have hs0 : s.1 ≠ [] := fun h => by rw [h] at c19; simp at c19
    obtain ⟨m, rfl⟩ : ∃ q, m = q + 1 := ⟨m - 1, by omega⟩; rw [finC_s hs0] at hfe; have hlt := tkn_len hs0; refine VC.skip (VC.block (VC.seq (VC.text ?_))); refine VO.c (.move rfl) ?_; refine VO.perm swap2 ?_; refine VO.callG [(w5, .var [.v (.sl .str) s.1, B s.2])] rfl rfl rfl (VFG.call sWord_ok) ?_; rintro _ _ ⟨rfl, rfl⟩; show VO _ _ _ _ _ _ ((w5, .var [.v (.sl .str) (tkn s).1, B (tkn s).2]) :: (w2, .row 9 .str o) :: (w10, .var [St nm, B (decide (kd = anyW)), .raw w2]) :: cseS wc a0 a1 a2 c) _; refine VO.c (.assign rfl) ?_; refine VO.go (VC.text ?_); refine VO.c (.faO (k := 2) m2) ?_; refine VO.r (.ldF (k := 2) m2 vt48) ?_; refine VO.c (.move rfl) ?_; refine VO.new (.lit [tkw s] el48) ?_; refine VO.perm swap1 ?_; refine VO.app rfl rfl el48 el48 (by simp; omega) ?_; intro wn; refine VO.c (.faO (k := 2) m2) ?_; refine VO.perm swap2 ?_; refine VO.one m1 fun ho => ?_; refine VO.setF (cs' := [St nm, B (decide (kd = anyW)), .raw wn]) 2 vt48 (.raw rfl (agg_one ho) ho) ?_; refine VO.perm swap1 ?_; refine VO.nil ?_; exact ⟨(tkn s).1.length, [(0, .raw wc), (5, .raw w5), (10, .raw w10), (11, St kd)], by omega, ⟨rfl, rfl, rfl, rfl, trivial⟩, tkn s, o ++ [tkw s], wn, m, rfl, rfl, rfl, by omega, by simp only [List.length_append, List.length_cons, List.length_nil]; omega, hfe⟩
  have hs0 : s.1 = [] := List.eq_nil_of_length_eq_zero (by omega)
  have hfe2 : finC W.length s0 [] = (s, o) := by
    obtain ⟨sl, sb⟩ := s; have hs0 : sl = [] := hs0; subst hs0; rw [← hfe, finC_nil]
  rw [hfe2] at hrd; refine VC.exit ?_; refine VC.shutL [(w2, .row 9 .str o), (w10, .var [St nm, B (decide (kd = anyW)), .raw w2])] [(10, .p y102 (nm, decide (kd = anyW), o))] rfl (.cons rfl (.var m1 (.cons .same (.cons .same (.cons (.row m0) .nil)))) .nil) ?_; clear hfe hfe2 hk0 hsm hl2 hl3; generalize hs1 : s = s1 at *; refine VC.seq (VC.drawn ?_); refine VD.c (.move rfl) (VD.c (.move rfl) ?_); refine VD.co (.nilO m1) ?_; refine VD.co (.faO (k := 2) m1) ?_; refine VD.r ((w5, .var [.v (.sl .str) s1.1, B s1.2]) :: cseS wc a0 a1 a2 c) (.ldF (k := 2) m1 vt34) (.inr ⟨rfl, rfl⟩) ?_; refine VD.r [] (.ld vt102) (.inl rfl) ?_; refine VD.new (.lit [(nm, decide (kd = anyW), o)] el34) ?_; refine VD.perm swap_c3 ?_; refine VD.mk (MakeV.app el34 el34 rfl rfl (by simp; omega)) ?_; rintro _ _ tl ⟨wn, rfl, rfl⟩; refine VD.co (.nilO m2) ?_; refine VD.co (.faO (k := 2) m2) ?_; refine VD.perm swap2 ?_; refine VD.one m1 fun ho => ?_; refine VD.mk0 (MakeV.setF (k := 2) vt34 (.raw rfl (agg_one ho) ho) (Nat.le_of_ble_eq_true rfl) (.inl rfl) rfl rfl) ?_; rintro _ _ tl2 ⟨rfl, rfl⟩; refine VD.go (VC.seq (VC.text ?_)); refine VO.c (.move rfl) (VO.c (.nilO m2) (VO.c (.faO (k := 1) m2) ?_)); refine VO.r (.ldF (k := 1) m2 vt4) ?_; cases hq : s1.2
  · skip
    refine VO.c (.not) (VO.c (.move rfl) (VO.c (.move rfl) ?_)); by_cases hA : kd = allW
    · skip
      refine VO.c (.seqT hA) (VO.c (.move rfl) (VO.skip (VO.skip ?_))); refine VO.c (.pickT rfl rfl) (VO.c (.pickT rfl rfl) (VO.c (.assign rfl) (VO.go ?_))); refine VC.ret ?_; exact ⟨rfl, [(w5, .var [.v (.sl .str) s1.1, B false])], cseS wc a0 a1 wn (c.1, c.2.1, c.2.2 ++ [(nm, decide (kd = anyW), o)]), [B true], (swap2.trans (List.Perm.cons _ (List.Perm.cons _ swap2.symm))), .cons evT .nil, rdq (by rw [hrd]; congr 1; simp [hq, hA]), rows_keep3⟩
    by_cases hB : kd = anyW
    · skip
      refine VO.c (.seqF hA) (VO.c (.move rfl) (VO.c (.move rfl) (VO.c (.seqT hB) ?_))); refine VO.c (.pickF rfl rfl) (VO.c (.pickT rfl rfl) (VO.c (.assign rfl) (VO.go ?_))); refine VC.ret ?_; exact ⟨rfl, [(w5, .var [.v (.sl .str) s1.1, B false])], cseS wc a0 a1 wn (c.1, c.2.1, c.2.2 ++ [(nm, decide (kd = anyW), o)]), [B true], (swap2.trans (List.Perm.cons _ (List.Perm.cons _ swap2.symm))), .cons evT .nil, rdq (by rw [hrd]; congr 1; simp [hq, hB]), rows_keep3⟩
    skip
    refine VO.c (.seqF hA) (VO.c (.move rfl) (VO.c (.move rfl) (VO.c (.seqF hB) ?_))); refine VO.c (.pickF rfl rfl) (VO.c (.pickT rfl rfl) (VO.c (.assign rfl) (VO.go ?_))); refine VC.ret ?_; exact ⟨rfl, [(w5, .var [.v (.sl .str) s1.1, B false])], cseS wc a0 a1 wn (c.1, c.2.1, c.2.2 ++ [(nm, decide (kd = anyW), o)]), [B false], (swap2.trans (List.Perm.cons _ (List.Perm.cons _ swap2.symm))), .cons evT .nil, rdq (by rw [hrd]; congr 1; simp [hq, hA, hB]), rows_keep3⟩
  skip
  refine VO.c (.not) (VO.c (.move rfl) (VO.skip (VO.skip ?_))); refine VO.skip (VO.skip (VO.skip (VO.skip ?_))); refine VO.c (.pickF rfl rfl) (VO.c (.assign rfl) (VO.go ?_)); refine VC.ret ?_; exact ⟨rfl, [(w5, .var [.v (.sl .str) s1.1, B true])], cseS wc a0 a1 wn (c.1, c.2.1, c.2.2 ++ [(nm, decide (kd = anyW), o)]), [B false], (swap2.trans (List.Perm.cons _ (List.Perm.cons _ swap2.symm))), .cons evT .nil, rdq (by rw [hrd]; congr 1; simp [hq]), rows_keep3⟩
theorem sRead_n {wc a0 a1 a2 : Value} {c : Cse} {W : List ByteArray} (h0 : 0 < W.length) (hW : W.length < 100000) (hz : ∀ x ∈ W, x.size < 100000) (h1 : c.1.length < 100000) (h2 : c.2.1.length < 100000) (h3 : c.2.2.length < 100000) (hw : (wrdA W 0 ≠ vWd ∧ wrdA W 0 ≠ eWd) ∧ wrdA W 0 ≠ cWd) :
    VFG Tryz.prog OA 50 [.raw wc, .v (.sl .str) W] (cseS wc a0 a1 a2 c) (RdQ wc c W) := by
  refine VFG.enterKC Tryz.func50 rfl (fun _ _ => rfl) rfl ?_; show VC _ _ _ _ _ [(0, .raw wc), (1, .v (.sl .str) W)] (cseS wc a0 a1 a2 c) _; have hz1 : ∀ x ∈ W.drop 1, x.size < 100000 := fun x hx => hz x (List.mem_of_mem_drop hx); have hl1 : (W.drop 1).length = W.length - 1 := List.length_drop; have hw0 : wrdA W 0 = W[0] := wrd_at h0; rw [hw0] at hw; refine VC.seq (VC.text ?_); refine VO.c (.assign rfl) ?_; refine VO.go (VC.seq (VC.text ?_)); refine VO.c (.move rfl) ?_; refine VO.r (.cutL rfl rfl el48 (by omega)) ?_; refine VO.c (.build (W.drop 1, false) bt156) ?_; refine VO.cell (.box .v) ?_; intro w5; show VO _ _ _ _ _ _ ((w5, .var [.v (.sl .str) (W.drop 1), B false]) :: cseS wc a0 a1 a2 c) _; refine VO.c (.assign rfl) ?_; refine VO.go (VC.seq (VC.text ?_)); refine VO.c (.move rfl) (VO.c (.func) (VO.c (.assign rfl) ?_)); refine VO.go (VC.seq (VC.seq (VC.text ?_))); refine VO.c (.move rfl) (VO.c (.ix (j := 0) rfl rfl el48 h0) ?_); refine VO.r (.ld vt9) ?_; refine VO.go (VC.block (VC.seq (VC.text ?_))); refine VO.c (.seqF hw.1.1) (VO.c (.assign rfl) (VO.go ?_)); refine VC.condF rfl ?_; refine VC.seq (VC.text ?_); refine VO.c (.seqF hw.1.2) (VO.c (.assign rfl) (VO.go ?_)); refine VC.condF rfl ?_; refine VC.seq (VC.text ?_); refine VO.c (.seqF hw.2) (VO.c (.assign rfl) (VO.go ?_)); refine VC.condF rfl ?_; have hrd := read_n (c := c) (by rw [hw0]; exact hw.1.1) (by rw [hw0]; exact hw.1.2) (by rw [hw0]; exact hw.2); refine VC.skip (VC.seq (VC.text ?_)); refine VO.c (.assign rfl) (VO.go ?_); refine VC.ret ?_; exact ⟨rfl, [(w5, .var [.v (.sl .str) (W.drop 1), B false])], cseS wc a0 a1 a2 c, [B false], .refl _, .cons evT .nil, rdq (by rw [hrd]; rfl), rows_keep3⟩
theorem sRead_ok {wc a0 a1 a2 : Value} {c : Cse} {W : List ByteArray} (h0 : 0 < W.length) (hW : W.length < 100000) (hz : ∀ x ∈ W, x.size < 100000) (h1 : c.1.length < 100000) (h2 : c.2.1.length < 100000) (h3 : c.2.2.length < 100000) :
    VFG Tryz.prog OA 50 [.raw wc, .v (.sl .str) W] (cseS wc a0 a1 a2 c) (RdQ wc c W) := by
  by_cases hv : wrdA W 0 = vWd
  · exact sRead_v h0 hW hz h1 h2 h3 hv
  by_cases he : wrdA W 0 = eWd
  · exact sRead_e h0 hW hz h1 h2 h3 he
  by_cases hc : wrdA W 0 = cWd
  · exact sRead_c h0 hW hz h1 h2 h3 hc
  exact sRead_n h0 hW hz h1 h2 h3 ⟨⟨hv, he⟩, hc⟩
end Go.Proofs
namespace Go.Proofs
open Go.Fs
set_option maxHeartbeats 1000000
theorem name_free {s : ByteArray} (h : nameB s = true) : freB s ∧ s ≠ ByteArray.empty ∧ s.size ≤ 24 := by
  obtain ⟨h1, h2, h3⟩ := of_decide_eq_true h; have hl := toL_len s; refine ⟨fun c hc => ?_, size_empty.2 h1, h2⟩; obtain ⟨i, hi, rfl⟩ := List.mem_iff_getElem.1 hc; have h4 := h3 i (by omega); rw [byteE_at hi] at h4; unfold byteB letterB otherB at h4; constructor
  · intro e; rw [e] at h4
    revert h4
    cases decide (i ≠ 0) <;> decide
  intro e; rw [e] at h4
  revert h4
  cases decide (i ≠ 0) <;> decide
structure FinW (w : ByteArray) : Prop where
  fre : freB w
  ne : w ≠ ByteArray.empty
  sz : w.size ≤ 24
theorem fin_name {s : ByteArray} (h : nameB s = true) : FinW s := ⟨(name_free h).1, (name_free h).2.1, (name_free h).2.2⟩
theorem firstR_all {f : Nat → Int} {n : Nat} (h : firstR f 0 n = 0) : ∀ i, i < n → f i = 0 := fun i hi => by
  unfold firstR at h; exact firstE_all.1 h _ (List.mem_map_of_mem (List.mem_range'_1.2 ⟨Nat.zero_le _, by omega⟩))
theorem whenN {b : Bool} {e : Int} (he : e ≠ 0) (h : whenE (!b) e = 0) : b = true := by
  cases b with
  | true => rfl
  | false => exact absurd h he
theorem rangeZ {n lo hi : Int} (h : rangeE n lo hi = 0) : lo ≤ n ∧ n ≤ hi := by
  unfold rangeE at h; by_cases hc : n < lo ∨ hi < n
  · rw [if_pos hc] at h; cases h
  omega
structure CseV (c : Cse) : Prop where
  n1 : c.1.length ≤ 64
  n2 : c.2.1.length ≤ 64
  n3 : c.2.2.length ≤ 64
  v : ∀ v ∈ c.1, FinW v.1 ∧ 0 ≤ v.2 ∧ v.2 ≤ 999
  e : ∀ x ∈ c.2.1, FinW x.1 ∧ x.2.length ≤ 16 ∧ ∀ v ∈ x.2, FinW v.1 ∧ 0 ≤ v.2 ∧ v.2 ≤ 999
  l : ∀ x ∈ c.2.2, FinW x.1 ∧ x.2.2.length ≤ 16 ∧ ∀ u ∈ x.2.2, FinW u
theorem thing_in {l : List Vers} {s : ByteArray} (h : 0 ≤ thingE l s) : ∃ v ∈ l, v.1 = s := by
  obtain ⟨x, hx, hf⟩ := idxG_none.1 h; exact ⟨x, hx, of_decide_eq_true hf⟩
theorem case_V {c : Cse} (h : caseE c = 0) : CseV c := by
  unfold caseE at h; by_cases h1 : versE c.1 ≠ 0
  · rw [if_pos h1] at h; exact absurd h h1
  rw [if_neg h1] at h; by_cases h2 : 64 < (c.2.1.length : Int)
  · rw [if_pos h2] at h; cases h
  rw [if_neg h2] at h; by_cases h3 : firstR (evAt c) 0 c.2.1.length ≠ 0
  · rw [if_pos h3] at h; exact absurd h h3
  rw [if_neg h3] at h; by_cases h4 : 64 < (c.2.2.length : Int)
  · rw [if_pos h4] at h; cases h
  rw [if_neg h4] at h; have h1 := Classical.not_not.1 h1; have h3 := firstR_all (Classical.not_not.1 h3); have h := firstR_all h; unfold versE at h1; by_cases h5 : 64 < (c.1.length : Int)
  · rw [if_pos h5] at h1; cases h1
  rw [if_neg h5] at h1; have h1 := firstR_all h1
  have hv : ∀ v ∈ c.1, FinW v.1 ∧ 0 ≤ v.2 ∧ v.2 ≤ 999 := fun v hv => by
    obtain ⟨i, hi, rfl⟩ := List.mem_iff_getElem.1 hv; have h6 := firstE_all.1 (h1 i hi); have h7 := whenN (by decide) (h6 (whenE (!nameB (vAt c.1 i).1) 8) (by simp)); have h8 := rangeZ (h6 (rangeE (vAt c.1 i).2 0 999) (by simp)); rw [vAt_eq hi] at h7 h8; exact ⟨fin_name h7, h8⟩
  have he : ∀ x ∈ c.2.1, FinW x.1 ∧ x.2.length ≤ 16 ∧ ∀ v ∈ x.2, FinW v.1 ∧ 0 ≤ v.2 ∧ v.2 ≤ 999 := fun x hx => by
    obtain ⟨i, hi, rfl⟩ := List.mem_iff_getElem.1 hx; have h6 := firstE_all.1 (h3 i hi); have h7 := whenN (by decide) (h6 (whenE (!nameB (eAt c i).1) 8) (by simp)); have h8 := h6 (withE (knowsV c) (eAt c i).2) (by simp); rw [eAt_eq hi] at h7 h8; unfold withE at h8; by_cases h9 : 16 < (c.2.1[i].2.length : Int)
    · rw [if_pos h9] at h8; cases h8
    rw [if_neg h9] at h8; have h8 := firstR_all h8; refine ⟨fin_name h7, by omega, fun v hv' => ?_⟩; obtain ⟨k, hk, rfl⟩ := List.mem_iff_getElem.1 hv'; have h10 := firstE_all.1 (h8 k hk); have h11 := whenN (by decide) (h10 (whenE (!knowsV c (vAt c.2.1[i].2 k).1) 10) (by simp)); have h12 := rangeZ (h10 (rangeE (vAt c.2.1[i].2 k).2 0 999) (by simp)); rw [vAt_eq hk] at h11 h12; obtain ⟨z, hz, hze⟩ := thing_in (of_decide_eq_true h11); exact ⟨hze ▸ (hv z hz).1, h12⟩
  have hcn : ∀ x ∈ c.2.2, FinW x.1 := fun x hx => by
    obtain ⟨i, hi, rfl⟩ := List.mem_iff_getElem.1 hx; have h6 := firstE_all.1 (h i hi); have h7 := whenN (by decide) (h6 (whenE (!nameB (cAt c i).1) 8) (by simp)); rw [cAt_eq hi] at h7; exact fin_name h7
  refine ⟨by omega, by omega, by omega, hv, he, fun x hx => ⟨hcn x hx, ?_⟩⟩; obtain ⟨i, hi, rfl⟩ := List.mem_iff_getElem.1 hx; have h6 := firstE_all.1 (h i hi); have h8 := h6 (usesE (knownC c i) (cAt c i).2.2) (by simp); rw [cAt_eq hi] at h8; unfold usesE at h8; by_cases h9 : firstE [whenE (decide ((c.2.2[i].2.2.length : Int) = 0)) 12, whenE (decide (16 < (c.2.2[i].2.2.length : Int))) 5] = 0
  · rw [if_pos h9] at h8; have h10 := firstE_all.1 h9 (whenE (decide (16 < (c.2.2[i].2.2.length : Int))) 5) (by simp)
    have h11 : c.2.2[i].2.2.length ≤ 16 := by
      by_cases h12 : 16 < (c.2.2[i].2.2.length : Int)
      · rw [decide_eq_true h12] at h10; cases h10
      omega
    have h8 := firstR_all h8; refine ⟨h11, fun u hu => ?_⟩; obtain ⟨k, hk, rfl⟩ := List.mem_iff_getElem.1 hu; have h13 := firstE_all.1 (h8 k hk); have h14 := whenN (by decide) (h13 (whenE (!knownC c i (c.2.2[i].2.2.getD k ByteArray.empty)) 10) (by simp)); rw [show c.2.2[i].2.2.getD k ByteArray.empty = c.2.2[i].2.2[k] by simp [hk]] at h14; unfold knownC at h14; rw [Bool.or_eq_true, decide_eq_true_eq, decide_eq_true_eq] at h14; rcases h14 with h14 | h14
    · obtain ⟨z, hz, hf⟩ := idxG_none.1 h14; exact of_decide_eq_true hf ▸ (he z hz).1
    obtain ⟨z, hz, hf⟩ := idxG_none.1 h14; exact of_decide_eq_true hf ▸ hcn z (List.mem_of_mem_take hz)
  rw [if_neg h9] at h8; exact absurd h8 h9
def vLin (v : Vers) : List ByteArray := [vWd, v.1, decS v.2]
def parL : List Vers → List ByteArray
  | [] => []
  | v :: r => v.1 :: decS v.2 :: parL r
def eLin (x : Evid) : List ByteArray := [eWd, x.1] ++ parL x.2
def kWd (b : Bool) : ByteArray := if b = true then anyW else allW
def cLin (x : Clm) : List ByteArray := [cWd, x.1, kWd x.2.1] ++ x.2.2
def linsC (c : Cse) : List ByteArray := c.1.map (fun v => joinS 32 (vLin v)) ++ (c.2.1.map (fun x => joinS 32 (eLin x)) ++ c.2.2.map (fun x => joinS 32 (cLin x)))
def txtC (c : Cse) : ByteArray := txtG (linsC c)
def prtE (c : Cse) : Int := if caseE c ≠ 0 then caseE c else if 4096 < (txtC c).size then 27 else 0
def prtR (c : Cse) : ByteArray := if prtE c = 0 then txtC c else ByteArray.empty
theorem parL_app : ∀ {a b : List Vers}, parL (a ++ b) = parL a ++ parL b
  | [], _ => rfl
  | v :: r, b => by
    show v.1 :: decS v.2 :: parL (r ++ b) = v.1 :: decS v.2 :: (parL r ++ parL b); rw [parL_app]
theorem parL_len : ∀ {a : List Vers}, (parL a).length = 2 * a.length
  | [] => rfl
  | v :: r => by
    show (v.1 :: decS v.2 :: parL r).length = _; rw [List.length_cons, List.length_cons, parL_len, List.length_cons]; omega
theorem joi_size {m : Nat} : ∀ {l : List (List UInt8)}, (∀ w ∈ l, w.length ≤ m) → (joiL 32 l).length ≤ (m + 1) * l.length
  | [], _ => Nat.zero_le _
  | w :: r, h => by
    have h1 := h w List.mem_cons_self
    have h2 : (r.flatMap fun v => (32 : UInt8) :: v).length ≤ (m + 1) * r.length := by
      have h3 := fun v hv => h v (List.mem_cons_of_mem _ hv); clear h h1
      induction r with
      | nil => exact Nat.zero_le _
      | cons a q ih =>
        have h4 := h3 a List.mem_cons_self; have h5 := ih fun v hv => h3 v (List.mem_cons_of_mem _ hv); rw [List.flatMap_cons, List.length_append, List.length_cons, List.length_cons, Nat.mul_add, Nat.mul_one]; omega
    rw [joi_flat, List.length_append, List.length_cons, Nat.mul_add, Nat.mul_one]; omega
theorem joinS_len {ws : List ByteArray} : (joinS 32 ws).size = (joiL 32 (ws.map toL)).length := by
  rw [← toL_len] <;> rfl
theorem joinS_size {ws : List ByteArray} {m : Nat} (h : ∀ w ∈ ws, w.size ≤ m) : (joinS 32 ws).size ≤ (m + 1) * ws.length := by
  rw [joinS_len]
  have := joi_size (l := ws.map toL) (m := m) fun w hw => by
    obtain ⟨v, hv, rfl⟩ := List.mem_map.1 hw; rw [toL_len]; exact h v hv
  rwa [List.length_map] at this
theorem dec_fin {n : Int} (h : 0 ≤ n ∧ n ≤ 999) : freB (decS n) ∧ decS n ≠ ByteArray.empty ∧ (decS n).size ≤ 24 := by
  have hr : 0 ≤ n ∧ n < 1000000000000000000 := ⟨h.1, by omega⟩; refine ⟨dec_free hr, fun e => ?_, Nat.le_trans (decS_size hr) (by decide)⟩; have hk := (numL_dec (n := n) ⟨h.1, by omega⟩).1; rw [e, numK_empty] at hk; cases hk
theorem parL_fin {l : List Vers} (h : ∀ v ∈ l, FinW v.1 ∧ 0 ≤ v.2 ∧ v.2 ≤ 999) : ∀ w ∈ parL l, FinW w := by
  induction l with
  | nil => intro w hw; cases hw
  | cons v r ih =>
    intro w hw; have hv := h v List.mem_cons_self; have hd := dec_fin hv.2; rcases List.mem_cons.1 hw with rfl | hw
    · exact hv.1
    rcases List.mem_cons.1 hw with rfl | hw
    · exact ⟨hd.1, hd.2.1, hd.2.2⟩
    exact ih (fun x hx => h x (List.mem_cons_of_mem _ hx)) w hw
theorem fin_wd : FinW vWd ∧ FinW eWd ∧ FinW cWd ∧ FinW allW ∧ FinW anyW := by
  have h : ∀ l : List UInt8, (l.all fun c => decide (c ≠ 32 ∧ c ≠ 10)) = true → freB (ofL l) := fun l hl c hc => of_decide_eq_true (List.all_eq_true.1 hl c hc); refine ⟨⟨h [118, 101, 114, 115, 105, 111, 110] (by decide), by decide, by decide⟩, ⟨h [101, 118, 105, 100, 101, 110, 99, 101] (by decide), by decide, by decide⟩, ⟨h [99, 108, 97, 105, 109] (by decide), by decide, by decide⟩, ⟨h [97, 108, 108] (by decide), by decide, by decide⟩, ⟨h [97, 110, 121] (by decide), by decide, by decide⟩⟩
theorem vLin_fin {v : Vers} (h : FinW v.1 ∧ 0 ≤ v.2 ∧ v.2 ≤ 999) : ∀ w ∈ vLin v, FinW w := fun w hw => by
  have hd := dec_fin h.2; rcases List.mem_cons.1 hw with rfl | hw
  · exact fin_wd.1
  rcases List.mem_cons.1 hw with rfl | hw
  · exact h.1
  rw [List.mem_singleton.1 hw]; exact ⟨hd.1, hd.2.1, hd.2.2⟩
theorem eLin_fin {x : Evid} (h : FinW x.1 ∧ x.2.length ≤ 16 ∧ ∀ v ∈ x.2, FinW v.1 ∧ 0 ≤ v.2 ∧ v.2 ≤ 999) : ∀ w ∈ eLin x, FinW w := fun w hw => by
  rcases List.mem_cons.1 hw with rfl | hw
  · exact fin_wd.2.1
  rcases List.mem_cons.1 hw with rfl | hw
  · exact h.1
  exact parL_fin h.2.2 w hw
theorem cLin_fin {x : Clm} (h : FinW x.1 ∧ x.2.2.length ≤ 16 ∧ ∀ u ∈ x.2.2, FinW u) : ∀ w ∈ cLin x, FinW w := fun w hw => by
  rcases List.mem_cons.1 hw with rfl | hw
  · exact fin_wd.2.2.1
  rcases List.mem_cons.1 hw with rfl | hw
  · exact h.1
  rcases List.mem_cons.1 hw with rfl | hw
  · unfold kWd; split
    · exact fin_wd.2.2.2.2
    exact fin_wd.2.2.2.1
  exact h.2.2 w hw
theorem eLin_len {x : Evid} : (eLin x).length = 2 + 2 * x.2.length := by
  unfold eLin; rw [List.length_append, parL_len] <;> rfl
theorem vL_size {v : Vers} (h : FinW v.1 ∧ 0 ≤ v.2 ∧ v.2 ≤ 999) : (joinS 32 (vLin v)).size ≤ 900 := by
  have := joinS_size (ws := vLin v) (m := 24) fun w hw => (vLin_fin h w hw).sz; have e : (vLin v).length = 3 := rfl; omega
theorem eL_size {x : Evid} (h : FinW x.1 ∧ x.2.length ≤ 16 ∧ ∀ v ∈ x.2, FinW v.1 ∧ 0 ≤ v.2 ∧ v.2 ≤ 999) : (joinS 32 (eLin x)).size ≤ 900 := by
  have := joinS_size (ws := eLin x) (m := 24) fun w hw => (eLin_fin h w hw).sz; have e := eLin_len (x := x); have := h.2.1; omega
theorem cL_size {x : Clm} (h : FinW x.1 ∧ x.2.2.length ≤ 16 ∧ ∀ u ∈ x.2.2, FinW u) : (joinS 32 (cLin x)).size ≤ 900 := by
  have := joinS_size (ws := cLin x) (m := 24) fun w hw => (cLin_fin h w hw).sz
  have e : (cLin x).length = 3 + x.2.2.length := by simp [cLin]; omega
  have := h.2.1; omega
theorem lins_size {c : Cse} (h : CseV c) : ∀ x ∈ linsC c, x.size ≤ 900 := fun x hx => by
  unfold linsC at hx; rcases List.mem_append.1 hx with hx | hx
  · obtain ⟨v, hv, rfl⟩ := List.mem_map.1 hx; exact vL_size (h.v v hv)
  rcases List.mem_append.1 hx with hx | hx
  · obtain ⟨v, hv, rfl⟩ := List.mem_map.1 hx; exact eL_size (h.e v hv)
  obtain ⟨v, hv, rfl⟩ := List.mem_map.1 hx; exact cL_size (h.l v hv)
theorem lins_len {c : Cse} : (linsC c).length = c.1.length + (c.2.1.length + c.2.2.length) := by
  unfold linsC; rw [List.length_append, List.length_append, List.length_map, List.length_map, List.length_map]
theorem pre_size {c : Cse} (h : CseV c) {k : Nat} : (txtG ((linsC c).take k)).size ≤ 180000 := by
  have h1 := txtG_size_le (l := (linsC c).take k) (m := 900) fun x hx => lins_size h x (List.mem_of_mem_take hx); have h2 := lins_len (c := c); have h3 := h.n1; have h4 := h.n2; have h5 := h.n3; rw [List.length_take] at h1; have h6 : 901 * min k (linsC c).length ≤ 901 * 192 := Nat.mul_le_mul_left _ (by omega); omega
end Go.Proofs
namespace Go.Fs
variable {P : Program} {orc : FuncId → List Value → Heap → Option (Value × Heap)} {rnd : Option Nat} {h h' h0 h1 h2 hs : Heap} {S S' S0 B G : List Nat} {σ σ' σr γ : Sto} {t t' : Tr} {ms : List Nat} {fl : VL} {ops : Array Oper} {n i mem : Nat} {l : List Oper} {K : VL → Sto → Prop} {Q : Ex → VL → Sto → Prop}
  {d : Tmp} {ty : TypeId} {pos : String} {after : Array Edge} {op : Op} {v : PV} {g : Option (Nat × Bool)} {bs nw : List Nat} {segs : List (Nat × Nat × Nat)} {tail so : Bool}
theorem drew_make {b : Nat} {o : Oper} {t2 : Tr} (hb : beforeOf bs o = b) (hok : HOk h) (hB : Aft (entry h) h' B) : ∃ h2 tail', drewOn o i ⟨t, h, bs, segs, mem, tail⟩ t2 h' = ⟨t2, h2, bs ++ [b], (i, h.next, h'.next) :: segs, mem ||| 2 ^ i, tail'⟩ ∧ (∀ b, h2.get b = h'.get b) ∧ h2.next = h'.next ∧ Aft h h2 B ∧ (tail' = false → After h h2 ∧ tail = false) := by
  have hnx := hB.next; unfold drewOn; simp only [hb]
  cases hlow : Nat.ble h.next h'.low with
  | true =>
    have hl := nble hlow
    have hsame : ∀ b, b < h.next → h'.get b = h.get b := fun b hb => by
      rcases hB.chg b hb with h3 | h3
      · exact h3
      omega
    have hget : ∀ b, look (newer h.next h'.next h'.objs ++ h.objs) b = h'.get b := fun b => by
      rw [look_append]; by_cases hb : b < h.next
      · cases hl2 : look (newer h.next h'.next h'.objs) b with
        | some o => have := (newer_some _ _ _ hl2).1; omega
        | none => exact (hsame b hb).symm
      have hold : look h.objs b = none := by
        cases hl2 : look h.objs b with
        | none => rfl
        | some o => exact absurd (hok b o hl2) hb
      rw [hold, Option.or_none]
      cases hl2 : look h'.objs b with
      | some o =>
        have : b < h'.next := hB.ok hok b o hl2; rw [newer_in _ _ (by omega) this, hl2]
        exact hl2.symm
      | none =>
        cases hl3 : look (newer h.next h'.next h'.objs) b with
        | none => exact hl2.symm
        | some o => rw [(newer_some _ _ _ hl3).2] at hl2; cases hl2
    refine ⟨_, _, rfl, hget, rfl, ⟨hnx, fun b hb hn => (hget b).trans (hB.get b hb hn), fun _ b o hg => ?_, fun e h3 _ _ => h3, fun b hb => .inl ((hget b).trans (hsame b hb)), Nat.le_refl _⟩, fun ht => ⟨⟨hnx, fun b hb => (hget b).trans (hsame b hb), fun _ b o hg => ?_, fun e h3 _ => h3⟩, ht⟩⟩
    · exact hB.ok hok b o ((hget b).symm.trans hg)
    exact hB.ok hok b o ((hget b).symm.trans hg)
  | false =>
    refine ⟨_, _, rfl, fun _ => rfl, rfl, ⟨hnx, hB.get, fun _ => hB.ok hok, fun e h3 h4 h5 => Nat.le_min.2 ⟨h3, hB.low e h4 h4 h5⟩, fun b hb => ?_, Nat.min_le_left _ _⟩, fun e => by cases e⟩; rcases hB.chg b hb with h3 | h3
    · exact .inl h3
    exact .inr (Nat.le_trans (Nat.min_le_right _ _) h3)
theorem VD.callK {b : Nat} {f : Operand} {args : Array Operand} {ats : Array TypeId} {F : PV} {asl : List PV} {Qr : PV → Sto → Prop} (γ : Sto) (hσ : γ ++ σ = σr) (hf : evV fl f = some F) (ha : evVs fl args.toList = some asl) (hc : VCallG P orc F asl γ Qr) (hk : ∀ r γ' tail', Qr r γ' → VD P orc ops n l (i + 1) ((d, r) :: fl) (nwSet false d nw) (γ' ++ σ) false (bs ++ [b]) (mem ||| 2 ^ i) tail' K)
    (hb : beforeOf bs ⟨some d, .call { callee := .value f, args := args, argTypes := ats }, ty, pos, after, g⟩ = b := by rfl) (hord : Nat.beq (mem &&& b) mem = true := by rfl) (hw : wantV ops fl g = some true := by rfl) (hn : (Nat.blt d n && Nat.ble n 4000) = true := by rfl) :
    VD P orc ops n (⟨some d, .call { callee := .value f, args := args, argTypes := ats }, ty, pos, after, g⟩ :: l) i fl nw σr so bs mem tail K := fun h0 G S0 t h ms segs I ho => by
  subst hσ; obtain ⟨n1, n2⟩ := fits hn; obtain ⟨M, m1, m2, m3, m4, m5, m6, m7⟩ := seen_ok (mem := mem) I hb ho; obtain rfl := m6 hord; have L := I.lc.objs (h' := entry h) (fun _ => rfl) rfl; have hap := L.apart; rw [own_app] at hap; obtain ⟨hap1, hap2, hap3⟩ := List.nodup_append.1 hap; obtain ⟨fid, a, c, rfl, hv⟩ := hc; obtain ⟨va, vc, h1, h2, h3⟩ := (evV_ok L.slots hf : RepPV (entry h) _ (.clo fid a c) (evalO t f)); have hargs := (h2.append (evVs_ok L.slots ha)).append h3; rw [own_app, List.append_assoc] at hargs
  have hcells : ∀ c ∈ γ, CellR (entry h) (own γ ++ (own σ ++ S0)) c.1 c.2 := fun c hc => by
    have := L.cells c (List.mem_append_left _ hc)
    rwa [own_app, List.append_assoc] at this
  refine EvD.call (o := ⟨some d, .call { callee := .value f, args := args, argTypes := ats }, ty, pos, after, g⟩) (want_ok I.slots hw) rfl rfl h1 (by simp only [hb, hord]; simp) ?_; rw [m1]; refine (hv (entry h) (own σ ++ S0) _ m2 L.sokR hcells hap1 (fun b hb hm => ?_) hargs).mono fun u h' hq => ?_
  · rcases List.mem_append.1 hm with hm | hm
    · exact hap3 b hb b hm rfl
    exact L.sep b (by rw [own_app]; exact List.mem_append_left _ hb) hm
  obtain ⟨r, γ', q1, q2, q3⟩ := hq; have e2 := Made.app L q2; have hnx : h.next ≤ h'.next := e2.aft.next; refine ⟨blt_of_le hnx, by simp only [hb, hord, Bool.or_true], _, put_fits n1 t u, ?_⟩; obtain ⟨h2', tail', f1, f2, f3, f4, f5⟩ := drew_make (i := i) (segs := segs) (mem := mem) (tail := tail) (t := t) (t2 := t.set depth d u) (o := ⟨some d, .call { callee := .value f, args := args, argTypes := ats }, ty, pos, after, g⟩) hb I.ok e2.aft; rw [f1]
  have q3' : RepPV h2' (own (γ' ++ σ) ++ S0) r u := by
    rw [own_app, List.append_assoc]; exact q3.nx (Goes.objs f2)
  refine hk r γ' tail' q1 h0 G S0 _ _ ms _ ((I.made (made_objs e2 f2 f4)).set q3' n2) fun ht => ?_; obtain ⟨f6, f7⟩ := f5 ht
  obtain ⟨hs', a1, a2, a3, a4, a5, a6⟩ := (ho f7).set (v := r) (u := u) (old := false) n2 fun e => by cases e
  refine ⟨hs', a1, a2.trans f6, SegsOk.cons a2.next a3, a4, fun k pv hk hn => (a5 k pv hk hn).nx (h := hs') fun b ob hg hb => ⟨hg, ?_⟩, fun e => by cases e⟩; have h3 := a1 b ob hg; have h4 := a2.next; intro hmm; rcases List.mem_append.1 hmm with hmm | hmm
  · rcases e2.new b hmm with h5 | h5
    · exact hb (List.mem_append_left _ h5)
    have : (entry h).next = h.next := rfl; omega
  exact hb (List.mem_append_right _ hmm)
end Go.Fs
namespace Go.Proofs
open Go.Fs
set_option maxHeartbeats 4000000
theorem linsC_v {c : Cse} {i : Nat} (h : i < c.1.length) : (linsC c).take (i + 1) = (linsC c).take i ++ [joinS 32 (vLin c.1[i])] := by
  have e : (linsC c)[i]? = some (joinS 32 (vLin c.1[i])) := by
    unfold linsC; rw [List.getElem?_append_left (by rw [List.length_map]; exact h), List.getElem?_map, List.getElem?_eq_getElem h] <;> rfl
  rw [List.take_succ, e] <;> rfl
theorem linsC_e {c : Cse} {j : Nat} (h : j < c.2.1.length) : (linsC c).take (c.1.length + j + 1) = (linsC c).take (c.1.length + j) ++ [joinS 32 (eLin c.2.1[j])] := by
  have e : (linsC c)[c.1.length + j]? = some (joinS 32 (eLin c.2.1[j])) := by
    unfold linsC; rw [List.getElem?_append_right (by rw [List.length_map]; omega), List.length_map, Nat.add_sub_cancel_left, List.getElem?_append_left (by rw [List.length_map]; exact h), List.getElem?_map, List.getElem?_eq_getElem h] <;> rfl
  rw [List.take_succ, e] <;> rfl
theorem linsC_c {c : Cse} {m : Nat} (h : m < c.2.2.length) : (linsC c).take (c.1.length + c.2.1.length + m + 1) = (linsC c).take (c.1.length + c.2.1.length + m) ++ [joinS 32 (cLin c.2.2[m])] := by
  have e : (linsC c)[c.1.length + c.2.1.length + m]? = some (joinS 32 (cLin c.2.2[m])) := by
    unfold linsC; rw [List.getElem?_append_right (by rw [List.length_map]; omega), List.length_map, Nat.add_assoc, Nat.add_sub_cancel_left, List.getElem?_append_right (by rw [List.length_map]; omega), List.length_map, Nat.add_sub_cancel_left, List.getElem?_map, List.getElem?_eq_getElem h] <;> rfl
  rw [List.take_succ, e] <;> rfl
theorem txtG_snoc {l : List ByteArray} {x : ByteArray} : txtG (l ++ [x]) = txtG l ++ (x ++ nlS) := by rw [txtG_app, txtG_one]
theorem sLine_ok {b : Nat} {a u : Value} {acc : ByteArray} {ws : List ByteArray} (h0 : 0 < ws.length) (h1 : ws.length ≤ 1000) (hs : acc.size + ((joinS 32 ws).size + 1) ≤ 1000000) (ha : a = .pointer none ∨ a = bP b) (hu : acc.size = 0 → u = .slice none 0 0) :
    VFG Tryz.prog OA 41 [.v (.sl .str) ws, .raw (bP b)] [(bW b, .cel 91 0 [.raw a, .raw u]), (u, .row 5 (.int .u8) (bytesI acc))] (fun r g => ∃ u', r = .tup [] ∧ g = [(bW b, .cel 91 0 [.raw (bP b), .raw u']), (u', .row 5 (.int .u8) (bytesI (acc ++ (joinS 32 ws ++ nlS))))] ∧ ((acc ++ (joinS 32 ws ++ nlS)).size = 0 → u' = .slice none 0 0)) := by
  refine VFG.enterK Tryz.func41 rfl (fun _ _ => rfl) rfl ?_; show VC _ _ _ _ _ [(0, .v (.sl .str) ws), (1, .raw (bP b))] [(bW b, .cel 91 0 [.raw a, .raw u]), (u, .row 5 (.int .u8) (bytesI acc))] _; have hj := joinS_len (ws := ws); have z1 : nlS.size = 1 := rfl; refine VC.text ?_; refine VO.c (.move rfl) ?_; refine VO.call rfl rfl (VF.call (zJoin_ok (p := ⟨#[32]⟩) rfl h0 (by omega) (by rw [show sepB ⟨#[32]⟩ = 32 from rfl]; omega))) ?_; refine VO.c (.sadd (p := joinS 32 ws) (q := nlS) (by omega)) ?_; refine VO.callG [(bW b, .cel 91 0 [.raw a, .raw u]), (u, .row 5 (.int .u8) (bytesI acc))] rfl rfl rfl (VFG.call (zWrite_ok (s := joinS 32 ws ++ nlS) (by rw [ByteArray.size_append]; omega) ha hu)) ?_; rintro _ _ ⟨u', rfl, rfl, hu'⟩; refine VO.nil ?_; exact ⟨rfl, [], .nil, ⟨u', rfl, rfl, hu'⟩, bld_keep⟩
theorem zLen_ok {b : Nat} {a u : Value} {acc : ByteArray} : VFG Tryz.prog OA 45 [.raw (bP b)] [(bW b, .cel 91 0 [.raw a, .raw u]), (u, .row 5 (.int .u8) (bytesI acc))] (fun r g => r = I ((acc.size : Nat) : Int) ∧ g = [(bW b, .cel 91 0 [.raw a, .raw u]), (u, .row 5 (.int .u8) (bytesI acc))]) := by
  refine VFG.enterK Tryz.func45 rfl (fun _ _ => rfl) rfl ?_; show VC _ _ _ _ _ [(0, .raw (bP b))] [(bW b, .cel 91 0 [.raw a, .raw u]), (u, .row 5 (.int .u8) (bytesI acc))] _; refine VC.seq (VC.text ?_); refine VO.c (.assign rfl) ?_; refine VO.go (VC.seq (VC.text ?_)); refine VO.c (.move rfl) (VO.c (.nilP) (VO.c (.faB (k := 1) m0) ?_)); refine VO.r (.ldB m0 vt89) ?_; refine VO.r (.lenO m1 el89) ?_; refine VO.c (.assign rfl) (VO.go ?_); refine VC.ret ?_; rw [← bytesI_len]; exact ⟨rfl, [I (((bytesI acc).length : Nat) : Int)], .cons evT .nil, ⟨rfl, rfl⟩, bld_keep⟩
theorem sPrint_ok {c : Cse} (hc : CseOk c) : VF Tryz.prog OA 7 [.v y36 c] (.tup [St (prtR c), I (prtE c)]) := by
  refine VF.enter Tryz.func7 rfl (fun _ _ => rfl) rfl ?_; show VC _ _ _ _ _ [(0, .v y36 c)] [] _; refine VC.seq (VC.text ?_); refine VO.new (.box) ?_; refine VO.c (.assign rfl) (VO.c (.assign rfl) ?_); refine VO.go (VC.seq (VC.seq (VC.text ?_))); refine VO.r (.ld vt36) ?_; refine VO.call rfl rfl (VF.call (sCase_ok hc)) ?_; refine VO.c (.assign rfl) ?_; refine VO.go (VC.seq (VC.text ?_)); refine VO.c (.move rfl) (VO.c (.neq) (VO.go ?_)); refine VC.condD rfl (fun c2 => ?_) (fun c2 => ?_)
  · refine VC.seq (VC.text ?_); refine VO.c (.move rfl) (VO.c (.assign rfl) (VO.c (.assign rfl) (VO.go ?_))); refine VC.ret ?_; have hpe : prtE c = caseE c := if_pos c2; rw [show prtR c = ByteArray.empty from if_neg (by rw [hpe]; exact c2), hpe]; exact ⟨rfl, [St ByteArray.empty, I (caseE c)], .cons evT (.cons evT .nil), rfl⟩
  have hz : caseE c = 0 := Classical.not_not.1 c2; have hV := case_V hz; have hn1 := hV.n1; have hn2 := hV.n2; have hn3 := hV.n3; refine VC.skip (VC.seq (VC.text ?_)); refine VO.mk (MakeV.allocB (by kernel_rfl)) ?_; rintro _ _ ⟨b, rfl, rfl⟩; refine VO.go (VC.seq (VC.text ?_)); refine VO.c (.func) (VO.c (.assign rfl) (VO.go ?_)); refine VC.cell0 5 (.int .u8) ?_; refine VC.perm swap1 ?_; refine VC.seq (VC.seq (VC.text ?_)); refine VO.c (.fa (.l .o)) ?_; refine VO.r (.ld vt32) ?_; refine VO.r (.len el32) ?_; refine VO.c (.move rfl) ?_; refine VO.go (VC.block ?_); refine VC.keep [(1, .p y36 c), (5, .raw (bP b)), (6, .clo 41 [] [.raw (bP b)]), (24, .v y32 c.1), (25, I ((c.1.length : Nat) : Int)), (26, I ((0 : Nat) : Int))] ⟨rfl, rfl, rfl, rfl, rfl, rfl, trivial⟩ ?_; refine VC.loop (I := fun kk ff ss => ∃ (i : Nat) (a u : Value), kk = c.1.length - i ∧ ff = [(1, .p y36 c), (5, .raw (bP b)), (6, .clo 41 [] [.raw (bP b)]), (24, .v y32 c.1), (25, I ((c.1.length : Nat) : Int)), (26, I ((i : Nat) : Int))] ∧ ss = [(bW b, .cel 91 0 [.raw a, .raw u]), (u, .row 5 (.int .u8) (bytesI (txtG ((linsC c).take (i)))))] ∧ i ≤ c.1.length ∧ (a = .pointer none ∨ a = bP b) ∧ ((txtG ((linsC c).take (i))).size = 0 → u = .slice none 0 0)) ?_ _ _ _ ⟨0, .pointer none, .slice none 0 0, rfl, rfl, rfl, Nat.zero_le _, .inl rfl, fun _ => rfl⟩; rintro kk ff ss ⟨i, a, u, hk0, rfl, rfl, hi0, ha0, hu0⟩; refine VC.seq (VC.text ?_); refine VO.c (.lss) ?_; refine VO.go (VC.seq ?_); refine VC.condD rfl (fun c7 => ?_) (fun c7 => ?_)
  · have hit : i < c.1.length := by omega
    have hv := hV.v _ (List.getElem_mem hit); have hsz := pre_size hV (k := i); have hvs := vL_size hv
    have hnx : txtG ((linsC c).take (i + 1)) = txtG ((linsC c).take i) ++ (joinS 32 (vLin c.1[i]) ++ nlS) := by rw [linsC_v hit, txtG_snoc]
    refine VC.skip (VC.seq (VC.block (VC.seq (VC.text ?_)))); refine VO.c (.ix (j := i) rfl rfl el32 hit) ?_; refine VO.r (.ld vt98) ?_; refine VO.cell (.alloc zt98) ?_; intro w8; refine VO.setV (cs' := [St (c.1[i]).1, I (c.1[i]).2]) vt98 .v ?_; refine VO.shut [(8, .p y98 c.1[i])] (.cons rfl (.var m0 .refl) .nil) ?_; refine VO.go (VC.drawn ?_); refine VD.c (.move rfl) (VD.c (.fa (.l .o)) ?_); refine VD.r [] (.ld vt9) (.inl rfl) ?_; refine VD.c (.fa (.r .o)) ?_; refine VD.r [] (.ld vt3) (.inl rfl) ?_; refine VD.call rfl rfl (VF.call (zItoa_ok (by omega))) ?_; refine VD.new (.lit (τ := .str) [vWd, (c.1[i]).1, decS (c.1[i]).2] el48) ?_; refine VD.callK (σ := []) [(bW b, .cel 91 0 [.raw a, .raw u]), (u, .row 5 (.int .u8) (bytesI (txtG ((linsC c).take (i)))))] rfl rfl rfl (VFG.clo (a := []) (args := [.v (.sl .str) (vLin c.1[i])]) (c := [.raw (bP b)]) (sLine_ok (ws := vLin c.1[i]) (show 0 < 3 by omega) (show 3 ≤ 1000 by omega) (by omega) ha0 hu0)) ?_; rintro _ _ tl ⟨u', rfl, rfl, hu'⟩; refine VD.nil ?_; refine VC.text ?_; refine VO.c (.add rfl rfl (by omega)) (VO.c (.move rfl) ?_); refine VO.nil ?_; exact ⟨_, [(1, .p y36 c), (5, .raw (bP b)), (6, .clo 41 [] [.raw (bP b)]), (24, .v y32 c.1), (25, I ((c.1.length : Nat) : Int)), (26, I (((i + 1) : Nat) : Int))], by omega, ⟨rfl, rfl, rfl, rfl, rfl, rfl, trivial⟩, (i + 1), bP b, u', rfl, rfl, by rw [hnx]; rfl, by omega, .inr rfl, by rw [hnx]; exact hu'⟩
  have hie : i = c.1.length := by omega
  subst hie; refine VC.exit (VC.seq (VC.seq (VC.text ?_))); refine VO.c (.fa (.r (.l .o))) ?_; refine VO.r (.ld vt33) ?_; refine VO.r (.len el33) ?_; refine VO.c (.move rfl) ?_; refine VO.go (VC.block ?_); refine VC.keep [(1, .p y36 c), (5, .raw (bP b)), (6, .clo 41 [] [.raw (bP b)]), (40, .v y33 c.2.1), (41, I ((c.2.1.length : Nat) : Int)), (42, I ((0 : Nat) : Int))] ⟨rfl, rfl, rfl, rfl, rfl, rfl, trivial⟩ ?_; refine VC.loop (I := fun kk ff ss => ∃ (j : Nat) (a u : Value), kk = c.2.1.length - j ∧ ff = [(1, .p y36 c), (5, .raw (bP b)), (6, .clo 41 [] [.raw (bP b)]), (40, .v y33 c.2.1), (41, I ((c.2.1.length : Nat) : Int)), (42, I ((j : Nat) : Int))] ∧ ss = [(bW b, .cel 91 0 [.raw a, .raw u]), (u, .row 5 (.int .u8) (bytesI (txtG ((linsC c).take (c.1.length + j)))))] ∧ j ≤ c.2.1.length ∧ (a = .pointer none ∨ a = bP b) ∧ ((txtG ((linsC c).take (c.1.length + j))).size = 0 → u = .slice none 0 0)) ?_ _ _ _ ⟨0, a, u, rfl, rfl, rfl, Nat.zero_le _, ha0, hu0⟩; rintro kk ff ss ⟨j, a, u, hk1, rfl, rfl, hi1, ha1, hu1⟩; refine VC.seq (VC.text ?_); refine VO.c (.lss) ?_; refine VO.go (VC.seq ?_); refine VC.condD rfl (fun c12 => ?_) (fun c12 => ?_)
  · have hjt : j < c.2.1.length := by omega
    have hv := hV.e _ (List.getElem_mem hjt); have hsz := pre_size hV (k := c.1.length + j); have hvs := eL_size hv; have hln := eLin_len (x := c.2.1[j])
    have hnx : txtG ((linsC c).take (c.1.length + (j + 1))) = txtG ((linsC c).take (c.1.length + j)) ++ (joinS 32 (eLin c.2.1[j]) ++ nlS) := by rw [← Nat.add_assoc, linsC_e hjt, txtG_snoc]
    obtain ⟨hv1, hv2, hv3⟩ := hv; refine VC.skip (VC.seq (VC.block (VC.seq (VC.text ?_)))); refine VO.c (.ix (j := j) rfl rfl el33 hjt) ?_; refine VO.r (.ld vt101) ?_; refine VO.cell (.alloc zt101) ?_; intro w10; refine VO.setV (cs' := [St (c.2.1[j]).1, .v y32 (c.2.1[j]).2]) vt101 .v ?_; refine VO.shut [(10, .p y101 c.2.1[j])] (.cons rfl (.var m0 .refl) .nil) ?_; refine VO.go (VC.seq (VC.text ?_)); refine VO.c (.fa (.l .o)) ?_; refine VO.r (.ld vt9) ?_; refine VO.cell (.lit [eWd, (c.2.1[j]).1] el48) ?_; intro w11; refine VO.c (.assign rfl) ?_; refine VO.go (VC.seq (VC.seq (VC.text ?_))); refine VO.c (.fa (.r .o)) ?_; refine VO.r (.ld vt32) ?_; refine VO.r (.len el32) ?_; refine VO.c (.move rfl) ?_; refine VO.go (VC.block ?_); refine VC.keep [(1, .p y36 c), (5, .raw (bP b)), (6, .clo 41 [] [.raw (bP b)]), (11, .raw w11), (40, .v y33 c.2.1), (41, I ((c.2.1.length : Nat) : Int)), (42, I ((j : Nat) : Int)), (50, .v y32 (c.2.1[j]).2), (51, I (((c.2.1[j]).2.length : Nat) : Int)), (52, I ((0 : Nat) : Int))] ⟨rfl, rfl, rfl, rfl, rfl, rfl, rfl, rfl, rfl, rfl, trivial⟩ ?_; refine VC.loop (I := fun kk ff ss => ∃ (k : Nat) (ww : Value), kk = (c.2.1[j]).2.length - k ∧ ff = [(1, .p y36 c), (5, .raw (bP b)), (6, .clo 41 [] [.raw (bP b)]), (11, .raw ww), (40, .v y33 c.2.1), (41, I ((c.2.1.length : Nat) : Int)), (42, I ((j : Nat) : Int)), (50, .v y32 (c.2.1[j]).2), (51, I (((c.2.1[j]).2.length : Nat) : Int)), (52, I ((k : Nat) : Int))] ∧ ss = [(ww, .row 9 .str ([eWd, (c.2.1[j]).1] ++ parL ((c.2.1[j]).2.take k))), (bW b, .cel 91 0 [.raw a, .raw u]), (u, .row 5 (.int .u8) (bytesI (txtG ((linsC c).take (c.1.length + j)))))] ∧ k ≤ (c.2.1[j]).2.length) ?_ _ _ _ ⟨0, w11, rfl, rfl, rfl, Nat.zero_le _⟩; rintro kk ff ss ⟨k, ww, hk2, rfl, rfl, hk⟩; refine VC.seq (VC.text ?_); refine VO.c (.lss) ?_; refine VO.go (VC.seq ?_); refine VC.condD rfl (fun c16 => ?_) (fun c16 => ?_)
    · have hkt : k < (c.2.1[j]).2.length := by omega
      have hvk := hv3 _ (List.getElem_mem hkt)
      have hpl : parL ((c.2.1[j]).2.take (k + 1)) = parL ((c.2.1[j]).2.take k) ++ [((c.2.1[j]).2[k]).1, decS ((c.2.1[j]).2[k]).2] := by rw [List.take_succ_eq_append_getElem hkt, parL_app] <;> rfl
      have hpn := parL_len (a := (c.2.1[j]).2.take k); rw [List.length_take] at hpn; refine VC.skip (VC.seq (VC.block (VC.seq (VC.text ?_)))); refine VO.c (.ix (j := k) rfl rfl el32 hkt) ?_; refine VO.r (.ld vt98) ?_; refine VO.cell (.alloc zt98) ?_; intro w13; refine VO.setV (cs' := [St ((c.2.1[j]).2[k]).1, I ((c.2.1[j]).2[k]).2]) vt98 .v ?_; refine VO.shut [(13, .p y98 ((c.2.1[j]).2[k]))] (.cons rfl (.var m0 .refl) .nil) ?_; refine VO.go (VC.drawn ?_); refine VD.c (.move rfl) (VD.c (.fa (.l .o)) ?_); refine VD.r [] (.ld vt9) (.inl rfl) ?_; refine VD.c (.fa (.r .o)) ?_; refine VD.r [] (.ld vt3) (.inl rfl) ?_; refine VD.call rfl rfl (VF.call (zItoa_ok (by omega))) ?_; refine VD.new (.lit [((c.2.1[j]).2[k]).1, decS ((c.2.1[j]).2[k]).2] el48) ?_; refine VD.mk (MakeV.app el48 el48 rfl rfl (by simp; omega)) ?_; rintro _ _ tl ⟨wn, rfl, rfl⟩; refine VD.c (.assign rfl) ?_; refine VD.nil ?_; refine VC.text ?_; refine VO.c (.add rfl rfl (by omega)) (VO.c (.move rfl) ?_); refine VO.nil ?_; exact ⟨_, [(1, .p y36 c), (5, .raw (bP b)), (6, .clo 41 [] [.raw (bP b)]), (11, .raw wn), (40, .v y33 c.2.1), (41, I ((c.2.1.length : Nat) : Int)), (42, I ((j : Nat) : Int)), (50, .v y32 (c.2.1[j]).2), (51, I (((c.2.1[j]).2.length : Nat) : Int)), (52, I (((k + 1) : Nat) : Int))], by omega, ⟨rfl, rfl, rfl, rfl, rfl, rfl, rfl, rfl, rfl, rfl, trivial⟩, (k + 1), wn, rfl, rfl, by rw [hpl, List.append_assoc], by omega⟩
    have hke : k = (c.2.1[j]).2.length := by omega
    subst hke; refine VC.exit ?_; show VC _ _ _ _ _ _ _ _; rw [List.take_length, show [eWd, (c.2.1[j]).1] ++ parL (c.2.1[j]).2 = eLin c.2.1[j] from rfl]; refine VC.shut [(11, .v (.sl .str) (eLin c.2.1[j]))] (.cons rfl (.row m0) .nil) ?_; refine VC.text ?_; refine VO.c (.move rfl) (VO.c (.move rfl) ?_); refine VO.callG [(bW b, .cel 91 0 [.raw a, .raw u]), (u, .row 5 (.int .u8) (bytesI (txtG ((linsC c).take (c.1.length + j)))))] rfl rfl rfl (VFG.clo (a := []) (args := [.v (.sl .str) (eLin c.2.1[j])]) (c := [.raw (bP b)]) (sLine_ok (ws := eLin c.2.1[j]) (by omega) (by omega) (by omega) ha1 hu1)) ?_; rintro _ _ ⟨u', rfl, rfl, hu'⟩; refine VO.nil (VC.text ?_); refine VO.c (.add rfl rfl (by omega)) (VO.c (.move rfl) ?_); refine VO.nil ?_; exact ⟨_, [(1, .p y36 c), (5, .raw (bP b)), (6, .clo 41 [] [.raw (bP b)]), (40, .v y33 c.2.1), (41, I ((c.2.1.length : Nat) : Int)), (42, I (((j + 1) : Nat) : Int))], by omega, ⟨rfl, rfl, rfl, rfl, rfl, rfl, trivial⟩, (j + 1), bP b, u', rfl, rfl, by rw [hnx]; rfl, by omega, .inr rfl, by rw [hnx]; exact hu'⟩
  have hje : j = c.2.1.length := by omega
  subst hje; refine VC.exit (VC.seq (VC.seq (VC.text ?_))); refine VO.c (.fa (.r (.r .o))) ?_; refine VO.r (.ld vt34) ?_; refine VO.r (.len el34) ?_; refine VO.c (.move rfl) ?_; refine VO.go (VC.block ?_); refine VC.keep [(1, .p y36 c), (5, .raw (bP b)), (6, .clo 41 [] [.raw (bP b)]), (70, .v y34 c.2.2), (71, I ((c.2.2.length : Nat) : Int)), (72, I ((0 : Nat) : Int))] ⟨rfl, rfl, rfl, rfl, rfl, rfl, trivial⟩ ?_; refine VC.loop (I := fun kk ff ss => ∃ (m : Nat) (a u : Value), kk = c.2.2.length - m ∧ ff = [(1, .p y36 c), (5, .raw (bP b)), (6, .clo 41 [] [.raw (bP b)]), (70, .v y34 c.2.2), (71, I ((c.2.2.length : Nat) : Int)), (72, I ((m : Nat) : Int))] ∧ ss = [(bW b, .cel 91 0 [.raw a, .raw u]), (u, .row 5 (.int .u8) (bytesI (txtG ((linsC c).take (c.1.length + c.2.1.length + m)))))] ∧ m ≤ c.2.2.length ∧ (a = .pointer none ∨ a = bP b) ∧ ((txtG ((linsC c).take (c.1.length + c.2.1.length + m))).size = 0 → u = .slice none 0 0)) ?_ _ _ _ ⟨0, a, u, rfl, rfl, rfl, Nat.zero_le _, ha1, hu1⟩; rintro kk ff ss ⟨m, a, u, hk2, rfl, rfl, hi2, ha2, hu2⟩; refine VC.seq (VC.text ?_); refine VO.c (.lss) ?_; refine VO.go (VC.seq ?_); refine VC.condD rfl (fun c23 => ?_) (fun c23 => ?_)
  · have hmt : m < c.2.2.length := by omega
    have hv := hV.l _ (List.getElem_mem hmt); have hsz := pre_size hV (k := c.1.length + c.2.1.length + m); have hvs := cL_size hv
    have hln : (cLin c.2.2[m]).length = 3 + (c.2.2[m]).2.2.length := by simp [cLin]; omega
    have hnx : txtG ((linsC c).take (c.1.length + c.2.1.length + (m + 1))) = txtG ((linsC c).take (c.1.length + c.2.1.length + m)) ++ (joinS 32 (cLin c.2.2[m]) ++ nlS) := by rw [← Nat.add_assoc, linsC_c hmt, txtG_snoc]
    obtain ⟨hv1, hv2, hv3⟩ := hv; refine VC.skip (VC.seq (VC.block (VC.seq (VC.text ?_)))); refine VO.c (.ix (j := m) rfl rfl el34 hmt) ?_; refine VO.r (.ld vt102) ?_; refine VO.cell (.alloc zt102) ?_; intro w15; refine VO.setV (cs' := [St (c.2.2[m]).1, B (c.2.2[m]).2.1, .v (.sl .str) (c.2.2[m]).2.2]) vt102 .v ?_; refine VO.shut [(15, .p y102 c.2.2[m])] (.cons rfl (.var m0 .refl) .nil) ?_; refine VO.go (VC.seq (VC.text ?_)); refine VO.c (.assign rfl) ?_; refine VO.go (VC.seq (VC.seq (VC.text ?_))); refine VO.c (.fa (.r (.l .o))) ?_; refine VO.r (.ld vt4) ?_; refine VO.go ?_; refine VC.join [(1, .p y36 c), (5, .raw (bP b)), (6, .clo 41 [] [.raw (bP b)]), (15, .p y102 c.2.2[m]), (16, St (kWd (c.2.2[m]).2.1)), (70, .v y34 c.2.2), (71, I ((c.2.2.length : Nat) : Int)), (72, I ((m : Nat) : Int))] [(bW b, .cel 91 0 [.raw a, .raw u]), (u, .row 5 (.int .u8) (bytesI (txtG ((linsC c).take (c.1.length + c.2.1.length + m)))))] ?_ ?_
    · refine VC.condB rfl (fun c26 => ?_) (fun c26 => ?_)
      · refine VC.text ?_; refine VO.c (.assign rfl) ?_; refine VO.nil ?_; rw [c26]; exact ⟨⟨rfl, rfl, rfl, rfl, rfl, rfl, rfl, rfl, trivial⟩, rfl⟩
      refine VC.skip ?_; rw [c26]; exact ⟨⟨rfl, rfl, rfl, rfl, rfl, rfl, rfl, rfl, trivial⟩, rfl⟩
    refine VC.text ?_; refine VO.c (.move rfl) (VO.c (.fa (.l .o)) ?_); refine VO.r (.ld vt9) ?_; refine VO.c (.move rfl) ?_; refine VO.cell (.lit [cWd, (c.2.2[m]).1, kWd (c.2.2[m]).2.1] el48) ?_; intro w82; refine VO.c (.fa (.r (.r .o))) ?_; refine VO.r (.ld vt48) ?_; refine VO.app rfl rfl el48 el48 (by simp; omega) ?_; intro w85; refine VO.shut [(85, .v (.sl .str) (cLin c.2.2[m]))] (.cons rfl (.row m0) .nil) ?_; refine VO.callG [(bW b, .cel 91 0 [.raw a, .raw u]), (u, .row 5 (.int .u8) (bytesI (txtG ((linsC c).take (c.1.length + c.2.1.length + m)))))] rfl rfl rfl (VFG.clo (a := []) (args := [.v (.sl .str) (cLin c.2.2[m])]) (c := [.raw (bP b)]) (sLine_ok (ws := cLin c.2.2[m]) (by omega) (by omega) (by omega) ha2 hu2)) ?_; rintro _ _ ⟨u', rfl, rfl, hu'⟩; refine VO.nil (VC.text ?_); refine VO.c (.add rfl rfl (by omega)) (VO.c (.move rfl) ?_); refine VO.nil ?_; exact ⟨_, [(1, .p y36 c), (5, .raw (bP b)), (6, .clo 41 [] [.raw (bP b)]), (70, .v y34 c.2.2), (71, I ((c.2.2.length : Nat) : Int)), (72, I (((m + 1) : Nat) : Int))], by omega, ⟨rfl, rfl, rfl, rfl, rfl, rfl, trivial⟩, (m + 1), bP b, u', rfl, rfl, by rw [hnx]; rfl, by omega, .inr rfl, by rw [hnx]; exact hu'⟩
  have hme : m = c.2.2.length := by omega
  subst hme; have htk : (linsC c).take (c.1.length + c.2.1.length + c.2.2.length) = linsC c := List.take_of_length_le (by rw [lins_len]; omega); rw [htk] at hu2 ⊢; have hsz := pre_size hV (k := (linsC c).length); rw [List.take_length] at hsz; refine VC.exit (VC.seq (VC.seq (VC.text ?_))); refine VO.callG [(bW b, .cel 91 0 [.raw a, .raw u]), (u, .row 5 (.int .u8) (bytesI (txtG (linsC c))))] rfl rfl rfl (VFG.call zLen_ok) ?_; rintro _ _ ⟨rfl, rfl⟩; refine VO.c (.gtr) (VO.go ?_); refine VC.condD rfl (fun c30 => ?_) (fun c30 => ?_)
  · refine VC.seq (VC.text ?_); refine VO.c (.assign rfl) (VO.c (.assign rfl) (VO.go ?_)); refine VC.ret ?_
    have hpe : prtE c = 27 := by
      unfold prtE; rw [if_neg c2, if_pos (show 4096 < (txtC c).size by unfold txtC; omega)]
    rw [show prtR c = ByteArray.empty from if_neg (by rw [hpe]; decide), hpe]; exact ⟨rfl, [St ByteArray.empty, I 27], .cons evT (.cons evT .nil), rfl⟩
  refine VC.skip ?_; show VC _ _ _ _ _ _ _ _
  have hpe : prtE c = 0 := by
    unfold prtE; rw [if_neg c2, if_neg (show ¬ 4096 < (txtC c).size by unfold txtC; omega)]
  rw [show prtR c = txtC c from if_pos hpe, hpe]; refine VC.seq (VC.text ?_); refine VO.callG [(bW b, .cel 91 0 [.raw a, .raw u]), (u, .row 5 (.int .u8) (bytesI (txtG (linsC c))))] rfl rfl rfl (VFG.call (zStr_ok (by omega) hu2)) ?_; rintro _ _ ⟨rfl, rfl⟩; refine VO.c (.assign rfl) (VO.c (.assign rfl) (VO.go ?_)); refine VC.ret ?_; exact ⟨rfl, [St (txtC c), I 0], .cons evT (.cons evT .nil), rfl⟩
end Go.Proofs
namespace Go.Proofs
open Go.Fs
set_option maxHeartbeats 4000000
def sufB (s p : ByteArray) : Bool := decide (p.size ≤ s.size) && decide (s.extract (s.size - p.size) s.size = p)
def sufA (s p : ByteArray) : ByteArray := if sufB s p = true then s.extract 0 (s.size - p.size) else s
theorem zHasS_ok {s p : ByteArray} (hs : s.size < 1000000) : VF Tryz.prog OA 139 [St s, St p] (B (sufB s p)) := by
  refine VF.enter Tryz.func139 rfl (fun _ _ => rfl) rfl ?_; show VC _ _ _ _ _ [(0, St s), (1, St p)] [] _; refine VC.seq (VC.text ?_); refine VO.c (.assign rfl) ?_; refine VO.go (VC.seq (VC.text ?_)); refine VO.c (.move rfl) ?_; refine VO.r (.lenS) ?_; refine VO.c (.move rfl) ?_; refine VO.r (.lenS) ?_; refine VO.c (.geq) (VO.c (.move rfl) ?_); refine VO.splitB (x := 10) rfl (fun hg => ?_) (fun hg => ?_)
  · have hg := of_decide_eq_true hg
    have hl : p.size ≤ s.size := by omega
    refine VO.c (.move rfl) (VO.c (.move rfl) ?_); refine VO.r (.lenS) ?_; refine VO.c (.move rfl) ?_; refine VO.r (.lenS) ?_; have hp0 : (0 : Int) ≤ ((p.size : Nat) : Int) := Int.natCast_nonneg _; refine VO.c (.sub rfl rfl (by omega)) ?_; refine VO.r (.cutLS (by kernel_rfl) rfl rfl ⟨by omega, by omega⟩) ?_; refine VO.c (.move rfl) (VO.c (.seql) (VO.c (.pickT rfl rfl) (VO.c (.assign rfl) ?_))); refine VO.go ?_; refine VC.ret ?_; refine ⟨rfl, [_], .cons evT .nil, ?_⟩
    have e : (((s.size : Nat) : Int) - ((p.size : Nat) : Int)).toNat = s.size - p.size := by omega
    show PV.v .bool _ = PV.v .bool _; unfold sufB; rw [decide_eq_true hl, Bool.true_and, e]
  have hg := of_decide_eq_false hg
  have hl : ¬ p.size ≤ s.size := by omega
  refine VO.skip (VO.skip (VO.skip (VO.skip ?_))); refine VO.skip (VO.skip (VO.skip (VO.skip ?_))); refine VO.skip (VO.c (.pickF rfl rfl) (VO.c (.assign rfl) (VO.go ?_))); refine VC.ret ?_; refine ⟨rfl, [_], .cons evT .nil, ?_⟩; show PV.v .bool _ = PV.v .bool _; unfold sufB; rw [decide_eq_false hl, Bool.false_and]
theorem zSCut_ok {s p : ByteArray} (hs : s.size < 1000000) : VF Tryz.prog OA 95 [St s, St p] (.tup [St (sufA s p), B (sufB s p)]) := by
  refine VF.enter Tryz.func95 rfl (fun _ _ => rfl) rfl ?_; show VC _ _ _ _ _ [(0, St s), (1, St p)] [] _; refine VC.seq (VC.text ?_); refine VO.c (.assign rfl) (VO.c (.assign rfl) ?_); refine VO.go (VC.seq (VC.seq (VC.text ?_))); refine VO.c (.move rfl) (VO.c (.move rfl) ?_); refine VO.call rfl rfl (VF.call (zHasS_ok hs)) ?_; refine VO.c (.not) (VO.go ?_); refine VC.condB rfl (fun hc => ?_) (fun hc => ?_)
  · have hf : sufB s p = false := by simpa using hc
    refine VC.seq (VC.text ?_); refine VO.c (.move rfl) (VO.c (.assign rfl) (VO.c (.assign rfl) (VO.go ?_))); refine VC.ret ?_; exact VEnd.two rfl evT evT (pvE (by unfold sufA; rw [hf]; rfl)) (pvE hf.symm)
  have hf : sufB s p = true := by simpa using hc
  have hl : p.size ≤ s.size := by
    unfold sufB at hf; simp only [Bool.and_eq_true, decide_eq_true_eq] at hf; exact hf.1
  refine VC.skip (VC.seq (VC.text ?_)); refine VO.c (.move rfl) (VO.c (.move rfl) ?_); refine VO.r (.lenS) ?_; refine VO.c (.move rfl) ?_; refine VO.r (.lenS) ?_; have hp0 : (0 : Int) ≤ ((p.size : Nat) : Int) := Int.natCast_nonneg _; refine VO.c (.sub rfl rfl (by omega)) ?_; refine VO.r (.cutHS (by kernel_rfl) rfl rfl (by omega)) ?_; refine VO.c (.assign rfl) (VO.c (.assign rfl) (VO.go ?_)); refine VC.ret ?_
  have e : (((s.size : Nat) : Int) - ((p.size : Nat) : Int)).toNat = s.size - p.size := by omega
  exact VEnd.two rfl evT evT (pvE (by rw [e]; unfold sufA; rw [hf]; rfl)) (pvE hf.symm)
theorem zCutS_ok {s p : ByteArray} (hs : s.size < 1000000) : VF Tryz.prog OA 49 [St s, St p] (.tup [St (sufA s p), B (sufB s p)]) := by
  refine VF.enter Tryz.func49 rfl (fun _ _ => rfl) rfl ?_; show VC _ _ _ _ _ [(0, St s), (1, St p)] [] _; refine VC.seq (VC.text ?_); refine VO.c (.assign rfl) (VO.c (.assign rfl) ?_); refine VO.go (VC.seq (VC.text ?_)); refine VO.c (.move rfl) (VO.c (.move rfl) ?_); refine VO.call rfl rfl (VF.call (zSCut_ok hs)) ?_; refine VO.c (.extract) (VO.c (.extract) (VO.c (.assign rfl) (VO.c (.assign rfl) ?_))); refine VO.go ?_; refine VC.ret ?_; exact VEnd.two rfl evT evT rfl rfl
theorem zLines_ok {s : ByteArray} : VFG Tryz.prog OA 48 [St s] [] (fun r g => ∃ w, r = .clo 93 [] [.raw w] ∧ g = [(w, .var [St s])]) := by
  refine VFG.enter Tryz.func48 rfl (fun _ _ => rfl) rfl ?_; show VC _ _ _ _ _ [(0, St s)] [] _; refine VC.seq (VC.text ?_); refine VO.cell (.box .v) ?_; intro w; refine VO.c (.assign rfl) ?_; refine VO.go (VC.seq (VC.text ?_)); refine VO.c (.func) (VO.c (.assign rfl) (VO.go ?_)); refine VC.ret ?_; refine ⟨rfl, [.clo 93 [] [.raw w]], .cons evT .nil, ⟨w, rfl, rfl⟩, .inr (.inr (.inr ⟨rfl, fun h S u hu hc ha => ?_⟩))⟩; exfalso; obtain ⟨b, e, vs, rfl, _⟩ := hc _ List.mem_cons_self; obtain ⟨va, vc, rfl, h1, h2⟩ := hu; obtain ⟨u1, r, rfl, h3, h4⟩ := h2; obtain rfl : u1 = _ := h3; obtain rfl : r = [] := h4; exact absurd ha (by simp [af, af1, af0])
theorem suf_app {a p : ByteArray} : sufB (a ++ p) p = true ∧ sufA (a ++ p) p = a := by
  have hz : (a ++ p).size = a.size + p.size := by rw [← toL_len, toL_app, List.length_append, toL_len, toL_len]
  have h1 : sufB (a ++ p) p = true := by
    unfold sufB; rw [decide_eq_true (show p.size ≤ (a ++ p).size by omega), Bool.true_and]; refine decide_eq_true (toL_inj ?_); rw [toL_drop, toL_app, hz, Nat.add_sub_cancel, ← toL_len, List.drop_left]
  refine ⟨h1, ?_⟩; unfold sufA; rw [if_pos h1]; apply toL_inj; rw [toL_take, toL_app, hz, Nat.add_sub_cancel, ← toL_len, List.take_left]
theorem lnA_app {r : ByteArray} (hi : 0 ≤ Go.Lib.indexByte (toL r) 10) : lnA r = cutA 10 r ++ nlS := by
  obtain ⟨k, hk⟩ := Int.eq_ofNat_of_zero_le hi; obtain ⟨h1, h2, h3⟩ := idx_some hk; unfold lnA cutA; rw [if_neg (by omega), if_neg (by omega), hk, Int.toNat_natCast]; apply toL_inj; rw [toL_app, toL_take, toL_take, List.take_add, h3]; rfl
theorem lnA_suf {r : ByteArray} (hi : 0 ≤ Go.Lib.indexByte (toL r) 10) : sufB (lnA r) nlS = true ∧ sufA (lnA r) nlS = cutA 10 r := by
  rw [lnA_app hi]; exact suf_app
theorem lnA_no {r : ByteArray} (hi : ¬ 0 ≤ Go.Lib.indexByte (toL r) 10) : sufB (lnA r) nlS = false := by
  cases h : sufB (lnA r) nlS with
  | false => rfl
  | true =>
    exfalso; have hl : lnA r = r := if_pos (by omega); rw [hl] at h; unfold sufB at h; simp only [Bool.and_eq_true, decide_eq_true_eq] at h; have h2 := h.2
    have h3 : toL (r.extract (r.size - nlS.size) r.size) = [10] := by rw [h2] <;> rfl
    rw [toL_drop] at h3; exact idx_none (show Go.Lib.indexByte (toL r) 10 < 0 by omega) 10 (List.mem_of_mem_drop (h3 ▸ List.mem_singleton.2 rfl)) rfl
theorem lnA_size {r : ByteArray} : (lnA r).size ≤ r.size := by
  by_cases hi : 0 ≤ Go.Lib.indexByte (toL r) 10
  · obtain ⟨k, hk⟩ := Int.eq_ofNat_of_zero_le hi; unfold lnA; rw [if_neg (by omega), ← toL_len, toL_take, List.length_take, toL_len]; omega
  exact Nat.le_of_eq (congrArg ByteArray.size (if_pos (by omega)))
end Go.Proofs
namespace Go.Fs
variable {P : Program} {orc : FuncId → List Value → Heap → Option (Value × Heap)} {h h' h0 h1 h2 : Heap} {S S' S0 G : List Nat} {σ σ' γ γ' : Sto} {t t' : Tr} {ms : List Nat} {fl : VL} {τ : Ty}
end Go.Fs
namespace Go.Fs
variable {P : Program} {orc : FuncId → List Value → Heap → Option (Value × Heap)} {h h' h0 h1 h2 : Heap} {S S' S0 G : List Nat} {σ σ' : Sto} {t t' : Tr} {ms : List Nat} {fl : VL} {ops : Array Oper} {n i mem : Nat} {l : List Oper} {K : VL → Sto → Prop}
  {d : Tmp} {ty : TypeId} {pos : String} {after : Array Edge} {g : Option (Nat × Bool)} {bs nw : List Nat} {tail so : Bool} {e : TypeId} {τ : Ty}
theorem agg_co {a b : Ty} {cs : List PV} {x : (Ty.pair a b).den} (hc : CoL σ cs (cellsPV (.pair a b) x)) : Co σ (.agg cs) (.v (.pair a b) x) := .sem fun h S0 u hcc hs hu => by
  obtain ⟨vs, rfl, hr⟩ := hu; exact RepV.ofCells (repC_cells (CoL.ok hcc hs hc hr))
end Go.Fs
