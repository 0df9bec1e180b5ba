/- Parts of the proof: an evaluator of the model, what it is sound for, and contracts of functions. No condition. -/
import Derived.Test.YtedakjflddcbbaaGreatDoorP6
import Derived.Test.YtedakjflddcbbaaGreatDoorP5
import Derived.Test.YtedakjflddcbbaaGreatDoorP3
set_option linter.all false
namespace Go.Proofs
open Go.Fs
set_option maxHeartbeats 1000000
abbrev y89 : Ty := (.sl (.int .u8))
theorem TR : fN Tryz.prog 89 y89 := fD (by kernel_rfl)
theorem YO : kB Tryz.prog 89 5 (.int .u8) := qQ (by kernel_rfl)
theorem X2 {b : Nat} {a u : Value} {acc s : ByteArray} (cX : acc.size + s.size <= 1000000) (ha : a = .pointer none \/ a = bP b) (hn : acc.size = 0 -> u = .slice none 0 0) :
    fX Tryz.prog OA 42 [.raw (bP b), St s] [(bW b, .eE 91 0 [.raw a, .raw u]), (u, .row 5 (.int .u8) (aW acc))] (fun r gD => ∃ u', r = .mE [I ((s.size : Nat) : Int), .raw .nilIface] /\ gD = [(bW b, .eE 91 0 [.raw (bP b), .raw u']), (u', .row 5 (.int .u8) (aW (acc ++ s)))] /\ ((acc ++ s).size = 0 -> u' = .slice none 0 0)) := by
  refine fX.DA Tryz.func42 rfl (fun _ _ => rfl) rfl ?_; show U _ _ _ _ _ [(0, .raw (bP b)), (1, St s)] [(bW b, .eE 91 0 [.raw a, .raw u]), (u, .row 5 (.int .u8) (aW acc))] _; refine U.seq (U.text ?_); refine J.c (.assign rfl) (J.c (.assign rfl) ?_); refine J.go (U.seq (U.text ?_)); refine J.c (.move rfl) ?_; refine J.mJ [(bW b, .eE 91 0 [.raw a, .raw u])] rfl rfl rfl (fX.call (fX.cop (O := YC 92 43 6) (tb := 91) (fun _ _ => rfl) ha)) ?_; rintro _ _ ⟨rfl, rfl⟩; show J _ _ _ _ _ _ [(bW b, .eE 91 0 [.raw (bP b), .raw u]), (u, .row 5 (.int .u8) (aW acc))] _; refine J.go (U.seq (U.text ?_)); refine J.c (.move rfl) (J.c (.move rfl) (J.c (.TJ) (J.c (.faB (k := 1) m0) ?_))); refine J.r (.ldB m0 TR) ?_; refine J.c (.move rfl) ?_; refine J.perm cW ?_; refine J.mk (bF.ap4 YO (by kernel_rfl) rfl rfl cX hn) ?_; rintro _ _ ⟨u', ⟨rfl, rfl⟩, pO⟩; refine J.c (.TJ) (J.c (.faB (k := 1) m1) ?_); refine J.perm cW ?_; refine J.one m1 fun ho => ?_; refine J.oN (bF.stB TR rfl rfl ho) ?_; rintro _ _ ⟨rfl, rfl⟩; refine J.go (U.seq (U.text ?_)); refine J.c (.move rfl) ?_; refine J.r (.gU) ?_; refine J.c (.assign rfl) (J.c (.assign rfl) (J.go ?_)); refine U.ret ?_; exact ⟨rfl, [I ((s.size : Nat) : Int), .raw .nilIface], .cons aZ (.cons aZ .nil), ⟨u', rfl, rfl, pO⟩, FA⟩
theorem aeZ {b : Nat} {a u : Value} {acc : ByteArray} (cX : acc.size <= 1000000) (hn : acc.size = 0 -> u = .slice none 0 0) :
    fX Tryz.prog OA 46 [.raw (bP b)] [(bW b, .eE 91 0 [.raw a, .raw u]), (u, .row 5 (.int .u8) (aW acc))] (fun r gD => r = St acc /\ gD = [(bW b, .eE 91 0 [.raw a, .raw u])]) := by
  refine fX.DA Tryz.func46 rfl (fun _ _ => rfl) rfl ?_; show U _ _ _ _ _ [(0, .raw (bP b))] [(bW b, .eE 91 0 [.raw a, .raw u]), (u, .row 5 (.int .u8) (aW acc))] _; refine U.seq (U.text ?_); refine J.c (.assign rfl) ?_; refine J.go (U.seq (U.drawn ?_)); refine VD.c (.move rfl) (VD.c (.TJ) ?_); refine VD.co (.faB (k := 1) m0) ?_; refine VD.r [(bW b, .eE 91 0 [.raw a, .raw u]), (u, .row 5 (.int .u8) (aW acc))] (.ldB m0 TR) (.inr ⟨rfl, rfl⟩) ?_; refine VD.r [(bW b, .eE 91 0 [.raw a, .raw u]), (u, .row 5 (.int .u8) (aW acc))] (.sd rfl m1 hn) (.inr ⟨rfl, rfl⟩) ?_; refine VD.c (.move rfl) (VD.c (.TJ) ?_); refine VD.co (.faB (k := 1) m0) ?_; refine VD.r [(bW b, .eE 91 0 [.raw a, .raw u]), (u, .row 5 (.int .u8) (aW acc))] (.ldB m0 TR) (.inr ⟨rfl, rfl⟩) ?_; refine VD.r [(bW b, .eE 91 0 [.raw a, .raw u]), (u, .row 5 (.int .u8) (aW acc))] (.tU m1 YO) (.inr ⟨rfl, rfl⟩) ?_; refine VD.perm cW ?_; refine VD.mk (bF.ap5 (by kernel_rfl) (by kernel_rfl) rfl (by rw [<- j5]; rfl) cX hn) ?_; rintro _ _ tl ⟨rfl, rfl⟩; refine VD.c (.assign rfl) (VD.go ?_); refine U.ret ?_; exact ⟨rfl, [St acc], .cons aZ .nil, ⟨rfl, rfl⟩, WY⟩
end Go.Proofs
namespace Go.Proofs
open Go.Fs
set_option maxHeartbeats 1000000
theorem TS (s : ByteArray) (f i : Nat) : aS (s.extract f i) = ((aS s).drop f).take (i - f) := by
  unfold aS; rw [ByteArray.data_extract, Array.toList_extract, List.extract_eq_take_drop]
theorem af2 {c : UInt8} {L : List UInt8} {k : Nat} (h : ∀ x ∈ L.take k, x ≠ c) (hk : k < L.length) (hc : L[k] = c) : kH c L = L.take k :: kH c (L.drop (k + 1)) := by
  have e : L = L.take k ++ c :: L.drop (k + 1) := by rw [<- hc, <- List.drop_eq_getElem_cons hk, List.take_append_drop]
  have := KA (s := c) (w := L.take k) (r := L.drop (k + 1)) h; rw [<- e] at this; exact this
theorem qD {s : ByteArray} {i : Nat} (h : i < (aS s).length) : bV s ((i : Nat) : Int) = ((((aS s)[i]).toNat : Nat) : Int) := by
  rw [B9]
  have h2 : i < s.data.size := by rw [cU] at h; exact h
  show (((s.data[i]!).toNat : Nat) : Int) = _; rw [getElem!_pos s.data i h2]; simp [aS]
def c8 (c : Int) : UInt8 := c.toNat.toUInt8
theorem YP {c : Int} (h : 0 <= c /\ c < 256) : (((c8 c).toNat : Nat) : Int) = c := by
  show (((UInt8.ofNat c.toNat).toNat : Nat) : Int) = c; rw [UInt8.toNat_ofNat']; omega
theorem af3 {c : Int} (h : 0 <= c /\ c < 256) {x : UInt8} : (((x.toNat : Nat) : Int) = c) ↔ x = c8 c := by
  constructor
  . intro e; apply UInt8.toNat_inj.1; have := YP h; omega
  rintro rfl; exact YP h
structure PY (s : ByteArray) (c : UInt8) (i f : Nat) (O : List ByteArray) : Prop where
  in_ : i <= (aS s).length -> kH c (aS s) = O.map aS ++ kH c ((aS s).drop f) /\ f <= i /\ ∀ x ∈ ((aS s).drop f).take (i - f), x ≠ c
  out : (aS s).length < i -> kH c (aS s) = O.map aS
theorem am3 {s : ByteArray} {c : UInt8} : PY s c 0 0 [] := ⟨fun _ => ⟨rfl, Nat.le_refl _, fun x hx => by simp at hx⟩, fun h => by omega⟩
theorem am4 {s : ByteArray} {c : UInt8} {i f : Nat} {O : List ByteArray} (h : PY s c i f O) (hi : i <= (aS s).length) (hc : i = (aS s).length \/ ∃ hk : i < (aS s).length, (aS s)[i] = c) : PY s c (i + 1) (i + 1) (O ++ [s.extract f i]) := by
  obtain ⟨h1, h2, h3⟩ := h.in_ hi; by_cases he : i = (aS s).length
  . refine ⟨fun h => by omega, fun _ => ?_⟩; have h4 : ((aS s).drop f).take (i - f) = (aS s).drop f := List.take_of_length_le (by rw [List.length_drop]; omega); rw [h4] at h3; rw [h1, FB h3, List.map_append, List.map_singleton, TS, h4]
  obtain ⟨hk, hx⟩ := hc.resolve_left he; refine ⟨fun _ => ⟨?_, Nat.le_refl _, fun x hx => by simp at hx⟩, fun h => by omega⟩; have h5 := af2 (L := (aS s).drop f) (k := i - f) h3 (by rw [List.length_drop]; omega) (by rw [List.getElem_drop]; simp only [show f + (i - f) = i by omega]; exact hx); rw [h1, h5, List.drop_drop, List.map_append, List.map_singleton, TS, List.append_assoc, show f + (i - f + 1) = i + 1 by omega]; rfl
theorem am5 {s : ByteArray} {c : UInt8} {i f : Nat} {O : List ByteArray} (h : PY s c i f O) (hi : i < (aS s).length) (hc : (aS s)[i] ≠ c) : PY s c (i + 1) f O := by
  obtain ⟨h1, h2, h3⟩ := h.in_ (by omega); refine ⟨fun _ => ⟨h1, by omega, fun x hx => ?_⟩, fun h => by omega⟩; rw [show i + 1 - f = (i - f) + 1 by omega, List.take_succ_eq_append_getElem (by rw [List.length_drop]; omega)] at hx; rcases List.mem_append.1 hx with hx | hx
  . exact h3 x hx
  rw [List.mem_singleton.1 hx, List.getElem_drop]; simp only [show f + (i - f) = i by omega]; exact hc
theorem af4 {s : ByteArray} {c : UInt8} {i f : Nat} {O : List ByteArray} (h : PY s c i f O) (hi : (aS s).length < i) : O = dL c s := by
  unfold dL; rw [h.out hi, List.map_map]; exact (List.map_id'' (fun x => rfl) O).symm
theorem af5 {s : ByteArray} {c : UInt8} {i f : Nat} {O : List ByteArray} (h : PY s c i f O) : O.length <= s.size + 1 := by
  have h0 := vF (c := c) (aS s); have hc := List.count_le_length (a := c) (l := aS s); rw [cU] at hc; by_cases hi : i <= (aS s).length
  . have h1 := congrArg List.length (h.in_ hi).1; rw [List.length_append, List.length_map] at h1; omega
  have h1 := congrArg List.length (h.out (by omega)); rw [List.length_map] at h1; omega
theorem KC {s : ByteArray} {c : Int} (hs : s.size < 100000) (hc : 0 <= c /\ c < 256) : VF Tryz.prog OA 15 [St s, .v (.int .u8) c] (.v (.sl .str) (dL (c8 c) s)) := by
  refine VF.enter Tryz.func15 rfl (fun _ _ => rfl) rfl ?_; show U _ _ _ _ _ [(0, St s), (1, .v (.int .u8) c)] [] _; refine U.seq (U.text ?_); have hl := cU s; refine J.c (.assign rfl) ?_; refine J.go (U.seq (U.text ?_)); refine J.c (.assign rfl) ?_; refine J.go (U.seq (U.text ?_)); refine J.c (.assign rfl) ?_; refine J.go (U.seq (U.seq (U.text ?_))); refine J.c (.assign rfl) ?_; refine J.go (U.block ?_); refine U.cell0 9 .str ?_; refine U.keep [(0, St s), (1, .v (.int .u8) c), (5, .raw (.slice none 0 0)), (6, I ((0 : Nat) : Int)), (7, I ((0 : Nat) : Int))] ⟨rfl, rfl, rfl, rfl, rfl, trivial⟩ ?_; refine U.loop (I := fun kk ff ss => ∃ (i : Nat) (f : Nat) (O : List ByteArray) (w : Value), kk = s.size + 1 - i /\ ff = [(0, St s), (1, .v (.int .u8) c), (5, .raw w), (6, I ((f : Nat) : Int)), (7, I ((i : Nat) : Int))] /\ ss = [(w, .row 9 .str O)] /\ (i <= s.size + 1) /\ (PY s (c8 c) i f O)) ?_ _ _ _ ⟨0, 0, [], (.slice none 0 0), rfl, rfl, rfl, (by omega), (by exact am3)⟩; rintro kk ff ss ⟨i, f, O, w, kI, rfl, rfl, hi, hS⟩; refine U.seq (U.seq (U.text ?_)); refine J.c (.move rfl) (J.c (.move rfl) ?_); refine J.r (.gU) ?_; refine J.c (.leq) (J.go ?_); refine U.aM rfl (fun c4 => ?_) (fun c4 => ?_)
  . have his : i <= s.size := by omega
    have S4 := (hS.in_ (by omega)).2.1; have OI := af5 hS; refine U.skip (U.seq (U.block (U.seq (U.text ?_)))); refine J.c (.move rfl) (J.c (.move rfl) ?_); refine J.r (.gU) ?_; refine J.c (.eql) (J.c (.move rfl) ?_); refine J.cg (r := decide (((i : Nat) : Int) = ((s.size : Nat) : Int))) (w := false) [] trivial (fun _ => (.move rfl)) ?_; refine J.cg (r := decide (((i : Nat) : Int) = ((s.size : Nat) : Int))) (w := false) [] trivial (fun _ => (.move rfl)) ?_; refine J.cg (r := decide (((i : Nat) : Int) = ((s.size : Nat) : Int))) (w := false) [(19, St s), (20, I ((i : Nat) : Int))] ⟨rfl, rfl, trivial⟩ (fun eW => have aqJ : ¬ (((i : Nat) : Int) = ((s.size : Nat) : Int)) := (by simpa using eW); (.PH rfl rfl (by omega) (by omega))) ?_; refine J.cg (r := decide (((i : Nat) : Int) = ((s.size : Nat) : Int))) (w := false) [] trivial (fun _ => (.move rfl)) ?_; refine J.cg (r := decide (((i : Nat) : Int) = ((s.size : Nat) : Int))) (w := false) [(21, .v (.int .u8) (bV s ((i : Nat) : Int))), (22, .v (.int .u8) c)] ⟨rfl, rfl, trivial⟩ (fun _ => (.eql)) ?_; refine J.c (.or) (J.go ?_); refine U.fO rfl (fun c6 => ?_) (fun c6 => ?_)
    . try simp only [Bool.and_eq_true, Bool.or_eq_true, Bool.and_eq_false_iff, Bool.or_eq_false_iff, Bool.not_eq_true', Bool.not_eq_false', decide_eq_true_eq, decide_eq_false_iff_not] at c6
      have y4 : i = s.size \/ bV s ((i : Nat) : Int) = c := by omega
      have uT : PY s (c8 c) (i + 1) (i + 1) (O ++ [s.extract f i]) := by
        refine am4 hS (by omega) ?_; by_cases h7 : i = (aS s).length
        . exact .inl h7
        refine .inr ⟨by omega, (af3 hc).1 ?_⟩; rw [<- qD (by omega)]; rcases y4 with h | h
        . exact absurd (h.trans hl.symm) h7
        exact h
      refine U.seq (U.text ?_); refine J.c (.move rfl) (J.c (.move rfl) (J.c (.move rfl) (J.c (.move rfl) ?_))); refine J.r (.ajE (by kernel_rfl) rfl rfl rfl (by omega) (by omega)) ?_; refine J.new (.lit [(s.extract (((f : Nat) : Int)).toNat (((i : Nat) : Int)).toNat)] b8) ?_; refine J.app rfl rfl b8 b8 (by simp; omega) ?_; intro dE; refine J.c (.assign rfl) ?_; refine J.go (U.text ?_); refine J.c (.move rfl) (J.c (.add rfl rfl (by omega)) (J.c (.assign rfl) ?_)); refine J.nil (U.text ?_); refine J.c (.move rfl) (J.c (.add rfl rfl (by omega)) (J.c (.assign rfl) ?_)); refine J.nil ?_; refine ⟨_, [(0, St s), (1, .v (.int .u8) c), (5, .raw dE), (6, I (((if (i = s.size \/ bV s ((i : Nat) : Int) = c) then i + 1 else f) : Nat) : Int)), (7, I (((i + 1) : Nat) : Int))], ?_, ⟨rfl, rfl, rfl, slI rfl (by first | (rw [if_pos y4]; rfl) | (rw [if_neg FD])), rfl, trivial⟩, (i + 1), (if (i = s.size \/ bV s ((i : Nat) : Int) = c) then i + 1 else f), (if (i = s.size \/ bV s ((i : Nat) : Int) = c) then O ++ [s.extract f i] else O), dE, rfl, rfl, (by first | (rw [if_pos y4]; rfl) | (rw [if_neg FD])), (by omega), (by first | (rw [if_pos y4, if_pos y4]; exact uT) | (rw [if_neg FD, if_neg FD]; exact uT))⟩; omega
    try simp only [Bool.and_eq_true, Bool.or_eq_true, Bool.and_eq_false_iff, Bool.or_eq_false_iff, Bool.not_eq_true', Bool.not_eq_false', decide_eq_true_eq, decide_eq_false_iff_not] at c6
    have FD : ¬ (i = s.size \/ bV s ((i : Nat) : Int) = c) := by omega
    have b7 : i < (aS s).length := by omega
    have uT := am5 hS b7 (fun e => FD (.inr (by rw [qD b7]; exact (af3 hc).2 e))); refine U.skip (U.text ?_); refine J.c (.move rfl) (J.c (.add rfl rfl (by omega)) (J.c (.assign rfl) ?_)); refine J.nil ?_; refine ⟨_, [(0, St s), (1, .v (.int .u8) c), (5, .raw w), (6, I (((if (i = s.size \/ bV s ((i : Nat) : Int) = c) then i + 1 else f) : Nat) : Int)), (7, I (((i + 1) : Nat) : Int))], ?_, ⟨rfl, rfl, rfl, slI rfl (by first | (rw [if_pos y4]; rfl) | (rw [if_neg FD])), rfl, trivial⟩, (i + 1), (if (i = s.size \/ bV s ((i : Nat) : Int) = c) then i + 1 else f), (if (i = s.size \/ bV s ((i : Nat) : Int) = c) then O ++ [s.extract f i] else O), w, rfl, rfl, (by first | (rw [if_pos y4]; rfl) | (rw [if_neg FD])), (by omega), (by first | (rw [if_pos y4, if_pos y4]; exact uT) | (rw [if_neg FD, if_neg FD]; exact uT))⟩; omega
  refine U.exit (U.seq (U.text ?_)); refine J.c (.move rfl) (J.c (.assign rfl) (J.go ?_)); refine U.ret ?_; exact aR.one rfl (evC (.row m0)) (dV (by exact af4 hS (by omega)))
end Go.Proofs
namespace Go.Fs
variable {P : Program} {orc : FuncId -> List Value -> Heap -> Option (Value × Heap)} {h : Heap} {S : List Nat}
theorem NA : ∀ (f n : Nat), n < 10 ^ (f + 1) -> A8 (f + 1) n = tC n
  | f, n, h => by
    unfold A8
    cases hb : Nat.blt n 10 with
    | true => rw [nR (jB hb)]; rfl
    | false =>
      have h1 : 10 <= n := by have := gR hb; omega
      rw [tD h1]; simp only [cond_false]
      cases f with
      | zero => simp at h; omega
      | succ f => rw [NA f (n / 10) (by rw [Nat.pow_succ] at h; omega)]; rfl
theorem X3 {k : Nat} (h : k < 1000000000000000000) : B3 ((k : Nat) : Int) = tC k := by
  show A8 20 k = _; refine NA 19 k ?_
  have : (10 : Nat) ^ (19 + 1) = 100000000000000000000 := by decide
  omega
theorem KD {c : UInt8} : ∀ l : List (List UInt8), rH [c] l = yE c l
  | [] => rfl
  | [w] => rfl
  | w :: v :: r => by
    show w ++ [c] ++ rH [c] (v :: r) = w ++ c :: yE c (v :: r); rw [KD (v :: r), List.append_assoc]; rfl
theorem NB : ∀ l : List ByteArray, strs (l.map .string) = some l
  | [] => rfl
  | s :: r => by
    show (strs (r.map .string)).map (s :: ·) = _; rw [NB r]; rfl
theorem VF.itoa {f : FuncId} {n : Int} (hO : ∀ us h, orc f us h = (match us with | [.int .i64 n] => bif decide (-1000000000000000000 < n) && decide (n < 1000000000000000000) then some (.string ⟨(B3 n).toArray⟩, h) else none | _ => none)) (h0 : -1000000000000000000 < n) (h1 : n < 1000000000000000000) :
    VF P orc f [.v (.int .i64) n] (.v .str (DB (B3 n))) := fun h S us bD hS hr => by
  obtain ⟨u, r, rfl, h2, h3⟩ := hr; obtain rfl : r = [] := h3; obtain rfl := aF.int h2
  have ho : orc f [.int .i64 n] h = some (.string ⟨(B3 n).toArray⟩, h) := by
    rw [hO]; simp only [decide_eq_true h0, decide_eq_true h1, Bool.and_self, cond_true]
  exact oS.vR ho ⟨cD.refl _ _, aF.ofStr _, fun _ => rfl⟩
theorem VF.join {f : FuncId} {ss : List ByteArray} {sep : ByteArray} (hO : ∀ us h, orc f us h = (match us with
    | [.slice (some ⟨b, o, none⟩) n _, .string sep] =>
      match h.get b with
      | some (.row _ cs _ _) =>
        bif Nat.ble (o + n) cs.length && Nat.ble n 1000000 then
          match strs ((cs.drop o).take n) with
          | some ss => let r := rH sep.data.toList (ss.map (·.data.toList))
            bif Nat.ble r.length 1000000000 then some (.string ⟨r.toArray⟩, h) else none
          | none => none
        else none
      | _ => none
    | _ => none)) (h0 : 0 < ss.length) (h1 : ss.length <= 1000000) (h2 : (rH (aS sep) (ss.map aS)).length <= 1000000000) :
    VF P orc f [.v (.sl .str) ss, .v .str sep] (.v .str (DB (rH (aS sep) (ss.map aS)))) := fun h S us bD hS hr => by
  obtain ⟨u, r, rfl, g1, u2, r2, rfl, g2, g3⟩ := hr; obtain rfl : r2 = [] := g3; obtain rfl := aF.str g2; obtain ⟨b, o, mk, e', rs, own, more, rfl, hb, hg, hl, wG⟩ := (aF.sl g1).row h0; have hl : o + ss.length * 1 <= rs.length := hl
  have iJ : (rs.drop o).take ss.length = ss.map .string := by
    refine List.ext_getElem (by simp; omega) fun i k1 k2 => ?_
    have hi : i < ss.length := by simpa using k2
    have h4 : (rs.drop (o + i * 1)).take 1 = [.string ss[i]] := wG i hi; rw [Nat.mul_one, List.drop_eq_getElem_cons (by omega)] at h4; have h5 := (List.cons.inj h4).1; rw [List.getElem_take, List.getElem_drop, List.getElem_map]; exact h5
  have ho : orc f [.slice (some ⟨b, o, none⟩) ss.length mk, .string sep] h = some (.string ⟨(rH (aS sep) (ss.map aS)).toArray⟩, h) := by
    rw [hO]
    have e1 : Nat.ble (o + ss.length) rs.length = true := by rw [Nat.ble_eq]; omega
    have e2 : Nat.ble ss.length 1000000 = true := by rw [Nat.ble_eq]; exact h1
    have e3 : Nat.ble (rH sep.data.toList (ss.map (·.data.toList))).length 1000000000 = true := by rw [Nat.ble_eq]; exact h2
    simp only [hg, e1, e2, Bool.and_self, cond_true, iJ, NB, e3]; rfl
  exact oS.vR ho ⟨cD.refl _ _, aF.ofStr _, fun _ => rfl⟩
end Go.Fs
namespace Go.Fs
variable {P : Program} {σ : aG} {fl : VL} {x y : Operand} {T T' : TypeId} {k : IntKind} {p q : Int}
theorem aK.akH (hx : b9 fl x = some (.v (.int k) p)) (hy : b9 fl y = some (.v (.int k) q)) (h0 : k.wrap (p - q) = p - q) : aK P fl σ (.binOp .sub T x y T') (.v (.int k) (p - q)) :=
  aK.wY hx hy (u := .int k (p - q)) (by
    have e : binOp .sub T (.int k p) (.int k q) = pure (.int k (k.wrap (p - q))) := by cases k <;> rfl
    show fK P (do eqGuard .sub T x y (.int k p) (.int k q); binOp .sub T (.int k p) (.int k q)) = _
    rw [e, h0]; rfl) fun h S => aF.ofInt _ _
theorem af6 {n : Int} (h : 0 <= n /\ n < 256) : IntKind.u8.wrap n = n := by
  unfold IntKind.wrap; simp only [IntKind.signed, IntKind.bits]; simp; omega
theorem wrap32 {n : Int} (h : -2147483648 <= n /\ n < 2147483648) : IntKind.i32.wrap n = n := by
  unfold IntKind.wrap; simp only [IntKind.signed, IntKind.bits]; simp [Int.bmod]; omega
end Go.Fs
namespace Go.Proofs
open Go.Fs
set_option maxHeartbeats 1000000
def fW (n : Int) : ByteArray := DB (B3 n)
theorem X4 {n : Int} (h : -1000000000000000000 < n /\ n < 1000000000000000000) : VF Tryz.prog OA 92 [I n] (St (fW n)) := VF.itoa (fun us h => rfl) h.1 h.2
theorem NC {n : Int} (h : -1000000000000000000 < n /\ n < 1000000000000000000) : VF Tryz.prog OA 44 [I n] (St (fW n)) := by
  refine VF.enter Tryz.func44 rfl (fun _ _ => rfl) rfl ?_; show U _ _ _ _ _ [(0, I n)] [] _; refine U.seq (U.text ?_); refine J.c (.assign rfl) ?_; refine J.go (U.seq (U.text ?_)); refine J.c (.move rfl) ?_; refine J.call rfl rfl (VF.call (X4 h)) ?_; refine J.c (.assign rfl) (J.go ?_); refine U.ret ?_; exact aR.one rfl aZ (dV (by rfl))
def cA (c : UInt8) (ss : List ByteArray) : ByteArray := DB (yE c (ss.map aS))
theorem abK {ss : List ByteArray} {p : ByteArray} (hp : p.size = 1) (h0 : 0 < ss.length) (h1 : ss.length <= 1000000) (h2 : (yE (eR p) (ss.map aS)).length <= 1000000000) : VF Tryz.prog OA 43 [.v (.sl .str) ss, St p] (St (cA (eR p) ss)) := by
  obtain ⟨c, rfl⟩ := one_byte hp; have e : rH (aS (DB [c])) (ss.map aS) = yE (eR (DB [c])) (ss.map aS) := KD _; have h := VF.join (P := Tryz.prog) (orc := OA) (f := 43) (ss := ss) (sep := DB [c]) (fun us h => rfl) h0 h1 (by rw [e]; exact h2); rw [e] at h; exact h
def pK (s : ByteArray) : Int := (((K8 (aS s)).getD 0 : Nat) : Int)
def iE (s : ByteArray) : Bool := (K8 (aS s)).isSome
theorem rZ {s : ByteArray} (h : (aS s = [] \/ 9 < (aS s).length) \/ (1 < (aS s).length /\ ((aS s).headD 0).toNat = 48) \/ (aS s).all mA = false) : pK s = 0 /\ iE s = false := by
  have e : K8 (aS s) = none := if_pos h; unfold pK iE; rw [e]; exact ⟨rfl, rfl⟩
theorem PZ {s : ByteArray} (h : ¬ ((aS s = [] \/ 9 < (aS s).length) \/ (1 < (aS s).length /\ ((aS s).headD 0).toNat = 48) \/ (aS s).all mA = false)) : pK s = ((pH (aS s) 0 : Nat) : Int) /\ iE s = true := by
  have e : K8 (aS s) = some (pH (aS s) 0) := if_neg h; unfold pK iE; rw [e]; exact ⟨rfl, rfl⟩
theorem yG {s : ByteArray} (h : 0 < (aS s).length) : bV s 0 = ((((aS s).headD 0).toNat : Nat) : Int) := by
  have h1 := qD (s := s) (i := 0) h
  have h2 : (aS s).headD 0 = (aS s)[0] := by
    generalize aS s = l at h
    cases l with
    | nil => simp at h
    | cons x r => rfl
  rw [h2]; exact h1
theorem ND {s : ByteArray} {i : Nat} (h : i < (aS s).length) : pH ((aS s).take (i + 1)) 0 = 10 * pH ((aS s).take i) 0 + (((aS s)[i]).toNat - 48) := by
  rw [List.take_succ_eq_append_getElem h, BI]
theorem YQ : ∀ (k : Nat) (w : List UInt8), w.length = k -> (∀ c ∈ w, mA c = true) -> pH w 0 < 10 ^ k
  | 0, w, hk, _ => by
    obtain rfl := List.eq_nil_of_length_eq_zero hk
    decide
  | k + 1, w, hk, hd => by
    obtain ⟨r, c, rfl⟩ := aeR (w := w) (fun e => by rw [e] at hk; simp at hk); have h1 := YQ k r (by simpa using hk) fun c hc => hd c (List.mem_append_left _ hc); have h2 := of_decide_eq_true (hd c (List.mem_append_right _ (List.mem_singleton.2 rfl))); rw [BI, Nat.pow_succ]; omega
theorem af7 {s : ByteArray} {i : Nat} (hi : i <= 9) (hs : i <= (aS s).length) (hd : ∀ c ∈ (aS s).take i, mA c = true) : pH ((aS s).take i) 0 < 1000000000 := by
  have h1 := YQ i ((aS s).take i) (by rw [List.length_take]; omega) hd; have h2 : 10 ^ i <= 10 ^ 9 := Nat.pow_le_pow_right (by decide) hi
  have h3 : (10 : Nat) ^ 9 = 1000000000 := by decide
  omega
theorem vG {s : ByteArray} : (((((s.size : Nat) : Int) = 0 \/ (9 : Int) < ((s.size : Nat) : Int)) \/ ((1 : Int) < ((s.size : Nat) : Int) /\ bV s 0 = 48))) ↔ ((aS s = [] \/ 9 < (aS s).length) \/ (1 < (aS s).length /\ ((aS s).headD 0).toNat = 48)) := by
  have hl := cU s
  have h0 : aS s = [] ↔ s.size = 0 := by rw [<- hl, List.length_eq_zero_iff]
  constructor
  . rintro ((h | h) | ⟨h1, h2⟩)
    . exact .inl (.inl (h0.2 (by omega)))
    . exact .inl (.inr (by omega))
    rw [yG (by omega)] at h2; exact .inr ⟨by omega, by omega⟩
  rintro ((h | h) | ⟨h1, h2⟩)
  . exact .inl (.inl (by have := h0.1 h; omega))
  . exact .inl (.inr (by omega))
  refine .inr ⟨by omega, ?_⟩; rw [yG (by omega)]; omega
theorem zN {s : ByteArray} {i : Nat} (h : i < (aS s).length) : mA (aS s)[i] = true ↔ ¬ (bV s ((i : Nat) : Int) < 48 \/ 57 < bV s ((i : Nat) : Int)) := by
  rw [qD h]; unfold mA; rw [decide_eq_true_eq]; omega
theorem YR {s : ByteArray} {i : Nat} (h : i < (aS s).length) (hd : ¬ mA (aS s)[i] = true) : (aS s).all mA = false := by
  cases hc : (aS s).all mA with
  | false => rfl
  | true => exact absurd (List.all_eq_true.1 hc _ (List.getElem_mem h)) hd
theorem TT {s : ByteArray} (hd : ∀ c ∈ aS s, mA c = true) : ¬ (aS s).all mA = false := by
  rw [List.all_eq_true.2 hd]; decide
theorem TU {s : ByteArray} (hs : s.size < 100000) : VF Tryz.prog OA 107 [St s] (.mE [I (pK s), B (iE s)]) := by
  refine VF.enter Tryz.func107 rfl (fun _ _ => rfl) rfl ?_; show U _ _ _ _ _ [(0, St s)] [] _; refine U.seq (U.text ?_); refine J.c (.assign rfl) (J.c (.assign rfl) ?_); refine J.go (U.seq (U.seq (U.text ?_))); have hl := cU s; have hh := yG (s := s); refine J.c (.move rfl) ?_; refine J.r (.gU) ?_; refine J.c (.eql) (J.c (.move rfl) ?_); refine J.cg (r := decide (((s.size : Nat) : Int) = (0 : Int))) (w := false) [] trivial (fun _ => (.move rfl)) ?_; refine J.rg (r := decide (((s.size : Nat) : Int) = (0 : Int))) (w := false) [(10, St s)] ⟨rfl, trivial⟩ (fun _ => (.gU)) ?_; refine J.cg (r := decide (((s.size : Nat) : Int) = (0 : Int))) (w := false) [(11, I ((s.size : Nat) : Int))] ⟨rfl, trivial⟩ (fun _ => (.gtr)) ?_; refine J.c (.or) (J.c (.move rfl) ?_); refine J.splitB (x := 14) rfl (fun af8 => ?_) (fun af8 => ?_)
  . try simp only [Bool.and_eq_true, Bool.or_eq_true, Bool.and_eq_false_iff, Bool.or_eq_false_iff, Bool.not_eq_true', Bool.not_eq_false', decide_eq_true_eq, decide_eq_false_iff_not] at af8
    refine J.skip (J.skip (J.skip (J.skip ?_))); refine J.skip (J.skip (J.skip (J.skip ?_))); refine J.c (.bS rfl rfl) (J.go ?_); refine U.jJ rfl ?_; refine U.seq (U.text ?_); refine J.c (.assign rfl) (J.c (.assign rfl) (J.go ?_)); refine U.ret ?_; exact aR.two rfl aZ aZ (cY (by exact (rZ (or_assoc.1 (.inl (vG.1 (by omega))))).1.symm)) (dV (by exact (rZ (or_assoc.1 (.inl (vG.1 (by omega))))).2.symm))
  try simp only [Bool.and_eq_true, Bool.or_eq_true, Bool.and_eq_false_iff, Bool.or_eq_false_iff, Bool.not_eq_true', Bool.not_eq_false', decide_eq_true_eq, decide_eq_false_iff_not] at af8
  refine J.c (.move rfl) ?_; refine J.r (.gU) ?_; refine J.c (.gtr) (J.c (.move rfl) ?_); refine J.cg (r := decide ((1 : Int) < ((s.size : Nat) : Int))) (w := true) [] trivial (fun _ => (.move rfl)) ?_; refine J.cg (r := decide ((1 : Int) < ((s.size : Nat) : Int))) (w := true) [(19, St s)] ⟨rfl, trivial⟩ (fun eW => have aq0 : (1 : Int) < ((s.size : Nat) : Int) := (by simpa using eW); (.PH rfl rfl (by omega) (by omega))) ?_; refine J.cg (r := decide ((1 : Int) < ((s.size : Nat) : Int))) (w := true) [(20, .v (.int .u8) (bV s (0 : Int)))] ⟨rfl, trivial⟩ (fun _ => (.eql)) ?_; refine J.c (.and) (J.c (.aU rfl rfl) (J.go ?_)); refine U.fO rfl (fun c1 => ?_) (fun c1 => ?_)
  . try simp only [Bool.and_eq_true, Bool.or_eq_true, Bool.and_eq_false_iff, Bool.or_eq_false_iff, Bool.not_eq_true', Bool.not_eq_false', decide_eq_true_eq, decide_eq_false_iff_not] at c1
    refine U.seq (U.text ?_); refine J.c (.assign rfl) (J.c (.assign rfl) (J.go ?_)); refine U.ret ?_; exact aR.two rfl aZ aZ (cY (by exact (rZ (or_assoc.1 (.inl (vG.1 (by omega))))).1.symm)) (dV (by exact (rZ (or_assoc.1 (.inl (vG.1 (by omega))))).2.symm))
  try simp only [Bool.and_eq_true, Bool.or_eq_true, Bool.and_eq_false_iff, Bool.or_eq_false_iff, Bool.not_eq_true', Bool.not_eq_false', decide_eq_true_eq, decide_eq_false_iff_not] at c1
  have hq : ¬ ((aS s = [] \/ 9 < (aS s).length) \/ (1 < (aS s).length /\ ((aS s).headD 0).toNat = 48)) := fun h => by have h2 := vG.2 h; omega
  refine U.skip (U.seq (U.text ?_)); refine J.c (.assign rfl) ?_; refine J.go (U.seq (U.seq (U.text ?_))); refine J.c (.assign rfl) ?_; refine J.go (U.block ?_); refine U.keep [(0, St s), (4, I ((pH ((aS s).take 0) 0 : Nat) : Int)), (5, I ((0 : Nat) : Int))] ⟨rfl, rfl, rfl, trivial⟩ ?_; refine U.loop (I := fun kk ff ss => ∃ (i : Nat), kk = s.size - i /\ ff = [(0, St s), (4, I ((pH ((aS s).take i) 0 : Nat) : Int)), (5, I ((i : Nat) : Int))] /\ ss = [] /\ (i <= s.size) /\ (∀ c ∈ (aS s).take i, mA c = true)) ?_ _ _ _ ⟨0, rfl, rfl, rfl, Nat.zero_le _, (by intro c hc; rw [List.take_zero] at hc; cases hc)⟩; rintro kk ff ss ⟨i, kI, rfl, rfl, hi, hd⟩; refine U.seq (U.seq (U.text ?_)); refine J.c (.move rfl) (J.c (.move rfl) ?_); refine J.r (.gU) ?_; refine J.c (.lss) (J.go ?_); refine U.aM rfl (fun c5 => ?_) (fun c5 => ?_)
  . have hit : i < (aS s).length := by omega
    have rE := qD hit; have hbr := D1 s ((i : Nat) : Int); have hvb := af7 (s := s) (i := i) (by omega) (by omega) hd; have hvt := ND hit; refine U.skip (U.seq (U.block (U.seq (U.seq (U.text ?_))))); refine J.c (.move rfl) (J.c (.move rfl) (J.c (.PH rfl rfl (by omega) (by omega)) (J.c (.lss) ?_))); refine J.c (.move rfl) ?_; refine J.cg (r := decide ((bV s ((i : Nat) : Int)) < (48 : Int))) (w := false) [] trivial (fun _ => (.move rfl)) ?_; refine J.cg (r := decide ((bV s ((i : Nat) : Int)) < (48 : Int))) (w := false) [] trivial (fun _ => (.move rfl)) ?_; refine J.cg (r := decide ((bV s ((i : Nat) : Int)) < (48 : Int))) (w := false) [(35, St s), (36, I ((i : Nat) : Int))] ⟨rfl, rfl, trivial⟩ (fun eW => have aqK : ¬ ((bV s ((i : Nat) : Int)) < (48 : Int)) := (by simpa using eW); (.PH rfl rfl (by omega) (by omega))) ?_; refine J.cg (r := decide ((bV s ((i : Nat) : Int)) < (48 : Int))) (w := false) [(37, .v (.int .u8) (bV s ((i : Nat) : Int)))] ⟨rfl, trivial⟩ (fun _ => (.gtr)) ?_; refine J.c (.or) (J.go ?_); refine U.fO rfl (fun c7 => ?_) (fun c7 => ?_)
    . try simp only [Bool.and_eq_true, Bool.or_eq_true, Bool.and_eq_false_iff, Bool.or_eq_false_iff, Bool.not_eq_true', Bool.not_eq_false', decide_eq_true_eq, decide_eq_false_iff_not] at c7
      have mR := rZ (.inr (.inr (YR hit (fun h => (zN hit).1 h c7)))); refine U.seq (U.text ?_); refine J.c (.assign rfl) (J.c (.assign rfl) (J.go ?_)); refine U.ret ?_; exact aR.two rfl aZ aZ (cY (by exact mR.1.symm)) (dV (by exact mR.2.symm))
    try simp only [Bool.and_eq_true, Bool.or_eq_true, Bool.and_eq_false_iff, Bool.or_eq_false_iff, Bool.not_eq_true', Bool.not_eq_false', decide_eq_true_eq, decide_eq_false_iff_not] at c7
    have hdi : mA (aS s)[i] = true := (zN hit).2 (by omega); refine U.skip (U.text ?_); refine J.c (.move rfl) (J.c (.mul rfl rfl (by omega)) (J.c (.move rfl) (J.c (.move rfl) ?_))); refine J.c (.PH rfl rfl (by omega) (by omega)) (J.c (.akH rfl rfl (af6 (by omega))) (J.c (.W3 rfl .i64 (by exact wrap64 (by omega) (by omega))) (J.c (.add rfl rfl (by omega)) ?_))); refine J.c (.assign rfl) ?_; refine J.nil (U.text ?_); refine J.c (.move rfl) (J.c (.add rfl rfl (by omega)) (J.c (.assign rfl) ?_)); refine J.nil ?_; refine ⟨_, [(0, St s), (4, I ((pH ((aS s).take (i + 1)) 0 : Nat) : Int)), (5, I (((i + 1) : Nat) : Int))], ?_, ⟨rfl, slI rfl (by rw [hvt]; omega), rfl, trivial⟩, (i + 1), rfl, rfl, rfl, (by omega), (by rw [List.take_succ_eq_append_getElem (by omega)]; intro c hc; rcases List.mem_append.1 hc with h | h; exact hd c h; rw [List.mem_singleton.1 h]; exact hdi)⟩; omega
  have fU : (aS s).take i = aS s := List.take_of_length_le (by omega); rw [fU] at hd; have akI := PZ (fun h => (or_assoc.2 h).elim hq (TT hd)); refine U.exit (U.seq (U.text ?_)); refine J.c (.move rfl) (J.c (.assign rfl) (J.c (.assign rfl) (J.go ?_))); refine U.ret ?_; exact aR.two rfl aZ aZ (cY (by rw [fU]; exact akI.1.symm)) (dV (by exact akI.2.symm))
end Go.Proofs
namespace Go.Proofs
open Go.Fs
set_option maxHeartbeats 1000000
def DC (s : ByteArray) : Int := if (aS s).all mA = true /\ (aS s).length <= 9 then ((pH (aS s) 0 : Nat) : Int) else 0
theorem abL {s : ByteArray} {p : Nat} (h : ¬ (((((Utf8.decode s p).1 : Nat) : Int) < 48) \/ 57 < (((Utf8.decode s p).1 : Nat) : Int))) : (((Utf8.decode s p).1 : Nat) : Int) = bV s ((p : Nat) : Int) /\ (Utf8.decode s p).2 = 1 := by
  by_cases hl : (s.get! p).toNat < 128
  . rw [tW hl]; exact ⟨rfl, rfl⟩
  have := Go.Fs.decode_high hl; omega
theorem af9 {s : ByteArray} {p : Nat} (h : (((((Utf8.decode s p).1 : Nat) : Int) < 48) \/ 57 < (((Utf8.decode s p).1 : Nat) : Int))) : bV s ((p : Nat) : Int) < 48 \/ 57 < bV s ((p : Nat) : Int) := by
  by_cases hl : (s.get! p).toNat < 128
  . rw [tW hl] at h; exact h
  rw [B9]; omega
theorem afA {s : ByteArray} (h : (aS s).all mA = false \/ 9 < (aS s).length) : DC s = 0 /\ iE s = false := by
  refine ⟨if_neg fun hh => ?_, (rZ (h.elim (fun h => .inr (.inr h)) fun h => .inl (.inr h))).2⟩; rcases h with h | h
  . rw [hh.1] at h; cases h
  omega
theorem abM {s : ByteArray} (hd : ∀ c ∈ aS s, mA c = true) (h9 : (aS s).length <= 9) : DC s = ((pH (aS s) 0 : Nat) : Int) := if_pos ⟨List.all_eq_true.2 hd, h9⟩
theorem abN {s : ByteArray} (hd : ∀ c ∈ aS s, mA c = true) (h9 : (aS s).length <= 9) : iE s = decide (0 < s.size /\ (s.size = 1 \/ bV s 0 ≠ 48)) := by
  have hl := cU s; by_cases h : 0 < s.size /\ (s.size = 1 \/ bV s 0 ≠ 48)
  . rw [decide_eq_true h]; refine (PZ fun hh => ?_).2; rcases hh with (hh | hh) | ⟨h1, h2⟩ | hh
    . rw [hh] at hl; simp at hl; omega
    . omega
    . have := yG (s := s) (by omega); omega
    exact TT hd hh
  rw [decide_eq_false h]; refine (rZ ?_).2; by_cases h0 : 0 < s.size
  . have := yG (s := s) (by omega); exact .inr (.inl ⟨by omega, by omega⟩)
  exact .inl (.inl (List.eq_nil_of_length_eq_zero (by omega)))
theorem afB {s : ByteArray} (hs : s.size < 100000) : VF Tryz.prog OA 140 [St s] (.mE [I (DC s), B (iE s)]) := by
  refine VF.enter Tryz.func140 rfl (fun _ _ => rfl) rfl ?_; show U _ _ _ _ _ [(0, St s)] [] _; refine U.seq (U.text ?_); refine J.c (.assign rfl) (J.c (.assign rfl) ?_); refine J.go (U.seq (U.text ?_)); have hl := cU s; refine J.c (.assign rfl) ?_; refine J.go (U.seq (U.seq (U.text ?_))); refine J.c (.move rfl) ?_; refine J.cell (.rng) ?_; intro dE; refine J.go (U.block ?_); refine U.keep [(0, St s), (4, I ((pH ((aS s).take 0) 0 : Nat) : Int)), (8, .raw dE)] ⟨rfl, rfl, rfl, trivial⟩ ?_; refine U.loop (I := fun kk ff ss => ∃ (p : Nat), kk = s.size - p /\ ff = [(0, St s), (4, I ((pH ((aS s).take p) 0 : Nat) : Int)), (8, .raw dE)] /\ ss = [(dE, .it s p)] /\ (p <= s.size) /\ (∀ c ∈ (aS s).take p, mA c = true) /\ (p = 0 \/ s.size <= 9)) ?_ _ _ _ ⟨0, rfl, rfl, rfl, Nat.zero_le _, (by intro c hc; rw [List.take_zero] at hc; cases hc), (by omega)⟩; rintro kk ff ss ⟨p, kI, rfl, rfl, hp, hd, h9⟩; refine U.seq (U.text ?_); refine J.next rfl (fun ap6 => ?_) (fun ap6 => ?_)
  . refine J.c (.extract) ?_; refine J.go (U.seq ?_); refine U.jJ rfl ?_; refine U.skip (U.block (U.seq (U.text ?_)))
    have hit : p < (aS s).length := by omega
    have rE := qD hit; have hbr := D1 s ((p : Nat) : Int); have hvt := ND hit; refine J.c (.extract) (J.c (.assign rfl) ?_); refine J.go (U.seq (U.seq (U.text ?_))); refine J.c (.move rfl) (J.c (.lss) (J.c (.move rfl) ?_)); refine J.cg (r := decide ((((Utf8.decode s p).1 : Nat) : Int) < (48 : Int))) (w := false) [] trivial (fun _ => (.move rfl)) ?_; refine J.cg (r := decide ((((Utf8.decode s p).1 : Nat) : Int) < (48 : Int))) (w := false) [(15, .v (.int .i32) (((Utf8.decode s p).1 : Nat) : Int))] ⟨rfl, trivial⟩ (fun _ => (.gtr)) ?_; refine J.c (.or) (J.c (.move rfl) ?_); refine J.cg (r := ((decide ((((Utf8.decode s p).1 : Nat) : Int) < (48 : Int))) || (decide ((57 : Int) < (((Utf8.decode s p).1 : Nat) : Int))))) (w := false) [] trivial (fun _ => (.move rfl)) ?_; refine J.rg (r := ((decide ((((Utf8.decode s p).1 : Nat) : Int) < (48 : Int))) || (decide ((57 : Int) < (((Utf8.decode s p).1 : Nat) : Int))))) (w := false) [(19, St s)] ⟨rfl, trivial⟩ (fun _ => (.gU)) ?_; refine J.cg (r := ((decide ((((Utf8.decode s p).1 : Nat) : Int) < (48 : Int))) || (decide ((57 : Int) < (((Utf8.decode s p).1 : Nat) : Int))))) (w := false) [(20, I ((s.size : Nat) : Int))] ⟨rfl, trivial⟩ (fun _ => (.gtr)) ?_; refine J.c (.or) (J.go ?_); refine U.fO rfl (fun c5 => ?_) (fun c5 => ?_)
    . try simp only [Bool.and_eq_true, Bool.or_eq_true, Bool.and_eq_false_iff, Bool.or_eq_false_iff, Bool.not_eq_true', Bool.not_eq_false', decide_eq_true_eq, decide_eq_false_iff_not] at c5
      have mR := afA (s := s) (by
        by_cases h7 : 9 < (aS s).length
        . exact .inr h7
        exact .inl (YR hit fun h => (zN hit).1 h (af9 (by omega))))
      refine U.seq (U.text ?_); refine J.c (.assign rfl) (J.c (.assign rfl) (J.go ?_)); refine U.ret ?_; exact aR.two rfl aZ aZ (cY (by exact mR.1.symm)) (dV (by exact mR.2.symm))
    try simp only [Bool.and_eq_true, Bool.or_eq_true, Bool.and_eq_false_iff, Bool.or_eq_false_iff, Bool.not_eq_true', Bool.not_eq_false', decide_eq_true_eq, decide_eq_false_iff_not] at c5
    have pN := abL (s := s) (p := p) (by omega); have hdi : mA (aS s)[p] = true := (zN hit).2 (by omega); have hvb := af7 (s := s) (i := p) (by omega) (by omega) hd; refine U.skip (U.text ?_); refine J.c (.move rfl) (J.c (.mul rfl rfl (by omega)) (J.c (.move rfl) (J.c (.akH rfl rfl (wrap32 (by omega))) ?_))); refine J.c (.W3 rfl .i64 (by exact wrap64 (by omega) (by omega))) (J.c (.add rfl rfl (by omega)) (J.c (.assign rfl) ?_)); refine J.nil ?_; refine ⟨_, [(0, St s), (4, I ((pH ((aS s).take (p + 1)) 0 : Nat) : Int)), (8, .raw dE)], ?_, ⟨rfl, slI rfl (by rw [hvt]; omega), rfl, trivial⟩, (p + 1), rfl, rfl, (by rw [pN.2]), (by omega), (by rw [List.take_succ_eq_append_getElem (by omega)]; intro c hc; rcases List.mem_append.1 hc with h | h; exact hd c h; rw [List.mem_singleton.1 h]; exact hdi), (by omega)⟩; omega
  refine J.c (.akC) ?_; refine J.go (U.seq ?_); refine U.eB rfl ?_; refine U.exit (U.seq (U.drawn ?_)); have fU : (aS s).take p = aS s := List.take_of_length_le (by omega); rw [fU] at hd
  have h9l : (aS s).length <= 9 := by omega
  have hyp := abM hd h9l; have hyk := abN hd h9l; refine VD.c (.move rfl) (VD.c (.move rfl) (VD.c (.MN) (VD.c (.move rfl) ?_))); refine VD.iW (x := 32) rfl (fun GR => ?_) (fun GR => ?_)
  . refine VD.c (.move rfl) (VD.nw [] ?_); refine VD.r [] (.gU) (.inl rfl) ?_; refine VD.c (.eql) (VD.c (.move rfl) ?_); refine VD.iW (x := 36) rfl (fun ap7 => ?_) (fun ap7 => ?_)
    . refine VD.skip (VD.skip (VD.skip (VD.nw [] ?_))); refine VD.c (.bS rfl rfl) (VD.c (.bS rfl rfl) (VD.c (.assign rfl) (VD.c (.assign rfl) ?_))); refine VD.go ?_; refine U.ret ?_; exact aR.two rfl aZ aZ (cY (by rw [fU]; exact hyp.symm)) (dV (by rw [hyk]; first | (symm; apply decide_eq_true; omega) | (have h6 := size_empty.1 GR; apply decide_eq_decide.2; omega) | (symm; apply decide_eq_false; intro hh; apply GR; apply size_empty.2; omega)))
    refine VD.c (.move rfl) (VD.c (.PH rfl rfl (by omega) (by have h6 := size_empty.1 GR; omega)) (VD.c (.neq) (VD.nw [] ?_))); refine VD.c (.aU rfl rfl) (VD.c (.bS rfl rfl) (VD.c (.assign rfl) (VD.c (.assign rfl) ?_))); refine VD.go ?_; refine U.ret ?_; exact aR.two rfl aZ aZ (cY (by rw [fU]; exact hyp.symm)) (dV (by rw [hyk]; first | (symm; apply decide_eq_true; omega) | (have h6 := size_empty.1 GR; apply decide_eq_decide.2; omega) | (symm; apply decide_eq_false; intro hh; apply GR; apply size_empty.2; omega)))
  refine VD.skip (VD.nw [] (VD.skip (VD.skip ?_))); refine VD.skip (VD.skip (VD.skip (VD.skip ?_))); refine VD.skip (VD.nw [] (VD.c (.aU rfl rfl) (VD.c (.assign rfl) ?_))); refine VD.c (.assign rfl) (VD.go ?_); refine U.ret ?_; exact aR.two rfl aZ aZ (cY (by rw [fU]; exact hyp.symm)) (dV (by rw [hyk]; first | (symm; apply decide_eq_true; omega) | (have h6 := size_empty.1 GR; apply decide_eq_decide.2; omega) | (symm; apply decide_eq_false; intro hh; apply GR; apply size_empty.2; omega)))
end Go.Proofs
namespace Go.Fs
variable {P : Program} {σ : aG} {fl : VL} {x : Operand} {w : Value} {T : TypeId} {h h2 : Heap} {S S' : List Nat} {τ eP : Ty}
theorem aK.eD {cs : List PV} (hm : (w, Cell.var cs) ∈ σ) (hx : b9 fl x = some (.raw w) := by rfl) : aK P fl σ (.nilCheck x) (.raw w) :=
  ⟨rfl, fun h S t hs hc => by
    have h1 : aB t x = w := hs x (by simp [Op.operands]) _ hx; obtain ⟨b, e, vs, h3, _⟩ := hc _ hm; have h3 : w = .pointer (some ⟨b, 0, none⟩) := h3; refine ⟨_, rfl, fun _ _ _ _ _ H => ?_⟩; show (match aB t x with | .pointer (some a) => some (Value.pointer (some a), H) | .func (.func f) a b => some (.func (.func f) a b, H) | _ => none) = _
    rw [h1, h3]⟩
theorem vH {a a' : τ.den} {c c' : eP.den} (h h2 : Heap) (S : List Nat) (hg : ∀ z ∈ [(w, Cell.var [.v τ a, .v eP c])], bA h (own [(w, Cell.var [.v τ a, .v eP c])] ++ S) z.1 z.2)
    (hs : ∀ z ∈ [(w, Cell.var [.v τ a', .v eP c'])], bA h2 (own [(w, Cell.var [.v τ a', .v eP c'])] ++ S) z.1 z.2)
    (hk : ∀ b' ∈ own [(w, Cell.var [.v τ a, .v eP c])], h2.get b' = h.get b') (hx : ∀ b o, h.get b = some o -> h2.get b = some o) :
    (∀ b' ∈ own [(w, Cell.var [.v τ a', .v eP c'])], b' ∈ own [(w, Cell.var [.v τ a, .v eP c])]) /\ ∀ z ∈ [(w, Cell.var [.v τ a', .v eP c'])], bA h (own [(w, Cell.var [.v τ a', .v eP c'])] ++ S) z.1 z.2 := by
  obtain ⟨b, e, vs, g1, g2, g3, g4, g5⟩ := hg _ List.mem_cons_self; obtain ⟨b2, e2, vs2, s1, s2, s3, s4, s5⟩ := hs _ List.mem_cons_self; have g1 : w = .pointer (some ⟨b, 0, none⟩) := g1; have s1 : w = .pointer (some ⟨b2, 0, none⟩) := s1
  have hb : b2 = b := by
    rw [g1] at s1; injection s1 with s1; injection s1 with s1; injection s1 with s1; exact s1.symm
  subst hb; have h7 := hk b2 (by rw [bZ]; exact List.mem_append_left _ (by rw [g1]; simp [cI])); rw [s3, g3] at h7; injection h7 with h7; injection h7 with _ h8; subst h8; obtain ⟨u1, r1, rfl, p1, u2, r2, rfl, p2, p3⟩ := g4; obtain ⟨v1, q1, e1, k1, v2, q2, e3, k2, k3⟩ := s4; injection e1 with e1 e4; subst e1 e4; injection e3 with e5 e6; subst e5 e6; obtain rfl : a = a' := cR.same hx p1.2 k1.2; obtain rfl : c = c' := cR.same hx p2.2 k2.2; exact ⟨fun _ hb => hb, hg⟩
end Go.Fs
namespace Go.Fs
variable {P : Program} {orc : FuncId -> List Value -> Heap -> Option (Value × Heap)} {τ : Ty}
end Go.Fs
namespace Go.Fs
variable {P : Program} {fl : VL} {σ γ : aG} {Q : PV -> aG -> Prop} {fn : Func} {τ : Ty}
end Go.Fs
namespace Go.Fs
variable {P : Program} {orc : FuncId -> List Value -> Heap -> Option (Value × Heap)} {aV : Option Nat} {h h' h0 h1 h2 : Heap} {S S' S0 B G : List Nat} {σ aJ : aG} {t t' : Tr} {ms : List Nat} {fl : VL} {ops : Array Oper} {n : Nat} {l : List Oper} {K : VL -> aG -> Prop} {Q : Ex -> VL -> aG -> Prop}
  {d : Tmp} {ty : TypeId} {pos : String} {after : Array Edge} {op : Op} {v : PV} {g : Option (Nat × Bool)}
end Go.Fs
namespace Go.Fs
variable {P : Program} {orc : FuncId -> List Value -> Heap -> Option (Value × Heap)} {aV : Option Nat} {h h' h0 h1 h2 : Heap} {S S' S0 B G : List Nat} {σ aJ : aG} {t t' : Tr} {ms : List Nat} {fl : VL} {ops : Array Oper} {n : Nat} {l : List Oper} {K : VL -> aG -> Prop} {Q : Ex -> VL -> aG -> Prop}
  {d : Tmp} {ty : TypeId} {pos : String} {after : Array Edge} {op : Op} {v : PV} {g : Option (Nat × Bool)} {w : Value} {x : Operand}
theorem X5 {m : Nat} {s1 d1 : TypeId} {u : Value} {r : Value × Heap} (hu : aB t x = u) (nJ : af u = false) (hl : sG P ⟨some d, .convert s1 d1 x, ty, pos, after, g⟩ (aB t) h = none) (hs : sH P ⟨some d, .convert s1 d1 x, ty, pos, after, g⟩ (aB t) h = some r) : uA P orc m ⟨some d, .convert s1 d1 x, ty, pos, after, g⟩ (aB t) h = some r := by
  unfold uA rC
  have e1 : cP P (dX P orc (dA P orc m)) (dW (dA P orc m)) ⟨some d, .convert s1 d1 x, ty, pos, after, g⟩ (aB t) h = none := by
    show (if af (aB t x) = true then _ else none) = none; rw [hu, nJ]; rfl
  rw [e1]; unfold xE; rw [hl, hs]
theorem J.ap8 {s1 d1 e1 e : TypeId} {acc : ByteArray} (hx : b9 fl x = some (.raw w)) (hm : (w, Cell.row e (.int .u8) (aW acc)) ∈ σ) (hp : 0 < acc.size) (hs : P.underlying s1 = some (.slice e1)) (he : P.underlying e1 = some (.int .u8)) (hd : P.underlying d1 = some .string) (cL : s1 ≠ d1)
    (hk : J P orc ops n l ((d, .v .str acc) :: fl) σ K) (hw : dU ops fl g = some true := by rfl) (hn : (Nat.blt d n && Nat.ble n 4000) = true := by rfl) :
    J P orc ops n (⟨some d, .convert s1 d1 x, ty, pos, after, g⟩ :: l) fl σ K := fun h0 G S0 t h ms I => by
  obtain ⟨n1, n2⟩ := fits hn; have hv : aB t x = w := dP I.aH hx; have H7 := j5 acc; rcases I.cells _ hm with ⟨_, h4⟩ | ⟨b, rs, mm, h3, h4, h5, h6⟩
  . have h4 : aW acc = [] := h4; rw [h4] at H7; simp at H7; omega
  have h3 : w = .slice (some ⟨b, 0, none⟩) (aW acc).length 0 := h3; have hrs := F9 h6
  have LH : rs.length = (aW acc).length := by rw [hrs, List.length_map]
  have iJ : l9 (rs.take (aW acc).length) = some acc.data.toList := by
    rw [List.take_of_length_le (by omega), hrs]; exact N5 acc
  have ap9 : Nat.beq s1 d1 = false := by
    cases hb : Nat.beq s1 d1 with
    | false => rfl
    | true => exact absurd (bI hb) cL
  have nJ : af w = false := by
    rw [h3]; cases hx : (aW acc).length <;> rfl
  have hB : sG P ⟨some d, .convert s1 d1 x, ty, pos, after, g⟩ (aB t) h = none := by
    unfold sG; simp only [hv, h3, hs, he, h5]
    cases mm with
    | true => rfl
    | false => simp only [ap9, Bool.false_and, cond_false]
  have hS : sH P ⟨some d, .convert s1 d1 x, ty, pos, after, g⟩ (aB t) h = some (.string acc, h) := by
    have e1 : Nat.ble (aW acc).length rs.length = true := by rw [Nat.ble_eq]; omega
    unfold sH; simp only [hv, h3, hs, he, hd, h5, e1, cond_true, iJ, Option.map_some]
  obtain ⟨m, t2, h2, hr, hq⟩ := hk h0 G S0 _ h ms (I.set (show aI h _ (.v .str acc) (.string acc) from aF.ofStr _) n2); refine ⟨m, t2, h2, ?_, hq⟩; simp only [nV, dC (o := ⟨some d, .convert s1 d1 x, ty, pos, after, g⟩) I.aH hw, X5 (orc := orc) (m := m) hv nJ hB hS, cE n1 t]; exact hr
end Go.Fs
namespace Go.Proofs
open Go.Fs
set_option maxHeartbeats 1000000
theorem qE {k : Nat} (h : k < 1000000000000000000) : fW ((k : Nat) : Int) = DB (tC k) := by
  unfold fW; rw [X3 h]
theorem abO {n : Int} (h : 0 <= n /\ n < 10) : aW (fW n) = [48 + n] /\ (fW n).size = 1 := by
  obtain ⟨k, rfl⟩ := Int.eq_ofNat_of_zero_le h.1
  have e : fW ((k : Nat) : Int) = DB [x5 k] := by rw [qE (by omega), nR (by omega)]
  rw [e]; refine ⟨?_, rfl⟩; show [(((x5 k).toNat : Nat) : Int)] = _; rw [vE (by omega)]; congr 1
theorem abP {n : Int} (h : 10 <= n /\ n < 1000000000000000000) : fW (n.tdiv 10) ++ fW (n.tmod 10) = fW n := by
  obtain ⟨k, rfl⟩ := Int.eq_ofNat_of_zero_le (show 0 <= n by omega)
  have e1 : (((k : Nat) : Int)).tdiv 10 = ((k / 10 : Nat) : Int) := by rw [Int.tdiv_eq_ediv_of_nonneg (by omega)] <;> rfl
  have e2 : (((k : Nat) : Int)).tmod 10 = ((k % 10 : Nat) : Int) := by rw [Int.tmod_eq_emod_of_nonneg (by omega)] <;> rfl
  rw [e1, e2, qE (by omega), qE (by omega), qE (by omega)]; apply tE; rw [lL, pI, pI, pI, tD (n := k) (by omega), nR (n := k % 10) (by omega)]
theorem tG {n : Int} (h : 0 <= n /\ n < 1000000000000000000) : (fW n).size <= 19 := by
  obtain ⟨k, rfl⟩ := Int.eq_ofNat_of_zero_le h.1; rw [qE (by omega), <- cU, pI]; refine TM 18 k ?_
  have : (10 : Nat) ^ (18 + 1) = 10000000000000000000 := by decide
  omega
theorem X6 {n : Int} (h0 : 0 <= n /\ n < 1000000000000000000) (ih : ∀ {m : Int}, 0 <= m -> m < n -> VF Tryz.prog OA 55 [I m] (St (fW m))) : VF Tryz.prog OA 55 [I n] (St (fW n)) := by
  refine VF.enter Tryz.func55 rfl (fun _ _ => rfl) rfl ?_; show U _ _ _ _ _ [(0, I n)] [] _; refine U.seq (U.text ?_); refine J.c (.assign rfl) ?_; refine J.go (U.seq (U.seq (U.text ?_))); refine J.c (.move rfl) (J.c (.gtr) (J.go ?_)); refine U.aM rfl (fun c1 => ?_) (fun c1 => ?_)
  . have hq := Int.tdiv_eq_ediv_of_nonneg (a := n) (b := 10) (by omega); have hr := Int.tmod_eq_emod_of_nonneg (a := n) (b := 10) (by omega); have xO := tG (n := n.tdiv 10) (by omega); have hs2 := tG (n := n.tmod 10) (by omega); refine U.seq (U.text ?_); refine J.c (.move rfl) (J.c (.quo rfl rfl (by omega) (by omega)) ?_); refine J.call rfl rfl (VF.call (ih (by omega) (by omega))) ?_; refine J.c (.move rfl) (J.c (.rem rfl rfl (by omega)) ?_); refine J.call rfl rfl (VF.call (ih (by omega) (by omega))) ?_; refine J.c (.nQ (p := (fW (n.tdiv (10 : Int)))) (q := (fW (n.tmod (10 : Int)))) (by omega)) (J.c (.assign rfl) (J.go ?_)); refine U.ret ?_; exact aR.one rfl aZ (dV (by exact abP (n := n) (by omega)))
  refine U.skip (U.seq (U.seq (U.text ?_))); refine J.c (.move rfl) (J.c (.lss) (J.go ?_)); refine U.aM rfl (fun c3 => ?_) (fun c3 => ?_)
  . omega
  refine U.skip (U.seq (U.seq (U.text ?_))); refine J.c (.move rfl) (J.c (.lss) (J.go ?_)); refine U.aM rfl (fun c5 => ?_) (fun c5 => ?_)
  . omega
  refine U.skip (U.seq (U.text ?_)); have DQ := abO (n := n) (by omega); refine J.c (.move rfl) (J.c (.add rfl rfl (by omega)) (J.c (.W3 rfl .u8 (by exact af6 (by omega))) ?_)); refine J.cell (.lit [((48 : Int) + n)] YO) ?_; intro dE; refine J.ap8 (e1 := 5) (acc := fW n) rfl (by rw [DQ.1]; exact m0) (by omega) (by kernel_rfl) (by kernel_rfl) (by kernel_rfl) (by decide) ?_; refine J.c (.assign rfl) (J.go ?_); refine U.ret ?_; exact aR.one rfl aZ (dV (by rfl))
theorem YS : ∀ (k : Nat) {n : Int}, 0 <= n -> n < 1000000000000000000 -> n.toNat < k -> VF Tryz.prog OA 55 [I n] (St (fW n))
  | 0, n, _, _, h => by omega
  | k + 1, n, h0, h1, h => X6 ⟨h0, h1⟩ fun {m} hm hn => YS k hm (by omega) (by omega)
theorem NF {n : Int} (h : 0 <= n /\ n < 1000000000000000000) : VF Tryz.prog OA 55 [I n] (St (fW n)) := YS _ h.1 h.2 (Nat.lt_succ_self _)
end Go.Proofs
namespace Go.Proofs
open Go.Fs
set_option maxHeartbeats 1000000
def TV : ByteArray := ⟨#[32]⟩
def r5 : ByteArray := ⟨#[10]⟩
def dD (w : List ByteArray) (k : Nat) : ByteArray := w.getD k ByteArray.empty
theorem gP {W : List ByteArray} {k : Nat} (h : k < W.length) : dD W k = W[k] := by simp [dD, h]
theorem NG {s : ByteArray} {c : UInt8} (h : 0 <= Go.Lib.indexByte (aS s) c) : dL c s = tF c s :: dL c (pJ c s) := by
  obtain ⟨k, hk⟩ := Int.eq_ofNat_of_zero_le h; unfold tF pJ; rw [if_neg (by omega), if_neg (by omega), hk, Int.toNat_natCast]; exact N9 hk
theorem TW {s : ByteArray} {c : UInt8} (h : ¬ 0 <= Go.Lib.indexByte (aS s) c) : dL c s = [s] := TP (by omega)
theorem abQ {c : UInt8} : dL c ByteArray.empty = [ByteArray.empty] := rfl
theorem yH {c : UInt8} {s : ByteArray} : dL c s ≠ [] := by
  unfold dL; intro h; exact PU (s := c) (aS s) (List.map_eq_nil_iff.1 h)
theorem X7 {s : ByteArray} {c : UInt8} (h : 0 <= Go.Lib.indexByte (aS s) c) : (pJ c s).size < s.size := by
  have b7 := PW (s := s) (c := c); unfold pJ; rw [if_neg (by omega)]; have h7 := congrArg List.length (sD s ((Go.Lib.indexByte (aS s) c).toNat + 1)); rw [cU, List.length_drop, cU] at h7; omega
theorem X8 {s : ByteArray} {c : UInt8} : (tF c s).size <= s.size := by
  unfold tF; split
  . exact Nat.le_refl _
  rw [<- cU, sC, List.length_take, cU]; exact Nat.min_le_right _ _
theorem u4 : iE ByteArray.empty = false := (rZ (.inl (.inl rfl))).2
theorem DD {c : UInt8} : ∀ (l : List UInt8), ∀ w ∈ kH c l, w.length <= l.length
  | [], w, hw => by
    rw [show kH c [] = [[]] from rfl, List.mem_singleton] at hw
    subst hw; exact Nat.le_refl _
  | x :: r, w, hw => by
    by_cases h : x = c
    . subst h; rw [K9] at hw; rcases List.mem_cons.1 hw with rfl | hw
      . exact Nat.zero_le _
      exact Nat.le_succ_of_le (DD r w hw)
    cases hr : kH c r with
    | nil => exact absurd hr (PU r)
    | cons v l =>
      rw [zL h hr] at hw; have hv := DD r v (by rw [hr]; exact List.mem_cons_self); rcases List.mem_cons.1 hw with rfl | hw
      . simp only [List.length_cons]; omega
      exact Nat.le_succ_of_le (DD r w (by rw [hr]; exact List.mem_cons_of_mem _ hw))
theorem BJ {c : UInt8} {s : ByteArray} : ∀ w ∈ dL c s, w.size <= s.size := fun w hw => by
  obtain ⟨v, hv, rfl⟩ := List.mem_map.1 hw; have h1 := DD (aS s) v hv; rw [cU] at h1; rw [<- cU, pI]; exact h1
theorem zO {c : UInt8} {s : ByteArray} : (dL c s).length <= s.size + 1 := by
  rw [N8]; have := List.count_le_length (a := c) (l := aS s); rw [cU] at this; omega
def TX (w : ByteArray) : Prop := ∀ c ∈ aS w, c ≠ 32 /\ c ≠ 10
theorem abR {n : Int} (h : 0 <= n /\ n < 1000000000000000000) : TX (fW n) := by
  obtain ⟨k, rfl⟩ := Int.eq_ofNat_of_zero_le h.1; intro c hc; rw [qE (by omega), pI] at hc; have h1 := of_decide_eq_true (TL k c hc); constructor
  . rintro rfl; revert h1; decide
  rintro rfl; revert h1; decide
theorem abS {n : Int} (h : 0 <= n /\ n < 1000000000) : iE (fW n) = true /\ pK (fW n) = n := by
  obtain ⟨k, rfl⟩ := Int.eq_ofNat_of_zero_le h.1
  have e : (10 : Nat) ^ 9 = 1000000000 := by decide
  have h1 : K8 (aS (fW ((k : Nat) : Int))) = some k := by
    rw [qE (by omega), pI]; exact aeQ (by omega)
  unfold iE pK; rw [h1]; exact ⟨rfl, rfl⟩
section
variable {β : Type}
def oI (f : β -> ByteArray -> Option β) : List ByteArray -> β -> Nat -> Option β × Nat
  | [], b, i => (some b, i)
  | [x], b, i => if x = ByteArray.empty then (some b, i) else (none, i)
  | x :: y :: r, b, i => match f b x with
    | some b' => oI f (y :: r) b' (i + 1)
    | none => (none, i)
variable {f : β -> ByteArray -> Option β} {b b' : β} {i j : Nat} {x y s : ByteArray} {r L ls : List ByteArray}
theorem KE (h : f b x = some b') : oI f (x :: y :: r) b i = oI f (y :: r) b' (i + 1) := by
  show (match f b x with | some b' => _ | none => _) = _; rw [h]
theorem GS (h : f b x = none) : oI f (x :: y :: r) b i = (none, i) := by
  show (match f b x with | some b' => _ | none => _) = _; rw [h]
theorem KF (h : x = ByteArray.empty) : oI f [x] b i = (some b, i) := if_pos h
theorem KG (h : x ≠ ByteArray.empty) : oI f [x] b i = (none, i) := if_neg h
theorem abT : oI f (dL 10 ByteArray.empty) b i = (some b, i) := by
  rw [abQ]; exact KF rfl
theorem X9 (hs : s ≠ ByteArray.empty) (h : ¬ 0 <= Go.Lib.indexByte (aS s) 10) : oI f (dL 10 s) b i = (none, i) := by
  rw [TW h]; exact KG hs
theorem XA (h : 0 <= Go.Lib.indexByte (aS s) 10) (hb : f b (tF 10 s) = some b') : oI f (dL 10 s) b i = oI f (dL 10 (pJ 10 s)) b' (i + 1) := by
  rw [NG h]
  cases hr : dL 10 (pJ 10 s) with
  | nil => exact absurd hr yH
  | cons y r => exact KE hb
theorem abU (h : 0 <= Go.Lib.indexByte (aS s) 10) (hb : f b (tF 10 s) = none) : oI f (dL 10 s) b i = (none, i) := by
  rw [NG h]
  cases hr : dL 10 (pJ 10 s) with
  | nil => exact absurd hr yH
  | cons y r => exact GS hb
theorem afC (h : i + 1 < L.length) (hb : f b L[i] = some b') : oI f (L.drop i) b j = oI f (L.drop (i + 1)) b' (j + 1) := by
  rw [List.drop_eq_getElem_cons (by omega), List.drop_eq_getElem_cons h]; exact KE hb
theorem afD (h : i + 1 < L.length) (hb : f b L[i] = none) : oI f (L.drop i) b j = (none, j) := by
  rw [List.drop_eq_getElem_cons (by omega), List.drop_eq_getElem_cons h]; exact GS hb
theorem afE (h : i < L.length) (h2 : i + 1 = L.length) (he : L[i] = ByteArray.empty) : oI f (L.drop i) b j = (some b, j) := by
  rw [List.drop_eq_getElem_cons h, List.drop_eq_nil_of_le (by omega)]; exact KF he
theorem afF (h : i < L.length) (h2 : i + 1 = L.length) (he : L[i] ≠ ByteArray.empty) : oI f (L.drop i) b j = (none, j) := by
  rw [List.drop_eq_getElem_cons h, List.drop_eq_nil_of_le (by omega)]; exact KG he
end
def cG : List ByteArray -> ByteArray
  | [] => ByteArray.empty
  | x :: r => (x ++ r5) ++ cG r
theorem NH : ∀ {l r : List ByteArray}, cG (l ++ r) = cG l ++ cG r
  | [], r => (ByteArray.empty_append).symm
  | x :: l, r => by
    show (x ++ r5) ++ cG (l ++ r) = ((x ++ r5) ++ cG l) ++ cG r; rw [NH, ByteArray.append_assoc, ByteArray.append_assoc, ByteArray.append_assoc]
theorem abV {x : ByteArray} : cG [x] = x ++ r5 := ByteArray.append_empty
theorem LS {l : List ByteArray} {m : Nat} (h : ∀ x ∈ l, x.size <= m) : (cG l).size <= (m + 1) * l.length := by
  induction l with
  | nil => simp [cG]
  | cons x r ih =>
    have h1 := h x List.mem_cons_self; have h2 := ih fun y hy => h y (List.mem_cons_of_mem _ hy); show ((x ++ r5) ++ cG r).size <= _; rw [ByteArray.size_append, ByteArray.size_append, List.length_cons, Nat.mul_add, Nat.mul_one]; have : r5.size = 1 := rfl; omega
theorem zP {s : UInt8} : ∀ {r : List (List UInt8)} {w : List UInt8}, yE s (w :: r) = w ++ r.flatMap fun v => s :: v
  | [], w => by rw [List.flatMap_nil, List.append_nil] <;> rfl
  | v :: r, w => by
    rw [abE (by simp), zP (r := r), List.flatMap_cons] <;> rfl
theorem BK {w : ByteArray} : cA 32 [w] = w := by
  unfold cA; rw [List.map_cons, List.map_nil]; exact yF w
theorem l6 {ws : List ByteArray} {w : ByteArray} (h : ws ≠ []) : cA 32 (ws ++ [w]) = (cA 32 ws ++ TV) ++ w := by
  cases ws with
  | nil => exact absurd rfl h
  | cons a r =>
    apply tE; unfold cA; rw [lL, lL, pI, pI, List.cons_append, List.map_cons, List.map_cons, zP, zP, List.map_append, List.flatMap_append, List.append_assoc, List.append_assoc]; simp [TV, aS]
end Go.Proofs
namespace Go.Proofs
open Go.Fs
set_option maxHeartbeats 1000000
def lY : ByteArray := ⟨#[118, 101, 114, 115, 105, 111, 110]⟩
def lZ : ByteArray := ⟨#[101, 118, 105, 100, 101, 110, 99, 101]⟩
def mZ : ByteArray := ⟨#[99, 108, 97, 105, 109]⟩
def yI : ByteArray := ⟨#[97, 108, 108]⟩
def j6 : ByteArray := ⟨#[97, 110, 121]⟩
def k9 : List ByteArray -> Bool
  | [] => true
  | [_] => false
  | a :: b :: r => decide (a ≠ ByteArray.empty) && (iE b && k9 r)
def x6 : List ByteArray -> List fV
  | a :: b :: r => (a, pK b) :: x6 r
  | _ => []
def lM (W : List ByteArray) : Bool := W.any fun w => decide (w = ByteArray.empty)
def dM (c : dG) (W : List ByteArray) : Option dG :=
  if lM W = true then none
  else if dD W 0 = lY /\ W.length = 3 /\ c.2.1.length = 0 /\ c.2.2.length = 0 then (if iE (dD W 2) = true then some (c.1 ++ [(dD W 1, pK (dD W 2))], c.2.1, c.2.2) else none)
  else if dD W 0 = lZ /\ 2 <= W.length /\ W.length % 2 = 0 /\ c.2.2.length = 0 then (if k9 (W.drop 2) = true then some (c.1, c.2.1 ++ [(dD W 1, x6 (W.drop 2))], c.2.2) else none)
  else if dD W 0 = mZ /\ 3 <= W.length /\ (dD W 2 = yI \/ dD W 2 = j6) then some (c.1, c.2.1, c.2.2 ++ [(dD W 1, decide (dD W 2 = j6), W.drop 3)])
  else none
def YT (c : dG) (l : ByteArray) : Option dG := dM c (dL 32 l)
theorem KH {s : ByteArray} (h : iE s = true) : DC s = pK s := by
  by_cases hh : (aS s = [] \/ 9 < (aS s).length) \/ (1 < (aS s).length /\ ((aS s).headD 0).toNat = 48) \/ (aS s).all mA = false
  . rw [(rZ hh).2] at h; cases h
  rw [(PZ hh).1]; refine if_pos ⟨?_, ?_⟩
  . cases ha : (aS s).all mA with
    | true => rfl
    | false => exact absurd (.inr (.inr ha)) hh
  by_cases h9 : 9 < (aS s).length
  . exact absurd (.inl (.inr h9)) hh
  omega
abbrev Tk := List ByteArray × Bool
def r6 (s : Tk) : ByteArray := s.1.headD ByteArray.empty
def dS (s : Tk) : Tk := if s.1.headD ByteArray.empty = ByteArray.empty then ([], true) else (s.1.tail, s.2)
def oO (s : Tk) : fV := (r6 s, DC (r6 (dS s)))
def gY (s : Tk) : Tk := ((dS (dS s)).1, (dS (dS s)).2 || !iE (r6 (dS s)))
theorem KI {s : Tk} (h : s.1 ≠ []) : (dS s).1.length < s.1.length := by
  unfold dS; obtain ⟨l, b⟩ := s
  cases l with
  | nil => exact absurd rfl h
  | cons a r =>
    split
    . exact Nat.succ_pos _
    exact Nat.lt_succ_self _
theorem HU {s : Tk} : (dS s).1.length <= s.1.length := by
  by_cases h : s.1 = []
  . unfold dS; rw [h]; exact Nat.le_refl _
  exact Nat.le_of_lt (KI h)
theorem DE {s : Tk} {x : ByteArray} (h : x ∈ (dS s).1) : x ∈ s.1 := by
  unfold dS at h; split at h
  . cases h
  exact List.mem_of_mem_tail h
theorem abW {s : Tk} {m : Nat} (h : ∀ x ∈ s.1, x.size < m + 1) : (r6 s).size < m + 1 := by
  obtain ⟨l, b⟩ := s
  cases l with
  | nil => exact Nat.succ_pos _
  | cons a r => exact h a List.mem_cons_self
theorem abX {s : Tk} (h : s.1 ≠ []) : (gY s).1.length < s.1.length := Nat.lt_of_le_of_lt (HU (s := dS s)) (KI h)
def u5 : Nat -> Tk -> List fV -> Tk × List fV
  | 0, s, o => (s, o)
  | n + 1, s, o => if s.1 = [] then (s, o) else u5 n (gY s) (o ++ [oO s])
def tH : Nat -> Tk -> List ByteArray -> Tk × List ByteArray
  | 0, s, o => (s, o)
  | n + 1, s, o => if s.1 = [] then (s, o) else tH n (dS s) (o ++ [r6 s])
theorem qF : ∀ {n : Nat} {b : Bool} {o : List fV}, u5 n ([], b) o = (([], b), o)
  | 0, _, _ => rfl
  | n + 1, _, _ => if_pos rfl
theorem qG : ∀ {n : Nat} {b : Bool} {o : List ByteArray}, tH n ([], b) o = (([], b), o)
  | 0, _, _ => rfl
  | n + 1, _, _ => if_pos rfl
theorem Q0 {n : Nat} {s : Tk} {o : List fV} (h : s.1 ≠ []) : u5 (n + 1) s o = u5 n (gY s) (o ++ [oO s]) := if_neg h
theorem YU {n : Nat} {s : Tk} {o : List ByteArray} (h : s.1 ≠ []) : tH (n + 1) s o = tH n (dS s) (o ++ [r6 s]) := if_neg h
theorem pL {r : List ByteArray} {b : Bool} : dS (ByteArray.empty :: r, b) = ([], true) := if_pos rfl
theorem lR {b : Bool} : dS ([], b) = ([], true) := if_pos rfl
theorem iP {a : ByteArray} {r : List ByteArray} {b : Bool} (h : a ≠ ByteArray.empty) : dS (a :: r, b) = (r, b) := if_neg h
theorem NI : ∀ (n : Nat) (l : List ByteArray) (b : Bool) (o : List fV), l.length <= n -> (u5 n (l, b) o).1.2 = (b || !k9 l) /\ (b = false -> k9 l = true -> (u5 n (l, b) o).2 = o ++ x6 l)
  | n, [], b, o, _ => by
    rw [qF]
    exact ⟨by simp [k9], fun _ _ => (List.append_nil _).symm⟩
  | 0, a :: r, b, o, h => by simp at h
  | n + 1, [a], b, o, h => by
    rw [Q0 (by simp)]
    have h1 : gY ([a], b) = ([], true) := by
      unfold gY; by_cases ha : a = ByteArray.empty
      . subst ha; rw [pL, lR] <;> rfl
      rw [iP ha, lR] <;> rfl
    rw [h1, qF]
    exact ⟨by simp [k9], fun _ hp => by simp [k9] at hp⟩
  | n + 1, a :: c :: r, b, o, h => by
    rw [Q0 (by simp)]; by_cases ha : a = ByteArray.empty
    . subst ha
      have h1 : gY (ByteArray.empty :: c :: r, b) = ([], true) := by
        unfold gY; rw [pL, lR] <;> rfl
      rw [h1, qF]; exact ⟨by simp [k9], fun _ hp => by simp [k9] at hp⟩
    by_cases hc : c = ByteArray.empty
    . subst hc
      have h1 : gY (a :: ByteArray.empty :: r, b) = ([], true) := by
        unfold gY; rw [iP ha, pL] <;> rfl
      rw [h1, qF]; exact ⟨by simp [k9, u4], fun _ hp => by simp [k9, u4] at hp⟩
    have h1 : gY (a :: c :: r, b) = (r, b || !iE c) := by
      unfold gY; rw [iP ha, iP hc] <;> rfl
    have h2 : oO (a :: c :: r, b) = (a, DC c) := by
      unfold oO; rw [iP ha] <;> rfl
    rw [h1, h2]; obtain ⟨i1, i2⟩ := NI n r (b || !iE c) (o ++ [(a, DC c)]) (by simp at h; omega); rw [i1]
    have hp : k9 (a :: c :: r) = (iE c && k9 r) := by
      show (decide (a ≠ ByteArray.empty) && (iE c && k9 r)) = _; rw [decide_eq_true ha, Bool.true_and]
    refine ⟨?_, fun hb hk => ?_⟩
    . rw [hp]; cases iE c <;> cases b <;> simp
    rw [hp, Bool.and_eq_true] at hk; rw [i2 (by rw [hb, hk.1]; rfl) hk.2, KH hk.1, List.append_assoc]; rfl
theorem NJ : ∀ (n : Nat) (l : List ByteArray) (b : Bool) (o : List ByteArray), l.length <= n -> (tH n (l, b) o).1.2 = (b || lM l) /\ (b = false -> lM l = false -> (tH n (l, b) o).2 = o ++ l)
  | n, [], b, o, _ => by
    rw [qG]
    exact ⟨by simp [lM], fun _ _ => (List.append_nil _).symm⟩
  | 0, a :: r, b, o, h => by simp at h
  | n + 1, a :: r, b, o, h => by
    rw [YU (by simp)]; have he : lM (a :: r) = (decide (a = ByteArray.empty) || lM r) := rfl; by_cases ha : a = ByteArray.empty
    . subst ha; rw [pL, qG, he]; exact ⟨by simp, fun _ hp => by simp at hp⟩
    rw [iP ha]; obtain ⟨i1, i2⟩ := NJ n r b (o ++ [r6 (a :: r, b)]) (by simp at h; omega); rw [i1, he, decide_eq_false ha, Bool.false_or]; refine ⟨rfl, fun hb hk => ?_⟩; rw [i2 hb hk, List.append_assoc]; rfl
theorem NK : ∀ {l : List ByteArray}, k9 l = true -> lM l = false /\ l.length % 2 = 0
  | [], _ => ⟨rfl, rfl⟩
  | [_], h => by simp [k9] at h
  | a :: b :: r, h => by
    simp only [k9, Bool.and_eq_true, decide_eq_true_eq] at h; obtain ⟨h1, h2, h3⟩ := h; obtain ⟨i1, i2⟩ := NK h3
    have hb : b ≠ ByteArray.empty := fun e => by subst e; rw [u4] at h2; cases h2
    refine ⟨?_, by simp only [List.length_cons]; omega⟩; show (decide (a = ByteArray.empty) || (decide (b = ByteArray.empty) || lM r)) = false; rw [decide_eq_false h1, decide_eq_false hb, i1] <;> rfl
theorem ajG {c : dG} {W : List ByteArray} (h0 : 0 < W.length) (hw : dD W 0 = lY) : dM c W = if (!(gY (W.drop 1, false)).2 && (decide ((gY (W.drop 1, false)).1.length = 0) && (decide (c.2.1.length = 0) && decide (c.2.2.length = 0)))) = true then some (c.1 ++ [oO (W.drop 1, false)], c.2.1, c.2.2) else none := by
  have B2 : lY ≠ ByteArray.empty := by decide
  have xA : lY ≠ lZ := by decide
  have CJ : lY ≠ mZ := by decide
  match W, h0, hw with
  | [a], _, hw =>
    have hw : a = lY := hw; subst hw; have h1 : gY ([], false) = ([], true) := rfl; show dM c [lY] = if (!(gY ([], false)).2 && (decide ((gY ([], false)).1.length = 0) && (decide (c.2.1.length = 0) && decide (c.2.2.length = 0)))) = true then some (c.1 ++ [oO ([], false)], c.2.1, c.2.2) else none; rw [h1]; unfold dM; rw [if_neg (by decide), if_neg (by simp), if_neg (by simp), if_neg (by simp)]
    rfl
  | [a, b], _, hw =>
    have hw : a = lY := hw; subst hw
    have h1 : (gY ([b], false)) = ([], true) := by
      unfold gY; by_cases hb : b = ByteArray.empty
      . subst hb; rw [pL, lR] <;> rfl
      rw [iP hb, lR] <;> rfl
    show dM c [lY, b] = if (!(gY ([b], false)).2 && (decide ((gY ([b], false)).1.length = 0) && (decide (c.2.1.length = 0) && decide (c.2.2.length = 0)))) = true then some (c.1 ++ [oO ([b], false)], c.2.1, c.2.2) else none; rw [h1]; unfold dM; split
    . rfl
    rw [if_neg (by simp), if_neg (fun h => xA h.1), if_neg (by simp)]
    rfl
  | a :: b :: d :: r, _, hw =>
    have hw : a = lY := hw; subst hw; show dM c (lY :: b :: d :: r) = if (!(gY (b :: d :: r, false)).2 && (decide ((gY (b :: d :: r, false)).1.length = 0) && (decide (c.2.1.length = 0) && decide (c.2.2.length = 0)))) = true then some (c.1 ++ [oO (b :: d :: r, false)], c.2.1, c.2.2) else none
    have he : lM (lY :: b :: d :: r) = (decide (b = ByteArray.empty) || (decide (d = ByteArray.empty) || lM r)) := by
      show (decide (lY = ByteArray.empty) || _) = _; rw [decide_eq_false B2, Bool.false_or] <;> rfl
    by_cases hb : b = ByteArray.empty
    . have h1 : (gY (b :: d :: r, false)) = ([], true) := by
        subst hb; unfold gY; rw [pL, lR] <;> rfl
      rw [h1]; unfold dM; rw [if_pos (by rw [he, decide_eq_true hb]; rfl)]; rfl
    by_cases hd : d = ByteArray.empty
    . have h1 : (gY (b :: d :: r, false)) = ([], true) := by
        subst hd; unfold gY; rw [iP hb, pL] <;> rfl
      rw [h1]; unfold dM; rw [if_pos (by rw [he, decide_eq_false hb, decide_eq_true hd]; rfl)]; rfl
    have h1 : (gY (b :: d :: r, false)) = (r, !iE d) := by
      unfold gY; rw [iP hb, iP hd] <;> rfl
    have h2 : oO (b :: d :: r, false) = (b, DC d) := by
      unfold oO; rw [iP hb] <;> rfl
    rw [h1, h2]; unfold dM; by_cases hr : r = []
    . subst hr; rw [if_neg (by rw [he, decide_eq_false hb, decide_eq_false hd]; decide)]; by_cases hc : c.2.1.length = 0 /\ c.2.2.length = 0
      . rw [if_pos ⟨rfl, rfl, hc.1, hc.2⟩, decide_eq_true hc.1, decide_eq_true hc.2]; show (if iE d = true then some (c.1 ++ [(b, pK d)], c.2.1, c.2.2) else none) = if (!(!iE d) && (true && (true && true))) = true then _ else _; by_cases hk : iE d = true
        . rw [if_pos hk, if_pos (by rw [hk]; rfl), KH hk]
        have E1 : iE d = false := by simpa using hk
        rw [if_neg hk, if_neg (by rw [E1]; decide)]
      rw [if_neg (fun h => hc h.2.2), if_neg (fun h => xA h.1), if_neg (fun h => CJ h.1), if_neg]; intro h; simp only [Bool.and_eq_true, decide_eq_true_eq] at h; exact hc h.2.2
    have hl : (lY :: b :: d :: r).length ≠ 3 := fun h => hr (List.eq_nil_of_length_eq_zero (by simpa using h))
    have UY : ¬ (!((r, !iE d) : Tk).2 && (decide (((r, !iE d) : Tk).1.length = 0) && (decide (c.2.1.length = 0) && decide (c.2.2.length = 0)))) = true := by
      intro h; simp only [Bool.and_eq_true, decide_eq_true_eq] at h; exact hr (List.eq_nil_of_length_eq_zero h.2.1)
    rw [if_neg UY]; split
    . rfl
    rw [if_neg (fun h => hl h.2.1), if_neg (fun h => xA h.1), if_neg (fun h => CJ h.1)]
theorem ajH {c : dG} {W : List ByteArray} {n : Nat} (h0 : 0 < W.length) (hn : W.length <= n) (hw : dD W 0 = lZ) : dM c W = if (!(u5 n (dS (W.drop 1, false)) []).1.2 && decide (c.2.2.length = 0)) = true then some (c.1, c.2.1 ++ [(r6 (W.drop 1, false), (u5 n (dS (W.drop 1, false)) []).2)], c.2.2) else none := by
  have B2 : lZ ≠ ByteArray.empty := by decide
  have xA : lZ ≠ lY := by decide
  have CJ : lZ ≠ mZ := by decide
  match W, h0, hw with
  | [a], _, hw =>
    have hw : a = lZ := hw; subst hw; have h1 : dS ([], false) = ([], true) := rfl; show dM c [lZ] = if (!(u5 n (dS ([], false)) []).1.2 && _) = true then _ else _; rw [h1, qF]; unfold dM; rw [if_neg (by decide), if_neg (by simp), if_neg (by simp), if_neg (by simp)]
    rfl
  | a :: b :: r, _, hw =>
    have hw : a = lZ := hw; subst hw; show dM c (lZ :: b :: r) = if (!(u5 n (dS (b :: r, false)) []).1.2 && _) = true then some (c.1, c.2.1 ++ [(b, (u5 n (dS (b :: r, false)) []).2)], c.2.2) else none
    have he : lM (lZ :: b :: r) = (decide (b = ByteArray.empty) || lM r) := by
      show (decide (lZ = ByteArray.empty) || _) = _; rw [decide_eq_false B2, Bool.false_or] <;> rfl
    by_cases hb : b = ByteArray.empty
    . subst hb; rw [pL, qF]; unfold dM; rw [if_pos (by rw [he]; rfl)]; rfl
    rw [iP hb]; obtain ⟨i1, i2⟩ := NI n r false [] (by simp at hn; omega); rw [i1, Bool.false_or]; by_cases hk : k9 r = true
    . obtain ⟨j1, j2⟩ := NK hk; rw [i2 rfl hk, hk, List.nil_append]; unfold dM; rw [if_neg (by rw [he, decide_eq_false hb, j1]; decide), if_neg (fun h => xA h.1)]; by_cases hc : c.2.2.length = 0
      . rw [if_pos ⟨rfl, by simp, by simp only [List.length_cons]; omega, hc⟩, if_pos (show k9 ((lZ :: b :: r).drop 2) = true from hk), decide_eq_true hc]; rfl
      rw [if_neg (fun h => hc h.2.2.2), if_neg (fun h => CJ h.1), decide_eq_false hc]; rfl
    have E1 : k9 r = false := by simpa using hk
    rw [E1]; unfold dM; split
    . rfl
    rw [if_neg (fun h => xA h.1)]; split
    . rw [if_neg (show ¬ k9 ((lZ :: b :: r).drop 2) = true from hk)]; rfl
    rw [if_neg (fun h => CJ h.1)]; rfl
theorem ajI {c : dG} {W : List ByteArray} {n : Nat} (h0 : 0 < W.length) (hn : W.length <= n) (hw : dD W 0 = mZ) : dM c W = if (!(tH n (dS (dS (W.drop 1, false))) []).1.2 && (decide (r6 (dS (W.drop 1, false)) = yI) || decide (r6 (dS (W.drop 1, false)) = j6))) = true then some (c.1, c.2.1, c.2.2 ++ [(r6 (W.drop 1, false), decide (r6 (dS (W.drop 1, false)) = j6), (tH n (dS (dS (W.drop 1, false))) []).2)]) else none := by
  have B2 : mZ ≠ ByteArray.empty := by decide
  have xA : mZ ≠ lY := by decide
  have CJ : mZ ≠ lZ := by decide
  match W, h0, hw with
  | [a], _, hw =>
    have hw : a = mZ := hw; subst hw; have h1 : dS ([], false) = ([], true) := rfl; show dM c [mZ] = if (!(tH n (dS (dS ([], false))) []).1.2 && _) = true then _ else _; rw [h1, lR, qG]; unfold dM; rw [if_neg (by decide), if_neg (by simp), if_neg (by simp), if_neg (by simp)]
    rfl
  | [a, b], _, hw =>
    have hw : a = mZ := hw; subst hw
    have h1 : dS (dS ([b], false)) = ([], true) := by
      by_cases hb : b = ByteArray.empty
      . subst hb; rw [pL, lR]
      rw [iP hb, lR]
    show dM c [mZ, b] = if (!(tH n (dS (dS ([b], false))) []).1.2 && _) = true then _ else _; rw [h1, qG]; unfold dM; split
    . rfl
    rw [if_neg (by simp), if_neg (fun h => CJ h.1), if_neg (by simp)]
    rfl
  | a :: b :: d :: r, _, hw =>
    have hw : a = mZ := hw; subst hw
    have he : lM (mZ :: b :: d :: r) = (decide (b = ByteArray.empty) || (decide (d = ByteArray.empty) || lM r)) := by
      show (decide (mZ = ByteArray.empty) || _) = _; rw [decide_eq_false B2, Bool.false_or] <;> rfl
    show dM c (mZ :: b :: d :: r) = if (!(tH n (dS (dS (b :: d :: r, false))) []).1.2 && (decide (r6 (dS (b :: d :: r, false)) = yI) || decide (r6 (dS (b :: d :: r, false)) = j6))) = true then some (c.1, c.2.1, c.2.2 ++ [(b, decide (r6 (dS (b :: d :: r, false)) = j6), (tH n (dS (dS (b :: d :: r, false))) []).2)]) else none; by_cases hb : b = ByteArray.empty
    . subst hb; rw [pL, lR, qG]; unfold dM; rw [if_pos (by rw [he]; rfl)]; rfl
    rw [iP hb]; by_cases hd : d = ByteArray.empty
    . subst hd; rw [pL, qG]; unfold dM; rw [if_pos (by rw [he, decide_eq_false hb]; rfl)]; rfl
    rw [iP hd]; obtain ⟨i1, i2⟩ := NJ n r false [] (by simp at hn; omega); rw [i1, Bool.false_or]; have VE : r6 (d :: r, false) = d := rfl; rw [VE]
    cases hk : lM r with
    | true =>
      unfold dM; rw [if_pos (by rw [he, hk]; simp)]
      rfl
    | false =>
      rw [i2 rfl hk, List.nil_append]; unfold dM; rw [if_neg (by rw [he, decide_eq_false hb, decide_eq_false hd, hk]; decide), if_neg (fun h => xA h.1), if_neg (fun h => CJ h.1)]; by_cases hq : d = yI \/ d = j6
      . rw [if_pos ⟨rfl, by simp, hq⟩, if_pos (by rcases hq with hq | hq <;> simp [hq])]; rfl
      rw [if_neg (fun h => hq h.2.2), if_neg]; intro h; simp only [Bool.and_eq_true, Bool.or_eq_true, decide_eq_true_eq] at h; exact hq h.2
theorem ajJ {c : dG} {W : List ByteArray} (h1 : dD W 0 ≠ lY) (h2 : dD W 0 ≠ lZ) (h3 : dD W 0 ≠ mZ) : dM c W = none := by
  unfold dM; split
  . rfl
  rw [if_neg (fun h => h1 h.1), if_neg (fun h => h2 h.1), if_neg (fun h => h3 h.1)]
end Go.Proofs
namespace Go.Fs
variable {P : Program} {fl : VL} {σ : aG} {T : TypeId} {τ : Ty} {h : Heap} {S : List Nat}
inductive XB : PV -> List PV -> Prop where
  | v {τ : Ty} {x : τ.den} : XB (.v τ x) (iO τ x)
  | w {w : Value} (ho : aT w = true) : XB (.raw w) [.raw w]
inductive afG (pl : List (Nat × Nat)) : List PV -> List Nat -> List PV -> List PV -> Prop where
  | nil {L L' : List PV} (h : L = L') : afG pl L [] [] L'
  | cons {L L' : List PV} {i o : Nat} {is : List Nat} {p : PV} {ps qs : List PV} (hp : XB p qs) (hpl : pl[i]? = some (o, qs.length)) (ho : Nat.ble (o + qs.length) L.length = true) (r : afG pl (EY L o qs) is ps L') : afG pl L (i :: is) (p :: ps) L'
end Go.Fs
namespace Go.Fs
variable {P : Program} {fl : VL} {σ : aG} {T T' : TypeId} {x y : Operand} {p q : Int}
end Go.Fs
namespace Go.Fs
variable {P : Program} {orc : FuncId -> List Value -> Heap -> Option (Value × Heap)} {h : Heap} {σ ρ : aG} {fl : VL} {ops : Array Oper} {n i mem : Nat} {l : List Oper} {K : VL -> aG -> Prop} {nw bs : List Nat} {tl : Bool} {hr : Heap} {S0 A : List Nat} {t : Tr} {rd chg : List Nat}
end Go.Fs
namespace Go.Fs
variable {P : Program} {orc : FuncId -> List Value -> Heap -> Option (Value × Heap)} {aV : Option Nat} {h h' h0 h1 h2 hr : Heap} {S S' S0 B G A : List Nat} {σ aJ kR ρ : aG} {t t' : Tr} {ms : List Nat} {fl : VL} {ops : Array Oper} {n i mem : Nat} {l : List Oper} {K : VL -> aG -> Prop}
  {d : Tmp} {ty : TypeId} {pos : String} {after : Array Edge} {op : Op} {v pv : PV} {g : Option (Nat × Bool)} {x y z : Operand} {T T' e : TypeId} {τ eP : Ty} {bs nw rd chg : List Nat} {segs : List (Nat × Nat × Nat)} {tail tl : Bool} {w w' : Value}
end Go.Fs
namespace Go.Fs
variable {P : Program} {σ : aG} {fl : VL} {x y : Operand} {T T' : TypeId} {p q : ByteArray}
theorem aK.yJ (h : p = q) (hx : b9 fl x = some (.v .str p) := by rfl) (hy : b9 fl y = some (.v .str q) := by rfl) : aK P fl σ (.binOp .eql T x y T') (.v .bool true) := by
  have := aK.sT (P := P) (σ := σ) (T := T) (T' := T') hx hy
  rwa [decide_eq_true h] at this
theorem aK.kT (h : p ≠ q) (hx : b9 fl x = some (.v .str p) := by rfl) (hy : b9 fl y = some (.v .str q) := by rfl) : aK P fl σ (.binOp .eql T x y T') (.v .bool false) := by
  have := aK.sT (P := P) (σ := σ) (T := T) (T' := T') hx hy
  rwa [decide_eq_false h] at this
end Go.Fs
namespace Go.Fs
variable {P : Program} {orc : FuncId -> List Value -> Heap -> Option (Value × Heap)} {h h1 h2 h' : Heap} {S S0 : List Nat} {σ γ kR : aG} {fl : VL} {ops : Array Oper} {n : Nat} {l : List Oper} {K : VL -> aG -> Prop} {d : Tmp} {ty : TypeId} {pos : String} {after : Array Edge} {g : Option (Nat × Bool)}
theorem U.TY {f : FuncId} {a c : List PV} {x : Operand} {ps : Array Tmp} {assign body : Code} {Q : Ex -> VL -> aG -> Prop} (hg : b9 fl x = some (.gJ f a c))
    (hit : ∀ yv, D2 P orc f (a ++ [.raw yv] ++ c) ((yv, .loop .ready none n fl ps assign body) :: σ) fun gD => ∃ st e aJ, st ≠ .busy /\ gD = (yv, .loop st (eY e) n fl ps assign body) :: aJ /\ Q e fl aJ) : U P orc none (.rangeFunc x ps assign body) n fl σ Q := fun jI G S0 t h ms fH => by
  obtain ⟨va, vc, hv, ra, rc⟩ := (dP fH.aH hg : aI h _ (.gJ f a c) (aB t x))
  let hm := h.push .iX
  let j := hm.next
  let yv : Value := .func (.yield j) #[] #[]
  let L : aX := .dJ .ready none t n ps assign body h.next
  have hjd : j = h.next + 1 := rfl
  have H8 : ∀ b, (hm.push L).get b = if b = h.next + 1 then some L else if b = h.next then some .iX else h.get b := fun b => by
    rw [Heap.bE]; show (if b = h.next + 1 then _ else (h.push .iX).get b) = _; rw [Heap.bE]
  have ap : cD h (hm.push L) (j :: own σ) := (cD.push h .iX _).trans (cD.push hm L (j :: own σ)) fun i hi => .inl hi; have b7 : ∀ b ∈ own σ, b < h.next := wD fH.cells fH.ok; have Lc0 := fH.lc
  have yA : cH h (own σ ++ S0) (hm.push L) (j :: own σ ++ S0) := fun b o hb hn => by
    have hbn : b < h.next := fH.ok b o hb; refine ⟨by rw [H8, if_neg (by omega), if_neg (by omega)]; exact hb, fun gG => ?_⟩; rcases List.mem_append.1 gG with gG | gG
    . rcases List.mem_cons.1 gG with gG | gG
      . omega
      exact hn (List.mem_append_left _ gG)
    exact hn (List.mem_append_right _ gG)
  have hS0 : ∀ b ∈ S0, b < h.next := Lc0.s0
  have hj1 : j ∉ own σ := fun gG => by have := b7 j gG; omega
  have apA := hit yv; have PI : ∀ (c : Cell) (s : aG), own ((yv, c) :: s) = j :: own s := fun c s => rfl; refine jG.rangeFunc (fr := ⟨t, n, ms⟩) hv ((apA (hm.push L) S0 _ (ap.ok fH.ok) ⟨fun b hb => by have := hS0 b hb; have := ap.next; omega, (fH.aH.nx yA).1.less fun b hb => List.mem_append_right _ hb⟩ (fun cc hc => ?_) (by rw [PI]; exact List.nodup_cons.2 ⟨hj1, fH.apart⟩) (fun b hb => ?_) ?_).mono fun u h3 hq => ?_)
  . rw [PI]; rcases List.mem_cons.1 hc with JW | JW
    . subst JW; exact ⟨j, t, h.next, rfl, List.mem_append_left _ List.mem_cons_self, by rw [H8, if_pos hjd], fH.aH.nx yA⟩
    refine (fH.cells cc JW).keep (fun b hb => ?_) yA fun b hb => List.mem_append_left _ (List.mem_cons_of_mem _ (List.mem_flatMap.2 ⟨cc, JW, hb⟩)); have := b7 b (List.mem_flatMap.2 ⟨cc, JW, hb⟩); rw [H8, if_neg (by omega), if_neg (by omega)]
  . rw [PI] at hb; intro VM; rcases List.mem_cons.1 hb with hb | hb
    . have := hS0 b VM; omega
    exact (fH.new b hb).2 VM
  . rw [PI]; have ry : b6 (hm.push L) (j :: own σ ++ S0) [.raw yv] [yv] := ⟨yv, [], rfl, rfl, rfl⟩; exact ((ra.nx yA).append ry).append (rc.nx yA)
  obtain ⟨gD, hq, made⟩ := hq; obtain ⟨st, e, aJ, cC, rfl, hQ⟩ := hq; obtain ⟨j', tm, dm, OE, hjS, hgj, _⟩ := made.cells _ List.mem_cons_self
  have L0 : j = j' := by
    have : yv = .func (.yield j') #[] #[] := OE; injection this with h5; injection h5
  subst L0; refine ⟨st, e, tm, n, ps, assign, body, dm, hgj, cC, rfl, fl, aJ, ?_, hQ⟩; have kP := made.apart; rw [PI] at kP; obtain ⟨hj3, ae5⟩ := List.nodup_cons.1 kP
  let C : aX := .dJ .exhausted (eY e) tm n ps assign body dm
  have WB : ∀ b, (h3.set j C).get b = if b = j then some C else h3.get b := fun b => Heap.dB hgj ..; have ma : cD (hm.push L) h3 (j :: own σ) := made.gC; have WC : cD h (h3.set j C) (j :: own σ) := (ap.trans ma fun i hi => .inl hi).trans (cD.set (B := [j]) hgj List.mem_cons_self) fun i hi => .inl (by rw [List.mem_singleton.1 hi]; exact List.mem_cons_self)
  have n6 : ∀ b ∈ own aJ, b ∈ own σ \/ h.next <= b := fun b hb => by
    rcases made.new b (by rw [PI]; exact List.mem_cons_of_mem _ hb) with h5 | h5
    . rw [PI] at h5; rcases List.mem_cons.1 h5 with h5 | h5
      . subst h5; exact absurd hb hj3
      exact .inl h5
    have := ap.next; exact .inr (by omega)
  have WD : cH h (own σ ++ S0) (h3.set j C) (own aJ ++ S0) := fun b o hb hn => by
    have hbn : b < h.next := fH.ok b o hb
    refine ⟨by rw [WC.get b hbn (fun gG => by
      rcases List.mem_cons.1 gG with gG | gG
      . omega
      exact hn (List.mem_append_left _ gG))]; exact hb, fun gG => ?_⟩
    rcases List.mem_append.1 gG with gG | gG
    . rcases n6 b gG with h5 | h5
      . exact hn (List.mem_append_left _ h5)
      omega
    exact hn (List.mem_append_right _ gG)
  have apB : h3.get h.next = some .iX := by
    rw [ma.get h.next (by show h.next < h.next + 1 + 1; omega) (fun gG => by
      rcases List.mem_cons.1 gG with gG | gG
      . omega
      have := b7 _ gG; omega), H8, if_neg (by omega), if_pos rfl]
  exact {
    ok := WC.ok fH.ok
    s0 := fH.s0
    gC := fH.gC.trans WC fun i hi => by
      have := fH.gC.next; rcases List.mem_cons.1 hi with hi | hi
      . right; omega
      exact (fH.new i hi).1
    cells := fun c hc => (made.cells c (List.mem_cons_of_mem _ hc)).keep (fun b hb => by
        rw [WB, if_neg (fun e => hj3 (by subst e; exact List.mem_flatMap.2 ⟨c, hc, hb⟩))]) (fun b o hb hn => ⟨by
        rw [WB, if_neg (fun e => hn (by subst e; exact List.mem_append_left _ List.mem_cons_self))]; exact hb, fun gG => hn (by
        rcases List.mem_append.1 gG with gG | gG
        . exact List.mem_append_left _ (List.mem_cons_of_mem _ gG)
        exact List.mem_append_right _ gG)⟩) fun b hb => List.mem_append_left _ (List.mem_flatMap.2 ⟨c, hc, hb⟩)
    new := fun b hb => by
      have := fH.gC.next; rcases n6 b hb with h5 | h5
      . exact fH.new b h5
      exact ⟨.inr (by omega), fun gG => by have := hS0 b gG; omega⟩
    apart := ae5
    mark := fun d hd => by
      have := fH.gC.next; rcases List.mem_cons.1 hd with hd | hd
      . subst hd; exact ⟨this, by rw [WB, if_neg (by omega)]; exact apB⟩
      obtain ⟨m1, m2⟩ := fH.mark d hd; refine ⟨m1, ?_⟩; have hdn : d < h.next := fH.ok d _ m2
      rw [WC.get d hdn (fun gG => by
        rcases List.mem_cons.1 gG with gG | gG
        . omega
        obtain ⟨c, hc, hb⟩ := List.mem_flatMap.1 gG; obtain ⟨o, hgo, cL⟩ := (fH.cells c hc).isObj d hb; rw [m2] at hgo
        exact cL (Option.some.inj hgo).symm)]
      exact m2
    marks := List.nodup_cons.2 ⟨fun gG => by have := fH.ok _ _ (fH.mark _ gG).2; omega, fH.marks⟩
    aH := fH.aH.nx WD }
theorem Made.am6 {γ LU LV : aG} (hp : LU.Perm LV) (m : Made S h h' γ LU) : Made S h h' γ LV :=
  have ho := oB hp
  { gC := m.gC
    new := fun b hb => m.new b (ho.mem_iff.2 hb)
    apart := ho.nodup_iff.1 m.apart
    cells := fun c hc => by
      have hN : cH h' (own LU ++ S) h' (own LV ++ S) := cH.less fun b hb => by
        rcases List.mem_append.1 hb with hb | hb
        . exact List.mem_append_left _ (ho.mem_iff.2 hb)
        exact List.mem_append_right _ hb
      exact (m.cells c (hp.mem_iff.2 hc)).keep (fun _ _ => rfl) hN fun b hb => List.mem_append_left _ (List.mem_flatMap.2 ⟨c, hc, hb⟩) }
theorem Made.am7 {γ LU LV : aG} (hp : LU.Perm LV) (m : Made S h h' LU γ) : Made S h h' LV γ :=
  have ho := oB hp
  { gC := m.gC.MH fun b hb => ho.mem_iff.1 hb
    new := fun b hb => (m.new b hb).imp_left fun h => ho.mem_iff.1 h
    apart := m.apart
    cells := m.cells }
theorem D2.perm {f : FuncId} {args : List PV} {LU LV : aG} {Q Q' : aG -> Prop} (hf : D2 P orc f args LU Q) (hp : LU.Perm LV) (hq : ∀ s, Q s -> ∃ s', s.Perm s' /\ Q' s') : D2 P orc f args LV Q' := fun h S us bD hS bO kP tV ha => by
  have ho := oB hp
  have hN : cH h (own LV ++ S) h (own LU ++ S) := cH.less fun b hb => by
    rcases List.mem_append.1 hb with hb | hb
    . exact List.mem_append_left _ (ho.mem_iff.1 hb)
    exact List.mem_append_right _ hb
  refine (hf h S us bD hS (fun c hc => (bO c (hp.mem_iff.1 hc)).keep (fun _ _ => rfl) hN fun b hb => List.mem_append_left _ (List.mem_flatMap.2 ⟨c, hc, hb⟩)) (ho.nodup_iff.2 kP) (fun b hb => tV b (ho.mem_iff.1 hb)) (ha.nx hN)).mono fun v h1 hq1 => ?_; obtain ⟨s, q, m⟩ := hq1; obtain ⟨s', p, q'⟩ := hq s q; exact ⟨s', q', (m.am6 p).am7 hp⟩
section
variable (P orc)
def afH {X : Type} (f : FuncId) (a c : List PV) (asl : X -> List PV) (xs : List X) (w : Value) (C0 : Cell) : Prop := ∀ (yv : Value) (I : List X -> aG -> Prop) (E : aG -> Prop) (γ : aG),
  (∀ x rest γ, I (x :: rest) γ -> SP P orc yv (asl x) γ fun r gD => (r = .v .bool true /\ I rest gD) \/ (r = .v .bool false /\ E gD)) -> I xs γ -> D2 P orc f (a ++ [.raw yv] ++ c) ((w, C0) :: γ) fun gD => ∃ C1 aJ, gD = (w, C1) :: aJ /\ (I [] aJ \/ E aJ)
end
theorem U.TZ {X : Type} {asl : X -> List PV} {xs : List X} {f : FuncId} {a c : List PV} {x : Operand} {ps : Array Tmp} {assign body : Code} {w : Value} {C0 : Cell} {Q : Ex -> VL -> aG -> Prop} (hg : b9 fl x = some (.gJ f a c)) (hit : afH P orc f a c asl xs w C0) (hlen : ∀ y, ps.size = (asl y).length) (uK : ps.toList.all (fun p => Nat.blt p n) = true) (hn4 : Nat.ble n 4000 = true)
    (I : List X -> aG -> Prop) (E : Ex -> aG -> Prop) (h0 : I xs σ)
    (hb : ∀ j y rest σ, I (y :: rest) σ -> U P orc (some j) assign n (JV ps.toList (asl y) fl) σ fun e eV aJ => e = .normal /\ U P orc (some j) body n eV aJ fun e _ aJ => (e = .normal /\ I rest aJ) \/ (e ≠ .normal /\ E e aJ))
    (h1 : ∀ C1 aJ, I [] aJ -> Q .normal fl ((w, C1) :: aJ)) (h2 : ∀ C1 e aJ, e ≠ .normal -> E e aJ -> Q e fl ((w, C1) :: aJ)) : U P orc none (.rangeFunc x ps assign body) n fl ((w, C0) :: σ) Q := by
  refine U.TY hg fun yv => D2.perm (hit yv (fun rest γ => ∃ aJ, γ = (yv, .loop .ready none n fl ps assign body) :: aJ /\ I rest aJ) (fun γ => ∃ e aJ, e ≠ .normal /\ γ = (yv, .loop .done (eY e) n fl ps assign body) :: aJ /\ E e aJ) ((yv, .loop .ready none n fl ps assign body) :: σ)
    (fun y rest γ ⟨aJ, hγ, hI⟩ => ?_) ⟨σ, rfl, h0⟩) cW fun s hs => ?_
  . subst hγ; refine (SP.round (hlen y) (fun p hp => List.all_eq_true.1 uK p hp) (dY hn4) (fun jj => hb jj y rest aJ hI)).mono fun r s hq => ?_; obtain ⟨e, eV, A0, hQ, rfl, rfl⟩ := hq; rcases hQ with ⟨rfl, hI2⟩ | ⟨cL, hE⟩
    . exact .inl ⟨rfl, A0, rfl, hI2⟩
    refine .inr ⟨?_, e, A0, cL, ?_, hE⟩
    . cases e <;> first | exact absurd rfl cL | rfl
    cases e <;> first | exact absurd rfl cL | rfl
  obtain ⟨C1, s', rfl, hs⟩ := hs; rcases hs with ⟨aJ, rfl, hI⟩ | ⟨e, aJ, cL, rfl, hE⟩
  . exact ⟨_, cW, .ready, .normal, (w, C1) :: aJ, (fun e => by cases e), rfl, h1 C1 aJ hI⟩
  exact ⟨_, cW, .done, e, (w, C1) :: aJ, (fun e => by cases e), rfl, h2 C1 e aJ cL hE⟩
end Go.Fs
namespace Go.Proofs
open Go.Fs
set_option maxHeartbeats 1000000
def wP (s : ByteArray) : ByteArray := if Go.Lib.indexByte (aS s) 10 < 0 then s else s.extract 0 ((Go.Lib.indexByte (aS s) 10).toNat + 1)
def KJ : Nat -> ByteArray -> List ByteArray
  | 0, _ => []
  | n + 1, s => if s.size = 0 then [] else wP s :: KJ n (pJ 10 s)
theorem NL {n : Nat} {s : ByteArray} (h : s.size = 0) : KJ n s = [] := by
  cases n with
  | zero => rfl
  | succ n => exact if_pos h
theorem Q1 {n : Nat} {s : ByteArray} (h : s.size ≠ 0) : KJ (n + 1) s = wP s :: KJ n (pJ 10 s) := if_neg h
theorem KK {s : ByteArray} (h : s.size ≠ 0) : (pJ 10 s).size < s.size := by
  by_cases hi : 0 <= Go.Lib.indexByte (aS s) 10
  . exact X7 hi
  unfold pJ; rw [if_pos (by omega)]; show 0 < s.size; omega
theorem afI {s : ByteArray} {c : Int} : VF Tryz.prog OA 94 [St s, .v (.int .u8) c] (I (Go.Lib.indexByte (aS s) c.toNat.toUInt8)) := by
  refine VF.enter Tryz.func94 rfl (fun _ _ => rfl) rfl ?_; show U _ _ _ _ _ [(0, St s), (1, .v (.int .u8) c)] [] _; refine U.seq (U.text ?_); refine J.c (.assign rfl) ?_; refine J.go (U.seq (U.text ?_)); refine J.c (.move rfl) (J.c (.move rfl) ?_); refine J.call rfl rfl (VF.call (YN )) ?_; refine J.c (.assign rfl) (J.go ?_); refine U.ret ?_; exact aR.one rfl aZ (cY (by rfl))
theorem U0 {w : Value} {n : Nat} {s : ByteArray} (hn : s.size < n) (hs : s.size < 1000000) : afH Tryz.prog OA 93 [] [.raw w] (fun x => [St x]) (KJ n s) w (.var [St s]) := fun yv I E γ hy h0 => by
  refine D2.enter Tryz.func93 rfl rfl rfl ?_; show U _ _ _ _ _ [(0, .raw yv), (1, .raw w)] ((w, .var [St s]) :: γ) _; refine U.block ?_; refine U.loop (I := fun kk ff ss => ∃ (m : Nat) (r : ByteArray) (γ : aG), kk = r.size /\ ff = [(0, .raw yv), (1, .raw w)] /\ ss = (w, .var [St r]) :: γ /\ r.size < m /\ r.size < 1000000 /\ I (KJ m r) γ) ?_ _ _ _ ⟨n, s, γ, rfl, rfl, rfl, hn, hs, h0⟩; rintro kk ff ss ⟨m, r, γ, kI, rfl, rfl, hm, hr, hI⟩; refine U.seq (U.seq (U.text ?_)); refine J.r (.PD m0 cJ) ?_; refine J.r (.gU) ?_; refine J.c (.gtr) (J.go ?_); refine U.aM rfl (fun c0 => ?_) (fun c0 => ?_)
  . have HK : r.size ≠ 0 := by omega
    obtain ⟨m, rfl⟩ : ∃ q, m = q + 1 := ⟨m - 1, by omega⟩; have b7 := KK HK; rw [Q1 HK] at hI; refine U.skip (U.block (U.seq (U.text ?_))); refine J.c (.assign rfl) ?_; refine J.go (U.seq (U.seq (U.text ?_))); refine J.r (.PD m0 cJ) ?_; refine J.call rfl rfl (VF.call (show VF Tryz.prog OA 94 [St r, .v (.int .u8) 10] (.v (.int .i64) (Go.Lib.indexByte (aS r) 10)) from afI)) ?_; refine J.c (.assign rfl) ?_; refine J.go (U.seq (U.text ?_)); refine J.c (.move rfl) (J.c (.geq) (J.go ?_)); refine U.join [(0, .raw yv), (1, .raw w), (3, St (wP r))] ((w, .var [St (pJ 10 r)]) :: γ) ?_ ?_
    . refine U.aM rfl (fun c3 => ?_) (fun c3 => ?_)
      . have hix := PW (s := r) (c := 10); have c3 : (0 : Int) <= Go.Lib.indexByte (aS r) 10 := c3; obtain ⟨k, hk⟩ := Int.eq_ofNat_of_zero_le c3
        have e1 : wP r = r.extract 0 ((Go.Lib.indexByte (aS r) 10) + 1).toNat := by
          unfold wP; rw [if_neg (by omega)]; congr 1; omega
        have e2 : pJ 10 r = r.extract ((Go.Lib.indexByte (aS r) 10) + 1).toNat r.size := by
          unfold pJ; rw [if_neg (by omega)]; congr 1; omega
        refine U.drawn ?_; refine VD.r ((w, .var [St r]) :: γ) (.PD m0 cJ) (.inr ⟨rfl, rfl⟩) ?_; refine VD.c (.move rfl) (VD.c (.add rfl rfl (by omega)) ?_); refine VD.r [] (.WZ (by kernel_rfl) rfl rfl (by omega)) (.inl rfl) ?_; refine VD.r ((w, .var [St r]) :: γ) (.PD m0 cJ) (.inr ⟨rfl, rfl⟩) ?_; refine VD.c (.move rfl) (VD.c (.add rfl rfl (by omega)) ?_); refine VD.r [] (.X0 (by kernel_rfl) rfl rfl (by omega)) (.inl rfl) ?_; refine VD.c (.assign rfl) ?_; refine VD.oN (bF.fP (k := 0) cJ .v (Nat.le_of_ble_eq_true rfl) (.inr ⟨rfl, rfl⟩) rfl rfl) ?_; rintro _ _ tl ⟨rfl, rfl⟩; refine VD.nil ?_; rw [e1, e2]; exact ⟨⟨rfl, rfl, rfl, trivial⟩, rfl⟩
      have c3 : ¬ (0 : Int) <= Go.Lib.indexByte (aS r) 10 := c3; have e1 : wP r = r := if_pos (by omega); have e2 : pJ 10 r = ⟨#[]⟩ := if_pos (by omega); refine U.text ?_; refine J.r (.PD m0 cJ) ?_; refine J.c (.assign rfl) ?_; refine J.eQ (cs' := [St ⟨#[]⟩]) cJ .v ?_; refine J.nil ?_; rw [e1, e2]; exact ⟨⟨rfl, rfl, rfl, trivial⟩, rfl⟩
    refine U.seq (U.text ?_); refine J.c (.move rfl) (J.c (.move rfl) ?_); refine J.perm (List.perm_append_singleton _ _).symm ?_; refine J.alX (σ := [(w, .var [St (pJ 10 r)])]) γ rfl rfl rfl (hy _ _ _ hI) ?_; rintro r' gD hq; refine J.perm (List.perm_append_singleton _ _) ?_; rcases hq with ⟨rfl, hI2⟩ | ⟨rfl, hE⟩
    . refine J.c (.not) (J.go ?_); refine U.eB rfl ?_; refine U.skip ?_; exact ⟨(pJ 10 r).size, [(0, .raw yv), (1, .raw w)], by omega, ⟨rfl, rfl, trivial⟩, m, pJ 10 r, gD, rfl, rfl, rfl, by omega, by omega, hI2⟩
    refine J.c (.not) (J.go ?_); refine U.jJ rfl ?_; refine U.ret ?_; exact ⟨rfl, _, gD, rfl, .inr hE⟩
  have HK : r.size = 0 := by omega
  rw [NL HK] at hI; refine U.exit ?_; exact ⟨rfl, _, γ, rfl, .inl hI⟩
end Go.Proofs
namespace Go.Fs
variable {P : Program} {h h2 : Heap} {S S' : List Nat} {w : Value} {e e0 e1 e2 : TypeId} {τ τ0 τ1 HM : Ty}
theorem FE {xs ys : List τ.den} (hx : ∀ b o, h.get b = some o -> h2.get b = some o) (hg : bA h S w (.row e τ xs)) (hs : bA h2 S' w (.row e τ ys)) : ys = xs := by
  rcases hg with ⟨g1, g2⟩ | ⟨b, rs, m, g1, g2, g3, g4⟩
  . rcases hs with ⟨_, s2⟩ | ⟨b2, rs2, m2, s1, _⟩
    . rw [g2, s2]
    rw [show w = _ from g1] at s1; cases s1
  rcases hs with ⟨s1, _⟩ | ⟨b2, rs2, m2, s1, s2, s3, s4⟩
  . rw [show w = _ from g1] at s1; cases s1
  have g1 : w = .slice (some ⟨b, 0, none⟩) xs.length 0 := g1; have s1 : w = .slice (some ⟨b2, 0, none⟩) ys.length 0 := s1; rw [g1] at s1; injection s1 with s5 s6; injection s5 with s5; injection s5 with s5; subst s5; have h3 := hx b _ g3; rw [s3] at h3; injection h3 with h3; injection h3 with _ h4; subst h4; exact List.ext_getElem s6.symm fun i h5 h6 => (cR.same hx (g4.2 i h6) (s4.2 i h5)).symm
theorem XC {us us' : List Value} (hk : ∀ b ∈ cI w, h2.get b = h.get b) (hg : bA h S w (.var (us.map .raw))) (hs : bA h2 S' w (.var (us'.map .raw))) : us' = us := by
  obtain ⟨b, e, vs, g1, g2, g3, g4, g5⟩ := hg; obtain ⟨b2, e2, vs2, s1, s2, s3, s4, s5⟩ := hs; have g1 : w = .pointer (some ⟨b, 0, none⟩) := g1; have s1 : w = .pointer (some ⟨b2, 0, none⟩) := s1; rw [g1] at s1; injection s1 with s1; injection s1 with s1; injection s1 with s1; subst s1; have h3 := hk b (by rw [g1]; simp [cI]); rw [s3, g3] at h3; injection h3 with h3; injection h3 with _ h4; rw [<- D8 s4, <- D8 g4, h4]
theorem bL {a0 a1 a2 b0 b1 b2 : Value} {x0 y0 : List τ0.den} {x1 y1 : List τ1.den} {x2 y2 : List HM.den} (h h2 : Heap) (S : List Nat)
    (hg : ∀ c ∈ [(w, Cell.var [.raw a0, .raw a1, .raw a2]), (a0, .row e0 τ0 x0), (a1, .row e1 τ1 x1), (a2, .row e2 HM x2)], bA h (own [(w, Cell.var [.raw a0, .raw a1, .raw a2]), (a0, .row e0 τ0 x0), (a1, .row e1 τ1 x1), (a2, .row e2 HM x2)] ++ S) c.1 c.2)
    (hs : ∀ c ∈ [(w, Cell.var [.raw b0, .raw b1, .raw b2]), (b0, .row e0 τ0 y0), (b1, .row e1 τ1 y1), (b2, .row e2 HM y2)], bA h2 (own [(w, Cell.var [.raw b0, .raw b1, .raw b2]), (b0, .row e0 τ0 y0), (b1, .row e1 τ1 y1), (b2, .row e2 HM y2)] ++ S) c.1 c.2)
    (hk : ∀ b ∈ own [(w, Cell.var [.raw a0, .raw a1, .raw a2]), (a0, .row e0 τ0 x0), (a1, .row e1 τ1 x1), (a2, .row e2 HM x2)], h2.get b = h.get b) (hx : ∀ b o, h.get b = some o -> h2.get b = some o) :
    (∀ b ∈ own [(w, Cell.var [.raw b0, .raw b1, .raw b2]), (b0, .row e0 τ0 y0), (b1, .row e1 τ1 y1), (b2, .row e2 HM y2)], b ∈ own [(w, Cell.var [.raw a0, .raw a1, .raw a2]), (a0, .row e0 τ0 x0), (a1, .row e1 τ1 x1), (a2, .row e2 HM x2)]) /\
    ∀ c ∈ [(w, Cell.var [.raw b0, .raw b1, .raw b2]), (b0, .row e0 τ0 y0), (b1, .row e1 τ1 y1), (b2, .row e2 HM y2)], bA h (own [(w, Cell.var [.raw b0, .raw b1, .raw b2]), (b0, .row e0 τ0 y0), (b1, .row e1 τ1 y1), (b2, .row e2 HM y2)] ++ S) c.1 c.2 := by
  have hu := XC (us := [a0, a1, a2]) (us' := [b0, b1, b2]) (fun b hb => hk b (by rw [bZ]; exact List.mem_append_left _ hb)) (hg _ List.mem_cons_self) (hs _ List.mem_cons_self); injection hu with hu0 hu; injection hu with hu1 hu; injection hu with W6 _; subst hu0 hu1 W6; obtain rfl : y0 = x0 := FE hx (hg (b0, .row e0 τ0 x0) (.tail _ (.head _))) (hs (b0, .row e0 τ0 y0) (.tail _ (.head _))); obtain rfl : y1 = x1 := FE hx (hg (b1, .row e1 τ1 x1) (.tail _ (.tail _ (.head _)))) (hs (b1, .row e1 τ1 y1) (.tail _ (.tail _ (.head _)))); obtain rfl : y2 = x2 := FE hx (hg (b2, .row e2 HM x2) (.tail _ (.tail _ (.tail _ (.head _))))) (hs (b2, .row e2 HM y2) (.tail _ (.tail _ (.tail _ (.head _))))); exact ⟨fun _ hb => hb, hg⟩
end Go.Fs
namespace Go.Fs
variable {P : Program} {orc : FuncId -> List Value -> Heap -> Option (Value × Heap)} {aV : Option Nat} {h h' h0 h1 h2 : Heap} {S S' S0 S1 S2 B G : List Nat} {σ aJ kR γ : aG} {t t' : Tr} {ms : List Nat} {fl : VL} {ops : Array Oper} {n i mem : Nat} {l : List Oper} {K : VL -> aG -> Prop} {Q : Ex -> VL -> aG -> Prop} {w : Value} {τ : Ty} {x y : Operand} {T T' : TypeId}
theorem Iv.HV {cs cs' : List PV} (hc : ∀ {h : Heap} {S : List Nat} {vs : List Value}, b6 h S cs vs -> b6 h S cs' vs) (I : Iv h0 G S0 h ((w, .var cs) :: σ) t ms fl) : Iv h0 G S0 h ((w, .var cs') :: σ) t ms fl where
  ok := I.ok
  s0 := I.s0
  gC := I.gC
  cells := fun c hm => by
    rcases List.mem_cons.1 hm with rfl | hm
    . obtain ⟨b, e, vs, g1, g2, g3, g4, g5⟩ := I.cells _ List.mem_cons_self; exact ⟨b, e, vs, g1, g2, g3, hc g4, g5⟩
    exact I.cells c (List.mem_cons_of_mem _ hm)
  new := I.new
  apart := I.apart
  mark := I.mark
  marks := I.marks
  aH := I.aH
theorem J.HV {cs cs' : List PV} (hc : ∀ {h : Heap} {S : List Nat} {vs : List Value}, b6 h S cs vs -> b6 h S cs' vs) (hx : J P orc ops n l fl ((w, .var cs') :: σ) K) : J P orc ops n l fl ((w, .var cs) :: σ) K := fun h0 G S0 t h ms I => hx h0 G S0 t h ms (I.HV hc)
theorem b6.afJ {p p' : PV} {cs cs' : List PV} {vs : List Value} (hp : ∀ {u : Value}, aI h S p u -> aI h S p' u) (hc : ∀ {vs : List Value}, b6 h S cs vs -> b6 h S cs' vs) : b6 h S (p :: cs) vs -> b6 h S (p' :: cs') vs := fun ⟨u, r, h1, h2, h3⟩ => ⟨u, r, h1, hp h2, hc h3⟩
theorem YV {u : Value} (hu : aI h S (.raw (.slice none 0 0)) u) : aI h S (.v (.sl τ) []) u := by
  have hu : u = .slice none 0 0 := hu; subst hu; exact lW.nil.rep
theorem aK.LW {a b : Int} {k : IntKind} (hx : b9 fl x = some (.v (.int k) a) := by rfl) (hy : b9 fl y = some (.v (.int k) b) := by rfl) (h : a = b) : aK P fl σ (.binOp .eql T x y T') (.v .bool true) := by
  have := aK.eql (P := P) (σ := σ) (T := T) (T' := T') hx hy
  rwa [decide_eq_true h] at this
theorem aK.zZ {a b : Int} {k : IntKind} (hx : b9 fl x = some (.v (.int k) a) := by rfl) (hy : b9 fl y = some (.v (.int k) b) := by rfl) (h : a ≠ b) : aK P fl σ (.binOp .eql T x y T') (.v .bool false) := by
  have := aK.eql (P := P) (σ := σ) (T := T) (T' := T') hx hy
  rwa [decide_eq_false h] at this
end Go.Fs
namespace Go.Fs
variable {P : Program} {orc : FuncId -> List Value -> Heap -> Option (Value × Heap)} {aV : Option Nat} {h h' h0 h1 h2 : Heap} {S S' S0 S1 S2 B G : List Nat} {σ aJ kR γ : aG}
def ajK (P : Program) (fn : Func) (γ : aG) (Q : PV -> aG -> Prop) : Ex -> VL -> aG -> Prop := fun e fl σ => e.goes = true /\ ∃ pP A0 ps, σ.Perm (pP ++ A0) /\ AA P fl pP fn.results.toList ps /\ Q (GA ps) A0 /\ ∀ (h h2 : Heap) (S : List Nat), (∀ c ∈ γ, bA h (own γ ++ S) c.1 c.2) -> (∀ c ∈ A0, bA h2 (own A0 ++ S) c.1 c.2) -> (∀ b ∈ own γ, h2.get b = h.get b) -> (∀ b o, h.get b = some o -> h2.get b = some o) -> (∀ b ∈ own A0, b ∈ own γ) /\ ∀ c ∈ A0, bA h (own A0 ++ S) c.1 c.2
theorem fX.vI {f : FuncId} {args : List PV} {fn : Func} {c : Code} {Q : PV -> aG -> Prop} (lB : P.funcs[f]? = some fn) (hc : fn.body = some c) (ho : ∀ us h, orc f us h = none) (hn : (Nat.blt 4000 fn.ntmps || Nat.blt fn.ntmps args.length) = false)
    (hb : U P orc none c fn.ntmps (q8 0 args) γ (ajK P fn γ Q)) : fX P orc f args γ Q := fun h S us bD hS bO kP tV ha => by
  have hl := ha.len
  have pO : Nat.blt 4000 fn.ntmps = false /\ Nat.blt fn.ntmps args.length = false := by simpa using hn
  have n3 := gR pO.1; have n4 := gR pO.2; have oL : b6 (entry h) (own γ ++ S) args us := b6.nx (h := h) (h' := entry h) (fun _ _ a b => ⟨a, b⟩) ha
  have I0 : Iv (entry h) (own γ) S (entry h) γ (iS .leaf 0 us) [] (q8 0 args) := {
    ok := bD
    s0 := hS.1
    gC := cD.refl _ _
    cells := fun c hc => (bO c hc).keep (fun _ _ => rfl) (fun _ _ a b => ⟨a, b⟩) fun b hb => List.mem_append_left _ (List.mem_flatMap.2 ⟨c, hc, hb⟩)
    new := fun b hb => ⟨.inl hb, tV b hb⟩
    apart := kP
    mark := fun d hd => by cases hd
    marks := List.nodup_nil
    aH := oF (hS.2.ent bO) oL (by omega) }
  refine oS.enter lB hc (ho us h) (by rw [hl]; exact hn) ((hb (entry h) (own γ) S _ (entry h) [] I0).mono fun e fr h1 hq => ?_); obtain ⟨_, eV, σ0, fH, he, pP, aJ, ps, am8, uK, hQ, hkd⟩ := hq; have fM := fH.perm am8; obtain ⟨h2, d1, d2, d3⟩ := sB fM.marks fun d hd => (fM.mark d hd).2
  have eW : ∀ b o, h1.get b = some o -> o ≠ .iX -> h2.get b = some o := fun b o hg cL => by
    rw [d3 b (fun hm => cL (by have := (fM.mark b hm).2; rw [hg] at this; exact Option.some.inj this))]; exact hg
  have a2 : cD (entry h) h2 (own γ) := fM.gC.trans d2 fun i hi => .inr (fM.mark i hi).1; have L1 := fM.lc; have nE := L1.apart; rw [cB] at nE; obtain ⟨CU, y7, sS⟩ := List.nodup_append.1 nE
  have hoe : own (pP ++ aJ) ++ S = own pP ++ (own aJ ++ S) := by rw [cB, List.append_assoc]
  have Lz : Lc (own aJ ++ S) h1 pP fr.t eV := ⟨L1.ok, fun b hb => L1.lt b (by rw [hoe]; exact List.mem_append_right _ hb), (fun c hc => by rw [<- hoe]; exact L1.cells c (List.mem_append_left _ hc)), (fun b hb hm => by
    rcases List.mem_append.1 hm with hm | hm
    . exact sS b hb b hm rfl
    exact L1.sep b (by rw [cB]; exact List.mem_append_left _ hb) hm), CU, by rw [<- hoe]; exact L1.aH⟩
  obtain ⟨us', e1, e2⟩ := uK.ok Lz eW (fun b _ hg cL pZ => ⟨eW b _ hg cL, pZ⟩); have n7 := CR e2
  have n8 : ∀ c ∈ aJ, ∀ b ∈ cI c.1, h2.get b = h1.get b := fun c hc b hb => by
    obtain ⟨o, hg, cL⟩ := (fM.cells c (List.mem_append_right _ hc)).isObj b hb; rw [eW b _ hg cL, hg]
  have pD : ∀ c ∈ aJ, bA h2 (own aJ ++ S) c.1 c.2 := fun c hc => by
    have hx : bA h1 (own aJ ++ S) c.1 c.2 := (fM.cells c (List.mem_append_right _ hc)).keep (fun _ _ => rfl) (cH.less fun b hb => by rw [hoe]; exact List.mem_append_right _ hb) fun b hb => List.mem_append_left _ (List.mem_flatMap.2 ⟨c, hc, hb⟩); have hN : p9 h1 (own aJ ++ S) h2 (own aJ ++ S) := fun b _ hg cL pZ => ⟨eW b _ hg cL, pZ⟩; have hgb := n8 c hc; obtain ⟨w, cc⟩ := c
    cases cc with
    | row e τ xs =>
      rcases hx with hx | ⟨b, rs, m, h3, h4, h5, h6⟩
      . exact .inl hx
      exact .inr ⟨b, rs, m, h3, h4, eW b _ h5 (by simp), h6.1, fun i hi => (h6.2 i hi).iV hN⟩
    | var cs =>
      obtain ⟨b, e, vs, h3, h4, h5, h6, h7⟩ := hx
      exact ⟨b, e, vs, h3, h4, eW b _ h5 (by simp), h6.iV hN, h7⟩
    | cap e k τ xs =>
      obtain ⟨b, rs, m, h3, h4, h5, h6, h7, h8⟩ := hx
      exact ⟨b, rs, m, h3, h4, eW b _ h5 (by simp), h6, h7, h8.1, fun i hi => (h8.2 i hi).iV hN⟩
    | mp κ ν kvs =>
      obtain ⟨b, es, c, h3, h4, h5, h6, h7⟩ := hx
      exact ⟨b, es, c, h3, h4, eW b _ h5 (by simp), h6, fun i hi hj => ⟨⟨(h7 i hi hj).1.1, (h7 i hi hj).1.2.iV hN⟩, ⟨(h7 i hi hj).2.1, (h7 i hi hj).2.2.iV hN⟩⟩⟩
    | it s pos =>
      obtain ⟨b, h3, h4, h5⟩ := hx
      exact ⟨b, h3, h4, eW b _ h5 (by simp)⟩
    | loop st jump n fl ps assign body =>
      obtain ⟨l, tmps, d, h3, h4, h5, h6⟩ := hx
      exact ⟨l, tmps, d, h3, h4, eW l _ h5 (by simp), h6.iV hN⟩
    | eE e n cs =>
      rcases hx with hx | ⟨b, rs, m, h3, h4, h5, h6, h7⟩
      . exact .inl hx
      exact .inr ⟨b, rs, m, h3, h4, eW b _ h5 (by simp), h6.iV hN, h7⟩
  have B7 : ∀ b ∈ own aJ, b ∈ own γ \/ h.next <= b := fun b hb => (fM.new b (by rw [cB]; exact List.mem_append_right _ hb)).1; refine ⟨he, h2, us', d1, e1, ?_⟩; unfold leftOf
  cases nJ : (af (iA us') && Nat.ble h.next h2.low) with
  | true =>
    obtain ⟨vC, dK⟩ := aY nJ; have dK := dY dK
    have gH : ∀ b ∈ own γ, h2.get b = h.get b := fun b hb => by
      rcases a2.chg b (wD bO bD b hb) with h3 | h3
      . exact h3
      have := wD bO bD b hb; omega
    have fU : ∀ b o, h.get b = some o -> h2.get b = some o := fun b o hb => by
      have b7 := bD b o hb; rcases a2.chg b b7 with h3 | h3
      . rw [h3]; exact hb
      have : h.next <= b := Nat.le_trans dK h3; omega
    obtain ⟨k1, k2⟩ := hkd h h2 S bO pD gH fU
    exact ⟨_, aJ, hQ, ⟨cD.refl _ _, fun b hb => .inl (k1 b hb), y7, k2⟩, n7.EV vC⟩
  | false =>
    refine ⟨_, aJ, hQ, ⟨⟨a2.next, a2.get, fun x => a2.ok x, fun e h3 h4 h5 => Nat.le_min.2 ⟨h3, a2.low e (Nat.le_trans h4 (Nat.le_refl _)) h4 h5⟩, fun b hb => ?_, Nat.min_le_left _ _⟩, B7, y7, fun c hc => (pD c hc).keep (fun _ _ => rfl) (fun _ _ a b => ⟨a, b⟩) fun b hb => List.mem_append_left _ (List.mem_flatMap.2 ⟨c, hc, hb⟩)⟩, aI.nx (h := h2) (h' := { next := h2.next, low := min h.low h2.low, aA := h2.aA }) (fun _ _ a b => ⟨a, b⟩) n7⟩; rcases a2.chg b hb with h3 | h3
    . exact .inl h3
    exact .inr (Nat.le_trans (Nat.min_le_right _ _) h3)
end Go.Fs
namespace Go.Proofs
open Go.Fs
set_option maxHeartbeats 1000000
theorem akJ : wZ Tryz.prog 98 o5 [(0, 1), (1, 1)] := pC AH rfl (by kernel_rfl)
theorem sE {w : Value} {l : List ByteArray} {b : Bool} : fX Tryz.prog OA 97 [.raw w] [(w, .var [.v (.sl .str) l, B b])] (fun r g => r = St (r6 (l, b)) /\ g = [(w, .var [.v (.sl .str) (dS (l, b)).1, B (dS (l, b)).2])]) := by
  refine fX.DA Tryz.func97 rfl (fun _ _ => rfl) rfl ?_; show U _ _ _ _ _ [(0, .raw w)] [(w, .var [.v (.sl .str) l, B b])] _
  match l with
  | [] =>
    refine U.seq (U.text ?_); refine J.c (.assign rfl) ?_; refine J.go (U.seq (U.seq (U.text ?_))); refine J.c (.move rfl) (J.c (.eD m0) (J.c (.eL (k := 0) m0) ?_)); refine J.r (.jK (k := 0) m0 gL) ?_; refine J.r (.len b8) ?_; refine J.c (.LW (h := rfl)) (J.c (.move rfl) (J.skip (J.skip ?_))); refine J.skip (J.skip (J.skip (J.skip ?_))); refine J.skip (J.c (.bS rfl rfl) (J.go ?_)); refine U.jJ rfl ?_; refine U.seq (U.text ?_); refine J.c (.move rfl) (J.c (.move rfl) (J.c (.eD m0) (J.c (.eL (k := 0) m0) ?_))); refine J.fP (cs' := [.raw (.slice none 0 0), B b]) 0 gL (.raw rfl (fE rfl) rfl) ?_; refine J.c (.eD m0) (J.c (.eL (k := 1) m0) ?_); refine J.fP (cs' := [.raw (.slice none 0 0), B true]) 1 BE .v ?_; refine J.HV (cs' := [.v (.sl .str) [], B true]) (fun hx => b6.afJ YV (fun hy => hy) hx) ?_; refine J.go (U.seq (U.text ?_)); refine J.c (.assign rfl) (J.go ?_); refine U.ret ?_
    exact ⟨rfl, [St ByteArray.empty], .cons aZ .nil, ⟨rfl, rfl⟩, vH⟩
  | a :: r =>
    by_cases ha : a = ByteArray.empty
    . subst ha; refine U.seq (U.text ?_); refine J.c (.assign rfl) ?_; refine J.go (U.seq (U.seq (U.text ?_))); refine J.c (.move rfl) (J.c (.eD m0) (J.c (.eL (k := 0) m0) ?_)); refine J.r (.jK (k := 0) m0 gL) ?_; refine J.r (.len b8) ?_; refine J.c (.zZ (h := by simp; omega)) (J.c (.move rfl) (J.c (.move rfl) (J.c (.eD m0) ?_))); refine J.c (.eL (k := 0) m0) ?_; refine J.r (.jK (k := 0) m0 gL) ?_; refine J.c (.ix (j := 0) rfl rfl b8 (by simp)) ?_; refine J.r (.ld cJ) ?_; refine J.c (.yJ rfl) (J.c (.aU rfl rfl) (J.go ?_)); refine U.jJ rfl ?_; refine U.seq (U.text ?_); refine J.c (.move rfl) (J.c (.move rfl) (J.c (.eD m0) (J.c (.eL (k := 0) m0) ?_))); refine J.fP (cs' := [.raw (.slice none 0 0), B b]) 0 gL (.raw rfl (fE rfl) rfl) ?_; refine J.c (.eD m0) (J.c (.eL (k := 1) m0) ?_); refine J.fP (cs' := [.raw (.slice none 0 0), B true]) 1 BE .v ?_; refine J.HV (cs' := [.v (.sl .str) [], B true]) (fun hx => b6.afJ YV (fun hy => hy) hx) ?_; refine J.go (U.seq (U.text ?_)); refine J.c (.assign rfl) (J.go ?_); refine U.ret ?_; exact ⟨rfl, [St ByteArray.empty], .cons aZ .nil, ⟨rfl, rfl⟩, vH⟩
    rw [iP ha]; refine U.seq (U.text ?_); refine J.c (.assign rfl) ?_; refine J.go (U.seq (U.seq (U.text ?_))); refine J.c (.move rfl) (J.c (.eD m0) (J.c (.eL (k := 0) m0) ?_)); refine J.r (.jK (k := 0) m0 gL) ?_; refine J.r (.len b8) ?_; refine J.c (.zZ (h := by simp; omega)) (J.c (.move rfl) (J.c (.move rfl) (J.c (.eD m0) ?_))); refine J.c (.eL (k := 0) m0) ?_; refine J.r (.jK (k := 0) m0 gL) ?_; refine J.c (.ix (j := 0) rfl rfl b8 (by simp)) ?_; refine J.r (.ld cJ) ?_; refine J.c (.kT ha) (J.c (.aU rfl rfl) (J.go ?_)); refine U.eB rfl ?_; refine U.skip (U.seq (U.text ?_)); refine J.c (.move rfl) (J.c (.eD m0) (J.c (.eL (k := 0) m0) ?_)); refine J.r (.jK (k := 0) m0 gL) ?_; refine J.c (.ix (j := 0) rfl rfl b8 (by simp)) ?_; refine J.r (.ld cJ) ?_; refine J.c (.assign rfl) ?_; refine J.go (U.seq (U.text ?_)); refine J.c (.move rfl) (J.c (.move rfl) (J.c (.eD m0) (J.c (.eL (k := 0) m0) ?_))); refine J.r (.jK (k := 0) m0 gL) ?_; refine J.r (.CT rfl rfl b8 (by simp; omega)) ?_; refine J.c (.eD m0) (J.c (.eL (k := 0) m0) ?_); refine J.oN (bF.fP (k := 0) gL .v (Nat.le_of_ble_eq_true rfl) (.inl rfl) rfl rfl) ?_; rintro _ _ ⟨rfl, rfl⟩; refine J.go (U.seq (U.text ?_)); refine J.c (.move rfl) (J.c (.assign rfl) (J.go ?_)); refine U.ret ?_; exact ⟨rfl, [St a], .cons aZ .nil, ⟨rfl, rfl⟩, vH⟩
theorem NM {w : Value} {s : Tk} (hs : ∀ x ∈ s.1, x.size < 100000) : fX Tryz.prog OA 96 [.raw w] [(w, .var [.v (.sl .str) s.1, B s.2])] (fun r g => r = .v o5 (oO s) /\ g = [(w, .var [.v (.sl .str) (gY s).1, B (gY s).2])]) := by
  refine fX.vI Tryz.func96 rfl (fun _ _ => rfl) rfl ?_; show U _ _ _ _ _ [(0, .raw w)] [(w, .var [.v (.sl .str) s.1, B s.2])] _; have B8 : (r6 (dS s)).size < 100000 := abW (fun x hx => hs x (DE hx)); refine U.seq (U.text ?_); refine J.cell (.alloc AH) ?_; intro v2; refine J.perm cW ?_; refine J.go (U.seq (U.text ?_)); refine J.c (.move rfl) ?_; refine J.mJ [(w, .var [.v (.sl .str) s.1, B s.2])] rfl rfl rfl (fX.call sE) ?_; rintro _ _ ⟨rfl, rfl⟩; refine J.c (.assign rfl) ?_; refine J.go (U.seq (U.text ?_)); refine J.c (.move rfl) ?_; refine J.mJ [(w, .var [.v (.sl .str) (dS s).1, B (dS s).2])] rfl rfl rfl (fX.call sE) ?_; rintro _ _ ⟨rfl, rfl⟩; show J _ _ _ _ _ _ [(w, .var [.v (.sl .str) (dS (dS s)).1, B (dS (dS s)).2]), (v2, .var _)] _; refine J.call rfl rfl (VF.call (afB B8)) ?_; refine J.c (.move rfl) (J.c (.extract) (J.c (.extract) (J.c (.assign rfl) ?_))); refine J.c (.assign rfl) (J.go ?_); have htv : gY s = ((dS (dS s)).1, (dS (dS s)).2 || !iE (r6 (dS s))) := rfl; have hts : oO s = (r6 s, DC (r6 (dS s))) := rfl; rw [htv]; generalize (dS (dS s)).1 = l2; generalize (dS (dS s)).2 = q; refine U.seq (U.text ?_); refine J.c (.move rfl) (J.c (.move rfl) (J.c (.eD m0) (J.c (.eL (k := 1) m0) ?_))); refine J.r (.jK (k := 1) m0 BE) ?_; refine J.c (.move rfl) ?_; cases q
  . refine J.c (.move rfl) (J.c (.not) (J.c (.aU rfl rfl) (J.c (.eD m0) ?_))); refine J.c (.eL (k := 1) m0) ?_; refine J.oN (bF.fP (k := 1) BE .v (Nat.le_of_ble_eq_true rfl) (.inl rfl) rfl rfl) ?_; rintro _ _ ⟨rfl, rfl⟩; refine J.go (U.seq (U.text ?_)); refine J.c (.move rfl) (J.c (.move rfl) (J.c (.build (oO s) akJ) ?_)); refine J.perm cW ?_; refine J.eQ (cs' := [St (oO s).1, I (oO s).2]) n9 .v ?_; refine J.go ?_; refine U.ret ?_; exact ⟨rfl, [(v2, .var [St (oO s).1, I (oO s).2])], _, [.v o5 (oO s)], .refl _, .cons (.cell rfl m0 n9 .refl) .nil, ⟨rfl, rfl⟩, vH⟩
  refine J.skip (J.skip (J.c (.bS rfl rfl) (J.c (.eD m0) ?_))); refine J.c (.eL (k := 1) m0) ?_; refine J.oN (bF.fP (k := 1) BE .v (Nat.le_of_ble_eq_true rfl) (.inl rfl) rfl rfl) ?_; rintro _ _ ⟨rfl, rfl⟩; refine J.go (U.seq (U.text ?_)); refine J.c (.move rfl) (J.c (.move rfl) (J.c (.build (oO s) akJ) ?_)); refine J.perm cW ?_; refine J.eQ (cs' := [St (oO s).1, I (oO s).2]) n9 .v ?_; refine J.go ?_; refine U.ret ?_; exact ⟨rfl, [(v2, .var [St (oO s).1, I (oO s).2])], _, [.v o5 (oO s)], .refl _, .cons (.cell rfl m0 n9 .refl) .nil, ⟨rfl, rfl⟩, vH⟩
end Go.Proofs
namespace Go.Proofs
open Go.Fs
set_option maxHeartbeats 4000000
abbrev akK : Ty := (.pair (.sl .str) .bool)
theorem am9 : oG Tryz.prog 156 akK := kS (z := .agg #[.slice none 0 0, .bool false]) (by kernel_rfl) rfl rfl
theorem Q2 : wZ Tryz.prog 156 akK [(0, 1), (1, 1)] := pC am9 rfl (by kernel_rfl)
abbrev dZ (w a0 a1 a2 : Value) (c : dG) : aG := [(w, .var [.raw a0, .raw a1, .raw a2]), (a0, .row 98 o5 c.1), (a1, .row 101 pR c.2.1), (a2, .row 102 rO c.2.2)]
def RdQ (w : Value) (c : dG) (W : List ByteArray) (r : PV) (g : aG) : Prop := ∃ b0 b1 b2 c', g = dZ w b0 b1 b2 c' /\ r = B (dM c W).isSome /\ ∀ c2, dM c W = some c2 -> c' = c2
theorem FF {w b0 b1 b2 : Value} {c c' : dG} {W : List ByteArray} {q : Bool} (h : dM c W = if q = true then some c' else none) : RdQ w c W (B q) (dZ w b0 b1 b2 c') := by
  refine ⟨b0, b1, b2, c', rfl, ?_, fun c2 h2 => ?_⟩
  . rw [h]; cases q <;> rfl
  rw [h] at h2; cases q
  . cases h2
  exact Option.some.inj h2
theorem U1 {a b c d e : Value × Cell} {r : aG} : (a :: b :: c :: d :: e :: r).Perm (e :: a :: b :: c :: d :: r) := (lX.cons a).trans (List.Perm.swap e a (b :: c :: d :: r))
theorem XD {a b c d e : Value × Cell} {r : aG} : e ∈ a :: b :: c :: d :: e :: r := List.mem_append_right [a, b, c, d] List.mem_cons_self
theorem me5 {a b c d e f : Value × Cell} {r : aG} : f ∈ a :: b :: c :: d :: e :: f :: r := List.mem_append_right [a, b, c, d, e] List.mem_cons_self
theorem afK {wc a0 a1 a2 : Value} {c : dG} {W : List ByteArray} (h0 : 0 < W.length) (hW : W.length < 100000) (hz : ∀ x ∈ W, x.size < 100000) (h1 : c.1.length < 100000) (h2 : c.2.1.length < 100000) (h3 : c.2.2.length < 100000) (hw : dD W 0 = lY) :
    fX Tryz.prog OA 50 [.raw wc, .v (.sl .str) W] (dZ wc a0 a1 a2 c) (RdQ wc c W) := by
  refine fX.vI Tryz.func50 rfl (fun _ _ => rfl) rfl ?_; show U _ _ _ _ _ [(0, .raw wc), (1, .v (.sl .str) W)] (dZ wc a0 a1 a2 c) _; have hz1 : ∀ x ∈ W.drop 1, x.size < 100000 := fun x hx => hz x (List.mem_of_mem_drop hx); have pX : (W.drop 1).length = W.length - 1 := List.length_drop; have kX : dD W 0 = W[0] := gP h0; rw [kX] at hw; refine U.seq (U.text ?_); refine J.c (.assign rfl) ?_; refine J.go (U.seq (U.text ?_)); refine J.c (.move rfl) ?_; refine J.r (.CT rfl rfl b8 (by omega)) ?_; refine J.c (.build (W.drop 1, false) Q2) ?_; refine J.cell (.box .v) ?_; intro w5; show J _ _ _ _ _ _ ((w5, .var [.v (.sl .str) (W.drop 1), B false]) :: dZ wc a0 a1 a2 c) _; refine J.c (.assign rfl) ?_; refine J.go (U.seq (U.text ?_)); refine J.c (.move rfl) (J.c (.func) (J.c (.assign rfl) ?_)); refine J.go (U.seq (U.seq (U.text ?_))); refine J.c (.move rfl) (J.c (.ix (j := 0) rfl rfl b8 h0) ?_); refine J.r (.ld cJ) ?_; refine J.go (U.block (U.seq (U.text ?_))); refine J.c (.yJ hw) (J.c (.assign rfl) (J.go ?_)); refine U.jJ rfl ?_; have pN := ajG (c := c) h0 (kX.trans hw); have hvn : ∀ x ∈ ((W.drop 1, false) : Tk).1, x.size < 100000 := hz1; refine U.seq (U.text ?_); refine J.c (.move rfl) ?_; refine J.mJ [(w5, .var [.v (.sl .str) ((W.drop 1, false) : Tk).1, B ((W.drop 1, false) : Tk).2])] rfl rfl rfl (fX.gJ (a := [.raw w5]) (args := []) (c := []) (NM (s := (W.drop 1, false)) hvn)) ?_; rintro _ _ ⟨rfl, rfl⟩; generalize oO (W.drop 1, false) = v at *; generalize gY (W.drop 1, false) = s1 at *; show J _ _ _ _ _ _ ((w5, .var [.v (.sl .str) s1.1, B s1.2]) :: dZ wc a0 a1 a2 c) _; refine J.cell (.alloc AH) ?_; intro w7; refine J.eQ (cs' := [St v.1, I v.2]) n9 .v ?_; refine J.shut [(7, .p o5 v)] (.cons rfl (.var m0 .refl) .nil) ?_; refine J.go (U.seq (U.drawn ?_)); refine VD.c (.move rfl) (VD.c (.move rfl) ?_); refine VD.co (.eD m1) ?_; refine VD.co (.eL (k := 0) m1) ?_; refine VD.r ((w5, .var [.v (.sl .str) s1.1, B s1.2]) :: dZ wc a0 a1 a2 c) (.jK (k := 0) m1 sV) (.inr ⟨rfl, rfl⟩) ?_; refine VD.r [] (.ld n9) (.inl rfl) ?_; refine VD.new (.lit [v] l4) ?_; refine VD.perm dF ?_; refine VD.mk (bF.app l4 l4 rfl rfl (by simp; omega)) ?_; rintro _ _ tl ⟨wn, rfl, rfl⟩; refine VD.co (.eD m2) ?_; refine VD.co (.eL (k := 0) m2) ?_; refine VD.perm dF ?_; refine VD.one m1 fun ho => ?_; refine VD.oN (bF.fP (k := 0) sV (.raw rfl (fE ho) ho) (Nat.le_of_ble_eq_true rfl) (.inl rfl) rfl rfl) ?_; rintro _ _ XE ⟨rfl, rfl⟩; refine VD.go (U.seq (U.text ?_)); refine J.c (.move rfl) (J.c (.eD m2) (J.c (.eL (k := 1) m2) ?_)); refine J.r (.jK (k := 1) m2 BE) ?_; cases hq : s1.2
  . skip
    refine J.c (.not) (J.c (.move rfl) ?_); by_cases hl : s1.1.length = 0
    . skip
      refine J.c (.move rfl) (J.c (.eD m2) (J.c (.eL (k := 0) m2) ?_)); refine J.r (.jK (k := 0) m2 gL) ?_; refine J.r (.len b8) ?_; refine J.c (.LW (h := by omega)) (J.c (.bS rfl rfl) (J.c (.move rfl) ?_)); by_cases he : c.2.1.length = 0
      . skip
        refine J.c (.move rfl) (J.c (.eD m0) (J.c (.eL (k := 1) m0) ?_)); refine J.r (.jK (k := 1) m0 AI) ?_; refine J.r (.tU m3 sZ) ?_; refine J.c (.LW (h := by omega)) (J.c (.bS rfl rfl) (J.c (.move rfl) ?_)); by_cases hk : c.2.2.length = 0
        . skip
          refine J.c (.move rfl) (J.c (.eD m0) (J.c (.eL (k := 2) m0) ?_)); refine J.r (.jK (k := 2) m0 x4) ?_; refine J.r (.tU XD r3) ?_; refine J.c (.LW (h := by omega)) (J.c (.bS rfl rfl) (J.c (.assign rfl) (J.go ?_))); refine U.ret ?_; exact ⟨rfl, [(w5, .var [.v (.sl .str) s1.1, B false])], dZ wc wn a1 a2 (c.1 ++ [v], c.2.1, c.2.2), [B true], dF, .cons aZ .nil, FF (by rw [pN]; congr 1; simp [hq, hl, he, hk]), bL⟩
        skip
        refine J.c (.move rfl) (J.c (.eD m0) (J.c (.eL (k := 2) m0) ?_)); refine J.r (.jK (k := 2) m0 x4) ?_; refine J.r (.tU XD r3) ?_; refine J.c (.zZ (h := by omega)) (J.c (.bS rfl rfl) (J.c (.assign rfl) (J.go ?_))); refine U.ret ?_; exact ⟨rfl, [(w5, .var [.v (.sl .str) s1.1, B false])], dZ wc wn a1 a2 (c.1 ++ [v], c.2.1, c.2.2), [B false], dF, .cons aZ .nil, FF (by rw [pN]; congr 1; simp [hq, hl, he, hk]), bL⟩
      skip
      refine J.c (.move rfl) (J.c (.eD m0) (J.c (.eL (k := 1) m0) ?_)); refine J.r (.jK (k := 1) m0 AI) ?_; refine J.r (.tU m3 sZ) ?_; refine J.c (.zZ (h := by omega)) (J.c (.bS rfl rfl) (J.c (.move rfl) (J.skip ?_))); refine J.skip (J.skip (J.skip (J.skip ?_))); refine J.skip (J.c (.aU rfl rfl) (J.c (.assign rfl) (J.go ?_))); refine U.ret ?_; exact ⟨rfl, [(w5, .var [.v (.sl .str) s1.1, B false])], dZ wc wn a1 a2 (c.1 ++ [v], c.2.1, c.2.2), [B false], dF, .cons aZ .nil, FF (by rw [pN]; congr 1; simp [hq, hl, he]), bL⟩
    skip
    refine J.c (.move rfl) (J.c (.eD m2) (J.c (.eL (k := 0) m2) ?_)); refine J.r (.jK (k := 0) m2 gL) ?_; refine J.r (.len b8) ?_; refine J.c (.zZ (h := by omega)) (J.c (.bS rfl rfl) (J.c (.move rfl) (J.skip ?_))); refine J.skip (J.skip (J.skip (J.skip ?_))); refine J.skip (J.c (.aU rfl rfl) (J.c (.move rfl) (J.skip ?_))); refine J.skip (J.skip (J.skip (J.skip ?_))); refine J.skip (J.c (.aU rfl rfl) (J.c (.assign rfl) (J.go ?_))); refine U.ret ?_; exact ⟨rfl, [(w5, .var [.v (.sl .str) s1.1, B false])], dZ wc wn a1 a2 (c.1 ++ [v], c.2.1, c.2.2), [B false], dF, .cons aZ .nil, FF (by rw [pN]; congr 1; simp [hq, hl]), bL⟩
  skip
  refine J.c (.not) (J.c (.move rfl) (J.skip (J.skip ?_))); refine J.skip (J.skip (J.skip (J.skip ?_))); refine J.c (.aU rfl rfl) (J.c (.move rfl) (J.skip (J.skip ?_))); refine J.skip (J.skip (J.skip (J.skip ?_))); refine J.c (.aU rfl rfl) (J.c (.move rfl) (J.skip (J.skip ?_))); refine J.skip (J.skip (J.skip (J.skip ?_))); refine J.c (.aU rfl rfl) (J.c (.assign rfl) (J.go ?_)); refine U.ret ?_; exact ⟨rfl, [(w5, .var [.v (.sl .str) s1.1, B true])], dZ wc wn a1 a2 (c.1 ++ [v], c.2.1, c.2.2), [B false], dF, .cons aZ .nil, FF (by rw [pN]; congr 1; simp [hq]), bL⟩
theorem afL {wc a0 a1 a2 : Value} {c : dG} {W : List ByteArray} (h0 : 0 < W.length) (hW : W.length < 100000) (hz : ∀ x ∈ W, x.size < 100000) (h1 : c.1.length < 100000) (h2 : c.2.1.length < 100000) (h3 : c.2.2.length < 100000) (hw : dD W 0 = lZ) :
    fX Tryz.prog OA 50 [.raw wc, .v (.sl .str) W] (dZ wc a0 a1 a2 c) (RdQ wc c W) := by
  refine fX.vI Tryz.func50 rfl (fun _ _ => rfl) rfl ?_; show U _ _ _ _ _ [(0, .raw wc), (1, .v (.sl .str) W)] (dZ wc a0 a1 a2 c) _; have hz1 : ∀ x ∈ W.drop 1, x.size < 100000 := fun x hx => hz x (List.mem_of_mem_drop hx); have pX : (W.drop 1).length = W.length - 1 := List.length_drop; have kX : dD W 0 = W[0] := gP h0; rw [kX] at hw; refine U.seq (U.text ?_); refine J.c (.assign rfl) ?_; refine J.go (U.seq (U.text ?_)); refine J.c (.move rfl) ?_; refine J.r (.CT rfl rfl b8 (by omega)) ?_; refine J.c (.build (W.drop 1, false) Q2) ?_; refine J.cell (.box .v) ?_; intro w5; show J _ _ _ _ _ _ ((w5, .var [.v (.sl .str) (W.drop 1), B false]) :: dZ wc a0 a1 a2 c) _; refine J.c (.assign rfl) ?_; refine J.go (U.seq (U.text ?_)); refine J.c (.move rfl) (J.c (.func) (J.c (.assign rfl) ?_)); refine J.go (U.seq (U.seq (U.text ?_))); refine J.c (.move rfl) (J.c (.ix (j := 0) rfl rfl b8 h0) ?_); refine J.r (.ld cJ) ?_; refine J.go (U.block (U.seq (U.text ?_)))
  have hwv : W[0] ≠ lY := by rw [hw]; decide
  refine J.c (.kT hwv) (J.c (.assign rfl) (J.go ?_)); refine U.eB rfl ?_; refine U.seq (U.text ?_); refine J.c (.yJ hw) (J.c (.assign rfl) (J.go ?_)); refine U.jJ rfl ?_; have pN := ajH (c := c) (n := W.length) h0 (Nat.le_refl _) (kX.trans hw); refine U.seq (U.text ?_); refine J.c (.move rfl) ?_; refine J.mJ [(w5, .var [.v (.sl .str) (W.drop 1), B false])] rfl rfl rfl (fX.call sE) ?_; rintro _ _ ⟨rfl, rfl⟩; generalize r6 (W.drop 1, false) = nm at *; have OG : ∀ x ∈ (dS (W.drop 1, false)).1, x.size < 100000 := fun x hx => hz1 x (DE hx); have iT : (dS (W.drop 1, false)).1.length <= (W.drop 1).length := HU
  have iT : (dS (W.drop 1, false)).1.length <= W.length := by omega
  generalize dS (W.drop 1, false) = s0 at *; show J _ _ _ _ _ _ ((w5, .var [.v (.sl .str) s0.1, B s0.2]) :: dZ wc a0 a1 a2 c) _; refine J.c (.D0 (cs := [St nm, cK]) aeE rfl) ?_; refine J.cell (.alloc F6) ?_; intro w8; refine J.eQ (cs' := [St nm, cK]) uL (.GB rfl rfl) ?_; refine J.go (U.seq (U.block ?_)); refine U.cell0 98 o5 ?_; refine U.keep [(0, .raw wc), (5, .raw w5), (6, .gJ 96 [.raw w5] []), (8, .raw w8)] ⟨rfl, rfl, rfl, rfl, trivial⟩ ?_; refine U.loop (I := fun kk ff ss => ∃ (s : Tk) (o : List fV) (w2 : Value) (m : Nat), kk = s.1.length /\ ff = [(0, .raw wc), (5, .raw w5), (6, .gJ 96 [.raw w5] []), (8, .raw w8)] /\ ss = (w2, .row 98 o5 o) :: (w8, .var [St nm, .raw w2]) :: (w5, .var [.v (.sl .str) s.1, B s.2]) :: dZ wc a0 a1 a2 c /\ s.1.length <= m /\ o.length + s.1.length <= W.length /\ (∀ x ∈ s.1, x.size < 100000) /\ u5 m s o = u5 W.length s0 []) ?_ _ _ _ ⟨s0, [], .slice none 0 0, W.length, rfl, rfl, rfl, iT, by simpa using iT, OG, rfl⟩; rintro kk ff ss ⟨s, o, w2, m, kI, rfl, rfl, hsm, OI, cX, KL⟩; refine U.seq (U.seq (U.text ?_)); refine J.c (.move rfl) (J.c (.eD m2) (J.c (.eL (k := 0) m2) ?_)); refine J.r (.jK (k := 0) m2 gL) ?_; refine J.r (.len b8) ?_; refine J.c (.gtr) (J.go ?_); refine U.aM rfl (fun F5 => ?_) (fun F5 => ?_)
  . have yD : s.1 ≠ [] := fun h => by rw [h] at F5; simp at F5
    obtain ⟨m, rfl⟩ : ∃ q, m = q + 1 := ⟨m - 1, by omega⟩; rw [Q0 yD] at KL; have b7 := abX yD; have IY : ∀ x ∈ (gY s).1, x.size < 100000 := fun x hx => cX x (DE (DE hx)); refine U.skip (U.block (U.seq (U.text ?_))); refine J.c (.move rfl) ?_; refine J.perm dF ?_; refine J.mJ [(w5, .var [.v (.sl .str) s.1, B s.2])] rfl rfl rfl (fX.gJ (a := [.raw w5]) (args := []) (c := []) (NM cX)) ?_; rintro _ _ ⟨rfl, rfl⟩; refine J.cell (.alloc AH) ?_; intro w9; refine J.eQ (cs' := [St (oO s).1, I (oO s).2]) n9 .v ?_; refine J.shut [(9, .p o5 (oO s))] (.cons rfl (.var m0 .refl) .nil) ?_; refine J.go (U.text ?_); refine J.c (.eL (k := 1) m2) ?_; refine J.r (.jK (k := 1) m2 sV) ?_; refine J.r (.ld n9) ?_; refine J.new (.lit [oO s] l4) ?_; refine J.perm cW ?_; refine J.app rfl rfl l4 l4 (by simp; omega) ?_; intro wn; refine J.c (.eL (k := 1) m2) ?_; refine J.perm dF ?_; refine J.one m1 fun ho => ?_; refine J.fP (cs' := [St nm, .raw wn]) 1 sV (.raw rfl (fE ho) ho) ?_; refine J.perm cW ?_; refine J.nil ?_; exact ⟨(gY s).1.length, [(0, .raw wc), (5, .raw w5), (6, .gJ 96 [.raw w5] []), (8, .raw w8)], by omega, ⟨rfl, rfl, rfl, rfl, trivial⟩, gY s, o ++ [oO s], wn, m, rfl, rfl, rfl, by omega, by simp only [List.length_append, List.length_cons, List.length_nil]; omega, IY, KL⟩
  have yD : s.1 = [] := List.eq_nil_of_length_eq_zero (by omega)
  have U2 : u5 W.length s0 [] = (s, o) := by
    obtain ⟨sl, sb⟩ := s; have yD : sl = [] := yD; subst yD; rw [<- KL, qF]
  rw [U2] at pN; refine U.exit ?_; refine U.wK [(w2, .row 98 o5 o), (w8, .var [St nm, .raw w2])] [(8, .p pR (nm, o))] rfl (.cons rfl (.var m1 (.cons .same (.cons (.row m0) .nil))) .nil) ?_; clear KL U2 kI hsm iT OG; generalize xO : s = s1 at *; refine U.seq (U.drawn ?_); refine VD.c (.move rfl) (VD.c (.move rfl) ?_); refine VD.co (.eD m1) ?_; refine VD.co (.eL (k := 1) m1) ?_; refine VD.r ((w5, .var [.v (.sl .str) s1.1, B s1.2]) :: dZ wc a0 a1 a2 c) (.jK (k := 1) m1 AI) (.inr ⟨rfl, rfl⟩) ?_; refine VD.r [] (.ld uL) (.inl rfl) ?_; refine VD.new (.lit [(nm, o)] sZ) ?_; refine VD.perm lX ?_; refine VD.mk (bF.app sZ sZ rfl rfl (by simp; omega)) ?_; rintro _ _ tl ⟨wn, rfl, rfl⟩; refine VD.co (.eD m2) ?_; refine VD.co (.eL (k := 1) m2) ?_; refine VD.perm dF ?_; refine VD.one m1 fun ho => ?_; refine VD.oN (bF.fP (k := 1) AI (.raw rfl (fE ho) ho) (Nat.le_of_ble_eq_true rfl) (.inl rfl) rfl rfl) ?_; rintro _ _ XE ⟨rfl, rfl⟩; refine VD.go (U.seq (U.text ?_)); refine J.c (.move rfl) (J.c (.eD m2) (J.c (.eL (k := 1) m2) ?_)); refine J.r (.jK (k := 1) m2 BE) ?_; cases hq : s1.2
  . skip
    refine J.c (.not) (J.c (.move rfl) ?_); by_cases hk : c.2.2.length = 0
    . skip
      refine J.c (.move rfl) (J.c (.eD m0) (J.c (.eL (k := 2) m0) ?_)); refine J.r (.jK (k := 2) m0 x4) ?_; refine J.r (.tU XD r3) ?_; refine J.c (.LW (h := by omega)) (J.c (.bS rfl rfl) (J.c (.assign rfl) (J.go ?_))); refine U.ret ?_; exact ⟨rfl, [(w5, .var [.v (.sl .str) s1.1, B false])], dZ wc a0 wn a2 (c.1, c.2.1 ++ [(nm, o)], c.2.2), [B true], (dF.trans (List.Perm.cons _ (List.Perm.cons _ cW))), .cons aZ .nil, FF (by rw [pN]; congr 1; simp [hq, hk]), bL⟩
    skip
    refine J.c (.move rfl) (J.c (.eD m0) (J.c (.eL (k := 2) m0) ?_)); refine J.r (.jK (k := 2) m0 x4) ?_; refine J.r (.tU XD r3) ?_; refine J.c (.zZ (h := by omega)) (J.c (.bS rfl rfl) (J.c (.assign rfl) (J.go ?_))); refine U.ret ?_; exact ⟨rfl, [(w5, .var [.v (.sl .str) s1.1, B false])], dZ wc a0 wn a2 (c.1, c.2.1 ++ [(nm, o)], c.2.2), [B false], (dF.trans (List.Perm.cons _ (List.Perm.cons _ cW))), .cons aZ .nil, FF (by rw [pN]; congr 1; simp [hq, hk]), bL⟩
  skip
  refine J.c (.not) (J.c (.move rfl) (J.skip (J.skip ?_))); refine J.skip (J.skip (J.skip (J.skip ?_))); refine J.c (.aU rfl rfl) (J.c (.assign rfl) (J.go ?_)); refine U.ret ?_; exact ⟨rfl, [(w5, .var [.v (.sl .str) s1.1, B true])], dZ wc a0 wn a2 (c.1, c.2.1 ++ [(nm, o)], c.2.2), [B false], (dF.trans (List.Perm.cons _ (List.Perm.cons _ cW))), .cons aZ .nil, FF (by rw [pN]; congr 1; simp [hq]), bL⟩
theorem afM {wc a0 a1 a2 : Value} {c : dG} {W : List ByteArray} (h0 : 0 < W.length) (hW : W.length < 100000) (hz : ∀ x ∈ W, x.size < 100000) (h1 : c.1.length < 100000) (h2 : c.2.1.length < 100000) (h3 : c.2.2.length < 100000) (hw : dD W 0 = mZ) :
    fX Tryz.prog OA 50 [.raw wc, .v (.sl .str) W] (dZ wc a0 a1 a2 c) (RdQ wc c W) := by
  refine fX.vI Tryz.func50 rfl (fun _ _ => rfl) rfl ?_; show U _ _ _ _ _ [(0, .raw wc), (1, .v (.sl .str) W)] (dZ wc a0 a1 a2 c) _; have hz1 : ∀ x ∈ W.drop 1, x.size < 100000 := fun x hx => hz x (List.mem_of_mem_drop hx); have pX : (W.drop 1).length = W.length - 1 := List.length_drop; have kX : dD W 0 = W[0] := gP h0; rw [kX] at hw; refine U.seq (U.text ?_); refine J.c (.assign rfl) ?_; refine J.go (U.seq (U.text ?_)); refine J.c (.move rfl) ?_; refine J.r (.CT rfl rfl b8 (by omega)) ?_; refine J.c (.build (W.drop 1, false) Q2) ?_; refine J.cell (.box .v) ?_; intro w5; show J _ _ _ _ _ _ ((w5, .var [.v (.sl .str) (W.drop 1), B false]) :: dZ wc a0 a1 a2 c) _; refine J.c (.assign rfl) ?_; refine J.go (U.seq (U.text ?_)); refine J.c (.move rfl) (J.c (.func) (J.c (.assign rfl) ?_)); refine J.go (U.seq (U.seq (U.text ?_))); refine J.c (.move rfl) (J.c (.ix (j := 0) rfl rfl b8 h0) ?_); refine J.r (.ld cJ) ?_; refine J.go (U.block (U.seq (U.text ?_)))
  have hwv : W[0] ≠ lY := by rw [hw]; decide
  have hwe : W[0] ≠ lZ := by rw [hw]; decide
  refine J.c (.kT hwv) (J.c (.assign rfl) (J.go ?_)); refine U.eB rfl ?_; refine U.seq (U.text ?_); refine J.c (.kT hwe) (J.c (.assign rfl) (J.go ?_)); refine U.eB rfl ?_; refine U.seq (U.text ?_); refine J.c (.yJ hw) (J.c (.assign rfl) (J.go ?_)); refine U.jJ rfl ?_; have pN := ajI (c := c) (n := W.length) h0 (Nat.le_refl _) (kX.trans hw); refine U.seq (U.text ?_); refine J.c (.move rfl) ?_; refine J.mJ [(w5, .var [.v (.sl .str) (W.drop 1), B false])] rfl rfl rfl (fX.call sE) ?_; rintro _ _ ⟨rfl, rfl⟩; generalize r6 (W.drop 1, false) = nm at *; have iT : (dS (W.drop 1, false)).1.length <= (W.drop 1).length := HU
  have iT : (dS (W.drop 1, false)).1.length <= W.length := by omega
  generalize dS (W.drop 1, false) = sa at *; show J _ _ _ _ _ _ ((w5, .var [.v (.sl .str) sa.1, B sa.2]) :: dZ wc a0 a1 a2 c) _; refine J.c (.D0 (cs := [St nm, .raw (.bool false), cK]) aeF rfl) ?_; refine J.cell (.alloc K3) ?_; intro U3; refine J.eQ (cs' := [St nm, .raw (.bool false), cK]) yC (.GB rfl rfl) ?_; refine J.go (U.seq (U.text ?_)); refine J.c (.move rfl) ?_; refine J.perm cW ?_; refine J.mJ [(w5, .var [.v (.sl .str) sa.1, B sa.2])] rfl rfl rfl (fX.call sE) ?_; rintro _ _ ⟨rfl, rfl⟩; have IL := HU (s := sa)
  have IL : (dS sa).1.length <= W.length := by omega
  generalize r6 sa = kd at *; generalize dS sa = s0 at *; show J _ _ _ _ _ _ ((w5, .var [.v (.sl .str) s0.1, B s0.2]) :: (U3, .var [St nm, .raw (.bool false), cK]) :: dZ wc a0 a1 a2 c) _; refine J.c (.assign rfl) ?_; refine J.go (U.seq (U.text ?_)); refine J.c (.move rfl) (J.c (.sT) (J.c (.eL (k := 1) m1) ?_)); refine J.perm cW ?_; refine J.fP (cs' := [St nm, B (decide (kd = j6)), cK]) 1 BE .v ?_; refine J.go (U.seq (U.block ?_)); refine U.cell0 9 .str ?_; refine U.keep [(0, .raw wc), (5, .raw w5), (10, .raw U3), (11, St kd)] ⟨rfl, rfl, rfl, rfl, trivial⟩ ?_; refine U.loop (I := fun kk ff ss => ∃ (s : Tk) (o : List ByteArray) (w2 : Value) (m : Nat), kk = s.1.length /\ ff = [(0, .raw wc), (5, .raw w5), (10, .raw U3), (11, St kd)] /\ ss = (w2, .row 9 .str o) :: (U3, .var [St nm, B (decide (kd = j6)), .raw w2]) :: (w5, .var [.v (.sl .str) s.1, B s.2]) :: dZ wc a0 a1 a2 c /\ s.1.length <= m /\ o.length + s.1.length <= W.length /\ tH m s o = tH W.length s0 []) ?_ _ _ _ ⟨s0, [], .slice none 0 0, W.length, rfl, rfl, rfl, IL, by simpa using IL, rfl⟩; rintro kk ff ss ⟨s, o, w2, m, kI, rfl, rfl, hsm, OI, KL⟩; refine U.seq (U.seq (U.text ?_)); refine J.c (.move rfl) (J.c (.eD m2) (J.c (.eL (k := 0) m2) ?_)); refine J.r (.jK (k := 0) m2 gL) ?_; refine J.r (.len b8) ?_; refine J.c (.gtr) (J.go ?_); refine U.aM rfl (fun BF => ?_) (fun BF => ?_)
  . have yD : s.1 ≠ [] := fun h => by rw [h] at BF; simp at BF
    obtain ⟨m, rfl⟩ : ∃ q, m = q + 1 := ⟨m - 1, by omega⟩; rw [YU yD] at KL; have b7 := KI yD; refine U.skip (U.block (U.seq (U.text ?_))); refine J.c (.move rfl) ?_; refine J.perm dF ?_; refine J.mJ [(w5, .var [.v (.sl .str) s.1, B s.2])] rfl rfl rfl (fX.call sE) ?_; rintro _ _ ⟨rfl, rfl⟩; show J _ _ _ _ _ _ ((w5, .var [.v (.sl .str) (dS s).1, B (dS s).2]) :: (w2, .row 9 .str o) :: (U3, .var [St nm, B (decide (kd = j6)), .raw w2]) :: dZ wc a0 a1 a2 c) _; refine J.c (.assign rfl) ?_; refine J.go (U.text ?_); refine J.c (.eL (k := 2) m2) ?_; refine J.r (.jK (k := 2) m2 gL) ?_; refine J.c (.move rfl) ?_; refine J.new (.lit [r6 s] b8) ?_; refine J.perm cW ?_; refine J.app rfl rfl b8 b8 (by simp; omega) ?_; intro wn; refine J.c (.eL (k := 2) m2) ?_; refine J.perm dF ?_; refine J.one m1 fun ho => ?_; refine J.fP (cs' := [St nm, B (decide (kd = j6)), .raw wn]) 2 gL (.raw rfl (fE ho) ho) ?_; refine J.perm cW ?_; refine J.nil ?_; exact ⟨(dS s).1.length, [(0, .raw wc), (5, .raw w5), (10, .raw U3), (11, St kd)], by omega, ⟨rfl, rfl, rfl, rfl, trivial⟩, dS s, o ++ [r6 s], wn, m, rfl, rfl, rfl, by omega, by simp only [List.length_append, List.length_cons, List.length_nil]; omega, KL⟩
  have yD : s.1 = [] := List.eq_nil_of_length_eq_zero (by omega)
  have U2 : tH W.length s0 [] = (s, o) := by
    obtain ⟨sl, sb⟩ := s; have yD : sl = [] := yD; subst yD; rw [<- KL, qG]
  rw [U2] at pN; refine U.exit ?_; refine U.wK [(w2, .row 9 .str o), (U3, .var [St nm, B (decide (kd = j6)), .raw w2])] [(10, .p rO (nm, decide (kd = j6), o))] rfl (.cons rfl (.var m1 (.cons .same (.cons .same (.cons (.row m0) .nil)))) .nil) ?_; clear KL U2 kI hsm iT IL; generalize xO : s = s1 at *; refine U.seq (U.drawn ?_); refine VD.c (.move rfl) (VD.c (.move rfl) ?_); refine VD.co (.eD m1) ?_; refine VD.co (.eL (k := 2) m1) ?_; refine VD.r ((w5, .var [.v (.sl .str) s1.1, B s1.2]) :: dZ wc a0 a1 a2 c) (.jK (k := 2) m1 x4) (.inr ⟨rfl, rfl⟩) ?_; refine VD.r [] (.ld yC) (.inl rfl) ?_; refine VD.new (.lit [(nm, decide (kd = j6), o)] r3) ?_; refine VD.perm U1 ?_; refine VD.mk (bF.app r3 r3 rfl rfl (by simp; omega)) ?_; rintro _ _ tl ⟨wn, rfl, rfl⟩; refine VD.co (.eD m2) ?_; refine VD.co (.eL (k := 2) m2) ?_; refine VD.perm dF ?_; refine VD.one m1 fun ho => ?_; refine VD.oN (bF.fP (k := 2) x4 (.raw rfl (fE ho) ho) (Nat.le_of_ble_eq_true rfl) (.inl rfl) rfl rfl) ?_; rintro _ _ XE ⟨rfl, rfl⟩; refine VD.go (U.seq (U.text ?_)); refine J.c (.move rfl) (J.c (.eD m2) (J.c (.eL (k := 1) m2) ?_)); refine J.r (.jK (k := 1) m2 BE) ?_; cases hq : s1.2
  . skip
    refine J.c (.not) (J.c (.move rfl) (J.c (.move rfl) ?_)); by_cases hA : kd = yI
    . skip
      refine J.c (.yJ hA) (J.c (.move rfl) (J.skip (J.skip ?_))); refine J.c (.bS rfl rfl) (J.c (.bS rfl rfl) (J.c (.assign rfl) (J.go ?_))); refine U.ret ?_; exact ⟨rfl, [(w5, .var [.v (.sl .str) s1.1, B false])], dZ wc a0 a1 wn (c.1, c.2.1, c.2.2 ++ [(nm, decide (kd = j6), o)]), [B true], (dF.trans (List.Perm.cons _ (List.Perm.cons _ dF.symm))), .cons aZ .nil, FF (by rw [pN]; congr 1; simp [hq, hA]), bL⟩
    by_cases hB : kd = j6
    . skip
      refine J.c (.kT hA) (J.c (.move rfl) (J.c (.move rfl) (J.c (.yJ hB) ?_))); refine J.c (.aU rfl rfl) (J.c (.bS rfl rfl) (J.c (.assign rfl) (J.go ?_))); refine U.ret ?_; exact ⟨rfl, [(w5, .var [.v (.sl .str) s1.1, B false])], dZ wc a0 a1 wn (c.1, c.2.1, c.2.2 ++ [(nm, decide (kd = j6), o)]), [B true], (dF.trans (List.Perm.cons _ (List.Perm.cons _ dF.symm))), .cons aZ .nil, FF (by rw [pN]; congr 1; simp [hq, hB]), bL⟩
    skip
    refine J.c (.kT hA) (J.c (.move rfl) (J.c (.move rfl) (J.c (.kT hB) ?_))); refine J.c (.aU rfl rfl) (J.c (.bS rfl rfl) (J.c (.assign rfl) (J.go ?_))); refine U.ret ?_; exact ⟨rfl, [(w5, .var [.v (.sl .str) s1.1, B false])], dZ wc a0 a1 wn (c.1, c.2.1, c.2.2 ++ [(nm, decide (kd = j6), o)]), [B false], (dF.trans (List.Perm.cons _ (List.Perm.cons _ dF.symm))), .cons aZ .nil, FF (by rw [pN]; congr 1; simp [hq, hA, hB]), bL⟩
  skip
  refine J.c (.not) (J.c (.move rfl) (J.skip (J.skip ?_))); refine J.skip (J.skip (J.skip (J.skip ?_))); refine J.c (.aU rfl rfl) (J.c (.assign rfl) (J.go ?_)); refine U.ret ?_; exact ⟨rfl, [(w5, .var [.v (.sl .str) s1.1, B true])], dZ wc a0 a1 wn (c.1, c.2.1, c.2.2 ++ [(nm, decide (kd = j6), o)]), [B false], (dF.trans (List.Perm.cons _ (List.Perm.cons _ dF.symm))), .cons aZ .nil, FF (by rw [pN]; congr 1; simp [hq]), bL⟩
theorem afN {wc a0 a1 a2 : Value} {c : dG} {W : List ByteArray} (h0 : 0 < W.length) (hW : W.length < 100000) (hz : ∀ x ∈ W, x.size < 100000) (h1 : c.1.length < 100000) (h2 : c.2.1.length < 100000) (h3 : c.2.2.length < 100000) (hw : (dD W 0 ≠ lY /\ dD W 0 ≠ lZ) /\ dD W 0 ≠ mZ) :
    fX Tryz.prog OA 50 [.raw wc, .v (.sl .str) W] (dZ wc a0 a1 a2 c) (RdQ wc c W) := by
  refine fX.vI Tryz.func50 rfl (fun _ _ => rfl) rfl ?_; show U _ _ _ _ _ [(0, .raw wc), (1, .v (.sl .str) W)] (dZ wc a0 a1 a2 c) _; have hz1 : ∀ x ∈ W.drop 1, x.size < 100000 := fun x hx => hz x (List.mem_of_mem_drop hx); have pX : (W.drop 1).length = W.length - 1 := List.length_drop; have kX : dD W 0 = W[0] := gP h0; rw [kX] at hw; refine U.seq (U.text ?_); refine J.c (.assign rfl) ?_; refine J.go (U.seq (U.text ?_)); refine J.c (.move rfl) ?_; refine J.r (.CT rfl rfl b8 (by omega)) ?_; refine J.c (.build (W.drop 1, false) Q2) ?_; refine J.cell (.box .v) ?_; intro w5; show J _ _ _ _ _ _ ((w5, .var [.v (.sl .str) (W.drop 1), B false]) :: dZ wc a0 a1 a2 c) _; refine J.c (.assign rfl) ?_; refine J.go (U.seq (U.text ?_)); refine J.c (.move rfl) (J.c (.func) (J.c (.assign rfl) ?_)); refine J.go (U.seq (U.seq (U.text ?_))); refine J.c (.move rfl) (J.c (.ix (j := 0) rfl rfl b8 h0) ?_); refine J.r (.ld cJ) ?_; refine J.go (U.block (U.seq (U.text ?_))); refine J.c (.kT hw.1.1) (J.c (.assign rfl) (J.go ?_)); refine U.eB rfl ?_; refine U.seq (U.text ?_); refine J.c (.kT hw.1.2) (J.c (.assign rfl) (J.go ?_)); refine U.eB rfl ?_; refine U.seq (U.text ?_); refine J.c (.kT hw.2) (J.c (.assign rfl) (J.go ?_)); refine U.eB rfl ?_; have pN := ajJ (c := c) (by rw [kX]; exact hw.1.1) (by rw [kX]; exact hw.1.2) (by rw [kX]; exact hw.2); refine U.skip (U.seq (U.text ?_)); refine J.c (.assign rfl) (J.go ?_); refine U.ret ?_; exact ⟨rfl, [(w5, .var [.v (.sl .str) (W.drop 1), B false])], dZ wc a0 a1 a2 c, [B false], .refl _, .cons aZ .nil, FF (by rw [pN]; rfl), bL⟩
theorem abY {wc a0 a1 a2 : Value} {c : dG} {W : List ByteArray} (h0 : 0 < W.length) (hW : W.length < 100000) (hz : ∀ x ∈ W, x.size < 100000) (h1 : c.1.length < 100000) (h2 : c.2.1.length < 100000) (h3 : c.2.2.length < 100000) :
    fX Tryz.prog OA 50 [.raw wc, .v (.sl .str) W] (dZ wc a0 a1 a2 c) (RdQ wc c W) := by
  by_cases hv : dD W 0 = lY
  . exact afK h0 hW hz h1 h2 h3 hv
  by_cases he : dD W 0 = lZ
  . exact afL h0 hW hz h1 h2 h3 he
  by_cases hc : dD W 0 = mZ
  . exact afM h0 hW hz h1 h2 h3 hc
  exact afN h0 hW hz h1 h2 h3 ⟨⟨hv, he⟩, hc⟩
end Go.Proofs
namespace Go.Proofs
open Go.Fs
set_option maxHeartbeats 1000000
theorem BL {s : ByteArray} (h : iL s = true) : TX s /\ s ≠ ByteArray.empty /\ s.size <= 24 := by
  obtain ⟨h1, h2, h3⟩ := of_decide_eq_true h; have hl := cU s; refine ⟨fun c hc => ?_, size_empty.2 h1, h2⟩; obtain ⟨i, hi, rfl⟩ := List.mem_iff_getElem.1 hc; have h4 := h3 i (by omega); rw [qD hi] at h4; unfold kD lK pE at h4; constructor
  . intro e; rw [e] at h4
    revert h4
    cases decide (i ≠ 0) <;> decide
  intro e; rw [e] at h4
  revert h4
  cases decide (i ≠ 0) <;> decide
structure iF (w : ByteArray) : Prop where
  fre : TX w
  ne : w ≠ ByteArray.empty
  sz : w.size <= 24
theorem FG {s : ByteArray} (h : iL s = true) : iF s := ⟨(BL h).1, (BL h).2.1, (BL h).2.2⟩
theorem r7 {f : Nat -> Int} {n : Nat} (h : dI f 0 n = 0) : ∀ i, i < n -> f i = 0 := fun i hi => by
  unfold dI at h; exact l3.1 h _ (List.mem_map_of_mem (List.mem_range'_1.2 ⟨Nat.zero_le _, by omega⟩))
theorem KM {b : Bool} {e : Int} (he : e ≠ 0) (h : bH (!b) e = 0) : b = true := by
  cases b with
  | true => rfl
  | false => exact absurd h he
theorem YW {n lo hi : Int} (h : fI n lo hi = 0) : lo <= n /\ n <= hi := by
  unfold fI at h; by_cases hc : n < lo \/ hi < n
  . rw [if_pos hc] at h; cases h
  omega
structure U4 (c : dG) : Prop where
  n1 : c.1.length <= 64
  n2 : c.2.1.length <= 64
  n3 : c.2.2.length <= 64
  v : ∀ v ∈ c.1, iF v.1 /\ 0 <= v.2 /\ v.2 <= 999
  e : ∀ x ∈ c.2.1, iF x.1 /\ x.2.length <= 16 /\ ∀ v ∈ x.2, iF v.1 /\ 0 <= v.2 /\ v.2 <= 999
  l : ∀ x ∈ c.2.2, iF x.1 /\ x.2.2.length <= 16 /\ ∀ u ∈ x.2.2, iF u
theorem abZ {l : List fV} {s : ByteArray} (h : 0 <= fZ l s) : ∃ v ∈ l, v.1 = s := by
  obtain ⟨x, hx, hf⟩ := gK.1 h; exact ⟨x, hx, of_decide_eq_true hf⟩
theorem Q3 {c : dG} (h : fF c = 0) : U4 c := by
  unfold fF at h; by_cases h1 : fL c.1 ≠ 0
  . rw [if_pos h1] at h; exact absurd h h1
  rw [if_neg h1] at h; by_cases h2 : 64 < (c.2.1.length : Int)
  . rw [if_pos h2] at h; cases h
  rw [if_neg h2] at h; by_cases h3 : dI (pG c) 0 c.2.1.length ≠ 0
  . rw [if_pos h3] at h; exact absurd h h3
  rw [if_neg h3] at h; by_cases h4 : 64 < (c.2.2.length : Int)
  . rw [if_pos h4] at h; cases h
  rw [if_neg h4] at h; have h1 := Classical.not_not.1 h1; have h3 := r7 (Classical.not_not.1 h3); have h := r7 h; unfold fL at h1; by_cases h5 : 64 < (c.1.length : Int)
  . rw [if_pos h5] at h1; cases h1
  rw [if_neg h5] at h1; have h1 := r7 h1
  have hv : ∀ v ∈ c.1, iF v.1 /\ 0 <= v.2 /\ v.2 <= 999 := fun v hv => by
    obtain ⟨i, hi, rfl⟩ := List.mem_iff_getElem.1 hv; have h6 := l3.1 (h1 i hi); have h7 := KM (by decide) (h6 (bH (!iL (BB c.1 i).1) 8) (by simp)); have h8 := YW (h6 (fI (BB c.1 i).2 0 999) (by simp)); rw [qR hi] at h7 h8; exact ⟨FG h7, h8⟩
  have he : ∀ x ∈ c.2.1, iF x.1 /\ x.2.length <= 16 /\ ∀ v ∈ x.2, iF v.1 /\ 0 <= v.2 /\ v.2 <= 999 := fun x hx => by
    obtain ⟨i, hi, rfl⟩ := List.mem_iff_getElem.1 hx; have h6 := l3.1 (h3 i hi); have h7 := KM (by decide) (h6 (bH (!iL (T5 c i).1) 8) (by simp)); have h8 := h6 (sX (mY c) (T5 c i).2) (by simp); rw [wM hi] at h7 h8; unfold sX at h8; by_cases h9 : 16 < (c.2.1[i].2.length : Int)
    . rw [if_pos h9] at h8; cases h8
    rw [if_neg h9] at h8; have h8 := r7 h8; refine ⟨FG h7, by omega, fun v lF => ?_⟩; obtain ⟨k, hk, rfl⟩ := List.mem_iff_getElem.1 lF; have h10 := l3.1 (h8 k hk); have LM := KM (by decide) (h10 (bH (!mY c (BB c.2.1[i].2 k).1) 10) (by simp)); have SQ := YW (h10 (fI (BB c.2.1[i].2 k).2 0 999) (by simp)); rw [qR hk] at LM SQ; obtain ⟨z, hz, hze⟩ := abZ (of_decide_eq_true LM); exact ⟨hze ▸ (hv z hz).1, SQ⟩
  have FD : ∀ x ∈ c.2.2, iF x.1 := fun x hx => by
    obtain ⟨i, hi, rfl⟩ := List.mem_iff_getElem.1 hx; have h6 := l3.1 (h i hi); have h7 := KM (by decide) (h6 (bH (!iL (T7 c i).1) 8) (by simp)); rw [tY hi] at h7; exact FG h7
  refine ⟨by omega, by omega, by omega, hv, he, fun x hx => ⟨FD x hx, ?_⟩⟩; obtain ⟨i, hi, rfl⟩ := List.mem_iff_getElem.1 hx; have h6 := l3.1 (h i hi); have h8 := h6 (pF (eG c i) (T7 c i).2.2) (by simp); rw [tY hi] at h8; unfold pF at h8; by_cases h9 : bQ [bH (decide ((c.2.2[i].2.2.length : Int) = 0)) 12, bH (decide (16 < (c.2.2[i].2.2.length : Int))) 5] = 0
  . rw [if_pos h9] at h8; have h10 := l3.1 h9 (bH (decide (16 < (c.2.2[i].2.2.length : Int))) 5) (by simp)
    have LM : c.2.2[i].2.2.length <= 16 := by
      by_cases SQ : 16 < (c.2.2[i].2.2.length : Int)
      . rw [decide_eq_true SQ] at h10; cases h10
      omega
    have h8 := r7 h8; refine ⟨LM, fun u hu => ?_⟩; obtain ⟨k, hk, rfl⟩ := List.mem_iff_getElem.1 hu; have h13 := l3.1 (h8 k hk); have U5 := KM (by decide) (h13 (bH (!eG c i (c.2.2[i].2.2.getD k ByteArray.empty)) 10) (by simp)); rw [show c.2.2[i].2.2.getD k ByteArray.empty = c.2.2[i].2.2[k] by simp [hk]] at U5; unfold eG at U5; rw [Bool.or_eq_true, decide_eq_true_eq, decide_eq_true_eq] at U5; rcases U5 with U5 | U5
    . obtain ⟨z, hz, hf⟩ := gK.1 U5; exact of_decide_eq_true hf ▸ (he z hz).1
    obtain ⟨z, hz, hf⟩ := gK.1 U5; exact of_decide_eq_true hf ▸ FD z (List.mem_of_mem_take hz)
  rw [if_neg h9] at h8; exact absurd h8 h9
def AK (v : fV) : List ByteArray := [lY, v.1, fW v.2]
def r8 : List fV -> List ByteArray
  | [] => []
  | v :: r => v.1 :: fW v.2 :: r8 r
def kU (x : vD) : List ByteArray := [lZ, x.1] ++ r8 x.2
def Q4 (b : Bool) : ByteArray := if b = true then j6 else yI
def lO (x : D3) : List ByteArray := [mZ, x.1, Q4 x.2.1] ++ x.2.2
def bC (c : dG) : List ByteArray := c.1.map (fun v => cA 32 (AK v)) ++ (c.2.1.map (fun x => cA 32 (kU x)) ++ c.2.2.map (fun x => cA 32 (lO x)))
def r9 (c : dG) : ByteArray := cG (bC c)
def u6 (c : dG) : Int := if fF c ≠ 0 then fF c else if 4096 < (r9 c).size then 27 else 0
def yK (c : dG) : ByteArray := if u6 c = 0 then r9 c else ByteArray.empty
theorem FH : ∀ {a b : List fV}, r8 (a ++ b) = r8 a ++ r8 b
  | [], _ => rfl
  | v :: r, b => by
    show v.1 :: fW v.2 :: r8 (r ++ b) = v.1 :: fW v.2 :: (r8 r ++ r8 b); rw [FH]
theorem FI : ∀ {a : List fV}, (r8 a).length = 2 * a.length
  | [] => rfl
  | v :: r => by
    show (v.1 :: fW v.2 :: r8 r).length = _; rw [List.length_cons, List.length_cons, FI, List.length_cons]; omega
theorem ac0 {m : Nat} : ∀ {l : List (List UInt8)}, (∀ w ∈ l, w.length <= m) -> (yE 32 l).length <= (m + 1) * l.length
  | [], _ => Nat.zero_le _
  | w :: r, h => by
    have h1 := h w List.mem_cons_self
    have h2 : (r.flatMap fun v => (32 : UInt8) :: v).length <= (m + 1) * r.length := by
      have h3 := fun v hv => h v (List.mem_cons_of_mem _ hv); clear h h1
      induction r with
      | nil => exact Nat.zero_le _
      | cons a q ih =>
        have h4 := h3 a List.mem_cons_self; have h5 := ih fun v hv => h3 v (List.mem_cons_of_mem _ hv); rw [List.flatMap_cons, List.length_append, List.length_cons, List.length_cons, Nat.mul_add, Nat.mul_one]; omega
    rw [zP, List.length_append, List.length_cons, Nat.mul_add, Nat.mul_one]; omega
theorem KN {ws : List ByteArray} : (cA 32 ws).size = (yE 32 (ws.map aS)).length := by
  rw [<- cU] <;> rfl
theorem yL {ws : List ByteArray} {m : Nat} (h : ∀ w ∈ ws, w.size <= m) : (cA 32 ws).size <= (m + 1) * ws.length := by
  rw [KN]
  have := ac0 (l := ws.map aS) (m := m) fun w hw => by
    obtain ⟨v, hv, rfl⟩ := List.mem_map.1 hw; rw [cU]; exact h v hv
  rwa [List.length_map] at this
theorem U6 {n : Int} (h : 0 <= n /\ n <= 999) : TX (fW n) /\ fW n ≠ ByteArray.empty /\ (fW n).size <= 24 := by
  have hr : 0 <= n /\ n < 1000000000000000000 := ⟨h.1, by omega⟩; refine ⟨abR hr, fun e => ?_, Nat.le_trans (tG hr) (by decide)⟩; have hk := (abS (n := n) ⟨h.1, by omega⟩).1; rw [e, u4] at hk; cases hk
theorem ac1 {l : List fV} (h : ∀ v ∈ l, iF v.1 /\ 0 <= v.2 /\ v.2 <= 999) : ∀ w ∈ r8 l, iF w := by
  induction l with
  | nil => intro w hw; cases hw
  | cons v r ih =>
    intro w hw; have hv := h v List.mem_cons_self; have hd := U6 hv.2; rcases List.mem_cons.1 hw with rfl | hw
    . exact hv.1
    rcases List.mem_cons.1 hw with rfl | hw
    . exact ⟨hd.1, hd.2.1, hd.2.2⟩
    exact ih (fun x hx => h x (List.mem_cons_of_mem _ hx)) w hw
theorem DF : iF lY /\ iF lZ /\ iF mZ /\ iF yI /\ iF j6 := by
  have h : ∀ l : List UInt8, (l.all fun c => decide (c ≠ 32 /\ c ≠ 10)) = true -> TX (DB l) := fun l hl c hc => of_decide_eq_true (List.all_eq_true.1 hl c hc); refine ⟨⟨h [118, 101, 114, 115, 105, 111, 110] (by decide), by decide, by decide⟩, ⟨h [101, 118, 105, 100, 101, 110, 99, 101] (by decide), by decide, by decide⟩, ⟨h [99, 108, 97, 105, 109] (by decide), by decide, by decide⟩, ⟨h [97, 108, 108] (by decide), by decide, by decide⟩, ⟨h [97, 110, 121] (by decide), by decide, by decide⟩⟩
theorem ac2 {v : fV} (h : iF v.1 /\ 0 <= v.2 /\ v.2 <= 999) : ∀ w ∈ AK v, iF w := fun w hw => by
  have hd := U6 h.2; rcases List.mem_cons.1 hw with rfl | hw
  . exact DF.1
  rcases List.mem_cons.1 hw with rfl | hw
  . exact h.1
  rw [List.mem_singleton.1 hw]; exact ⟨hd.1, hd.2.1, hd.2.2⟩
theorem ac3 {x : vD} (h : iF x.1 /\ x.2.length <= 16 /\ ∀ v ∈ x.2, iF v.1 /\ 0 <= v.2 /\ v.2 <= 999) : ∀ w ∈ kU x, iF w := fun w hw => by
  rcases List.mem_cons.1 hw with rfl | hw
  . exact DF.2.1
  rcases List.mem_cons.1 hw with rfl | hw
  . exact h.1
  exact ac1 h.2.2 w hw
theorem ac4 {x : D3} (h : iF x.1 /\ x.2.2.length <= 16 /\ ∀ u ∈ x.2.2, iF u) : ∀ w ∈ lO x, iF w := fun w hw => by
  rcases List.mem_cons.1 hw with rfl | hw
  . exact DF.2.2.1
  rcases List.mem_cons.1 hw with rfl | hw
  . exact h.1
  rcases List.mem_cons.1 hw with rfl | hw
  . unfold Q4; split
    . exact DF.2.2.2.2
    exact DF.2.2.2.1
  exact h.2.2 w hw
theorem NN {x : vD} : (kU x).length = 2 + 2 * x.2.length := by
  unfold kU; rw [List.length_append, FI] <;> rfl
theorem U7 {v : fV} (h : iF v.1 /\ 0 <= v.2 /\ v.2 <= 999) : (cA 32 (AK v)).size <= 900 := by
  have := yL (ws := AK v) (m := 24) fun w hw => (ac2 h w hw).sz; have e : (AK v).length = 3 := rfl; omega
theorem KO {x : vD} (h : iF x.1 /\ x.2.length <= 16 /\ ∀ v ∈ x.2, iF v.1 /\ 0 <= v.2 /\ v.2 <= 999) : (cA 32 (kU x)).size <= 900 := by
  have := yL (ws := kU x) (m := 24) fun w hw => (ac3 h w hw).sz; have e := NN (x := x); have := h.2.1; omega
theorem KP {x : D3} (h : iF x.1 /\ x.2.2.length <= 16 /\ ∀ u ∈ x.2.2, iF u) : (cA 32 (lO x)).size <= 900 := by
  have := yL (ws := lO x) (m := 24) fun w hw => (ac4 h w hw).sz
  have e : (lO x).length = 3 + x.2.2.length := by simp [lO]; omega
  have := h.2.1; omega
theorem XF {c : dG} (h : U4 c) : ∀ x ∈ bC c, x.size <= 900 := fun x hx => by
  unfold bC at hx; rcases List.mem_append.1 hx with hx | hx
  . obtain ⟨v, hv, rfl⟩ := List.mem_map.1 hx; exact U7 (h.v v hv)
  rcases List.mem_append.1 hx with hx | hx
  . obtain ⟨v, hv, rfl⟩ := List.mem_map.1 hx; exact KO (h.e v hv)
  obtain ⟨v, hv, rfl⟩ := List.mem_map.1 hx; exact KP (h.l v hv)
theorem FJ {c : dG} : (bC c).length = c.1.length + (c.2.1.length + c.2.2.length) := by
  unfold bC; rw [List.length_append, List.length_append, List.length_map, List.length_map, List.length_map]
theorem qH {c : dG} (h : U4 c) {k : Nat} : (cG ((bC c).take k)).size <= 180000 := by
  have h1 := LS (l := (bC c).take k) (m := 900) fun x hx => XF h x (List.mem_of_mem_take hx); have h2 := FJ (c := c); have h3 := h.n1; have h4 := h.n2; have h5 := h.n3; rw [List.length_take] at h1; have h6 : 901 * min k (bC c).length <= 901 * 192 := Nat.mul_le_mul_left _ (by omega); omega
end Go.Proofs
namespace Go.Fs
variable {P : Program} {orc : FuncId -> List Value -> Heap -> Option (Value × Heap)} {aV : Option Nat} {h h' h0 h1 h2 hs : Heap} {S S' S0 B G : List Nat} {σ aJ kR γ : aG} {t t' : Tr} {ms : List Nat} {fl : VL} {ops : Array Oper} {n i mem : Nat} {l : List Oper} {K : VL -> aG -> Prop} {Q : Ex -> VL -> aG -> Prop}
  {d : Tmp} {ty : TypeId} {pos : String} {after : Array Edge} {op : Op} {v : PV} {g : Option (Nat × Bool)} {bs nw : List Nat} {segs : List (Nat × Nat × Nat)} {tail so : Bool}
theorem XG {b : Nat} {o : Oper} {t2 : Tr} (hb : aP bs o = b) (bD : mU h) (hB : cD (entry h) h' B) : ∃ h2 jL, oU o i ⟨t, h, bs, segs, mem, tail⟩ t2 h' = ⟨t2, h2, bs ++ [b], (i, h.next, h'.next) :: segs, mem ||| 2 ^ i, jL⟩ /\ (∀ b, h2.get b = h'.get b) /\ h2.next = h'.next /\ cD h h2 B /\ (jL = false -> eU h h2 /\ tail = false) := by
  have gA := hB.next; unfold oU; simp only [hb]
  cases dK : Nat.ble h.next h'.low with
  | true =>
    have hl := dY dK
    have gH : ∀ b, b < h.next -> h'.get b = h.get b := fun b hb => by
      rcases hB.chg b hb with h3 | h3
      . exact h3
      omega
    have gB : ∀ b, look (bM h.next h'.next h'.aA ++ h.aA) b = h'.get b := fun b => by
      rw [iU]; by_cases hb : b < h.next
      . cases iT : look (bM h.next h'.next h'.aA) b with
        | some o => have := (dT _ _ _ iT).1; omega
        | none => exact (gH b hb).symm
      have hold : look h.aA b = none := by
        cases iT : look h.aA b with
        | none => rfl
        | some o => exact absurd (bD b o iT) hb
      rw [hold, Option.or_none]
      cases iT : look h'.aA b with
      | some o =>
        have : b < h'.next := hB.ok bD b o iT; rw [zB _ _ (by omega) this, iT]
        exact iT.symm
      | none =>
        cases IL : look (bM h.next h'.next h'.aA) b with
        | none => exact iT.symm
        | some o => rw [(dT _ _ _ IL).2] at iT; cases iT
    refine ⟨_, _, rfl, gB, rfl, ⟨gA, fun b hb hn => (gB b).trans (hB.get b hb hn), fun _ b o hg => ?_, fun e h3 _ _ => h3, fun b hb => .inl ((gB b).trans (gH b hb)), Nat.le_refl _⟩, fun ht => ⟨⟨gA, fun b hb => (gB b).trans (gH b hb), fun _ b o hg => ?_, fun e h3 _ => h3⟩, ht⟩⟩
    . exact hB.ok bD b o ((gB b).symm.trans hg)
    exact hB.ok bD b o ((gB b).symm.trans hg)
  | false =>
    refine ⟨_, _, rfl, fun _ => rfl, rfl, ⟨gA, hB.get, fun _ => hB.ok bD, fun e h3 h4 h5 => Nat.le_min.2 ⟨h3, hB.low e h4 h4 h5⟩, fun b hb => ?_, Nat.min_le_left _ _⟩, fun e => by cases e⟩; rcases hB.chg b hb with h3 | h3
    . exact .inl h3
    exact .inr (Nat.le_trans (Nat.min_le_right _ _) h3)
theorem VD.amA {b : Nat} {f : Operand} {args : Array Operand} {nX : Array TypeId} {F : PV} {asl : List PV} {Qr : PV -> aG -> Prop} (γ : aG) (PG : γ ++ σ = kR) (hf : b9 fl f = some F) (ha : lI fl args.toList = some asl) (hc : HT P orc F asl γ Qr) (hk : ∀ r gD jL, Qr r gD -> VD P orc ops n l (i + 1) ((d, r) :: fl) (gT false d nw) (gD ++ σ) false (bs ++ [b]) (mem ||| 2 ^ i) jL K)
    (hb : aP bs ⟨some d, .call { callee := .value f, args := args, argTypes := nX }, ty, pos, after, g⟩ = b := by rfl) (iM : Nat.beq (mem &&& b) mem = true := by rfl) (hw : dU ops fl g = some true := by rfl) (hn : (Nat.blt d n && Nat.ble n 4000) = true := by rfl) :
    VD P orc ops n (⟨some d, .call { callee := .value f, args := args, argTypes := nX }, ty, pos, after, g⟩ :: l) i fl nw kR so bs mem tail K := fun h0 G S0 t h ms segs I ho => by
  subst PG; obtain ⟨n1, n2⟩ := fits hn; obtain ⟨M, m1, m2, m3, m4, m5, m6, m7⟩ := v8 (mem := mem) I hb ho; obtain rfl := m6 iM; have L := I.lc.aA (h' := entry h) (fun _ => rfl) rfl; have nE := L.apart; rw [cB] at nE; obtain ⟨CU, y7, sS⟩ := List.nodup_append.1 nE; obtain ⟨PB, a, c, rfl, hv⟩ := hc; obtain ⟨va, vc, h1, h2, h3⟩ := (dP L.aH hf : aI (entry h) _ (.gJ PB a c) (aB t f)); have lU := (h2.append (pA L.aH ha)).append h3; rw [cB, List.append_assoc] at lU
  have bO : ∀ c ∈ γ, bA (entry h) (own γ ++ (own σ ++ S0)) c.1 c.2 := fun c hc => by
    have := L.cells c (List.mem_append_left _ hc)
    rwa [cB, List.append_assoc] at this
  refine tK.call (o := ⟨some d, .call { callee := .value f, args := args, argTypes := nX }, ty, pos, after, g⟩) (dC I.aH hw) rfl rfl h1 (by simp only [hb, iM]; simp) ?_; rw [m1]; refine (hv (entry h) (own σ ++ S0) _ m2 L.akA bO CU (fun b hb hm => ?_) lU).mono fun u h' hq => ?_
  . rcases List.mem_append.1 hm with hm | hm
    . exact sS b hb b hm rfl
    exact L.sep b (by rw [cB]; exact List.mem_append_left _ hb) hm
  obtain ⟨r, gD, q1, q2, q3⟩ := hq; have e2 := Made.app L q2; have gA : h.next <= h'.next := e2.gC.next; refine ⟨q7 gA, by simp only [hb, iM, Bool.or_true], _, cE n1 t u, ?_⟩; obtain ⟨CA, jL, f1, f2, f3, f4, f5⟩ := XG (i := i) (segs := segs) (mem := mem) (tail := tail) (t := t) (t2 := t.set depth d u) (o := ⟨some d, .call { callee := .value f, args := args, argTypes := nX }, ty, pos, after, g⟩) hb I.ok e2.gC; rw [f1]
  have q3' : aI CA (own (gD ++ σ) ++ S0) r u := by
    rw [cB, List.append_assoc]; exact q3.nx (cH.aA f2)
  refine hk r gD jL q1 h0 G S0 _ _ ms _ ((I.made (wH e2 f2 f4)).set q3' n2) fun ht => ?_; obtain ⟨f6, f7⟩ := f5 ht
  obtain ⟨JM, a1, a2, a3, a4, a5, a6⟩ := (ho f7).set (v := r) (u := u) (old := false) n2 fun e => by cases e
  refine ⟨JM, a1, a2.trans f6, mV.cons a2.next a3, a4, fun k pv hk hn => (a5 k pv hk hn).nx (h := JM) fun b ob hg hb => ⟨hg, ?_⟩, fun e => by cases e⟩; have h3 := a1 b ob hg; have h4 := a2.next; intro y9; rcases List.mem_append.1 y9 with y9 | y9
  . rcases e2.new b y9 with h5 | h5
    . exact hb (List.mem_append_left _ h5)
    have : (entry h).next = h.next := rfl; omega
  exact hb (List.mem_append_right _ y9)
end Go.Fs
namespace Go.Proofs
open Go.Fs
set_option maxHeartbeats 4000000
theorem U8 {c : dG} {i : Nat} (h : i < c.1.length) : (bC c).take (i + 1) = (bC c).take i ++ [cA 32 (AK c.1[i])] := by
  have e : (bC c)[i]? = some (cA 32 (AK c.1[i])) := by
    unfold bC; rw [List.getElem?_append_left (by rw [List.length_map]; exact h), List.getElem?_map, List.getElem?_eq_getElem h] <;> rfl
  rw [List.take_succ, e] <;> rfl
theorem U9 {c : dG} {j : Nat} (h : j < c.2.1.length) : (bC c).take (c.1.length + j + 1) = (bC c).take (c.1.length + j) ++ [cA 32 (kU c.2.1[j])] := by
  have e : (bC c)[c.1.length + j]? = some (cA 32 (kU c.2.1[j])) := by
    unfold bC; rw [List.getElem?_append_right (by rw [List.length_map]; omega), List.length_map, Nat.add_sub_cancel_left, List.getElem?_append_left (by rw [List.length_map]; exact h), List.getElem?_map, List.getElem?_eq_getElem h] <;> rfl
  rw [List.take_succ, e] <;> rfl
theorem UA {c : dG} {m : Nat} (h : m < c.2.2.length) : (bC c).take (c.1.length + c.2.1.length + m + 1) = (bC c).take (c.1.length + c.2.1.length + m) ++ [cA 32 (lO c.2.2[m])] := by
  have e : (bC c)[c.1.length + c.2.1.length + m]? = some (cA 32 (lO c.2.2[m])) := by
    unfold bC; rw [List.getElem?_append_right (by rw [List.length_map]; omega), List.length_map, Nat.add_assoc, Nat.add_sub_cancel_left, List.getElem?_append_right (by rw [List.length_map]; omega), List.length_map, Nat.add_sub_cancel_left, List.getElem?_map, List.getElem?_eq_getElem h] <;> rfl
  rw [List.take_succ, e] <;> rfl
theorem qI {l : List ByteArray} {x : ByteArray} : cG (l ++ [x]) = cG l ++ (x ++ r5) := by rw [NH, abV]
theorem FK {b : Nat} {a u : Value} {acc : ByteArray} {ws : List ByteArray} (h0 : 0 < ws.length) (h1 : ws.length <= 1000) (hs : acc.size + ((cA 32 ws).size + 1) <= 1000000) (ha : a = .pointer none \/ a = bP b) (hu : acc.size = 0 -> u = .slice none 0 0) :
    fX Tryz.prog OA 41 [.v (.sl .str) ws, .raw (bP b)] [(bW b, .eE 91 0 [.raw a, .raw u]), (u, .row 5 (.int .u8) (aW acc))] (fun r g => ∃ u', r = .mE [] /\ g = [(bW b, .eE 91 0 [.raw (bP b), .raw u']), (u', .row 5 (.int .u8) (aW (acc ++ (cA 32 ws ++ r5))))] /\ ((acc ++ (cA 32 ws ++ r5)).size = 0 -> u' = .slice none 0 0)) := by
  refine fX.DA Tryz.func41 rfl (fun _ _ => rfl) rfl ?_; show U _ _ _ _ _ [(0, .v (.sl .str) ws), (1, .raw (bP b))] [(bW b, .eE 91 0 [.raw a, .raw u]), (u, .row 5 (.int .u8) (aW acc))] _; have hj := KN (ws := ws); have z1 : r5.size = 1 := rfl; refine U.text ?_; refine J.c (.move rfl) ?_; refine J.call rfl rfl (VF.call (abK (p := ⟨#[32]⟩) rfl h0 (by omega) (by rw [show eR ⟨#[32]⟩ = 32 from rfl]; omega))) ?_; refine J.c (.nQ (p := cA 32 ws) (q := r5) (by omega)) ?_; refine J.mJ [(bW b, .eE 91 0 [.raw a, .raw u]), (u, .row 5 (.int .u8) (aW acc))] rfl rfl rfl (fX.call (X2 (s := cA 32 ws ++ r5) (by rw [ByteArray.size_append]; omega) ha hu)) ?_; rintro _ _ ⟨u', rfl, rfl, uB⟩; refine J.nil ?_; exact ⟨rfl, [], .nil, ⟨u', rfl, rfl, uB⟩, FA⟩
theorem afO {b : Nat} {a u : Value} {acc : ByteArray} : fX Tryz.prog OA 45 [.raw (bP b)] [(bW b, .eE 91 0 [.raw a, .raw u]), (u, .row 5 (.int .u8) (aW acc))] (fun r g => r = I ((acc.size : Nat) : Int) /\ g = [(bW b, .eE 91 0 [.raw a, .raw u]), (u, .row 5 (.int .u8) (aW acc))]) := by
  refine fX.DA Tryz.func45 rfl (fun _ _ => rfl) rfl ?_; show U _ _ _ _ _ [(0, .raw (bP b))] [(bW b, .eE 91 0 [.raw a, .raw u]), (u, .row 5 (.int .u8) (aW acc))] _; refine U.seq (U.text ?_); refine J.c (.assign rfl) ?_; refine J.go (U.seq (U.text ?_)); refine J.c (.move rfl) (J.c (.TJ) (J.c (.faB (k := 1) m0) ?_)); refine J.r (.ldB m0 TR) ?_; refine J.r (.tU m1 YO) ?_; refine J.c (.assign rfl) (J.go ?_); refine U.ret ?_; rw [<- j5]; exact ⟨rfl, [I (((aW acc).length : Nat) : Int)], .cons aZ .nil, ⟨rfl, rfl⟩, FA⟩
theorem XH {c : dG} (hc : qC c) : VF Tryz.prog OA 7 [.v kF c] (.mE [St (yK c), I (u6 c)]) := by
  refine VF.enter Tryz.func7 rfl (fun _ _ => rfl) rfl ?_; show U _ _ _ _ _ [(0, .v kF c)] [] _; refine U.seq (U.text ?_); refine J.new (.box) ?_; refine J.c (.assign rfl) (J.c (.assign rfl) ?_); refine J.go (U.seq (U.seq (U.text ?_))); refine J.r (.ld pS) ?_; refine J.call rfl rfl (VF.call (MZ hc)) ?_; refine J.c (.assign rfl) ?_; refine J.go (U.seq (U.text ?_)); refine J.c (.move rfl) (J.c (.neq) (J.go ?_)); refine U.aM rfl (fun c2 => ?_) (fun c2 => ?_)
  . refine U.seq (U.text ?_); refine J.c (.move rfl) (J.c (.assign rfl) (J.c (.assign rfl) (J.go ?_))); refine U.ret ?_; have IH : u6 c = fF c := if_pos c2; rw [show yK c = ByteArray.empty from if_neg (by rw [IH]; exact c2), IH]; exact ⟨rfl, [St ByteArray.empty, I (fF c)], .cons aZ (.cons aZ .nil), rfl⟩
  have hz : fF c = 0 := Classical.not_not.1 c2; have hV := Q3 hz; have RN := hV.n1; have pO := hV.n2; have hn3 := hV.n3; refine U.skip (U.seq (U.text ?_)); refine J.mk (bF.ajC (by kernel_rfl)) ?_; rintro _ _ ⟨b, rfl, rfl⟩; refine J.go (U.seq (U.text ?_)); refine J.c (.func) (J.c (.assign rfl) (J.go ?_)); refine U.cell0 5 (.int .u8) ?_; refine U.perm cW ?_; refine U.seq (U.seq (U.text ?_)); refine J.c (.fa (.l .o)) ?_; refine J.r (.ld sV) ?_; refine J.r (.len l4) ?_; refine J.c (.move rfl) ?_; refine J.go (U.block ?_); refine U.keep [(1, .p kF c), (5, .raw (bP b)), (6, .gJ 41 [] [.raw (bP b)]), (24, .v pQ c.1), (25, I ((c.1.length : Nat) : Int)), (26, I ((0 : Nat) : Int))] ⟨rfl, rfl, rfl, rfl, rfl, rfl, trivial⟩ ?_; refine U.loop (I := fun kk ff ss => ∃ (i : Nat) (a u : Value), kk = c.1.length - i /\ ff = [(1, .p kF c), (5, .raw (bP b)), (6, .gJ 41 [] [.raw (bP b)]), (24, .v pQ c.1), (25, I ((c.1.length : Nat) : Int)), (26, I ((i : Nat) : Int))] /\ ss = [(bW b, .eE 91 0 [.raw a, .raw u]), (u, .row 5 (.int .u8) (aW (cG ((bC c).take (i)))))] /\ i <= c.1.length /\ (a = .pointer none \/ a = bP b) /\ ((cG ((bC c).take (i))).size = 0 -> u = .slice none 0 0)) ?_ _ _ _ ⟨0, .pointer none, .slice none 0 0, rfl, rfl, rfl, Nat.zero_le _, .inl rfl, fun _ => rfl⟩; rintro kk ff ss ⟨i, a, u, kI, rfl, rfl, BD, ha0, hu0⟩; refine U.seq (U.text ?_); refine J.c (.lss) ?_; refine J.go (U.seq ?_); refine U.aM rfl (fun c7 => ?_) (fun c7 => ?_)
  . have hit : i < c.1.length := by omega
    have hv := hV.v _ (List.getElem_mem hit); have cX := qH hV (k := i); have uQ := U7 hv
    have gA : cG ((bC c).take (i + 1)) = cG ((bC c).take i) ++ (cA 32 (AK c.1[i]) ++ r5) := by rw [U8 hit, qI]
    refine U.skip (U.seq (U.block (U.seq (U.text ?_)))); refine J.c (.ix (j := i) rfl rfl l4 hit) ?_; refine J.r (.ld n9) ?_; refine J.cell (.alloc AH) ?_; intro w8; refine J.eQ (cs' := [St (c.1[i]).1, I (c.1[i]).2]) n9 .v ?_; refine J.shut [(8, .p o5 c.1[i])] (.cons rfl (.var m0 .refl) .nil) ?_; refine J.go (U.drawn ?_); refine VD.c (.move rfl) (VD.c (.fa (.l .o)) ?_); refine VD.r [] (.ld cJ) (.inl rfl) ?_; refine VD.c (.fa (.r .o)) ?_; refine VD.r [] (.ld qZ) (.inl rfl) ?_; refine VD.call rfl rfl (VF.call (NC (by omega))) ?_; refine VD.new (.lit (τ := .str) [lY, (c.1[i]).1, fW (c.1[i]).2] b8) ?_; refine VD.amA (σ := []) [(bW b, .eE 91 0 [.raw a, .raw u]), (u, .row 5 (.int .u8) (aW (cG ((bC c).take (i)))))] rfl rfl rfl (fX.gJ (a := []) (args := [.v (.sl .str) (AK c.1[i])]) (c := [.raw (bP b)]) (FK (ws := AK c.1[i]) (show 0 < 3 by omega) (show 3 <= 1000 by omega) (by omega) ha0 hu0)) ?_; rintro _ _ tl ⟨u', rfl, rfl, uB⟩; refine VD.nil ?_; refine U.text ?_; refine J.c (.add rfl rfl (by omega)) (J.c (.move rfl) ?_); refine J.nil ?_; exact ⟨_, [(1, .p kF c), (5, .raw (bP b)), (6, .gJ 41 [] [.raw (bP b)]), (24, .v pQ c.1), (25, I ((c.1.length : Nat) : Int)), (26, I (((i + 1) : Nat) : Int))], by omega, ⟨rfl, rfl, rfl, rfl, rfl, rfl, trivial⟩, (i + 1), bP b, u', rfl, rfl, by rw [gA]; rfl, by omega, .inr rfl, by rw [gA]; exact uB⟩
  have XI : i = c.1.length := by omega
  subst XI; refine U.exit (U.seq (U.seq (U.text ?_))); refine J.c (.fa (.r (.l .o))) ?_; refine J.r (.ld AI) ?_; refine J.r (.len sZ) ?_; refine J.c (.move rfl) ?_; refine J.go (U.block ?_); refine U.keep [(1, .p kF c), (5, .raw (bP b)), (6, .gJ 41 [] [.raw (bP b)]), (40, .v xB c.2.1), (41, I ((c.2.1.length : Nat) : Int)), (42, I ((0 : Nat) : Int))] ⟨rfl, rfl, rfl, rfl, rfl, rfl, trivial⟩ ?_; refine U.loop (I := fun kk ff ss => ∃ (j : Nat) (a u : Value), kk = c.2.1.length - j /\ ff = [(1, .p kF c), (5, .raw (bP b)), (6, .gJ 41 [] [.raw (bP b)]), (40, .v xB c.2.1), (41, I ((c.2.1.length : Nat) : Int)), (42, I ((j : Nat) : Int))] /\ ss = [(bW b, .eE 91 0 [.raw a, .raw u]), (u, .row 5 (.int .u8) (aW (cG ((bC c).take (c.1.length + j)))))] /\ j <= c.2.1.length /\ (a = .pointer none \/ a = bP b) /\ ((cG ((bC c).take (c.1.length + j))).size = 0 -> u = .slice none 0 0)) ?_ _ _ _ ⟨0, a, u, rfl, rfl, rfl, Nat.zero_le _, ha0, hu0⟩; rintro kk ff ss ⟨j, a, u, H4, rfl, rfl, CV, ha1, hu1⟩; refine U.seq (U.text ?_); refine J.c (.lss) ?_; refine J.go (U.seq ?_); refine U.aM rfl (fun LQ => ?_) (fun LQ => ?_)
  . have hjt : j < c.2.1.length := by omega
    have hv := hV.e _ (List.getElem_mem hjt); have cX := qH hV (k := c.1.length + j); have uQ := KO hv; have hln := NN (x := c.2.1[j])
    have gA : cG ((bC c).take (c.1.length + (j + 1))) = cG ((bC c).take (c.1.length + j)) ++ (cA 32 (kU c.2.1[j]) ++ r5) := by rw [<- Nat.add_assoc, U9 hjt, qI]
    obtain ⟨B2, xA, CJ⟩ := hv; refine U.skip (U.seq (U.block (U.seq (U.text ?_)))); refine J.c (.ix (j := j) rfl rfl sZ hjt) ?_; refine J.r (.ld uL) ?_; refine J.cell (.alloc F6) ?_; intro U3; refine J.eQ (cs' := [St (c.2.1[j]).1, .v pQ (c.2.1[j]).2]) uL .v ?_; refine J.shut [(10, .p pR c.2.1[j])] (.cons rfl (.var m0 .refl) .nil) ?_; refine J.go (U.seq (U.text ?_)); refine J.c (.fa (.l .o)) ?_; refine J.r (.ld cJ) ?_; refine J.cell (.lit [lZ, (c.2.1[j]).1] b8) ?_; intro w11; refine J.c (.assign rfl) ?_; refine J.go (U.seq (U.seq (U.text ?_))); refine J.c (.fa (.r .o)) ?_; refine J.r (.ld sV) ?_; refine J.r (.len l4) ?_; refine J.c (.move rfl) ?_; refine J.go (U.block ?_); refine U.keep [(1, .p kF c), (5, .raw (bP b)), (6, .gJ 41 [] [.raw (bP b)]), (11, .raw w11), (40, .v xB c.2.1), (41, I ((c.2.1.length : Nat) : Int)), (42, I ((j : Nat) : Int)), (50, .v pQ (c.2.1[j]).2), (51, I (((c.2.1[j]).2.length : Nat) : Int)), (52, I ((0 : Nat) : Int))] ⟨rfl, rfl, rfl, rfl, rfl, rfl, rfl, rfl, rfl, rfl, trivial⟩ ?_; refine U.loop (I := fun kk ff ss => ∃ (k : Nat) (ww : Value), kk = (c.2.1[j]).2.length - k /\ ff = [(1, .p kF c), (5, .raw (bP b)), (6, .gJ 41 [] [.raw (bP b)]), (11, .raw ww), (40, .v xB c.2.1), (41, I ((c.2.1.length : Nat) : Int)), (42, I ((j : Nat) : Int)), (50, .v pQ (c.2.1[j]).2), (51, I (((c.2.1[j]).2.length : Nat) : Int)), (52, I ((k : Nat) : Int))] /\ ss = [(ww, .row 9 .str ([lZ, (c.2.1[j]).1] ++ r8 ((c.2.1[j]).2.take k))), (bW b, .eE 91 0 [.raw a, .raw u]), (u, .row 5 (.int .u8) (aW (cG ((bC c).take (c.1.length + j)))))] /\ k <= (c.2.1[j]).2.length) ?_ _ _ _ ⟨0, w11, rfl, rfl, rfl, Nat.zero_le _⟩; rintro kk ff ss ⟨k, ww, uF, rfl, rfl, hk⟩; refine U.seq (U.text ?_); refine J.c (.lss) ?_; refine J.go (U.seq ?_); refine U.aM rfl (fun PM => ?_) (fun PM => ?_)
    . have hkt : k < (c.2.1[j]).2.length := by omega
      have hvk := CJ _ (List.getElem_mem hkt)
      have hpl : r8 ((c.2.1[j]).2.take (k + 1)) = r8 ((c.2.1[j]).2.take k) ++ [((c.2.1[j]).2[k]).1, fW ((c.2.1[j]).2[k]).2] := by rw [List.take_succ_eq_append_getElem hkt, FH] <;> rfl
      have LL := FI (a := (c.2.1[j]).2.take k); rw [List.length_take] at LL; refine U.skip (U.seq (U.block (U.seq (U.text ?_)))); refine J.c (.ix (j := k) rfl rfl l4 hkt) ?_; refine J.r (.ld n9) ?_; refine J.cell (.alloc AH) ?_; intro w13; refine J.eQ (cs' := [St ((c.2.1[j]).2[k]).1, I ((c.2.1[j]).2[k]).2]) n9 .v ?_; refine J.shut [(13, .p o5 ((c.2.1[j]).2[k]))] (.cons rfl (.var m0 .refl) .nil) ?_; refine J.go (U.drawn ?_); refine VD.c (.move rfl) (VD.c (.fa (.l .o)) ?_); refine VD.r [] (.ld cJ) (.inl rfl) ?_; refine VD.c (.fa (.r .o)) ?_; refine VD.r [] (.ld qZ) (.inl rfl) ?_; refine VD.call rfl rfl (VF.call (NC (by omega))) ?_; refine VD.new (.lit [((c.2.1[j]).2[k]).1, fW ((c.2.1[j]).2[k]).2] b8) ?_; refine VD.mk (bF.app b8 b8 rfl rfl (by simp; omega)) ?_; rintro _ _ tl ⟨wn, rfl, rfl⟩; refine VD.c (.assign rfl) ?_; refine VD.nil ?_; refine U.text ?_; refine J.c (.add rfl rfl (by omega)) (J.c (.move rfl) ?_); refine J.nil ?_; exact ⟨_, [(1, .p kF c), (5, .raw (bP b)), (6, .gJ 41 [] [.raw (bP b)]), (11, .raw wn), (40, .v xB c.2.1), (41, I ((c.2.1.length : Nat) : Int)), (42, I ((j : Nat) : Int)), (50, .v pQ (c.2.1[j]).2), (51, I (((c.2.1[j]).2.length : Nat) : Int)), (52, I (((k + 1) : Nat) : Int))], by omega, ⟨rfl, rfl, rfl, rfl, rfl, rfl, rfl, rfl, rfl, rfl, trivial⟩, (k + 1), wn, rfl, rfl, by rw [hpl, List.append_assoc], by omega⟩
    have UT : k = (c.2.1[j]).2.length := by omega
    subst UT; refine U.exit ?_; show U _ _ _ _ _ _ _ _; rw [List.take_length, show [lZ, (c.2.1[j]).1] ++ r8 (c.2.1[j]).2 = kU c.2.1[j] from rfl]; refine U.shut [(11, .v (.sl .str) (kU c.2.1[j]))] (.cons rfl (.row m0) .nil) ?_; refine U.text ?_; refine J.c (.move rfl) (J.c (.move rfl) ?_); refine J.mJ [(bW b, .eE 91 0 [.raw a, .raw u]), (u, .row 5 (.int .u8) (aW (cG ((bC c).take (c.1.length + j)))))] rfl rfl rfl (fX.gJ (a := []) (args := [.v (.sl .str) (kU c.2.1[j])]) (c := [.raw (bP b)]) (FK (ws := kU c.2.1[j]) (by omega) (by omega) (by omega) ha1 hu1)) ?_; rintro _ _ ⟨u', rfl, rfl, uB⟩; refine J.nil (U.text ?_); refine J.c (.add rfl rfl (by omega)) (J.c (.move rfl) ?_); refine J.nil ?_; exact ⟨_, [(1, .p kF c), (5, .raw (bP b)), (6, .gJ 41 [] [.raw (bP b)]), (40, .v xB c.2.1), (41, I ((c.2.1.length : Nat) : Int)), (42, I (((j + 1) : Nat) : Int))], by omega, ⟨rfl, rfl, rfl, rfl, rfl, rfl, trivial⟩, (j + 1), bP b, u', rfl, rfl, by rw [gA]; rfl, by omega, .inr rfl, by rw [gA]; exact uB⟩
  have hje : j = c.2.1.length := by omega
  subst hje; refine U.exit (U.seq (U.seq (U.text ?_))); refine J.c (.fa (.r (.r .o))) ?_; refine J.r (.ld x4) ?_; refine J.r (.len r3) ?_; refine J.c (.move rfl) ?_; refine J.go (U.block ?_); refine U.keep [(1, .p kF c), (5, .raw (bP b)), (6, .gJ 41 [] [.raw (bP b)]), (70, .v F2 c.2.2), (71, I ((c.2.2.length : Nat) : Int)), (72, I ((0 : Nat) : Int))] ⟨rfl, rfl, rfl, rfl, rfl, rfl, trivial⟩ ?_; refine U.loop (I := fun kk ff ss => ∃ (m : Nat) (a u : Value), kk = c.2.2.length - m /\ ff = [(1, .p kF c), (5, .raw (bP b)), (6, .gJ 41 [] [.raw (bP b)]), (70, .v F2 c.2.2), (71, I ((c.2.2.length : Nat) : Int)), (72, I ((m : Nat) : Int))] /\ ss = [(bW b, .eE 91 0 [.raw a, .raw u]), (u, .row 5 (.int .u8) (aW (cG ((bC c).take (c.1.length + c.2.1.length + m)))))] /\ m <= c.2.2.length /\ (a = .pointer none \/ a = bP b) /\ ((cG ((bC c).take (c.1.length + c.2.1.length + m))).size = 0 -> u = .slice none 0 0)) ?_ _ _ _ ⟨0, a, u, rfl, rfl, rfl, Nat.zero_le _, ha1, hu1⟩; rintro kk ff ss ⟨m, a, u, uF, rfl, rfl, q9, ha2, W6⟩; refine U.seq (U.text ?_); refine J.c (.lss) ?_; refine J.go (U.seq ?_); refine U.aM rfl (fun c23 => ?_) (fun c23 => ?_)
  . have hmt : m < c.2.2.length := by omega
    have hv := hV.l _ (List.getElem_mem hmt); have cX := qH hV (k := c.1.length + c.2.1.length + m); have uQ := KP hv
    have hln : (lO c.2.2[m]).length = 3 + (c.2.2[m]).2.2.length := by simp [lO]; omega
    have gA : cG ((bC c).take (c.1.length + c.2.1.length + (m + 1))) = cG ((bC c).take (c.1.length + c.2.1.length + m)) ++ (cA 32 (lO c.2.2[m]) ++ r5) := by rw [<- Nat.add_assoc, UA hmt, qI]
    obtain ⟨B2, xA, CJ⟩ := hv; refine U.skip (U.seq (U.block (U.seq (U.text ?_)))); refine J.c (.ix (j := m) rfl rfl r3 hmt) ?_; refine J.r (.ld yC) ?_; refine J.cell (.alloc K3) ?_; intro w15; refine J.eQ (cs' := [St (c.2.2[m]).1, B (c.2.2[m]).2.1, .v (.sl .str) (c.2.2[m]).2.2]) yC .v ?_; refine J.shut [(15, .p rO c.2.2[m])] (.cons rfl (.var m0 .refl) .nil) ?_; refine J.go (U.seq (U.text ?_)); refine J.c (.assign rfl) ?_; refine J.go (U.seq (U.seq (U.text ?_))); refine J.c (.fa (.r (.l .o))) ?_; refine J.r (.ld BE) ?_; refine J.go ?_; refine U.join [(1, .p kF c), (5, .raw (bP b)), (6, .gJ 41 [] [.raw (bP b)]), (15, .p rO c.2.2[m]), (16, St (Q4 (c.2.2[m]).2.1)), (70, .v F2 c.2.2), (71, I ((c.2.2.length : Nat) : Int)), (72, I ((m : Nat) : Int))] [(bW b, .eE 91 0 [.raw a, .raw u]), (u, .row 5 (.int .u8) (aW (cG ((bC c).take (c.1.length + c.2.1.length + m)))))] ?_ ?_
    . refine U.fO rfl (fun c26 => ?_) (fun c26 => ?_)
      . refine U.text ?_; refine J.c (.assign rfl) ?_; refine J.nil ?_; rw [c26]; exact ⟨⟨rfl, rfl, rfl, rfl, rfl, rfl, rfl, rfl, trivial⟩, rfl⟩
      refine U.skip ?_; rw [c26]; exact ⟨⟨rfl, rfl, rfl, rfl, rfl, rfl, rfl, rfl, trivial⟩, rfl⟩
    refine U.text ?_; refine J.c (.move rfl) (J.c (.fa (.l .o)) ?_); refine J.r (.ld cJ) ?_; refine J.c (.move rfl) ?_; refine J.cell (.lit [mZ, (c.2.2[m]).1, Q4 (c.2.2[m]).2.1] b8) ?_; intro w82; refine J.c (.fa (.r (.r .o))) ?_; refine J.r (.ld gL) ?_; refine J.app rfl rfl b8 b8 (by simp; omega) ?_; intro w85; refine J.shut [(85, .v (.sl .str) (lO c.2.2[m]))] (.cons rfl (.row m0) .nil) ?_; refine J.mJ [(bW b, .eE 91 0 [.raw a, .raw u]), (u, .row 5 (.int .u8) (aW (cG ((bC c).take (c.1.length + c.2.1.length + m)))))] rfl rfl rfl (fX.gJ (a := []) (args := [.v (.sl .str) (lO c.2.2[m])]) (c := [.raw (bP b)]) (FK (ws := lO c.2.2[m]) (by omega) (by omega) (by omega) ha2 W6)) ?_; rintro _ _ ⟨u', rfl, rfl, uB⟩; refine J.nil (U.text ?_); refine J.c (.add rfl rfl (by omega)) (J.c (.move rfl) ?_); refine J.nil ?_; exact ⟨_, [(1, .p kF c), (5, .raw (bP b)), (6, .gJ 41 [] [.raw (bP b)]), (70, .v F2 c.2.2), (71, I ((c.2.2.length : Nat) : Int)), (72, I (((m + 1) : Nat) : Int))], by omega, ⟨rfl, rfl, rfl, rfl, rfl, rfl, trivial⟩, (m + 1), bP b, u', rfl, rfl, by rw [gA]; rfl, by omega, .inr rfl, by rw [gA]; exact uB⟩
  have hme : m = c.2.2.length := by omega
  subst hme; have VE : (bC c).take (c.1.length + c.2.1.length + c.2.2.length) = bC c := List.take_of_length_le (by rw [FJ]; omega); rw [VE] at W6 ⊢; have cX := qH hV (k := (bC c).length); rw [List.take_length] at cX; refine U.exit (U.seq (U.seq (U.text ?_))); refine J.mJ [(bW b, .eE 91 0 [.raw a, .raw u]), (u, .row 5 (.int .u8) (aW (cG (bC c))))] rfl rfl rfl (fX.call afO) ?_; rintro _ _ ⟨rfl, rfl⟩; refine J.c (.gtr) (J.go ?_); refine U.aM rfl (fun c30 => ?_) (fun c30 => ?_)
  . refine U.seq (U.text ?_); refine J.c (.assign rfl) (J.c (.assign rfl) (J.go ?_)); refine U.ret ?_
    have IH : u6 c = 27 := by
      unfold u6; rw [if_neg c2, if_pos (show 4096 < (r9 c).size by unfold r9; omega)]
    rw [show yK c = ByteArray.empty from if_neg (by rw [IH]; decide), IH]; exact ⟨rfl, [St ByteArray.empty, I 27], .cons aZ (.cons aZ .nil), rfl⟩
  refine U.skip ?_; show U _ _ _ _ _ _ _ _
  have IH : u6 c = 0 := by
    unfold u6; rw [if_neg c2, if_neg (show ¬ 4096 < (r9 c).size by unfold r9; omega)]
  rw [show yK c = r9 c from if_pos IH, IH]; refine U.seq (U.text ?_); refine J.mJ [(bW b, .eE 91 0 [.raw a, .raw u]), (u, .row 5 (.int .u8) (aW (cG (bC c))))] rfl rfl rfl (fX.call (aeZ (by omega) W6)) ?_; rintro _ _ ⟨rfl, rfl⟩; refine J.c (.assign rfl) (J.c (.assign rfl) (J.go ?_)); refine U.ret ?_; exact ⟨rfl, [St (r9 c), I 0], .cons aZ (.cons aZ .nil), rfl⟩
end Go.Proofs
namespace Go.Proofs
open Go.Fs
set_option maxHeartbeats 4000000
def rA (s p : ByteArray) : Bool := decide (p.size <= s.size) && decide (s.extract (s.size - p.size) s.size = p)
def GU (s p : ByteArray) : ByteArray := if rA s p = true then s.extract 0 (s.size - p.size) else s
theorem ac5 {s p : ByteArray} (hs : s.size < 1000000) : VF Tryz.prog OA 139 [St s, St p] (B (rA s p)) := by
  refine VF.enter Tryz.func139 rfl (fun _ _ => rfl) rfl ?_; show U _ _ _ _ _ [(0, St s), (1, St p)] [] _; refine U.seq (U.text ?_); refine J.c (.assign rfl) ?_; refine J.go (U.seq (U.text ?_)); refine J.c (.move rfl) ?_; refine J.r (.gU) ?_; refine J.c (.move rfl) ?_; refine J.r (.gU) ?_; refine J.c (.geq) (J.c (.move rfl) ?_); refine J.splitB (x := 10) rfl (fun hg => ?_) (fun hg => ?_)
  . have hg := of_decide_eq_true hg
    have hl : p.size <= s.size := by omega
    refine J.c (.move rfl) (J.c (.move rfl) ?_); refine J.r (.gU) ?_; refine J.c (.move rfl) ?_; refine J.r (.gU) ?_; have hp0 : (0 : Int) <= ((p.size : Nat) : Int) := Int.natCast_nonneg _; refine J.c (.sub rfl rfl (by omega)) ?_; refine J.r (.X0 (by kernel_rfl) rfl rfl ⟨by omega, by omega⟩) ?_; refine J.c (.move rfl) (J.c (.sT) (J.c (.bS rfl rfl) (J.c (.assign rfl) ?_))); refine J.go ?_; refine U.ret ?_; refine ⟨rfl, [_], .cons aZ .nil, ?_⟩
    have e : (((s.size : Nat) : Int) - ((p.size : Nat) : Int)).toNat = s.size - p.size := by omega
    show PV.v .bool _ = PV.v .bool _; unfold rA; rw [decide_eq_true hl, Bool.true_and, e]
  have hg := of_decide_eq_false hg
  have hl : ¬ p.size <= s.size := by omega
  refine J.skip (J.skip (J.skip (J.skip ?_))); refine J.skip (J.skip (J.skip (J.skip ?_))); refine J.skip (J.c (.aU rfl rfl) (J.c (.assign rfl) (J.go ?_))); refine U.ret ?_; refine ⟨rfl, [_], .cons aZ .nil, ?_⟩; show PV.v .bool _ = PV.v .bool _; unfold rA; rw [decide_eq_false hl, Bool.false_and]
theorem ac6 {s p : ByteArray} (hs : s.size < 1000000) : VF Tryz.prog OA 95 [St s, St p] (.mE [St (GU s p), B (rA s p)]) := by
  refine VF.enter Tryz.func95 rfl (fun _ _ => rfl) rfl ?_; show U _ _ _ _ _ [(0, St s), (1, St p)] [] _; refine U.seq (U.text ?_); refine J.c (.assign rfl) (J.c (.assign rfl) ?_); refine J.go (U.seq (U.seq (U.text ?_))); refine J.c (.move rfl) (J.c (.move rfl) ?_); refine J.call rfl rfl (VF.call (ac5 hs)) ?_; refine J.c (.not) (J.go ?_); refine U.fO rfl (fun hc => ?_) (fun hc => ?_)
  . have hf : rA s p = false := by simpa using hc
    refine U.seq (U.text ?_); refine J.c (.move rfl) (J.c (.assign rfl) (J.c (.assign rfl) (J.go ?_))); refine U.ret ?_; exact aR.two rfl aZ aZ (dV (by unfold GU; rw [hf]; rfl)) (dV hf.symm)
  have hf : rA s p = true := by simpa using hc
  have hl : p.size <= s.size := by
    unfold rA at hf; simp only [Bool.and_eq_true, decide_eq_true_eq] at hf; exact hf.1
  refine U.skip (U.seq (U.text ?_)); refine J.c (.move rfl) (J.c (.move rfl) ?_); refine J.r (.gU) ?_; refine J.c (.move rfl) ?_; refine J.r (.gU) ?_; have hp0 : (0 : Int) <= ((p.size : Nat) : Int) := Int.natCast_nonneg _; refine J.c (.sub rfl rfl (by omega)) ?_; refine J.r (.WZ (by kernel_rfl) rfl rfl (by omega)) ?_; refine J.c (.assign rfl) (J.c (.assign rfl) (J.go ?_)); refine U.ret ?_
  have e : (((s.size : Nat) : Int) - ((p.size : Nat) : Int)).toNat = s.size - p.size := by omega
  exact aR.two rfl aZ aZ (dV (by rw [e]; unfold GU; rw [hf]; rfl)) (dV hf.symm)
theorem ac7 {s p : ByteArray} (hs : s.size < 1000000) : VF Tryz.prog OA 49 [St s, St p] (.mE [St (GU s p), B (rA s p)]) := by
  refine VF.enter Tryz.func49 rfl (fun _ _ => rfl) rfl ?_; show U _ _ _ _ _ [(0, St s), (1, St p)] [] _; refine U.seq (U.text ?_); refine J.c (.assign rfl) (J.c (.assign rfl) ?_); refine J.go (U.seq (U.text ?_)); refine J.c (.move rfl) (J.c (.move rfl) ?_); refine J.call rfl rfl (VF.call (ac6 hs)) ?_; refine J.c (.extract) (J.c (.extract) (J.c (.assign rfl) (J.c (.assign rfl) ?_))); refine J.go ?_; refine U.ret ?_; exact aR.two rfl aZ aZ rfl rfl
theorem XJ {s : ByteArray} : fX Tryz.prog OA 48 [St s] [] (fun r g => ∃ w, r = .gJ 93 [] [.raw w] /\ g = [(w, .var [St s])]) := by
  refine fX.enter Tryz.func48 rfl (fun _ _ => rfl) rfl ?_; show U _ _ _ _ _ [(0, St s)] [] _; refine U.seq (U.text ?_); refine J.cell (.box .v) ?_; intro w; refine J.c (.assign rfl) ?_; refine J.go (U.seq (U.text ?_)); refine J.c (.func) (J.c (.assign rfl) (J.go ?_)); refine U.ret ?_; refine ⟨rfl, [.gJ 93 [] [.raw w]], .cons aZ .nil, ⟨w, rfl, rfl⟩, .inr (.inr (.inr ⟨rfl, fun h S u hu hc ha => ?_⟩))⟩; exfalso; obtain ⟨b, e, vs, rfl, _⟩ := hc _ List.mem_cons_self; obtain ⟨va, vc, rfl, h1, h2⟩ := hu; obtain ⟨u1, r, rfl, h3, h4⟩ := h2; obtain rfl : u1 = _ := h3; obtain rfl : r = [] := h4; exact absurd ha (by simp [af, rB, eN])
theorem afP {a p : ByteArray} : rA (a ++ p) p = true /\ GU (a ++ p) p = a := by
  have hz : (a ++ p).size = a.size + p.size := by rw [<- cU, lL, List.length_append, cU, cU]
  have h1 : rA (a ++ p) p = true := by
    unfold rA; rw [decide_eq_true (show p.size <= (a ++ p).size by omega), Bool.true_and]; refine decide_eq_true (tE ?_); rw [sD, lL, hz, Nat.add_sub_cancel, <- cU, List.drop_left]
  refine ⟨h1, ?_⟩; unfold GU; rw [if_pos h1]; apply tE; rw [sC, lL, hz, Nat.add_sub_cancel, <- cU, List.take_left]
theorem afQ {r : ByteArray} (hi : 0 <= Go.Lib.indexByte (aS r) 10) : wP r = tF 10 r ++ r5 := by
  obtain ⟨k, hk⟩ := Int.eq_ofNat_of_zero_le hi; obtain ⟨h1, h2, h3⟩ := zM hk; unfold wP tF; rw [if_neg (by omega), if_neg (by omega), hk, Int.toNat_natCast]; apply tE; rw [lL, sC, sC, List.take_add, h3]; rfl
theorem afR {r : ByteArray} (hi : 0 <= Go.Lib.indexByte (aS r) 10) : rA (wP r) r5 = true /\ GU (wP r) r5 = tF 10 r := by
  rw [afQ hi]; exact afP
theorem ajL {r : ByteArray} (hi : ¬ 0 <= Go.Lib.indexByte (aS r) 10) : rA (wP r) r5 = false := by
  cases h : rA (wP r) r5 with
  | false => rfl
  | true =>
    exfalso; have hl : wP r = r := if_pos (by omega); rw [hl] at h; unfold rA at h; simp only [Bool.and_eq_true, decide_eq_true_eq] at h; have h2 := h.2
    have h3 : aS (r.extract (r.size - r5.size) r.size) = [10] := by rw [h2] <;> rfl
    rw [sD] at h3; exact FC (show Go.Lib.indexByte (aS r) 10 < 0 by omega) 10 (List.mem_of_mem_drop (h3 ▸ List.mem_singleton.2 rfl)) rfl
theorem ac8 {r : ByteArray} : (wP r).size <= r.size := by
  by_cases hi : 0 <= Go.Lib.indexByte (aS r) 10
  . obtain ⟨k, hk⟩ := Int.eq_ofNat_of_zero_le hi; unfold wP; rw [if_neg (by omega), <- cU, sC, List.length_take, cU]; omega
  exact Nat.le_of_eq (congrArg ByteArray.size (if_pos (by omega)))
end Go.Proofs
namespace Go.Fs
variable {P : Program} {orc : FuncId -> List Value -> Heap -> Option (Value × Heap)} {h h' h0 h1 h2 : Heap} {S S' S0 G : List Nat} {σ aJ γ gD : aG} {t t' : Tr} {ms : List Nat} {fl : VL} {τ : Ty}
end Go.Fs
namespace Go.Fs
variable {P : Program} {orc : FuncId -> List Value -> Heap -> Option (Value × Heap)} {h h' h0 h1 h2 : Heap} {S S' S0 G : List Nat} {σ aJ : aG} {t t' : Tr} {ms : List Nat} {fl : VL} {ops : Array Oper} {n i mem : Nat} {l : List Oper} {K : VL -> aG -> Prop}
  {d : Tmp} {ty : TypeId} {pos : String} {after : Array Edge} {g : Option (Nat × Bool)} {bs nw : List Nat} {tail so : Bool} {e : TypeId} {τ : Ty}
theorem YX {a b : Ty} {cs : List PV} {x : (Ty.pair a b).den} (hc : rI σ cs (iO (.pair a b) x)) : Co σ (.agg cs) (.v (.pair a b) x) := .sem fun h S0 u y4 hs hu => by
  obtain ⟨vs, rfl, hr⟩ := hu; exact aF.adR (oD (rI.ok y4 hs hc hr))
end Go.Fs
