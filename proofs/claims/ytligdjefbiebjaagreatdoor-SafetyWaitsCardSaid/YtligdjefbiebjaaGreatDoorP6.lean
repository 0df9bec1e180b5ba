/- Runs told by what the slots tell: a slice variable that is nothing yet; an array of two as a slice. No condition. Chapter 9, the plain laws: waiting for a permit. No condition. Runs told by what the slots tell: truth values compared. No condition. strings.Builder's copyCheck by its contract, beside Itoa and Join: an oracle for the evaluator. No condition. The evaluator that lets loads of what stays as it is come in any order; awake by it. No condition. A long closed call, evaluated piece by piece. No condition. -/
import Derived.Test.YtligdjefbiebjaaGreatDoorP5
import Derived.Test.YtligdjefbiebjaaGreatDoorP4
import Derived.Sort.Walk0
set_option linter.all false
namespace Go.Proofs
open Go.Fs
set_option linter.unusedVariables false
abbrev y60 : Ty := (.sl (.pair .str (.int .i64)))
abbrev y62 : Ty := (.sl (.pair .str (.pair .bool (.sl .str))))
abbrev y64 : Ty := (.pair (.sl (.pair .str (.int .i64))) (.pair (.sl (.pair .str (.sl (.pair .str (.int .i64))))) (.sl (.pair .str (.pair .bool (.sl .str))))))
abbrev y68 : Ty := (.sl (.pair .str (.int .i64)))
abbrev y70 : Ty := (.sl (.pair .str (.pair .bool (.sl .str))))
abbrev y72 : Ty := (.pair (.sl (.pair .str (.int .i64))) (.pair (.sl (.pair .str (.sl (.pair .str (.int .i64))))) (.sl (.pair .str (.pair .bool (.sl .str))))))
abbrev y153 : Ty := (.pair .str (.int .i64))
abbrev y156 : Ty := (.pair .str (.pair .bool (.sl .str)))
/-! ## Ticks of the program -/
theorem sHas_ok {s : Int × Int} {t : Int} : VF Tryz.prog OA 177 [.v y29 s, I t] (B (hasT s t)) := by
  refine VF.enter Tryz.func177 rfl (fun _ _ => rfl) rfl ?_
  show VC _ _ _ _ _ [(0, .v y29 s), (1, I t)] [] _
  refine VC.seq ?_
  refine VC.text ?_
  refine VO.new (.box) ?_
  refine VO.c (.assign rfl) ?_
  refine VO.go ?_
  refine VC.seq ?_
  refine VC.text ?_
  refine VO.c (.fa (.l .o)) ?_
  refine VO.r (.ld vt3) ?_
  refine VO.c (.move rfl) ?_
  refine VO.c (.leq) ?_
  refine VO.c (.move rfl) ?_
  refine VO.cg (r := decide (s.1 ≤ t)) (w := true) [] trivial (fun hgd => have g1_4 : s.1 ≤ t := (by simpa using hgd); (.move rfl)) ?_
  refine VO.cg (r := decide (s.1 ≤ t)) (w := true) [] trivial (fun hgd => have g1_4 : s.1 ≤ t := (by simpa using hgd); (.fa (.r .o))) ?_
  refine VO.rg (r := decide (s.1 ≤ t)) (w := true) [(11, .p (.int .i64) s.2)] ⟨rfl, trivial⟩ (fun hgd => have g1_4 : s.1 ≤ t := (by simpa using hgd); (.ld vt3)) ?_
  refine VO.cg (r := decide (s.1 ≤ t)) (w := true) [(10, I t), (12, I s.2)] ⟨rfl, rfl, trivial⟩ (fun hgd => have g1_4 : s.1 ≤ t := (by simpa using hgd); (.lss)) ?_
  refine VO.c (.and) ?_
  refine VO.c (.assign rfl) ?_
  refine VO.go ?_
  refine VC.ret ?_
  exact VEnd.one rfl evT (pvE (by rfl))
theorem sPermitted_ok {l : List ((Int × Int) × Int)} {t : Int} (hl : l.length < 1000000) : VF Tryz.prog OA 192 [.v y47 l, I t] (I (permittedE l t)) := by
  refine VF.enter Tryz.func192 rfl (fun _ _ => rfl) rfl ?_
  show VC _ _ _ _ _ [(0, .v y47 l), (1, I t)] [] _
  refine VC.seq ?_
  refine VC.text ?_
  refine VO.c (.assign rfl) ?_
  refine VO.go ?_
  refine VC.seq ?_
  refine VC.seq ?_
  refine VC.text ?_
  refine VO.c (.move rfl) ?_
  refine VO.r (.len el47) ?_
  refine VO.c (.move rfl) ?_
  refine VO.go ?_
  refine VC.block ?_
  refine VC.keep [(1, I t), (7, .v y47 l), (8, I ((l.length : Nat) : Int)), (9, I ((0 : Nat) : Int))] ⟨rfl, rfl, rfl, rfl, trivial⟩ ?_
  refine VC.loop (I := fun kk ff ss => ∃ (j : Nat), kk = l.length - j ∧ ff = [(1, I t), (7, .v y47 l), (8, I ((l.length : Nat) : Int)), (9, I ((j : Nat) : Int))] ∧ ss = [] ∧ (j ≤ l.length) ∧ (permittedE l t = permittedE (l.drop j) t)) ?_ _ _ _ ⟨0, rfl, rfl, rfl, Nat.zero_le _, (by rfl)⟩
  rintro kk ff ss ⟨j, hk0, rfl, rfl, hj, hw⟩
  refine VC.seq ?_
  refine VC.text ?_
  refine VO.c (.lss) ?_
  refine VO.go ?_
  refine VC.seq ?_
  refine VC.condD rfl (fun c2 => ?_) (fun c2 => ?_)
  · refine VC.skip ?_
    show VC _ _ _ _ _ _ _ _
    refine VC.seq ?_
    refine VC.block ?_
    refine VC.seq ?_
    refine VC.text ?_
    refine VO.c (.ix (j := j) rfl rfl el47 (by omega)) ?_
    refine VO.r (.ld vt94) ?_
    refine VO.cell (.alloc zt94) ?_
    intro ww1
    refine VO.setV (cs' := [I (((l[j]).1).1), I (((l[j]).1).2), I ((l[j]).2)]) vt94 .v ?_
    refine VO.shut [(6, .p y94 (l[j]))] (.cons rfl (.var m0 .refl) .nil) ?_
    refine VO.go ?_
    refine VC.seq ?_
    refine VC.text ?_
    refine VO.c (.fa (.l .o)) ?_
    refine VO.r (.ld vt29) ?_
    refine VO.c (.move rfl) ?_
    refine VO.call rfl rfl (VF.call (sHas_ok )) ?_
    refine VO.go ?_
    refine VC.condB rfl (fun c4 => ?_) (fun c4 => ?_)
    · refine VC.seq ?_
      refine VC.text ?_
      refine VO.c (.fa (.r .o)) ?_
      refine VO.r (.ld vt3) ?_
      refine VO.c (.assign rfl) ?_
      refine VO.go ?_
      refine VC.ret ?_
      exact VEnd.one rfl evT (pvI (by rw [hw, permitted_drop (by omega), if_pos c4]))
    · refine VC.skip ?_
      show VC _ _ _ _ _ _ _ _
      refine VC.text ?_
      refine VO.c (.add rfl rfl (by omega)) ?_
      refine VO.c (.move rfl) ?_
      refine VO.nil ?_
      refine ⟨_, [(1, I t), (7, .v y47 l), (8, I ((l.length : Nat) : Int)), (9, I (((j + 1) : Nat) : Int))], ?_, ⟨rfl, rfl, rfl, rfl, trivial⟩, (j + 1), rfl, rfl, rfl, (by omega), (by rw [hw, permitted_drop (by omega), if_neg (by rw [c4]; decide)])⟩
      omega
  · refine VC.exit ?_
    show VC _ _ _ _ _ _ _ _
    refine VC.seq ?_
    refine VC.text ?_
    refine VO.c (.assign rfl) ?_
    refine VO.go ?_
    refine VC.ret ?_
    exact VEnd.one rfl evT (pvI (by rw [hw, List.drop_eq_nil_of_le (by omega)] <;> rfl))
/-! ## Places in a case -/
abbrev Vers := ByteArray × Int
abbrev Evid := ByteArray × List Vers
abbrev Clm := ByteArray × Bool × List ByteArray
abbrev Cse := List Vers × List Evid × List Clm
def thingE (l : List Vers) (s : ByteArray) : Int := idxG (fun v => decide (v.1 = s)) l 0
def evidE (l : List Evid) (s : ByteArray) : Int := idxG (fun v => decide (v.1 = s)) l 0
def claimE (l : List Clm) (s : ByteArray) : Int := idxG (fun v => decide (v.1 = s)) l 0
end Go.Proofs
namespace Go.Proofs
open Go.Fs
set_option linter.unusedVariables false
abbrev y129 : Ty := (.mp .str (.int .i64))
/-! ## The first error of numbered things -/
def firstR (f : Nat → Int) (i n : Nat) : Int := firstE ((List.range' i (n - i)).map f)
/-! ## Versions -/
def vAt (l : List Vers) (i : Nat) : Vers := l.getD i (ByteArray.empty, 0)
def verAt (l : List Vers) (i : Nat) : Int := firstE [whenE (!nameB (vAt l i).1) 8, rangeE (vAt l i).2 0 999, whenE (decide (0 ≤ thingE (l.take i) (vAt l i).1)) 9]
def versE (l : List Vers) : Int := if 64 < (l.length : Int) then 5 else firstR (verAt l) 0 l.length
def verM (l : List Vers) : Nat → List (ByteArray × Int)
  | 0 => []
  | i + 1 => mset (verM l i) (vAt l i).1 (vAt l i).2
end Go.Proofs
namespace Go.Proofs
open Go.Fs
set_option linter.unusedVariables false
abbrev y158 : Ty := (.mp .str .bool)
/-! ## Evidence -/
def withAt (K : ByteArray → Bool) (l : List Vers) (i : Nat) : Int := firstE [whenE (!K (vAt l i).1) 10, rangeE (vAt l i).2 0 999, whenE (decide (0 ≤ thingE (l.take i) (vAt l i).1)) 9]
def withE (K : ByteArray → Bool) (l : List Vers) : Int := if 16 < (l.length : Int) then 5 else firstR (withAt K l) 0 l.length
def seenM (l : List Vers) : Nat → List (ByteArray × Bool)
  | 0 => []
  | i + 1 => mset (seenM l i) (vAt l i).1 true
/-! ## What a claim uses -/
def usesAt (K : ByteArray → Bool) (l : List ByteArray) (i : Nat) : Int := firstE [whenE (!K (l.getD i ByteArray.empty)) 10, whenE (hasB (l.take i) (l.getD i ByteArray.empty)) 9]
def usesE (K : ByteArray → Bool) (l : List ByteArray) : Int := if firstE [whenE (decide ((l.length : Int) = 0)) 12, whenE (decide (16 < (l.length : Int))) 5] = 0 then firstR (usesAt K l) 0 l.length else firstE [whenE (decide ((l.length : Int) = 0)) 12, whenE (decide (16 < (l.length : Int))) 5]
end Go.Proofs
namespace Go.Proofs
open Go.Fs
set_option linter.unusedVariables false
abbrev y96 : Ty := (.pair .str (.sl (.pair .str (.int .i64))))
/-! ## A case -/
def knowsV (c : Cse) (s : ByteArray) : Bool := decide (0 ≤ thingE c.1 s)
def eAt (c : Cse) (i : Nat) : Evid := c.2.1.getD i (ByteArray.empty, [])
def evAt (c : Cse) (i : Nat) : Int := firstE [whenE (!nameB (eAt c i).1) 8, whenE (decide (0 ≤ evidE (c.2.1.take i) (eAt c i).1)) 9, withE (knowsV c) (eAt c i).2]
end Go.Proofs
namespace Go.Proofs
open Go.Fs
set_option linter.unusedVariables false
abbrev y109 : Ty := (.pair .str (.pair .bool (.sl .str)))
/-! ## Claims -/
def knownC (c : Cse) (i : Nat) (s : ByteArray) : Bool := decide (0 ≤ evidE c.2.1 s) || decide (0 ≤ claimE (c.2.2.take i) s)
def cAt (c : Cse) (i : Nat) : Clm := c.2.2.getD i (ByteArray.empty, false, [])
def clAt (c : Cse) (i : Nat) : Int := firstE [whenE (!nameB (cAt c i).1) 8, whenE (knownC c i (cAt c i).1) 9, usesE (knownC c i) (cAt c i).2.2]
end Go.Proofs
namespace Go.Proofs
open Go.Fs
set_option linter.unusedVariables false

/-! ## Cases -/
def caseE (c : Cse) : Int :=
  if versE c.1 ≠ 0 then versE c.1
  else if 64 < (c.2.1.length : Int) then 5
  else if firstR (evAt c) 0 c.2.1.length ≠ 0 then firstR (evAt c) 0 c.2.1.length
  else if 64 < (c.2.2.length : Int) then 5
  else firstR (clAt c) 0 c.2.2.length
structure CseOk (c : Cse) : Prop where
  v : c.1.length < 100000
  e : c.2.1.length < 100000
  l : c.2.2.length < 100000
  w : ∀ x ∈ c.2.1, x.2.length < 100000
  u : ∀ x ∈ c.2.2, x.2.2.length < 100000
end Go.Proofs
namespace Go.Proofs
open Go.Fs
set_option linter.unusedVariables false
abbrev y69 : Ty := (.sl (.pair .str (.sl (.pair .str (.int .i64)))))
abbrev y155 : Ty := (.pair .str (.sl (.pair .str (.int .i64))))
/-! ## The program's check of a case -/
def kE (c : Cse) : Nat → List (ByteArray × Bool)
  | 0 => []
  | i + 1 => mset (kE c i) (eAt c i).1 true
def kC (c : Cse) : Nat → List (ByteArray × Bool)
  | 0 => kE c c.2.1.length
  | j + 1 => mset (kC c j) (cAt c j).1 true
end Go.Proofs
namespace Go.Proofs
open Go.Fs
set_option linter.unusedVariables false
/-! ## Valid evidence -/
def hasV (l : List Vers) (v : Vers) : Bool := l.any fun x => decide (v = x)
def freshB (c : Cse) (x : Evid) : Bool := !(x.2.any fun v => !hasV c.1 v)
def validE (c : Cse) : List ByteArray := (c.2.1.filter (freshB c)).map (·.1)
end Go.Proofs
namespace Go.Proofs
open Go.Fs
set_option linter.unusedVariables false

/-! ## Valid evidence, the reference -/
def nowE (l : List Vers) (s : ByteArray) : Int := (vAt l (thingE l s).toNat).2
def validB (c : Cse) (x : Evid) : Bool := x.2.all fun v => decide (nowE c.1 v.1 = v.2)
def KnownW (c : Cse) (x : Evid) : Prop := ∀ v ∈ x.2, 0 ≤ thingE c.1 v.1
def CaseK (c : Cse) : Prop := ∀ x ∈ c.2.1, KnownW c x
def validR (c : Cse) : List ByteArray := (c.2.1.filter (validB c)).map (·.1)
end Go.Proofs
namespace Go.Proofs
open Go.Fs
set_option linter.unusedVariables false

/-! ## Issuing a permit -/
def PermV (l : List Permit) : Prop := ∀ o ∈ l, spanE o.2.2.2.2 = 0
def clashE (l : List Permit) (p : Permit) : Int := firstE (l.map fun o => (reasonR (reasonIx o p)).2.2)
def issueE (l : List Permit) (ss : List Season) (p : Permit) : Int := if clashE l p ≠ 0 then clashE l p else if crowdedE (l ++ [p]) ss p.2.2.2.2 = true then 21 else 0
def issueR (l : List Permit) (ss : List Season) (p : Permit) : Int := if 64 ≤ (l.length : Int) then 5 else issueE l ss p
end Go.Proofs
namespace Go.Fs
variable {P : Program} {h : Heap} {S : List Nat} {σ : Sto} {t : Tr} {fl : VL} {x : Operand} {T e : TypeId} {τ : Ty}
theorem FreshO.alloc0 (hZ : ZerT P e (.sl τ)) : FreshO P fl (.alloc e) (.var [.raw (.slice none 0 0)]) :=
  ⟨rfl, fun h S t hs hok hS => by
    obtain ⟨z, h1, h2, h3⟩ := hZ.zero
    obtain ⟨z1, z2⟩ := zero_rep h S (.sl τ)
    obtain ⟨a1, a2⟩ := af_cells (u := z) (by rw [h2]; exact z2)
    refine ⟨fun k => .pointer (some ⟨k, 0, none⟩), .row e z.cells.toList true false, fun _ => rfl, fun S' hN hm => ?_, fun H _ _ _ _ _ => ?_⟩
    · exact ⟨h.next, e, _, rfl, hm, by rw [Heap.get_push, if_pos rfl], by rw [h2]; exact ⟨_, _, rfl, rfl, rfl⟩, a2⟩
    · show (match (P.info? e).bind (·.zero) with | some z => if af z then fsBox e z H else none | none => none) = _
      rw [h1]
      simp only [a1, if_true]
      unfold fsBox
      rw [if_pos a2]⟩
def arr2B (P : Program) (T e : TypeId) : Bool := match P.underlying T with
  | some (.array n e') => Nat.beq n 2 && Nat.beq e' e && (match P.info? e with | some i => Nat.beq i.size 1 | none => false)
  | _ => false
theorem ReadV.arr2 {k : IntKind} {a c : Int} (e : TypeId) (hb : arr2B P T e = true := by kernel_rfl) (hx : evV fl x = some (.p (.pair (.int k) (.int k)) (a, c)) := by rfl) : ReadV P fl σ (.slice T x none none none) (.v (.sl (.int k)) [a, c]) :=
  ⟨rfl, fun h S t hs _ => by
    have hp : RepP h S (.pair (.int k) (.int k)) (evalO t x) (a, c) := hs x (by simp [Op.operands]) _ hx
    obtain ⟨b, o, e', rs, own, more, h1, h2, h3, h4, h5⟩ := hp
    have h4 : o + 2 ≤ rs.length := h4
    have h5 : RepC h S (.int k) (((rs.drop o).take 2).take 1) a ∧ RepC h S (.int k) (((rs.drop o).take 2).drop 1) c := h5
    refine ⟨.slice (some ⟨b, o, none⟩) 2 1, SlV.rep (.inr ⟨b, o, 1, rfl, .inr ⟨h2, e', rs, own, more, h3, h4, fun i hi => ?_⟩⟩), fun H _ _ _ _ _ _ => ?_⟩
    · have hi : i < 2 := hi
      rcases i with _ | _ | i
      · have := h5.1
        rw [List.take_take] at this
        exact this
      · have := h5.2
        rw [List.drop_take, List.drop_drop] at this
        exact this
      · omega
    · show (fsSlice P T (evalO t x) none none none H).map _ = _
      rw [h1]
      unfold arr2B at hb
      split at hb
      · rename_i n e2 hu
        obtain ⟨b1, b2⟩ := band hb
        obtain ⟨b3, b4⟩ := band b1
        obtain rfl := nbeq b3
        obtain rfl := nbeq b4
        split at b2
        · rename_i i hi
          have hsz := nbeq b2
          unfold fsSlice
          simp only [hu, hi, boundOf, Nat.zero_mul, Nat.add_zero]
          rfl
        · cases b2
      · cases hb⟩
end Go.Fs
namespace Go.Proofs
open Go.Fs
set_option linter.unusedVariables false
set_option maxHeartbeats 1000000

/-! ## Sorted words -/
theorem ltS_lt {a b : ByteArray} : ltS a b = decide (a.data.toList < b.data.toList) := by
  unfold ltS
  rw [bytesLess_eq, Lib.toList_data, Lib.toList_data]
theorem sortB_sorted (l : List ByteArray) : (sortB l).Pairwise fun a b => ltS b a = false := by
  unfold sortB
  rw [List.pairwise_map]
  have := List.pairwise_mergeSort (le := fun x y : List UInt8 => decide (x ≤ y)) (fun a b c h1 h2 => by simp at *; exact List.le_trans h1 h2) (fun a b => by simp; exact List.le_total a b) (l.map fun s => s.data.toList)
  refine this.imp fun {a b} h => ?_
  have h := of_decide_eq_true h
  rw [ltS_lt]
  exact decide_eq_false fun hlt => (List.not_lt.2 h) hlt
theorem mem_sortB {l : List ByteArray} {x : ByteArray} : x ∈ sortB l ↔ x ∈ l := by
  unfold sortB
  rw [List.mem_map]
  constructor
  · rintro ⟨d, hd, rfl⟩
    obtain ⟨y, hy, rfl⟩ := List.mem_map.1 (List.mem_mergeSort.1 hd)
    exact hy
  · exact fun h => ⟨x.data.toList, List.mem_mergeSort.2 (List.mem_map.2 ⟨x, h, rfl⟩), rfl⟩
theorem cpt_mem {xs : List ByteArray} {x : ByteArray} : ∀ {i : Nat}, i ≤ xs.length → (x ∈ cptA ByteArray.empty xs i ↔ x ∈ xs.take i)
  | 0, _ => by simp [cptA]
  | i + 1, hi => by
    have ih := cpt_mem (xs := xs) (x := x) (i := i) (by omega)
    rw [List.take_succ_eq_append_getElem (by omega), List.mem_append, List.mem_singleton]
    unfold cptA
    split
    · rename_i h
      rw [ih]
      constructor
      · exact .inl
      · rintro (h1 | h1)
        · exact h1
        · subst h1
          rw [getDg _ _ (by omega), getDg _ _ (by omega)] at h
          rw [h.2]
          exact List.mem_take_iff_getElem.2 ⟨i - 1, by omega, rfl⟩
    · rw [List.mem_append, ih, List.mem_singleton, getDg _ _ (by omega)]
theorem cpt_asc {xs : List ByteArray} (hs : xs.Pairwise fun a b => ltS b a = false) : ∀ {i : Nat}, i ≤ xs.length → Asc (cptA ByteArray.empty xs i)
  | 0, _ => by simp [cptA, Asc]
  | i + 1, hi => by
    have ih := cpt_asc hs (i := i) (by omega)
    unfold cptA
    split
    · exact ih
    · rename_i h
      refine List.pairwise_append.2 ⟨ih, List.pairwise_singleton _ _, fun a ha b hb => ?_⟩
      rw [List.mem_singleton] at hb
      subst hb
      rw [cpt_mem (by omega)] at ha
      obtain ⟨j, hj, rfl⟩ := List.mem_take_iff_getElem.1 ha
      rw [getDg _ _ (by omega)]
      have hj1 : j < i := by omega
      have hle : ∀ p q (hp : p < xs.length) (hq : q < xs.length), p < q → ltS xs[q] xs[p] = false := fun p q hp hq hpq => List.pairwise_iff_getElem.1 hs p q hp hq hpq
      have hlast : ltS xs[i] xs[i - 1] = false := hle (i - 1) i (by omega) (by omega) (by omega)
      have hne : ¬ xs[i - 1] = xs[i] := fun e => h ⟨by omega, by rw [getDg _ _ (by omega), getDg _ _ (by omega), e]⟩
      have e1 := leS_eq (p := xs[i - 1]) (q := xs[i])
      rw [hlast, decide_eq_false hne, Bool.or_false] at e1
      have h1 : ltS xs[i - 1] xs[i] = true := by simpa using e1
      by_cases hji : j = i - 1
      · subst hji; exact h1
      · have h2 := hle j (i - 1) (by omega) (by omega) (by omega)
        have e2 := leS_eq (p := xs[j]) (q := xs[i - 1])
        rw [h2] at e2
        rcases Bool.or_eq_true_iff.1 (by simpa using e2 : (ltS xs[j] xs[i - 1] || decide (xs[j] = xs[i - 1])) = true) with h3 | h3
        · exact ltS_trans h3 h1
        · rw [of_decide_eq_true h3]; exact h1
theorem cpt_set (l : List ByteArray) : cptA ByteArray.empty (sortB l) (sortB l).length = setE l :=
  setE_eq (cpt_asc (sortB_sorted l) (Nat.le_refl _)) fun x => by rw [cpt_mem (Nat.le_refl _), List.take_length]; exact mem_sortB
theorem zSort_ok {w_l : Value} {l : List ByteArray} (hl : l.length ≤ 1000000) : VFG Tryz.prog OA 178 [.raw w_l] [(w_l, .row 9 .str l)] (fun r g => r = .tup [] ∧ g = [(w_l, .row 9 .str (sortB l))]) := VFG.sortS hl
theorem zCompact_ok {w_xs : Value} {xs : List ByteArray} (hn : xs.length < 1000000) : VFG Tryz.prog OA 179 [.raw w_xs] [(w_xs, .row 9 .str xs)] (fun r' g => r' = (.v (.sl .str) (cptA ByteArray.empty xs xs.length)) ∧ g = []) := by
  refine VFG.enterC Tryz.func179 rfl (fun _ _ => rfl) rfl ?_
  show VC _ _ _ _ _ [(0, .raw w_xs)] [(w_xs, .row 9 .str xs)] _
  refine VC.seq ?_
  refine VC.text ?_
  refine VO.c (.assign rfl) ?_
  refine VO.go ?_
  refine VC.seq ?_
  refine VC.seq ?_
  refine VC.text ?_
  refine VO.c (.move rfl) ?_
  refine VO.r (.lenO m0 el27) ?_
  refine VO.c (.lss) ?_
  refine VO.go ?_
  refine VC.condD rfl (fun c1 => ?_) (fun c1 => ?_)
  · refine VC.seq ?_
    refine VC.text ?_
    refine VO.c (.move rfl) ?_
    refine VO.c (.assign rfl) ?_
    refine VO.go ?_
    refine VC.ret ?_
    exact VEnd.one rfl (evC (.row m0)) (pvE (by (have h1 : xs.length < 2 := by omega); rw [cptA_all (Nat.le_refl _) (fun j h2 h3 => by omega), List.take_length]))
  · refine VC.skip ?_
    show VC _ _ _ _ _ _ _ _
    refine VC.seq ?_
    refine VC.seq ?_
    refine VC.text ?_
    refine VO.c (.assign rfl) ?_
    refine VO.go ?_
    refine VC.block ?_
    refine VC.keep [(0, .raw w_xs), (3, I ((1 : Nat) : Int))] ⟨rfl, rfl, trivial⟩ ?_
    refine VC.loop (I := fun kk ff ss => ∃ (k : Nat), kk = xs.length - k ∧ ff = [(0, .raw w_xs), (3, I ((k : Nat) : Int))] ∧ ss = [(w_xs, .row 9 .str xs)] ∧ (1 ≤ k ∧ k ≤ xs.length) ∧ (∀ j, 0 < j → j < k → xs.getD j ByteArray.empty ≠ xs.getD (j - 1) ByteArray.empty)) ?_ _ _ _ ⟨1, rfl, rfl, rfl, (by omega), (by intro j h1 h2; omega)⟩
    rintro kk ff ss ⟨k, hk0, rfl, rfl, hk, hall⟩
    refine VC.seq ?_
    refine VC.seq ?_
    refine VC.text ?_
    refine VO.c (.move rfl) ?_
    refine VO.c (.move rfl) ?_
    refine VO.r (.lenO m0 el27) ?_
    refine VO.c (.lss) ?_
    refine VO.go ?_
    refine VC.condD rfl (fun c4 => ?_) (fun c4 => ?_)
    · have hk2 : k < xs.length := by omega
      refine VC.skip ?_
      show VC _ _ _ _ _ _ _ _
      refine VC.seq ?_
      refine VC.block ?_
      refine VC.seq ?_
      refine VC.drawn ?_
      refine VD.c (.move rfl) ?_
      refine VD.c (.move rfl) ?_
      refine VD.co (.ixO (j := k) rfl rfl m0 el27 (by omega)) ?_
      refine VD.r [(w_xs, .row 9 .str xs)] (.ldO rfl m0 vt9 (by omega)) (.inr ⟨rfl, rfl⟩) ?_
      refine VD.c (.move rfl) ?_
      refine VD.c (.move rfl) ?_
      refine VD.nw [] ?_
      refine VD.c (.sub rfl rfl (by omega)) ?_
      refine VD.co (.ixO (j := k - 1) rfl (congrArg (fun z : Int => some (PV.v (.int .i64) z)) (show (((k : Nat) : Int) - (1 : Int)) = ((k - 1 : Nat) : Int) by omega)) m0 el27 (by omega)) ?_
      refine VD.r [(w_xs, .row 9 .str xs)] (.ldO rfl m0 vt9 (by omega)) (.inr ⟨rfl, rfl⟩) ?_
      refine VD.c (.seql) ?_
      refine VD.go ?_
      refine VC.condD rfl (fun c6 => ?_) (fun c6 => ?_)
      · have c6' : xs.getD k ByteArray.empty = xs.getD (k - 1) ByteArray.empty := by rw [getDg _ _ hk2, getDg _ _ (by omega)]; exact c6
        have hs0 : cptR ByteArray.empty xs (k + 1) = xs := by rw [cptR_eq (by omega) c6', cptR_start (by omega) hall]
        have hc0 : (cptA ByteArray.empty xs (k + 1)).length = k := by rw [cptA_eq (by omega) c6', cptA_all (by omega) hall, List.length_take]; omega
        refine VC.seq ?_
        refine VC.text ?_
        refine VO.c (.move rfl) ?_
        refine VO.c (.move rfl) ?_
        refine VO.r (.restO (k := k) rfl rfl m0 el27 (by omega) (by omega)) ?_
        refine VO.c (.assign rfl) ?_
        refine VO.go ?_
        refine VC.seq ?_
        refine VC.seq ?_
        refine VC.text ?_
        refine VO.c (.assign rfl) ?_
        refine VO.go ?_
        refine VC.block ?_
        refine VC.keep [(0, .raw w_xs), (3, I (((cptA ByteArray.empty xs (k + 1)).length : Nat) : Int)), (4, .raw (rowFrom w_xs 1 k)), (5, I ((1 : Nat) : Int))] ⟨rfl, slI rfl (by rw [hc0]), rfl, rfl, trivial⟩ ?_
        refine VC.loop (I := fun kk ff ss => ∃ (m : Nat), kk = xs.length - k - m ∧ ff = [(0, .raw w_xs), (3, I (((cptA ByteArray.empty xs (k + m)).length : Nat) : Int)), (4, .raw (rowFrom w_xs 1 k)), (5, I ((m : Nat) : Int))] ∧ ss = [(w_xs, .row 9 .str (cptR ByteArray.empty xs (k + m)))] ∧ (1 ≤ m ∧ k + m ≤ xs.length) ∧ ((cptA ByteArray.empty xs (k + m)).length + 1 ≤ k + m)) ?_ _ _ _ ⟨1, rfl, rfl, (by rw [hs0]), (by omega), (by rw [hc0]; omega)⟩
        rintro kk ff ss ⟨m, hk2, rfl, rfl, hm, hc⟩
        have hR : (cptR ByteArray.empty xs (k + m)).length = xs.length := cptR_len hm.2
        refine VC.seq ?_
        refine VC.seq ?_
        refine VC.text ?_
        refine VO.c (.move rfl) ?_
        refine VO.c (.move rfl) ?_
        refine VO.r (.lenF (k := k) m0 el27 (by omega)) ?_
        refine VO.c (.lss) ?_
        refine VO.go ?_
        refine VC.condD rfl (fun c9 => ?_) (fun c9 => ?_)
        · have hm' : k + m < xs.length := by omega
          have he : (cptR ByteArray.empty xs (k + m))[k + m]'(by omega) = xs.getD (k + m) ByteArray.empty := by rw [← getDg _ ByteArray.empty (by omega), cptR_at (by omega)]
          have he2 : (cptR ByteArray.empty xs (k + m))[k + Int.toNat (((m : Nat) : Int) - (1 : Int))]'(by omega) = xs.getD (k + m - 1) ByteArray.empty := by rw [← getDg _ ByteArray.empty (by omega), cptR_at (by omega)]; congr 1; omega
          refine VC.skip ?_
          show VC _ _ _ _ _ _ _ _
          refine VC.seq ?_
          refine VC.block ?_
          refine VC.seq ?_
          refine VC.drawn ?_
          refine VD.c (.move rfl) ?_
          refine VD.c (.move rfl) ?_
          refine VD.co (.ixF (j := m) (k := k) rfl rfl m0 el27 (by omega)) ?_
          refine VD.r [(w_xs, .row 9 .str (cptR ByteArray.empty xs (k + m)))] (.ldO rfl m0 vt9 (by omega)) (.inr ⟨rfl, rfl⟩) ?_
          refine VD.c (.move rfl) ?_
          refine VD.c (.move rfl) ?_
          refine VD.nw [] ?_
          refine VD.c (.sub rfl rfl (by omega)) ?_
          refine VD.co (.ixFZ (z := (((m : Nat) : Int) - (1 : Int))) (k := k) rfl rfl m0 el27 (by omega) (by omega)) ?_
          refine VD.r [(w_xs, .row 9 .str (cptR ByteArray.empty xs (k + m)))] (.ldO rfl m0 vt9 (by omega)) (.inr ⟨rfl, rfl⟩) ?_
          refine VD.c (.sneq) ?_
          refine VD.go ?_
          refine VC.condD rfl (fun c11 => ?_) (fun c11 => ?_)
          · have c11' : xs.getD (k + m) ByteArray.empty ≠ xs.getD (k + m - 1) ByteArray.empty := by rw [← he, ← he2]; exact c11
            refine VC.seq ?_
            refine VC.text ?_
            refine VO.c (.move rfl) ?_
            refine VO.c (.move rfl) ?_
            refine VO.c (.move rfl) ?_
            refine VO.c (.move rfl) ?_
            refine VO.c (.ixF (j := m) (k := k) rfl rfl m0 el27 (by omega)) ?_
            refine VO.r (.ldO rfl m0 vt9 (by omega)) ?_
            refine VO.c (.ixO (j := ((cptA ByteArray.empty xs (k + m)).length)) rfl rfl m0 el27 (by omega)) ?_
            refine VO.setE ((cptA ByteArray.empty xs (k + m)).length) rfl rfl vt9 (by omega) ?_
            refine VO.go ?_
            refine VC.text ?_
            refine VO.c (.move rfl) ?_
            refine VO.c (.add rfl rfl (by omega)) ?_
            refine VO.c (.assign rfl) ?_
            refine VO.nil ?_
            show VC _ _ _ _ _ _ _ _
            refine VC.text ?_
            refine VO.c (.move rfl) ?_
            refine VO.c (.add rfl rfl (by omega)) ?_
            refine VO.c (.assign rfl) ?_
            refine VO.nil ?_
            refine ⟨_, [(0, .raw w_xs), (3, I (((cptA ByteArray.empty xs (k + (m + 1))).length : Nat) : Int)), (4, .raw (rowFrom w_xs 1 k)), (5, I (((m + 1) : Nat) : Int))], ?_, ⟨rfl, slI rfl (by first | (rw [← Nat.add_assoc, cptA_ne c11', List.length_append]; rfl) | rw [← Nat.add_assoc, cptA_eq (by omega) c11']), rfl, rfl, trivial⟩, (m + 1), rfl, rfl, (by first | (rw [← Nat.add_assoc, cptR_ne (by omega) c11', he]) | rw [← Nat.add_assoc, cptR_eq (by omega) c11']), (by omega), (by first | (rw [← Nat.add_assoc, cptA_ne c11', List.length_append, List.length_singleton]; omega) | (rw [← Nat.add_assoc, cptA_eq (by omega) c11']; omega))⟩
            omega
          · have c11' : xs.getD (k + m) ByteArray.empty = xs.getD (k + m - 1) ByteArray.empty := by rw [← he, ← he2]; simpa using c11
            refine VC.skip ?_
            show VC _ _ _ _ _ _ _ _
            refine VC.text ?_
            refine VO.c (.move rfl) ?_
            refine VO.c (.add rfl rfl (by omega)) ?_
            refine VO.c (.assign rfl) ?_
            refine VO.nil ?_
            refine ⟨_, [(0, .raw w_xs), (3, I (((cptA ByteArray.empty xs (k + (m + 1))).length : Nat) : Int)), (4, .raw (rowFrom w_xs 1 k)), (5, I (((m + 1) : Nat) : Int))], ?_, ⟨rfl, slI rfl (by first | (rw [← Nat.add_assoc, cptA_ne c11', List.length_append]; rfl) | rw [← Nat.add_assoc, cptA_eq (by omega) c11']), rfl, rfl, trivial⟩, (m + 1), rfl, rfl, (by first | (rw [← Nat.add_assoc, cptR_ne (by omega) c11', he]) | rw [← Nat.add_assoc, cptR_eq (by omega) c11']), (by omega), (by first | (rw [← Nat.add_assoc, cptA_ne c11', List.length_append, List.length_singleton]; omega) | (rw [← Nat.add_assoc, cptA_eq (by omega) c11']; omega))⟩
            omega
        · refine VC.exit ?_
          show VC _ _ _ _ _ _ _ _
          refine VC.seq ?_
          refine VC.text ?_
          refine VO.c (.move rfl) ?_
          refine VO.c (.move rfl) ?_
          refine VO.r (.restO (k := ((cptA ByteArray.empty xs (k + m)).length)) rfl rfl m0 el27 (by omega) (by omega)) ?_
          refine VO.clear0 (k := ((cptA ByteArray.empty xs (k + m)).length)) el27 zt9 (by omega) (by omega) ?_
          refine VO.go ?_
          refine VC.seq ?_
          refine VC.text ?_
          refine VO.c (.move rfl) ?_
          refine VO.c (.move rfl) ?_
          refine VO.shut [(0, .v (.sl .str) ((cptR ByteArray.empty xs (k + m)).take ((cptA ByteArray.empty xs (k + m)).length) ++ List.replicate ((cptR ByteArray.empty xs (k + m)).length - ((cptA ByteArray.empty xs (k + m)).length)) ByteArray.empty)), (54, .v (.sl .str) ((cptR ByteArray.empty xs (k + m)).take ((cptA ByteArray.empty xs (k + m)).length) ++ List.replicate ((cptR ByteArray.empty xs (k + m)).length - ((cptA ByteArray.empty xs (k + m)).length)) ByteArray.empty)), (57, .v (.sl .str) ((cptR ByteArray.empty xs (k + m)).take ((cptA ByteArray.empty xs (k + m)).length) ++ List.replicate ((cptR ByteArray.empty xs (k + m)).length - ((cptA ByteArray.empty xs (k + m)).length)) ByteArray.empty))] (.cons rfl (.row m0) (.cons rfl (.row m0) (.cons rfl (.row m0) .nil))) ?_
          refine VO.r (.cutH rfl rfl el27 (by simp; omega)) ?_
          refine VO.c (.assign rfl) ?_
          refine VO.go ?_
          refine VC.ret ?_
          exact VEnd.one rfl evT (pvE (by rw [Int.toNat_natCast, show k + m = xs.length by omega, cptR_take, List.take_left]))
      · have c6' : xs.getD k ByteArray.empty ≠ xs.getD (k - 1) ByteArray.empty := by rw [getDg _ _ hk2, getDg _ _ (by omega)]; exact c6
        refine VC.skip ?_
        show VC _ _ _ _ _ _ _ _
        refine VC.text ?_
        refine VO.c (.move rfl) ?_
        refine VO.c (.add rfl rfl (by omega)) ?_
        refine VO.c (.assign rfl) ?_
        refine VO.nil ?_
        refine ⟨_, [(0, .raw w_xs), (3, I (((k + 1) : Nat) : Int))], ?_, ⟨rfl, rfl, trivial⟩, (k + 1), rfl, rfl, rfl, (by omega), (by intro j h1 h2; rcases Nat.lt_succ_iff_lt_or_eq.1 h2 with h | h; exact hall j h1 h; subst h; exact c6')⟩
        omega
    · refine VC.exit ?_
      show VC _ _ _ _ _ _ _ _
      refine VC.seq ?_
      refine VC.text ?_
      refine VO.c (.move rfl) ?_
      refine VO.c (.assign rfl) ?_
      refine VO.go ?_
      refine VC.ret ?_
      exact VEnd.one rfl (evC (.row m0)) (pvE (by rw [cptA_all (Nat.le_refl _) (fun j h1 h2 => hall j h1 (by omega)), List.take_length]))
theorem sDistinct_ok {w_l : Value} {l : List ByteArray} (hn : l.length < 1000000) : VFG Tryz.prog OA 142 [.raw w_l] [(w_l, .row 9 .str l)] (fun r' g => r' = (.v (.sl .str) (setE l)) ∧ g = []) := by
  refine VFG.enterC Tryz.func142 rfl (fun _ _ => rfl) rfl ?_
  show VC _ _ _ _ _ [(0, .raw w_l)] [(w_l, .row 9 .str l)] _
  refine VC.seq ?_
  refine VC.text ?_
  refine VO.c (.assign rfl) ?_
  refine VO.go ?_
  refine VC.seq ?_
  refine VC.text ?_
  refine VO.c (.move rfl) ?_
  refine VO.callG [(w_l, .row 9 .str l)] rfl rfl rfl (VFG.call (zSort_ok (by omega))) ?_
  rintro _ _ ⟨rfl, rfl⟩
  show VO _ _ _ _ _ _ [(w_l, .row 9 .str (sortB l))] _
  refine VO.go ?_
  refine VC.seq ?_
  refine VC.text ?_
  refine VO.c (.move rfl) ?_
  refine VO.callG [(w_l, .row 9 .str (sortB l))] rfl rfl rfl (VFG.call (zCompact_ok (by rw [sortB_length]; omega))) ?_
  rintro _ _ ⟨rfl, rfl⟩
  show VO _ _ _ _ _ _ [] _
  refine VO.c (.assign rfl) ?_
  refine VO.go ?_
  refine VC.ret ?_
  exact VEnd.one rfl evT (pvE (by exact cpt_set l))
end Go.Proofs
namespace Go.Proofs
open Go.Fs
set_option linter.unusedVariables false
set_option maxHeartbeats 1000000
theorem vt43 : ValT Tryz.prog 43 y43 := valT_of (by kernel_rfl)
theorem vt47 : ValT Tryz.prog 47 y47 := valT_of (by kernel_rfl)
theorem zt27 : ZerT Tryz.prog 27 (.sl .str) := zerT_of (z := .slice none 0 0) (by kernel_rfl) rfl rfl
/-! ## The permits of a tick -/
theorem atE_cons {l : List Permit} {t : Int} {i : Nat} (h : i < l.length) : atE (l.drop i) t = if hasT l[i].2.2.2.2 t = true then l[i] :: atE (l.drop (i + 1)) t else atE (l.drop (i + 1)) t := by
  unfold atE
  rw [List.drop_eq_getElem_cons h, List.filter_cons]
theorem atE_end {l : List Permit} {t : Int} {i : Nat} (h : l.length ≤ i) : atE (l.drop i) t = [] := by rw [List.drop_eq_nil_of_le h] <;> rfl
theorem sAt1_ok {l : List (ByteArray × ByteArray × ByteArray × (List ByteArray) × (Int × Int))} {t : Int} (hn : l.length < 1000000) : IterC Tryz.prog OA 176 [] [.p y43 l, .p (.int .i64) t] (fun x : Permit => [.v y35 x]) (atE l t) := by
  refine IterC.enter Tryz.func176 rfl rfl (fun _ => rfl) fun yv II EE γ hy hI => ?_
  show VC _ _ _ _ _ [(0, .raw yv), (1, .p y43 l), (2, .p (.int .i64) t)] γ _
  refine VC.seq ?_
  refine VC.text ?_
  refine VO.r (.ld vt43) ?_
  refine VO.r (.len el43) ?_
  refine VO.c (.move rfl) ?_
  refine VO.go ?_
  refine VC.block ?_
  refine VC.keep [(0, .raw yv), (2, .p (.int .i64) t), (6, .v y43 l), (7, I ((l.length : Nat) : Int)), (8, I ((0 : Nat) : Int))] ⟨rfl, rfl, rfl, rfl, rfl, trivial⟩ ?_
  refine VC.loop (I := fun kk ff ss => ∃ (i : Nat), kk = l.length - i ∧ ff = [(0, .raw yv), (2, .p (.int .i64) t), (6, .v y43 l), (7, I ((l.length : Nat) : Int)), (8, I ((i : Nat) : Int))] ∧ (i ≤ l.length) ∧ II (atE (l.drop i) t) ss) ?_ _ _ _ ⟨0, rfl, rfl, Nat.zero_le _, (by exact hI)⟩
  rintro kk ff ss ⟨i, hk0, rfl, hi, hI⟩
  refine VC.seq ?_
  refine VC.text ?_
  refine VO.c (.lss) ?_
  refine VO.go ?_
  refine VC.seq ?_
  refine VC.condD rfl (fun c1 => ?_) (fun c1 => ?_)
  · have hi' : i < l.length := by omega
    refine VC.skip ?_
    show VC _ _ _ _ _ _ _ _
    refine VC.seq ?_
    refine VC.block ?_
    refine VC.seq ?_
    refine VC.text ?_
    refine VO.c (.ix (j := i) rfl rfl el43 (by omega)) ?_
    refine VO.r (.ld vt35) ?_
    refine VO.cell (.alloc zt35) ?_
    intro ww1
    refine VO.setV (cs' := [St ((l[i]).1), St ((l[i]).2.1), St ((l[i]).2.2.1), .v (.sl .str) ((l[i]).2.2.2.1), I (((l[i]).2.2.2.2).1), I (((l[i]).2.2.2.2).2)]) vt35 .v ?_
    refine VO.shut [(5, .p y35 (l[i]))] (.cons rfl (.var m0 .refl) .nil) ?_
    refine VO.go ?_
    refine VC.seq ?_
    refine VC.text ?_
    refine VO.c (.fa (.r (.r (.r (.r .o))))) ?_
    refine VO.r (.ld vt29) ?_
    refine VO.r (.ld vt3) ?_
    refine VO.call rfl rfl (VF.call (sHas_ok )) ?_
    refine VO.c (.move rfl) ?_
    refine VO.splitB (x := 16) rfl (fun g3_4 => ?_) (fun g3_4 => ?_)
    · refine VO.c (.move rfl) ?_
      refine VO.r (.ld vt35) ?_
      refine VO.callY0 rfl rfl (hy (l[i]) (atE (l.drop (i + 1)) t) _ (by rw [atE_cons hi', if_pos g3_4] at hI; exact hI)) ?_
      rintro _ ss (⟨rfl, hI⟩ | ⟨rfl, hE⟩)
      · refine VO.c (.not) ?_
        refine VO.c (.pickT rfl rfl) ?_
        refine VO.go ?_
        refine VC.condF rfl ?_
        refine VC.skip ?_
        show VC _ _ _ _ _ _ _ _
        refine VC.text ?_
        refine VO.c (.add rfl rfl (by omega)) ?_
        refine VO.c (.move rfl) ?_
        refine VO.nil ?_
        refine ⟨_, [(0, .raw yv), (2, .p (.int .i64) t), (6, .v y43 l), (7, I ((l.length : Nat) : Int)), (8, I (((i + 1) : Nat) : Int))], ?_, ⟨rfl, rfl, rfl, rfl, rfl, trivial⟩, (i + 1), rfl, rfl, (by omega), (by first | exact hI | (rw [atE_cons hi', if_neg (by rw [g3_4]; decide)] at hI; exact hI))⟩
        omega
      · refine VO.c (.not) ?_
        refine VO.c (.pickT rfl rfl) ?_
        refine VO.go ?_
        refine VC.condT rfl ?_
        refine VC.ret ?_
        exact ⟨rfl, .inr hE⟩
    · refine VO.skip ?_
      refine VO.skip ?_
      refine VO.skip ?_
      refine VO.skip ?_
      refine VO.c (.pickF rfl rfl) ?_
      refine VO.go ?_
      refine VC.condF rfl ?_
      refine VC.skip ?_
      show VC _ _ _ _ _ _ _ _
      refine VC.text ?_
      refine VO.c (.add rfl rfl (by omega)) ?_
      refine VO.c (.move rfl) ?_
      refine VO.nil ?_
      refine ⟨_, [(0, .raw yv), (2, .p (.int .i64) t), (6, .v y43 l), (7, I ((l.length : Nat) : Int)), (8, I (((i + 1) : Nat) : Int))], ?_, ⟨rfl, rfl, rfl, rfl, rfl, trivial⟩, (i + 1), rfl, rfl, (by omega), (by first | exact hI | (rw [atE_cons hi', if_neg (by rw [g3_4]; decide)] at hI; exact hI))⟩
      omega
  · refine VC.exit ?_
    exact ⟨rfl, .inl (by rw [atE_end (by omega)] at hI; exact hI)⟩
theorem sAt_ok {l : List (ByteArray × ByteArray × ByteArray × (List ByteArray) × (Int × Int))} {t : Int} : VF Tryz.prog OA 141 [.v y43 l, I t] (.clo 176 [] [.p y43 l, .p (.int .i64) t]) := by
  refine VF.enter Tryz.func141 rfl (fun _ _ => rfl) rfl ?_
  show VC _ _ _ _ _ [(0, .v y43 l), (1, I t)] [] _
  refine VC.seq ?_
  refine VC.text ?_
  refine VO.new (.box) ?_
  refine VO.new (.box) ?_
  refine VO.c (.assign rfl) ?_
  refine VO.go ?_
  refine VC.seq ?_
  refine VC.text ?_
  refine VO.c (.func) ?_
  refine VO.c (.assign rfl) ?_
  refine VO.go ?_
  refine VC.ret ?_
  exact VEnd.one rfl evT rfl
def gateE (p : Permit) : ByteArray := p.2.2.1
theorem outE_eq {l : List Permit} {t : Int} {gs : List ByteArray} (h : gs ++ ([] : List Permit).map gateE = (atE l t).map gateE) : setE gs = outE l t := by
  rw [List.map_nil, List.append_nil] at h
  rw [h] <;> rfl
theorem gates_len {l : List Permit} {t : Int} {gs : List ByteArray} {rest : List Permit} (h : gs ++ rest.map gateE = (atE l t).map gateE) : gs.length + rest.length ≤ l.length := by
  have h1 := congrArg List.length h
  rw [List.length_append, List.length_map, List.length_map] at h1
  have h2 : (atE l t).length ≤ l.length := List.length_filter_le _ _
  omega
theorem sOut_ok {l : List (ByteArray × ByteArray × ByteArray × (List ByteArray) × (Int × Int))} {t : Int} (hn : l.length < 100000) : VF Tryz.prog OA 140 [.v y43 l, I t] (.v (.sl .str) (outE l t)) := by
  refine VF.enter Tryz.func140 rfl (fun _ _ => rfl) rfl ?_
  show VC _ _ _ _ _ [(0, .v y43 l), (1, I t)] [] _
  refine VC.seq ?_
  refine VC.text ?_
  refine VO.c (.assign rfl) ?_
  refine VO.go ?_
  refine VC.seq ?_
  refine VC.text ?_
  refine VO.cell (.alloc0 zt27) ?_
  intro ww2
  refine VO.go ?_
  refine VC.seq ?_
  refine VC.seq ?_
  refine VC.nilRow 9 .str ?_
  refine VC.text ?_
  refine VO.c (.move rfl) ?_
  refine VO.c (.move rfl) ?_
  refine VO.call rfl rfl (VF.call (sAt_ok )) ?_
  refine VO.go ?_
  refine VC.block ?_
  refine VC.keep [(5, .raw ww2), (9, .clo 176 [] [.p y43 l, .p (.int .i64) t])] ⟨rfl, rfl, trivial⟩ ?_
  refine VC.rangeFunc rfl (sAt1_ok (by omega)) (fun _ => rfl) rfl rfl (fun rest ss => ∃ (gs : List ByteArray), ∃ (wg : Value), ss = [(wg, .row 9 .str gs), (ww2, .var [.raw wg])] ∧ (gs ++ rest.map gateE = (atE l t).map gateE)) (fun ee ss => False) ⟨[], (.slice none 0 0), rfl, (by rfl)⟩ ?_ ?_ ?_
  · rintro jj x rest _ ⟨gs, wg, rfl, hg⟩
    show VC _ _ _ _ _ [(10, .v y35 x), (5, .raw ww2), (9, .clo 176 [] [.p y43 l, .p (.int .i64) t])] [(wg, .row 9 .str gs), (ww2, .var [.raw wg])] _
    refine VC.text ?_
    refine VO.cell (.alloc zt35) ?_
    intro ww3
    refine VO.setV (cs' := [St x.1, St x.2.1, St x.2.2.1, .v (.sl .str) x.2.2.2.1, I x.2.2.2.2.1, I x.2.2.2.2.2]) vt35 .v ?_
    refine VO.shut [(6, .p y35 x)] (.cons rfl (.var m0 .refl) .nil) ?_
    refine VO.nil ?_
    refine ⟨rfl, ?_⟩
    refine VC.block ?_
    refine VC.text ?_
    refine VO.r (.ldV m1 vt27) ?_
    refine VO.c (.fa (.r (.r (.l .o)))) ?_
    refine VO.r (.ld vt9) ?_
    refine VO.new (.lit [x.2.2.1] el27) ?_
    refine VO.app rfl rfl el27 el27 (by have := gates_len hg; simp; omega) ?_
    intro ww4
    refine VO.perm swap1 ?_
    refine VO.one m1 fun ho5 => ?_
    refine VO.setV (cs' := [.raw ww4]) vt27 (.raw rfl (agg_one ho5) ho5) ?_
    refine VO.perm swap1 ?_
    refine VO.nil ?_
    exact .inl ⟨rfl, gs ++ [x.2.2.1], ww4, rfl, (by rw [List.append_assoc]; exact hg)⟩
  · rintro _ ⟨gs, wg, rfl, hg⟩
    show VC _ _ _ _ _ _ _ _
    refine VC.seq ?_
    refine VC.text ?_
    refine VO.r (.ldV m1 vt27) ?_
    refine VO.callG [(wg, .row 9 .str gs)] rfl rfl rfl (VFG.call (sDistinct_ok (by have := gates_len hg; omega))) ?_
    rintro _ _ ⟨rfl, rfl⟩
    show VO _ _ _ _ _ _ [(ww2, .var [.raw wg])] _
    refine VO.c (.assign rfl) ?_
    refine VO.go ?_
    refine VC.ret ?_
    exact VEnd.one rfl evT (pvE (by exact outE_eq hg))
  · rintro _ _ _ ⟨⟩
theorem zIndexFI_ok {F : Int → Bool} {l : List Int} {f : PV} (hl : l.length < 1000000) (hf : ∀ x ∈ l, VCall Tryz.prog OA f [I x] (B (F x))) : VF Tryz.prog OA 215 [.v y39 l, f] (I (idxG F l 0)) := by
  refine VF.enter Tryz.func215 rfl (fun _ _ => rfl) rfl ?_
  show VC _ _ _ _ _ [(0, .v y39 l), (1, f)] [] _
  refine VC.seq ?_
  refine VC.text ?_
  refine VO.c (.assign rfl) ?_
  refine VO.go ?_
  refine VC.seq ?_
  refine VC.seq ?_
  refine VC.text ?_
  refine VO.c (.move rfl) ?_
  refine VO.r (.len el39) ?_
  refine VO.c (.move rfl) ?_
  refine VO.go ?_
  refine VC.block ?_
  refine VC.keep [(0, .v y39 l), (1, f), (7, I ((l.length : Nat) : Int)), (8, I ((0 : Nat) : Int))] ⟨rfl, rfl, rfl, rfl, trivial⟩ ?_
  refine VC.loop (I := fun kk ff ss => ∃ (j : Nat), kk = l.length - j ∧ ff = [(0, .v y39 l), (1, f), (7, I ((l.length : Nat) : Int)), (8, I ((j : Nat) : Int))] ∧ ss = [] ∧ (j ≤ l.length) ∧ (idxG F l 0 = idxG F (l.drop j) (j : Nat))) ?_ _ _ _ ⟨0, rfl, rfl, rfl, Nat.zero_le _, (by rfl)⟩
  rintro kk ff ss ⟨j, hk0, rfl, rfl, hj, hi⟩
  refine VC.seq ?_
  refine VC.text ?_
  refine VO.c (.lss) ?_
  refine VO.go ?_
  refine VC.seq ?_
  refine VC.condD rfl (fun c2 => ?_) (fun c2 => ?_)
  · refine VC.skip ?_
    show VC _ _ _ _ _ _ _ _
    refine VC.seq ?_
    refine VC.block ?_
    refine VC.seq ?_
    refine VC.text ?_
    refine VO.c (.move rfl) ?_
    refine VO.c (.assign rfl) ?_
    refine VO.go ?_
    refine VC.seq ?_
    refine VC.text ?_
    refine VO.c (.move rfl) ?_
    refine VO.c (.move rfl) ?_
    refine VO.c (.move rfl) ?_
    refine VO.c (.ix (j := j) rfl rfl el39 (by omega)) ?_
    refine VO.r (.ld vt3) ?_
    refine VO.call rfl rfl ((hf _ (List.getElem_mem _)) ) ?_
    refine VO.go ?_
    refine VC.condB rfl (fun c4 => ?_) (fun c4 => ?_)
    · refine VC.seq ?_
      refine VC.text ?_
      refine VO.c (.move rfl) ?_
      refine VO.c (.assign rfl) ?_
      refine VO.go ?_
      refine VC.ret ?_
      exact VEnd.one rfl evT (pvI (by rw [hi, idxG_drop (by omega), if_pos c4]))
    · refine VC.skip ?_
      show VC _ _ _ _ _ _ _ _
      refine VC.text ?_
      refine VO.c (.add rfl rfl (by omega)) ?_
      refine VO.c (.move rfl) ?_
      refine VO.nil ?_
      refine ⟨_, [(0, .v y39 l), (1, f), (7, I ((l.length : Nat) : Int)), (8, I (((j + 1) : Nat) : Int))], ?_, ⟨rfl, rfl, rfl, rfl, trivial⟩, (j + 1), rfl, rfl, rfl, (by omega), (by rw [hi, idxG_drop (by omega), if_neg (by rw [c4]; decide)])⟩
      omega
  · refine VC.exit ?_
    show VC _ _ _ _ _ _ _ _
    refine VC.seq ?_
    refine VC.text ?_
    refine VO.c (.assign rfl) ?_
    refine VO.go ?_
    refine VC.ret ?_
    exact VEnd.one rfl evT (pvI (by rw [hi, idxG_end (by omega)]))
theorem zContainsFI_ok {F : Int → Bool} {l : List Int} {f : PV} (hl : l.length < 1000000) (hf : ∀ x ∈ l, VCall Tryz.prog OA f [I x] (B (F x))) : VF Tryz.prog OA 193 [.v y39 l, f] (B (l.any F)) := by
  refine VF.enter Tryz.func193 rfl (fun _ _ => rfl) rfl ?_
  show VC _ _ _ _ _ [(0, .v y39 l), (1, f)] [] _
  refine VC.seq ?_
  refine VC.text ?_
  refine VO.c (.assign rfl) ?_
  refine VO.go ?_
  refine VC.seq ?_
  refine VC.text ?_
  refine VO.c (.move rfl) ?_
  refine VO.c (.move rfl) ?_
  refine VO.call rfl rfl (VF.call (zIndexFI_ok (F := F) hl hf)) ?_
  refine VO.c (.geq) ?_
  refine VO.c (.assign rfl) ?_
  refine VO.go ?_
  refine VC.ret ?_
  exact VEnd.one rfl evT (pvE (by have h9 := idxG_any (F := F) (l := l) (k := 0) (by omega); cases h8 : l.any F <;> simp_all))
theorem sOver_ok {tick : Int} {s : Int × Int} {l : List (ByteArray × ByteArray × ByteArray × (List ByteArray) × (Int × Int))} {sn : List ((Int × Int) × Int)} (hl : l.length < 100000) (hs : sn.length < 100000) : VF Tryz.prog OA 191 [I tick, .p y29 s, .p y43 l, .p y47 sn] (B (hasT s tick && overE l sn tick)) := by
  refine VF.enter Tryz.func191 rfl (fun _ _ => rfl) rfl ?_
  show VC _ _ _ _ _ [(0, I tick), (1, .p y29 s), (2, .p y43 l), (3, .p y47 sn)] [] _
  refine VC.seq ?_
  refine VC.text ?_
  refine VO.c (.assign rfl) ?_
  refine VO.go ?_
  refine VC.seq ?_
  refine VC.drawn ?_
  refine VD.r [] (.ld vt29) (.inl rfl) ?_
  refine VD.c (.move rfl) ?_
  refine VD.call rfl rfl (VF.call (sHas_ok )) ?_
  refine VD.c (.move rfl) ?_
  refine VD.splitB (x := 9) rfl (fun g1_3 => ?_) (fun g1_3 => ?_)
  · refine VD.r [] (.ld vt43) (.inl rfl) ?_
    refine VD.nw [] ?_
    refine VD.c (.move rfl) ?_
    refine VD.call rfl rfl (VF.call (sOut_ok (by first | assumption | omega | simp))) ?_
    refine VD.ro (.len el27) ?_
    refine VD.r [] (.ld vt47) (.inl rfl) ?_
    refine VD.c (.move rfl) ?_
    refine VD.call rfl rfl (VF.call (sPermitted_ok (by first | assumption | omega | simp))) ?_
    refine VD.c (.gtr) ?_
    refine VD.nw [12] ?_
    refine VD.c (.pickT rfl rfl) ?_
    refine VD.c (.assign rfl) ?_
    refine VD.go ?_
    refine VC.ret ?_
    exact VEnd.one rfl evT (pvE (by first | (rw [g1_3]; rfl) | (rw [show hasT s tick = false from by simpa using g1_3]; rfl)))
  · refine VD.skip ?_
    refine VD.nw [] ?_
    refine VD.skip ?_
    refine VD.skip ?_
    refine VD.skip ?_
    refine VD.skip ?_
    refine VD.skip ?_
    refine VD.skip ?_
    refine VD.skip ?_
    refine VD.nw [] ?_
    refine VD.c (.pickF rfl rfl) ?_
    refine VD.c (.assign rfl) ?_
    refine VD.go ?_
    refine VC.ret ?_
    exact VEnd.one rfl evT (pvE (by first | (rw [g1_3]; rfl) | (rw [show hasT s tick = false from by simpa using g1_3]; rfl)))
def fromL (l : List Permit) : List Int := l.map fun p => p.2.2.2.2.1
def limL (ss : List Season) : List Int := ss.flatMap fun x => [x.1.1, x.1.2]
theorem fromL_take {l : List Permit} {i : Nat} (h : i < l.length) : fromL (l.take (i + 1)) = fromL (l.take i) ++ [l[i].2.2.2.2.1] := by
  unfold fromL
  rw [List.take_succ_eq_append_getElem h, List.map_append] <;> rfl
theorem limL_take {l : List Season} {i : Nat} (h : i < l.length) : limL (l.take (i + 1)) = limL (l.take i) ++ [l[i].1.1, l[i].1.2] := by
  unfold limL
  rw [List.take_succ_eq_append_getElem h, List.flatMap_append]; simp
theorem limL_len {l : List Season} : (limL l).length = 2 * l.length := by
  unfold limL
  induction l with
  | nil => rfl
  | cons x l ih => rw [List.flatMap_cons, List.length_append, ih]; simp; omega
theorem fromL_len {l : List Permit} : (fromL l).length = l.length := List.length_map ..
theorem sCrowded_ok {l : List (ByteArray × ByteArray × ByteArray × (List ByteArray) × (Int × Int))} {sn : List ((Int × Int) × Int)} {s : Int × Int} (hl : l.length < 10000) (hs : sn.length < 10000) : VF Tryz.prog OA 156 [.v y43 l, .v y47 sn, .v y29 s] (B (crowdedE l sn s)) := by
  refine VF.enter Tryz.func156 rfl (fun _ _ => rfl) rfl ?_
  show VC _ _ _ _ _ [(0, .v y43 l), (1, .v y47 sn), (2, .v y29 s)] [] _
  refine VC.seq ?_
  refine VC.text ?_
  refine VO.new (.box) ?_
  refine VO.new (.box) ?_
  refine VO.new (.box) ?_
  refine VO.c (.assign rfl) ?_
  refine VO.go ?_
  refine VC.seq ?_
  refine VC.text ?_
  refine VO.c (.fa (.l .o)) ?_
  refine VO.r (.ld vt3) ?_
  refine VO.cell (.lit [s.1] el39) ?_
  intro ww7
  refine VO.c (.assign rfl) ?_
  refine VO.go ?_
  refine VC.seq ?_
  refine VC.seq ?_
  refine VC.text ?_
  refine VO.r (.ld vt43) ?_
  refine VO.r (.len el43) ?_
  refine VO.c (.move rfl) ?_
  refine VO.go ?_
  refine VC.block ?_
  refine VC.keep [(3, .p y43 l), (4, .p y47 sn), (5, .p y29 s), (7, .raw ww7), (17, .v y43 l), (18, I ((l.length : Nat) : Int)), (19, I ((0 : Nat) : Int))] ⟨rfl, rfl, rfl, rfl, rfl, rfl, rfl, trivial⟩ ?_
  refine VC.loop (I := fun kk ff ss => ∃ (i : Nat) (w0 : Value), kk = l.length - i ∧ ff = [(3, .p y43 l), (4, .p y47 sn), (5, .p y29 s), (7, .raw w0), (17, .v y43 l), (18, I ((l.length : Nat) : Int)), (19, I ((i : Nat) : Int))] ∧ ss = [(w0, .row 3 (.int .i64) (s.1 :: fromL (l.take i)))] ∧ (i ≤ l.length)) ?_ _ _ _ ⟨0, ww7, rfl, rfl, rfl, Nat.zero_le _⟩
  rintro kk ff ss ⟨i, w0, hk0, rfl, rfl, hi⟩
  refine VC.seq ?_
  refine VC.text ?_
  refine VO.c (.lss) ?_
  refine VO.go ?_
  refine VC.seq ?_
  refine VC.condD rfl (fun c3 => ?_) (fun c3 => ?_)
  · refine VC.skip ?_
    show VC _ _ _ _ _ _ _ _
    refine VC.seq ?_
    refine VC.block ?_
    refine VC.seq ?_
    refine VC.text ?_
    refine VO.c (.ix (j := i) rfl rfl el43 (by omega)) ?_
    refine VO.r (.ld vt35) ?_
    refine VO.cell (.alloc zt35) ?_
    intro ww8
    refine VO.setV (cs' := [St ((l[i]).1), St ((l[i]).2.1), St ((l[i]).2.2.1), .v (.sl .str) ((l[i]).2.2.2.1), I (((l[i]).2.2.2.2).1), I (((l[i]).2.2.2.2).2)]) vt35 .v ?_
    refine VO.shut [(9, .p y35 (l[i]))] (.cons rfl (.var m0 .refl) .nil) ?_
    refine VO.go ?_
    refine VC.text ?_
    refine VO.c (.move rfl) ?_
    refine VO.c (.fa (.r (.r (.r (.r .o))))) ?_
    refine VO.c (.fa (.l .o)) ?_
    refine VO.r (.ld vt3) ?_
    refine VO.new (.lit [((l[i]).2.2.2.2).1] el39) ?_
    refine VO.app rfl rfl el39 el39 (by simp [fromL_len]; omega) ?_
    intro ww9
    refine VO.c (.assign rfl) ?_
    refine VO.nil ?_
    show VC _ _ _ _ _ _ _ _
    refine VC.text ?_
    refine VO.c (.add rfl rfl (by omega)) ?_
    refine VO.c (.move rfl) ?_
    refine VO.nil ?_
    refine ⟨_, [(3, .p y43 l), (4, .p y47 sn), (5, .p y29 s), (7, .raw ww9), (17, .v y43 l), (18, I ((l.length : Nat) : Int)), (19, I (((i + 1) : Nat) : Int))], ?_, ⟨rfl, rfl, rfl, rfl, rfl, rfl, rfl, trivial⟩, (i + 1), ww9, rfl, rfl, (by rw [fromL_take (by omega)] <;> rfl), (by omega)⟩
    omega
  · refine VC.exit ?_
    show VC _ _ _ _ _ _ _ _
    refine VC.seq ?_
    refine VC.seq ?_
    refine VC.text ?_
    refine VO.r (.ld vt47) ?_
    refine VO.r (.len el47) ?_
    refine VO.c (.move rfl) ?_
    refine VO.go ?_
    refine VC.block ?_
    refine VC.keep [(3, .p y43 l), (4, .p y47 sn), (5, .p y29 s), (7, .raw w0), (30, .v y47 sn), (31, I ((sn.length : Nat) : Int)), (32, I ((0 : Nat) : Int))] ⟨rfl, rfl, rfl, rfl, rfl, rfl, rfl, trivial⟩ ?_
    refine VC.loop (I := fun kk ff ss => ∃ (j : Nat) (w1 : Value), kk = sn.length - j ∧ ff = [(3, .p y43 l), (4, .p y47 sn), (5, .p y29 s), (7, .raw w1), (30, .v y47 sn), (31, I ((sn.length : Nat) : Int)), (32, I ((j : Nat) : Int))] ∧ ss = [(w1, .row 3 (.int .i64) ((s.1 :: fromL l) ++ limL (sn.take j)))] ∧ (j ≤ sn.length)) ?_ _ _ _ ⟨0, w0, rfl, rfl, (by rw [show i = l.length by omega, List.take_length, show limL (sn.take 0) = [] from rfl, List.append_nil]), Nat.zero_le _⟩
    rintro kk ff ss ⟨j, w1, hk2, rfl, rfl, hj⟩
    refine VC.seq ?_
    refine VC.text ?_
    refine VO.c (.lss) ?_
    refine VO.go ?_
    refine VC.seq ?_
    refine VC.condD rfl (fun c8 => ?_) (fun c8 => ?_)
    · refine VC.skip ?_
      show VC _ _ _ _ _ _ _ _
      refine VC.seq ?_
      refine VC.block ?_
      refine VC.seq ?_
      refine VC.text ?_
      refine VO.c (.ix (j := j) rfl rfl el47 (by omega)) ?_
      refine VO.r (.ld vt94) ?_
      refine VO.cell (.alloc zt94) ?_
      intro ww10
      refine VO.setV (cs' := [I (((sn[j]).1).1), I (((sn[j]).1).2), I ((sn[j]).2)]) vt94 .v ?_
      refine VO.shut [(11, .p y94 (sn[j]))] (.cons rfl (.var m0 .refl) .nil) ?_
      refine VO.go ?_
      refine VC.seq ?_
      refine VC.text ?_
      refine VO.c (.fa (.l .o)) ?_
      refine VO.r (.ld vt29) ?_
      refine VO.call rfl rfl (VF.call (sEnds_ok )) ?_
      refine VO.cell (.alloc zt128) ?_
      intro ww11
      refine VO.setV (cs' := [I (((sn[j]).1).1), I (((sn[j]).1).2)]) vt128 .v ?_
      refine VO.shut [(12, .p y128 ((sn[j]).1))] (.cons rfl (.var m0 .refl) .nil) ?_
      refine VO.go ?_
      refine VC.text ?_
      refine VO.c (.move rfl) ?_
      refine VO.r (.arr2 3) ?_
      refine VO.app rfl rfl el39 el39 (by simp [fromL_len, limL_len]; omega) ?_
      intro ww12
      refine VO.c (.assign rfl) ?_
      refine VO.nil ?_
      show VC _ _ _ _ _ _ _ _
      refine VC.text ?_
      refine VO.c (.add rfl rfl (by omega)) ?_
      refine VO.c (.move rfl) ?_
      refine VO.nil ?_
      refine ⟨_, [(3, .p y43 l), (4, .p y47 sn), (5, .p y29 s), (7, .raw ww12), (30, .v y47 sn), (31, I ((sn.length : Nat) : Int)), (32, I (((j + 1) : Nat) : Int))], ?_, ⟨rfl, rfl, rfl, rfl, rfl, rfl, rfl, trivial⟩, (j + 1), ww12, rfl, rfl, (by rw [limL_take (by omega), List.append_assoc]), (by omega)⟩
      omega
    · refine VC.exit ?_
      show VC _ _ _ _ _ _ _ _
      refine VC.seq ?_
      refine VC.text ?_
      refine VO.c (.func) ?_
      refine VO.c (.assign rfl) ?_
      refine VO.go ?_
      refine VC.seq ?_
      refine VC.text ?_
      refine VO.c (.move rfl) ?_
      refine VO.c (.move rfl) ?_
      refine VO.callC rfl rfl .same (.cons (.row m0) (.cons .same .nil)) rfl (VF.call (zContainsFI_ok (F := fun t => hasT s t && overE l sn t) (by simp [fromL_len, limL_len]; omega) (fun _ _ => VF.clo (sOver_ok (by omega) (by omega))))) ?_
      refine VO.c (.assign rfl) ?_
      refine VO.go ?_
      refine VC.ret ?_
      exact VEnd.one rfl evT (pvE (by rw [List.take_of_length_le (by omega)] <;> rfl))
end Go.Proofs
namespace Go.Proofs
open Go.Fs
set_option linter.unusedVariables false
set_option maxHeartbeats 1000000

theorem shortPs_ok {l : List Permit} (h : shortPs l = true) : l.length ≤ 65 ∧ ∀ p ∈ l, p.2.2.2.1.length ≤ 9 := by
  unfold shortPs at h
  rw [Bool.and_eq_true] at h
  obtain ⟨h1, h2⟩ := h
  have h1 := of_decide_eq_true h1
  refine ⟨by omega, fun p hp => ?_⟩
  have h3 := List.all_eq_true.1 h2 p hp
  unfold shortP at h3
  simp only [Bool.and_eq_true, Bool.not_eq_true', Bool.or_eq_false_iff, decide_eq_false_iff_not] at h3
  omega
theorem awake_ok : VF Tryz.prog OA 16 [] (B true) := VF.oracle (fun _ => rfl) fun _ _ => ⟨rfl, rfl⟩
theorem firstE_all {l : List Int} : firstE l = 0 ↔ ∀ x ∈ l, x = 0 := by
  induction l with
  | nil => simp [firstE]
  | cons x l ih => by_cases h : x = 0 <;> simp [firstE, h, ih]
theorem perm_span {p : Permit} (h : permE p = 0) : spanE p.2.2.2.2 = 0 := by
  unfold permE at h
  rw [firstE_all] at h
  exact h _ (by simp)
end Go.Proofs
namespace Go.Proofs
open Go.Fs
set_option linter.unusedVariables false
set_option maxHeartbeats 1000000

theorem sIssue1_ok {o : ByteArray × ByteArray × ByteArray × (List ByteArray) × (Int × Int)} {p : ByteArray × ByteArray × ByteArray × (List ByteArray) × (Int × Int)} (ho : o.2.2.2.1.length < 1000000) (hp : p.2.2.2.1.length < 1000000) : VF Tryz.prog OA 155 [.v y35 o, .p y35 p] (I ((reasonR (reasonIx o p)).2.2)) := by
  refine VF.enter Tryz.func155 rfl (fun _ _ => rfl) rfl ?_
  show VC _ _ _ _ _ [(0, .v y35 o), (1, .p y35 p)] [] _
  refine VC.seq ?_
  refine VC.text ?_
  refine VO.new (.box) ?_
  refine VO.c (.assign rfl) ?_
  refine VO.go ?_
  refine VC.seq ?_
  refine VC.text ?_
  refine VO.r (.ld vt35) ?_
  refine VO.r (.ld vt35) ?_
  refine VO.call rfl rfl (VF.call (sExcl_ok (by first | assumption | omega | simp) (by first | assumption | omega | simp))) ?_
  refine VO.c (.fld (.r (.r .o))) ?_
  refine VO.c (.assign rfl) ?_
  refine VO.go ?_
  refine VC.ret ?_
  exact VEnd.one rfl evT (pvI (by rfl))
theorem issueE_w {l : List Permit} {ss : List Season} {p : Permit} (h : ¬ clashE l p ≠ 0) : whenE (crowdedE (l ++ [p]) ss p.2.2.2.2) 21 = issueE l ss p := by
  unfold issueE whenE
  rw [if_neg h]
  cases crowdedE (l ++ [p]) ss p.2.2.2.2 <;> rfl
theorem sIssue_ok {l : List (ByteArray × ByteArray × ByteArray × (List ByteArray) × (Int × Int))} {sn : List ((Int × Int) × Int)} {p : ByteArray × ByteArray × ByteArray × (List ByteArray) × (Int × Int)} (hl : l.length < 5000) (hs : sn.length < 5000) (hk : PermOk l) (hq : p.2.2.2.1.length < 1000000) : VF Tryz.prog OA 102 [.v y43 l, .v y47 sn, .v y35 p] (I (issueE l sn p)) := by
  refine VF.enter Tryz.func102 rfl (fun _ _ => rfl) rfl ?_
  show VC _ _ _ _ _ [(0, .v y43 l), (1, .v y47 sn), (2, .v y35 p)] [] _
  refine VC.seq ?_
  refine VC.text ?_
  refine VO.new (.box) ?_
  refine VO.c (.assign rfl) ?_
  refine VO.go ?_
  refine VC.seq ?_
  refine VC.text ?_
  refine VO.c (.func) ?_
  refine VO.c (.assign rfl) ?_
  refine VO.go ?_
  refine VC.seq ?_
  refine VC.seq ?_
  refine VC.text ?_
  refine VO.c (.move rfl) ?_
  refine VO.c (.move rfl) ?_
  refine VO.call rfl rfl (VF.call (sWorstP_ok (F := fun o => (reasonR (reasonIx o p)).2.2) (by omega) (fun o ho => VF.clo (sIssue1_ok (hk o ho) hq)))) ?_
  refine VO.c (.assign rfl) ?_
  refine VO.go ?_
  refine VC.seq ?_
  refine VC.text ?_
  refine VO.c (.move rfl) ?_
  refine VO.c (.neq) ?_
  refine VO.go ?_
  refine VC.condD rfl (fun c3 => ?_) (fun c3 => ?_)
  · refine VC.seq ?_
    refine VC.text ?_
    refine VO.c (.move rfl) ?_
    refine VO.c (.assign rfl) ?_
    refine VO.go ?_
    refine VC.ret ?_
    exact VEnd.one rfl evT (pvI (by exact (if_pos (show clashE l p ≠ 0 from c3)).symm))
  · refine VC.skip ?_
    show VC _ _ _ _ _ _ _ _
    refine VC.seq ?_
    refine VC.text ?_
    refine VO.c (.move rfl) ?_
    refine VO.r (.len el43) ?_
    refine VO.c (.move rfl) ?_
    refine VO.r (.len el43) ?_
    refine VO.c (.add rfl rfl (by omega)) ?_
    refine VO.cell (.makeC (k := l.length) (r := l.length + 1) rfl (congrArg (fun z : Int => some (PV.v (.int .i64) z)) (show (((l.length : Nat) : Int) + (1 : Int)) = ((l.length + 1 : Nat) : Int) by omega)) el43 zt35 (by omega) (by omega)) ?_
    intro ww1
    refine VO.c (.assign rfl) ?_
    refine VO.go ?_
    refine VC.seq ?_
    refine VC.text ?_
    refine VO.c (.move rfl) ?_
    refine VO.c (.move rfl) ?_
    refine VO.copyC rfl rfl el43 (by simp) ?_
    refine VO.go ?_
    refine VC.seq ?_
    refine VC.late [] ⟨[(ww1, .cap 35 (l.length + 1) y35 l)], rfl⟩ ?_
    refine VLt.c (.move rfl) ?_
    refine VLt.q rfl (.ld vt35) ?_
    refine VLt.new (.lit [p] el43) ?_
    refine VLt.mk (MakeV.appC el43 el43 rfl rfl (by simp) (by omega)) (TurnV.appC rfl) ⟨[], rfl⟩ ?_
    rintro _ _ ⟨ww2, rfl, rfl⟩
    refine ⟨⟨[(ww2, .cap 35 (l.length + 1) y35 (l ++ [p]))], rfl⟩, ?_⟩
    refine VLt.c (.move rfl) ?_
    refine VLt.c (.fa (.r (.r (.r (.r .o))))) ?_
    refine VLt.nws [29, 28] ?_
    refine VLt.q rfl (.ld vt29) ?_
    refine VLt.callC rfl rfl .same (.cons (.cap m0) (.cons .same (.cons .same .nil))) rfl (VF.call (sCrowded_ok (by simp; omega) (by omega))) ?_
    refine VLt.callO rfl rfl (VF.call (sWhen_ok )) ?_
    refine VLt.c (.assign rfl) ?_
    refine VLt.go ?_
    refine VC.ret ?_
    exact VEnd.one rfl evT (pvI (by exact issueE_w c3))
theorem sCheckIssue_ok {l : List (ByteArray × ByteArray × ByteArray × (List ByteArray) × (Int × Int))} {sn : List ((Int × Int) × Int)} {p : ByteArray × ByteArray × ByteArray × (List ByteArray) × (Int × Int)} (hl : l.length < 5000) (hs : sn.length < 5000) (hk : PermOk l) (hq : p.2.2.2.1.length < 1000000) : VF Tryz.prog OA 101 [.v y43 l, .v y47 sn, .v y35 p] (I (firstE [permsE l, seasE sn, permE p, whenE (decide ((l.length : Int) = 64)) 5])) := by
  refine VF.enter Tryz.func101 rfl (fun _ _ => rfl) rfl ?_
  show VC _ _ _ _ _ [(0, .v y43 l), (1, .v y47 sn), (2, .v y35 p)] [] _
  refine VC.seq ?_
  refine VC.text ?_
  refine VO.new (.box) ?_
  refine VO.c (.assign rfl) ?_
  refine VO.go ?_
  refine VC.seq ?_
  refine VC.drawn ?_
  refine VD.c (.move rfl) ?_
  refine VD.call rfl rfl (VF.call (sPermits_ok (by first | assumption | omega | simp) (by first | assumption | omega | simp))) ?_
  refine VD.c (.move rfl) ?_
  refine VD.call rfl rfl (VF.call (sSeas_ok (by first | assumption | omega | simp))) ?_
  refine VD.r [] (.ld vt35) (.inl rfl) ?_
  refine VD.call rfl rfl (VF.call (sPermit_ok (by first | assumption | omega | simp))) ?_
  refine VD.nw [] ?_
  refine VD.c (.move rfl) ?_
  refine VD.r [] (.len el43) (.inl rfl) ?_
  refine VD.c (.eql) ?_
  refine VD.call rfl rfl (VF.call (sWhen_ok )) ?_
  refine VD.new (.lit [permsE l, seasE sn, permE p, whenE (decide (((l.length : Nat) : Int) = (64 : Int))) (5 : Int)] el204) ?_
  refine VD.callO rfl rfl (VF.call (sFirst_ok (by first | assumption | omega | simp))) ?_
  refine VD.c (.assign rfl) ?_
  refine VD.go ?_
  refine VC.ret ?_
  exact VEnd.one rfl evT (pvI (by rfl))
def sIssueE (l : List Permit) (ss : List Season) (p : Permit) : Int := if firstE [permsE l, seasE ss, permE p, whenE (decide ((l.length : Int) = 64)) 5] ≠ 0 then firstE [permsE l, seasE ss, permE p, whenE (decide ((l.length : Int) = 64)) 5] else issueE l ss p
theorem sIssueT_ok {l : List (ByteArray × ByteArray × ByteArray × (List ByteArray) × (Int × Int))} {sn : List ((Int × Int) × Int)} {p : ByteArray × ByteArray × ByteArray × (List ByteArray) × (Int × Int)} (hl : l.length < 5000) (hs : sn.length < 5000) (hk : PermOk l) (hq : p.2.2.2.1.length < 1000000) : VF Tryz.prog OA 32 [.v y43 l, .v y47 sn, .v y35 p] (I (sIssueE l sn p)) := by
  refine VF.enter Tryz.func32 rfl (fun _ _ => rfl) rfl ?_
  show VC _ _ _ _ _ [(0, .v y43 l), (1, .v y47 sn), (2, .v y35 p)] [] _
  refine VC.seq ?_
  refine VC.text ?_
  refine VO.new (.box) ?_
  refine VO.c (.assign rfl) ?_
  refine VO.go ?_
  refine VC.seq ?_
  refine VC.seq ?_
  refine VC.text ?_
  refine VO.c (.move rfl) ?_
  refine VO.c (.move rfl) ?_
  refine VO.r (.ld vt35) ?_
  refine VO.call rfl rfl (VF.call (sCheckIssue_ok (by first | assumption | omega | simp) (by first | assumption | omega | simp) (by first | assumption | omega | simp) (by first | assumption | omega | simp))) ?_
  refine VO.c (.assign rfl) ?_
  refine VO.go ?_
  refine VC.seq ?_
  refine VC.text ?_
  refine VO.c (.move rfl) ?_
  refine VO.c (.neq) ?_
  refine VO.go ?_
  refine VC.condD rfl (fun c2 => ?_) (fun c2 => ?_)
  · refine VC.seq ?_
    refine VC.text ?_
    refine VO.c (.move rfl) ?_
    refine VO.c (.assign rfl) ?_
    refine VO.go ?_
    refine VC.ret ?_
    exact VEnd.one rfl evT (pvI (by exact (if_pos c2).symm))
  · refine VC.skip ?_
    show VC _ _ _ _ _ _ _ _
    refine VC.seq ?_
    refine VC.text ?_
    refine VO.c (.move rfl) ?_
    refine VO.c (.move rfl) ?_
    refine VO.r (.ld vt35) ?_
    refine VO.call rfl rfl (VF.call (sIssue_ok (by first | assumption | omega | simp) (by first | assumption | omega | simp) (by first | assumption | omega | simp) (by first | assumption | omega | simp))) ?_
    refine VO.c (.assign rfl) ?_
    refine VO.go ?_
    refine VC.ret ?_
    exact VEnd.one rfl evT (pvI (by exact (if_neg c2).symm))
def validsE (l : List Permit) (ss : List Season) (i : Nat) : Int := firstE ((List.range i).map fun k => issueE (l.take k) ss (l.getD k (ByteArray.empty, ByteArray.empty, ByteArray.empty, [], 0, 0)))
def sValidE (l : List Permit) (ss : List Season) : Int := if firstE [permsE l, seasE ss] ≠ 0 then firstE [permsE l, seasE ss] else validsE l ss l.length
theorem validsE_succ {l : List Permit} {ss : List Season} {i : Nat} (h : i < l.length) (h0 : validsE l ss i = 0) : validsE l ss (i + 1) = issueE (l.take i) ss l[i] := by
  unfold validsE at h0 ⊢
  rw [List.range_succ, List.map_append, firstE_app, if_pos h0, List.map_cons, List.map_nil, firstE_one, getDg _ _ h]
theorem validsE_hit {l : List Permit} {ss : List Season} {i : Nat} (h : i < l.length) (h0 : validsE l ss i = 0) (hn : issueE (l.take i) ss l[i] ≠ 0) : ∀ k, i < k → k ≤ l.length → validsE l ss k = issueE (l.take i) ss l[i] := by
  intro k
  induction k with
  | zero => intro h1; omega
  | succ k ih =>
    intro h1 h2
    rcases Nat.lt_or_eq_of_le (Nat.le_of_lt_succ h1) with h3 | h3
    · have := ih h3 (by omega)
      unfold validsE at this ⊢
      rw [List.range_succ, List.map_append, firstE_app, this, if_neg hn]
    · subst h3
      exact validsE_succ h h0
theorem sValid_hit {l : List Permit} {ss : List Season} {i : Nat} (hz : firstE [permsE l, seasE ss] = 0) (h : i < l.length) (h0 : validsE l ss i = 0) (hn : issueE (l.take i) ss l[i] ≠ 0) : issueE (l.take i) ss l[i] = sValidE l ss := by
  unfold sValidE
  rw [if_neg (by rw [hz]; decide), validsE_hit h h0 hn _ h (Nat.le_refl _)]
theorem sValid_end {l : List Permit} {ss : List Season} {i : Nat} (hz : firstE [permsE l, seasE ss] = 0) (h : i = l.length) (h0 : validsE l ss i = 0) : 0 = sValidE l ss := by
  unfold sValidE
  rw [if_neg (by rw [hz]; decide), ← h, h0]
theorem permOk_take {l : List Permit} {i : Nat} (h : PermOk l) : PermOk (l.take i) := fun p hp => h p (List.mem_of_mem_take hp)
theorem sValidT_ok {l : List (ByteArray × ByteArray × ByteArray × (List ByteArray) × (Int × Int))} {sn : List ((Int × Int) × Int)} (hl : l.length < 5000) (hs : sn.length < 5000) (hk : PermOk l) : VF Tryz.prog OA 33 [.v y43 l, .v y47 sn] (I (sValidE l sn)) := by
  refine VF.enter Tryz.func33 rfl (fun _ _ => rfl) rfl ?_
  show VC _ _ _ _ _ [(0, .v y43 l), (1, .v y47 sn)] [] _
  refine VC.seq ?_
  refine VC.text ?_
  refine VO.c (.assign rfl) ?_
  refine VO.go ?_
  refine VC.seq ?_
  refine VC.seq ?_
  refine VC.text ?_
  refine VO.c (.move rfl) ?_
  refine VO.call rfl rfl (VF.call (sPermits_ok (by first | assumption | omega | simp) (by first | assumption | omega | simp))) ?_
  refine VO.c (.move rfl) ?_
  refine VO.call rfl rfl (VF.call (sSeas_ok (by first | assumption | omega | simp))) ?_
  refine VO.new (.lit [permsE l, seasE sn] el204) ?_
  refine VO.call rfl rfl (VF.call (sFirst_ok (by first | assumption | omega | simp))) ?_
  refine VO.c (.assign rfl) ?_
  refine VO.go ?_
  refine VC.seq ?_
  refine VC.text ?_
  refine VO.c (.move rfl) ?_
  refine VO.c (.neq) ?_
  refine VO.go ?_
  refine VC.condD rfl (fun c2 => ?_) (fun c2 => ?_)
  · refine VC.seq ?_
    refine VC.text ?_
    refine VO.c (.move rfl) ?_
    refine VO.c (.assign rfl) ?_
    refine VO.go ?_
    refine VC.ret ?_
    exact VEnd.one rfl evT (pvI (by exact (if_pos c2).symm))
  · have hz : firstE [permsE l, seasE sn] = 0 := by simpa using c2
    refine VC.skip ?_
    show VC _ _ _ _ _ _ _ _
    refine VC.seq ?_
    refine VC.seq ?_
    refine VC.text ?_
    refine VO.c (.move rfl) ?_
    refine VO.r (.len el43) ?_
    refine VO.c (.move rfl) ?_
    refine VO.go ?_
    refine VC.block ?_
    refine VC.keep [(0, .v y43 l), (1, .v y47 sn), (18, .v y43 l), (19, I ((l.length : Nat) : Int)), (20, I ((0 : Nat) : Int))] ⟨rfl, rfl, rfl, rfl, rfl, trivial⟩ ?_
    refine VC.loop (I := fun kk ff ss => ∃ (i : Nat), kk = l.length - i ∧ ff = [(0, .v y43 l), (1, .v y47 sn), (18, .v y43 l), (19, I ((l.length : Nat) : Int)), (20, I ((i : Nat) : Int))] ∧ ss = [] ∧ (i ≤ l.length) ∧ (validsE l sn i = 0)) ?_ _ _ _ ⟨0, rfl, rfl, rfl, Nat.zero_le _, (by rfl)⟩
    rintro kk ff ss ⟨i, hk0, rfl, rfl, hi, hv⟩
    refine VC.seq ?_
    refine VC.text ?_
    refine VO.c (.lss) ?_
    refine VO.go ?_
    refine VC.seq ?_
    refine VC.condD rfl (fun c5 => ?_) (fun c5 => ?_)
    · refine VC.skip ?_
      show VC _ _ _ _ _ _ _ _
      refine VC.seq ?_
      refine VC.block ?_
      refine VC.seq ?_
      refine VC.text ?_
      refine VO.c (.move rfl) ?_
      refine VO.c (.ix (j := i) rfl rfl el43 (by omega)) ?_
      refine VO.r (.ld vt35) ?_
      refine VO.cell (.alloc zt35) ?_
      intro ww3
      refine VO.c (.assign rfl) ?_
      refine VO.setV (cs' := [St ((l[i]).1), St ((l[i]).2.1), St ((l[i]).2.2.1), .v (.sl .str) ((l[i]).2.2.2.1), I (((l[i]).2.2.2.2).1), I (((l[i]).2.2.2.2).2)]) vt35 .v ?_
      refine VO.shut [(7, .p y35 (l[i]))] (.cons rfl (.var m0 .refl) .nil) ?_
      refine VO.go ?_
      refine VC.seq ?_
      refine VC.drawn ?_
      refine VD.c (.move rfl) ?_
      refine VD.c (.move rfl) ?_
      refine VD.r [] (.cutH rfl rfl el43 (by omega)) (.inl rfl) ?_
      refine VD.c (.move rfl) ?_
      refine VD.r [] (.ld vt35) (.inl rfl) ?_
      refine VD.call rfl rfl (VF.call (sIssue_ok (by simp; omega) (by omega) (permOk_take hk) (hk _ (List.getElem_mem _)))) ?_
      refine VD.nw [] ?_
      refine VD.c (.assign rfl) ?_
      refine VD.go ?_
      refine VC.seq ?_
      refine VC.text ?_
      refine VO.c (.move rfl) ?_
      refine VO.c (.neq) ?_
      refine VO.go ?_
      refine VC.condD rfl (fun c8 => ?_) (fun c8 => ?_)
      · refine VC.seq ?_
        refine VC.text ?_
        refine VO.c (.move rfl) ?_
        refine VO.c (.assign rfl) ?_
        refine VO.go ?_
        refine VC.ret ?_
        exact VEnd.one rfl evT (pvI (by exact sValid_hit hz (by omega) hv c8))
      · refine VC.skip ?_
        show VC _ _ _ _ _ _ _ _
        refine VC.text ?_
        refine VO.c (.add rfl rfl (by omega)) ?_
        refine VO.c (.move rfl) ?_
        refine VO.nil ?_
        refine ⟨_, [(0, .v y43 l), (1, .v y47 sn), (18, .v y43 l), (19, I ((l.length : Nat) : Int)), (20, I (((i + 1) : Nat) : Int))], ?_, ⟨rfl, rfl, rfl, rfl, rfl, trivial⟩, (i + 1), rfl, rfl, rfl, (by omega), (by rw [validsE_succ (by omega) hv]; simpa using c8)⟩
        omega
    · refine VC.exit ?_
      show VC _ _ _ _ _ _ _ _
      refine VC.seq ?_
      refine VC.text ?_
      refine VO.c (.assign rfl) ?_
      refine VO.go ?_
      refine VC.ret ?_
      exact VEnd.one rfl evT (pvI (by exact sValid_end hz (by omega) hv))
/-! ## The reference's Valid -/
theorem permsE_ok {l : List Permit} (h : permsE l = 0) : ¬ 64 < (l.length : Int) ∧ ∀ p ∈ l, permE p = 0 := by
  unfold permsE at h
  split at h
  · cases h
  · rename_i h1
    exact ⟨h1, fun p hp => firstE_all.1 h _ (List.mem_map.2 ⟨p, hp, rfl⟩)⟩
def rValidE (l : List Permit) (ss : List Season) (i : Nat) : Int := firstE ((List.range i).map fun k => issueR (l.take k) ss (l.getD k (ByteArray.empty, ByteArray.empty, ByteArray.empty, [], 0, 0)))
end Go.Proofs
namespace Go.Proofs
open Go.Fs
set_option linter.unusedVariables false
set_option maxHeartbeats 1000000

theorem three_zero {a b c : Int} (h : firstE [a, b, c] = 0) : a = 0 ∧ b = 0 ∧ c = 0 := by
  rw [firstE_all] at h
  exact ⟨h _ (by simp), h _ (by simp), h _ (by simp)⟩
end Go.Proofs
namespace Go.Proofs
open Go.Fs
set_option linter.unusedVariables false
set_option maxHeartbeats 1000000
theorem zt29 : ZerT Tryz.prog 29 y29 := zerT_of (z := .agg #[.int .i64 0, .int .i64 0]) (by kernel_rfl) rfl rfl
theorem bt29 : BldT Tryz.prog 29 y29 [(0, 1), (1, 1)] := bldT_of zt29 rfl (by kernel_rfl)
/-! ## The earliest tick -/
def lateP (p : Permit) (w : Nat) : Permit := (p.1, p.2.1, p.2.2.1, p.2.2.2.1, p.2.2.2.2.1 + (w : Int), p.2.2.2.2.2 + (w : Int))
def okW (l : List Permit) (ss : List Season) (p : Permit) (w : Nat) : Bool := decide (spanE (lateP p w).2.2.2.2 = 0) && decide (issueE l ss (lateP p w) = 0)
def firstW (F : Nat → Bool) : Nat → Nat → Option Nat
  | _, 0 => none
  | k, n + 1 => if F k = true then some k else firstW F (k + 1) n
theorem firstW_hit {F : Nat → Bool} {k n : Nat} (h : 0 < n) (hk : F k = true) : firstW F k n = some k := by
  obtain ⟨m, rfl⟩ : ∃ m, n = m + 1 := ⟨n - 1, by omega⟩
  rw [firstW, if_pos hk]
theorem firstW_go {F : Nat → Bool} {k n : Nat} (h : k < n) (hk : F k = false) : firstW F k (n - k) = firstW F (k + 1) (n - (k + 1)) := by
  obtain ⟨m, hm⟩ : ∃ m, n - k = m + 1 := ⟨n - k - 1, by omega⟩
  rw [hm, firstW, if_neg (by rw [hk]; decide), show n - (k + 1) = m by omega]
def earlO (o : Option Nat) (p : Permit) : Int × Int := match o with
  | some w => (p.2.2.2.2.1 + (w : Int), 0)
  | none => (0, 7)
def earlE (l : List Permit) (ss : List Season) (p : Permit) : Int × Int := earlO (firstW (okW l ss p) 0 1001) p
def four (l : List Permit) (ss : List Season) (p : Permit) : Int := firstE [permsE l, seasE ss, permE p, whenE (decide ((l.length : Int) = 64)) 5]
def sEarlE (l : List Permit) (ss : List Season) (p : Permit) : Int × Int := if four l ss p ≠ 0 then (0, four l ss p) else earlE l ss p
theorem sEarl_bad {l : List Permit} {ss : List Season} {p : Permit} (h : four l ss p ≠ 0) : sEarlE l ss p = (0, four l ss p) := if_pos h
theorem sEarl_hit {l : List Permit} {ss : List Season} {p : Permit} {k : Nat} (h : ¬ four l ss p ≠ 0) (hw : firstW (okW l ss p) 0 1001 = some k) : sEarlE l ss p = (p.2.2.2.2.1 + (k : Int), 0) := by
  unfold sEarlE earlE
  rw [if_neg h, hw] <;> rfl
theorem sEarl_none {l : List Permit} {ss : List Season} {p : Permit} (h : ¬ four l ss p ≠ 0) (hw : firstW (okW l ss p) 0 1001 = none) : sEarlE l ss p = (0, 7) := by
  unfold sEarlE earlE
  rw [if_neg h, hw] <;> rfl
theorem okW_no {l : List Permit} {ss : List Season} {p : Permit} {k : Nat} (h : ¬ spanE (lateP p k).2.2.2.2 = 0 ∨ ¬ issueE l ss (lateP p k) = 0) : okW l ss p k = false := by
  unfold okW
  rcases h with h | h
  · rw [decide_eq_false h] <;> rfl
  · rw [decide_eq_false h, Bool.and_false]
theorem okW_yes {l : List Permit} {ss : List Season} {p : Permit} {k : Nat} (h : spanE (lateP p k).2.2.2.2 = 0 ∧ issueE l ss (lateP p k) = 0) : okW l ss p k = true := by
  unfold okW
  rw [decide_eq_true h.1, decide_eq_true h.2] <;> rfl
theorem four_perm {l : List Permit} {ss : List Season} {p : Permit} (h : ¬ four l ss p ≠ 0) : permE p = 0 := by
  have h : four l ss p = 0 := by simpa using h
  unfold four at h
  rw [firstE_all] at h
  exact h _ (by simp)
theorem sEarliest_ok {l : List (ByteArray × ByteArray × ByteArray × (List ByteArray) × (Int × Int))} {sn : List ((Int × Int) × Int)} {p : ByteArray × ByteArray × ByteArray × (List ByteArray) × (Int × Int)} (hl : l.length < 5000) (hs : sn.length < 5000) (hk : PermOk l) (hq : p.2.2.2.1.length < 1000000) : VF Tryz.prog OA 34 [.v y43 l, .v y47 sn, .v y35 p] (.tup [I ((sEarlE l sn p).1), I ((sEarlE l sn p).2)]) := by
  refine VF.enter Tryz.func34 rfl (fun _ _ => rfl) rfl ?_
  show VC _ _ _ _ _ [(0, .v y43 l), (1, .v y47 sn), (2, .v y35 p)] [] _
  refine VC.seq ?_
  refine VC.text ?_
  refine VO.new (.box) ?_
  refine VO.c (.assign rfl) ?_
  refine VO.c (.assign rfl) ?_
  refine VO.go ?_
  refine VC.scope ?_
  refine VC.seq ?_
  refine VC.seq ?_
  refine VC.text ?_
  refine VO.c (.move rfl) ?_
  refine VO.c (.move rfl) ?_
  refine VO.r (.ld vt35) ?_
  refine VO.call rfl rfl (VF.call (sCheckIssue_ok (by first | assumption | omega | simp) (by first | assumption | omega | simp) (by first | assumption | omega | simp) (by first | assumption | omega | simp))) ?_
  refine VO.c (.assign rfl) ?_
  refine VO.go ?_
  refine VC.seq ?_
  refine VC.text ?_
  refine VO.c (.move rfl) ?_
  refine VO.c (.neq) ?_
  refine VO.go ?_
  refine VC.condD rfl (fun c2 => ?_) (fun c2 => ?_)
  · have hf : four l sn p ≠ 0 := c2
    refine VC.seq ?_
    refine VC.text ?_
    refine VO.c (.move rfl) ?_
    refine VO.c (.assign rfl) ?_
    refine VO.c (.assign rfl) ?_
    refine VO.go ?_
    refine VC.ret ?_
    exact VEnd.two rfl evT evT (pvI (by rw [sEarl_bad hf])) (pvI (by rw [sEarl_bad hf] <;> rfl))
  · have hf : ¬ four l sn p ≠ 0 := c2
    have hsp := spanE_ok (perm_span (four_perm hf))
    refine VC.skip ?_
    show VC _ _ _ _ _ _ _ _
    refine VC.seq ?_
    refine VC.text ?_
    refine VO.c (.assign rfl) ?_
    refine VO.c (.assign rfl) ?_
    refine VO.go ?_
    refine VC.seq ?_
    refine VC.label ?_
    show VC _ _ _ _ _ _ _ _
    refine VC.seq ?_
    refine VC.seq ?_
    refine VC.text ?_
    refine VO.c (.move rfl) ?_
    refine VO.go ?_
    refine VC.block ?_
    refine VC.keep [(0, .v y43 l), (1, .v y47 sn), (5, .p y35 p), (9, I 0), (10, B false), (20, I ((0 : Nat) : Int))] ⟨rfl, rfl, rfl, rfl, rfl, rfl, trivial⟩ ?_
    refine VC.loop (I := fun kk ff ss => ∃ (k : Nat), kk = 1001 - k ∧ ff = [(0, .v y43 l), (1, .v y47 sn), (5, .p y35 p), (9, I 0), (10, B false), (20, I ((k : Nat) : Int))] ∧ ss = [] ∧ (k ≤ 1001) ∧ (firstW (okW l sn p) 0 1001 = firstW (okW l sn p) k (1001 - k))) ?_ _ _ _ ⟨0, rfl, rfl, rfl, Nat.zero_le _, (by rfl)⟩
    rintro kk ff ss ⟨k, hk0, rfl, rfl, hk9, hw⟩
    refine VC.seq ?_
    refine VC.text ?_
    refine VO.c (.lss) ?_
    refine VO.go ?_
    refine VC.seq ?_
    refine VC.condD rfl (fun c6 => ?_) (fun c6 => ?_)
    · refine VC.skip ?_
      show VC _ _ _ _ _ _ _ _
      refine VC.seq ?_
      refine VC.block ?_
      refine VC.seq ?_
      refine VC.text ?_
      refine VO.c (.move rfl) ?_
      refine VO.c (.assign rfl) ?_
      refine VO.go ?_
      refine VC.seq ?_
      refine VC.text ?_
      refine VO.r (.ld vt35) ?_
      refine VO.cell (.alloc zt35) ?_
      intro ww1
      refine VO.setV (cs' := [St p.1, St p.2.1, St p.2.2.1, .v (.sl .str) p.2.2.2.1, I p.2.2.2.2.1, I p.2.2.2.2.2]) vt35 .v ?_
      refine VO.go ?_
      refine VC.seq ?_
      refine VC.text ?_
      refine VO.c (.fa (.r (.r (.r (.r .o))))) ?_
      refine VO.c (.fa (.l .o)) ?_
      refine VO.r (.ld vt3) ?_
      refine VO.c (.move rfl) ?_
      refine VO.c (.add rfl rfl (by omega)) ?_
      refine VO.c (.fa (.r (.r (.r (.r .o))))) ?_
      refine VO.c (.fa (.r .o)) ?_
      refine VO.r (.ld vt3) ?_
      refine VO.c (.move rfl) ?_
      refine VO.c (.add rfl rfl (by omega)) ?_
      refine VO.c (.build ((p.2.2.2.2.1 + ((k : Nat) : Int)), (p.2.2.2.2.2 + ((k : Nat) : Int))) bt29) ?_
      refine VO.c (.faO (k := 4) m0) ?_
      refine VO.setF (cs' := [St p.1, St p.2.1, St p.2.2.1, .v (.sl .str) p.2.2.2.1, I (p.2.2.2.2.1 + ((k : Nat) : Int)), I (p.2.2.2.2.2 + ((k : Nat) : Int))]) 4 vt29 .v ?_
      refine VO.go ?_
      refine VC.seq ?_
      refine VC.shutL [(ww1, .var [St p.1, St p.2.1, St p.2.2.1, .v (.sl .str) p.2.2.2.1, I (p.2.2.2.2.1 + ((k : Nat) : Int)), I (p.2.2.2.2.2 + ((k : Nat) : Int))])] [(12, .p y35 (lateP p k))] rfl (.cons rfl (.var m0 .refl) .nil) ?_
      refine VC.text ?_
      refine VO.c (.fa (.r (.r (.r (.r .o))))) ?_
      refine VO.r (.ld vt29) ?_
      refine VO.call rfl rfl (VF.call (sSpan_ok )) ?_
      refine VO.c (.eql) ?_
      refine VO.c (.move rfl) ?_
      refine VO.cg (r := decide (spanE ((lateP p k).2.2.2.2) = (0 : Int))) (w := true) [] trivial (fun hgd => have g10_4 : spanE ((lateP p k).2.2.2.2) = (0 : Int) := (by simpa using hgd); (.move rfl)) ?_
      refine VO.cg (r := decide (spanE ((lateP p k).2.2.2.2) = (0 : Int))) (w := true) [] trivial (fun hgd => have g10_4 : spanE ((lateP p k).2.2.2.2) = (0 : Int) := (by simpa using hgd); (.move rfl)) ?_
      refine VO.rg (r := decide (spanE ((lateP p k).2.2.2.2) = (0 : Int))) (w := true) [] trivial (fun hgd => have g10_4 : spanE ((lateP p k).2.2.2.2) = (0 : Int) := (by simpa using hgd); (.ld vt35)) ?_
      refine VO.callg (r0 := decide (spanE ((lateP p k).2.2.2.2) = (0 : Int))) (w := true) [(41, .v y43 l), (42, .v y47 sn), (43, .v y35 (lateP p k))] ⟨rfl, rfl, rfl, trivial⟩ rfl rfl .same .refl rfl (fun hgd => have g10_4 : spanE ((lateP p k).2.2.2.2) = (0 : Int) := (by simpa using hgd); VF.call (sIssue_ok (by first | assumption | omega | simp) (by first | assumption | omega | simp) (by first | assumption | omega | simp) (by first | assumption | omega | simp))) ?_
      refine VO.cg (r := decide (spanE ((lateP p k).2.2.2.2) = (0 : Int))) (w := true) [(44, I (issueE l sn (lateP p k)))] ⟨rfl, trivial⟩ (fun hgd => have g10_4 : spanE ((lateP p k).2.2.2.2) = (0 : Int) := (by simpa using hgd); (.eql)) ?_
      refine VO.c (.and) ?_
      refine VO.go ?_
      refine VC.condB rfl (fun c10 => ?_) (fun c10 => ?_)
      · try simp only [Bool.and_eq_true, Bool.or_eq_true, Bool.and_eq_false_iff, Bool.or_eq_false_iff, Bool.not_eq_true', Bool.not_eq_false', decide_eq_true_eq, decide_eq_false_iff_not] at c10
        have hh : firstW (okW l sn p) 0 1001 = some k := by rw [hw]; exact firstW_hit (by omega) (okW_yes c10)
        refine VC.seq ?_
        refine VC.text ?_
        refine VO.c (.fa (.r (.r (.r (.r .o))))) ?_
        refine VO.c (.fa (.l .o)) ?_
        refine VO.r (.ld vt3) ?_
        refine VO.c (.assign rfl) ?_
        refine VO.c (.assign rfl) ?_
        refine VO.go ?_
        refine VC.exit ?_
        show VC _ _ _ _ _ _ _ _
        refine VC.seq ?_
        refine VC.text ?_
        refine VO.c (.move rfl) ?_
        refine VO.c (.move rfl) ?_
        refine VO.c (.not) ?_
        refine VO.call rfl rfl (VF.call (sWhen_ok )) ?_
        refine VO.c (.assign rfl) ?_
        refine VO.c (.assign rfl) ?_
        refine VO.go ?_
        refine VC.ret ?_
        exact VEnd.two rfl evT evT (pvI (by first | exact (congrArg Prod.fst (sEarl_none hf hn)).symm | exact (congrArg Prod.fst (sEarl_hit hf hh)).symm)) (pvI (by first | exact (congrArg Prod.snd (sEarl_none hf hn)).symm | exact (congrArg Prod.snd (sEarl_hit hf hh)).symm))
      · try simp only [Bool.and_eq_true, Bool.or_eq_true, Bool.and_eq_false_iff, Bool.or_eq_false_iff, Bool.not_eq_true', Bool.not_eq_false', decide_eq_true_eq, decide_eq_false_iff_not] at c10
        refine VC.skip ?_
        show VC _ _ _ _ _ _ _ _
        refine VC.text ?_
        refine VO.c (.add rfl rfl (by omega)) ?_
        refine VO.c (.move rfl) ?_
        refine VO.nil ?_
        refine ⟨_, [(0, .v y43 l), (1, .v y47 sn), (5, .p y35 p), (9, I 0), (10, B false), (20, I (((k + 1) : Nat) : Int))], ?_, ⟨rfl, rfl, rfl, slI rfl (by first | rfl | simp | omega), slE rfl (by first | rfl | simp | omega), rfl, trivial⟩, (k + 1), rfl, rfl, rfl, (by omega), (by rw [hw]; exact firstW_go (by omega) (okW_no c10))⟩
        omega
    · have hn : firstW (okW l sn p) 0 1001 = none := by rw [hw, show 1001 - k = 0 by omega] <;> rfl
      refine VC.exit ?_
      show VC _ _ _ _ _ _ _ _
      refine VC.seq ?_
      refine VC.text ?_
      refine VO.c (.move rfl) ?_
      refine VO.c (.move rfl) ?_
      refine VO.c (.not) ?_
      refine VO.call rfl rfl (VF.call (sWhen_ok )) ?_
      refine VO.c (.assign rfl) ?_
      refine VO.c (.assign rfl) ?_
      refine VO.go ?_
      refine VC.ret ?_
      exact VEnd.two rfl evT evT (pvI (by first | exact (congrArg Prod.fst (sEarl_none hf hn)).symm | exact (congrArg Prod.fst (sEarl_hit hf hh)).symm)) (pvI (by first | exact (congrArg Prod.snd (sEarl_none hf hn)).symm | exact (congrArg Prod.snd (sEarl_hit hf hh)).symm))
/-! ## The reference's -/
theorem late_span {p : Permit} {k : Nat} (h : 0 ≤ p.2.2.2.2.1 ∧ p.2.2.2.2.1 < p.2.2.2.2.2) (h2 : p.2.2.2.2.2 + (k : Int) ≤ 100000) : spanE (lateP p k).2.2.2.2 = 0 := by
  unfold spanE lateP
  simp only
  rw [if_neg (by omega)]
def rEarlE (l : List Permit) (ss : List Season) (p : Permit) : Int × Int := if 64 ≤ (l.length : Int) then (0, 5) else earlE l ss p
end Go.Proofs
namespace Go.Proofs
open Go.Fs
set_option linter.unusedVariables false
set_option maxHeartbeats 1000000

end Go.Proofs
namespace Go.Proofs
open Go.Fs
/-! ## The first one -/
theorem firstW_some {F : Nat → Bool} : ∀ {n k w : Nat}, firstW F k n = some w → k ≤ w ∧ w < k + n ∧ F w = true ∧ ∀ j, k ≤ j → j < w → F j = false
  | 0, _, _, h => by cases h
  | n + 1, k, w, h => by
    unfold firstW at h
    by_cases hk : F k = true
    · rw [if_pos hk] at h
      obtain rfl := Option.some.inj h
      exact ⟨Nat.le_refl _, by omega, hk, fun j h1 h2 => by omega⟩
    · rw [if_neg hk] at h
      obtain ⟨h1, h2, h3, h4⟩ := firstW_some h
      refine ⟨by omega, by omega, h3, fun j h5 h6 => ?_⟩
      by_cases hj : j = k
      · subst hj; simpa using hk
      · exact h4 j (by omega) h6
theorem firstW_no {F : Nat → Bool} : ∀ {n k : Nat}, firstW F k n = none → ∀ j, k ≤ j → j < k + n → F j = false
  | 0, _, _, _, _, _ => by omega
  | n + 1, k, h, j, h1, h2 => by
    unfold firstW at h
    by_cases hk : F k = true
    · rw [if_pos hk] at h; cases h
    · rw [if_neg hk] at h
      by_cases hj : j = k
      · subst hj; simpa using hk
      · exact firstW_no h j (by omega) (by omega)
theorem firstW_le {F G : Nat → Bool} (hFG : ∀ j, F j = true → G j = true) {n k w : Nat} (h : firstW F k n = some w) : ∃ v, firstW G k n = some v ∧ v ≤ w := by
  obtain ⟨h1, h2, h3, h4⟩ := firstW_some h
  cases hg : firstW G k n with
  | none => have := firstW_no hg w h1 h2; rw [hFG w h3] at this; cases this
  | some v =>
    refine ⟨v, rfl, ?_⟩
    obtain ⟨g1, g2, g3, g4⟩ := firstW_some hg
    by_cases hv : v ≤ w
    · exact hv
    · have := g4 w h1 (by omega)
      rw [hFG w h3] at this; cases this
/-! ## Fewer others, more gates -/
theorem issue_zero {l : List Permit} {ss : List Season} {q : Permit} : issueE l ss q = 0 ↔ clashE l q = 0 ∧ ¬ overIn (l ++ [q]) ss q.2.2.2.2 := by
  unfold issueE
  by_cases h : clashE l q ≠ 0
  · rw [if_pos h]
    exact ⟨fun h2 => absurd h2 h, fun h2 => h2.1⟩
  · rw [if_neg h]
    have h : clashE l q = 0 := by simpa using h
    by_cases hc : crowdedE (l ++ [q]) ss q.2.2.2.2 = true
    · rw [if_pos hc]
      exact ⟨fun h2 => absurd h2 (by decide), fun h2 => absurd (crowded_iff.1 hc) h2.2⟩
    · rw [if_neg hc]
      exact ⟨fun _ => ⟨h, fun h2 => hc (crowded_iff.2 h2)⟩, fun _ => rfl⟩
theorem clash_sub {l m : List Permit} {q : Permit} (hs : ∀ o ∈ m, o ∈ l) (h : clashE l q = 0) : clashE m q = 0 := by
  unfold clashE at h ⊢
  rw [firstE_all] at h ⊢
  intro x hx
  obtain ⟨o, ho, rfl⟩ := List.mem_map.1 hx
  exact h _ (List.mem_map.2 ⟨o, hs o ho, rfl⟩)
theorem out_sub {l m : List Permit} {t : Int} (hs : ∀ o ∈ m, o ∈ l) : (outE m t).length ≤ (outE l t).length := by
  refine asc_len (setE_asc _) fun x hx => ?_
  rw [outE, mem_setE] at hx ⊢
  obtain ⟨p, hp, he⟩ := List.mem_map.1 hx
  obtain ⟨h1, h2⟩ := List.mem_filter.1 hp
  exact List.mem_map.2 ⟨p, List.mem_filter.2 ⟨hs p h1, h2⟩, he⟩
theorem issue_fewer {l m : List Permit} {ss : List Season} {q : Permit} (hs : ∀ o ∈ m, o ∈ l) (h : issueE l ss q = 0) : issueE m ss q = 0 := by
  rw [issue_zero] at h ⊢
  refine ⟨clash_sub hs h.1, fun ⟨t, h1, h2, h3⟩ => h.2 ⟨t, h1, h2, ?_⟩⟩
  unfold overE at h3 ⊢
  have h3 := of_decide_eq_true h3
  have h4 := out_sub (l := l ++ [q]) (m := m ++ [q]) (t := t) fun o ho => by
    rcases List.mem_append.1 ho with ho | ho
    · exact List.mem_append_left _ (hs o ho)
    · exact List.mem_append_right _ ho
  exact decide_eq_true (by omega)
def moreE (ss : List Season) : List Season := ss.map fun x => (x.1, 16)
theorem permitted_more {t : Int} : ∀ {ss : List Season}, (∀ x ∈ ss, x.2 ≤ 16) → permittedE ss t ≤ permittedE (moreE ss) t
  | [], _ => Int.le_refl _
  | x :: r, h => by
    show permittedE (x :: r) t ≤ permittedE ((x.1, 16) :: moreE r) t
    unfold permittedE
    by_cases hx : hasT x.1 t = true
    · rw [if_pos hx, if_pos hx]; exact h x List.mem_cons_self
    · rw [if_neg hx, if_neg hx]; exact permitted_more fun y hy => h y (List.mem_cons_of_mem _ hy)
theorem issue_more {l : List Permit} {ss : List Season} {q : Permit} (hs : ∀ x ∈ ss, x.2 ≤ 16) (h : issueE l ss q = 0) : issueE l (moreE ss) q = 0 := by
  rw [issue_zero] at h ⊢
  refine ⟨h.1, fun ⟨t, h1, h2, h3⟩ => h.2 ⟨t, h1, h2, ?_⟩⟩
  unfold overE at h3 ⊢
  have h3 := of_decide_eq_true h3
  have h4 := permitted_more (t := t) hs
  exact decide_eq_true (by omega)
theorem okW_fewer {l m : List Permit} {ss : List Season} {p : Permit} (hs : ∀ o ∈ m, o ∈ l) (j : Nat) (h : okW l ss p j = true) : okW m ss p j = true := by
  unfold okW at h ⊢
  rw [Bool.and_eq_true] at h ⊢
  exact ⟨h.1, decide_eq_true (issue_fewer hs (of_decide_eq_true h.2))⟩
theorem okW_more {l : List Permit} {ss : List Season} {p : Permit} (hs : ∀ x ∈ ss, x.2 ≤ 16) (j : Nat) (h : okW l ss p j = true) : okW l (moreE ss) p j = true := by
  unfold okW at h ⊢
  rw [Bool.and_eq_true] at h ⊢
  exact ⟨h.1, decide_eq_true (issue_more hs (of_decide_eq_true h.2))⟩
/-! ## Seasons that permit more -/
theorem ssE_more : ∀ {ss : List Season} {e : Int}, ssE e ss = 0 → ssE e (moreE ss) = 0 ∧ ∀ x ∈ ss, x.2 ≤ 16
  | [], _, _ => ⟨rfl, fun _ h => by cases h⟩
  | x :: r, e, h => by
    have hx : seasonE e x = 0 ∧ ssE x.1.2 r = 0 := by
      unfold ssE wst at h
      by_cases h0 : seasonE e x = 0
      · refine ⟨h0, ?_⟩
        simpa [h0, ssE] using h
      · simp [h0] at h
    obtain ⟨h1, h2⟩ := hx
    obtain ⟨h3, h4⟩ := ssE_more h2
    have hs : spanE x.1 = 0 ∧ rangeE x.2 0 16 = 0 ∧ whenE (decide (x.1.1 < e)) 11 = 0 := by
      unfold seasonE at h1
      exact three_zero h1
    refine ⟨?_, fun y hy => ?_⟩
    · have h5 : seasonE e (x.1, 16) = 0 := by
        unfold seasonE
        rw [firstE_all]
        intro z hz
        simp only [List.mem_cons, List.not_mem_nil, or_false] at hz
        rcases hz with rfl | rfl | rfl
        · exact hs.1
        · decide
        · exact hs.2.2
      show ssE e ((x.1, 16) :: moreE r) = 0
      unfold ssE wst
      simpa [h5, ssE] using h3
    · rcases List.mem_cons.1 hy with rfl | hy
      · have := hs.2.1
        unfold rangeE at this
        split at this
        · cases this
        · omega
      · exact h4 y hy
theorem seas_more {ss : List Season} (h : seasE ss = 0) : seasE (moreE ss) = 0 ∧ ∀ x ∈ ss, x.2 ≤ 16 := by
  unfold seasE at h ⊢
  have hl : (moreE ss).length = ss.length := List.length_map ..
  rw [hl]
  by_cases h8 : 8 < (ss.length : Int)
  · rw [if_pos h8] at h; cases h
  · rw [if_neg h8] at h ⊢
    exact ssE_more h
/-! ## What stays valid -/
theorem four_zero {l : List Permit} {ss : List Season} {p : Permit} (h1 : permsE l = 0) (h2 : seasE ss = 0) (h3 : permE p = 0) (h4 : l.length < 64) : four l ss p = 0 := by
  unfold four
  rw [firstE_all]
  intro x hx
  simp only [List.mem_cons, List.not_mem_nil, or_false] at hx
  rcases hx with rfl | rfl | rfl | rfl
  · exact h1
  · exact h2
  · exact h3
  · rw [decide_eq_false (by omega)]; rfl
theorem issueT_ok {l : List Permit} {ss : List Season} {p : Permit} (h : four l ss p = 0) : sIssueE l ss p = issueE l ss p := if_neg (by rw [show firstE _ = four l ss p from rfl, h]; decide)
theorem sEarl_ok {l : List Permit} {ss : List Season} {p : Permit} (h : four l ss p = 0) : sEarlE l ss p = earlE l ss p := if_neg (by rw [h]; decide)
theorem late_zero {p : Permit} : lateP p 0 = p := by
  unfold lateP
  simp
theorem perm_late {p : Permit} {j : Nat} (h : permE p = 0) (hs : spanE (lateP p j).2.2.2.2 = 0) : permE (lateP p j) = 0 := by
  unfold permE at h ⊢
  rw [firstE_all] at h ⊢
  intro x hx
  simp only [List.mem_cons, List.not_mem_nil, or_false] at hx
  rcases hx with rfl | rfl | rfl | rfl | rfl | rfl
  · exact h _ List.mem_cons_self
  · exact h _ (List.mem_cons_of_mem _ List.mem_cons_self)
  · exact h _ (List.mem_cons_of_mem _ (List.mem_cons_of_mem _ List.mem_cons_self))
  · exact h _ (List.mem_cons_of_mem _ (List.mem_cons_of_mem _ (List.mem_cons_of_mem _ List.mem_cons_self)))
  · exact h _ (List.mem_cons_of_mem _ (List.mem_cons_of_mem _ (List.mem_cons_of_mem _ (List.mem_cons_of_mem _ List.mem_cons_self))))
  · exact hs
theorem permsE_sub {l m : List Permit} (h : permsE l = 0) (hs : ∀ o ∈ m, permE o = 0) (hm : m.length ≤ 64) : permsE m = 0 := by
  unfold permsE
  rw [if_neg (by omega), firstE_all]
  intro x hx
  obtain ⟨o, ho, rfl⟩ := List.mem_map.1 hx
  exact hs o ho
theorem okW_parts {l : List Permit} {ss : List Season} {p : Permit} {w : Nat} (h : okW l ss p w = true) : spanE (lateP p w).2.2.2.2 = 0 ∧ issueE l ss (lateP p w) = 0 := by
  unfold okW at h
  rw [Bool.and_eq_true] at h
  exact ⟨of_decide_eq_true h.1, of_decide_eq_true h.2⟩
theorem earl_some {l : List Permit} {ss : List Season} {p : Permit} (h : (earlE l ss p).2 = 0) : ∃ w, firstW (okW l ss p) 0 1001 = some w := by
  unfold earlE at h
  cases hw : firstW (okW l ss p) 0 1001 with
  | none => rw [hw] at h; cases h
  | some w => exact ⟨w, rfl⟩
theorem earl_none {l : List Permit} {ss : List Season} {p : Permit} (h : (earlE l ss p).2 ≠ 0) : firstW (okW l ss p) 0 1001 = none := by
  cases hw : firstW (okW l ss p) 0 1001 with
  | none => rfl
  | some w => exact absurd (by unfold earlE; rw [hw]; rfl) h
theorem earl_at {l : List Permit} {ss : List Season} {p : Permit} {w : Nat} (hw : firstW (okW l ss p) 0 1001 = some w) : earlE l ss p = (p.2.2.2.2.1 + (w : Int), 0) := by
  unfold earlE
  rw [hw]; rfl
theorem none_issue {l : List Permit} {ss : List Season} {p : Permit} (hn : firstW (okW l ss p) 0 1001 = none) (vp : spanE p.2.2.2.2 = 0) : issueE l ss p ≠ 0 := fun h => by
  have h0 := firstW_no hn 0 (Nat.le_refl _) (by omega)
  unfold okW at h0
  rw [late_zero, decide_eq_true vp, decide_eq_true h] at h0
  cases h0
theorem wait_same {l : List Permit} {ss : List Season} {p : Permit} {w j : Nat} (hw : firstW (okW l ss p) 0 1001 = some w) (hj : j ≤ w) (hs : spanE (lateP p j).2.2.2.2 = 0) (h4 : four l ss (lateP p j) = 0) :
    decide (sIssueE l ss (lateP p j) = 0) = decide (p.2.2.2.2.1 + (j : Int) = p.2.2.2.2.1 + (w : Int)) := by
  obtain ⟨_, _, h1, h2⟩ := firstW_some hw
  rw [issueT_ok h4]
  by_cases he : j = w
  · subst he
    rw [decide_eq_true (okW_parts h1).2, decide_eq_true rfl]
  · have h3 := h2 j (Nat.zero_le _) (by omega)
    unfold okW at h3
    rw [decide_eq_true hs, Bool.true_and] at h3
    rw [h3, decide_eq_false (by omega)]
theorem valid_more {l : List Permit} {ss : List Season} {q : Permit} (hv : sValidE l ss = 0) (h0 : firstE [permsE l, seasE ss] = 0) (h1 : firstE [permsE (l ++ [q]), seasE ss] = 0) (hq : issueE l ss q = 0) : sValidE (l ++ [q]) ss = 0 := by
  unfold sValidE at hv ⊢
  rw [if_neg (by rw [h0]; decide)] at hv
  rw [if_neg (by rw [h1]; decide)]
  unfold validsE at hv ⊢
  rw [firstE_all] at hv ⊢
  intro x hx
  obtain ⟨k, hk, rfl⟩ := List.mem_map.1 hx
  have hk := List.mem_range.1 hk
  rw [List.length_append, List.length_singleton] at hk
  by_cases he : k = l.length
  · subst he
    rw [List.take_left' rfl, List.getD_eq_getElem?_getD, List.getElem?_append_right (Nat.le_refl _), Nat.sub_self]
    exact hq
  · have hk2 : k < l.length := by omega
    have := hv _ (List.mem_map.2 ⟨k, List.mem_range.2 hk2, rfl⟩)
    rw [List.take_append_of_le_length (by omega), List.getD_eq_getElem?_getD, List.getElem?_append_left hk2, ← List.getD_eq_getElem?_getD]
    exact this
def moreK (ss : List Season) (i : Nat) : List Season := moreE (ss.take i) ++ ss.drop i
theorem moreK_len {ss : List Season} {i : Nat} : (moreK ss i).length = ss.length := by
  unfold moreK moreE
  rw [List.length_append, List.length_map, List.length_take, List.length_drop]; omega
theorem moreK_at {ss : List Season} {i : Nat} (h : i < ss.length) : (moreK ss i)[i]'(by rw [moreK_len]; exact h) = ss[i] := by
  unfold moreK moreE
  rw [List.getElem_append_right (by rw [List.length_map, List.length_take]; omega), List.getElem_drop]
  congr 1
  rw [List.length_map, List.length_take]; omega
theorem moreK_set {ss : List Season} {i : Nat} (h : i < ss.length) : (moreK ss i).set i (ss[i].1, 16) = moreK ss (i + 1) := by
  unfold moreK moreE
  have e1 : ((ss.take i).map fun x : Season => (x.1, (16 : Int))).length = i := by rw [List.length_map, List.length_take]; omega
  rw [List.set_append_right _ _ (by omega), e1, Nat.sub_self, List.drop_eq_getElem_cons h, List.set_cons_zero, List.take_succ_eq_append_getElem h, List.map_append]
  simp
theorem moreK_end {ss : List Season} {i : Nat} (h : ss.length ≤ i) : moreK ss i = moreE ss := by
  unfold moreK
  rw [List.take_of_length_le h, List.drop_eq_nil_of_le h, List.append_nil]
end Go.Proofs
namespace Go.Fs
variable {P : Program} {σ : Sto} {fl : VL} {x y : Operand} {T T' : TypeId} {p q : Bool}
theorem equal_bool (hT : P.underlying T = some .bool) : runPure P (Op.equal T (.bool p) (.bool q)) = some (p == q) := by
  unfold Op.equal
  rw [show Op.maxDepth = 9999 + 1 from rfl, Op.equalIn]
  simp only [runPure_bind, runPure_underlying hT, Option.bind_some, runPure_pure]
theorem CalmV.bneq (hT : P.underlying T = some .bool := by kernel_rfl) (hx : evV fl x = some (.v .bool p) := by rfl) (hy : evV fl y = some (.v .bool q) := by rfl) : CalmV P fl σ (.binOp .neq T x y T') (.v .bool (p != q)) :=
  .bin hx hy fun h S a c ha hc => by
    obtain rfl := RepV.bool ha
    obtain rfl := RepV.bool hc
    refine ⟨.bool (p != q), RepV.ofBool _, rfl, ?_⟩
    have h1 : runPure P (Op.equal T (.bool p) (.bool q) >>= fun b => pure (Value.bool !b)) = some (.bool (p != q)) := by
      rw [runPure_bind, equal_bool hT]; rfl
    unfold purely
    show (runPure P (Op.equal T (.bool p) (.bool q) >>= fun b => pure (Value.bool !b))).bind _ = _
    rw [h1]; rfl
end Go.Fs
namespace Go.Proofs
open Go.Fs
set_option linter.unusedVariables false
set_option maxHeartbeats 4000000

theorem lPermitsO_ok {l : List (ByteArray × ByteArray × ByteArray × (List ByteArray) × (Int × Int))} (hl : l.length < 100000) (hp : PermOk l) : VFG Tryz.prog OA 24 [.v y22 l] [] (fun r g => ∃ w, r = .raw w ∧ g = [(w, .row 35 y35 l)]) := by
  refine VFG.enter Tryz.func24 rfl (fun _ _ => rfl) rfl ?_
  show VC _ _ _ _ _ [(0, .v y22 l)] [] _
  refine VC.seq ?_
  refine VC.text ?_
  refine VO.c (.assign rfl) ?_
  refine VO.go ?_
  refine VC.seq ?_
  refine VC.text ?_
  refine VO.c (.assign rfl) ?_
  refine VO.go ?_
  refine VC.seq ?_
  refine VC.seq ?_
  refine VC.text ?_
  refine VO.c (.move rfl) ?_
  refine VO.r (.len el22) ?_
  refine VO.c (.move rfl) ?_
  refine VO.go ?_
  refine VC.block ?_
  refine VC.cell0 35 y35 ?_
  refine VC.keep [(3, .raw (.slice none 0 0)), (6, .v y22 l), (7, I ((l.length : Nat) : Int)), (8, I ((0 : Nat) : Int))] ⟨rfl, rfl, rfl, rfl, trivial⟩ ?_
  refine VC.loop (I := fun kk ff ss => ∃ (j : Nat) (out : Value), kk = l.length - j ∧ ff = [(3, .raw out), (6, .v y22 l), (7, I ((l.length : Nat) : Int)), (8, I ((j : Nat) : Int))] ∧ ss = [(out, .row 35 y35 (l.take j))] ∧ (j ≤ l.length)) ?_ _ _ _ ⟨0, (.slice none 0 0), rfl, rfl, rfl, Nat.zero_le _⟩
  rintro kk ff ss ⟨j, out, hk0, rfl, rfl, hj⟩
  refine VC.seq ?_
  refine VC.text ?_
  refine VO.c (.lss) ?_
  refine VO.go ?_
  refine VC.seq ?_
  refine VC.condD rfl (fun c3 => ?_) (fun c3 => ?_)
  · refine VC.skip ?_
    show VC _ _ _ _ _ _ _ _
    refine VC.seq ?_
    refine VC.block ?_
    refine VC.seq ?_
    refine VC.text ?_
    refine VO.c (.ix (j := j) rfl rfl el22 (by omega)) ?_
    refine VO.r (.ld vt31) ?_
    refine VO.cell (.alloc zt31) ?_
    intro ww1
    refine VO.setV (cs' := [St ((l[j]).1), St ((l[j]).2.1), St ((l[j]).2.2.1), .v (.sl .str) ((l[j]).2.2.2.1), I (((l[j]).2.2.2.2).1), I (((l[j]).2.2.2.2).2)]) vt31 .v ?_
    refine VO.shut [(5, .p y31 (l[j]))] (.cons rfl (.var m0 .refl) .nil) ?_
    refine VO.go ?_
    refine VC.text ?_
    refine VO.c (.move rfl) ?_
    refine VO.r (.ld vt31) ?_
    refine VO.call rfl rfl (VF.call (lPermit_ok (hp _ (List.getElem_mem _)))) ?_
    refine VO.new (.lit [(l[j])] el43) ?_
    refine VO.app rfl rfl el43 el43 (by simp; omega) ?_
    intro ww2
    refine VO.c (.assign rfl) ?_
    refine VO.nil ?_
    show VC _ _ _ _ _ _ _ _
    refine VC.text ?_
    refine VO.c (.add rfl rfl (by omega)) ?_
    refine VO.c (.move rfl) ?_
    refine VO.nil ?_
    refine ⟨_, [(3, .raw ww2), (6, .v y22 l), (7, I ((l.length : Nat) : Int)), (8, I (((j + 1) : Nat) : Int))], ?_, ⟨rfl, rfl, rfl, rfl, trivial⟩, (j + 1), ww2, rfl, rfl, (by rw [List.take_succ_eq_append_getElem (by omega)] <;> rfl), (by omega)⟩
    omega
  · refine VC.exit ?_
    show VC _ _ _ _ _ _ _ _
    refine VC.seq ?_
    refine VC.text ?_
    refine VO.c (.move rfl) ?_
    refine VO.c (.assign rfl) ?_
    refine VO.go ?_
    refine VC.ret ?_
    exact VEndG.row rfl evT ⟨out, rfl, (by rw [List.take_of_length_le (by omega)])⟩
theorem lSeasonsO_ok {l : List ((Int × Int) × Int)} (hl : l.length < 100000) : VFG Tryz.prog OA 27 [.v y23 l] [] (fun r g => ∃ w, r = .raw w ∧ g = [(w, .row 94 y94 l)]) := by
  refine VFG.enter Tryz.func27 rfl (fun _ _ => rfl) rfl ?_
  show VC _ _ _ _ _ [(0, .v y23 l)] [] _
  refine VC.seq ?_
  refine VC.text ?_
  refine VO.c (.assign rfl) ?_
  refine VO.go ?_
  refine VC.seq ?_
  refine VC.text ?_
  refine VO.c (.assign rfl) ?_
  refine VO.go ?_
  refine VC.seq ?_
  refine VC.seq ?_
  refine VC.text ?_
  refine VO.c (.move rfl) ?_
  refine VO.r (.len el23) ?_
  refine VO.c (.move rfl) ?_
  refine VO.go ?_
  refine VC.block ?_
  refine VC.cell0 94 y94 ?_
  refine VC.keep [(3, .raw (.slice none 0 0)), (6, .v y23 l), (7, I ((l.length : Nat) : Int)), (8, I ((0 : Nat) : Int))] ⟨rfl, rfl, rfl, rfl, trivial⟩ ?_
  refine VC.loop (I := fun kk ff ss => ∃ (j : Nat) (out : Value), kk = l.length - j ∧ ff = [(3, .raw out), (6, .v y23 l), (7, I ((l.length : Nat) : Int)), (8, I ((j : Nat) : Int))] ∧ ss = [(out, .row 94 y94 (l.take j))] ∧ (j ≤ l.length)) ?_ _ _ _ ⟨0, (.slice none 0 0), rfl, rfl, rfl, Nat.zero_le _⟩
  rintro kk ff ss ⟨j, out, hk0, rfl, rfl, hj⟩
  refine VC.seq ?_
  refine VC.text ?_
  refine VO.c (.lss) ?_
  refine VO.go ?_
  refine VC.seq ?_
  refine VC.condD rfl (fun c3 => ?_) (fun c3 => ?_)
  · refine VC.skip ?_
    show VC _ _ _ _ _ _ _ _
    refine VC.seq ?_
    refine VC.block ?_
    refine VC.seq ?_
    refine VC.text ?_
    refine VO.c (.ix (j := j) rfl rfl el23 (by omega)) ?_
    refine VO.r (.ld vt149) ?_
    refine VO.cell (.alloc zt149) ?_
    intro ww3
    refine VO.setV (cs' := [I (((l[j]).1).1), I (((l[j]).1).2), I ((l[j]).2)]) vt149 .v ?_
    refine VO.shut [(5, .p y149 (l[j]))] (.cons rfl (.var m0 .refl) .nil) ?_
    refine VO.go ?_
    refine VC.text ?_
    refine VO.c (.move rfl) ?_
    refine VO.r (.ld vt149) ?_
    refine VO.new (.lit [l[j]] el47) ?_
    refine VO.app rfl rfl el47 el47 (by simp; omega) ?_
    intro ww4
    refine VO.c (.assign rfl) ?_
    refine VO.nil ?_
    show VC _ _ _ _ _ _ _ _
    refine VC.text ?_
    refine VO.c (.add rfl rfl (by omega)) ?_
    refine VO.c (.move rfl) ?_
    refine VO.nil ?_
    refine ⟨_, [(3, .raw ww4), (6, .v y23 l), (7, I ((l.length : Nat) : Int)), (8, I (((j + 1) : Nat) : Int))], ?_, ⟨rfl, rfl, rfl, rfl, trivial⟩, (j + 1), ww4, rfl, rfl, (by rw [List.take_succ_eq_append_getElem (by omega)] <;> rfl), (by omega)⟩
    omega
  · refine VC.exit ?_
    show VC _ _ _ _ _ _ _ _
    refine VC.seq ?_
    refine VC.text ?_
    refine VO.c (.move rfl) ?_
    refine VO.c (.assign rfl) ?_
    refine VO.go ?_
    refine VC.ret ?_
    exact VEndG.row rfl evT ⟨out, rfl, (by rw [List.take_of_length_le (by omega)])⟩
theorem permOk_short {l : List Permit} (h : shortPs l = true) : PermOk l := fun o ho => by
  have := (shortPs_ok h).2 o ho
  omega
theorem lock_short {p : Permit} (h : (!(shortPs [p])) = false) : p.2.2.2.1.length < 1000000 := by
  have := (shortPs_ok (l := [p]) (by simpa using h)).2 p List.mem_cons_self
  omega
theorem law6_ok {l : List (ByteArray × ByteArray × ByteArray × (List ByteArray) × (Int × Int))} {s : List ((Int × Int) × Int)} {p : ByteArray × ByteArray × ByteArray × (List ByteArray) × (Int × Int)} : VF Tryz.prog OA 8 [.v y22 l, .v y23 s, .v y31 p] (B true) := by
  refine VF.enter Tryz.func8 rfl (fun _ _ => rfl) rfl ?_
  show VC _ _ _ _ _ [(0, .v y22 l), (1, .v y23 s), (2, .v y31 p)] [] _
  refine VC.seq ?_
  refine VC.text ?_
  refine VO.new (.box) ?_
  refine VO.c (.assign rfl) ?_
  refine VO.go ?_
  refine VC.seq ?_
  refine VC.seq ?_
  refine VC.text ?_
  refine VO.c (.move rfl) ?_
  refine VO.r (.len el22) ?_
  refine VO.c (.gtr) ?_
  refine VO.c (.move rfl) ?_
  refine VO.cg (r := decide ((4 : Int) < ((l.length : Nat) : Int))) (w := false) [] trivial (fun hgd => have g1_3 : ¬ ((4 : Int) < ((l.length : Nat) : Int)) := (by simpa using hgd); (.move rfl)) ?_
  refine VO.callg (r0 := decide ((4 : Int) < ((l.length : Nat) : Int))) (w := false) [(23, .v y22 l)] ⟨rfl, trivial⟩ rfl rfl .same .refl rfl (fun hgd => have g1_3 : ¬ ((4 : Int) < ((l.length : Nat) : Int)) := (by simpa using hgd); VF.call (rShortP_ok )) ?_
  refine VO.cg (r := decide ((4 : Int) < ((l.length : Nat) : Int))) (w := false) [(24, B (shortPs l))] ⟨rfl, trivial⟩ (fun hgd => have g1_3 : ¬ ((4 : Int) < ((l.length : Nat) : Int)) := (by simpa using hgd); (.not)) ?_
  refine VO.c (.or) ?_
  refine VO.c (.move rfl) ?_
  refine VO.cg (r := ((decide ((4 : Int) < ((l.length : Nat) : Int))) || (!(shortPs l)))) (w := false) [] trivial (fun hgd => have g1_8 : ((decide ((4 : Int) < ((l.length : Nat) : Int))) || (!(shortPs l))) = false := (by simpa using hgd); (.move rfl)) ?_
  refine VO.callg (r0 := ((decide ((4 : Int) < ((l.length : Nat) : Int))) || (!(shortPs l)))) (w := false) [(28, .v y23 s)] ⟨rfl, trivial⟩ rfl rfl .same .refl rfl (fun hgd => have g1_8 : ((decide ((4 : Int) < ((l.length : Nat) : Int))) || (!(shortPs l))) = false := (by simpa using hgd); VF.call (rShortS_ok )) ?_
  refine VO.cg (r := ((decide ((4 : Int) < ((l.length : Nat) : Int))) || (!(shortPs l)))) (w := false) [(29, B (decide ((s.length : Int) ≤ 9)))] ⟨rfl, trivial⟩ (fun hgd => have g1_8 : ((decide ((4 : Int) < ((l.length : Nat) : Int))) || (!(shortPs l))) = false := (by simpa using hgd); (.not)) ?_
  refine VO.c (.or) ?_
  refine VO.c (.move rfl) ?_
  refine VO.splitB (x := 32) rfl (fun g1_13 => ?_) (fun g1_13 => ?_)
  · try simp only [Bool.and_eq_true, Bool.or_eq_true, Bool.and_eq_false_iff, Bool.or_eq_false_iff, Bool.not_eq_true', Bool.not_eq_false', decide_eq_true_eq, decide_eq_false_iff_not] at g1_13
    refine VO.skip ?_
    refine VO.skip ?_
    refine VO.skip ?_
    refine VO.skip ?_
    refine VO.c (.pickT rfl rfl) ?_
    refine VO.c (.move rfl) ?_
    refine VO.skip ?_
    refine VO.skip ?_
    refine VO.skip ?_
    refine VO.skip ?_
    refine VO.skip ?_
    refine VO.c (.pickT rfl rfl) ?_
    refine VO.go ?_
    refine VC.condT rfl ?_
    refine VC.seq ?_
    refine VC.text ?_
    refine VO.call rfl rfl (VF.call (awake_ok )) ?_
    refine VO.c (.assign rfl) ?_
    refine VO.go ?_
    refine VC.ret ?_
    exact VEnd.one rfl evT (pvE (by rfl))
  · try simp only [Bool.and_eq_true, Bool.or_eq_true, Bool.and_eq_false_iff, Bool.or_eq_false_iff, Bool.not_eq_true', Bool.not_eq_false', decide_eq_true_eq, decide_eq_false_iff_not] at g1_13
    refine VO.r (.ld vt31) ?_
    refine VO.new (.lit [p] el22) ?_
    refine VO.call rfl rfl (VF.call (rShortP_ok )) ?_
    refine VO.c (.not) ?_
    refine VO.c (.pickF rfl rfl) ?_
    refine VO.c (.move rfl) ?_
    refine VO.cg (r := (!(shortPs [p]))) (w := false) [] trivial (fun hgd => have g1_19 : (!(shortPs [p])) = false := (by simpa using hgd); (.move rfl)) ?_
    refine VO.cg (r := (!(shortPs [p]))) (w := false) [] trivial (fun hgd => have g1_19 : (!(shortPs [p])) = false := (by simpa using hgd); (.move rfl)) ?_
    refine VO.rg (r := (!(shortPs [p]))) (w := false) [] trivial (fun hgd => have g1_19 : (!(shortPs [p])) = false := (by simpa using hgd); (.ld vt31)) ?_
    refine VO.callg (r0 := (!(shortPs [p]))) (w := false) [(39, .v y22 l), (40, .v y23 s), (41, .v y31 p)] ⟨rfl, rfl, rfl, trivial⟩ rfl rfl .same .refl rfl (fun hgd => have g1_19 : (!(shortPs [p])) = false := (by simpa using hgd); VF.call (rCheckIssue_ok (by have := (shortPs_ok g1_13.1.2).1; omega) (permOk_short g1_13.1.2) (by omega) (lock_short g1_19))) ?_
    refine VO.cg (r := (!(shortPs [p]))) (w := false) [(42, I (firstE [permsE l, seasE s, permE p]))] ⟨rfl, trivial⟩ (fun hgd => have g1_19 : (!(shortPs [p])) = false := (by simpa using hgd); (.neq)) ?_
    refine VO.c (.or) ?_
    refine VO.go ?_
    refine VC.condB rfl (fun c1 => ?_) (fun c1 => ?_)
    · try simp only [Bool.and_eq_true, Bool.or_eq_true, Bool.and_eq_false_iff, Bool.or_eq_false_iff, Bool.not_eq_true', Bool.not_eq_false', decide_eq_true_eq, decide_eq_false_iff_not] at c1
      refine VC.seq ?_
      refine VC.text ?_
      refine VO.call rfl rfl (VF.call (awake_ok )) ?_
      refine VO.c (.assign rfl) ?_
      refine VO.go ?_
      refine VC.ret ?_
      exact VEnd.one rfl evT (pvE (by rfl))
    · try simp only [Bool.and_eq_true, Bool.or_eq_true, Bool.and_eq_false_iff, Bool.or_eq_false_iff, Bool.not_eq_true', Bool.not_eq_false', decide_eq_true_eq, decide_eq_false_iff_not] at c1
      have hl := (shortPs_ok g1_13.1.2).1
      have hs9 := g1_13.2
      have hk : PermOk l := fun o ho => by have := (shortPs_ok g1_13.1.2).2 o ho; omega
      have hq : p.2.2.2.1.length < 1000000 := by have := (shortPs_ok c1.1).2 p List.mem_cons_self; omega
      have hF : firstE [permsE l, seasE s, permE p] = 0 := by simpa using c1.2
      have hz := three_zero hF
      have hpk := (permsE_ok hz.1).2
      have vp := perm_span hz.2.2
      have hsp := spanE_ok vp
      have hE : sEarlE l s p = earlE l s p := sEarl_ok (four_zero hz.1 hz.2.1 hz.2.2 (by omega))
      have hI : sIssueE l s p = issueE l s p := issueT_ok (four_zero hz.1 hz.2.1 hz.2.2 (by omega))
      have hg := seas_more hz.2.1
      refine VC.skip ?_
      show VC _ _ _ _ _ _ _ _
      refine VC.seq ?_
      refine VC.drawn ?_
      refine VD.c (.move rfl) ?_
      refine VD.call rfl rfl (VF.call (lPermits_ok (by first | assumption | omega | simp) (by first | assumption | omega | simp))) ?_
      refine VD.c (.move rfl) ?_
      refine VD.call rfl rfl (VF.call (lSeasons_ok (by first | assumption | omega | simp))) ?_
      refine VD.r [] (.ld vt31) (.inl rfl) ?_
      refine VD.call rfl rfl (VF.call (lPermit_ok (by first | assumption | omega | simp))) ?_
      refine VD.nw [52, 50, 48] ?_
      refine VD.callO rfl rfl (VF.call (sEarliest_ok (by first | assumption | omega | simp) (by first | assumption | omega | simp) (by first | assumption | omega | simp) (by first | assumption | omega | simp))) ?_
      refine VD.c (.move rfl) ?_
      refine VD.c (.extract) ?_
      refine VD.c (.extract) ?_
      refine VD.c (.assign rfl) ?_
      refine VD.c (.assign rfl) ?_
      refine VD.go ?_
      refine VC.seq ?_
      refine VC.seq ?_
      refine VC.text ?_
      refine VO.c (.move rfl) ?_
      refine VO.c (.neq) ?_
      refine VO.go ?_
      refine VC.condD rfl (fun c4 => ?_) (fun c4 => ?_)
      · have hn := earl_none (by rw [← hE]; exact c4)
        have h7 : (sEarlE l s p).2 = 7 := by rw [hE, earlE, hn] <;> rfl
        have hi : sIssueE l s p ≠ 0 := by rw [hI]; exact none_issue hn vp
        refine VC.seq ?_
        refine VC.keep [(0, .v y22 l), (1, .v y23 s), (5, .p y31 p), (7, I ((sEarlE l s p).1)), (8, I ((sEarlE l s p).2))] ⟨rfl, rfl, rfl, rfl, rfl, trivial⟩ ?_
        refine VC.drawn ?_
        refine VD.c (.move rfl) ?_
        refine VD.c (.eql) ?_
        refine VD.c (.move rfl) ?_
        refine VD.splitD (x := 60) rfl (fun g5_2 => ?_) (fun g5_2 => ?_)
        · refine VD.c (.move rfl) ?_
          refine VD.call rfl rfl (VF.call (lPermits_ok (by first | assumption | omega | simp) (by first | assumption | omega | simp))) ?_
          refine VD.nw [62] ?_
          refine VD.c (.move rfl) ?_
          refine VD.call rfl rfl (VF.call (lSeasons_ok (by first | assumption | omega | simp))) ?_
          refine VD.r [] (.ld vt31) (.inl rfl) ?_
          refine VD.call rfl rfl (VF.call (lPermit_ok (by first | assumption | omega | simp))) ?_
          refine VD.callO rfl rfl (VF.call (sIssueT_ok (by first | assumption | omega | simp) (by first | assumption | omega | simp) (by first | assumption | omega | simp) (by first | assumption | omega | simp))) ?_
          refine VD.c (.neq) ?_
          refine VD.c (.pickT rfl rfl) ?_
          refine VD.nw [66, 64, 62] ?_
          refine VD.c (.move rfl) ?_
          refine VD.splitD (x := 70) rfl (fun g5_12 => ?_) (fun g5_12 => ?_)
          · refine VD.call rfl rfl (VF.call (awake_ok )) ?_
            refine VD.c (.pickT rfl rfl) ?_
            refine VD.c (.assign rfl) ?_
            refine VD.go ?_
            refine VC.ret ?_
            exact VEnd.one rfl evT (pvE (by rfl))
          · exact absurd hi g5_12
        · exact absurd h7 g5_2
      · obtain ⟨w, hw⟩ := earl_some (by rw [← hE]; simpa using c4)
        have ht : (sEarlE l s p).1 = p.2.2.2.2.1 + (w : Int) := by rw [hE, earl_at hw]
        obtain ⟨_, hw1, hw2, hw3⟩ := firstW_some hw
        have hwp := okW_parts hw2
        have hws := spanE_ok hwp.1
        have hws2 : p.2.2.2.2.2 + (w : Int) ≤ 100000 := hws.2.2
        refine VC.skip ?_
        show VC _ _ _ _ _ _ _ _
        refine VC.seq ?_
        refine VC.keep [(0, .v y22 l), (1, .v y23 s), (5, .p y31 p), (7, I ((sEarlE l s p).1))] ⟨rfl, rfl, rfl, rfl, trivial⟩ ?_
        refine VC.text ?_
        rw [ht]
        refine VO.c (.fa (.r (.r (.r (.r .o))))) ?_
        refine VO.c (.fa (.r .o)) ?_
        refine VO.r (.ld vt3) ?_
        refine VO.c (.fa (.r (.r (.r (.r .o))))) ?_
        refine VO.c (.fa (.l .o)) ?_
        refine VO.r (.ld vt3) ?_
        refine VO.c (.sub rfl rfl (by omega)) ?_
        refine VO.c (.assign rfl) ?_
        refine VO.go ?_
        refine VC.seq ?_
        refine VC.seq ?_
        refine VC.text ?_
        refine VO.c (.move rfl) ?_
        refine VO.c (.fa (.r (.r (.r (.r .o))))) ?_
        refine VO.c (.fa (.l .o)) ?_
        refine VO.r (.ld vt3) ?_
        refine VO.c (.lss) ?_
        refine VO.c (.move rfl) ?_
        refine VO.cg (r := decide (p.2.2.2.2.1 + (w : Int) < p.2.2.2.2.1)) (w := false) [] trivial (fun hgd => have g7_5 : ¬ (p.2.2.2.2.1 + (w : Int) < p.2.2.2.2.1) := (by simpa using hgd); (.move rfl)) ?_
        refine VO.cg (r := decide (p.2.2.2.2.1 + (w : Int) < p.2.2.2.2.1)) (w := false) [] trivial (fun hgd => have g7_5 : ¬ (p.2.2.2.2.1 + (w : Int) < p.2.2.2.2.1) := (by simpa using hgd); (.fa (.r (.r (.r (.r .o)))))) ?_
        refine VO.cg (r := decide (p.2.2.2.2.1 + (w : Int) < p.2.2.2.2.1)) (w := false) [(87, .p y29 p.2.2.2.2)] ⟨rfl, trivial⟩ (fun hgd => have g7_5 : ¬ (p.2.2.2.2.1 + (w : Int) < p.2.2.2.2.1) := (by simpa using hgd); (.fa (.l .o))) ?_
        refine VO.rg (r := decide (p.2.2.2.2.1 + (w : Int) < p.2.2.2.2.1)) (w := false) [(88, .p (.int .i64) p.2.2.2.2.1)] ⟨rfl, trivial⟩ (fun hgd => have g7_5 : ¬ (p.2.2.2.2.1 + (w : Int) < p.2.2.2.2.1) := (by simpa using hgd); (.ld vt3)) ?_
        refine VO.cg (r := decide (p.2.2.2.2.1 + (w : Int) < p.2.2.2.2.1)) (w := false) [(89, I p.2.2.2.2.1)] ⟨rfl, trivial⟩ (fun hgd => have g7_5 : ¬ (p.2.2.2.2.1 + (w : Int) < p.2.2.2.2.1) := (by simpa using hgd); (.add rfl rfl (by omega))) ?_
        refine VO.cg (r := decide (p.2.2.2.2.1 + (w : Int) < p.2.2.2.2.1)) (w := false) [(86, I (p.2.2.2.2.1 + (w : Int))), (90, I (p.2.2.2.2.1 + (1000 : Int)))] ⟨rfl, rfl, trivial⟩ (fun hgd => have g7_5 : ¬ (p.2.2.2.2.1 + (w : Int) < p.2.2.2.2.1) := (by simpa using hgd); (.gtr)) ?_
        refine VO.c (.or) ?_
        refine VO.c (.move rfl) ?_
        refine VO.cg (r := ((decide (p.2.2.2.2.1 + (w : Int) < p.2.2.2.2.1)) || (decide ((p.2.2.2.2.1 + (1000 : Int)) < p.2.2.2.2.1 + (w : Int))))) (w := false) [] trivial (fun hgd => have g7_13 : ((decide (p.2.2.2.2.1 + (w : Int) < p.2.2.2.2.1)) || (decide ((p.2.2.2.2.1 + (1000 : Int)) < p.2.2.2.2.1 + (w : Int)))) = false := (by simpa using hgd); (.move rfl)) ?_
        refine VO.cg (r := ((decide (p.2.2.2.2.1 + (w : Int) < p.2.2.2.2.1)) || (decide ((p.2.2.2.2.1 + (1000 : Int)) < p.2.2.2.2.1 + (w : Int))))) (w := false) [] trivial (fun hgd => have g7_13 : ((decide (p.2.2.2.2.1 + (w : Int) < p.2.2.2.2.1)) || (decide ((p.2.2.2.2.1 + (1000 : Int)) < p.2.2.2.2.1 + (w : Int)))) = false := (by simpa using hgd); (.move rfl)) ?_
        refine VO.cg (r := ((decide (p.2.2.2.2.1 + (w : Int) < p.2.2.2.2.1)) || (decide ((p.2.2.2.2.1 + (1000 : Int)) < p.2.2.2.2.1 + (w : Int))))) (w := false) [(94, I (p.2.2.2.2.1 + (w : Int))), (95, I (p.2.2.2.2.2 - p.2.2.2.2.1))] ⟨rfl, rfl, trivial⟩ (fun hgd => have g7_13 : ((decide (p.2.2.2.2.1 + (w : Int) < p.2.2.2.2.1)) || (decide ((p.2.2.2.2.1 + (1000 : Int)) < p.2.2.2.2.1 + (w : Int)))) = false := (by simpa using hgd); (.add rfl rfl (by omega))) ?_
        refine VO.cg (r := ((decide (p.2.2.2.2.1 + (w : Int) < p.2.2.2.2.1)) || (decide ((p.2.2.2.2.1 + (1000 : Int)) < p.2.2.2.2.1 + (w : Int))))) (w := false) [(96, I (p.2.2.2.2.1 + (w : Int) + (p.2.2.2.2.2 - p.2.2.2.2.1)))] ⟨rfl, trivial⟩ (fun hgd => have g7_13 : ((decide (p.2.2.2.2.1 + (w : Int) < p.2.2.2.2.1)) || (decide ((p.2.2.2.2.1 + (1000 : Int)) < p.2.2.2.2.1 + (w : Int)))) = false := (by simpa using hgd); (.gtr)) ?_
        refine VO.c (.or) ?_
        refine VO.go ?_
        refine VC.condB rfl (fun c7 => ?_) (fun c7 => ?_)
        · try simp only [Bool.and_eq_true, Bool.or_eq_true, Bool.and_eq_false_iff, Bool.or_eq_false_iff, Bool.not_eq_true', Bool.not_eq_false', decide_eq_true_eq, decide_eq_false_iff_not] at c7
          exact absurd c7 (by omega)
        · try simp only [Bool.and_eq_true, Bool.or_eq_true, Bool.and_eq_false_iff, Bool.or_eq_false_iff, Bool.not_eq_true', Bool.not_eq_false', decide_eq_true_eq, decide_eq_false_iff_not] at c7
          refine VC.skip ?_
          show VC _ _ _ _ _ _ _ _
          refine VC.seq ?_
          refine VC.seq ?_
          refine VC.text ?_
          refine VO.c (.fa (.r (.r (.r (.r .o))))) ?_
          refine VO.c (.fa (.l .o)) ?_
          refine VO.r (.ld vt3) ?_
          refine VO.c (.assign rfl) ?_
          refine VO.go ?_
          refine VC.block ?_
          refine VC.keep [(0, .v y22 l), (1, .v y23 s), (5, .p y31 p), (7, I (p.2.2.2.2.1 + (w : Int))), (9, I (p.2.2.2.2.2 - p.2.2.2.2.1)), (10, I (p.2.2.2.2.1 + (0 : Int)))] ⟨rfl, rfl, rfl, rfl, rfl, slI rfl (by omega), trivial⟩ ?_
          refine VC.loop (I := fun kk ff ss => ∃ (j : Nat), kk = (w + 1) - j ∧ ff = [(0, .v y22 l), (1, .v y23 s), (5, .p y31 p), (7, I (p.2.2.2.2.1 + (w : Int))), (9, I (p.2.2.2.2.2 - p.2.2.2.2.1)), (10, I (p.2.2.2.2.1 + (j : Int)))] ∧ ss = [] ∧ (j ≤ w + 1)) ?_ _ _ _ ⟨0, rfl, rfl, rfl, (by omega)⟩
          rintro kk ff ss ⟨j, hk0, rfl, rfl, hj⟩
          refine VC.seq ?_
          refine VC.seq ?_
          refine VC.text ?_
          refine VO.c (.move rfl) ?_
          refine VO.c (.move rfl) ?_
          refine VO.c (.leq) ?_
          refine VO.c (.move rfl) ?_
          refine VO.cg (r := decide ((p.2.2.2.2.1 + (j : Int)) ≤ p.2.2.2.2.1 + (w : Int))) (w := true) [] trivial (fun hgd => have g10_3 : (p.2.2.2.2.1 + (j : Int)) ≤ p.2.2.2.2.1 + (w : Int) := (by simpa using hgd); (.move rfl)) ?_
          refine VO.cg (r := decide ((p.2.2.2.2.1 + (j : Int)) ≤ p.2.2.2.2.1 + (w : Int))) (w := true) [] trivial (fun hgd => have g10_3 : (p.2.2.2.2.1 + (j : Int)) ≤ p.2.2.2.2.1 + (w : Int) := (by simpa using hgd); (.fa (.r (.r (.r (.r .o)))))) ?_
          refine VO.cg (r := decide ((p.2.2.2.2.1 + (j : Int)) ≤ p.2.2.2.2.1 + (w : Int))) (w := true) [(107, .p y29 p.2.2.2.2)] ⟨rfl, trivial⟩ (fun hgd => have g10_3 : (p.2.2.2.2.1 + (j : Int)) ≤ p.2.2.2.2.1 + (w : Int) := (by simpa using hgd); (.fa (.l .o))) ?_
          refine VO.rg (r := decide ((p.2.2.2.2.1 + (j : Int)) ≤ p.2.2.2.2.1 + (w : Int))) (w := true) [(108, .p (.int .i64) p.2.2.2.2.1)] ⟨rfl, trivial⟩ (fun hgd => have g10_3 : (p.2.2.2.2.1 + (j : Int)) ≤ p.2.2.2.2.1 + (w : Int) := (by simpa using hgd); (.ld vt3)) ?_
          refine VO.cg (r := decide ((p.2.2.2.2.1 + (j : Int)) ≤ p.2.2.2.2.1 + (w : Int))) (w := true) [(109, I p.2.2.2.2.1)] ⟨rfl, trivial⟩ (fun hgd => have g10_3 : (p.2.2.2.2.1 + (j : Int)) ≤ p.2.2.2.2.1 + (w : Int) := (by simpa using hgd); (.add rfl rfl (by omega))) ?_
          refine VO.cg (r := decide ((p.2.2.2.2.1 + (j : Int)) ≤ p.2.2.2.2.1 + (w : Int))) (w := true) [(106, I (p.2.2.2.2.1 + (j : Int))), (110, I (p.2.2.2.2.1 + (60 : Int)))] ⟨rfl, rfl, trivial⟩ (fun hgd => have g10_3 : (p.2.2.2.2.1 + (j : Int)) ≤ p.2.2.2.2.1 + (w : Int) := (by simpa using hgd); (.leq)) ?_
          refine VO.c (.and) ?_
          refine VO.go ?_
          refine VC.condB rfl (fun c10 => ?_) (fun c10 => ?_)
          · try simp only [Bool.and_eq_true, Bool.or_eq_true, Bool.and_eq_false_iff, Bool.or_eq_false_iff, Bool.not_eq_true', Bool.not_eq_false', decide_eq_true_eq, decide_eq_false_iff_not] at c10
            have hjs := late_span (k := j) ⟨hsp.1, hsp.2.1⟩ (by omega)
            have hjp := perm_late hz.2.2 hjs
            have hj4 := four_zero hz.1 hz.2.1 hjp (show l.length < 64 by omega)
            refine VC.skip ?_
            show VC _ _ _ _ _ _ _ _
            refine VC.seq ?_
            refine VC.block ?_
            refine VC.seq ?_
            refine VC.text ?_
            refine VO.r (.ld vt31) ?_
            refine VO.call rfl rfl (VF.call (lPermit_ok (by first | assumption | omega | simp))) ?_
            refine VO.cell (.alloc zt35) ?_
            intro ww5
            refine VO.setV (cs' := [St p.1, St p.2.1, St p.2.2.1, .v (.sl .str) p.2.2.2.1, I p.2.2.2.2.1, I p.2.2.2.2.2]) vt35 .v ?_
            refine VO.go ?_
            refine VC.seq ?_
            refine VC.text ?_
            refine VO.c (.move rfl) ?_
            refine VO.c (.move rfl) ?_
            refine VO.c (.move rfl) ?_
            refine VO.c (.add rfl rfl (by omega)) ?_
            rw [show p.2.2.2.2.1 + (j : Int) + (p.2.2.2.2.2 - p.2.2.2.2.1) = p.2.2.2.2.2 + (j : Int) by omega]
            refine VO.c (.build ((p.2.2.2.2.1 + (j : Int)), p.2.2.2.2.2 + (j : Int)) bt29) ?_
            refine VO.c (.faO (k := 4) m0) ?_
            refine VO.setF (cs' := [St p.1, St p.2.1, St p.2.2.1, .v (.sl .str) p.2.2.2.1, I (p.2.2.2.2.1 + (j : Int)), I (p.2.2.2.2.2 + (j : Int))]) 4 vt29 .v ?_
            refine VO.go ?_
            refine VC.seq ?_
            refine VC.shutL [(ww5, .var [St p.1, St p.2.1, St p.2.2.1, .v (.sl .str) p.2.2.2.1, I (p.2.2.2.2.1 + (j : Int)), I (p.2.2.2.2.2 + (j : Int))])] [(11, .p y35 (lateP p j))] rfl (.cons rfl (.var m0 .refl) .nil) ?_
            refine VC.drawn ?_
            refine VD.c (.move rfl) ?_
            refine VD.call rfl rfl (VF.call (lPermits_ok (by first | assumption | omega | simp) (by first | assumption | omega | simp))) ?_
            refine VD.c (.move rfl) ?_
            refine VD.call rfl rfl (VF.call (lSeasons_ok (by first | assumption | omega | simp))) ?_
            refine VD.r [] (.ld vt35) (.inl rfl) ?_
            refine VD.callO rfl rfl (VF.call (sIssueT_ok (by first | assumption | omega | simp) (by first | assumption | omega | simp) (by first | assumption | omega | simp) (by first | assumption | omega | simp))) ?_
            refine VD.nw [126, 124] ?_
            refine VD.c (.eql) ?_
            refine VD.c (.move rfl) ?_
            refine VD.c (.move rfl) ?_
            refine VD.c (.eql) ?_
            refine VD.c (.bneq) ?_
            refine VD.go ?_
            refine VC.condB rfl (fun c14 => ?_) (fun c14 => ?_)
            · try simp only [Bool.and_eq_true, Bool.or_eq_true, Bool.and_eq_false_iff, Bool.or_eq_false_iff, Bool.not_eq_true', Bool.not_eq_false', decide_eq_true_eq, decide_eq_false_iff_not] at c14
              exact absurd c14 (by rw [wait_same hw (by omega) hjs hj4]; simp)
            · try simp only [Bool.and_eq_true, Bool.or_eq_true, Bool.and_eq_false_iff, Bool.or_eq_false_iff, Bool.not_eq_true', Bool.not_eq_false', decide_eq_true_eq, decide_eq_false_iff_not] at c14
              refine VC.skip ?_
              show VC _ _ _ _ _ _ _ _
              refine VC.text ?_
              refine VO.c (.move rfl) ?_
              refine VO.c (.add rfl rfl (by omega)) ?_
              refine VO.c (.assign rfl) ?_
              refine VO.nil ?_
              refine ⟨_, [(0, .v y22 l), (1, .v y23 s), (5, .p y31 p), (7, I (p.2.2.2.2.1 + (w : Int))), (9, I (p.2.2.2.2.2 - p.2.2.2.2.1)), (10, I (p.2.2.2.2.1 + ((j + 1) : Int)))], ?_, ⟨rfl, rfl, rfl, rfl, rfl, slI rfl (by omega), trivial⟩, (j + 1), rfl, rfl, rfl, (by omega)⟩
              omega
          · try simp only [Bool.and_eq_true, Bool.or_eq_true, Bool.and_eq_false_iff, Bool.or_eq_false_iff, Bool.not_eq_true', Bool.not_eq_false', decide_eq_true_eq, decide_eq_false_iff_not] at c10
            refine VC.exit ?_
            show VC _ _ _ _ _ _ _ _
            refine VC.seq ?_
            refine VC.text ?_
            refine VO.c (.move rfl) ?_
            refine VO.callG [] rfl rfl rfl (VFG.call (lSeasonsO_ok (by first | assumption | omega | simp))) ?_
            rintro _ _ ⟨ww6, rfl, rfl⟩
            show VO _ _ _ _ _ _ [(ww6, .row 94 y94 s)] _
            refine VO.c (.assign rfl) ?_
            refine VO.go ?_
            refine VC.seq ?_
            refine VC.seq ?_
            refine VC.text ?_
            refine VO.c (.move rfl) ?_
            refine VO.r (.lenO m0 el47) ?_
            refine VO.c (.move rfl) ?_
            refine VO.go ?_
            refine VC.block ?_
            refine VC.keep [(0, .v y22 l), (1, .v y23 s), (5, .p y31 p), (7, I (p.2.2.2.2.1 + (w : Int))), (9, I (p.2.2.2.2.2 - p.2.2.2.2.1)), (12, .raw ww6), (137, I ((s.length : Nat) : Int)), (138, I ((0 : Nat) : Int))] ⟨rfl, rfl, rfl, rfl, rfl, rfl, rfl, rfl, trivial⟩ ?_
            refine VC.loop (I := fun kk ff ss => ∃ (i : Nat), kk = s.length - i ∧ ff = [(0, .v y22 l), (1, .v y23 s), (5, .p y31 p), (7, I (p.2.2.2.2.1 + (w : Int))), (9, I (p.2.2.2.2.2 - p.2.2.2.2.1)), (12, .raw ww6), (137, I ((s.length : Nat) : Int)), (138, I ((i : Nat) : Int))] ∧ ss = [(ww6, .row 94 y94 (moreK s i))] ∧ (i ≤ s.length)) ?_ _ _ _ ⟨0, rfl, rfl, rfl, Nat.zero_le _⟩
            rintro kk ff ss ⟨i, hk2, rfl, rfl, hi⟩
            have hml := moreK_len (ss := s) (i := i)
            refine VC.seq ?_
            refine VC.text ?_
            refine VO.c (.lss) ?_
            refine VO.go ?_
            refine VC.seq ?_
            refine VC.condD rfl (fun c18 => ?_) (fun c18 => ?_)
            · refine VC.skip ?_
              show VC _ _ _ _ _ _ _ _
              refine VC.seq ?_
              refine VC.block ?_
              refine VC.seq ?_
              refine VC.text ?_
              refine VO.c (.move rfl) ?_
              refine VO.c (.assign rfl) ?_
              refine VO.go ?_
              refine VC.text ?_
              refine VO.c (.move rfl) ?_
              refine VO.c (.move rfl) ?_
              refine VO.c (.ixO (j := i) rfl rfl m0 el47 (by omega)) ?_
              refine VO.c (.faE (j := i) (k := 2) m0 (by omega)) ?_
              refine VO.setEF (j := i) (k := 2) (dz := (((moreK s i)[i]).1, (16 : Int))) (by omega) vt3 (.r .o) ?_
              refine VO.nil ?_
              show VC _ _ _ _ _ _ _ _
              refine VC.text ?_
              refine VO.c (.add rfl rfl (by omega)) ?_
              refine VO.c (.move rfl) ?_
              refine VO.nil ?_
              refine ⟨_, [(0, .v y22 l), (1, .v y23 s), (5, .p y31 p), (7, I (p.2.2.2.2.1 + (w : Int))), (9, I (p.2.2.2.2.2 - p.2.2.2.2.1)), (12, .raw ww6), (137, I ((s.length : Nat) : Int)), (138, I (((i + 1) : Nat) : Int))], ?_, ⟨rfl, rfl, rfl, rfl, rfl, rfl, rfl, rfl, trivial⟩, (i + 1), rfl, rfl, (by rw [← moreK_set (by omega)]; rw [moreK_at (by omega)]), (by omega)⟩
              omega
            · have hm : moreK s i = moreE s := moreK_end (by omega)
              have hml := moreK_len (ss := s) (i := i)
              obtain ⟨v, hv1, hv2⟩ := firstW_le (okW_more hg.2) hw
              have ha : sEarlE l (moreK s i) p = (p.2.2.2.2.1 + (v : Int), 0) := by rw [hm, sEarl_ok (four_zero hz.1 hg.1 hz.2.2 (by omega)), earl_at hv1]
              refine VC.exit ?_
              show VC _ _ _ _ _ _ _ _
              refine VC.seq ?_
              refine VC.shutL [(ww6, .row 94 y94 (moreK s i))] [(12, .v y47 (moreK s i))] rfl (.cons rfl (.row m0) .nil) ?_
              refine VC.drawn ?_
              refine VD.c (.move rfl) ?_
              refine VD.call rfl rfl (VF.call (lPermits_ok (by first | assumption | omega | simp) (by first | assumption | omega | simp))) ?_
              refine VD.c (.move rfl) ?_
              refine VD.r [] (.ld vt31) (.inl rfl) ?_
              refine VD.call rfl rfl (VF.call (lPermit_ok (by first | assumption | omega | simp))) ?_
              refine VD.callO rfl rfl (VF.call (sEarliest_ok (by first | assumption | omega | simp) (by first | assumption | omega | simp) (by first | assumption | omega | simp) (by first | assumption | omega | simp))) ?_
              refine VD.nw [151, 148] ?_
              refine VD.c (.move rfl) ?_
              refine VD.c (.extract) ?_
              refine VD.c (.extract) ?_
              refine VD.c (.assign rfl) ?_
              refine VD.c (.assign rfl) ?_
              refine VD.go ?_
              refine VC.seq ?_
              refine VC.seq ?_
              refine VC.text ?_
              refine VO.c (.move rfl) ?_
              refine VO.c (.neq) ?_
              refine VO.c (.move rfl) ?_
              refine VO.cg (r := decide ((sEarlE l (moreK s i) p).2 ≠ (0 : Int))) (w := false) [] trivial (fun hgd => have g23_2 : ¬ ((sEarlE l (moreK s i) p).2 ≠ (0 : Int)) := (by simpa using hgd); (.move rfl)) ?_
              refine VO.cg (r := decide ((sEarlE l (moreK s i) p).2 ≠ (0 : Int))) (w := false) [] trivial (fun hgd => have g23_2 : ¬ ((sEarlE l (moreK s i) p).2 ≠ (0 : Int)) := (by simpa using hgd); (.move rfl)) ?_
              refine VO.cg (r := decide ((sEarlE l (moreK s i) p).2 ≠ (0 : Int))) (w := false) [(158, I ((sEarlE l (moreK s i) p).1)), (159, I (p.2.2.2.2.1 + (w : Int)))] ⟨rfl, rfl, trivial⟩ (fun hgd => have g23_2 : ¬ ((sEarlE l (moreK s i) p).2 ≠ (0 : Int)) := (by simpa using hgd); (.gtr)) ?_
              refine VO.c (.or) ?_
              refine VO.go ?_
              refine VC.condB rfl (fun c23 => ?_) (fun c23 => ?_)
              · try simp only [Bool.and_eq_true, Bool.or_eq_true, Bool.and_eq_false_iff, Bool.or_eq_false_iff, Bool.not_eq_true', Bool.not_eq_false', decide_eq_true_eq, decide_eq_false_iff_not] at c23
                exact absurd c23 (by rw [ha]; simp; omega)
              · try simp only [Bool.and_eq_true, Bool.or_eq_true, Bool.and_eq_false_iff, Bool.or_eq_false_iff, Bool.not_eq_true', Bool.not_eq_false', decide_eq_true_eq, decide_eq_false_iff_not] at c23
                refine VC.skip ?_
                show VC _ _ _ _ _ _ _ _
                refine VC.seq ?_
                refine VC.seq ?_
                refine VC.text ?_
                refine VO.c (.move rfl) ?_
                refine VO.r (.len el22) ?_
                refine VO.c (.gtr) ?_
                refine VO.go ?_
                refine VC.condD rfl (fun c25 => ?_) (fun c25 => ?_)
                · have hk1 : PermOk (l.drop 1) := fun o ho => hk o (List.mem_of_mem_drop ho)
                  have hd1 : permsE (l.drop 1) = 0 := permsE_sub hz.1 (fun o ho => hpk o (List.mem_of_mem_drop ho)) (by rw [List.length_drop]; omega)
                  obtain ⟨u, hu1, hu2⟩ := firstW_le (okW_fewer (l := l) (m := l.drop 1) fun o ho => List.mem_of_mem_drop ho) hw
                  have hb : sEarlE (l.drop 1) s p = (p.2.2.2.2.1 + (u : Int), 0) := by rw [sEarl_ok (four_zero hd1 hz.2.1 hz.2.2 (by rw [List.length_drop]; omega)), earl_at hu1]
                  refine VC.seq ?_
                  refine VC.drawn ?_
                  refine VD.c (.move rfl) ?_
                  refine VD.r [] (.cutL rfl rfl el22 (by omega)) (.inl rfl) ?_
                  refine VD.call rfl rfl (VF.call (lPermits_ok (by simp; omega) hk1)) ?_
                  refine VD.c (.move rfl) ?_
                  refine VD.call rfl rfl (VF.call (lSeasons_ok (by first | assumption | omega | simp))) ?_
                  refine VD.r [] (.ld vt31) (.inl rfl) ?_
                  refine VD.nw [170, 168] ?_
                  refine VD.call rfl rfl (VF.call (lPermit_ok (by first | assumption | omega | simp))) ?_
                  refine VD.callO rfl rfl (VF.call (sEarliest_ok (by simp; omega) (by omega) hk1 hq)) ?_
                  refine VD.c (.move rfl) ?_
                  refine VD.c (.extract) ?_
                  refine VD.c (.extract) ?_
                  refine VD.c (.assign rfl) ?_
                  refine VD.c (.assign rfl) ?_
                  refine VD.go ?_
                  refine VC.seq ?_
                  refine VC.keep [(0, .v y22 l), (1, .v y23 s), (5, .p y31 p), (7, I (p.2.2.2.2.1 + (w : Int))), (9, I (p.2.2.2.2.2 - p.2.2.2.2.1)), (16, I ((sEarlE (l.drop ((1 : Int)).toNat) s p).1)), (17, I ((sEarlE (l.drop ((1 : Int)).toNat) s p).2))] ⟨rfl, rfl, rfl, rfl, rfl, rfl, rfl, trivial⟩ ?_
                  refine VC.text ?_
                  refine VO.c (.move rfl) ?_
                  refine VO.c (.neq) ?_
                  refine VO.c (.move rfl) ?_
                  refine VO.cg (r := decide ((sEarlE (l.drop ((1 : Int)).toNat) s p).2 ≠ (0 : Int))) (w := false) [] trivial (fun hgd => have g27_2 : ¬ ((sEarlE (l.drop ((1 : Int)).toNat) s p).2 ≠ (0 : Int)) := (by simpa using hgd); (.move rfl)) ?_
                  refine VO.cg (r := decide ((sEarlE (l.drop ((1 : Int)).toNat) s p).2 ≠ (0 : Int))) (w := false) [] trivial (fun hgd => have g27_2 : ¬ ((sEarlE (l.drop ((1 : Int)).toNat) s p).2 ≠ (0 : Int)) := (by simpa using hgd); (.move rfl)) ?_
                  refine VO.cg (r := decide ((sEarlE (l.drop ((1 : Int)).toNat) s p).2 ≠ (0 : Int))) (w := false) [(179, I ((sEarlE (l.drop ((1 : Int)).toNat) s p).1)), (180, I (p.2.2.2.2.1 + (w : Int)))] ⟨rfl, rfl, trivial⟩ (fun hgd => have g27_2 : ¬ ((sEarlE (l.drop ((1 : Int)).toNat) s p).2 ≠ (0 : Int)) := (by simpa using hgd); (.gtr)) ?_
                  refine VO.c (.or) ?_
                  refine VO.go ?_
                  refine VC.condB rfl (fun c27 => ?_) (fun c27 => ?_)
                  · try simp only [Bool.and_eq_true, Bool.or_eq_true, Bool.and_eq_false_iff, Bool.or_eq_false_iff, Bool.not_eq_true', Bool.not_eq_false', decide_eq_true_eq, decide_eq_false_iff_not] at c27
                    exact absurd c27 (by show ¬ _; rw [show Int.toNat 1 = 1 from rfl, hb]; simp; omega)
                  · try simp only [Bool.and_eq_true, Bool.or_eq_true, Bool.and_eq_false_iff, Bool.or_eq_false_iff, Bool.not_eq_true', Bool.not_eq_false', decide_eq_true_eq, decide_eq_false_iff_not] at c27
                    refine VC.skip ?_
                    show VC _ _ _ _ _ _ _ _
                    refine VC.seq ?_
                    refine VC.seq ?_
                    refine VC.text ?_
                    refine VO.c (.move rfl) ?_
                    refine VO.call rfl rfl (VF.call (lPermits_ok (by first | assumption | omega | simp) (by first | assumption | omega | simp))) ?_
                    refine VO.c (.move rfl) ?_
                    refine VO.call rfl rfl (VF.call (lSeasons_ok (by first | assumption | omega | simp))) ?_
                    refine VO.call rfl rfl (VF.call (sValidT_ok (by first | assumption | omega | simp) (by first | assumption | omega | simp) (by first | assumption | omega | simp))) ?_
                    refine VO.c (.neq) ?_
                    refine VO.go ?_
                    refine VC.condD rfl (fun c29 => ?_) (fun c29 => ?_)
                    · refine VC.seq ?_
                      refine VC.text ?_
                      refine VO.call rfl rfl (VF.call (awake_ok )) ?_
                      refine VO.c (.assign rfl) ?_
                      refine VO.go ?_
                      refine VC.ret ?_
                      exact VEnd.one rfl evT (pvE (by rfl))
                    · have hval : sValidE l s = 0 := by simpa using c29
                      have h2z : firstE [permsE l, seasE s] = 0 := by rw [firstE_all]; intro x hx; simp only [List.mem_cons, List.not_mem_nil, or_false] at hx; rcases hx with rfl | rfl; exact hz.1; exact hz.2.1
                      have hap : permsE (l ++ [lateP p w]) = 0 := permsE_sub hz.1 (fun o ho => by rcases List.mem_append.1 ho with ho | ho; exact hpk o ho; rw [List.mem_singleton.1 ho]; exact perm_late hz.2.2 hwp.1) (by simp; omega)
                      have h3z : firstE [permsE (l ++ [lateP p w]), seasE s] = 0 := by rw [firstE_all]; intro x hx; simp only [List.mem_cons, List.not_mem_nil, or_false] at hx; rcases hx with rfl | rfl; exact hap; exact hz.2.1
                      have hlast := valid_more hval h2z h3z hwp.2
                      have hka : PermOk (l ++ [lateP p w]) := fun o ho => by rcases List.mem_append.1 ho with ho | ho; exact hk o ho; rw [List.mem_singleton.1 ho]; exact hq
                      refine VC.skip ?_
                      show VC _ _ _ _ _ _ _ _
                      refine VC.seq ?_
                      refine VC.text ?_
                      refine VO.r (.ld vt31) ?_
                      refine VO.call rfl rfl (VF.call (lPermit_ok (by first | assumption | omega | simp))) ?_
                      refine VO.cell (.alloc zt35) ?_
                      intro ww7
                      refine VO.setV (cs' := [St p.1, St p.2.1, St p.2.2.1, .v (.sl .str) p.2.2.2.1, I p.2.2.2.2.1, I p.2.2.2.2.2]) vt35 .v ?_
                      refine VO.go ?_
                      refine VC.seq ?_
                      refine VC.text ?_
                      refine VO.c (.move rfl) ?_
                      refine VO.c (.move rfl) ?_
                      refine VO.c (.move rfl) ?_
                      refine VO.c (.add rfl rfl (by omega)) ?_
                      rw [show p.2.2.2.2.1 + (w : Int) + (p.2.2.2.2.2 - p.2.2.2.2.1) = p.2.2.2.2.2 + (w : Int) by omega]
                      refine VO.c (.build (p.2.2.2.2.1 + (w : Int), p.2.2.2.2.2 + (w : Int)) bt29) ?_
                      refine VO.c (.faO (k := 4) m0) ?_
                      refine VO.setF (cs' := [St p.1, St p.2.1, St p.2.2.1, .v (.sl .str) p.2.2.2.1, I (p.2.2.2.2.1 + (w : Int)), I (p.2.2.2.2.2 + (w : Int))]) 4 vt29 .v ?_
                      refine VO.go ?_
                      refine VC.seq ?_
                      refine VC.shutL [(ww7, .var [St p.1, St p.2.1, St p.2.2.1, .v (.sl .str) p.2.2.2.1, I (p.2.2.2.2.1 + (w : Int)), I (p.2.2.2.2.2 + (w : Int))])] [(18, .p y35 (lateP p w))] rfl (.cons rfl (.var m0 .refl) .nil) ?_
                      refine VC.drawn ?_
                      refine VD.c (.move rfl) ?_
                      refine VD.callG rfl rfl (VFG.call (lPermitsO_ok (by first | assumption | omega | simp) (by first | assumption | omega | simp))) ?_
                      rintro _ _ ⟨ww8, rfl, rfl⟩
                      show VD _ _ _ _ _ _ _ _ [(ww8, .row 35 y35 l)] _ _ _ _ _
                      refine VD.r [] (.ld vt35) (.inl rfl) ?_
                      refine VD.new (.lit [lateP p w] el43) ?_
                      refine VD.mk (MakeV.app el43 el43 rfl rfl (by simp; omega)) ?_
                      rintro _ _ tl9 ⟨ww9, rfl, rfl⟩
                      refine VD.c (.move rfl) ?_
                      refine VD.nw [202, 201, 199] ?_
                      refine VD.callO rfl rfl (VF.call (lSeasons_ok (by first | assumption | omega | simp))) ?_
                      refine VD.callC rfl rfl .same (.cons (.row m0) (.cons .same .nil)) rfl (VF.call (sValidT_ok (by simp; omega) (by omega) hka)) ?_
                      refine VD.c (.eql) ?_
                      refine VD.c (.move rfl) ?_
                      refine VD.splitD (x := 207) rfl (fun g33_9 => ?_) (fun g33_9 => ?_)
                      · refine VD.callO rfl rfl (VF.call (awake_ok )) ?_
                        refine VD.c (.pickT rfl rfl) ?_
                        refine VD.nw [204, 202, 201, 199] ?_
                        refine VD.c (.assign rfl) ?_
                        refine VD.go ?_
                        refine VC.ret ?_
                        exact VEnd.one rfl evT (pvE (by rfl))
                      · exact absurd hlast g33_9
                · refine VC.skip ?_
                  show VC _ _ _ _ _ _ _ _
                  refine VC.seq ?_
                  refine VC.seq ?_
                  refine VC.text ?_
                  refine VO.c (.move rfl) ?_
                  refine VO.call rfl rfl (VF.call (lPermits_ok (by first | assumption | omega | simp) (by first | assumption | omega | simp))) ?_
                  refine VO.c (.move rfl) ?_
                  refine VO.call rfl rfl (VF.call (lSeasons_ok (by first | assumption | omega | simp))) ?_
                  refine VO.call rfl rfl (VF.call (sValidT_ok (by first | assumption | omega | simp) (by first | assumption | omega | simp) (by first | assumption | omega | simp))) ?_
                  refine VO.c (.neq) ?_
                  refine VO.go ?_
                  refine VC.condD rfl (fun c29 => ?_) (fun c29 => ?_)
                  · refine VC.seq ?_
                    refine VC.text ?_
                    refine VO.call rfl rfl (VF.call (awake_ok )) ?_
                    refine VO.c (.assign rfl) ?_
                    refine VO.go ?_
                    refine VC.ret ?_
                    exact VEnd.one rfl evT (pvE (by rfl))
                  · have hval : sValidE l s = 0 := by simpa using c29
                    have h2z : firstE [permsE l, seasE s] = 0 := by rw [firstE_all]; intro x hx; simp only [List.mem_cons, List.not_mem_nil, or_false] at hx; rcases hx with rfl | rfl; exact hz.1; exact hz.2.1
                    have hap : permsE (l ++ [lateP p w]) = 0 := permsE_sub hz.1 (fun o ho => by rcases List.mem_append.1 ho with ho | ho; exact hpk o ho; rw [List.mem_singleton.1 ho]; exact perm_late hz.2.2 hwp.1) (by simp; omega)
                    have h3z : firstE [permsE (l ++ [lateP p w]), seasE s] = 0 := by rw [firstE_all]; intro x hx; simp only [List.mem_cons, List.not_mem_nil, or_false] at hx; rcases hx with rfl | rfl; exact hap; exact hz.2.1
                    have hlast := valid_more hval h2z h3z hwp.2
                    have hka : PermOk (l ++ [lateP p w]) := fun o ho => by rcases List.mem_append.1 ho with ho | ho; exact hk o ho; rw [List.mem_singleton.1 ho]; exact hq
                    refine VC.skip ?_
                    show VC _ _ _ _ _ _ _ _
                    refine VC.seq ?_
                    refine VC.text ?_
                    refine VO.r (.ld vt31) ?_
                    refine VO.call rfl rfl (VF.call (lPermit_ok (by first | assumption | omega | simp))) ?_
                    refine VO.cell (.alloc zt35) ?_
                    intro ww10
                    refine VO.setV (cs' := [St p.1, St p.2.1, St p.2.2.1, .v (.sl .str) p.2.2.2.1, I p.2.2.2.2.1, I p.2.2.2.2.2]) vt35 .v ?_
                    refine VO.go ?_
                    refine VC.seq ?_
                    refine VC.text ?_
                    refine VO.c (.move rfl) ?_
                    refine VO.c (.move rfl) ?_
                    refine VO.c (.move rfl) ?_
                    refine VO.c (.add rfl rfl (by omega)) ?_
                    rw [show p.2.2.2.2.1 + (w : Int) + (p.2.2.2.2.2 - p.2.2.2.2.1) = p.2.2.2.2.2 + (w : Int) by omega]
                    refine VO.c (.build (p.2.2.2.2.1 + (w : Int), p.2.2.2.2.2 + (w : Int)) bt29) ?_
                    refine VO.c (.faO (k := 4) m0) ?_
                    refine VO.setF (cs' := [St p.1, St p.2.1, St p.2.2.1, .v (.sl .str) p.2.2.2.1, I (p.2.2.2.2.1 + (w : Int)), I (p.2.2.2.2.2 + (w : Int))]) 4 vt29 .v ?_
                    refine VO.go ?_
                    refine VC.seq ?_
                    refine VC.shutL [(ww10, .var [St p.1, St p.2.1, St p.2.2.1, .v (.sl .str) p.2.2.2.1, I (p.2.2.2.2.1 + (w : Int)), I (p.2.2.2.2.2 + (w : Int))])] [(18, .p y35 (lateP p w))] rfl (.cons rfl (.var m0 .refl) .nil) ?_
                    refine VC.keep [(0, .v y22 l), (1, .v y23 s), (18, .p y35 (lateP p w))] ⟨rfl, rfl, rfl, trivial⟩ ?_
                    refine VC.drawn ?_
                    refine VD.c (.move rfl) ?_
                    refine VD.callG rfl rfl (VFG.call (lPermitsO_ok (by first | assumption | omega | simp) (by first | assumption | omega | simp))) ?_
                    rintro _ _ ⟨ww11, rfl, rfl⟩
                    show VD _ _ _ _ _ _ _ _ [(ww11, .row 35 y35 l)] _ _ _ _ _
                    refine VD.r [] (.ld vt35) (.inl rfl) ?_
                    refine VD.new (.lit [lateP p w] el43) ?_
                    refine VD.mk (MakeV.app el43 el43 rfl rfl (by simp; omega)) ?_
                    rintro _ _ tl12 ⟨ww12, rfl, rfl⟩
                    refine VD.c (.move rfl) ?_
                    refine VD.nw [202, 201, 199] ?_
                    refine VD.callO rfl rfl (VF.call (lSeasons_ok (by first | assumption | omega | simp))) ?_
                    refine VD.callC rfl rfl .same (.cons (.row m0) (.cons .same .nil)) rfl (VF.call (sValidT_ok (by simp; omega) (by omega) hka)) ?_
                    refine VD.c (.eql) ?_
                    refine VD.c (.move rfl) ?_
                    refine VD.splitD (x := 207) rfl (fun g33_9 => ?_) (fun g33_9 => ?_)
                    · refine VD.callO rfl rfl (VF.call (awake_ok )) ?_
                      refine VD.c (.pickT rfl rfl) ?_
                      refine VD.nw [204, 202, 201, 199] ?_
                      refine VD.c (.assign rfl) ?_
                      refine VD.go ?_
                      refine VC.ret ?_
                      exact VEnd.one rfl evT (pvE (by rfl))
                    · exact absurd hlast g33_9
end Go.Proofs
namespace Go.Fs
open Go.RowKit (Below)
variable {P : Program}
def orcB (fi fj fc : FuncId) (T : TypeId) : FuncId → List Value → Heap → Option (Value × Heap) := fun f xs h =>
  bif Nat.beq f fc then
    match xs with
    | [.pointer (some ⟨b, 0, none⟩)] =>
      match h.get b with
      | some (.row e [p, v] true false) =>
        bif Nat.beq e T then
          match p with
          | .pointer none => some (.tuple #[], h.set b (.row e [.pointer (some ⟨b, 0, none⟩), v] true false))
          | .pointer (some ⟨b', 0, none⟩) => bif Nat.beq b' b then some (.tuple #[], h) else none
          | _ => none
        else none
      | _ => none
    | _ => none
  else orcS fi fj f xs h
theorem orcB_sound {B : Nat} {w0 : World} {fi fj fc : FuncId} {T : TypeId} (hS : CallSound P B w0 (orcS fi fj)) (hc : Enters P fc)
    (hF : ∀ (b : Nat) (w : World), w.cell? ⟨b, 0, none⟩ = some (.pointer none) → w.shape? b = some (T, 2) → w.frozen? ⟨b, 0, none⟩ = false →
      Calls P fc #[.pointer (some ⟨b, 0, none⟩)] w fun e w' => e = .returned (.tuple #[]) ∧ w' = w.setCell ⟨b, 0, none⟩ (.pointer (some ⟨b, 0, none⟩)))
    (hU : ∀ (b : Nat) (w : World), w.cell? ⟨b, 0, none⟩ = some (.pointer (some ⟨b, 0, none⟩)) → Calls P fc #[.pointer (some ⟨b, 0, none⟩)] w fun e w' => e = .returned (.tuple #[]) ∧ w' = w) :
    CallSound P B w0 (orcB fi fj fc T) := by
  intro f xs h v h' hf
  unfold orcB at hf
  cases hb : Nat.beq f fc with
  | false =>
    rw [hb] at hf
    exact hS f xs h v h' hf
  | true =>
    have := nbeq hb
    subst this
    rw [hb] at hf
    simp only [cond_true] at hf
    split at hf
    · rename_i b
      split at hf
      · rename_i e p u hg
        obtain ⟨he, hf2⟩ := bif_some hf
        obtain rfl := nbeq he
        refine ⟨hc, fun ρ S w args' hr ha nn => ?_⟩
        obtain ⟨hsb, cur, k1, k2, k3, k4, k5, k6, k7⟩ := hr.objs b _ hg
        have hcl : cur.length = 2 := (k6 rfl).symm
        match cur, hcl with
        | [p', u'], _ =>
        have hp : VR ρ S p p' := k7 0 (by simp)
        have hu : VR ρ S u u' := k7 1 (by simp)
        have hat : (ρ b).at 0 = ⟨(ρ b).block, 0, none⟩ := by unfold Loc.at; rw [k2]
        have harg : args' = [.pointer (some ⟨(ρ b).block, 0, none⟩)] := by
          have h1 := ha.1
          match args', h1 with
          | [a], _ =>
            have h2 : VR ρ S (.pointer (some ⟨b, 0, none⟩)) a := ha.2 0 (by simp)
            rw [h2.ptr_inv.2, hat]
        subst harg
        have hcell : w.cell? ⟨(ρ b).block, 0, none⟩ = some p' := by simp [World.cell?, k1]
        split at hf2
        · simp only [Option.some.injEq, Prod.mk.injEq] at hf2
          obtain ⟨rfl, rfl⟩ := hf2
          obtain rfl := hp.eq_of_af0 rfl
          have hC : CallsIn Fence.wide nn P f #[.pointer (some ⟨(ρ b).block, 0, none⟩)] w _ := callsIn_wide.2 (hF (ρ b).block w hcell (by simp [World.shape?, k1]) (by simp [World.frozen?, k1]))
          refine hC.mono fun e2 w' hret => ?_
          obtain ⟨rfl, rfl⟩ := hret
          refine ⟨ρ, Moved.set hr hg rfl rfl rfl rfl rfl (by simp [World.setCell]) (fun k hk => ?_) ?_, VR.tuple' LR.nil⟩
          · simp only [World.setCell, Array.getElem?_modify]
            rw [if_neg (fun e0 => hk e0.symm)]
          · refine ⟨[.pointer (some ⟨(ρ b).block, 0, none⟩), u'], ?_, k2, k3, k4, Nat.le_refl _, fun _ => rfl, fun i hi => ?_⟩
            · simp only [World.setCell, Array.getElem?_modify, if_pos rfl, k1]
              simp
            · match i, hi with
              | 0, _ => show VR ρ S (.pointer (some ⟨b, 0, none⟩)) (.pointer (some ⟨(ρ b).block, 0, none⟩)); rw [← hat]; exact .ptr b 0 hsb
              | 1, _ => exact hu
        · rename_i b'
          obtain ⟨hbb, hf3⟩ := bif_some hf2
          obtain rfl := nbeq hbb
          simp only [Option.some.injEq, Prod.mk.injEq] at hf3
          obtain ⟨rfl, rfl⟩ := hf3
          have hp2 := hp.ptr_inv.2
          rw [hat] at hp2
          subst hp2
          have hC : CallsIn Fence.wide nn P f #[.pointer (some ⟨(ρ b').block, 0, none⟩)] w _ := callsIn_wide.2 (hU (ρ b').block w hcell)
          refine hC.mono fun e2 w' hret => ?_
          obtain ⟨rfl, rfl⟩ := hret
          exact ⟨ρ, Moved.same hr, VR.tuple' LR.nil⟩
        · cases hf2
      · cases hf
    · cases hf
end Go.Fs
namespace Go.Fs
open Go.RowKit (Below)
variable {P : Program} {B : Nat} {w0 : World}

def fsStepX (P : Program) (orc : FuncId → List Value → Heap → Option (Value × Heap)) (rec : Rec) : Rec := fun rnd c fr h =>
  match c with
  | .region _ ops true => match drawnX P { next := h.next, low := h.next, objs := h.objs } (fsOp P (callOf P orc rec) (fsYield rec)) ops fr.n ⟨fr.t, { next := h.next, low := h.next, objs := h.objs }, [], [], 0, false⟩ with
    | some s => some (.normal, { t := s.t, n := fr.n, marks := fr.marks }, { next := s.h.next, low := min h.low s.h.low, objs := s.h.objs })
    | none => none
  | c => fsStep P orc rec rnd c fr h
def fsCodeX (P : Program) (orc : FuncId → List Value → Heap → Option (Value × Heap)) : Nat → Rec
  | 0 => fun _ _ _ _ => none
  | n + 1 => fsStepX P orc (fsCodeX P orc n)

theorem HR.low {ρ : Ren} {S : Nat → Prop} {h : Heap} {w : World} (hr : HR P ρ S B w0 h w) (l : Nat) : HR P ρ S B w0 { next := h.next, low := l, objs := h.objs } w :=
  { objs := hr.objs, inj := hr.inj, base := hr.base, ro := hr.ro, ids := hr.ids, pos := hr.pos, below := hr.below, size := hr.size }
theorem Moved.lowered {ρ ρ' : Ren} {S : Nat → Prop} {h h' : Heap} {w w' : World} {l : Nat} (m : Moved P B w0 ρ ρ' S { next := h.next, low := l, objs := h.objs } h' w w') :
    Moved P B w0 ρ ρ' S h { next := h'.next, low := min h.low h'.low, objs := h'.objs } w w' where
  agree := m.agree
  next := m.next
  hr := m.hr.low _
  frame := ⟨m.frame.os, m.frame.tape, m.frame.output, m.frame.size, m.frame.block⟩
  low := Nat.min_le_left _ _
  keep := fun i hi hl => m.keep i hi (Nat.lt_of_lt_of_le hl (Nat.min_le_right _ _))
  old := m.old
  fresh := fun i o ho hi => by
    obtain ⟨h1, h2⟩ := m.fresh i o ho hi
    refine ⟨h1, ?_⟩
    rcases h2 with h2 | ⟨j, oj, h3, h4, h5, h6, h7⟩
    · exact .inl h2
    · exact .inr ⟨j, oj, h3, h4, h5, Nat.le_trans (Nat.min_le_right _ _) h6, h7⟩
theorem stepX_sound (hP : ProgOk P) {orc : FuncId → List Value → Heap → Option (Value × Heap)} (horc : CallSound P B w0 orc) {m : Nat} {rec : Rec} (hrec : SoundR P B w0 m rec) : SoundR P B w0 (m + 1) (fsStepX P orc rec) := by
  have hcs : CallSnd P B w0 (callOf P orc rec) := call_sound hP horc hrec
  have hys : YieldSound P B w0 (fsYield rec) := yield_sound hrec
  have hold := step_sound hP horc hrec
  intro rnd c fr h e fr' h' hok hf
  cases c with
  | region id ops draw =>
    cases draw with
    | false => exact hold rnd _ fr h e fr' h' hok hf
    | true =>
      intro ρ S w a nn Q hr ht hm hs k
      simp only [fsStepX] at hf
      split at hf
      · rename_i s hrun
        simp only [Option.some.injEq, Prod.mk.injEq] at hf
        obtain ⟨rfl, rfl, rfl⟩ := hf
        refine wpIn_region_draw fun t => ?_
        rw [hP.mixed]
        exact drawn_wpX (h0 := { next := h.next, low := h.next, objs := h.objs }) (call := callOf P orc rec) (yield := fsYield rec) hcs hys hok hrun ((hr.drew _).low _) ht (fun ρ1 w1 a1 m1 ht1 hd1 => k _ _ _ ⟨(Moved.ofDrew m1).lowered, ht1, by rw [hd1]; exact hm.mono fun b hb => ⟨.inl hb, m1.agree b hb⟩⟩) t
      · cases hf
  | _ => exact hold rnd _ fr h e fr' h' hok hf

theorem codeX_sound (hP : ProgOk P) {orc : FuncId → List Value → Heap → Option (Value × Heap)} (horc : CallSound P B w0 orc) : ∀ m, SoundR P B w0 m (fsCodeX P orc m)
  | 0 => fun rnd c fr h e fr' h' _ hf => by cases hf
  | m + 1 => stepX_sound hP horc (codeX_sound hP horc m)
theorem fsX_calls (hP : ProgOk P) {orc : FuncId → List Value → Heap → Option (Value × Heap)} (horc : CallSound P B w0 orc) (m : Nat) : CallSound P B w0 (fsEnter P (fsCodeX P orc m)) := enter_sound hP (codeX_sound hP horc m)
theorem fsX_closed (hP : ProgOk P) {w : World} {orc : FuncId → List Value → Heap → Option (Value × Heap)} (horc : CallSound P w.heap.size w orc) {m : Nat} {f : FuncId} {args : List Value} {v : Value} (ha : args.all af = true)
    (hf : (fsEnter P (fsCodeX P orc m) f args ⟨1, 1, []⟩).map (·.1) = some v) (hv : af v = true) :
    Calls P f args.toArray w fun | .returned v', w' => v' = v ∧ Below w.heap.size w w' | _, _ => False := by
  obtain ⟨⟨v0, h0⟩, h1, h2⟩ := Option.map_eq_some_iff.1 hf
  simp only at h2
  subst h2
  have hr : HR P (fun _ => ⟨0, 0, 0, 0⟩) (fun _ => False) w.heap.size w ⟨1, 1, []⟩ w :=
    { objs := fun i o hi => (by cases hi), inj := fun i j oi oj hi => (by cases hi), base := fun i o hi => (by cases hi), ro := fun i o hi => (by cases hi), ids := fun b hb => hb.elim, pos := by decide,
      below := Below.refl _ _, size := Nat.le_refl _ }
  have hc := ((fsX_calls hP horc m) f args _ _ _ h1).2 _ _ w args hr ⟨rfl, fun i hi => .of_af (List.all_eq_true.1 ha _ (mem_getD hi))⟩ 0
  refine Calls.mono (callsIn_wide.1 hc) fun e w' he => ?_
  cases e with
  | returned v' =>
    obtain ⟨ρ', m1, hv1⟩ := he
    exact ⟨hv1.eq_of_af hv, m1.hr.below⟩
  | panicked c => exact he.elim
  | outgrown => exact he.elim
theorem awakeX_calls (hP : ProgOk P) {B : Nat} {w0 : World} {O : FuncId → List Value → Heap → Option (Value × Heap)} {fa : FuncId} (hS : ∀ w, Below B w0 w → CallSound P w.heap.size w O) {m : Nat}
    (hrun : (fsEnter P (fsCodeX P O m) fa [] ⟨1, 1, []⟩).map (·.1) = some (.bool true)) (w : World) (hw : Below B w0 w) :
    Calls P fa #[] w fun | .returned v', w' => v' = .bool true ∧ Below w.heap.size w w' | _, _ => False :=
  fsX_closed hP (hS w hw) (args := []) rfl hrun rfl
end Go.Fs
namespace Go.Fs
variable {P : Program} {orc : FuncId → List Value → Heap → Option (Value × Heap)}
def runPre (P : Program) (orc : FuncId → List Value → Heap → Option (Value × Heap)) : Nat → Nat → Code → Fr → Heap → Option (Nat × Code × Fr × Heap)
  | 0, n, c, fr, h => some (n, c, fr, h)
  | k + 1, n, c, fr, h => match n, c with
    | n + 1, .seq a b => match fsCodeX P orc n none a fr h with
      | some (.normal, fr1, h1) => runPre P orc k n b fr1 h1
      | _ => none
    | _, _ => none
theorem run_via : ∀ {k n : Nat} {c : Code} {fr : Fr} {h : Heap} {n' : Nat} {c' : Code} {fr' : Fr} {h' : Heap}, runPre P orc k n c fr h = some (n', c', fr', h') → fsCodeX P orc n none c fr h = fsCodeX P orc n' none c' fr' h'
  | 0, n, c, fr, h, n', c', fr', h', hr => by
    simp only [runPre, Option.some.injEq, Prod.mk.injEq] at hr
    obtain ⟨rfl, rfl, rfl, rfl⟩ := hr
    rfl
  | k + 1, n, c, fr, h, n', c', fr', h', hr => by
    simp only [runPre] at hr
    split at hr
    · rename_i n a b
      split at hr
      · rename_i fr1 h1 ha
        rw [← run_via hr]
        show fsStep P orc (fsCodeX P orc n) none (.seq a b) fr h = _
        simp only [fsStep, ha]
      · cases hr
    · cases hr
def endV (P : Program) (fn : Func) (h : Heap) (x : Ex × Fr × Heap) : Option Value :=
  bif x.1.goes then
    match dropMarks x.2.1.marks x.2.2 with
    | some h2 => (fsResults P x.2.1.t h2 fn.results.toList).map tupled
    | none => none
  else none
theorem enter_map {rec : Rec} {f : FuncId} {args : List Value} {h : Heap} {fn : Func} {c : Code} (hf : P.funcs[f]? = some fn) (hc : fn.body = some c) (hn : (Nat.blt 4000 fn.ntmps || Nat.blt fn.ntmps args.length) = false) :
    (fsEnter P rec f args h).map (·.1) = (rec none c ⟨fillTr .leaf 0 args, fn.ntmps, []⟩ { next := h.next, low := h.next, objs := h.objs }).bind (endV P fn h) := by
  unfold fsEnter fsEnterK endV
  simp only [hf, hc, hn, cond_false]
  cases rec none c ⟨fillTr .leaf 0 args, fn.ntmps, []⟩ { next := h.next, low := h.next, objs := h.objs } with
  | none => rfl
  | some x =>
    obtain ⟨e, fr, h1⟩ := x
    simp only [Option.bind_some]
    cases e.goes with
    | false => rfl
    | true =>
      simp only [cond_true]
      cases dropMarks fr.marks h1 with
      | none => rfl
      | some h2 =>
        simp only
        cases fsResults P fr.t h2 fn.results.toList with
        | none => rfl
        | some vs =>
          simp only [Option.map_some]
          generalize (!false && (af (tupled vs) && Nat.ble h.next h2.low)) = q
          cases q <;> rfl
def sufx : Nat → Code → Code
  | 0, c => c
  | k + 1, .seq _ b => sufx k b
  | _ + 1, c => c
def rfOf : Code → Option (Array Tmp × Code × Code)
  | .rangeFunc _ ps a b => some (ps, a, b)
  | .seq a b => (rfOf a).or (rfOf b)
  | .cond _ a b => (rfOf a).or (rfOf b)
  | .block _ b => rfOf b
  | .loop b => rfOf b
  | .scope b => rfOf b
  | _ => none
def rfIn (fn : Func) : Array Tmp × Code × Code := (fn.body.bind rfOf).getD (#[], .skip, .skip)
end Go.Fs
