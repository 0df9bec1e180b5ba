/- Parts of the proof: an evaluator of the model, what it is sound for, and contracts of functions. No condition. -/
import Derived.Test.YtjmkmalgfanifaaGreatDoorP5
import Derived.Test.YtjmkmalgfanifaaGreatDoorP3
import Derived.Test.YtjmkmalgfanifaaGreatDoorP2
import Derived.Shelf.Strings.Builder1
import Derived.Shelf.Strings.Builder2
import Derived.Shelf.Strings.OnBuilder
import Derived.Shelf.Small.Bits
import Derived.Shelf.Strings.BuilderF
import Derived.Shelf.Strconv.Itoa0
import Derived.Shelf.Strconv.Itoa1
import Derived.Shelf.LaysM
import Derived.Shelf.Strconv.Itoa2
import Derived.Shelf.Strconv.Itoa3
import Derived.Test.YtjmkmalgfanifaaGreatDoorProg
import Derived.Lib.AppendIntMem
import Derived.Test.YtjmkmalgfanifaaGreatDoorChecked
import Derived.KernelRfl
set_option linter.all false
namespace Go.Proofs
open Go.Fs
set_option maxHeartbeats 1000000
end Go.Proofs
namespace Go.Proofs
open Go.Fs
set_option maxHeartbeats 1000000
theorem shortP_t {l : List Pha} (h : shortP l = true) : (∀ x ∈ l, x.1.size ≤ 40 ∧ x.2.2.2.length ≤ 8) ∧ (l.length ≤ 7 ∨ l.length = 17) := of_decide_eq_true h
end Go.Proofs
namespace Go.Fs
variable {P : Program} {fl : VL} {σ γ : Sto} {Q : PV → Sto → Prop} {fn : Func} {τ : Ty}
end Go.Fs
namespace Go.Proofs
open Go.Fs
set_option maxHeartbeats 1000000
theorem cTime_ok {n : Int} : VF Tryz.prog OA 104 [I n] (I (rangeE n 0 100000)) := by
  refine VF.enter Tryz.func104 rfl (fun _ _ => rfl) rfl ?_; show VC _ _ _ _ _ [(0, I n)] [] _; refine VC.seq (VC.text ?_); refine VO.c (.assign rfl) ?_; refine VO.go (VC.seq (VC.text ?_)); refine VO.c (.move rfl) ?_; refine VO.call rfl rfl (VF.call (cWithin_ok )) ?_; refine VO.c (.assign rfl) (VO.go ?_); refine VC.ret ?_; exact VEnd.one rfl evT (pvI (by rfl))
theorem rTime_ok {n : Int} : VF Tryz.prog OA 30 [I n] (I (rangeE n 0 100000)) := by
  refine VF.enter Tryz.func30 rfl (fun _ _ => rfl) rfl ?_; show VC _ _ _ _ _ [(0, I n)] [] _; refine VC.seq (VC.text ?_); refine VO.c (.assign rfl) ?_; refine VO.go (VC.seq (VC.text ?_)); refine VO.c (.move rfl) ?_; refine VO.call rfl rfl (VF.call (rCheckRange_ok )) ?_; refine VO.c (.assign rfl) (VO.go ?_); refine VC.ret ?_; exact VEnd.one rfl evT (pvI (by rfl))
def badE (l : List Pha) (dl : Int) : Int := firstE [planE l, rangeE dl 0 100000]
def latE (l : List Pha) (dl : Int) : Int := if badE l dl = 0 then whenE (decide (dl < (durE l).2)) 24 else badE l dl
def latL (l : List Pha) (dl : Int) : List Int := (chnL (dE true) l).map fun n => dl - n
def latR (l : List Pha) (dl : Int) : List Int := if latE l dl = 0 then latL l dl else []
def slaF (l : List Pha) (dl : Int) (i : Nat) : Int := dl - chnF (dE true) l i - begF (dE true) l i
def slaL (l : List Pha) (dl : Int) : List Int := (List.range l.length).map (slaF l dl)
def slaR (l : List Pha) (dl : Int) : List Int := if latE l dl = 0 then slaL l dl else []
end Go.Proofs
namespace Go.Proofs
open Go.Fs
set_option maxHeartbeats 1000000
end Go.Proofs
namespace Go.Proofs
open Go.Fs
set_option maxHeartbeats 1000000
end Go.Proofs
namespace Go.Fs
variable {P : Program} {orc : FuncId → List Value → Heap → Option (Value × Heap)} {rnd : Option Nat} {h h' h0 h1 h2 : Heap} {S S' S0 B G : List Nat} {σ σ' σr : Sto} {t t' : Tr} {ms : List Nat} {fl : VL} {ops : Array Oper} {n i mem : Nat} {l : List Oper} {K : VL → Sto → Prop} {Q : Ex → VL → Sto → Prop}
  {d : Tmp} {ty : TypeId} {pos : String} {after : Array Edge} {op : Op} {v pv : PV} {g : Option (Nat × Bool)} {x y z : Operand} {T T' e : TypeId} {τ τ' : Ty} {bs nw : List Nat} {segs : List (Nat × Nat × Nat)} {tail so : Bool} {w w' : Value} {c c' : Cell}
end Go.Fs
namespace Go.Fs
variable {P : Program} {fl : VL} {σ : Sto} {T : TypeId} {τ : Ty} {h : Heap} {S : List Nat}
inductive PartP : PV → List PV → Prop where
  | v {τ : Ty} {x : τ.den} : PartP (.v τ x) (cellsPV τ x)
  | w {w : Value} (ho : oneCell w = true) : PartP (.raw w) [.raw w]
inductive BldR (pl : List (Nat × Nat)) : List PV → List Nat → List PV → List PV → Prop where
  | nil {L L' : List PV} (h : L = L') : BldR pl L [] [] L'
  | cons {L L' : List PV} {i o : Nat} {is : List Nat} {p : PV} {ps qs : List PV} (hp : PartP p qs) (hpl : pl[i]? = some (o, qs.length)) (ho : Nat.ble (o + qs.length) L.length = true) (r : BldR pl (spl L o qs) is ps L') : BldR pl L (i :: is) (p :: ps) L'
end Go.Fs
namespace Go.Fs
variable {P : Program} {fl : VL} {σ : Sto} {T T' : TypeId} {x y : Operand} {p q : Int}
end Go.Fs
namespace Go.Fs
variable {P : Program} {orc : FuncId → List Value → Heap → Option (Value × Heap)} {h : Heap} {σ ρ : Sto} {fl : VL} {ops : Array Oper} {n i mem : Nat} {l : List Oper} {K : VL → Sto → Prop} {nw bs : List Nat} {tl : Bool} {hr : Heap} {S0 A : List Nat} {t : Tr} {rd chg : List Nat}
end Go.Fs
namespace Go.Fs
variable {P : Program} {orc : FuncId → List Value → Heap → Option (Value × Heap)} {rnd : Option Nat} {h h' h0 h1 h2 hr : Heap} {S S' S0 B G A : List Nat} {σ σ' σr ρ : Sto} {t t' : Tr} {ms : List Nat} {fl : VL} {ops : Array Oper} {n i mem : Nat} {l : List Oper} {K : VL → Sto → Prop}
  {d : Tmp} {ty : TypeId} {pos : String} {after : Array Edge} {op : Op} {v pv : PV} {g : Option (Nat × Bool)} {x y z : Operand} {T T' e : TypeId} {τ τ' : Ty} {bs nw rd chg : List Nat} {segs : List (Nat × Nat × Nat)} {tail tl : Bool} {w w' : Value}
theorem TurnV.storeE {xs : List τ.den} {q : Value} {s j : Nat} (hx : evV fl x = some (.raw q)) (hq : q = ptrAt w s j ∨ ∃ k, q = padd (ptrAt w s j) k) (hj : j < xs.length) : TurnV P fl (.store T x y) w (.row e τ xs) := ⟨rfl, fun h h' S t u d ty pos after g hs hc _ => by
  have hxq : evalO t x = q := (hs x (by simp [Op.operands]) _ hx : RepPV _ _ (.raw q) _); rcases hc with ⟨_, rfl⟩ | ⟨b0, rs, m, h1, h2, h3, h4⟩
  · simp at hj
  obtain ⟨o0, hqb⟩ : ∃ o0, q = .pointer (some ⟨b0, o0, none⟩) := by
    rcases hq with hq | ⟨k, hq⟩
    · exact ⟨0 + j * s, by rw [hq, h1]; rfl⟩
    exact ⟨0 + j * s + k, by rw [hq, h1]; rfl⟩
  have ht : turned (.store T x y) (evalO t) = some b0 := by simp only [turned, hxq, hqb]
  refine ⟨fun k hk => ?_, .inr ⟨b0, ht⟩⟩; rw [ht] at hk; obtain rfl := Option.some.inj hk
  rw [h1]; exact List.mem_cons_self⟩
theorem VLt.cR {b : Nat} {q : Value} (hc : CalmV P fl σ op (.raw q)) (hk : VLt P orc ops n l (i + 1) ((d, .raw q) :: fl) (nwSet true d nw) σ ρ (bs ++ [b]) mem tl K)
    (hb : beforeOf bs ⟨some d, op, ty, pos, after, g⟩ = b := by rfl) (hw : wantV ops fl g = some true := by rfl) (hn : (Nat.blt d n && Nat.ble n 4000) = true := by rfl) :
    VLt P orc ops n (⟨some d, op, ty, pos, after, g⟩ :: l) i fl nw σ ρ bs mem tl K := fun hr h0 G S0 A t h ms rd chg segs tail ht I L => by
  obtain ⟨n1, n2⟩ := fits hn; obtain ⟨u, e1, e2⟩ := hc.2 h (own σ ++ S0) t I.slots.sees I.cells; refine EvL.opr (x' := (⟨t.set depth d u, h, bs ++ [b], segs, mem, tail⟩, rd, chg)) ?_ (hk hr h0 G S0 A _ h ms rd chg segs tail ht (I.set e1 n2) (L.set n2 fun _ => (e1 : u = q))); unfold lateDraw; have hwt : fsWanted ops t ⟨some d, op, ty, pos, after, g⟩ = some true := want_ok I.slots hw; simp only [hwt, hc.1, if_true, e2, Nat.beq_refl, cond_true, put_fits n1, Option.map_some, hb]
end Go.Fs
namespace Go.Proofs
open Go.Fs
set_option maxHeartbeats 4000000
structure ChnH (l : List Pha) (more dl : Int) : Prop where
  hz : planE l = 0
  h7 : l.length ≤ 7
  hdl : dl = (durR l).2 + more
  mo : 0 ≤ more ∧ more < 256
  hi : 0 ≤ (durR l).2 ∧ (durR l).2 ≤ 16000
  lat0 : latE l dl = 0
  latn : (latR l dl).length = l.length
  slan : (slaR l dl).length = l.length
  crin : (criR l).length ≤ l.length
end Go.Proofs
namespace Go.Proofs
open Go.Fs
set_option maxHeartbeats 1000000
def rdyE (dn b : List Int) : Nat → Bool
  | 0 => true
  | k + 1 => rdyE dn b k && decide (0 ≤ dn.getD (b.getD k 0).toNat 0)
theorem rdyE_iff {dn b : List Int} : ∀ {k : Nat}, rdyE dn b k = true ↔ ∀ j, j < k → 0 ≤ dn.getD (b.getD j 0).toNat 0
  | 0 => ⟨fun _ j hj => by omega, fun _ => rfl⟩
  | k + 1 => by
    have ih := rdyE_iff (dn := dn) (b := b) (k := k); show (rdyE dn b k && decide _) = true ↔ _; rw [Bool.and_eq_true, ih, decide_eq_true_eq]; constructor
    · rintro ⟨h1, h2⟩ j hj; by_cases e : j = k
      · subst e; exact h2
      exact h1 j (by omega)
    exact fun h => ⟨fun j hj => h j (by omega), h k (by omega)⟩
def finF (d : Pha → Int) (l : List Pha) (dn : List Int) (now : Int) (E : List Int) (i : Nat) : Int := if 0 ≤ dn.getD i 0 then dn.getD i 0 else max (begE E (phA l i).2.2.2 (phA l i).2.2.2.length + d (phA l i)) now
def finL (d : Pha → Int) (l : List Pha) (dn : List Int) (now : Int) : Nat → List Int
  | 0 => []
  | i + 1 => finL d l dn now i ++ [finF d l dn now (finL d l dn now i) i]
theorem finL_len {d : Pha → Int} {l : List Pha} {dn : List Int} {now : Int} : ∀ {i : Nat}, (finL d l dn now i).length = i
  | 0 => rfl
  | i + 1 => by show (finL d l dn now i ++ [_]).length = _; rw [List.length_append, finL_len] <;> rfl
theorem finL_get {d : Pha → Int} {l : List Pha} {dn : List Int} {now : Int} {p : Nat} : ∀ {i : Nat}, p < i → (finL d l dn now i).getD p 0 = finF d l dn now (finL d l dn now p) p
  | 0, h => by omega
  | i + 1, h => by
    show (finL d l dn now i ++ [_]).getD p 0 = _; by_cases e : p = i
    · subst e; rw [List.getD_eq_getElem?_getD, List.getElem?_append_right (by rw [finL_len]; exact Nat.le_refl _), finL_len, Nat.sub_self] <;> rfl
    rw [List.getD_eq_getElem?_getD, List.getElem?_append_left (by rw [finL_len]; omega), ← List.getD_eq_getElem?_getD, finL_get (by omega)]
theorem finL_big {d : Pha → Int} {l : List Pha} {dn : List Int} {now : Int} {i p : Nat} (h : i ≤ p) : (finL d l dn now i).getD p 0 = 0 := by
  rw [List.getD_eq_getElem?_getD, List.getElem?_eq_none (by rw [finL_len]; exact h)] <;> rfl
theorem finL_done {d : Pha → Int} {l : List Pha} {dn : List Int} {now : Int} {i p : Nat} (h : p < i) (hd : 0 ≤ dn.getD p 0) : (finL d l dn now i).getD p 0 = dn.getD p 0 := by
  rw [finL_get h, finF, if_pos hd]
theorem finL_now {d : Pha → Int} {l : List Pha} {dn : List Int} {now : Int} {i p : Nat} (h : p < i) (hd : ¬ 0 ≤ dn.getD p 0) : now ≤ (finL d l dn now i).getD p 0 := by
  rw [finL_get h, finF, if_neg hd]; exact Int.le_max_right _ _
structure DoneOk (l : List Pha) (dn : List Int) (now : Int) : Prop where
  len : dn.length = l.length
  bnd : ∀ i, i < dn.length → -1 ≤ dn.getD i 0 ∧ dn.getD i 0 ≤ 100000
  now : 0 ≤ now ∧ now ≤ 100000
theorem fin_b {d : Pha → Int} {l : List Pha} {dn : List Int} {now : Int} (hd : DurOk d l) (h : DoneOk l dn now) : ∀ i, i ≤ l.length → ∀ p, 0 ≤ (finL d l dn now i).getD p 0 ∧ (finL d l dn now i).getD p 0 ≤ 100000 + 1000 * ((i : Nat) : Int)
  | 0, _, p => ⟨by simp [finL], by simp [finL]⟩
  | i + 1, hi, p => by
    have ih := fin_b hd h i (by omega); by_cases hp : p < i
    · have := ih p; rw [finL_get hp] at this; rw [finL_get (by omega)]; omega
    by_cases e : p = i
    · subst e; rw [finL_get (by omega)]; have h1 := begE_b (b := (phA l p).2.2.2) (by omega) ih (phA l p).2.2.2.length; have h2 := hd p (by omega); have h3 := h.bnd p (by rw [h.len]; omega); have h4 := h.now; unfold finF; split <;> omega
    rw [finL_big (by omega)]; omega
theorem finB_b {d : Pha → Int} {l : List Pha} {dn : List Int} {now : Int} (hd : DurOk d l) (h : DoneOk l dn now) {i : Nat} (hi : i ≤ l.length) (k : Nat) : 0 ≤ begE (finL d l dn now i) (phA l i).2.2.2 k ∧ begE (finL d l dn now i) (phA l i).2.2.2 k ≤ 100000 + 1000 * ((i : Nat) : Int) := begE_b (by omega) (fin_b hd h i hi) k
def cflE (l : List Pha) (dn : List Int) (now : Int) (i : Nat) : Bool :=
  let low := begE (finL (dE false) l dn now i) (phA l i).2.2.2 (phA l i).2.2.2.length
  let r := rdyE dn (phA l i).2.2.2 (phA l i).2.2.2.length
  if 0 ≤ dn.getD i 0 then !r || decide (now < dn.getD i 0) || decide (dn.getD i 0 - low < (phA l i).2.1) || decide ((phA l i).2.2.1 < dn.getD i 0 - low) else r && decide (low + (phA l i).2.2.1 < now)
def posE (l : List Pha) (dn : List Int) (now : Int) : Bool := decide (∀ i, i < l.length → cflE l dn now i = false)
theorem posE_f {l : List Pha} {dn : List Int} {now : Int} {i : Nat} (hi : i < l.length) (h : cflE l dn now i = true) : posE l dn now = false := decide_eq_false fun hh => by rw [hh i hi] at h; cases h
theorem posE_t {l : List Pha} {dn : List Int} {now : Int} (h : ∀ i, i < l.length → cflE l dn now i = false) : posE l dn now = true := decide_eq_true h
theorem rdy_beg {d : Pha → Int} {l : List Pha} {dn : List Int} {now : Int} (hp : PlanOk l) {i : Nat} (hi : i < l.length) : ∀ {k : Nat}, k ≤ (phA l i).2.2.2.length → rdyE dn (phA l i).2.2.2 k = true → begE (finL d l dn now i) (phA l i).2.2.2 k = begE dn (phA l i).2.2.2 k := fun {k} hk h => by
  have h := rdyE_iff.1 h; refine begE_congr k fun j hj => ?_; have hb := hp.bef i hi j (by omega); exact finL_done (by omega) (h j hj)
theorem begE_ge {es b : List Int} : ∀ {k j : Nat}, j < k → es.getD (b.getD j 0).toNat 0 ≤ begE es b k
  | 0, j, h => by omega
  | k + 1, j, h => by
    show _ ≤ max _ _; by_cases e : j = k
    · subst e; exact Int.le_max_right _ _
    exact Int.le_trans (begE_ge (by omega)) (Int.le_max_left _ _)
theorem rdy_no {dn b : List Int} : ∀ {k : Nat}, rdyE dn b k = false → ∃ j, j < k ∧ ¬ 0 ≤ dn.getD (b.getD j 0).toNat 0
  | 0, h => by cases h
  | k + 1, h => by
    by_cases h1 : rdyE dn b k = true
    · refine ⟨k, Nat.lt_succ_self _, fun h2 => ?_⟩; have : (rdyE dn b k && decide (0 ≤ dn.getD (b.getD k 0).toNat 0)) = false := h; rw [h1, decide_eq_true h2] at this; cases this
    obtain ⟨j, hj, h2⟩ := rdy_no (k := k) (by simpa using h1); exact ⟨j, by omega, h2⟩
theorem long_now {l : List Pha} {dn : List Int} {now : Int} (hp : PlanOk l) {i : Nat} (hi : i < l.length) (hn : ¬ 0 ≤ dn.getD i 0) (h : cflE l dn now i = false) : now ≤ begE (finL (dE true) l dn now i) (phA l i).2.2.2 (phA l i).2.2.2.length + (phA l i).2.2.1 := by
  cases hr : rdyE dn (phA l i).2.2.2 (phA l i).2.2.2.length with
  | true =>
    unfold cflE at h; simp only [if_neg hn, hr, Bool.true_and] at h; have h := of_decide_eq_false h; rw [rdy_beg hp hi (Nat.le_refl _) hr] at h ⊢
    omega
  | false =>
    obtain ⟨j, hj, h2⟩ := rdy_no hr; have hb := hp.bef i hi j hj; have h3 := finL_now (d := dE true) (l := l) (now := now) (i := i) (show ((phA l i).2.2.2.getD j 0).toNat < i by omega) h2; have h4 := begE_ge (es := finL (dE true) l dn now i) (b := (phA l i).2.2.2) hj; have h5 := hp.dur i hi; omega
def finW (d : Pha → Int) (l : List Pha) (dn : List Int) (now : Int) (i : Nat) : List Int := finL d l dn now i ++ dn.drop i
theorem finW_len {d : Pha → Int} {l : List Pha} {dn : List Int} {now : Int} {i : Nat} (h : i ≤ dn.length) : (finW d l dn now i).length = dn.length := by
  unfold finW; rw [List.length_append, finL_len, List.length_drop]; omega
theorem finW_low {d : Pha → Int} {l : List Pha} {dn : List Int} {now : Int} {i p : Nat} (h : p < i) : (finW d l dn now i).getD p 0 = (finL d l dn now i).getD p 0 := by
  unfold finW; rw [List.getD_eq_getElem?_getD, List.getElem?_append_left (by rw [finL_len]; exact h), ← List.getD_eq_getElem?_getD]
theorem finW_at {d : Pha → Int} {l : List Pha} {dn : List Int} {now : Int} {i : Nat} : (finW d l dn now i).getD i 0 = dn.getD i 0 := by
  unfold finW; rw [List.getD_eq_getElem?_getD, List.getElem?_append_right (by rw [finL_len]; exact Nat.le_refl _), finL_len, Nat.sub_self, List.getElem?_drop, Nat.add_zero, ← List.getD_eq_getElem?_getD]
theorem finW_set {d : Pha → Int} {l : List Pha} {dn : List Int} {now : Int} {i : Nat} (hi : i < dn.length) {v : Int} (hv : v = finF d l dn now (finL d l dn now i) i) : (finW d l dn now i).set i v = finW d l dn now (i + 1) := by
  unfold finW; rw [List.set_append_right _ _ (by rw [finL_len]; exact Nat.le_refl _), finL_len, Nat.sub_self, List.drop_eq_getElem_cons hi, List.set_cons_zero, hv]; show _ = (finL d l dn now i ++ [_]) ++ _; rw [List.append_assoc] <;> rfl
theorem finW_done {d : Pha → Int} {l : List Pha} {dn : List Int} {now : Int} {i : Nat} (hi : i < dn.length) (hd : 0 ≤ dn.getD i 0) : finW d l dn now i = finW d l dn now (i + 1) := by
  rw [← finW_set hi rfl, finF, if_pos hd]
  have h1 : i < (finW d l dn now i).length := by rw [finW_len (by omega)]; exact hi
  have h2 := finW_at (d := d) (l := l) (dn := dn) (now := now) (i := i); rw [getDg h1] at h2; rw [← h2, List.set_getElem_self]
theorem finW_end {d : Pha → Int} {l : List Pha} {dn : List Int} {now : Int} {i : Nat} (h : dn.length ≤ i) : finW d l dn now i = finL d l dn now i := by
  unfold finW; rw [List.drop_eq_nil_of_le h, List.append_nil]
def endE (l : List Pha) (dn : List Int) (now : Int) (long : Bool) : Int := maxL (finL (dE long) l dn now l.length)
def prgE (l : List Pha) (dn : List Int) (now : Int) : Int := if posE l dn now = true then 0 else 30
def prgR (l : List Pha) (dn : List Int) (now : Int) : Int × Int := if posE l dn now = true then (endE l dn now false, endE l dn now true) else (0, 0)
end Go.Proofs
namespace Go.Proofs
open Go.Fs
set_option maxHeartbeats 4000000
variable {d : Pha → Int} {l : List Pha} {i k j : Nat} {s : Int}
end Go.Proofs
namespace Go.Fs
variable {P : Program} {orc : FuncId → List Value → Heap → Option (Value × Heap)} {rnd : Option Nat} {h h' h0 h1 h2 : Heap} {S S' S0 B G : List Nat} {σ σ' : Sto} {t t' : Tr} {ms : List Nat} {fl : VL} {ops : Array Oper} {n : Nat} {l : List Oper} {K : VL → Sto → Prop} {Q : Ex → VL → Sto → Prop}
  {d : Tmp} {ty : TypeId} {pos : String} {after : Array Edge} {op : Op} {v : PV} {g : Option (Nat × Bool)}
theorem GT.ptr (hG : GT h S) {v : GVar} (hv : v ∈ gTab) (ht : (P.globals[v.n]?).map (·.type) = some v.e) : gptr P h v.n = .pointer (some ⟨v.n + 1, 0, none⟩) ∧ RepP h S v.τ (.pointer (some ⟨v.n + 1, 0, none⟩)) v.x := by
  obtain ⟨vs, h1, h2, h3, h4⟩ := hG v hv; obtain ⟨gl, h5, h6⟩ := Option.map_eq_some_iff.1 ht; refine ⟨?_, v.n + 1, 0, v.e, vs, false, true, rfl, h2, h1, by omega, ?_⟩
  · unfold gptr; rw [h1, h5]; simp only [h6, Nat.beq_refl, cond_true]
  rw [List.drop_zero, ← h3, List.take_length]; exact h4 h S
end Go.Fs
namespace Go.Proofs
open Go.Fs
set_option maxHeartbeats 1000000
abbrev Shp := ByteArray × Int × Int × Int × Int
def shA (l : List Shp) (i : Nat) : Shp := l.getD i (ByteArray.empty, 0, 0, 0, 0)
end Go.Proofs
namespace Go.Proofs
open Go.Fs
set_option maxHeartbeats 1000000
abbrev y49 : Ty := (.pair (.int .i64) (.int .i64))
structure ShpOk (l : List Shp) : Prop where
  len : l.length ≤ 8
  arr : ∀ i, 0 ≤ (shA l i).2.1 ∧ (shA l i).2.1 ≤ 100000
  lng : ∀ i, 0 ≤ (shA l i).2.2.1 ∧ (shA l i).2.2.1 ≤ 1000
  pri : ∀ i, 0 ≤ (shA l i).2.2.2.2 ∧ (shA l i).2.2.2.2 ≤ 1000
end Go.Proofs
namespace Go.Proofs
open Go.Fs
set_option maxHeartbeats 1000000
end Go.Proofs
namespace Go.Proofs
open Go.Fs
set_option maxHeartbeats 1000000
end Go.Proofs
namespace Go.Proofs
open Go.Fs
set_option maxHeartbeats 1000000
end Go.Proofs
namespace Go.Fs
variable {P : Program} {σ : Sto} {fl : VL} {x y : Operand} {T : TypeId} {τ : Ty}
def arrNB (P : Program) (T e : TypeId) (m k : Nat) : Bool := match P.underlying T with
  | some (.array n e') => Nat.beq n m && Nat.beq e' e && (match P.info? e with | some i => Nat.beq i.size k | none => false)
  | _ => false
theorem ReadV.arr3 {a b c : τ.den} (e : TypeId) (hb : arrNB P T e 3 τ.size = true := by kernel_rfl) (hx : evV fl x = some (.p (.pair τ (.pair τ τ)) (a, b, c)) := by rfl) : ReadV P fl σ (.slice T x none none none) (.v (.sl τ) [a, b, c]) :=
  ⟨rfl, fun h S t hs _ => by
    have hp : RepP h S (.pair τ (.pair τ τ)) (evalO t x) (a, b, c) := hs x (by simp [Op.operands]) _ hx; obtain ⟨bb, o, e', rs, own, more, h1, h2, h3, h4, h5⟩ := hp; have h4 : o + (τ.size + (τ.size + τ.size)) ≤ rs.length := h4; have h5 : RepC h S τ (((rs.drop o).take (τ.size + (τ.size + τ.size))).take τ.size) a ∧ RepC h S τ ((((rs.drop o).take (τ.size + (τ.size + τ.size))).drop τ.size).take τ.size) b ∧ RepC h S τ ((((rs.drop o).take (τ.size + (τ.size + τ.size))).drop τ.size).drop τ.size) c := h5; refine ⟨.slice (some ⟨bb, o, none⟩) 3 1, SlV.rep (.inr ⟨bb, o, 1, rfl, .inr ⟨h2, e', rs, own, more, h3, by show o + 3 * τ.size ≤ _; omega, fun i hi => ?_⟩⟩), fun H _ _ _ _ _ _ => ?_⟩
    · have hi : i < 3 := hi; rcases i with _ | _ | _ | i
      · have := h5.1; rw [List.take_take, Nat.min_eq_left (by omega)] at this; rw [Nat.zero_mul, Nat.add_zero]; exact this
      · have := h5.2.1; rw [List.drop_take, List.drop_drop, List.take_take, Nat.min_eq_left (by omega)] at this; rw [show o + (0 + 1) * τ.size = o + τ.size by omega]; exact this
      · have := h5.2.2; rw [List.drop_take, List.drop_drop, List.drop_take, List.drop_drop] at this; rw [show o + (0 + 1 + 1) * τ.size = o + τ.size + τ.size by omega]; rw [show τ.size + (τ.size + τ.size) - τ.size - τ.size = τ.size by omega] at this; exact this
      omega
    show (fsSlice P T (evalO t x) none none none H).map _ = _; rw [h1]; unfold arrNB at hb; split at hb
    · rename_i n e2 hu; obtain ⟨b1, b2⟩ := band hb; obtain ⟨b3, b4⟩ := band b1; obtain rfl := nbeq b3; obtain rfl := nbeq b4; split at b2
      · rename_i i hi; unfold fsSlice; simp only [hu, hi, boundOf, Nat.zero_mul, Nat.add_zero]; rfl
      cases b2
    cases hb⟩
def arr3 {α : Type} (a b c : α) : Nat → α
  | 0 => a
  | 1 => b
  | _ => c
theorem CalmV.ixP3 {a b c : τ.den} (j : Nat) (hj : j < 3) (h0 : aofB P T 0 0 τ = true := by kernel_rfl) (h1 : aofB P T 1 τ.size τ = true := by kernel_rfl) (h2 : aofB P T 2 (τ.size + τ.size) τ = true := by kernel_rfl) (hx : evV fl x = some (.p (.pair τ (.pair τ τ)) (a, b, c)) := by rfl) (hy : evV fl y = some (.v (.int .i64) ((j : Nat) : Int)) := by rfl) : CalmV P fl σ (.indexAddr T x y) (.p τ (arr3 a b c j)) := by
  rcases j with _ | _ | _ | j
  · exact CalmV.ixP (k := 0) 0 (.l .o) h0 hx hy
  · exact CalmV.ixP (k := τ.size) 1 (.r (k := 0) (.l .o)) h1 hx hy
  · exact CalmV.ixP (k := τ.size + τ.size) 2 (.r (k := τ.size) (.r (k := 0) .o)) h2 hx hy
  omega
end Go.Fs
namespace Go.Fs
variable {P : Program} {orc : FuncId → List Value → Heap → Option (Value × Heap)} {rnd : Option Nat} {h h' h0 h1 h2 : Heap} {S S' S0 B G : List Nat} {σ σ' : Sto} {t t' : Tr} {ms : List Nat} {fl : VL} {ops : Array Oper} {n : Nat} {l : List Oper} {K : VL → Sto → Prop} {Q : Ex → VL → Sto → Prop}
  {d : Tmp} {ty : TypeId} {pos : String} {after : Array Edge} {op : Op} {v : PV} {g : Option (Nat × Bool)}
theorem step_slG {m : Nat} {T e : TypeId} {k z q : Nat} {u : Value} (hb : arrNB P T e z q = true) (hl : fsSlice P T (gptr P h k) none none none h = some u) (o : Oper) (ho : o.op = .slice T (.global k) none none none) : stepM P orc m o (evalO t) h = some (u, h) := by
  obtain ⟨dst, op, ty, pos, after, gd⟩ := o; subst ho
  have h0 : fsSlice P T junk none none none h = none := by
    unfold arrNB at hb; split at hb
    · rename_i n e2 hu; unfold fsSlice; simp only [hu]; rfl
    cases hb
  unfold stepM fsOpM
  have h1 : fsOp P (callOf P orc (fsCode P orc m)) (fsYield (fsCode P orc m)) ⟨dst, .slice T (.global k) none none none, ty, pos, after, gd⟩ (evalO t) h = none := by
    show (fsSlice P T junk none none none h).map _ = none; rw [h0]; rfl
  rw [h1]; show (bif true then (fsSlice P T (gptr P h k) none none none h).map (fun v => (v, h)) else none) = _; rw [hl]; rfl
theorem step_ixG {m : Nat} {T : TypeId} {k j q : Nat} {τ' : Ty} {u : Value} {y : Operand} (hb : aofB P T j q τ' = true) (hi : evalO t y = .int .i64 ((j : Nat) : Int)) (hy : ∀ z, y ≠ .global z) (hl : runPure P (Instr.indexAt T (gptr P h k) (.int .i64 ((j : Nat) : Int))) = some u) (o : Oper) (ho : o.op = .indexAddr T (.global k) y) : stepM P orc m o (evalO t) h = some (u, h) := by
  obtain ⟨dst, op, ty, pos, after, gd⟩ := o; subst ho
  have h0 : runPure P (Instr.indexAt T junk (.int .i64 ((j : Nat) : Int))) = none := by
    obtain ⟨m, e, i, u1, u2, u3, u4, u5⟩ := aofB_inv hb
    have h6 : (0 : Int) ≤ ((j : Nat) : Int) ∧ ((j : Nat) : Int) < (m : Nat) := by omega
    unfold Instr.indexAt; simp only [runPure_bind, asIntOf, runPure_pure, Option.bind_some, runPure_underlying u1]; rfl
  unfold stepM fsOpM
  have h1 : fsOp P (callOf P orc (fsCode P orc m)) (fsYield (fsCode P orc m)) ⟨dst, .indexAddr T (.global k) y, ty, pos, after, gd⟩ (evalO t) h = none := by
    show (if af (evalO t y) then (runPure P (Instr.indexAt T junk (evalO t y))).map _ else none) = none; rw [hi, h0]; split <;> rfl
  rw [h1]
  have hy2 : evG P h (evalO t) y = .int .i64 ((j : Nat) : Int) := by
    rw [← hi]
    cases y with
    | global z => exact absurd rfl (hy z)
    | _ => rfl
  show (bif true then (if af (evG P h (evalO t) y) then (runPure P (Instr.indexAt T (gptr P h k) (evG P h (evalO t) y))).map (fun v => (v, h)) else none) else none) = _; rw [hy2, hl]; rfl
theorem VO.slG {T : TypeId} {k : Nat} {e0 : TypeId} {τ : Ty} {a b c : τ.den} (hv : (⟨k, e0, .pair τ (.pair τ τ), (a, b, c)⟩ : GVar) ∈ gTab) (e : TypeId) (hk : VO P orc ops n l ((d, .v (.sl τ) [a, b, c]) :: fl) σ K) (hb : arrNB P T e 3 τ.size = true := by kernel_rfl) (ht : (P.globals[k]?).map (·.type) = some e0 := by kernel_rfl) (hw : wantV ops fl g = some true := by rfl) (hn : (Nat.blt d n && Nat.ble n 4000) = true := by rfl) :
    VO P orc ops n (⟨some d, .slice T (.global k) none none none, ty, pos, after, g⟩ :: l) fl σ K := fun h0 G S0 t h ms I => by
  obtain ⟨n1, n2⟩ := fits hn; obtain ⟨e1, e2⟩ := I.slots.1.ptr (P := P) hv ht
  have hR := (ReadV.arr3 (P := P) (σ := []) (fl := [(0, .p (.pair τ (.pair τ τ)) (a, b, c))]) (x := .tmp 0) (T := T) e hb rfl).2 h (Go.Fs.own σ ++ S0) (Tr.leaf.set depth 0 (.pointer (some ⟨k + 1, 0, none⟩)))
    (by
      intro x hx v hxv
      have hx : x = .tmp 0 := by simpa [Op.operands] using hx
      subst hx; obtain rfl := Option.some.inj hxv
      exact e2) (fun c hc => by cases hc)
  obtain ⟨u, hu, hs⟩ := hR; have hs := hs h (fun b o hb => hb) none ty pos after none; have hs : (fsSlice P T (.pointer (some ⟨k + 1, 0, none⟩)) none none none h).map (fun v => (v, h)) = some (u, h) := hs; obtain ⟨u', hu', he⟩ := Option.map_eq_some_iff.1 hs; obtain rfl : u' = u := congrArg Prod.fst he; obtain ⟨m, t2, h2, hr, hq⟩ := hk h0 G S0 _ h ms (I.set (hu : RepPV h _ (.v (.sl τ) [a, b, c]) _) n2); refine ⟨m, t2, h2, ?_, hq⟩; simp only [fsOps, want_ok (o := ⟨some d, .slice T (.global k) none none none, ty, pos, after, g⟩) I.slots hw, step_slG (orc := orc) (m := m) (t := t) hb (by rw [e1]; exact hu') ⟨some d, .slice T (.global k) none none none, ty, pos, after, g⟩ rfl, put_fits n1 t]; exact hr
theorem VO.ixG {T : TypeId} {k : Nat} {e0 : TypeId} {τ : Ty} {a b c : τ.den} {y : Operand} (hv : (⟨k, e0, .pair τ (.pair τ τ), (a, b, c)⟩ : GVar) ∈ gTab) (j : Nat) (hj : j < 3) (hk : VO P orc ops n l ((d, .p τ (arr3 a b c j)) :: fl) σ K) (c0 : aofB P T 0 0 τ = true := by kernel_rfl) (c1 : aofB P T 1 τ.size τ = true := by kernel_rfl) (c2 : aofB P T 2 (τ.size + τ.size) τ = true := by kernel_rfl) (ht : (P.globals[k]?).map (·.type) = some e0 := by kernel_rfl) (hy : evV fl y = some (.v (.int .i64) ((j : Nat) : Int)) := by rfl) (hw : wantV ops fl g = some true := by rfl) (hn : (Nat.blt d n && Nat.ble n 4000) = true := by rfl) :
    VO P orc ops n (⟨some d, .indexAddr T (.global k) y, ty, pos, after, g⟩ :: l) fl σ K := fun h0 G S0 t h ms I => by
  obtain ⟨n1, n2⟩ := fits hn; obtain ⟨e1, e2⟩ := I.slots.1.ptr (P := P) hv ht; have hi : evalO t y = .int .i64 ((j : Nat) : Int) := RepV.int (evV_ok I.slots hy : RepV h _ (.int .i64) _ ((j : Nat) : Int))
  have hR := (CalmV.ixP3 (P := P) (σ := []) (fl := [(0, .p (.pair τ (.pair τ τ)) (a, b, c)), (1, .v (.int .i64) ((j : Nat) : Int))]) (x := .tmp 0) (y := .tmp 1) (T := T) j hj c0 c1 c2 rfl rfl).2 h (Go.Fs.own σ ++ S0) ((Tr.leaf.set depth 0 (.pointer (some ⟨k + 1, 0, none⟩))).set depth 1 (.int .i64 ((j : Nat) : Int)))
    (by
      intro x hx v hxv
      have hx : x = .tmp 0 ∨ x = .tmp 1 := by simpa [Op.operands] using hx
      rcases hx with rfl | rfl
      · obtain rfl := Option.some.inj hxv; exact e2
      obtain rfl := Option.some.inj hxv
      exact RepV.ofInt _ _) (fun c hc => by cases hc)
  obtain ⟨u, hu, hs⟩ := hR; have hs := hs none ty pos after none h; have hs : (if af (.int .i64 ((j : Nat) : Int)) then (runPure P (Instr.indexAt T (.pointer (some ⟨k + 1, 0, none⟩)) (.int .i64 ((j : Nat) : Int)))).map (fun v => (v, h)) else none) = some (u, h) := hs; rw [if_pos (show af (Value.int .i64 ((j : Nat) : Int)) = true from rfl)] at hs; obtain ⟨u', hu', he⟩ := Option.map_eq_some_iff.1 hs; obtain rfl : u' = u := congrArg Prod.fst he
  have hyg : ∀ z, y ≠ .global z := fun z e => by subst e; cases hy
  have hcj : ∃ q, aofB P T j q τ = true := by
    rcases j with _ | _ | _ | j
    · exact ⟨_, c0⟩
    · exact ⟨_, c1⟩
    · exact ⟨_, c2⟩
    omega
  obtain ⟨q, hcj⟩ := hcj; obtain ⟨m, t2, h2, hr, hq⟩ := hk h0 G S0 _ h ms (I.set (hu : RepPV h _ (.p τ (arr3 a b c j)) _) n2); refine ⟨m, t2, h2, ?_, hq⟩; simp only [fsOps, want_ok (o := ⟨some d, .indexAddr T (.global k) y, ty, pos, after, g⟩) I.slots hw, step_ixG (orc := orc) (m := m) (t := t) hcj hi hyg (by rw [e1]; exact hu') ⟨some d, .indexAddr T (.global k) y, ty, pos, after, g⟩ rfl, put_fits n1 t]; exact hr
end Go.Fs
namespace Go.Proofs
open Go.Fs
set_option maxHeartbeats 1000000
theorem zCloneI_ok {l : List Int} (hl : l.length < 100000) : VFG Tryz.prog OA 149 [.v y25 l] [] (fun r g => ∃ w, r = .raw w ∧ g = [(w, .row 3 (.int .i64) l)]) := by
  refine VFG.enter Tryz.func149 rfl (fun _ _ => rfl) rfl ?_; show VC _ _ _ _ _ [(0, .v y25 l)] [] _; refine VC.seq (VC.text ?_); refine VO.c (.assign rfl) ?_; refine VO.go (VC.seq (VC.seq (VC.text ?_))); refine VO.c (.move rfl) ?_; refine VO.isnil (e := 3) rfl rfl (by kernel_rfl) (by kernel_rfl) (fun h1_1 => ?_) ?_
  · refine VO.go ?_; refine VC.condT rfl ?_; refine VC.seq (VC.text ?_); refine VO.c (.assign rfl) (VO.go ?_); refine VC.cell0 3 (.int .i64) ?_; refine VC.ret ?_; simp only [thenV]; exact VEndG.row rfl evT ⟨(.slice none 0 0), rfl, (by rw [h1_1])⟩
  refine VO.go ?_; refine VC.condF rfl ?_; refine VC.skip (VC.seq (VC.text ?_)); refine VO.cell (.lit0 el25) ?_; intro ww1; refine VO.c (.move rfl) ?_; refine VO.app rfl rfl el25 el25 (by simp; omega) ?_; intro ww2; refine VO.c (.assign rfl) (VO.go ?_); refine VC.ret ?_; exact VEndG.row rfl evT ⟨ww2, rfl, (by rfl)⟩
theorem finW_b {d : Pha → Int} {l : List Pha} {dn : List Int} {now : Int} (hq : PlanOk l) (hd : DurOk d l) (h : DoneOk l dn now) {i p : Nat} (hi : i ≤ l.length) (hp : p < i) : 0 ≤ (finW d l dn now i).getD p 0 ∧ (finW d l dn now i).getD p 0 ≤ 116000 := by
  rw [finW_low hp]; have := fin_b hd h i hi p; have := hq.len; omega
theorem cfl_t1 {l : List Pha} {dn : List Int} {now : Int} {i : Nat} (h0 : 0 ≤ dn.getD i 0) : cflE l dn now i = (!rdyE dn (phA l i).2.2.2 (phA l i).2.2.2.length || decide (now < dn.getD i 0) || decide (dn.getD i 0 - begE (finL (dE false) l dn now i) (phA l i).2.2.2 (phA l i).2.2.2.length < (phA l i).2.1) || decide ((phA l i).2.2.1 < dn.getD i 0 - begE (finL (dE false) l dn now i) (phA l i).2.2.2 (phA l i).2.2.2.length)) := if_pos h0
theorem cfl_t2 {l : List Pha} {dn : List Int} {now : Int} {i : Nat} (h0 : ¬ 0 ≤ dn.getD i 0) : cflE l dn now i = (rdyE dn (phA l i).2.2.2 (phA l i).2.2.2.length && decide (begE (finL (dE false) l dn now i) (phA l i).2.2.2 (phA l i).2.2.2.length + (phA l i).2.2.1 < now)) := if_neg h0
theorem cProg_ok {l : List (ByteArray × Int × Int × (List Int))} {dn : List Int} {now : Int} (hp : PlanOk l) (hdn : DoneOk l dn now) : VF Tryz.prog OA 112 [.v y29 l, .v y25 dn, I now] (.tup [.v y32 (prgR l dn now), I (prgE l dn now)]) := by
  refine VF.enter Tryz.func112 rfl (fun _ _ => rfl) rfl ?_; show VC _ _ _ _ _ [(0, .v y29 l), (1, .v y25 dn), (2, I now)] [] _; refine VC.seq (VC.text ?_); have hlen := hp.len; have hdl := hdn.len; have hnow := hdn.now; have hd0 := dur_ok hp false; have hd1 := dur_ok hp true; refine VO.cell (.alloc zt32) ?_; intro ww3; refine VO.c (.assign rfl) ?_; refine VO.go (VC.seq (VC.text ?_)); refine VO.c (.move rfl) ?_; refine VO.r (.len el29) ?_; refine VO.cell (.make (k := l.length) rfl rfl el25 zt3 (by omega)) ?_; intro ww4; refine VO.c (.assign rfl) ?_; refine VO.go (VC.seq (VC.text ?_)); refine VO.c (.move rfl) (VO.c (.move rfl) ?_); refine VO.copy rfl rfl el25 (by simp; omega) ?_; refine VO.go (VC.seq (VC.text ?_)); refine VO.c (.move rfl) ?_; refine VO.callG [] rfl rfl rfl (VFG.call (zCloneI_ok (by first | assumption | omega | simp))) ?_; rintro _ _ ⟨ww5, rfl, rfl⟩; show VO _ _ _ _ _ _ [(ww5, .row 3 (.int .i64) dn), (ww4, .row 3 (.int .i64) dn), (ww3, .var [I (0 : Int), I (0 : Int)])] _; refine VO.c (.assign rfl) ?_; refine VO.go (VC.seq (VC.seq (VC.text ?_))); refine VO.c (.move rfl) ?_; refine VO.r (.len el29) ?_; refine VO.c (.move rfl) ?_; refine VO.go (VC.block ?_); refine VC.keep [(1, .v y25 dn), (2, I now), (6, .raw ww3), (8, .raw ww4), (9, .raw ww5), (25, .v y29 l), (26, I ((l.length : Nat) : Int)), (27, I ((0 : Nat) : Int))] ⟨rfl, rfl, rfl, rfl, rfl, rfl, rfl, rfl, trivial⟩ ?_; refine VC.loop (I := fun kk ff ss => ∃ (i : Nat), kk = l.length - i ∧ ff = [(1, .v y25 dn), (2, I now), (6, .raw ww3), (8, .raw ww4), (9, .raw ww5), (25, .v y29 l), (26, I ((l.length : Nat) : Int)), (27, I ((i : Nat) : Int))] ∧ ss = [(ww5, .row 3 (.int .i64) (finW (dE true) l dn now i)), (ww4, .row 3 (.int .i64) (finW (dE false) l dn now i)), (ww3, .var [I (0 : Int), I (0 : Int)])] ∧ (i ≤ l.length) ∧ (∀ j, j < i → cflE l dn now j = false)) ?_ _ _ _ ⟨0, rfl, rfl, rfl, Nat.zero_le _, (by intro j hj; omega)⟩; rintro kk ff ss ⟨i, hk0, rfl, rfl, hi, hq⟩; refine VC.seq (VC.text ?_); refine VO.c (.lss) ?_; refine VO.go (VC.seq ?_); refine VC.condD rfl (fun c5 => ?_) (fun c5 => ?_)
  · have hlt : i < l.length := by omega
    have hbl : (phA l i).2.2.2 = l[i].2.2.2 := by rw [phA_eq hlt]
    have hbf := hp.bef i hlt; rw [hbl] at hbf; have hbn := hp.blen hlt; rw [hbl] at hbn; have hdi := hp.dur i hlt; rw [phA_eq hlt] at hdi; have hfl0 : (finW (dE false) l dn now i).length = dn.length := finW_len (by omega); have hfl1 : (finW (dE true) l dn now i).length = dn.length := finW_len (by omega); have hdb := hdn.bnd i (by omega); rw [getDg (by omega)] at hdb; refine VC.skip (VC.seq (VC.block (VC.seq (VC.text ?_)))); refine VO.c (.move rfl) (VO.c (.ix (j := i) rfl rfl el29 (by omega)) ?_); refine VO.r (.ld vt84) ?_; refine VO.cell (.alloc zt84) ?_; intro ww6; refine VO.c (.assign rfl) ?_; refine VO.setV (cs' := [St ((l[i]).1), I ((l[i]).2.1), I ((l[i]).2.2.1), .v y25 ((l[i]).2.2.2)]) vt84 .v ?_; refine VO.shut [(11, .p y84 (l[i]))] (.cons rfl (.var m0 .refl) .nil) ?_; refine VO.go (VC.seq (VC.text ?_)); refine VO.c (.assign rfl) (VO.c (.assign rfl) (VO.c (.assign rfl) ?_)); refine VO.go (VC.seq (VC.seq (VC.text ?_))); refine VO.c (.fa (.r (.r (.r .o)))) ?_; refine VO.r (.ld vt25) ?_; refine VO.r (.len el25) ?_; refine VO.c (.move rfl) ?_; refine VO.go (VC.block ?_); refine VC.keep [(1, .v y25 dn), (2, I now), (6, .raw ww3), (8, .raw ww4), (9, .raw ww5), (10, I ((i : Nat) : Int)), (11, .p y84 (l[i])), (12, B (rdyE dn l[i].2.2.2 0)), (13, I (begE (finL (dE false) l dn now i) l[i].2.2.2 0)), (14, I (begE (finL (dE true) l dn now i) l[i].2.2.2 0)), (25, .v y29 l), (26, I ((l.length : Nat) : Int)), (27, I ((i : Nat) : Int)), (33, .v y25 ((l[i]).2.2.2)), (34, I ((((l[i]).2.2.2).length : Nat) : Int)), (35, I ((0 : Nat) : Int))] ⟨rfl, rfl, rfl, rfl, rfl, rfl, rfl, rfl, rfl, rfl, rfl, rfl, rfl, rfl, rfl, rfl, trivial⟩ ?_; refine VC.loop (I := fun kk ff ss => ∃ (k : Nat), kk = l[i].2.2.2.length - k ∧ ff = [(1, .v y25 dn), (2, I now), (6, .raw ww3), (8, .raw ww4), (9, .raw ww5), (10, I ((i : Nat) : Int)), (11, .p y84 (l[i])), (12, B (rdyE dn l[i].2.2.2 k)), (13, I (begE (finL (dE false) l dn now i) l[i].2.2.2 k)), (14, I (begE (finL (dE true) l dn now i) l[i].2.2.2 k)), (25, .v y29 l), (26, I ((l.length : Nat) : Int)), (27, I ((i : Nat) : Int)), (33, .v y25 ((l[i]).2.2.2)), (34, I ((((l[i]).2.2.2).length : Nat) : Int)), (35, I ((k : Nat) : Int))] ∧ ss = [(ww5, .row 3 (.int .i64) (finW (dE true) l dn now i)), (ww4, .row 3 (.int .i64) (finW (dE false) l dn now i)), (ww3, .var [I (0 : Int), I (0 : Int)])] ∧ (k ≤ l[i].2.2.2.length)) ?_ _ _ _ ⟨0, rfl, rfl, rfl, (by omega)⟩; rintro kk ff ss ⟨k, hk2, rfl, rfl, hk⟩; have hB0 := finB_b hd0 hdn (i := i) (by omega) k; have hB1 := finB_b hd1 hdn (i := i) (by omega) k; rw [hbl] at hB0 hB1; refine VC.seq (VC.text ?_); refine VO.c (.lss) ?_; refine VO.go (VC.seq ?_); refine VC.condD rfl (fun c9 => ?_) (fun c9 => ?_)
    · have hk2 : k < l[i].2.2.2.length := by omega
      have hbk := hbf k hk2; rw [getDg hk2] at hbk
      have hx0 : (finW (dE false) l dn now i)[(l[i].2.2.2[k]).toNat]'(by omega) = (finL (dE false) l dn now i).getD (l[i].2.2.2[k]).toNat 0 := by rw [← getDg (d := 0) (by omega), finW_low (by omega)]
      have hx1 : (finW (dE true) l dn now i)[(l[i].2.2.2[k]).toNat]'(by omega) = (finL (dE true) l dn now i).getD (l[i].2.2.2[k]).toNat 0 := by rw [← getDg (d := 0) (by omega), finW_low (by omega)]
      refine VC.skip (VC.seq (VC.block (VC.seq (VC.text ?_)))); refine VO.c (.ix (j := k) rfl rfl el25 (by omega)) ?_; refine VO.r (.ld vt3) ?_; refine VO.c (.assign rfl) ?_; refine VO.go (VC.seq (VC.text ?_)); refine VO.c (.move rfl) (VO.c (.move rfl) ?_); refine VO.cg (r := (rdyE dn l[i].2.2.2 k)) (w := true) [] trivial (fun _ => (.move rfl)) ?_; refine VO.cg (r := (rdyE dn l[i].2.2.2 k)) (w := true) [] trivial (fun _ => (.move rfl)) ?_; refine VO.cg (r := (rdyE dn l[i].2.2.2 k)) (w := true) [(41, .v y25 dn), (42, I (((l[i]).2.2.2)[k]))] ⟨rfl, rfl, trivial⟩ (fun hgd => have g11_1 : (rdyE dn l[i].2.2.2 k) = true := (by simpa using hgd); (.ixZD rfl rfl 0 el25 (by omega) (by omega))) ?_; refine VO.rg (r := (rdyE dn l[i].2.2.2 k)) (w := true) [(43, .p (.int .i64) (dn.getD (((l[i]).2.2.2)[k]).toNat 0))] ⟨rfl, trivial⟩ (fun _ => (.ld vt3)) ?_; refine VO.cg (r := (rdyE dn l[i].2.2.2 k)) (w := true) [(44, I (dn.getD (((l[i]).2.2.2)[k]).toNat 0))] ⟨rfl, trivial⟩ (fun _ => (.geq)) ?_; refine VO.c (.and) (VO.c (.assign rfl) ?_); refine VO.go (VC.drawn ?_); refine VD.c (.move rfl) (VD.c (.move rfl) (VD.c (.move rfl) ?_)); refine VD.co (.ixOZ (k := ((l[i]).2.2.2)[k]) rfl rfl m1 el25 (by omega) (by omega)) ?_; refine VD.r [(ww5, .row 3 (.int .i64) (finW (dE true) l dn now i)), (ww4, .row 3 (.int .i64) (finW (dE false) l dn now i)), (ww3, .var [I (0 : Int), I (0 : Int)])] (.ldO rfl m1 vt3 (by omega)) (.inr ⟨rfl, rfl⟩) ?_; refine VD.c (.imax) (VD.nw [] (VD.c (.move rfl) (VD.c (.move rfl) ?_))); refine VD.c (.move rfl) ?_; refine VD.co (.ixOZ (k := ((l[i]).2.2.2)[k]) rfl rfl m0 el25 (by omega) (by omega)) ?_; refine VD.r [(ww5, .row 3 (.int .i64) (finW (dE true) l dn now i)), (ww4, .row 3 (.int .i64) (finW (dE false) l dn now i)), (ww3, .var [I (0 : Int), I (0 : Int)])] (.ldO rfl m0 vt3 (by omega)) (.inr ⟨rfl, rfl⟩) ?_; refine VD.c (.imax) (VD.c (.assign rfl) (VD.nw [] (VD.c (.assign rfl) ?_))); refine VD.nil ?_; refine VC.text ?_; refine VO.c (.add rfl rfl (by omega)) (VO.c (.move rfl) ?_); refine VO.nil ?_; refine ⟨_, [(1, .v y25 dn), (2, I now), (6, .raw ww3), (8, .raw ww4), (9, .raw ww5), (10, I ((i : Nat) : Int)), (11, .p y84 (l[i])), (12, B (rdyE dn l[i].2.2.2 (k + 1))), (13, I (begE (finL (dE false) l dn now i) l[i].2.2.2 (k + 1))), (14, I (begE (finL (dE true) l dn now i) l[i].2.2.2 (k + 1))), (25, .v y29 l), (26, I ((l.length : Nat) : Int)), (27, I ((i : Nat) : Int)), (33, .v y25 ((l[i]).2.2.2)), (34, I ((((l[i]).2.2.2).length : Nat) : Int)), (35, I (((k + 1) : Nat) : Int))], ?_, ⟨rfl, rfl, rfl, rfl, rfl, rfl, rfl, slE rfl (by show _ = (rdyE dn _ k && decide _); rw [getDg hk2]), slI rfl (by rw [hx0]; show _ = max _ _; rw [getDg hk2]), slI rfl (by rw [hx1]; show _ = max _ _; rw [getDg hk2]), rfl, rfl, rfl, rfl, rfl, rfl, trivial⟩, (k + 1), rfl, rfl, rfl, (by omega)⟩; omega
    have hkl : l[i].2.2.2.length = k := by omega
    refine VC.exit (VC.seq (VC.seq (VC.text ?_))); refine VO.c (.move rfl) (VO.c (.move rfl) (VO.c (.ix (j := i) rfl rfl el25 (by omega)) ?_)); refine VO.r (.ld vt3) ?_; refine VO.c (.geq) (VO.go ?_); refine VC.condD rfl (fun c14 => ?_) (fun c14 => ?_)
    · have h0 : 0 ≤ dn.getD i 0 := by rw [getDg (by omega)]; exact c14
      have hcf1 := cfl_t1 (l := l) (now := now) h0; rw [hbl, hkl, phA_eq hlt, getDg (by omega)] at hcf1; refine VC.seq (VC.seq (VC.drawn ?_)); refine VD.c (.move rfl) (VD.c (.not) (VD.c (.move rfl) ?_)); refine VD.splitB (x := 67) rfl (fun g15_2 => ?_) (fun g15_2 => ?_)
      · try simp only [Bool.and_eq_true, Bool.or_eq_true, Bool.and_eq_false_iff, Bool.or_eq_false_iff, Bool.not_eq_true', Bool.not_eq_false', decide_eq_true_eq, decide_eq_false_iff_not] at g15_2
        have hcx : cflE l dn now i = true := by rw [hcf1, g15_2] <;> rfl
        refine VD.skip (VD.skip (VD.nw [] (VD.skip ?_))); refine VD.skip (VD.skip (VD.skip (VD.c (.pickT rfl rfl) ?_))); refine VD.c (.move rfl) (VD.skip (VD.nw [] (VD.skip ?_))); refine VD.skip (VD.skip (VD.skip (VD.skip ?_))); refine VD.skip (VD.skip (VD.nw [] (VD.skip ?_))); refine VD.c (.pickT rfl rfl) (VD.c (.move rfl) (VD.skip (VD.skip ?_))); refine VD.skip (VD.skip (VD.nw [] (VD.skip ?_))); refine VD.skip (VD.skip (VD.skip (VD.skip ?_))); refine VD.c (.pickT rfl rfl) (VD.go ?_); refine VC.condT rfl ?_; refine VC.seq ?_; refine VC.keep [(1, .v y25 dn), (2, I now), (6, .raw ww3), (8, .raw ww4), (9, .raw ww5), (10, I ((i : Nat) : Int)), (11, .p y84 (l[i])), (12, B (rdyE dn l[i].2.2.2 k)), (13, I (begE (finL (dE false) l dn now i) l[i].2.2.2 k)), (14, I (begE (finL (dE true) l dn now i) l[i].2.2.2 k)), (25, .v y29 l), (26, I ((l.length : Nat) : Int)), (27, I ((i : Nat) : Int))] ⟨rfl, rfl, rfl, rfl, rfl, rfl, rfl, rfl, rfl, rfl, rfl, rfl, rfl, trivial⟩ ?_; refine VC.text ?_; refine VO.c (.build (0, 0) bt32) ?_; refine VO.perm swap2 ?_; refine VO.setV (cs' := [I 0, I 0]) vt32 .v ?_; refine VO.c (.assign rfl) (VO.go ?_); refine VC.ret ?_; exact VEnd.two rfl (.cell (x := (0, 0)) rfl m0 vt32 .refl) evT (pvE (by rw [prgR, if_neg (by rw [posE_f hlt hcx]; decide)])) (pvI (by rw [prgE, if_neg (by rw [posE_f hlt hcx]; decide)]))
      try simp only [Bool.and_eq_true, Bool.or_eq_true, Bool.and_eq_false_iff, Bool.or_eq_false_iff, Bool.not_eq_true', Bool.not_eq_false', decide_eq_true_eq, decide_eq_false_iff_not] at g15_2
      refine VD.c (.move rfl) (VD.c (.move rfl) (VD.nw [] (VD.c (.ix (j := i) rfl rfl el25 (by omega)) ?_))); refine VD.r [] (.ld vt3) (.inl rfl) ?_; refine VD.c (.move rfl) (VD.c (.gtr) (VD.c (.pickF rfl rfl) (VD.c (.move rfl) ?_))); refine VD.splitD (x := 75) rfl (fun g15_10 => ?_) (fun g15_10 => ?_)
      · have hcx : cflE l dn now i = true := by rw [hcf1, decide_eq_true g15_10]; simp
        refine VD.nw [] (VD.skip (VD.skip (VD.skip ?_))); refine VD.skip (VD.skip (VD.skip (VD.skip ?_))); refine VD.nw [] (VD.skip (VD.skip (VD.c (.pickT rfl rfl) ?_))); refine VD.c (.move rfl) (VD.skip (VD.skip (VD.skip ?_))); refine VD.nw [] (VD.skip (VD.skip (VD.skip ?_))); refine VD.skip (VD.skip (VD.skip (VD.c (.pickT rfl rfl) ?_))); refine VD.go ?_; refine VC.condT rfl ?_; refine VC.seq ?_; refine VC.keep [(1, .v y25 dn), (2, I now), (6, .raw ww3), (8, .raw ww4), (9, .raw ww5), (10, I ((i : Nat) : Int)), (11, .p y84 (l[i])), (12, B (rdyE dn l[i].2.2.2 k)), (13, I (begE (finL (dE false) l dn now i) l[i].2.2.2 k)), (14, I (begE (finL (dE true) l dn now i) l[i].2.2.2 k)), (25, .v y29 l), (26, I ((l.length : Nat) : Int)), (27, I ((i : Nat) : Int))] ⟨rfl, rfl, rfl, rfl, rfl, rfl, rfl, rfl, rfl, rfl, rfl, rfl, rfl, trivial⟩ ?_; refine VC.text ?_; refine VO.c (.build (0, 0) bt32) ?_; refine VO.perm swap2 ?_; refine VO.setV (cs' := [I 0, I 0]) vt32 .v ?_; refine VO.c (.assign rfl) (VO.go ?_); refine VC.ret ?_; exact VEnd.two rfl (.cell (x := (0, 0)) rfl m0 vt32 .refl) evT (pvE (by rw [prgR, if_neg (by rw [posE_f hlt hcx]; decide)])) (pvI (by rw [prgE, if_neg (by rw [posE_f hlt hcx]; decide)]))
      refine VD.nw [] (VD.c (.move rfl) (VD.c (.move rfl) (VD.c (.ix (j := i) rfl rfl el25 (by omega)) ?_))); refine VD.r [] (.ld vt3) (.inl rfl) ?_; refine VD.c (.move rfl) (VD.c (.sub rfl rfl (by omega)) (VD.c (.fa (.r (.l .o))) (VD.nw [] ?_))); refine VD.r [] (.ld vt3) (.inl rfl) ?_; refine VD.c (.lss) (VD.c (.pickF rfl rfl) (VD.c (.move rfl) ?_)); refine VD.splitD (x := 86) rfl (fun g15_21 => ?_) (fun g15_21 => ?_)
      · have hcx : cflE l dn now i = true := by rw [hcf1, decide_eq_true g15_21]; simp
        refine VD.skip (VD.skip (VD.nw [] (VD.skip ?_))); refine VD.skip (VD.skip (VD.skip (VD.skip ?_))); refine VD.skip (VD.skip (VD.nw [] (VD.c (.pickT rfl rfl) ?_))); refine VD.go ?_; refine VC.condT rfl ?_; refine VC.seq ?_; refine VC.keep [(1, .v y25 dn), (2, I now), (6, .raw ww3), (8, .raw ww4), (9, .raw ww5), (10, I ((i : Nat) : Int)), (11, .p y84 (l[i])), (12, B (rdyE dn l[i].2.2.2 k)), (13, I (begE (finL (dE false) l dn now i) l[i].2.2.2 k)), (14, I (begE (finL (dE true) l dn now i) l[i].2.2.2 k)), (25, .v y29 l), (26, I ((l.length : Nat) : Int)), (27, I ((i : Nat) : Int))] ⟨rfl, rfl, rfl, rfl, rfl, rfl, rfl, rfl, rfl, rfl, rfl, rfl, rfl, trivial⟩ ?_; refine VC.text ?_; refine VO.c (.build (0, 0) bt32) ?_; refine VO.perm swap2 ?_; refine VO.setV (cs' := [I 0, I 0]) vt32 .v ?_; refine VO.c (.assign rfl) (VO.go ?_); refine VC.ret ?_; exact VEnd.two rfl (.cell (x := (0, 0)) rfl m0 vt32 .refl) evT (pvE (by rw [prgR, if_neg (by rw [posE_f hlt hcx]; decide)])) (pvI (by rw [prgE, if_neg (by rw [posE_f hlt hcx]; decide)]))
      refine VD.c (.move rfl) (VD.c (.move rfl) (VD.nw [] (VD.c (.ix (j := i) rfl rfl el25 (by omega)) ?_))); refine VD.r [] (.ld vt3) (.inl rfl) ?_; refine VD.c (.move rfl) (VD.c (.sub rfl rfl (by omega)) (VD.c (.fa (.r (.r (.l .o)))) ?_)); refine VD.r [] (.ld vt3) (.inl rfl) ?_; refine VD.c (.gtr) (VD.nw [] (VD.c (.pickF rfl rfl) (VD.go ?_))); refine VC.condD rfl (fun c15 => ?_) (fun c15 => ?_)
      · have hcx : cflE l dn now i = true := by rw [hcf1, decide_eq_true c15]; simp
        refine VC.seq ?_; refine VC.keep [(1, .v y25 dn), (2, I now), (6, .raw ww3), (8, .raw ww4), (9, .raw ww5), (10, I ((i : Nat) : Int)), (11, .p y84 (l[i])), (12, B (rdyE dn l[i].2.2.2 k)), (13, I (begE (finL (dE false) l dn now i) l[i].2.2.2 k)), (14, I (begE (finL (dE true) l dn now i) l[i].2.2.2 k)), (25, .v y29 l), (26, I ((l.length : Nat) : Int)), (27, I ((i : Nat) : Int))] ⟨rfl, rfl, rfl, rfl, rfl, rfl, rfl, rfl, rfl, rfl, rfl, rfl, rfl, trivial⟩ ?_; refine VC.text ?_; refine VO.c (.build (0, 0) bt32) ?_; refine VO.perm swap2 ?_; refine VO.setV (cs' := [I 0, I 0]) vt32 .v ?_; refine VO.c (.assign rfl) (VO.go ?_); refine VC.ret ?_; exact VEnd.two rfl (.cell (x := (0, 0)) rfl m0 vt32 .refl) evT (pvE (by rw [prgR, if_neg (by rw [posE_f hlt hcx]; decide)])) (pvI (by rw [prgE, if_neg (by rw [posE_f hlt hcx]; decide)]))
      have hcf : cflE l dn now i = false := by rw [hcf1, decide_eq_false c15, decide_eq_false g15_21, decide_eq_false g15_10, g15_2] <;> rfl
      have hs0 : finW (dE false) l dn now i = finW (dE false) l dn now (i + 1) := finW_done (by omega) h0; have hs1 : finW (dE true) l dn now i = finW (dE true) l dn now (i + 1) := finW_done (by omega) h0; refine VC.skip (VC.exit ?_); refine VC.keep [(1, .v y25 dn), (2, I now), (6, .raw ww3), (8, .raw ww4), (9, .raw ww5), (25, .v y29 l), (26, I ((l.length : Nat) : Int)), (27, I ((i : Nat) : Int))] ⟨rfl, rfl, rfl, rfl, rfl, rfl, rfl, rfl, trivial⟩ ?_; refine VC.text ?_; refine VO.c (.add rfl rfl (by omega)) (VO.c (.move rfl) ?_); refine VO.nil ?_; refine ⟨_, [(1, .v y25 dn), (2, I now), (6, .raw ww3), (8, .raw ww4), (9, .raw ww5), (25, .v y29 l), (26, I ((l.length : Nat) : Int)), (27, I (((i + 1) : Nat) : Int))], ?_, ⟨rfl, rfl, rfl, rfl, rfl, rfl, rfl, rfl, trivial⟩, (i + 1), rfl, rfl, (by rw [hs0, hs1]), (by omega), (by intro j hj; rcases Nat.lt_succ_iff_lt_or_eq.1 hj with h | h; exact hq j h; subst h; exact hcf)⟩; omega
    have h0 : ¬ 0 ≤ dn.getD i 0 := by rw [getDg (by omega)]; exact c14
    have hcf2 := cfl_t2 (l := l) (now := now) h0; rw [hbl, hkl, phA_eq hlt] at hcf2; refine VC.skip (VC.seq (VC.seq (VC.text ?_))); refine VO.c (.move rfl) (VO.c (.move rfl) ?_); refine VO.cg (r := (rdyE dn l[i].2.2.2 k)) (w := true) [] trivial (fun _ => (.move rfl)) ?_; refine VO.cg (r := (rdyE dn l[i].2.2.2 k)) (w := true) [] trivial (fun _ => (.fa (.r (.r (.l .o))))) ?_; refine VO.rg (r := (rdyE dn l[i].2.2.2 k)) (w := true) [(101, .p (.int .i64) ((l[i]).2.2.1))] ⟨rfl, trivial⟩ (fun _ => (.ld vt3)) ?_; refine VO.cg (r := (rdyE dn l[i].2.2.2 k)) (w := true) [(100, I (begE (finL (dE false) l dn now i) l[i].2.2.2 k)), (102, I ((l[i]).2.2.1))] ⟨rfl, rfl, trivial⟩ (fun hgd => have g17_1 : (rdyE dn l[i].2.2.2 k) = true := (by simpa using hgd); (.add rfl rfl (by omega))) ?_; refine VO.cg (r := (rdyE dn l[i].2.2.2 k)) (w := true) [] trivial (fun _ => (.move rfl)) ?_; refine VO.cg (r := (rdyE dn l[i].2.2.2 k)) (w := true) [(103, I ((begE (finL (dE false) l dn now i) l[i].2.2.2 k) + (l[i]).2.2.1)), (104, I now)] ⟨rfl, rfl, trivial⟩ (fun _ => (.lss)) ?_; refine VO.c (.and) (VO.go ?_); refine VC.condB rfl (fun c17 => ?_) (fun c17 => ?_)
    · try simp only [Bool.and_eq_true, Bool.or_eq_true, Bool.and_eq_false_iff, Bool.or_eq_false_iff, Bool.not_eq_true', Bool.not_eq_false', decide_eq_true_eq, decide_eq_false_iff_not] at c17
      have hcx : cflE l dn now i = true := by rw [hcf2, c17.1, decide_eq_true c17.2] <;> rfl
      refine VC.seq (VC.text ?_); refine VO.c (.build (0, 0) bt32) ?_; refine VO.perm swap2 ?_; refine VO.setV (cs' := [I 0, I 0]) vt32 .v ?_; refine VO.c (.assign rfl) (VO.go ?_); refine VC.ret ?_; exact VEnd.two rfl (.cell (x := (0, 0)) rfl m0 vt32 .refl) evT (pvE (by rw [prgR, if_neg (by rw [posE_f hlt hcx]; decide)])) (pvI (by rw [prgE, if_neg (by rw [posE_f hlt hcx]; decide)]))
    try simp only [Bool.and_eq_true, Bool.or_eq_true, Bool.and_eq_false_iff, Bool.or_eq_false_iff, Bool.not_eq_true', Bool.not_eq_false', decide_eq_true_eq, decide_eq_false_iff_not] at c17
    have hcf : cflE l dn now i = false := by rw [hcf2]; rcases c17 with h | h; rw [h]; rfl; rw [decide_eq_false h, Bool.and_false]
    have hln := long_now hp hlt h0 hcf; rw [hbl, hkl, phA_eq hlt] at hln; have hs0 : (finW (dE false) l dn now i).set i (max (begE (finL (dE false) l dn now i) l[i].2.2.2 k + l[i].2.1) now) = finW (dE false) l dn now (i + 1) := finW_set (by omega) (by rw [finF, if_neg h0, hbl, hkl, phA_eq hlt]; rfl); have hs1 : (finW (dE true) l dn now i).set i (begE (finL (dE true) l dn now i) l[i].2.2.2 k + l[i].2.2.1) = finW (dE true) l dn now (i + 1) := finW_set (by omega) (by rw [finF, if_neg h0, hbl, hkl, phA_eq hlt]; show _ = max (_ + l[i].2.2.1) _; omega); refine VC.skip ?_; refine VC.perm swap1 ?_; refine VC.late [(ww3, .var [I (0 : Int), I (0 : Int)])] ⟨[(ww4, .row 3 (.int .i64) (finW (dE false) l dn now i)), (ww5, .row 3 (.int .i64) (finW (dE true) l dn now i))], rfl⟩ ?_; refine VLt.cR (.move rfl) ?_; refine VLt.c (.move rfl) ?_; refine VLt.cR (.move rfl) ?_; refine VLt.c (.move rfl) ?_; refine VLt.c (.move rfl) ?_; refine VLt.c (.fa (.r (.l .o))) ?_; refine VLt.nws [] ?_; refine VLt.q rfl (.ld vt3) ?_; refine VLt.c (.add rfl rfl (by omega)) ?_; refine VLt.c (.move rfl) ?_; refine VLt.c (.imax) ?_; refine VLt.c (.move rfl) ?_; refine VLt.c (.fa (.r (.r (.l .o)))) ?_; refine VLt.q rfl (.ld vt3) ?_; refine VLt.nws [] ?_; refine VLt.c (.add rfl rfl (by omega)) ?_; refine VLt.cR (.ixO (j := i) rfl rfl m0 el25 (by omega)) ?_; refine VLt.mk0 (MakeV.setE (j := i) vt3 (by omega) rfl rfl) (TurnV.storeE rfl (.inl rfl) (by omega)) ⟨[(ww5, .row 3 (.int .i64) (finW (dE true) l dn now i))], rfl⟩ ?_; rintro _ _ ⟨rfl, rfl⟩; refine ⟨⟨[(ww4, .row 3 (.int .i64) ((finW (dE false) l dn now i).set i (max ((begE (finL (dE false) l dn now i) l[i].2.2.2 k) + (l[i]).2.1) now))), (ww5, .row 3 (.int .i64) (finW (dE true) l dn now i))], rfl⟩, ?_⟩; refine VLt.cR (.ixO (j := i) rfl rfl m1 el25 (by omega)) ?_; refine VLt.perm swap1 ⟨[(ww5, .row 3 (.int .i64) (finW (dE true) l dn now i)), (ww4, .row 3 (.int .i64) ((finW (dE false) l dn now i).set i (max ((begE (finL (dE false) l dn now i) l[i].2.2.2 k) + (l[i]).2.1) now)))], rfl⟩ ?_; refine VLt.mk0 (MakeV.setE (j := i) vt3 (by omega) rfl rfl) (TurnV.storeE rfl (.inl rfl) (by omega)) ⟨[(ww4, .row 3 (.int .i64) ((finW (dE false) l dn now i).set i (max ((begE (finL (dE false) l dn now i) l[i].2.2.2 k) + (l[i]).2.1) now)))], rfl⟩ ?_; rintro _ _ ⟨rfl, rfl⟩; refine ⟨⟨[(ww5, .row 3 (.int .i64) ((finW (dE true) l dn now i).set i ((begE (finL (dE true) l dn now i) l[i].2.2.2 k) + (l[i]).2.2.1))), (ww4, .row 3 (.int .i64) ((finW (dE false) l dn now i).set i (max ((begE (finL (dE false) l dn now i) l[i].2.2.2 k) + (l[i]).2.1) now)))], rfl⟩, ?_⟩; refine VLt.nil ?_; refine VC.text ?_; refine VO.c (.add rfl rfl (by omega)) (VO.c (.move rfl) ?_); refine VO.nil ?_; refine ⟨_, [(1, .v y25 dn), (2, I now), (6, .raw ww3), (8, .raw ww4), (9, .raw ww5), (25, .v y29 l), (26, I ((l.length : Nat) : Int)), (27, I (((i + 1) : Nat) : Int))], ?_, ⟨rfl, rfl, rfl, rfl, rfl, rfl, rfl, rfl, trivial⟩, (i + 1), rfl, rfl, (by rw [hs0, hs1]), (by omega), (by intro j hj; rcases Nat.lt_succ_iff_lt_or_eq.1 hj with h | h; exact hq j h; subst h; exact hcf)⟩; omega
  have hfl0 : (finW (dE false) l dn now i).length = dn.length := finW_len (by omega); have hfl1 : (finW (dE true) l dn now i).length = dn.length := finW_len (by omega); have hpos : posE l dn now = true := posE_t fun j hj => hq j (by omega)
  have hf0 : finW (dE false) l dn now i = finL (dE false) l dn now l.length := by rw [finW_end (by omega), show i = l.length by omega]
  have hf1 : finW (dE true) l dn now i = finL (dE true) l dn now l.length := by rw [finW_end (by omega), show i = l.length by omega]
  refine VC.exit (VC.seq (VC.text ?_)); refine VO.c (.move rfl) ?_; refine VO.callC rfl rfl .same (.cons (.row m1) .nil) rfl (VF.call (cGreatest_ok (by first | assumption | omega | simp))) ?_; refine VO.c (.move rfl) ?_; refine VO.callC rfl rfl .same (.cons (.row m0) .nil) rfl (VF.call (cGreatest_ok (by first | assumption | omega | simp))) ?_; refine VO.c (.build (maxL (finW (dE false) l dn now i), maxL (finW (dE true) l dn now i)) bt32) ?_; refine VO.perm swap2 ?_; refine VO.setV (cs' := [I (maxL (finW (dE false) l dn now i)), I (maxL (finW (dE true) l dn now i))]) vt32 .v ?_; refine VO.c (.assign rfl) (VO.go ?_); refine VC.ret ?_; exact VEnd.two rfl (.cell (x := (maxL (finW (dE false) l dn now i), maxL (finW (dE true) l dn now i))) rfl m0 vt32 .refl) evT (pvE (by rw [prgR, if_pos hpos, hf0, hf1]; rfl)) (pvI (by rw [prgE, if_pos hpos]))
end Go.Proofs
namespace Go.Proofs
open Go.Fs
set_option maxHeartbeats 1000000
def redR (dn b : List Int) : Int × Bool := if rdyE dn b b.length = true then (begE dn b b.length, true) else (0, false)
theorem red_f {dn b : List Int} {k : Nat} (hk : k < b.length) (h : dn.getD (b.getD k 0).toNat 0 < 0) : redR dn b = (0, false) := if_neg fun hh => by
  have := rdyE_iff.1 hh k hk; omega
theorem rReady_ok {x : ByteArray × Int × Int × (List Int)} {dn : List Int} (hb : ∀ k (h : k < x.2.2.2.length), 0 ≤ x.2.2.2[k] ∧ x.2.2.2[k] < ((dn.length : Nat) : Int)) (hl : x.2.2.2.length ≤ 1000) : VF Tryz.prog OA 115 [.v y80 x, .v y25 dn] (.tup [I ((redR dn x.2.2.2).1), B ((redR dn x.2.2.2).2)]) := by
  refine VF.enter Tryz.func115 rfl (fun _ _ => rfl) rfl ?_; show VC _ _ _ _ _ [(0, .v y80 x), (1, .v y25 dn)] [] _; refine VC.seq (VC.text ?_); refine VO.new (.box) ?_; refine VO.c (.assign rfl) (VO.c (.assign rfl) ?_); refine VO.go (VC.seq (VC.text ?_)); refine VO.c (.assign rfl) ?_; refine VO.go (VC.seq (VC.seq (VC.text ?_))); refine VO.c (.assign rfl) ?_; refine VO.go (VC.block ?_); refine VC.keep [(1, .v y25 dn), (2, .p y80 x), (6, I (begE dn x.2.2.2 0)), (7, I ((0 : Nat) : Int))] ⟨rfl, rfl, rfl, rfl, trivial⟩ ?_; refine VC.loop (I := fun kk ff ss => ∃ (k : Nat), kk = x.2.2.2.length - k ∧ ff = [(1, .v y25 dn), (2, .p y80 x), (6, I (begE dn x.2.2.2 k)), (7, I ((k : Nat) : Int))] ∧ ss = [] ∧ (k ≤ x.2.2.2.length) ∧ (rdyE dn x.2.2.2 k = true)) ?_ _ _ _ ⟨0, rfl, rfl, rfl, Nat.zero_le _, (by rfl)⟩; rintro kk ff ss ⟨k, hk0, rfl, rfl, hk, hr⟩; refine VC.seq (VC.seq (VC.text ?_)); refine VO.c (.move rfl) (VO.c (.fa (.r (.r (.r .o)))) ?_); refine VO.r (.ld vt25) ?_; refine VO.r (.len el25) ?_; refine VO.c (.lss) (VO.go ?_); refine VC.condD rfl (fun c3 => ?_) (fun c3 => ?_)
  · have hk2 : k < x.2.2.2.length := by omega
    have hbk := hb k hk2; refine VC.skip (VC.seq (VC.block (VC.seq (VC.seq (VC.text ?_))))); refine VO.c (.move rfl) (VO.c (.fa (.r (.r (.r .o)))) ?_); refine VO.r (.ld vt25) ?_; refine VO.c (.move rfl) (VO.c (.ix (j := k) rfl rfl el25 (by omega)) ?_); refine VO.r (.ld vt3) ?_; refine VO.c (.ixZ (k := x.2.2.2[k]) rfl rfl el25 (by omega) (by omega)) ?_; refine VO.r (.ld vt3) ?_; refine VO.c (.lss) (VO.go ?_); refine VC.condD rfl (fun c5 => ?_) (fun c5 => ?_)
    · have hrf := red_f (dn := dn) (b := x.2.2.2) hk2 (by rw [getDg hk2, getDg (by omega)]; exact c5); refine VC.seq (VC.text ?_); refine VO.c (.assign rfl) (VO.c (.assign rfl) (VO.go ?_)); refine VC.ret ?_; exact VEnd.two rfl evT evT (pvI (by rw [hrf])) (pvE (by rw [hrf]))
    refine VC.skip (VC.text ?_); refine VO.c (.move rfl) (VO.c (.move rfl) (VO.c (.fa (.r (.r (.r .o)))) ?_)); refine VO.r (.ld vt25) ?_; refine VO.c (.move rfl) (VO.c (.ix (j := k) rfl rfl el25 (by omega)) ?_); refine VO.r (.ld vt3) ?_; refine VO.c (.ixZ (k := x.2.2.2[k]) rfl rfl el25 (by omega) (by omega)) ?_; refine VO.r (.ld vt3) ?_; refine VO.c (.imax) (VO.c (.assign rfl) ?_); refine VO.nil (VC.text ?_); refine VO.c (.move rfl) (VO.c (.add rfl rfl (by omega)) (VO.c (.assign rfl) ?_)); refine VO.nil ?_; refine ⟨_, [(1, .v y25 dn), (2, .p y80 x), (6, I (begE dn x.2.2.2 (k + 1))), (7, I (((k + 1) : Nat) : Int))], ?_, ⟨rfl, rfl, slI rfl (by show _ = max _ _; rw [getDg hk2, getDg (by omega)]), rfl, trivial⟩, (k + 1), rfl, rfl, rfl, (by omega), (by show (rdyE dn _ k && decide _) = true; rw [hr, getDg hk2, getDg (by omega), decide_eq_true (by omega)] <;> rfl)⟩; omega
  have hrt : redR dn x.2.2.2 = (begE dn x.2.2.2 x.2.2.2.length, true) := if_pos (by rw [show x.2.2.2.length = k by omega]; exact hr); refine VC.exit (VC.seq (VC.text ?_)); refine VO.c (.move rfl) (VO.c (.assign rfl) (VO.c (.assign rfl) (VO.go ?_))); refine VC.ret ?_; exact VEnd.two rfl evT evT (pvI (by rw [hrt, show k = x.2.2.2.length by omega])) (pvE (by rw [hrt]))
theorem red_now {l : List Pha} {dn : List Int} {now : Int} (hp : PlanOk l) {i : Nat} (hi : i < l.length) (h : rdyE dn (phA l i).2.2.2 (phA l i).2.2.2.length = true) : (redR dn (phA l i).2.2.2).1 = begE (finL (dE false) l dn now i) (phA l i).2.2.2 (phA l i).2.2.2.length ∧ (redR dn (phA l i).2.2.2).2 = true := by
  unfold redR; rw [if_pos h, rdy_beg hp hi (Nat.le_refl _) h]; exact ⟨rfl, rfl⟩
theorem red_no {dn b : List Int} (h : ¬ rdyE dn b b.length = true) : redR dn b = (0, false) := if_neg h
theorem red_2 {dn b : List Int} : (redR dn b).2 = rdyE dn b b.length := by
  unfold redR; by_cases h : rdyE dn b b.length = true
  · rw [if_pos h, h]
  rw [if_neg h]; simpa using h
theorem red_b {l : List Pha} {dn : List Int} {now : Int} (hdn : DoneOk l dn now) {i : Nat} (hp : PlanOk l) (hi : i < l.length) : 0 ≤ (redR dn (phA l i).2.2.2).1 ∧ (redR dn (phA l i).2.2.2).1 ≤ 116000 := by
  by_cases h : rdyE dn (phA l i).2.2.2 (phA l i).2.2.2.length = true
  · rw [(red_now (now := now) hp hi h).1]; have := finB_b (dur_ok hp false) hdn (i := i) (by omega) (phA l i).2.2.2.length; have := hp.len; omega
  rw [red_no h]; decide
theorem cfl_r1 {l : List Pha} {dn : List Int} {now : Int} (hp : PlanOk l) {i : Nat} (hi : i < l.length) (h0 : 0 ≤ dn.getD i 0) : cflE l dn now i = (!(redR dn (phA l i).2.2.2).2 || decide (now < dn.getD i 0) || decide (dn.getD i 0 < (redR dn (phA l i).2.2.2).1 + (phA l i).2.1) || decide ((redR dn (phA l i).2.2.2).1 + (phA l i).2.2.1 < dn.getD i 0)) := by
  rw [cfl_t1 h0, red_2]
  cases hr : rdyE dn (phA l i).2.2.2 (phA l i).2.2.2.length with
  | false => simp
  | true =>
    rw [(red_now (now := now) hp hi hr).1]; congr 1
    · congr 1; exact decide_eq_decide.2 (by omega)
    exact decide_eq_decide.2 (by omega)
theorem cfl_r2 {l : List Pha} {dn : List Int} {now : Int} (hp : PlanOk l) {i : Nat} (hi : i < l.length) (h0 : ¬ 0 ≤ dn.getD i 0) : cflE l dn now i = ((redR dn (phA l i).2.2.2).2 && decide ((redR dn (phA l i).2.2.2).1 + (phA l i).2.2.1 < now)) := by
  rw [cfl_t2 h0, red_2]
  cases hr : rdyE dn (phA l i).2.2.2 (phA l i).2.2.2.length with
  | false => simp
  | true => rw [(red_now (now := now) hp hi hr).1]
theorem rPoss_ok {l : List (ByteArray × Int × Int × (List Int))} {dn : List Int} {now : Int} (hp : PlanOk l) (hdn : DoneOk l dn now) : VF Tryz.prog OA 38 [.v y22 l, .v y25 dn, I now] (B (posE l dn now)) := by
  refine VF.enter Tryz.func38 rfl (fun _ _ => rfl) rfl ?_; show VC _ _ _ _ _ [(0, .v y22 l), (1, .v y25 dn), (2, I now)] [] _; refine VC.seq (VC.text ?_); have hlen := hp.len; have hdl := hdn.len; have hnow := hdn.now; refine VO.c (.assign rfl) ?_; refine VO.go (VC.seq (VC.seq (VC.text ?_))); refine VO.c (.assign rfl) ?_; refine VO.go (VC.block ?_); refine VC.keep [(0, .v y22 l), (1, .v y25 dn), (2, I now), (7, I ((0 : Nat) : Int))] ⟨rfl, rfl, rfl, rfl, trivial⟩ ?_; refine VC.loop (I := fun kk ff ss => ∃ (i : Nat), kk = l.length - i ∧ ff = [(0, .v y22 l), (1, .v y25 dn), (2, I now), (7, I ((i : Nat) : Int))] ∧ ss = [] ∧ (i ≤ l.length) ∧ (∀ j, j < i → cflE l dn now j = false)) ?_ _ _ _ ⟨0, rfl, rfl, rfl, Nat.zero_le _, (by intro j hj; omega)⟩; rintro kk ff ss ⟨i, hk0, rfl, rfl, hi, hq⟩; refine VC.seq (VC.seq (VC.text ?_)); refine VO.c (.move rfl) (VO.c (.move rfl) ?_); refine VO.r (.len el22) ?_; refine VO.c (.lss) (VO.go ?_); refine VC.condD rfl (fun c2 => ?_) (fun c2 => ?_)
  · have hlt : i < l.length := by omega
    have hbl : (phA l i).2.2.2 = l[i].2.2.2 := by rw [phA_eq hlt]
    have hbf := hp.bef i hlt; rw [hbl] at hbf; have hbn := hp.blen hlt; rw [hbl] at hbn; have hdi := hp.dur i hlt; rw [phA_eq hlt] at hdi; have hdb := hdn.bnd i (by omega); rw [getDg (by omega)] at hdb; have hrb := red_b hdn hp hlt; rw [hbl] at hrb; have hr1 : 0 ≤ dn.getD i 0 → _ := fun h => cfl_r1 (now := now) hp hlt h; have hr2 : ¬ 0 ≤ dn.getD i 0 → _ := fun h => cfl_r2 (now := now) hp hlt h; rw [hbl, phA_eq hlt, getDg (l := dn) (i := i) (by omega)] at hr1; rw [hbl, phA_eq hlt, getDg (l := dn) (i := i) (by omega)] at hr2; refine VC.skip (VC.seq (VC.block (VC.seq (VC.text ?_)))); refine VO.c (.move rfl) (VO.c (.move rfl) (VO.c (.ix (j := i) rfl rfl el22 (by omega)) ?_)); refine VO.r (.ld vt80) ?_; refine VO.c (.move rfl) ?_; refine VO.call rfl rfl (VF.call (rReady_ok (fun k hk => by have := hbf k hk; rw [getDg hk] at this; omega) (by omega))) ?_; refine VO.c (.move rfl) (VO.c (.extract) (VO.c (.extract) (VO.c (.assign rfl) ?_))); refine VO.c (.assign rfl) ?_; refine VO.go (VC.seq (VC.seq ?_)); refine VC.join [(0, .v y22 l), (1, .v y25 dn), (2, I now), (7, I ((i : Nat) : Int)), (8, I ((redR dn (l[i]).2.2.2).1)), (9, B ((redR dn (l[i]).2.2.2).2)), (69, B (decide (0 ≤ dn[i]) && cflE l dn now i))] [] ?_ ?_
    · skip
      refine VC.drawn ?_; refine VD.c (.move rfl) (VD.c (.move rfl) (VD.c (.ix (j := i) rfl rfl el25 (by omega)) ?_)); refine VD.r [] (.ld vt3) (.inl rfl) ?_; refine VD.c (.geq) (VD.c (.move rfl) (VD.nw [] ?_)); refine VD.splitD (x := 30) rfl (fun g5_5 => ?_) (fun g5_5 => ?_)
      · refine VD.c (.move rfl) (VD.c (.not) (VD.c (.move rfl) ?_)); refine VD.splitB (x := 33) rfl (fun g5_8 => ?_) (fun g5_8 => ?_)
        · try simp only [Bool.and_eq_true, Bool.or_eq_true, Bool.and_eq_false_iff, Bool.or_eq_false_iff, Bool.not_eq_true', Bool.not_eq_false', decide_eq_true_eq, decide_eq_false_iff_not] at g5_8
          refine VD.skip (VD.skip (VD.nw [] (VD.skip ?_))); refine VD.skip (VD.skip (VD.skip (VD.c (.pickT rfl rfl) ?_))); refine VD.c (.move rfl) (VD.skip (VD.nw [] (VD.skip ?_))); refine VD.skip (VD.skip (VD.skip (VD.skip ?_))); refine VD.skip (VD.skip (VD.nw [] (VD.skip ?_))); refine VD.skip (VD.skip (VD.skip (VD.c (.pickT rfl rfl) ?_))); refine VD.c (.move rfl) (VD.skip (VD.nw [] (VD.skip ?_))); refine VD.skip (VD.skip (VD.skip (VD.skip ?_))); refine VD.skip (VD.skip (VD.nw [] (VD.skip ?_))); refine VD.skip (VD.skip (VD.skip (VD.c (.pickT rfl rfl) ?_))); refine VD.c (.pickT rfl rfl) ?_; refine VD.nil ?_; exact ⟨⟨rfl, rfl, rfl, rfl, rfl, rfl, slE rfl (by first | (rw [decide_eq_false g5_5]; rfl) | (rw [decide_eq_true g5_5, hr1 g5_5]; simp [*])), trivial⟩, rfl⟩
        try simp only [Bool.and_eq_true, Bool.or_eq_true, Bool.and_eq_false_iff, Bool.or_eq_false_iff, Bool.not_eq_true', Bool.not_eq_false', decide_eq_true_eq, decide_eq_false_iff_not] at g5_8
        refine VD.c (.move rfl) (VD.c (.move rfl) (VD.nw [] (VD.c (.ix (j := i) rfl rfl el25 (by omega)) ?_))); refine VD.r [] (.ld vt3) (.inl rfl) ?_; refine VD.c (.move rfl) (VD.c (.gtr) (VD.c (.pickF rfl rfl) (VD.c (.move rfl) ?_))); refine VD.splitD (x := 41) rfl (fun g5_16 => ?_) (fun g5_16 => ?_)
        · refine VD.nw [] (VD.skip (VD.skip (VD.skip ?_))); refine VD.skip (VD.skip (VD.skip (VD.skip ?_))); refine VD.nw [] (VD.skip (VD.skip (VD.skip ?_))); refine VD.skip (VD.skip (VD.c (.pickT rfl rfl) (VD.c (.move rfl) ?_))); refine VD.nw [] (VD.skip (VD.skip (VD.skip ?_))); refine VD.skip (VD.skip (VD.skip (VD.skip ?_))); refine VD.nw [] (VD.skip (VD.skip (VD.skip ?_))); refine VD.skip (VD.skip (VD.c (.pickT rfl rfl) (VD.c (.pickT rfl rfl) ?_))); refine VD.nil ?_; exact ⟨⟨rfl, rfl, rfl, rfl, rfl, rfl, slE rfl (by first | (rw [decide_eq_false g5_5]; rfl) | (rw [decide_eq_true g5_5, hr1 g5_5]; simp [*])), trivial⟩, rfl⟩
        refine VD.nw [] (VD.c (.move rfl) (VD.c (.move rfl) (VD.c (.ix (j := i) rfl rfl el25 (by omega)) ?_))); refine VD.r [] (.ld vt3) (.inl rfl) ?_; refine VD.c (.move rfl) (VD.c (.move rfl) (VD.c (.move rfl) (VD.nw [] ?_))); refine VD.c (.ix (j := i) rfl rfl el22 (by omega)) (VD.c (.fa (.r (.l .o))) ?_); refine VD.r [] (.ld vt3) (.inl rfl) ?_; refine VD.c (.add rfl rfl (by omega)) (VD.c (.lss) (VD.c (.pickF rfl rfl) (VD.c (.move rfl) ?_))); refine VD.nw [] ?_; refine VD.splitD (x := 55) rfl (fun g5_30 => ?_) (fun g5_30 => ?_)
        · refine VD.skip (VD.skip (VD.skip (VD.skip ?_))); refine VD.skip (VD.skip (VD.nw [] (VD.skip ?_))); refine VD.skip (VD.skip (VD.skip (VD.skip ?_))); refine VD.skip (VD.c (.pickT rfl rfl) (VD.nw [] (VD.c (.pickT rfl rfl) ?_))); refine VD.nil ?_; exact ⟨⟨rfl, rfl, rfl, rfl, rfl, rfl, slE rfl (by first | (rw [decide_eq_false g5_5]; rfl) | (rw [decide_eq_true g5_5, hr1 g5_5]; simp [*])), trivial⟩, rfl⟩
        refine VD.c (.move rfl) (VD.c (.move rfl) (VD.c (.ix (j := i) rfl rfl el25 (by omega)) ?_)); refine VD.r [] (.ld vt3) (.inl rfl) ?_; refine VD.c (.move rfl) (VD.c (.move rfl) (VD.nw [] (VD.c (.move rfl) ?_))); refine VD.c (.ix (j := i) rfl rfl el22 (by omega)) (VD.c (.fa (.r (.r (.l .o)))) ?_); refine VD.r [] (.ld vt3) (.inl rfl) ?_; refine VD.c (.add rfl rfl (by omega)) (VD.c (.gtr) (VD.c (.pickF rfl rfl) (VD.nw [] ?_))); refine VD.c (.pickT rfl rfl) ?_; refine VD.nil ?_; exact ⟨⟨rfl, rfl, rfl, rfl, rfl, rfl, slE rfl (by first | (rw [decide_eq_false g5_5]; rfl) | (rw [decide_eq_true g5_5, hr1 g5_5]; simp [*])), trivial⟩, rfl⟩
      refine VD.skip (VD.skip (VD.skip (VD.skip ?_))); refine VD.skip (VD.skip (VD.nw [] (VD.skip ?_))); refine VD.skip (VD.skip (VD.skip (VD.skip ?_))); refine VD.skip (VD.skip (VD.nw [] (VD.skip ?_))); refine VD.skip (VD.skip (VD.skip (VD.skip ?_))); refine VD.skip (VD.skip (VD.nw [] (VD.skip ?_))); refine VD.skip (VD.skip (VD.skip (VD.skip ?_))); refine VD.skip (VD.skip (VD.nw [] (VD.skip ?_))); refine VD.skip (VD.skip (VD.skip (VD.skip ?_))); refine VD.skip (VD.skip (VD.nw [] (VD.skip ?_))); refine VD.skip (VD.skip (VD.skip (VD.c (.pickF rfl rfl) ?_))); refine VD.nil ?_; exact ⟨⟨rfl, rfl, rfl, rfl, rfl, rfl, slE rfl (by first | (rw [decide_eq_false g5_5]; rfl) | (rw [decide_eq_true g5_5, hr1 g5_5]; simp [*])), trivial⟩, rfl⟩
    refine VC.condB rfl (fun c5 => ?_) (fun c5 => ?_)
    · try simp only [Bool.and_eq_true, Bool.or_eq_true, Bool.and_eq_false_iff, Bool.or_eq_false_iff, Bool.not_eq_true', Bool.not_eq_false', decide_eq_true_eq, decide_eq_false_iff_not] at c5
      have hcx : cflE l dn now i = true := c5.2; refine VC.seq (VC.text ?_); refine VO.c (.assign rfl) (VO.go ?_); refine VC.ret ?_; exact VEnd.one rfl evT (pvE (by exact (posE_f hlt hcx).symm))
    try simp only [Bool.and_eq_true, Bool.or_eq_true, Bool.and_eq_false_iff, Bool.or_eq_false_iff, Bool.not_eq_true', Bool.not_eq_false', decide_eq_true_eq, decide_eq_false_iff_not] at c5
    have hc5 : 0 ≤ dn[i] → cflE l dn now i = false := fun h => c5.resolve_left (fun h2 => h2 h); refine VC.skip (VC.seq (VC.text ?_)); refine VO.c (.move rfl) (VO.c (.move rfl) (VO.c (.ix (j := i) rfl rfl el25 (by omega)) ?_)); refine VO.r (.ld vt3) ?_; refine VO.c (.lss) (VO.c (.move rfl) ?_); refine VO.cg (r := decide (dn[i] < (0 : Int))) (w := true) [] trivial (fun _ => (.move rfl)) ?_; refine VO.c (.and) (VO.c (.move rfl) ?_); refine VO.cg (r := ((decide (dn[i] < (0 : Int))) && ((redR dn (l[i]).2.2.2).2))) (w := true) [] trivial (fun _ => (.move rfl)) ?_; refine VO.cg (r := ((decide (dn[i] < (0 : Int))) && ((redR dn (l[i]).2.2.2).2))) (w := true) [] trivial (fun _ => (.move rfl)) ?_; refine VO.cg (r := ((decide (dn[i] < (0 : Int))) && ((redR dn (l[i]).2.2.2).2))) (w := true) [] trivial (fun _ => (.move rfl)) ?_; refine VO.cg (r := ((decide (dn[i] < (0 : Int))) && ((redR dn (l[i]).2.2.2).2))) (w := true) [(80, .v y22 l), (81, I ((i : Nat) : Int))] ⟨rfl, rfl, trivial⟩ (fun hgd => have g7_8 : ((decide (dn[i] < (0 : Int))) && ((redR dn (l[i]).2.2.2).2)) = true := (by simpa using hgd); (.ixD (j := i) rfl rfl (ByteArray.empty, 0, 0, []) el22 (by omega))) ?_; refine VO.cg (r := ((decide (dn[i] < (0 : Int))) && ((redR dn (l[i]).2.2.2).2))) (w := true) [(82, .p y80 (l.getD i (ByteArray.empty, 0, 0, [])))] ⟨rfl, trivial⟩ (fun _ => (.fa (.r (.r (.l .o))))) ?_; refine VO.rg (r := ((decide (dn[i] < (0 : Int))) && ((redR dn (l[i]).2.2.2).2))) (w := true) [(83, .p (.int .i64) ((l.getD i (ByteArray.empty, 0, 0, [])).2.2.1))] ⟨rfl, trivial⟩ (fun _ => (.ld vt3)) ?_; refine VO.cg (r := ((decide (dn[i] < (0 : Int))) && ((redR dn (l[i]).2.2.2).2))) (w := true) [(79, I ((redR dn (l[i]).2.2.2).1)), (84, I ((l.getD i (ByteArray.empty, 0, 0, [])).2.2.1))] ⟨rfl, rfl, trivial⟩ (fun hgd => have g7_8 : ((decide (dn[i] < (0 : Int))) && ((redR dn (l[i]).2.2.2).2)) = true := (by simpa using hgd); (.add rfl rfl (by rw [getDg hlt]; omega))) ?_; refine VO.cg (r := ((decide (dn[i] < (0 : Int))) && ((redR dn (l[i]).2.2.2).2))) (w := true) [] trivial (fun _ => (.move rfl)) ?_; refine VO.cg (r := ((decide (dn[i] < (0 : Int))) && ((redR dn (l[i]).2.2.2).2))) (w := true) [(85, I ((redR dn (l[i]).2.2.2).1 + (l.getD i (ByteArray.empty, 0, 0, [])).2.2.1)), (86, I now)] ⟨rfl, rfl, trivial⟩ (fun _ => (.lss)) ?_; refine VO.c (.and) (VO.go ?_); refine VC.condB rfl (fun c7 => ?_) (fun c7 => ?_)
    · try simp only [Bool.and_eq_true, Bool.or_eq_true, Bool.and_eq_false_iff, Bool.or_eq_false_iff, Bool.not_eq_true', Bool.not_eq_false', decide_eq_true_eq, decide_eq_false_iff_not] at c7
      rw [getDg hlt] at c7
      have hcx : cflE l dn now i = true := by rw [hr2 (by omega), c7.1.2, decide_eq_true c7.2] <;> rfl
      refine VC.seq (VC.text ?_); refine VO.c (.assign rfl) (VO.go ?_); refine VC.ret ?_; exact VEnd.one rfl evT (pvE (by exact (posE_f hlt hcx).symm))
    try simp only [Bool.and_eq_true, Bool.or_eq_true, Bool.and_eq_false_iff, Bool.or_eq_false_iff, Bool.not_eq_true', Bool.not_eq_false', decide_eq_true_eq, decide_eq_false_iff_not] at c7
    rw [getDg hlt] at c7
    have hcf : cflE l dn now i = false := by
      by_cases h9 : 0 ≤ dn[i]
      · exact hc5 h9
      rw [hr2 h9]; rcases c7 with (h | h) | h
      · omega
      · rw [h] <;> rfl
      rw [decide_eq_false h, Bool.and_false]
    refine VC.skip (VC.text ?_); refine VO.c (.move rfl) (VO.c (.add rfl rfl (by omega)) (VO.c (.assign rfl) ?_)); refine VO.nil ?_; refine ⟨_, [(0, .v y22 l), (1, .v y25 dn), (2, I now), (7, I (((i + 1) : Nat) : Int))], ?_, ⟨rfl, rfl, rfl, rfl, trivial⟩, (i + 1), rfl, rfl, rfl, (by omega), (by intro j hj; rcases Nat.lt_succ_iff_lt_or_eq.1 hj with h | h; exact hq j h; subst h; exact hcf)⟩; omega
  refine VC.exit (VC.seq (VC.text ?_)); refine VO.c (.assign rfl) (VO.go ?_); refine VC.ret ?_; exact VEnd.one rfl evT (pvE (by exact (posE_t fun j hj => hq j (by omega)).symm))
theorem red_w {d : Pha → Int} {l : List Pha} {dn : List Int} {now : Int} (hp : PlanOk l) (hd : DurOk d l) (hdn : DoneOk l dn now) {i : Nat} (hi : i < l.length) : (redR (finW d l dn now i) (phA l i).2.2.2).1 = begE (finL d l dn now i) (phA l i).2.2.2 (phA l i).2.2.2.length := by
  have hbf := hp.bef i hi
  have h1 : rdyE (finW d l dn now i) (phA l i).2.2.2 (phA l i).2.2.2.length = true := rdyE_iff.2 fun j hj => by
    have h2 := hbf j hj; exact (finW_b hp hd hdn (by omega) (by omega)).1
  unfold redR; rw [if_pos h1]
  exact begE_congr _ fun j hj => by
    have h2 := hbf j hj; exact finW_low (by omega)
theorem rFin_ok {l : List (ByteArray × Int × Int × (List Int))} {dn : List Int} {now : Int} {long : Bool} (hp : PlanOk l) (hdn : DoneOk l dn now) : VF Tryz.prog OA 116 [.v y22 l, .v y25 dn, I now, B long] (I (endE l dn now long)) := by
  refine VF.enter Tryz.func116 rfl (fun _ _ => rfl) rfl ?_; show VC _ _ _ _ _ [(0, .v y22 l), (1, .v y25 dn), (2, I now), (3, B long)] [] _; refine VC.seq (VC.text ?_); have hlen := hp.len; have hdl := hdn.len; have hnow := hdn.now; have hd := dur_ok hp long; refine VO.c (.assign rfl) ?_; refine VO.go (VC.seq (VC.text ?_)); refine VO.cell (.lit0 el25) ?_; intro ww1; refine VO.c (.move rfl) ?_; refine VO.app rfl rfl el25 el25 (by simp; omega) ?_; intro ww2; refine VO.c (.assign rfl) ?_; refine VO.go (VC.seq (VC.text ?_)); refine VO.c (.assign rfl) ?_; refine VO.go (VC.seq (VC.seq (VC.text ?_))); refine VO.c (.assign rfl) ?_; refine VO.go (VC.block ?_); refine VC.keep [(0, .v y22 l), (2, I now), (3, B long), (9, .raw ww2), (10, I (maxL (finL (dE long) l dn now 0))), (11, I ((0 : Nat) : Int))] ⟨rfl, rfl, rfl, rfl, rfl, rfl, trivial⟩ ?_; refine VC.loop (I := fun kk ff ss => ∃ (i : Nat) (w : Value), kk = l.length - i ∧ ff = [(0, .v y22 l), (2, I now), (3, B long), (9, .raw w), (10, I (maxL (finL (dE long) l dn now i))), (11, I ((i : Nat) : Int))] ∧ ss = [(w, .row 3 (.int .i64) (finW (dE long) l dn now i))] ∧ (i ≤ l.length)) ?_ _ _ _ ⟨0, ww2, rfl, rfl, (by rfl), Nat.zero_le _⟩; rintro kk ff ss ⟨i, w, hk0, rfl, rfl, hi⟩; refine VC.seq (VC.seq (VC.text ?_)); refine VO.c (.move rfl) (VO.c (.move rfl) ?_); refine VO.r (.len el22) ?_; refine VO.c (.lss) (VO.go ?_); refine VC.condD rfl (fun c4 => ?_) (fun c4 => ?_)
  · have hlt : i < l.length := by omega
    have hbl : (phA l i).2.2.2 = l[i].2.2.2 := by rw [phA_eq hlt]
    have hbf := hp.bef i hlt; rw [hbl] at hbf; have hbn := hp.blen hlt; rw [hbl] at hbn; have hdi := hd i hlt; rw [phA_eq hlt] at hdi; have hfl : (finW (dE long) l dn now i).length = dn.length := finW_len (by omega); have hfl2 : (finW (dE long) l dn now (i + 1)).length = dn.length := finW_len (by omega)
    have hwa : (finW (dE long) l dn now i)[i]'(by omega) = dn.getD i 0 := by rw [← getDg (d := 0) (by omega), finW_at]
    have hwb : (finW (dE long) l dn now (i + 1))[i]'(by omega) = finF (dE long) l dn now (finL (dE long) l dn now i) i := by rw [← getDg (d := 0) (by omega), finW_low (by omega), finL_get (by omega)]
    have hrw := red_w hp hd hdn hlt; rw [hbl] at hrw; have hB := finB_b hd hdn (i := i) (by omega) l[i].2.2.2.length; rw [hbl, ← hrw] at hB
    have hmx : max (maxL (finL (dE long) l dn now i)) ((finW (dE long) l dn now (i + 1))[i]'(by omega)) = maxL (finL (dE long) l dn now (i + 1)) := by rw [hwb]; exact maxL_app.symm
    refine VC.skip (VC.seq (VC.block (VC.seq (VC.seq (VC.text ?_))))); refine VO.c (.move rfl) (VO.c (.move rfl) (VO.c (.ixO (j := i) rfl rfl m0 el25 (by omega)) ?_)); refine VO.r (.ldO rfl m0 vt3 (by omega)) ?_; refine VO.c (.lss) (VO.go ?_); refine VC.join [(0, .v y22 l), (2, I now), (3, B long), (9, .raw w), (10, I (maxL (finL (dE long) l dn now i))), (11, I ((i : Nat) : Int))] [(w, .row 3 (.int .i64) (finW (dE long) l dn now (i + 1)))] ?_ ?_; refine VC.condD rfl (fun c6 => ?_) (fun c6 => ?_)
    · have h0 : ¬ 0 ≤ dn.getD i 0 := by rw [hwa] at c6; omega
      have hs0 : (finW (dE long) l dn now i).set i (max now ((redR (finW (dE long) l dn now i) l[i].2.2.2).1 + dE long l[i])) = finW (dE long) l dn now (i + 1) := finW_set (by omega) (by rw [finF, if_neg h0, hrw, hbl, phA_eq hlt, Int.max_comm]); refine VC.seq (VC.text ?_); refine VO.c (.move rfl) (VO.c (.move rfl) (VO.c (.ix (j := i) rfl rfl el22 (by omega)) ?_)); refine VO.r (.ld vt80) ?_; refine VO.c (.move rfl) ?_; refine VO.callC rfl rfl .same (.cons .same (.cons (.row m0) .nil)) rfl (VF.call (rReady_ok (fun k hk => by have := hbf k hk; rw [getDg hk] at this; omega) (by omega))) ?_; refine VO.c (.move rfl) (VO.c (.extract) (VO.c (.extract) (VO.c (.assign rfl) ?_))); refine VO.c (.assign rfl) ?_; refine VO.go (VC.text ?_); refine VO.c (.move rfl) (VO.c (.move rfl) (VO.c (.move rfl) (VO.c (.move rfl) ?_))); refine VO.c (.move rfl) (VO.c (.move rfl) (VO.c (.ix (j := i) rfl rfl el22 (by omega)) ?_)); refine VO.r (.ld vt80) ?_; refine VO.c (.move rfl) ?_; refine VO.call rfl rfl (VF.call (rLength_ok )) ?_; refine VO.c (.add rfl rfl (by omega)) (VO.c (.imax) (VO.c (.ixO (j := i) rfl rfl m0 el25 (by omega)) ?_)); refine VO.setE i rfl rfl vt3 (by omega) ?_; refine VO.nil ?_; exact ⟨⟨rfl, rfl, rfl, rfl, rfl, rfl, trivial⟩, (by rw [hs0])⟩
    · have h0 : 0 ≤ dn.getD i 0 := by rw [hwa] at c6; omega
      have hs0 : finW (dE long) l dn now i = finW (dE long) l dn now (i + 1) := finW_done (by omega) h0; refine VC.skip ?_; exact ⟨⟨rfl, rfl, rfl, rfl, rfl, rfl, trivial⟩, (by rw [hs0])⟩
    refine VC.text ?_; refine VO.c (.move rfl) (VO.c (.move rfl) (VO.c (.move rfl) (VO.c (.ixO (j := i) rfl rfl m0 el25 (by omega)) ?_))); refine VO.r (.ldO rfl m0 vt3 (by omega)) ?_; refine VO.c (.imax) (VO.c (.assign rfl) ?_); refine VO.nil (VC.text ?_); refine VO.c (.move rfl) (VO.c (.add rfl rfl (by omega)) (VO.c (.assign rfl) ?_)); refine VO.nil ?_; refine ⟨_, [(0, .v y22 l), (2, I now), (3, B long), (9, .raw w), (10, I (maxL (finL (dE long) l dn now (i + 1)))), (11, I (((i + 1) : Nat) : Int))], ?_, ⟨rfl, rfl, rfl, rfl, slI rfl (by exact hmx), rfl, trivial⟩, (i + 1), w, rfl, rfl, (by rfl), (by omega)⟩; omega
  refine VC.exit (VC.seq (VC.text ?_)); refine VO.c (.move rfl) (VO.c (.assign rfl) (VO.go ?_)); refine VC.ret ?_; exact VEnd.one rfl evT (pvI (by rw [show i = l.length by omega] <;> rfl))
def verW (l : List Pha) (dl : Int) (dn : List Int) (now : Int) : ByteArray := if endE l dn now true ≤ dl then vr0.1 else if dl < endE l dn now false then vr1.1 else vr2.1
theorem rVerdict_ok {l : List (ByteArray × Int × Int × (List Int))} {dl : Int} {dn : List Int} {now : Int} (hp : PlanOk l) (hdn : DoneOk l dn now) : VF Tryz.prog OA 39 [.v y22 l, I dl, .v y25 dn, I now] (St (verW l dl dn now)) := by
  refine VF.enter Tryz.func39 rfl (fun _ _ => rfl) rfl ?_; show VC _ _ _ _ _ [(0, .v y22 l), (1, I dl), (2, .v y25 dn), (3, I now)] [] _; refine VC.seq (VC.text ?_); refine VO.c (.assign rfl) ?_; refine VO.go (VC.seq (VC.seq (VC.text ?_))); refine VO.c (.move rfl) (VO.c (.move rfl) (VO.c (.move rfl) ?_)); refine VO.call rfl rfl (VF.call (rFin_ok hp hdn)) ?_; refine VO.c (.move rfl) (VO.c (.leq) (VO.go ?_)); refine VC.condD rfl (fun c1 => ?_) (fun c1 => ?_)
  · refine VC.seq (VC.text ?_); refine VO.c (.assign rfl) (VO.go ?_); refine VC.ret ?_; exact VEnd.one rfl evT (pvE (by rw [verW, if_pos c1] <;> rfl))
  refine VC.skip (VC.seq (VC.seq (VC.text ?_))); refine VO.c (.move rfl) (VO.c (.move rfl) (VO.c (.move rfl) ?_)); refine VO.call rfl rfl (VF.call (rFin_ok hp hdn)) ?_; refine VO.c (.move rfl) (VO.c (.gtr) (VO.go ?_)); refine VC.condD rfl (fun c3 => ?_) (fun c3 => ?_)
  · refine VC.seq (VC.text ?_); refine VO.c (.assign rfl) (VO.go ?_); refine VC.ret ?_; exact VEnd.one rfl evT (pvE (by rw [verW, if_neg c1, if_pos c3] <;> rfl))
  refine VC.skip (VC.seq (VC.text ?_)); refine VO.c (.assign rfl) (VO.go ?_); refine VC.ret ?_; exact VEnd.one rfl evT (pvE (by rw [verW, if_neg c1, if_neg c3] <;> rfl))
def donE (l : List Pha) (dn : List Int) : Int := if ((dn.length : Nat) : Int) ≠ ((l.length : Nat) : Int) then 2 else firstE (dn.map fun n => rangeE n (-1) 100000)
theorem rDone_ok {l : List (ByteArray × Int × Int × (List Int))} {dn : List Int} (hl : dn.length < 100000) : VF Tryz.prog OA 37 [.v y22 l, .v y25 dn] (I (donE l dn)) := by
  refine VF.enter Tryz.func37 rfl (fun _ _ => rfl) rfl ?_; show VC _ _ _ _ _ [(0, .v y22 l), (1, .v y25 dn)] [] _; refine VC.seq (VC.text ?_); refine VO.c (.assign rfl) ?_; refine VO.go (VC.seq (VC.seq (VC.text ?_))); refine VO.c (.move rfl) ?_; refine VO.r (.len el25) ?_; refine VO.c (.move rfl) ?_; refine VO.r (.len el22) ?_; refine VO.c (.neq) (VO.go ?_); refine VC.condD rfl (fun c1 => ?_) (fun c1 => ?_)
  · refine VC.seq (VC.text ?_); refine VO.c (.assign rfl) (VO.go ?_); refine VC.ret ?_; exact VEnd.one rfl evT (pvI (by rw [donE, if_pos c1]))
  refine VC.skip (VC.seq (VC.seq (VC.text ?_))); refine VO.c (.assign rfl) ?_; refine VO.go (VC.block ?_); refine VC.keep [(1, .v y25 dn), (5, I ((0 : Nat) : Int))] ⟨rfl, rfl, trivial⟩ ?_; refine VC.loop (I := fun kk ff ss => ∃ (i : Nat), kk = dn.length - i ∧ ff = [(1, .v y25 dn), (5, I ((i : Nat) : Int))] ∧ ss = [] ∧ (i ≤ dn.length) ∧ (firstE (dn.map fun n => rangeE n (-1) 100000) = firstE ((dn.map fun n => rangeE n (-1) 100000).drop i))) ?_ _ _ _ ⟨0, rfl, rfl, rfl, Nat.zero_le _, (by rfl)⟩; rintro kk ff ss ⟨i, hk0, rfl, rfl, hi, hq⟩; refine VC.seq (VC.seq (VC.text ?_)); refine VO.c (.move rfl) (VO.c (.move rfl) ?_); refine VO.r (.len el25) ?_; refine VO.c (.lss) (VO.go ?_); refine VC.condD rfl (fun c4 => ?_) (fun c4 => ?_)
  · refine VC.skip (VC.seq (VC.block (VC.seq (VC.text ?_)))); refine VO.c (.move rfl) (VO.c (.move rfl) (VO.c (.ix (j := i) rfl rfl el25 (by omega)) ?_)); refine VO.r (.ld vt3) ?_; refine VO.call rfl rfl (VF.call (rCheckRange_ok )) ?_; refine VO.c (.neq) (VO.go ?_); refine VC.condD rfl (fun c6 => ?_) (fun c6 => ?_)
    · refine VC.seq (VC.text ?_); refine VO.c (.assign rfl) (VO.go ?_); refine VC.ret ?_; exact VEnd.one rfl evT (pvI (by rw [donE, if_neg c1, hq, firstE_drop (by simp; omega), List.getElem_map, if_neg c6]; unfold rangeE at c6 ⊢; split at c6 <;> simp_all))
    refine VC.skip (VC.text ?_); refine VO.c (.move rfl) (VO.c (.add rfl rfl (by omega)) (VO.c (.assign rfl) ?_)); refine VO.nil ?_; refine ⟨_, [(1, .v y25 dn), (5, I (((i + 1) : Nat) : Int))], ?_, ⟨rfl, rfl, trivial⟩, (i + 1), rfl, rfl, rfl, (by omega), (by rw [hq, firstE_drop (by simp; omega), if_pos (by rw [List.getElem_map]; exact Classical.not_not.1 c6)])⟩; omega
  refine VC.exit (VC.seq (VC.text ?_)); refine VO.c (.assign rfl) (VO.go ?_); refine VC.ret ?_; exact VEnd.one rfl evT (pvI (by rw [donE, if_neg c1, hq, firstE_end (by simp; omega)]))
end Go.Proofs
namespace Go.Proofs
open Go.Fs
set_option maxHeartbeats 1000000
abbrev y158 : Ty := (.sl (.pair .str .fn))
abbrev y161 : Ty := (.pair .str .fn)
theorem vt159 : ValT Tryz.prog 159 .fn := valT_of (by kernel_rfl)
theorem vt161 : ValT Tryz.prog 161 y161 := valT_of (by kernel_rfl)
theorem el158 : ElT Tryz.prog 158 161 y161 := elT_of (by kernel_rfl)
theorem cVA_ok {x : Int × Int} {dl : Int} : VF Tryz.prog OA 237 [.v y32 x, I dl] (B (decide (x.2 ≤ dl))) := by
  refine VF.enter Tryz.func237 rfl (fun _ _ => rfl) rfl ?_; show VC _ _ _ _ _ [(0, .v y32 x), (1, I dl)] [] _; refine VC.seq (VC.text ?_); refine VO.new (.box) ?_; refine VO.c (.assign rfl) ?_; refine VO.go (VC.seq (VC.text ?_)); refine VO.c (.fa (.r .o)) ?_; refine VO.r (.ld vt3) ?_; refine VO.c (.move rfl) (VO.c (.leq) (VO.c (.assign rfl) (VO.go ?_))); refine VC.ret ?_; exact VEnd.one rfl evT (pvE (by rfl))
theorem cVB_ok {x : Int × Int} {dl : Int} : VF Tryz.prog OA 238 [.v y32 x, I dl] (B (decide (dl < x.1))) := by
  refine VF.enter Tryz.func238 rfl (fun _ _ => rfl) rfl ?_; show VC _ _ _ _ _ [(0, .v y32 x), (1, I dl)] [] _; refine VC.seq (VC.text ?_); refine VO.new (.box) ?_; refine VO.c (.assign rfl) ?_; refine VO.go (VC.seq (VC.text ?_)); refine VO.c (.fa (.l .o)) ?_; refine VO.r (.ld vt3) ?_; refine VO.c (.move rfl) (VO.c (.gtr) (VO.c (.assign rfl) (VO.go ?_))); refine VC.ret ?_; exact VEnd.one rfl evT (pvE (by rfl))
theorem cVC_ok {x : Int × Int} {dl : Int} : VF Tryz.prog OA 239 [.v y32 x, I dl] (B true) := by
  refine VF.enter Tryz.func239 rfl (fun _ _ => rfl) rfl ?_; show VC _ _ _ _ _ [(0, .v y32 x), (1, I dl)] [] _; refine VC.seq (VC.text ?_); refine VO.new (.box) ?_; refine VO.c (.assign rfl) ?_; refine VO.go (VC.seq (VC.text ?_)); refine VO.c (.assign rfl) (VO.go ?_); refine VC.ret ?_; exact VEnd.one rfl evT (pvE (by rfl))
theorem cVer1_ok {n : Int} : VF Tryz.prog OA 111 [I n] (I (rangeE n (-1) 100000)) := by
  refine VF.enter Tryz.func111 rfl (fun _ _ => rfl) rfl ?_; show VC _ _ _ _ _ [(0, I n)] [] _; refine VC.seq (VC.text ?_); refine VO.c (.assign rfl) ?_; refine VO.go (VC.seq (VC.text ?_)); refine VO.c (.move rfl) ?_; refine VO.call rfl rfl (VF.call (cWithin_ok )) ?_; refine VO.c (.assign rfl) (VO.go ?_); refine VC.ret ?_; exact VEnd.one rfl evT (pvI (by rfl))
theorem cVer2_ok {f : Nat} {G : Bool} {v : ByteArray × (Option Nat)} {x : Int × Int} {dl : Int} (hd : v.2 = some f) (hc : VCall Tryz.prog OA (.clo f [] []) [.v y32 x, I dl] (B G)) : VF Tryz.prog OA 114 [.v y161 v, .p y32 x, .p (.int .i64) dl] (B G) := by
  refine VF.enter Tryz.func114 rfl (fun _ _ => rfl) rfl ?_; show VC _ _ _ _ _ [(0, .v y161 v), (1, .p y32 x), (2, .p (.int .i64) dl)] [] _; refine VC.seq (VC.text ?_); refine VO.new (.box) ?_; refine VO.c (.assign rfl) ?_; refine VO.go (VC.seq (VC.text ?_)); refine VO.c (.fa (.r .o)) ?_; refine VO.r (.ld vt159) ?_; refine VO.r (.ld vt32) ?_; refine VO.r (.ld vt3) ?_; refine VO.callF rfl (hd) rfl (hc) ?_; refine VO.c (.assign rfl) (VO.go ?_); refine VC.ret ?_; exact VEnd.one rfl evT (pvE (by rfl))
theorem zIndexV_ok {F : ByteArray × Option Nat → Bool} {l : List (ByteArray × (Option Nat))} {f : PV} (hl : l.length < 1000000) (hf : ∀ x ∈ l, VCall Tryz.prog OA f [.v y161 x] (B (F x))) : VF Tryz.prog OA 113 [.v y158 l, f] (I (idxG F l 0)) := by
  refine VF.enter Tryz.func113 rfl (fun _ _ => rfl) rfl ?_; show VC _ _ _ _ _ [(0, .v y158 l), (1, f)] [] _; refine VC.seq (VC.text ?_); refine VO.c (.assign rfl) ?_; refine VO.go (VC.seq (VC.seq (VC.text ?_))); refine VO.c (.move rfl) ?_; refine VO.r (.len el158) ?_; refine VO.c (.move rfl) ?_; refine VO.go (VC.block ?_); refine VC.keep [(0, .v y158 l), (1, f), (7, I ((l.length : Nat) : Int)), (8, I ((0 : Nat) : Int))] ⟨rfl, rfl, rfl, rfl, trivial⟩ ?_; refine VC.loop (I := fun kk ff ss => ∃ (j : Nat), kk = l.length - j ∧ ff = [(0, .v y158 l), (1, f), (7, I ((l.length : Nat) : Int)), (8, I ((j : Nat) : Int))] ∧ ss = [] ∧ (j ≤ l.length) ∧ (idxG F l 0 = idxG F (l.drop j) (j : Nat))) ?_ _ _ _ ⟨0, rfl, rfl, rfl, Nat.zero_le _, (by rfl)⟩; rintro kk ff ss ⟨j, hk0, rfl, rfl, hj, hi⟩; refine VC.seq (VC.text ?_); refine VO.c (.lss) ?_; refine VO.go (VC.seq ?_); refine VC.condD rfl (fun c2 => ?_) (fun c2 => ?_)
  · refine VC.skip (VC.seq (VC.block (VC.seq (VC.text ?_)))); refine VO.c (.move rfl) (VO.c (.assign rfl) ?_); refine VO.go (VC.seq (VC.text ?_)); refine VO.c (.move rfl) (VO.c (.move rfl) (VO.c (.move rfl) (VO.c (.ix (j := j) rfl rfl el158 (by omega)) ?_))); refine VO.r (.ld vt161) ?_; refine VO.call rfl rfl ((hf _ (List.getElem_mem _)) ) ?_; refine VO.go ?_; refine VC.condB rfl (fun c4 => ?_) (fun c4 => ?_)
    · refine VC.seq (VC.text ?_); refine VO.c (.move rfl) (VO.c (.assign rfl) (VO.go ?_)); refine VC.ret ?_; exact VEnd.one rfl evT (pvI (by rw [hi, idxG_drop (by omega), if_pos c4]))
    refine VC.skip (VC.text ?_); refine VO.c (.add rfl rfl (by omega)) (VO.c (.move rfl) ?_); refine VO.nil ?_; refine ⟨_, [(0, .v y158 l), (1, f), (7, I ((l.length : Nat) : Int)), (8, I (((j + 1) : Nat) : Int))], ?_, ⟨rfl, rfl, rfl, rfl, trivial⟩, (j + 1), rfl, rfl, rfl, (by omega), (by rw [hi, idxG_drop (by omega), if_neg (by rw [c4]; decide)])⟩; omega
  refine VC.exit (VC.seq (VC.text ?_)); refine VO.c (.assign rfl) (VO.go ?_); refine VC.ret ?_; exact VEnd.one rfl evT (pvI (by rw [hi, idxG_end (by omega)]))
def vFn (x : Int × Int) (dl : Int) (v : ByteArray × Option Nat) : Bool := if v.2 = some 237 then decide (x.2 ≤ dl) else if v.2 = some 238 then decide (dl < x.1) else true
def vIx (x : Int × Int) (dl : Int) : Nat := if x.2 ≤ dl then 0 else if dl < x.1 then 1 else 2
theorem vFn_0 {x : Int × Int} {dl : Int} : vFn x dl vr0 = decide (x.2 ≤ dl) := if_pos rfl
theorem vFn_1 {x : Int × Int} {dl : Int} : vFn x dl vr1 = decide (dl < x.1) := (if_neg (by decide)).trans (if_pos rfl)
theorem vFn_2 {x : Int × Int} {dl : Int} : vFn x dl vr2 = true := (if_neg (by decide)).trans (if_neg (by decide))
theorem vIx_eq {x : Int × Int} {dl : Int} : idxG (vFn x dl) [vr0, vr1, vr2] 0 = ((vIx x dl : Nat) : Int) := by
  show (if vFn x dl vr0 = true then (0 : Int) else if vFn x dl vr1 = true then (0 + 1 : Int) else if vFn x dl vr2 = true then (0 + 1 + 1 : Int) else _) = _; rw [vFn_0, vFn_1, vFn_2]; unfold vIx; by_cases h1 : x.2 ≤ dl
  · rw [if_pos (decide_eq_true h1), if_pos h1] <;> rfl
  rw [if_neg (by simpa using h1), if_neg h1]; by_cases h2 : dl < x.1
  · rw [if_pos (decide_eq_true h2), if_pos h2] <;> rfl
  rw [if_neg (by simpa using h2), if_neg h2, if_pos rfl] <;> rfl
theorem vIx_3 {x : Int × Int} {dl : Int} : vIx x dl < 3 := by
  unfold vIx; split
  · omega
  split <;> omega
theorem vFn_ok {x : Int × Int} {dl : Int} : ∀ v ∈ [vr0, vr1, vr2], VCall Tryz.prog OA (.clo 114 [] [.p y32 x, .p (.int .i64) dl]) [.v y161 v] (B (vFn x dl v)) := fun v hv => by
  rcases List.mem_cons.1 hv with rfl | hv
  · rw [vFn_0]; exact VF.clo (cVer2_ok (f := 237) rfl (VF.call cVA_ok))
  rcases List.mem_cons.1 hv with rfl | hv
  · rw [vFn_1]; exact VF.clo (cVer2_ok (f := 238) rfl (VF.call cVB_ok))
  obtain rfl := List.mem_singleton.1 hv; rw [vFn_2]; exact VF.clo (cVer2_ok (f := 239) rfl (VF.call cVC_ok))
def verB (l : List Pha) (dl : Int) (dn : List Int) (now : Int) : Int := firstE [planE l, rangeE dl 0 100000, whenE (decide (((dn.length : Nat) : Int) ≠ ((l.length : Nat) : Int))) 2, firstE (dn.map fun n => rangeE n (-1) 100000), rangeE now 0 100000]
def verE (l : List Pha) (dl : Int) (dn : List Int) (now : Int) : Int := if verB l dl dn now = 0 then prgE l dn now else verB l dl dn now
def verR (l : List Pha) (dl : Int) (dn : List Int) (now : Int) : ByteArray := if verE l dl dn now = 0 then verW l dl dn now else ByteArray.empty
structure VerOk (l : List Pha) (dl : Int) (dn : List Int) (now : Int) : Prop where
  plan : PlanOk l
  done : DoneOk l dn now
  dl : 0 ≤ dl ∧ dl ≤ 100000
theorem ver_ok {l : List Pha} {dl : Int} {dn : List Int} {now : Int} (h : verB l dl dn now = 0) : VerOk l dl dn now := by
  have h := firstE_zero.1 h; have h1 := h _ List.mem_cons_self; have h2 := rangeE_zero.1 (h (rangeE dl 0 100000) (by simp)); have h3 := of_decide_eq_false ((whenE_zero (by decide)).1 (h (whenE (decide (((dn.length : Nat) : Int) ≠ ((l.length : Nat) : Int))) 2) (by simp))); have h4 := firstE_zero.1 (h (firstE (dn.map fun n => rangeE n (-1) 100000)) (by simp)); have h5 := rangeE_zero.1 (h (rangeE now 0 100000) (by simp)); refine ⟨plan_ok h1, ⟨by omega, fun i hi => ?_, h5⟩, h2⟩; have := rangeE_zero.1 (h4 _ (List.mem_map_of_mem (f := fun n => rangeE n (-1) 100000) (List.getElem_mem hi))); rw [getDg hi]; exact this
theorem ver_t {l : List Pha} {dl : Int} {dn : List Int} {now : Int} (h : verB l dl dn now = 0) : verE l dl dn now = prgE l dn now := if_pos h
theorem ver_f {l : List Pha} {dl : Int} {dn : List Int} {now : Int} (h : ¬ verB l dl dn now = 0) : verE l dl dn now = verB l dl dn now := if_neg h
theorem ver_w {l : List Pha} {dn : List Int} {now dl : Int} : (arr3 vr0 vr1 vr2 (vIx (endE l dn now false, endE l dn now true) dl)).1 = verW l dl dn now := by
  unfold vIx verW; by_cases h1 : endE l dn now true ≤ dl
  · rw [if_pos h1, if_pos h1] <;> rfl
  rw [if_neg h1, if_neg h1]; by_cases h2 : dl < endE l dn now false
  · rw [if_pos h2, if_pos h2] <;> rfl
  rw [if_neg h2, if_neg h2] <;> rfl
theorem cVerdict_ok {l : List (ByteArray × Int × Int × (List Int))} {dl : Int} {dn : List Int} {now : Int} (hl : l.length < 100000) (hb : ∀ x ∈ l, x.2.2.2.length < 100000) (hd : dn.length < 100000) : VF Tryz.prog OA 35 [.v y29 l, I dl, .v y25 dn, I now] (.tup [St (verR l dl dn now), I (verE l dl dn now)]) := by
  refine VF.enter Tryz.func35 rfl (fun _ _ => rfl) rfl ?_; show VC _ _ _ _ _ [(0, .v y29 l), (1, I dl), (2, .v y25 dn), (3, I now)] [] _; refine VC.seq (VC.text ?_); refine VO.new (.box) ?_; refine VO.c (.assign rfl) (VO.c (.assign rfl) ?_); refine VO.go (VC.seq (VC.text ?_)); refine VO.c (.move rfl) ?_; refine VO.call rfl rfl (VF.call (cMapIE_ok (F := fun n => rangeE n (-1) 100000) (by omega) (fun n _ => VF.call cVer1_ok))) ?_; refine VO.c (.assign rfl) ?_; refine VO.go (VC.seq (VC.seq (VC.drawn ?_))); refine VD.c (.move rfl) ?_; refine VD.call rfl rfl (VF.call (cPlan_ok hl hb)) ?_; refine VD.r [] (.ld vt3) (.inl rfl) ?_; refine VD.call rfl rfl (VF.call (cTime_ok )) ?_; refine VD.c (.move rfl) ?_; refine VD.r [] (.len el25) (.inl rfl) ?_; refine VD.nw [] (VD.c (.move rfl) ?_); refine VD.r [] (.len el29) (.inl rfl) ?_; refine VD.c (.neq) ?_; refine VD.call rfl rfl (VF.call (cWhen_ok )) ?_; refine VD.c (.move rfl) ?_; refine VD.call rfl rfl (VF.call (cFirst_ok (by simp; omega))) ?_; refine VD.c (.move rfl) (VD.nw [] ?_); refine VD.call rfl rfl (VF.call (cTime_ok )) ?_; refine VD.new (.lit [planE l, rangeE dl 0 100000, whenE (decide (((dn.length : Nat) : Int) ≠ ((l.length : Nat) : Int))) (2 : Int), firstE (dn.map (fun n => rangeE n (-1) 100000)), rangeE now 0 100000] el154) ?_; refine VD.callO rfl rfl (VF.call (cFirst_ok (by simp))) ?_; refine VD.c (.assign rfl) ?_; refine VD.go (VC.seq (VC.text ?_)); refine VO.c (.move rfl) (VO.c (.neq) (VO.go ?_)); refine VC.condD rfl (fun c3 => ?_) (fun c3 => ?_)
  · have c3 : ¬ verB l dl dn now = 0 := c3; refine VC.seq (VC.text ?_); refine VO.c (.move rfl) (VO.c (.assign rfl) (VO.c (.assign rfl) (VO.go ?_))); refine VC.ret ?_; exact VEnd.two rfl evT evT (pvE (by rw [verR, if_neg (by rw [ver_f c3]; exact c3)]; rfl)) (pvI (by exact (ver_f c3).symm))
  have c3 : verB l dl dn now = 0 := Classical.not_not.1 c3; have hv := ver_ok c3; have hve := ver_t c3; refine VC.skip (VC.seq (VC.text ?_)); refine VO.c (.move rfl) (VO.c (.move rfl) (VO.c (.move rfl) ?_)); refine VO.call rfl rfl (VF.call (cProg_ok hv.plan hv.done)) ?_; refine VO.c (.move rfl) (VO.c (.extract) (VO.c (.extract) ?_)); refine VO.cell (.alloc zt32) ?_; intro ww1; refine VO.setV (cs' := [I ((prgR l dn now).1), I ((prgR l dn now).2)]) vt32 .v ?_; refine VO.shut [(12, .p y32 (prgR l dn now))] (.cons rfl (.var m0 .refl) .nil) ?_; refine VO.c (.assign rfl) ?_; refine VO.go (VC.seq (VC.seq ?_)); refine VC.keep [(5, .p (.int .i64) dl), (12, .p y32 (prgR l dn now)), (13, I (prgE l dn now))] ⟨rfl, rfl, rfl, trivial⟩ ?_; refine VC.text ?_; refine VO.c (.move rfl) (VO.c (.neq) (VO.go ?_)); refine VC.condD rfl (fun c6 => ?_) (fun c6 => ?_)
  · refine VC.seq (VC.text ?_); refine VO.c (.move rfl) (VO.c (.assign rfl) (VO.c (.assign rfl) (VO.go ?_))); refine VC.ret ?_; exact VEnd.two rfl evT evT (pvE (by rw [verR, if_neg (by rw [hve]; exact c6)]; rfl)) (pvI (by exact hve.symm))
  have c6 : prgE l dn now = 0 := Classical.not_not.1 c6
  have hpo : posE l dn now = true := by
    unfold prgE at c6; by_cases h : posE l dn now = true
    · exact h
    rw [if_neg h] at c6; cases c6
  have hpr : prgR l dn now = (endE l dn now false, endE l dn now true) := if_pos hpo; refine VC.skip (VC.seq (VC.text ?_)); refine VO.slG (τ := y161) (a := vr0) (b := vr1) (c := vr2) (.tail _ (.head _)) 161 ?_; refine VO.c (.func) ?_; refine VO.call rfl rfl (VF.call (zIndexV_ok (F := vFn (prgR l dn now) dl) (by simp) (fun v hv => vFn_ok v hv))) ?_; refine VO.c (.assign rfl) ?_; rw [vIx_eq]; refine VO.go (VC.seq (VC.text ?_)); refine VO.c (.move rfl) ?_; refine VO.ixG (τ := y161) (a := vr0) (b := vr1) (c := vr2) (.tail _ (.head _)) (vIx (prgR l dn now) dl) (by exact vIx_3) ?_; refine VO.c (.fa (.l .o)) ?_; refine VO.r (.ld vt9) ?_; refine VO.c (.assign rfl) (VO.c (.assign rfl) (VO.go ?_)); refine VC.ret ?_; exact VEnd.two rfl evT evT (pvE (by rw [verR, if_pos (hve.trans c6), hpr, ver_w])) (pvI (by exact (hve.trans c6).symm))
theorem ver_bad {l : List Pha} {dl : Int} {dn : List Int} {now : Int} : firstE [planE l, rangeE dl 0 100000, donE l dn, rangeE now 0 100000] = verB l dl dn now := by
  unfold verB donE; by_cases h : ((dn.length : Nat) : Int) ≠ ((l.length : Nat) : Int)
  · rw [if_pos h, decide_eq_true h] <;> rfl
  rw [if_neg h, decide_eq_false h] <;> rfl
theorem prg_w {l : List Pha} {dn : List Int} {now : Int} : whenE (!posE l dn now) 30 = prgE l dn now := by
  unfold prgE; cases posE l dn now <;> rfl
theorem lawVerd_ok {l : List (ByteArray × Int × Int × (List Int))} {dn : List Int} {n : Int × Int} (hl : l.length ≤ 9223372036854775807) : VF Tryz.prog OA 5 [.v y22 l, .v y25 dn, .v y49 n] (B true) := by
  refine VF.enter Tryz.func5 rfl (fun _ _ => rfl) rfl ?_; show VC _ _ _ _ _ [(0, .v y22 l), (1, .v y25 dn), (2, .v y49 n)] [] _; refine VC.seq (VC.text ?_); refine VO.new (.box) ?_; refine VO.c (.assign rfl) ?_; refine VO.go (VC.seq (VC.seq (VC.text ?_))); refine VO.call rfl rfl (VF.call (awake_ok )) ?_; refine VO.c (.not) (VO.c (.move rfl) (VO.c (.move rfl) ?_)); refine VO.call rfl rfl (VF.call (rShortP_ok hl)) ?_; refine VO.c (.not) (VO.c (.pickF rfl rfl) (VO.c (.move rfl) ?_)); refine VO.cg (r := (!(shortP l))) (w := false) [] trivial (fun _ => (.move rfl)) ?_; refine VO.rg (r := (!(shortP l))) (w := false) [(19, .v y25 dn)] ⟨rfl, trivial⟩ (fun _ => (.len el25)) ?_; refine VO.cg (r := (!(shortP l))) (w := false) [(20, I ((dn.length : Nat) : Int))] ⟨rfl, trivial⟩ (fun _ => (.gtr)) ?_; refine VO.c (.or) (VO.go ?_); refine VC.condB rfl (fun c1 => ?_) (fun c1 => ?_)
  · try simp only [Bool.and_eq_true, Bool.or_eq_true, Bool.and_eq_false_iff, Bool.or_eq_false_iff, Bool.not_eq_true', Bool.not_eq_false', decide_eq_true_eq, decide_eq_false_iff_not] at c1
    refine VC.seq (VC.text ?_); refine VO.call rfl rfl (VF.call (awake_ok )) ?_; refine VO.c (.assign rfl) (VO.go ?_); refine VC.ret ?_; exact VEnd.one rfl evT (pvE (by rfl))
  try simp only [Bool.and_eq_true, Bool.or_eq_true, Bool.and_eq_false_iff, Bool.or_eq_false_iff, Bool.not_eq_true', Bool.not_eq_false', decide_eq_true_eq, decide_eq_false_iff_not] at c1
  have hsp : shortP l = true := by simp at c1; exact c1.1
  have hd18 : dn.length ≤ 18 := by simp at c1; omega
  have hs := shortP_t hsp
  have hl7 : l.length < 100000 := by omega
  have hb8 : ∀ x ∈ l, x.2.2.2.length < 100000 := fun x hx => by have := (hs.1 x hx).2; omega
  have hvb := ver_bad (l := l) (dl := n.1) (dn := dn) (now := n.2); refine VC.skip (VC.seq (VC.drawn ?_)); refine VD.c (.move rfl) ?_; refine VD.call rfl rfl (VF.call (lPlan_ok hl7 hb8)) ?_; refine VD.c (.ixP 0 (.l .o)) ?_; refine VD.r [] (.ld vt3) (.inl rfl) ?_; refine VD.c (.move rfl) ?_; refine VD.call rfl rfl (VF.call (lInts_ok (by omega))) ?_; refine VD.nw [30, 26] (VD.c (.ixP 1 (.r .o)) ?_); refine VD.r [] (.ld vt3) (.inl rfl) ?_; refine VD.callO rfl rfl (VF.call (cVerdict_ok hl7 hb8 (by omega))) ?_; refine VD.c (.move rfl) (VD.c (.extract) (VD.c (.extract) (VD.c (.assign rfl) ?_))); refine VD.nw [30, 26] (VD.c (.assign rfl) ?_); refine VD.go (VC.seq (VC.drawn ?_)); refine VD.c (.move rfl) ?_; refine VD.call rfl rfl (VF.call (rPlan_ok hl7 hb8)) ?_; refine VD.c (.ixP 0 (.l .o)) ?_; refine VD.r [] (.ld vt3) (.inl rfl) ?_; refine VD.call rfl rfl (VF.call (rTime_ok )) ?_; refine VD.c (.move rfl) (VD.nw [] (VD.c (.move rfl) ?_)); refine VD.call rfl rfl (VF.call (rDone_ok (by omega))) ?_; refine VD.c (.ixP 1 (.r .o)) ?_; refine VD.r [] (.ld vt3) (.inl rfl) ?_; refine VD.call rfl rfl (VF.call (rTime_ok )) ?_; refine VD.new (.lit [planE l, rangeE n.1 0 100000, donE l dn, rangeE n.2 0 100000] el25) ?_; refine VD.callO rfl rfl (VF.call (lFirst_ok (by simp))) ?_; refine VD.nw [47] (VD.c (.assign rfl) ?_); refine VD.go (VC.seq (VC.seq ?_)); refine VC.keep [(0, .v y22 l), (1, .v y25 dn), (5, .p y49 n), (7, St (verR l n.1 dn n.2)), (8, I (verE l n.1 dn n.2)), (9, I (firstE [planE l, rangeE n.1 0 100000, donE l dn, rangeE n.2 0 100000]))] ⟨rfl, rfl, rfl, rfl, rfl, rfl, trivial⟩ ?_; refine VC.text ?_; refine VO.c (.move rfl) (VO.c (.eql) (VO.go ?_)); refine VC.join [(0, .v y22 l), (1, .v y25 dn), (5, .p y49 n), (7, St (verR l n.1 dn n.2)), (8, I (verE l n.1 dn n.2)), (9, I (verE l n.1 dn n.2))] [] ?_ ?_; refine VC.condD rfl (fun c5 => ?_) (fun c5 => ?_)
  · have c5 : verB l n.1 dn n.2 = 0 := hvb.symm.trans c5; have hv := ver_ok c5; refine VC.text ?_; refine VO.c (.move rfl) (VO.c (.move rfl) (VO.c (.ixP 1 (.r .o)) ?_)); refine VO.r (.ld vt3) ?_; refine VO.call rfl rfl (VF.call (rPoss_ok hv.plan hv.done)) ?_; refine VO.c (.not) ?_; refine VO.call rfl rfl (VF.call (lWhen_ok )) ?_; refine VO.c (.assign rfl) ?_; refine VO.nil ?_; exact ⟨⟨rfl, rfl, rfl, rfl, rfl, slI rfl (by first | (rw [prg_w, ver_t c5]; done) | (rw [ver_f c5]; exact hvb)), trivial⟩, rfl⟩
  · have c5 : ¬ verB l n.1 dn n.2 = 0 := fun h => c5 (hvb.trans h); refine VC.skip ?_; exact ⟨⟨rfl, rfl, rfl, rfl, rfl, slI rfl (by first | (rw [prg_w, ver_t c5]; done) | (rw [ver_f c5]; exact hvb)), trivial⟩, rfl⟩
  refine VC.seq (VC.text ?_); refine VO.c (.assign rfl) ?_; refine VO.go (VC.seq (VC.seq (VC.text ?_))); refine VO.c (.move rfl) (VO.c (.eql) (VO.go ?_)); refine VC.join [(7, St (verR l n.1 dn n.2)), (8, I (verE l n.1 dn n.2)), (9, I (verE l n.1 dn n.2)), (10, St (verR l n.1 dn n.2))] [] ?_ ?_; refine VC.condD rfl (fun c8 => ?_) (fun c8 => ?_)
  · have hvB : verB l n.1 dn n.2 = 0 := by
      by_cases h : verB l n.1 dn n.2 = 0
      · exact h
      rw [ver_f h] at c8; exact c8
    have hv := ver_ok hvB; refine VC.text ?_; refine VO.c (.move rfl) (VO.c (.ixP 0 (.l .o)) ?_); refine VO.r (.ld vt3) ?_; refine VO.c (.move rfl) (VO.c (.ixP 1 (.r .o)) ?_); refine VO.r (.ld vt3) ?_; refine VO.call rfl rfl (VF.call (rVerdict_ok hv.plan hv.done)) ?_; refine VO.c (.assign rfl) ?_; refine VO.nil ?_; exact ⟨⟨rfl, rfl, rfl, slE rfl (by first | (rw [verR, if_pos c8]; done) | (rw [verR, if_neg c8]; rfl)), trivial⟩, rfl⟩
  · refine VC.skip ?_; exact ⟨⟨rfl, rfl, rfl, slE rfl (by first | (rw [verR, if_pos c8]; done) | (rw [verR, if_neg c8]; rfl)), trivial⟩, rfl⟩
  refine VC.seq (VC.text ?_); refine VO.c (.move rfl) (VO.c (.move rfl) (VO.c (.seql) (VO.c (.move rfl) ?_))); refine VO.cg (r := decide (verR l n.1 dn n.2 = verR l n.1 dn n.2)) (w := true) [] trivial (fun _ => (.move rfl)) ?_; refine VO.cg (r := decide (verR l n.1 dn n.2 = verR l n.1 dn n.2)) (w := true) [] trivial (fun _ => (.move rfl)) ?_; refine VO.cg (r := decide (verR l n.1 dn n.2 = verR l n.1 dn n.2)) (w := true) [(71, I (verE l n.1 dn n.2)), (72, I (verE l n.1 dn n.2))] ⟨rfl, rfl, trivial⟩ (fun _ => (.eql)) ?_; refine VO.c (.and) (VO.c (.assign rfl) (VO.go ?_)); refine VC.ret ?_; exact VEnd.one rfl evT (pvE (by first | rfl | simp))
end Go.Proofs
namespace Go.Fs
open Go.RowKit (Below)
variable {P : Program}
def orcB (fi fj fc : FuncId) (T : TypeId) : FuncId → List Value → Heap → Option (Value × Heap) := fun f xs h =>
  bif Nat.beq f fc then
    match xs with
    | [.pointer (some ⟨b, 0, none⟩)] =>
      match h.get b with
      | some (.row e [p, v] true false) =>
        bif Nat.beq e T then
          match p with
          | .pointer none => some (.tuple #[], h.set b (.row e [.pointer (some ⟨b, 0, none⟩), v] true false))
          | .pointer (some ⟨b', 0, none⟩) => bif Nat.beq b' b then some (.tuple #[], h) else none
          | _ => none
        else none
      | _ => none
    | _ => none
  else orcS fi fj f xs h
theorem orcB_sound {B : Nat} {w0 : World} {fi fj fc : FuncId} {T : TypeId} (hz : w0.drawn = 0) (hS : CallSound P B w0 (orcS fi fj)) (hc : Enters P fc)
    (hF : ∀ (b : Nat) (w : World), w.cell? ⟨b, 0, none⟩ = some (.pointer none) → w.shape? b = some (T, 2) → w.frozen? ⟨b, 0, none⟩ = false →
      Calls P fc #[.pointer (some ⟨b, 0, none⟩)] w fun e w' => e = .returned (.tuple #[]) ∧ w' = w.setCell ⟨b, 0, none⟩ (.pointer (some ⟨b, 0, none⟩)))
    (hU : ∀ (b : Nat) (w : World), w.cell? ⟨b, 0, none⟩ = some (.pointer (some ⟨b, 0, none⟩)) → Calls P fc #[.pointer (some ⟨b, 0, none⟩)] w fun e w' => e = .returned (.tuple #[]) ∧ w' = w) :
    CallSound P B w0 (orcB fi fj fc T) := by
  intro f xs h v h' hf; unfold orcB at hf
  cases hb : Nat.beq f fc with
  | false =>
    rw [hb] at hf
    exact hS f xs h v h' hf
  | true =>
    have := nbeq hb; subst this; rw [hb] at hf; simp only [cond_true] at hf; split at hf
    · rename_i b; split at hf
      · rename_i e p u hg; obtain ⟨he, hf2⟩ := bif_some hf; obtain rfl := nbeq he; refine ⟨hc, fun ρ S w args' hr ha nn => ?_⟩; obtain ⟨hsb, cur, k1, k2, k3, k4, k5, k6, k7⟩ := hr.objs b _ hg; have hcl : cur.length = 2 := (k6 rfl).symm
        match cur, hcl with
        | [p', u'], _ =>
        have hp : VR ρ S p p' := k7 0 (by simp); have hu : VR ρ S u u' := k7 1 (by simp)
        have hat : (ρ b).at 0 = ⟨(ρ b).block, 0, none⟩ := by unfold Loc.at; rw [k2]
        have harg : args' = [.pointer (some ⟨(ρ b).block, 0, none⟩)] := by
          have h1 := ha.1
          match args', h1 with
          | [a], _ =>
            have h2 : VR ρ S (.pointer (some ⟨b, 0, none⟩)) a := ha.2 0 (by simp); rw [h2.ptr_inv.2, hat]
        subst harg
        have hcell : w.cell? ⟨(ρ b).block, 0, none⟩ = some p' := by simp [World.cell?, k1]
        split at hf2
        · simp only [Option.some.injEq, Prod.mk.injEq] at hf2; obtain ⟨rfl, rfl⟩ := hf2; obtain rfl := hp.eq_of_af0 rfl; have hC : CallsIn Fence.wide nn P f #[.pointer (some ⟨(ρ b).block, 0, none⟩)] w _ := callsIn_wide.2 (hF (ρ b).block w hcell (by simp [World.shape?, k1]) (frozen_soft k1 (by rw [k3]; exact Nat.zero_lt_succ _))); refine hC.mono fun e2 w' hret => ?_; obtain ⟨rfl, rfl⟩ := hret; refine ⟨ρ, Moved.set hr hg rfl rfl rfl rfl rfl (by simp [World.setCell]) (fun k hk => ?_) ?_, VR.tuple' LR.nil⟩
          · simp only [World.setCell, Array.getElem?_modify]; rw [if_neg (fun e0 => hk e0.symm)]
          refine ⟨[.pointer (some ⟨(ρ b).block, 0, none⟩), u'], ?_, k2, k3, k4, Nat.le_refl _, fun _ => rfl, fun i hi => ?_⟩
          · simp only [World.setCell, Array.getElem?_modify, if_pos rfl, k1]; simp
          match i, hi with
          | 0, _ => show VR ρ S (.pointer (some ⟨b, 0, none⟩)) (.pointer (some ⟨(ρ b).block, 0, none⟩)); rw [← hat]; exact .ptr b 0 hsb
          | 1, _ => exact hu
        · rename_i b'; obtain ⟨hbb, hf3⟩ := bif_some hf2; obtain rfl := nbeq hbb; simp only [Option.some.injEq, Prod.mk.injEq] at hf3; obtain ⟨rfl, rfl⟩ := hf3; have hp2 := hp.ptr_inv.2; rw [hat] at hp2; subst hp2; have hC : CallsIn Fence.wide nn P f #[.pointer (some ⟨(ρ b').block, 0, none⟩)] w _ := callsIn_wide.2 (hU (ρ b').block w hcell); refine hC.mono fun e2 w' hret => ?_; obtain ⟨rfl, rfl⟩ := hret; exact ⟨ρ, Moved.same hr, VR.tuple' LR.nil⟩
        cases hf2
      cases hf
    cases hf
end Go.Fs
namespace Go.Fs
open Go.RowKit (Below)
variable {P : Program} {ops : Array Oper} {n : Nat}
def sameV : Value → Value → Bool
  | .int k a, .int k' b => decide (k = k') && decide (a = b)
  | .bool a, .bool b => decide (a = b)
  | _, _ => false
theorem sameV_eq {a b : Value} (h : sameV a b = true) : a = b := by
  unfold sameV at h; split at h
  · obtain ⟨h1, h2⟩ := band h; rw [of_decide_eq_true h1, of_decide_eq_true h2]
  · rw [of_decide_eq_true h]
  cases h
def sameL : List Value → List Value → Bool
  | [], [] => true
  | a :: r, b :: q => sameV a b && sameL r q
  | _, _ => false
theorem sameL_eq : ∀ {a b : List Value}, sameL a b = true → a = b
  | [], [], _ => rfl
  | [], _ :: _, h => by cases h
  | _ :: _, [], h => by cases h
  | a :: r, b :: q, h => by
    obtain ⟨h1, h2⟩ := band (h : (sameV a b && sameL r q) = true); rw [sameV_eq h1, sameL_eq h2]
def sameO : AObj → AObj → Bool
  | .row e cs o m, .row e' cs' o' m' => Nat.beq e e' && sameL cs cs' && decide (o = o') && decide (m = m')
  | _, _ => false
theorem sameO_eq {a b : AObj} (h : sameO a b = true) : a = b := by
  unfold sameO at h; split at h
  · obtain ⟨h, h1⟩ := band h; obtain ⟨h, h2⟩ := band h; obtain ⟨h, h3⟩ := band h; rw [nbeq h, sameL_eq h3, of_decide_eq_true h2, of_decide_eq_true h1]
  cases h
def okRd (rd : List (Nat × AObj)) (h : Heap) : Bool := rd.all fun p => match h.get p.1 with
  | some ob => sameO ob p.2
  | none => false
theorem stLook_mem {b : Nat} {ob : AObj} : ∀ {l : List (Nat × AObj)}, look l b = some ob → (b, ob) ∈ l
  | [], h => by cases h
  | (c, oc) :: r, h => by
    simp only [look] at h
    cases hc : Nat.beq c b with
    | true =>
      rw [hc] at h; simp only [cond_true, Option.some.injEq] at h
      rw [nbeq hc, h]; exact List.mem_cons_self
    | false =>
      rw [hc] at h; simp only [cond_false] at h; exact List.mem_cons_of_mem _ (stLook_mem h)
theorem okRd_get {rd : List (Nat × AObj)} {h : Heap} (hk : okRd rd h = true) {b : Nat} {ob : AObj} (hl : look rd b = some ob) : h.get b = some ob := by
  have := List.all_eq_true.1 hk _ (stLook_mem hl); simp only at this; split at this
  · rename_i o2 hg; rw [hg, sameO_eq this]
  cases this
def stillR (P : Program) (rd : List (Nat × AObj)) (ops : Array Oper) (n : Nat) (o : Oper) (s : DSt) : Option DSt :=
  match fsWanted ops s.t o, o.op with
  | some true, .load T a =>
    match evalO s.t a with
    | .pointer (some p) =>
      match look rd p.block with
      | some ob =>
        match fsLoad P T (evalO s.t a) { next := s.h.next, low := s.h.next, objs := [(p.block, ob)] } with
        | some v => (put n s.t o.dst v).map fun t => { s with t, bs := s.bs ++ [beforeOf s.bs o] }
        | none => none
      | none => none
    | _ => none
  | _, _ => none
def fsDrawnY (P : Program) (rd : List (Nat × AObj)) (step : Oper → (Operand → Value) → Heap → Option (Value × Heap)) (ops : Array Oper) (n : Nat) : List Oper → Nat → DSt → Option DSt
  | [], _, s => bif okRd rd s.h then some s else none
  | o :: r, i, s => bif okRd rd s.h then
      match fsDraw step ops n o i s with
      | some s' => fsDrawnY P rd step ops n r (i + 1) s'
      | none => match stillR P rd ops n o s with
        | some s' => fsDrawnY P rd step ops n r (i + 1) s'
        | none => none
    else none
def fsReads (P : Program) (h0 : Heap) (step : Oper → (Operand → Value) → Heap → Option (Value × Heap)) (ops : Array Oper) (n : Nat) : List Oper → Nat → DSt → List (Nat × AObj) → List (Nat × AObj)
  | [], _, _, l => l
  | o :: r, i, s, l => match fsDraw step ops n o i s with
    | some s' => fsReads P h0 step ops n r (i + 1) s' l
    | none => match stillO P h0 ops n o s with
      | some (s', b) => match h0.get (b - 1) with
        | some ob => fsReads P h0 step ops n r (i + 1) s' ((b - 1, ob) :: l)
        | none => l
      | none => l
def drawnY (P : Program) (h0 : Heap) (step : Oper → (Operand → Value) → Heap → Option (Value × Heap)) (ops : Array Oper) (n : Nat) (s : DSt) (rd : List (Nat × AObj)) : Option DSt :=
  bif rd.all fun p => Nat.blt p.1 h0.next then fsDrawnY P rd step ops n ops.toList 0 s else none
theorem stillR_of {call : FuncId → List Value → Heap → Option (Value × Heap)} {yield : Nat → List Value → Heap → Option (Value × Heap)} {X : Nat → AObj → Prop} {rd : List (Nat × AObj)} {o : Oper} {i : Nat} {s s' : DSt}
    (hf : stillR P rd ops n o s = some s') (hX : ∀ c ob, look rd c = some ob → X c ob) :
    s'.bs = s.bs ++ [beforeOf s.bs o] ∧ Did (fsOp P call yield) ops n X o i s s' := by
  unfold stillR at hf; split at hf
  · rename_i T a hw hop; split at hf
    · rename_i p hev; split at hf
      · rename_i ob hg; split at hf
        · rename_i v hv; obtain ⟨t, h3, h4⟩ := Option.map_eq_some_iff.1 hf; subst h4; refine ⟨rfl, .still hw v [(p.block, ob)] (fun c oc hc => ?_) ?_ h3 rfl rfl rfl rfl⟩
          · simp only [look] at hc
            cases hbc : Nat.beq p.block c with
            | true =>
              rw [hbc] at hc; simp only [cond_true, Option.some.injEq] at hc; obtain rfl := nbeq hbc; subst hc
              exact hX _ _ hg
            | false => rw [hbc] at hc; cases hc
          unfold fsOp; rw [hop]; simp only [hv, Option.map_some]
        cases hf
      cases hf
    cases hf
  cases hf
theorem drawnY_trace {call : FuncId → List Value → Heap → Option (Value × Heap)} {yield : Nat → List Value → Heap → Option (Value × Heap)} {rd : List (Nat × AObj)} : ∀ (l : List Oper) (i : Nat) (s s' : DSt), fsDrawnY P rd (fsOp P call yield) ops n l i s = some s' →
    ∃ st : Nat → DSt, st i = s ∧ st (i + l.length) = s' ∧ (∀ q, i ≤ q → q ≤ i + l.length → okRd rd (st q).h = true) ∧
    ∀ j o, l[j]? = some o → ∀ X : Nat → AObj → Prop, (∀ c ob, look rd c = some ob → X c ob) → (st (i + j + 1)).bs = (st (i + j)).bs ++ [beforeOf (st (i + j)).bs o] ∧ Did (fsOp P call yield) ops n X o (i + j) (st (i + j)) (st (i + j + 1))
  | [], i, s, s', h => by
    simp only [fsDrawnY] at h; obtain ⟨h1, h2⟩ := bif_some h; simp only [Option.some.injEq] at h2; subst h2
    exact ⟨fun _ => s, rfl, rfl, fun _ _ _ => h1, fun j o hj => by simp at hj⟩
  | o :: l, i, s, s', h => by
    simp only [fsDrawnY] at h; obtain ⟨hok, h⟩ := bif_some h
    have key : ∀ s1, fsDrawnY P rd (fsOp P call yield) ops n l (i + 1) s1 = some s' →
        (∀ X : Nat → AObj → Prop, (∀ c ob, look rd c = some ob → X c ob) → s1.bs = s.bs ++ [beforeOf s.bs o] ∧ Did (fsOp P call yield) ops n X o i s s1) →
      ∃ st : Nat → DSt, st i = s ∧ st (i + (o :: l).length) = s' ∧ (∀ q, i ≤ q → q ≤ i + (o :: l).length → okRd rd (st q).h = true) ∧
        ∀ j o', (o :: l)[j]? = some o' → ∀ X : Nat → AObj → Prop, (∀ c ob, look rd c = some ob → X c ob) → (st (i + j + 1)).bs = (st (i + j)).bs ++ [beforeOf (st (i + j)).bs o'] ∧ Did (fsOp P call yield) ops n X o' (i + j) (st (i + j)) (st (i + j + 1)) := fun s1 hr hd => by
      obtain ⟨st, h1, h2, hq, h3⟩ := drawnY_trace l (i + 1) s1 s' hr; refine ⟨fun k => if k = i then s else st k, by simp, ?_, fun q hq1 hq2 => ?_, fun j o' hj X hX => ?_⟩
      · simp only [List.length_cons]; rw [if_neg (by omega), ← h2]; congr 1; omega
      · rw [List.length_cons] at hq2; by_cases e : q = i
        · subst e; simpa using hok
        simp only [if_neg e]; exact hq q (by omega) (by omega)
      cases j with
      | zero =>
        simp at hj; subst hj
        simpa [h1] using hd X hX
      | succ j =>
        simp only [List.getElem?_cons_succ] at hj; have := h3 j o' hj X hX; rw [show i + 1 + j = i + (j + 1) by omega] at this; simp only; rw [if_neg (by omega), if_neg (by omega)]; exact this
    split at h
    · rename_i s1 hs1; exact key s1 h fun X _ => did_of hs1
    split at h
    · rename_i s1 hs1; exact key s1 h fun X hX => stillR_of hs1 hX
    cases h
theorem traceY_of {call : FuncId → List Value → Heap → Option (Value × Heap)} {yield : Nat → List Value → Heap → Option (Value × Heap)} {t0 : Tr} {h0 : Heap} {s : DSt} {rd : List (Nat × AObj)} (h : drawnY P h0 (fsOp P call yield) ops n ⟨t0, h0, [], [], 0, false⟩ rd = some s) : ∃ st, Trace (fsOp P call yield) ops n st t0 h0 ∧ st ops.size = s := by
  unfold drawnY at h; obtain ⟨hb, h⟩ := bif_some h; obtain ⟨st, h1, h2, hq, h3⟩ := drawnY_trace _ _ _ _ h
  have h2' : st ops.size = s := by simpa using h2
  refine ⟨st, ⟨h1, fun i o ho => ?_⟩, h2'⟩; have := h3 i o (by simpa using ho) (fun b ob => h0.get b = some ob ∧ b < h0.next ∧ (b < (st ops.size).h.low ∨ ∀ q, q ≤ ops.size → (st q).h.get b = some ob)) (fun c ob hc => ?_)
  · simpa only [Nat.zero_add] using this
  have hall : ∀ q, q ≤ ops.size → (st q).h.get c = some ob := fun q hq2 => okRd_get (hq q (Nat.zero_le _) (by simpa using hq2)) hc; have h0 := hall 0 (Nat.zero_le _); rw [h1] at h0; exact ⟨h0, nblt (List.all_eq_true.1 hb _ (stLook_mem hc)), .inr hall⟩
variable {B : Nat} {w0 : World} {S : Nat → Prop} {ρ0 : Ren} {call : FuncId → List Value → Heap → Option (Value × Heap)} {yield : Nat → List Value → Heap → Option (Value × Heap)} {t0 : Tr} {h0 : Heap}
theorem drawn_wpY (hcs : CallSnd P B w0 call) (hys : YieldSound P B w0 yield) (hok : regionOk ops = true) {s : DSt} {rd : List (Nat × AObj)} (hf : drawnY P h0 (fsOp P call yield) ops n ⟨t0, h0, [], [], 0, false⟩ rd = some s)
    {w : World} {a : Act} (hr : HR P ρ0 S B w0 h0 w) (ht : TrR ρ0 S t0 n a.tmps) {r : Option Nat} {nn : Nat} {Q : Exit → Act → World → Prop}
    (k : ∀ ρ' w' a', Moved P B w0 ρ0 ρ' S h0 s.h w w' → TrR ρ' (Ext S h0 s.h) s.t n a'.tmps → a'.defers = a.defers → Q .normal a' w') (t : Nat) :
    wpOpsIn (Wide r) nn P ops Q (Region.schedule true ops t) a w := drawn_wpT hcs hys hok (traceY_of hf) hr ht k t
end Go.Fs
namespace Go.Fs
open Go.RowKit (Below)
variable {P : Program} {B : Nat} {w0 : World}
def fsStepX (P : Program) (orc : FuncId → List Value → Heap → Option (Value × Heap)) (rec : Rec) : Rec := fun rnd c fr h =>
  match c with
  | .region _ ops true => match drawnX P { next := h.next, low := h.next, objs := h.objs } (fsOp P (callOf P orc rec) (fsYield rec)) ops fr.n ⟨fr.t, { next := h.next, low := h.next, objs := h.objs }, [], [], 0, false⟩ with
    | some s => some (.normal, { t := s.t, n := fr.n, marks := fr.marks }, { next := s.h.next, low := min h.low s.h.low, objs := s.h.objs })
    | none => match drawnY P { next := h.next, low := h.next, objs := h.objs } (fsOp P (callOf P orc rec) (fsYield rec)) ops fr.n ⟨fr.t, { next := h.next, low := h.next, objs := h.objs }, [], [], 0, false⟩ (fsReads P { next := h.next, low := h.next, objs := h.objs } (fsOp P (callOf P orc rec) (fsYield rec)) ops fr.n ops.toList 0 ⟨fr.t, { next := h.next, low := h.next, objs := h.objs }, [], [], 0, false⟩ []) with
      | some s => some (.normal, { t := s.t, n := fr.n, marks := fr.marks }, { next := s.h.next, low := min h.low s.h.low, objs := s.h.objs })
      | none => fsStep P orc rec rnd c fr h
  | c => fsStep P orc rec rnd c fr h
def fsCodeX (P : Program) (orc : FuncId → List Value → Heap → Option (Value × Heap)) : Nat → Rec
  | 0 => fun _ _ _ _ => none
  | n + 1 => fsStepX P orc (fsCodeX P orc n)
theorem HR.low {ρ : Ren} {S : Nat → Prop} {h : Heap} {w : World} (hr : HR P ρ S B w0 h w) (l : Nat) : HR P ρ S B w0 { next := h.next, low := l, objs := h.objs } w :=
  { objs := hr.objs, inj := hr.inj, base := hr.base, ro := hr.ro, ids := hr.ids, pos := hr.pos, below := hr.below, drawn := hr.drawn, size := hr.size }
theorem Moved.lowered {ρ ρ' : Ren} {S : Nat → Prop} {h h' : Heap} {w w' : World} {l : Nat} (m : Moved P B w0 ρ ρ' S { next := h.next, low := l, objs := h.objs } h' w w') :
    Moved P B w0 ρ ρ' S h { next := h'.next, low := min h.low h'.low, objs := h'.objs } w w' where
  agree := m.agree
  next := m.next
  hr := m.hr.low _
  frame := ⟨m.frame.os, m.frame.tape, m.frame.output, m.frame.size, m.frame.block⟩
  low := Nat.min_le_left _ _
  keep := fun i hi hl => m.keep i hi (Nat.lt_of_lt_of_le hl (Nat.min_le_right _ _))
  old := m.old
  fresh := fun i o ho hi => by
    obtain ⟨h1, h2⟩ := m.fresh i o ho hi; refine ⟨h1, ?_⟩; rcases h2 with h2 | ⟨j, oj, h3, h4, h5, h6, h7⟩
    · exact .inl h2
    exact .inr ⟨j, oj, h3, h4, h5, Nat.le_trans (Nat.min_le_right _ _) h6, h7⟩
theorem stepX_sound (hP : ProgOk P) {orc : FuncId → List Value → Heap → Option (Value × Heap)} (horc : CallSound P B w0 orc) {m : Nat} {rec : Rec} (hrec : SoundR P B w0 m rec) : SoundR P B w0 (m + 1) (fsStepX P orc rec) := by
  have hcs : CallSnd P B w0 (callOf P orc rec) := call_sound hP horc hrec; have hys : YieldSound P B w0 (fsYield rec) := yield_sound hrec; have hold := step_sound hP horc hrec; intro rnd c fr h e fr' h' hok hf
  cases c with
  | region id ops draw =>
    cases draw with
    | false => exact hold rnd _ fr h e fr' h' hok hf
    | true =>
      intro ρ S w a nn Q hr ht hm hs k; simp only [fsStepX] at hf; split at hf
      · rename_i s hrun; simp only [Option.some.injEq, Prod.mk.injEq] at hf; obtain ⟨rfl, rfl, rfl⟩ := hf; refine wpIn_region_draw fun t => ?_; rw [hP.mixed]; exact drawn_wpX (h0 := { next := h.next, low := h.next, objs := h.objs }) (call := callOf P orc rec) (yield := fsYield rec) hcs hys hok hrun ((hr.drew _).low _) ht (fun ρ1 w1 a1 m1 ht1 hd1 => k _ _ _ ⟨(Moved.ofDrew m1).lowered, ht1, by rw [hd1]; exact hm.mono fun b hb => ⟨.inl hb, m1.agree b hb⟩⟩) t
      split at hf
      · rename_i s hrun; simp only [Option.some.injEq, Prod.mk.injEq] at hf; obtain ⟨rfl, rfl, rfl⟩ := hf; refine wpIn_region_draw fun t => ?_; rw [hP.mixed]; exact drawn_wpY (h0 := { next := h.next, low := h.next, objs := h.objs }) (call := callOf P orc rec) (yield := fsYield rec) hcs hys hok hrun ((hr.drew _).low _) ht (fun ρ1 w1 a1 m1 ht1 hd1 => k _ _ _ ⟨(Moved.ofDrew m1).lowered, ht1, by rw [hd1]; exact hm.mono fun b hb => ⟨.inl hb, m1.agree b hb⟩⟩) t
      exact hold rnd _ fr h e fr' h' hok hf ρ S w a nn Q hr ht hm hs k
  | _ => exact hold rnd _ fr h e fr' h' hok hf
theorem codeX_sound (hP : ProgOk P) {orc : FuncId → List Value → Heap → Option (Value × Heap)} (horc : CallSound P B w0 orc) : ∀ m, SoundR P B w0 m (fsCodeX P orc m)
  | 0 => fun rnd c fr h e fr' h' _ hf => by cases hf
  | m + 1 => stepX_sound hP horc (codeX_sound hP horc m)
end Go.Fs
namespace Go.Fs
variable {P : Program} {orc : FuncId → List Value → Heap → Option (Value × Heap)}
def runPre (P : Program) (orc : FuncId → List Value → Heap → Option (Value × Heap)) : Nat → Nat → Code → Fr → Heap → Option (Nat × Code × Fr × Heap)
  | 0, n, c, fr, h => some (n, c, fr, h)
  | k + 1, n, c, fr, h => match n, c with
    | n + 1, .seq a b => match fsCodeX P orc n none a fr h with
      | some (.normal, fr1, h1) => runPre P orc k n b fr1 h1
      | _ => none
    | _, _ => none
def endV (P : Program) (fn : Func) (h : Heap) (x : Ex × Fr × Heap) : Option Value :=
  bif x.1.goes then
    match dropMarks x.2.1.marks x.2.2 with
    | some h2 => (fsResults P x.2.1.t h2 fn.results.toList).map tupled
    | none => none
  else none
theorem enter_map {rec : Rec} {f : FuncId} {args : List Value} {h : Heap} {fn : Func} {c : Code} (hf : P.funcs[f]? = some fn) (hc : fn.body = some c) (hn : (Nat.blt 4000 fn.ntmps || Nat.blt fn.ntmps args.length) = false) :
    (fsEnter P rec f args h).map (·.1) = (rec none c ⟨fillTr .leaf 0 args, fn.ntmps, []⟩ { next := h.next, low := h.next, objs := h.objs }).bind (endV P fn h) := by
  unfold fsEnter fsEnterK endV; simp only [hf, hc, hn, cond_false]
  cases rec none c ⟨fillTr .leaf 0 args, fn.ntmps, []⟩ { next := h.next, low := h.next, objs := h.objs } with
  | none => rfl
  | some x =>
    obtain ⟨e, fr, h1⟩ := x; simp only [Option.bind_some]
    cases e.goes with
    | false => rfl
    | true =>
      simp only [cond_true]
      cases dropMarks fr.marks h1 with
      | none => rfl
      | some h2 =>
        simp only
        cases fsResults P fr.t h2 fn.results.toList with
        | none => rfl
        | some vs =>
          simp only [Option.map_some]; generalize (!false && (af (tupled vs) && Nat.ble h.next h2.low)) = q; cases q <;> rfl
def sufx : Nat → Code → Code
  | 0, c => c
  | k + 1, .seq _ b => sufx k b
  | _ + 1, c => c
end Go.Fs
namespace Go.Fs
open Go.RowKit (Below)
variable {P : Program}
def gv : Value → Bool
  | .func (.func _) ⟨[]⟩ ⟨[]⟩ => true
  | v => af0 v
theorem VR.of_gv {ρ : Ren} {S : Nat → Prop} {v : Value} (h : gv v = true) : VR ρ S v v := by
  unfold gv at h; split at h
  · exact .func _ _ _ _ _ rfl (fun i h => absurd h (by simp)) rfl (fun i h => absurd h (by simp))
  exact .lit h
def gHeap (n : Nat) (L : List (Nat × TypeId × List Value)) : Heap := ⟨n, n, L.map fun x => (x.1 + 1, .row x.2.1 x.2.2 false true)⟩
def globR (P : Program) : Ren := fun b => Loc.clean (b - 1) 0 0 (P.cellsOf (((P.globals[b - 1]?).map (·.type)).getD 0))
structure GlobW (P : Program) (B : Nat) (w : World) (x : Nat × TypeId × List Value) : Prop where
  type : (P.globals[x.1]?).map (·.type) = some x.2.1
  only : ∀ (g : Nat) gl, P.globals[g]? = some gl → gl.type = x.2.1 → g = x.1
  block : x.1 < B
  cells : ∀ i, i < x.2.2.length → w.cell? ⟨x.1, i, none⟩ = some (x.2.2.getD i undef)
  vals : x.2.2.all gv = true
theorem GlobW.below {B : Nat} {w w' : World} {x : Nat × TypeId × List Value} (h : GlobW P B w x) (hb : Below B w w') : GlobW P B w' x :=
  ⟨h.type, h.only, h.block, fun i hi => (World.cell?_of_block (a := ⟨x.1, i, none⟩) (hb.block _ h.block)).trans (h.cells i hi), h.vals⟩
theorem gHeap_get {n : Nat} : ∀ {L : List (Nat × TypeId × List Value)} {i : Nat} {o : AObj}, (gHeap n L).get i = some o → ∃ x ∈ L, i = x.1 + 1 ∧ o = .row x.2.1 x.2.2 false true
  | [], i, o, h => by cases h
  | x :: L, i, o, h => by
    simp only [gHeap, Heap.get, List.map_cons, look] at h
    cases hb : Nat.beq (x.1 + 1) i with
    | true =>
      rw [hb] at h
      exact ⟨x, List.mem_cons_self, (nbeq hb).symm, (Option.some.inj h).symm⟩
    | false =>
      rw [hb] at h; obtain ⟨y, hy, h1, h2⟩ := gHeap_get (n := n) (L := L) (i := i) (o := o) h; exact ⟨y, List.mem_cons_of_mem _ hy, h1, h2⟩
theorem gHeap_hr {w : World} {n : Nat} {L : List (Nat × TypeId × List Value)} (hn : ∀ x ∈ L, x.1 + 1 < n) (hp : 0 < n) (hL : ∀ x ∈ L, GlobW P w.heap.size w x) :
    HR P (globR P) (fun b => ∃ x ∈ L, b = x.1 + 1) w.heap.size (wz w) (gHeap n L) w where
  objs := fun i o hi => by
    obtain ⟨x, hx, rfl, rfl⟩ := gHeap_get hi; have h := hL x hx; refine ⟨⟨x, hx, rfl⟩, ?_, fun j hj => ?_, fun _ g gl h1 h2 => ?_⟩
    · show P.cellsOf (((P.globals[x.1 + 1 - 1]?).map (·.type)).getD 0) = _; rw [Nat.add_sub_cancel, h.type]; rfl
    · refine ⟨x.2.2.getD j undef, ?_, .of_gv (List.all_eq_true.1 h.vals _ (mem_getD hj))⟩; show w.cell? ⟨x.1 + 1 - 1, 0 + j, none⟩ = _; rw [Nat.add_sub_cancel, Nat.zero_add]; exact h.cells j hj
    exact ⟨(h.only g gl h1 h2).symm, rfl⟩
  inj := fun i j oi oj hi _ ho => by
    obtain ⟨x, hx, rfl, rfl⟩ := gHeap_get hi; cases ho
  base := fun i o hi ho => by
    obtain ⟨x, hx, rfl, rfl⟩ := gHeap_get hi; cases ho
  ro := fun i o hi _ => by
    obtain ⟨x, hx, rfl, rfl⟩ := gHeap_get hi; exact (hL x hx).block
  ids := fun b ⟨x, hx, hb⟩ => by
    subst hb; exact ⟨hn x hx, Nat.succ_ne_zero _⟩
  pos := hp
  below := z_below (Below.refl _ _)
  drawn := Nat.zero_le _
  size := Nat.le_refl _
end Go.Fs
namespace Go.Fs
open Go.RowKit (Below)
variable {P : Program} {ρ ρ' : Ren} {S S' : Nat → Prop} {B : Nat} {w0 w w' w1 w2 : World} {h h' h1 h2 : Heap}
def gcL (n0 : Nat) (keep : List Nat) : List (Nat × AObj) → List (Nat × AObj)
  | [] => []
  | x :: r => bif Nat.blt x.1 n0 || keep.any (Nat.beq x.1) then x :: gcL n0 keep r else gcL n0 keep r
def gcH (n0 : Nat) (keep : List Nat) (h : Heap) : Heap := ⟨h.next, h.low, gcL n0 keep h.objs⟩
theorem gc_some {n0 : Nat} {keep : List Nat} {i : Nat} {o : AObj} : ∀ {L : List (Nat × AObj)}, look (gcL n0 keep L) i = some o → look L i = some o
  | [], h => h
  | x :: L, h => by
    unfold gcL at h
    cases hk : (Nat.blt x.1 n0 || keep.any (Nat.beq x.1)) with
    | true =>
      rw [hk] at h; simp only [cond_true, look] at h ⊢
      cases hb : Nat.beq x.1 i with
      | true => rw [hb] at h; exact h
      | false => rw [hb] at h; exact gc_some h
    | false =>
      rw [hk] at h; simp only [cond_false] at h; simp only [look]
      cases hb : Nat.beq x.1 i with
      | false => exact gc_some h
      | true =>
        exfalso; have e := nbeq hb
        have hno : ∀ {L : List (Nat × AObj)}, look (gcL n0 keep L) i = none := by
          intro L
          induction L with
          | nil => rfl
          | cons y L ih =>
            unfold gcL
            cases hk2 : (Nat.blt y.1 n0 || keep.any (Nat.beq y.1)) with
            | false => exact ih
            | true =>
              simp only [cond_true, look]
              cases hb2 : Nat.beq y.1 i with
              | false => exact ih
              | true => rw [nbeq hb2, ← e, hk] at hk2; cases hk2
        rw [hno] at h; cases h
theorem gc_low {n0 : Nat} {keep : List Nat} {i : Nat} (hi : i < n0) : ∀ {L : List (Nat × AObj)}, look (gcL n0 keep L) i = look L i
  | [] => rfl
  | x :: L => by
    unfold gcL
    cases hb : Nat.beq x.1 i with
    | true =>
      have hx : Nat.blt x.1 n0 = true := by rw [nbeq hb]; show Nat.ble (i + 1) n0 = true; rw [Nat.ble_eq]; omega
      simp only [hx, Bool.true_or, cond_true, look, hb]
    | false =>
      cases hk : (Nat.blt x.1 n0 || keep.any (Nat.beq x.1)) with
      | true => simp only [cond_true, look, hb, cond_false]; exact gc_low hi
      | false => simp only [cond_false, look, hb]; exact gc_low hi
theorem HR.gc {n0 : Nat} {keep : List Nat} (hr : HR P ρ S B w0 h w) : HR P ρ S B w0 (gcH n0 keep h) w :=
  { objs := fun i o hi => hr.objs i o (gc_some hi), inj := fun i j oi oj hi hj => hr.inj i j oi oj (gc_some hi) (gc_some hj), base := fun i o hi => hr.base i o (gc_some hi), ro := fun i o hi => hr.ro i o (gc_some hi), ids := hr.ids, pos := hr.pos,
    below := hr.below, drawn := hr.drawn, size := hr.size }
theorem Moved.gc {n0 : Nat} {keep : List Nat} (hn : h.next ≤ n0) (m : Moved P B w0 ρ ρ' S h h1 w w1) : Moved P B w0 ρ ρ' S h (gcH n0 keep h1) w w1 where
  agree := m.agree
  next := m.next
  hr := m.hr.gc
  frame := m.frame
  low := m.low
  keep := fun i hi hl => (gc_low (by omega)).trans (m.keep i hi hl)
  old := fun i o hi hl => m.old i o (gc_some hi) hl
  fresh := fun i o hi hl => m.fresh i o (gc_some hi) hl
def runG (P : Program) (orc : FuncId → List Value → Heap → Option (Value × Heap)) (n0 : Nat) : List (Nat × List Nat) → Nat → Code → Fr → Heap → Option (Ex × Fr × Heap)
  | [], n, c, fr, h => fsCodeX P orc n none c fr h
  | (k, keep) :: ks, n, c, fr, h => match runPre P orc k n c fr h with
    | some (n1, c1, fr1, h1) => runG P orc n0 ks n1 c1 fr1 (gcH n0 keep h1)
    | none => none
theorem pre_sound (hP : ProgOk P) {orc : FuncId → List Value → Heap → Option (Value × Heap)} (horc : CallSound P B w0 orc) : ∀ {k n : Nat} {c : Code} {fr : Fr} {h : Heap} {n1 : Nat} {c1 : Code} {fr1 : Fr} {h1 : Heap}, codeOk c = true → runPre P orc k n c fr h = some (n1, c1, fr1, h1) →
    codeOk c1 = true ∧ ∀ {ρ : Ren} {S : Nat → Prop} {w : World} {a : Act} {nn : Nat} {Q : Exit → Act → World → Prop}, HR P ρ S B w0 h w → TrR ρ S fr.t fr.n a.tmps → MarksR ρ S fr.marks a.defers →
      (∀ ρ' w' a', Post P B w0 ρ ρ' S h w fr1 h1 w' a' → c1.wpIn (Wide none) nn P Q a' w') → c.wpIn (Wide none) nn P Q a w
  | 0, n, c, fr, h, n1, c1, fr1, h1, hok, hr => by
    simp only [runPre, Option.some.injEq, Prod.mk.injEq] at hr; obtain ⟨rfl, rfl, rfl, rfl⟩ := hr
    exact ⟨hok, fun hR ht hm k => k _ _ _ ⟨Moved.same hR, ht.mono fun b hb => ⟨.inl hb, rfl⟩, hm.mono fun b hb => ⟨.inl hb, rfl⟩⟩⟩
  | k + 1, n, c, fr, h, n1, c1, fr1, h1, hok, hr => by
    simp only [runPre] at hr; split at hr
    · rename_i n x y; split at hr
      · rename_i fr2 h2 hx; obtain ⟨ok1, ok2⟩ := band (show (codeOk x && codeOk y) = true from hok); obtain ⟨g1, g2⟩ := pre_sound hP horc ok2 hr; refine ⟨g1, fun {ρ S w a nn Q} hR ht hm kk => wpIn_seq ?_⟩; refine (codeX_sound hP horc n none x fr h _ fr2 h2 ok1 hx ρ S w a nn _ hR ht hm (fun l hl => by cases hl) fun ρ1 w1 a1 p1 => ?_).wpIn; show y.wpIn (Wide none) nn P Q a1 w1; exact g2 p1.moved.hr p1.tmps p1.marks fun ρ2 w2 a2 p2 => kk _ _ _ (Post.trans (fr1 := fr2) (a1 := a1) p1.moved p2)
      cases hr
    cases hr
theorem runG_sound (hP : ProgOk P) {orc : FuncId → List Value → Heap → Option (Value × Heap)} (horc : CallSound P B w0 orc) {n0 : Nat} : ∀ {ks : List (Nat × List Nat)} {n : Nat} {c : Code} {fr : Fr} {h : Heap} {e : Ex} {fr' : Fr} {h' : Heap}, codeOk c = true → runG P orc n0 ks n c fr h = some (e, fr', h') →
    ∀ {g : Heap} {ρ0 ρ : Ren} {S : Nat → Prop} {w w' : World} {a : Act} {nn : Nat} {Q : Exit → Act → World → Prop}, g.next ≤ n0 → Moved P B w0 ρ0 ρ S g h w w' → TrR ρ (Ext S g h) fr.t fr.n a.tmps → MarksR ρ (Ext S g h) fr.marks a.defers →
      (∀ ρ' w2 a', Post P B w0 ρ0 ρ' S g w fr' h' w2 a' → Q (exOf e) a' w2) → c.wpIn (Wide none) nn P Q a w'
  | [], n, c, fr, h, e, fr', h', hok, hr, g, ρ0, ρ, S, w, w', a, nn, Q, hg, m, ht, hm, k =>
    (codeX_sound hP horc n none c fr h e fr' h' hok hr ρ _ w' a nn Q m.hr ht hm (fun l hl => by cases hl) fun ρ1 w1 a1 p1 => k _ _ _ (Post.trans (fr1 := fr) (a1 := a) m p1)).wpIn
  | (j, keep) :: ks, n, c, fr, h, e, fr', h', hok, hr, g, ρ0, ρ, S, w, w', a, nn, Q, hg, m, ht, hm, k => by
    simp only [runG] at hr; split at hr
    · rename_i n1 c1 fr1 h1 hx; obtain ⟨g1, g2⟩ := pre_sound hP horc hok hx; refine g2 m.hr ht hm fun ρ1 w1 a1 p1 => ?_; have q := Post.trans (fr1 := fr) (a1 := a) m p1; exact runG_sound hP horc g1 hr hg (q.moved.gc hg) q.tmps q.marks k
    cases hr
def fsG (P : Program) (orc : FuncId → List Value → Heap → Option (Value × Heap)) (n0 n : Nat) (ks : List (Nat × List Nat)) : Rec := fun rnd c fr h =>
  match rnd, c with
  | none, .seq x y => bif Nat.ble h.next n0 then runG P orc n0 ks n (.seq x y) fr h else none
  | _, _ => none
def isSeq : Code → Bool
  | .seq _ _ => true
  | _ => false
theorem fsG_eq {orc : FuncId → List Value → Heap → Option (Value × Heap)} {n0 n : Nat} {ks : List (Nat × List Nat)} {c : Code} {fr : Fr} {h : Heap} (hc : isSeq c = true) (hn : Nat.ble h.next n0 = true) : fsG P orc n0 n ks none c fr h = runG P orc n0 ks n c fr h := by
  cases c with
  | seq x y =>
    show (bif Nat.ble h.next n0 then _ else _) = _
    rw [hn]; rfl
  | _ => cases hc
theorem fsG_sound (hP : ProgOk P) {orc : FuncId → List Value → Heap → Option (Value × Heap)} (horc : CallSound P B w0 orc) {n0 n : Nat} {ks : List (Nat × List Nat)} : SoundR P B w0 0 (fsG P orc n0 n ks) := by
  intro rnd c fr h e fr' h' hok hf ρ S w a nn Q hr ht hm hs k; unfold fsG at hf; split at hf
  · rename_i x y; obtain ⟨hn, hq⟩ := bif_some hf; show Code.wpIn (Wide none) nn P (.seq x y) Q a w; exact runG_sound hP horc hok hq (nble hn) (Moved.same hr) (ht.mono fun b hb => ⟨.inl hb, rfl⟩) (hm.mono fun b hb => ⟨.inl hb, rfl⟩) k
  cases hf
theorem run_viaG {orc : FuncId → List Value → Heap → Option (Value × Heap)} {n0 k n : Nat} {keep : List Nat} {ks : List (Nat × List Nat)} {c : Code} {fr : Fr} {h : Heap} {n' : Nat} {c' : Code} {fr' : Fr} {h' : Heap} (hr : (runPre P orc k n c fr h).map (fun x => (x.1, x.2.1, x.2.2.1, gcH n0 keep x.2.2.2)) = some (n', c', fr', h')) : runG P orc n0 ((k, keep) :: ks) n c fr h = runG P orc n0 ks n' c' fr' h' := by
  simp only [runG]
  cases hx : runPre P orc k n c fr h with
  | none => rw [hx] at hr; cases hr
  | some x =>
    obtain ⟨n1, c1, fr1, h1⟩ := x; rw [hx] at hr; simp only [Option.map_some, Option.some.injEq, Prod.mk.injEq] at hr; obtain ⟨rfl, rfl, rfl, rfl⟩ := hr; rfl
theorem gcG_closed (hP : ProgOk P) {w : World} {orc : FuncId → List Value → Heap → Option (Value × Heap)} (horc : CallSound P w.heap.size (wz w) orc) {ρ : Ren} {S : Nat → Prop} {g : Heap} (hr : HR P ρ S w.heap.size (wz w) g w) {n0 n : Nat} {ks : List (Nat × List Nat)} {f : FuncId} {args : List Value} {v : Value} (ha : args.all af = true)
    (hf : (fsEnter P (fsG P orc n0 n ks) f args g).map (·.1) = some v) (hv : af v = true) :
    Calls P f args.toArray w fun | .returned v', w' => v' = v ∧ Below w.heap.size w w' | _, _ => False := by
  obtain ⟨⟨v0, h1⟩, h2, h3⟩ := Option.map_eq_some_iff.1 hf; simp only at h3; subst h3; have hc := ((enter_sound hP (fsG_sound hP horc)) f args _ _ _ h2).2 _ _ w args hr ⟨rfl, fun i hi => .of_af (List.all_eq_true.1 ha _ (mem_getD hi))⟩ 0; refine Calls.mono (callsIn_wide.1 hc) fun e w' he => ?_
  cases e with
  | returned v' =>
    obtain ⟨ρ', m1, hv1⟩ := he
    exact ⟨hv1.eq_of_af hv, below_z m1.hr.below⟩
  | panicked c => exact he.elim
  | outgrown => exact he.elim
theorem awakeGc_calls (hP : ProgOk P) {B : Nat} {w0 : World} {O : FuncId → List Value → Heap → Option (Value × Heap)} {fa : FuncId} {n : Nat} {L : List (Nat × TypeId × List Value)} (hn : ∀ x ∈ L, x.1 + 1 < n) (hp : 0 < n) (hL : ∀ x ∈ L, GlobW P B w0 x) (hB : ∀ w, Below B w0 w → B ≤ w.heap.size) (hS : ∀ w, Below B w0 w → CallSound P w.heap.size (wz w) O) {n0 m : Nat} {ks : List (Nat × List Nat)}
    (hrun : (fsEnter P (fsG P O n0 m ks) fa [] (gHeap n L)).map (·.1) = some (.bool true)) (w : World) (hw : Below B w0 w) :
    Calls P fa #[] w fun | .returned v', w' => v' = .bool true ∧ Below w.heap.size w w' | _, _ => False :=
  gcG_closed hP (hS w hw) (gHeap_hr hn hp fun x hx => let h := (hL x hx).below hw; ⟨h.type, h.only, Nat.lt_of_lt_of_le h.block (hB w hw), h.cells, h.vals⟩) (args := []) rfl hrun rfl
end Go.Fs
namespace Go.Fs
open Go.RowKit (Below)
variable {P : Program} {B : Nat} {w0 : World}
theorem orcI_sound {fi : FuncId} (hz : w0.drawn = 0) (hi : Enters P fi)
    (hI : ∀ (n : Int) (w : World), Below B w0 w → -9223372036854775808 ≤ n → n ≤ 9223372036854775807 → Calls P fi #[.int .i64 n] w fun e w' => e = .returned (.string ⟨(Lib.itoa n).toArray⟩) ∧ Below w.heap.size w w') : CallSound P B w0 (orcS fi fi) := by
  intro f xs h v h' hf; unfold orcS at hf
  cases hfi : Nat.beq f fi with
  | true =>
    have := nbeq hfi; subst this; rw [hfi] at hf; simp only [cond_true] at hf; split at hf
    · rename_i n; obtain ⟨hc, hf2⟩ := bif_some hf; obtain ⟨h0, h1⟩ := band hc; have h0 := of_decide_eq_true h0; have h1 := of_decide_eq_true h1; simp only [Option.some.injEq, Prod.mk.injEq] at hf2; obtain ⟨rfl, rfl⟩ := hf2; refine ⟨hi, fun ρ S w args' hr ha nn => ?_⟩; have he : args' = [.int .i64 n] := ha.eq_of_af (by rfl); subst he; have hC : CallsIn Fence.wide nn P f #[.int .i64 n] w _ := callsIn_wide.2 (hI n w hr.below (by omega) (by omega)); refine hC.mono fun e w' hret => ?_; obtain ⟨rfl, hb⟩ := hret; exact ⟨ρ, Moved.grewWorld hr hb (by rw [hz]; exact Nat.zero_le _), by rw [itoaF_eq h0 h1]; exact .lit rfl⟩
    cases hf
  | false =>
    rw [hfi] at hf; simp only [cond_false] at hf; cases hf
end Go.Fs
namespace Go.Proofs
open Go.Shelf
def Tryz.lays156_ren : Go.Shelf.Ren := ⟨fun | 156 => 145 | 165 => 162 | 166 => 144 | 169 => 146 | 240 => 161 | 241 => 183 | 276 => 182 | 277 => 199 | n => n, fun | 31 => 194 | 9 => 9 | 3 => 3 | 4 => 4 | 0 => 0 | 20 => 20 | 72 => 192 | 76 => 198 | 70 => 190 | 37 => 76 | 75 => 197 | 127 => 212 | 164 => 229 | 5 => 5 | 80 => 201 | n => n, fun | n => n⟩
theorem Tryz.lays156 : Go.Proofs.Lays.n156 Tryz.prog Tryz.lays156_ren := {
  mixed := by kernel_rfl
  f156 := Tryz.func145.trans (congrArg some (by kernel_rfl))
  f165 := Tryz.func162.trans (congrArg some (by kernel_rfl))
  f166 := Tryz.func144.trans (congrArg some (by kernel_rfl))
  f169 := Tryz.func146.trans (congrArg some (by kernel_rfl))
  f240 := Tryz.func161.trans (congrArg some (by kernel_rfl))
  f241 := Tryz.func183.trans (congrArg some (by kernel_rfl))
  f276 := Tryz.func182.trans (congrArg some (by kernel_rfl))
  f277 := Tryz.func199.trans (congrArg some (by kernel_rfl))
  t0 := Tryz.underlying0
  a0 := Tryz.isAgg0
  z0 := Tryz.sizeOf0
  v0 := Tryz.zeroValue0
  t3 := Tryz.underlying3
  a3 := Tryz.isAgg3
  z3 := Tryz.sizeOf3
  v3 := Tryz.zeroValue3
  t4 := Tryz.underlying4
  a4 := Tryz.isAgg4
  z4 := Tryz.sizeOf4
  v4 := Tryz.zeroValue4
  t9 := Tryz.underlying9
  a9 := Tryz.isAgg9
  z9 := Tryz.sizeOf9
  v9 := Tryz.zeroValue9
  t20 := Tryz.underlying20
  a20 := Tryz.isAgg20
  z20 := Tryz.sizeOf20
  v20 := Tryz.zeroValue20
  t31 := Tryz.underlying194
  a31 := Tryz.isAgg194
  z31 := Tryz.sizeOf194
  v31 := Tryz.zeroValue194
  t37 := Tryz.underlying76
  a37 := Tryz.isAgg76
  z37 := Tryz.sizeOf76
  v37 := Tryz.zeroValue76
  t70 := Tryz.underlying190
  a70 := Tryz.isAgg190
  z70 := Tryz.sizeOf190
  v70 := Tryz.zeroValue190
  t72 := Tryz.underlying192
  a72 := Tryz.isAgg192
  z72 := Tryz.sizeOf192
  v72 := Tryz.zeroValue192
  t75 := Tryz.underlying197
  a75 := Tryz.isAgg197
  z75 := Tryz.sizeOf197
  v75 := Tryz.zeroValue197
  t76 := Tryz.underlying198
  a76 := Tryz.isAgg198
  z76 := Tryz.sizeOf198
  v76 := Tryz.zeroValue198
  t127 := Tryz.underlying212
  a127 := Tryz.isAgg212
  z127 := Tryz.sizeOf212
  v127 := Tryz.zeroValue212
  t164 := Tryz.underlying229
  a164 := Tryz.isAgg229
  z164 := Tryz.sizeOf229
  v164 := Tryz.zeroValue229 }
theorem Tryz.Builder_Extra_156 : Builder.Extra Tryz.prog Tryz.lays156_ren := {
  sizeBuilder := by kernel_rfl
  liesBuilder := by kernel_rfl
  t5 := Tryz.underlying5
  a5 := Tryz.isAgg5
  z5 := Tryz.sizeOf5
  v5 := Tryz.zeroValue5
  infoByte := by kernel_rfl
  cellsByte := by kernel_rfl
  sizeByte := by kernel_rfl
  neB5 := by decide }
open Go.RowKit in
/-- strings.Join: "Join concatenates the elements of its first argument to create a single string. The separator string sep is placed between elements in the resulting string.": HOWEVER MANY ELEMENTS. Below the heap's end the world is asl it was. (LAID: no walk: one application.) -/
theorem Tryz.strings_Join (bk o c : Nat) (xs : List ByteArray) (sep : ByteArray) (w : World) (hcells : ∀ (j : Nat) x, xs[j]? = some x → w.cell? ⟨bk, o + j, none⟩ = some (.string x)) (hbk : bk < w.heap.size) (hN : xs.length ≤ 140737488355328) (hcap : xs.length ≤ c) (hlen : (Lib.join (xs.map (·.data.toList)) sep.data.toList).length ≤ 140737488355328) :
    Calls Tryz.prog 145 #[.slice (some ⟨bk, o, none⟩) xs.length c, .string sep] w fun e w' => e = .returned (.string ⟨(Lib.join (xs.map (·.data.toList)) sep.data.toList).toArray⟩) ∧ Below w.heap.size w w' := Any.strings_Join Tryz.lays156 Tryz.Builder_Extra_156 bk o c xs sep w hcells hbk hN hcap hlen
def Tryz.laysM243_ren : Go.Shelf.Ren := ⟨fun | 243 => 160 | 246 => 181 | 283 => 195 | 284 => 196 | 285 => 197 | 286 => 198 | 129 => 180 | 317 => 202 | 318 => 203 | 319 => 204 | 320 => 205 | 337 => 214 | 338 => 215 | n => n, fun | 3 => 3 | 9 => 9 | 2 => 2 | 4 => 4 | 171 => 242 | 0 => 0 | 53 => 227 | 37 => 76 | 5 => 5 | 173 => 244 | 212 => 252 | 51 => 225 | 20 => 20 | 213 => 253 | 46 => 210 | 232 => 261 | 233 => 262 | n => n, fun | 17 => 2 | 18 => 4 | 19 => 5 | n => n⟩
theorem Tryz.laysM243 : Go.Proofs.LaysM.n243 Tryz.prog Tryz.laysM243_ren := {
  mixed := by kernel_rfl
  f129 := Tryz.func180.trans (congrArg some (by kernel_rfl))
  f243 := Tryz.func160.trans (congrArg some (by kernel_rfl))
  f246 := Tryz.func181.trans (congrArg some (by kernel_rfl))
  f283 := Tryz.func195.trans (congrArg some (by kernel_rfl))
  f284 := Tryz.func196.trans (congrArg some (by kernel_rfl))
  f285 := Tryz.func197.trans (congrArg some (by kernel_rfl))
  f286 := Tryz.func198.trans (congrArg some (by kernel_rfl))
  f317 := Tryz.func202.trans (congrArg some (by kernel_rfl))
  f318 := Tryz.func203.trans (congrArg some (by kernel_rfl))
  f319 := Tryz.func204.trans (congrArg some (by kernel_rfl))
  f320 := Tryz.func205.trans (congrArg some (by kernel_rfl))
  f337 := Tryz.func214.trans (congrArg some (by kernel_rfl))
  f338 := Tryz.func215.trans (congrArg some (by kernel_rfl))
  t0 := Tryz.underlying0
  a0 := Tryz.isAgg0
  z0 := Tryz.sizeOf0
  v0 := Tryz.zeroValue0
  t2 := Tryz.underlying2
  a2 := Tryz.isAgg2
  z2 := Tryz.sizeOf2
  v2 := Tryz.zeroValue2
  t3 := Tryz.underlying3
  a3 := Tryz.isAgg3
  z3 := Tryz.sizeOf3
  v3 := Tryz.zeroValue3
  t4 := Tryz.underlying4
  a4 := Tryz.isAgg4
  z4 := Tryz.sizeOf4
  v4 := Tryz.zeroValue4
  t5 := Tryz.underlying5
  a5 := Tryz.isAgg5
  z5 := Tryz.sizeOf5
  v5 := Tryz.zeroValue5
  t9 := Tryz.underlying9
  a9 := Tryz.isAgg9
  z9 := Tryz.sizeOf9
  v9 := Tryz.zeroValue9
  t20 := Tryz.underlying20
  a20 := Tryz.isAgg20
  z20 := Tryz.sizeOf20
  v20 := Tryz.zeroValue20
  t37 := Tryz.underlying76
  a37 := Tryz.isAgg76
  z37 := Tryz.sizeOf76
  v37 := Tryz.zeroValue76
  t46 := Tryz.underlying210
  a46 := Tryz.isAgg210
  z46 := Tryz.sizeOf210
  v46 := Tryz.zeroValue210
  t51 := Tryz.underlying225
  a51 := Tryz.isAgg225
  z51 := Tryz.sizeOf225
  v51 := Tryz.zeroValue225
  t53 := Tryz.underlying227
  a53 := Tryz.isAgg227
  z53 := Tryz.sizeOf227
  v53 := Tryz.zeroValue227
  t171 := Tryz.underlying242
  a171 := Tryz.isAgg242
  z171 := Tryz.sizeOf242
  v171 := Tryz.zeroValue242
  t173 := Tryz.underlying244
  a173 := Tryz.isAgg244
  z173 := Tryz.sizeOf244
  v173 := Tryz.zeroValue244
  t212 := Tryz.underlying252
  a212 := Tryz.isAgg252
  z212 := Tryz.sizeOf252
  v212 := Tryz.zeroValue252
  t213 := Tryz.underlying253
  a213 := Tryz.isAgg253
  z213 := Tryz.sizeOf253
  t232 := Tryz.underlying261
  a232 := Tryz.isAgg261
  z232 := Tryz.sizeOf261
  v232 := Tryz.zeroValue261
  t233 := Tryz.underlying262
  a233 := Tryz.isAgg262
  z233 := Tryz.sizeOf262
  v233 := Tryz.zeroValue262
  g17 := by kernel_rfl
  g18 := by kernel_rfl
  g19 := by kernel_rfl
  i0 := by kernel_rfl
  i2 := by kernel_rfl
  i3 := by kernel_rfl
  i4 := by kernel_rfl
  i5 := by kernel_rfl
  i9 := by kernel_rfl
  i20 := by kernel_rfl
  i37 := by kernel_rfl
  i46 := by kernel_rfl
  i51 := by kernel_rfl
  i53 := by kernel_rfl
  i171 := by kernel_rfl
  i173 := by kernel_rfl
  i212 := by kernel_rfl
  i232 := by kernel_rfl
  i233 := by kernel_rfl
  m17 := by kernel_rfl
  m18 := by kernel_rfl
  m19 := by kernel_rfl }
open Go.RowKit Go.Sort Go.Lib in
/-- internal/strconv.Itoa: "Itoa is equivalent to FormatInt(int64(i), 10).": i's decimal numeral, for every int. (LAID: no walk: one application.) -/
theorem Tryz.internal_strconv_Itoa (n : Int) (h0 : -9223372036854775808 ≤ n) (h1 : n ≤ 9223372036854775807) (w : World) (htab : Lib.TabIs Tryz.prog w "internal/strconv.uint64pow10" .u64 Lib.pow10Tab) :
    Calls Tryz.prog 160 #[.int .i64 n] w fun e w' => e = .returned (.string ⟨(Lib.itoa n).toArray⟩) ∧ ∃ k os, w' = grow (w.drewN k) os := Any.internal_strconv_Itoa Tryz.laysM243 n h0 h1 w htab
end Go.Proofs
namespace Go.Proofs
open Go.Fs
open Go.Shelf
open Go.RowKit (Below)
theorem tzAll : (Tryz.prog.funcs.toList.all fun fn => match fn.body with | some c => codeOk c && !(fn.name == "runtime.NumGoroutine") | none => true) = true := by kernel_rfl
theorem tzMixed : Tryz.prog.follows .mixedOrders = true := by kernel_rfl
theorem tzOk : ProgOk Tryz.prog where
  mixed := tzMixed
  name := fun f fn hf hb => by
    have := List.all_eq_true.1 tzAll fn (by rw [Array.mem_toList_iff]; exact Array.mem_of_getElem? hf)
    cases hx : fn.body with
    | none => rw [hx] at hb; cases hb
    | some c => rw [hx] at this; simpa using (band this).2
  code := fun f fn c hf hb => by
    have := List.all_eq_true.1 tzAll fn (by rw [Array.mem_toList_iff]; exact Array.mem_of_getElem? hf); rw [hb] at this; exact (band this).1
theorem tzItoa : Fs.Enters Tryz.prog 160 := ⟨_, Tryz.func160, rfl, by kernel_rfl⟩
theorem tzCheck : Fs.Enters Tryz.prog 161 := ⟨_, Tryz.func161, rfl, by kernel_rfl⟩
theorem tzAwakeE : Fs.Enters Tryz.prog 14 := ⟨_, Tryz.func14, rfl, by kernel_rfl⟩
def tzRen : Go.Shelf.Ren := ⟨fun | 240 => 161 | 276 => 182 | n => n, fun | 0 => 0 | 4 => 4 | 9 => 9 | 20 => 20 | 70 => 190 | 72 => 192 | 164 => 229 | 37 => 76 | n => n, fun | n => n⟩
theorem tzLays : Go.Proofs.Lays.n240 Tryz.prog tzRen := {
  mixed := by kernel_rfl
  f240 := Tryz.func161.trans (congrArg some (by kernel_rfl))
  f276 := Tryz.func182.trans (congrArg some (by kernel_rfl))
  t0 := Tryz.underlying0
  a0 := Tryz.isAgg0
  z0 := Tryz.sizeOf0
  v0 := Tryz.zeroValue0
  t4 := Tryz.underlying4
  a4 := Tryz.isAgg4
  z4 := Tryz.sizeOf4
  v4 := Tryz.zeroValue4
  t9 := Tryz.underlying9
  a9 := Tryz.isAgg9
  z9 := Tryz.sizeOf9
  v9 := Tryz.zeroValue9
  t20 := Tryz.underlying20
  a20 := Tryz.isAgg20
  z20 := Tryz.sizeOf20
  v20 := Tryz.zeroValue20
  t70 := Tryz.underlying190
  a70 := Tryz.isAgg190
  z70 := Tryz.sizeOf190
  v70 := Tryz.zeroValue190
  t72 := Tryz.underlying192
  a72 := Tryz.isAgg192
  z72 := Tryz.sizeOf192
  v72 := Tryz.zeroValue192
  t164 := Tryz.underlying229
  a164 := Tryz.isAgg229
  z164 := Tryz.sizeOf229
  v164 := Tryz.zeroValue229 }
theorem tzX72 : Builder.X72 Tryz.prog tzRen := { sizeBuilder := by kernel_rfl, liesBuilder := by kernel_rfl }
theorem tzJoin : Fs.Enters Tryz.prog 145 := ⟨_, Tryz.func145, rfl, by kernel_rfl⟩
/-- The package variables that the program reads: their numbers, types, cells. -/
def tzG : List (Nat × TypeId × List Value) := [(0, 162, [.string ⟨#[107, 101, 112, 116]⟩, .func (.func 237) #[] #[], .string ⟨#[109, 105, 115, 115, 101, 100]⟩, .func (.func 238) #[] #[], .string ⟨#[111, 112, 101, 110]⟩, .func (.func 239) #[] #[]]), (1, 111, [.int .i64 (-1), .int .i64 0])]
abbrev OB := orcB 160 145 161 192
theorem tzOrc {B : Nat} {w0 : World} (hz : w0.drawn = 0) (hB : w0.heap.size ≤ B) (ht : ∀ w, Below B w0 w → Lib.TabIs Tryz.prog w "internal/strconv.uint64pow10" .u64 Lib.pow10Tab) : CallSound Tryz.prog B w0 (orcS 160 160) :=
  orcI_sound hz tzItoa (fun n w hw h0 h1 => (Tryz.internal_strconv_Itoa n h0 h1 w (ht w hw)).mono fun e w' ⟨he, k, os, hw'⟩ => ⟨he, by rw [hw']; exact Lib.below_grow _ _ (Nat.le_refl _) _ _⟩)
theorem tzOrcJ {B : Nat} {w0 : World} (hz : w0.drawn = 0) (hB : w0.heap.size ≤ B) (ht : ∀ w, Below B w0 w → Lib.TabIs Tryz.prog w "internal/strconv.uint64pow10" .u64 Lib.pow10Tab) : CallSound Tryz.prog B w0 (orcS 160 145) :=
  orcS_sound hz tzItoa tzJoin (fun n w hw h0 h1 => (Tryz.internal_strconv_Itoa n h0 h1 w (ht w hw)).mono fun e w' ⟨he, k, os, hw'⟩ => ⟨he, by rw [hw']; exact Lib.below_grow _ _ (Nat.le_refl _) _ _⟩)
    (fun bk o c xs sep w hcells hbk hN hcap hlen => Tryz.strings_Join bk o c xs sep w hcells hbk hN hcap hlen)
theorem tzOrcB {B : Nat} {w0 : World} (hz : w0.drawn = 0) (hB : w0.heap.size ≤ B) (ht : ∀ w, Below B w0 w → Lib.TabIs Tryz.prog w "internal/strconv.uint64pow10" .u64 Lib.pow10Tab) : CallSound Tryz.prog B w0 OB :=
  orcB_sound hz (tzOrcJ hz hB ht) tzCheck (fun b w h0 h1 h2 => Any.Builder_copyCheck_fresh tzLays tzX72 b w h0 h1 h2) (fun b w h0 => Any.Builder_copyCheck_used tzLays tzX72 b w h0)
end Go.Proofs
