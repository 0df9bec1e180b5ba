/- Runs told by what the slots tell: arrays, loops taken round by round. No condition. Plain laws of values at places: corners, between, equal steps, raised by one metre. No condition. Runs told by what the slots tell: strings rune by rune; operations that are guarded by guarded ones. No condition. Runs told by what the slots tell: structs built in part; when keys are the same. No condition. Runs told by what the slots tell: slices and nil. No condition. -/
import Derived.Test.YtednnfllcafliaaGreatDoorP5
set_option linter.all false
namespace Go.Fs
variable {P : Program} {orc : FuncId → List Value → Heap → Option (Value × Heap)} {rnd : Option Nat} {h : Heap} {S : List Nat} {σ : Sto} {t : Tr} {fl : VL} {x y : Operand} {T : TypeId} {n : Nat} {τ τ' : Ty} {Q : Ex → VL → Sto → Prop}
theorem VC.unroll {c : Code} (hx : VC P orc rnd c n fl σ (thenV P orc rnd n (.loop c) Q)) : VC P orc rnd (.loop c) n fl σ Q := fun h0 G S0 t h ms I => by
  refine EvC.loop ((hx h0 G S0 t h ms I).mono fun e fr h' hq => ?_)
  obtain ⟨hn, fl', σ', I', q⟩ := hq
  cases e with
  | normal =>
    obtain ⟨t', n', ms'⟩ := fr
    obtain rfl : n' = n := hn
    exact q h0 G S0 t' h' ms' I'
  | exit i => exact ⟨hn, fl', σ', I', q⟩
  | ret => exact ⟨hn, fl', σ', I', q⟩
def aofB (P : Program) (T : TypeId) (j k : Nat) (τ' : Ty) : Bool :=
  match P.underlying T with
  | some (.array n e) => match P.info? e with
    | some i => Nat.blt j n && Nat.beq k (j * i.size) && valB P e τ'
    | none => false
  | _ => false
theorem aofB_inv {j k : Nat} (hb : aofB P T j k τ' = true) : ∃ m e i, P.underlying T = some (.array m e) ∧ P.info? e = some i ∧ j < m ∧ k = j * i.size ∧ ValT P e τ' := by
  unfold aofB at hb
  split at hb
  · rename_i m e hu
    split at hb
    · rename_i i hi
      obtain ⟨h1, h2⟩ := band hb
      obtain ⟨h3, h4⟩ := band h1
      exact ⟨m, e, i, hu, hi, nblt h3, nbeq h4, valT_of h2⟩
    · cases hb
  · cases hb
theorem CalmV.ixA (j : Nat) {k : Nat} {dx : τ.den} {dy : τ'.den} (hs : Sub τ dx k τ' dy) (ha : τ.agg = true := by rfl) (hb : aofB P T j k τ' = true := by kernel_rfl) (hx : evV fl x = some (.v τ dx) := by rfl) (hy : evV fl y = some (.v (.int .i64) ((j : Nat) : Int)) := by rfl) : CalmV P fl σ (.index T x y) (.v τ' dy) :=
  ⟨rfl, fun h S t hq _ => by
    have hv : RepV h S τ (evalO t x) dx := hq x (by simp [Op.operands]) _ hx
    have hi : evalO t y = .int .i64 ((j : Nat) : Int) := RepV.int (hq y (by simp [Op.operands]) _ hy : RepV h S (.int .i64) _ ((j : Nat) : Int))
    obtain ⟨m, e, i, u1, u2, u3, u4, u5⟩ := aofB_inv hb
    obtain ⟨cs, hcs⟩ := aggOf ha hv
    rw [hcs] at hv
    obtain ⟨h6, h7⟩ := hs.repC hv.2
    obtain ⟨v, v1, v2⟩ := part_rep u5 (cs := cs) (o := k) h7
    refine ⟨v, v2, fun _ _ _ _ _ H => ?_⟩
    show (if af (evalO t y) then (runPure P (Instr.index T (evalO t x) (evalO t y))).map _ else none) = _
    rw [hi, hcs, if_pos (show af (Value.int .i64 ((j : Nat) : Int)) = true from rfl)]
    have h8 : (0 : Int) ≤ ((j : Nat) : Int) ∧ ((j : Nat) : Int) < (m : Nat) := by omega
    have h9 : runPure P (Instr.index T (.agg cs) (.int .i64 ((j : Nat) : Int))) = some v := by
      unfold Instr.index
      simp only [runPure_bind, asIntOf, runPure_pure, Option.bind_some, runPure_underlying u1, if_pos h8, runPure_sizeOf u2, Int.toNat_natCast, ← u4]
      exact v1
    rw [h9]; rfl⟩
theorem CalmV.ixV (j : Nat) {k : Nat} {cs : List PV} {w : Value} (hm : (w, Cell.var cs) ∈ σ) (hb : aofB P T j k τ' = true := by kernel_rfl) (hx : evV fl x = some (.raw w) := by rfl) (hy : evV fl y = some (.v (.int .i64) ((j : Nat) : Int)) := by rfl) : CalmV P fl σ (.indexAddr T x y) (.raw (padd w k)) :=
  ⟨rfl, fun h S t hs hc => by
    have h1 : evalO t x = w := hs x (by simp [Op.operands]) _ hx
    have hi : evalO t y = .int .i64 ((j : Nat) : Int) := RepV.int (hs y (by simp [Op.operands]) _ hy : RepV h S (.int .i64) _ ((j : Nat) : Int))
    obtain ⟨m, e, i, u1, u2, u3, u4, u5⟩ := aofB_inv hb
    obtain ⟨b, e', vs, h3, h4, h5, _⟩ := hc _ hm
    have h3' : w = .pointer (some ⟨b, 0, none⟩) := h3
    refine ⟨_, rfl, fun _ _ _ _ _ H => ?_⟩
    show (if af (evalO t y) then (runPure P (Instr.indexAt T (evalO t x) (evalO t y))).map _ else none) = _
    rw [hi, h1, h3', if_pos (show af (Value.int .i64 ((j : Nat) : Int)) = true from rfl)]
    have h6 : (0 : Int) ≤ ((j : Nat) : Int) ∧ ((j : Nat) : Int) < (m : Nat) := by omega
    have h7 : runPure P (Instr.indexAt T (.pointer (some ⟨b, 0, none⟩)) (.int .i64 ((j : Nat) : Int))) = some (.pointer (some ⟨b, 0 + k, none⟩)) := by
      unfold Instr.indexAt
      simp only [runPure_bind, asIntOf, runPure_pure, Option.bind_some, runPure_underlying u1, Instr.sureAddr, if_pos h6, runPure_sizeOf u2, add_none, Int.toNat_natCast, u4]
    rw [h7]; rfl⟩
/-! ## Arrays of whole numbers, compared -/
theorem part_int {e : TypeId} {i : TypeInfo} {cs : Array Value} {j : Nat} {a : Int} (hu : P.underlying e = some (.int .i64)) (hi : P.info? e = some i) (hs : i.size = 1) (hc : cs[j]? = some (.int .i64 a)) : runPure P (part e cs j) = some (.int .i64 a) := by
  obtain ⟨v, v1, v2⟩ := part_rep (h := ⟨0, 0, []⟩) (S := []) (T := e) (τ := .int .i64) ⟨⟨i, hi, hs⟩, _, hu, rfl⟩ (cs := cs) (o := j) (x := a) (by
    show (cs.toList.drop j).take 1 = [.int .i64 a]
    have hl : j < cs.toList.length := by
      have := (Array.getElem?_eq_some_iff.1 hc).1; simpa using this
    rw [List.drop_eq_getElem_cons hl]
    have := (Array.getElem?_eq_some_iff.1 hc).2
    simp [this])
  rw [v1, RepV.int v2]
theorem eq_int {d : Nat} {e : TypeId} {a b : Int} (hu : P.underlying e = some (.int .i64)) : runPure P (Op.equalIn (d + 1) e (.int .i64 a) (.int .i64 b)) = some (decide (a = b)) := by
  unfold Op.equalIn
  simp only [runPure_bind, runPure_underlying hu, Option.bind_some]
  show some (a == b) = _
  congr 1
theorem forIn_all {n : Nat} {c : Nat → Bool} {f : Nat → Option Bool × PUnit → Sem (ForInStep (Option Bool × PUnit))} (hf : ∀ j, j < n → ∀ s, runPure P (f j s) = some (if c j = true then .yield (none, ⟨⟩) else .done (some false, ⟨⟩))) :
    ∀ m j, j + m ≤ n → runPure P (forIn (List.range' j m) (none, ⟨⟩) f) = some (if (List.range' j m).all c = true then (none, ⟨⟩) else (some false, ⟨⟩))
  | 0, j, _ => by simp [List.range', runPure_pure]
  | m + 1, j, h => by
    rw [List.range'_succ, List.forIn_cons, runPure_bind, hf j (by omega), Option.bind_some, List.all_cons]
    cases hc : c j with
    | true =>
      simp only [if_true, Bool.true_and]
      exact forIn_all hf m (j + 1) (by omega)
    | false => simp [runPure_pure]
theorem eq_arr {d n : Nat} {e : TypeId} {i : TypeInfo} {xs ys : List Int} (hT : P.underlying T = some (.array n e)) (hu : P.underlying e = some (.int .i64)) (hi : P.info? e = some i) (hs : i.size = 1) (hx : xs.length = n) (hy : ys.length = n) :
    runPure P (Op.equalIn (d + 2) T (.agg (xs.map (Value.int .i64)).toArray) (.agg (ys.map (Value.int .i64)).toArray)) = some (decide (xs = ys)) := by
  unfold Op.equalIn
  simp only [runPure_bind, runPure_underlying hT, Option.bind_some, runPure_sizeOf hi, hs, Std.Legacy.Range.forIn_eq_forIn_range', Std.Legacy.Range.size]
  have hst : ∀ {β : Type} (g : Nat → β → Sem (ForInStep β)) (b : β), forIn (List.range' 0 ((n - 0 + 1 - 1) / 1)) b g = forIn (List.range' 0 n) b g := fun g b => by congr 2; simp
  rw [hst, forIn_all (n := n) (c := fun j => decide (xs.getD j 0 = ys.getD j 0)) (fun j hj s => ?_) n 0 (by omega)]
  · have hall : ((List.range' 0 n).all fun j => decide (xs.getD j 0 = ys.getD j 0)) = decide (xs = ys) := by
      by_cases h : xs = ys
      · subst h; simp
      · rw [decide_eq_false h, ← Bool.not_eq_true, List.all_eq_true]
        intro hh
        apply h
        refine List.ext_getElem (by omega) fun k h1 h2 => ?_
        have := hh k (by simp; omega)
        simpa [List.getD_eq_getElem?_getD, List.getElem?_eq_getElem h1, List.getElem?_eq_getElem h2] using this
    rw [hall]
    by_cases h : xs = ys <;> simp [h, runPure_pure]
  · have p1 : runPure P (part e (xs.map (Value.int .i64)).toArray (j * 1)) = some (.int .i64 (xs.getD j 0)) := part_int hu hi hs (by simp [List.getD_eq_getElem?_getD, List.getElem?_eq_getElem (show j < xs.length by omega)])
    have p2 : runPure P (part e (ys.map (Value.int .i64)).toArray (j * 1)) = some (.int .i64 (ys.getD j 0)) := part_int hu hi hs (by simp [List.getD_eq_getElem?_getD, List.getElem?_eq_getElem (show j < ys.length by omega)])
    simp only [runPure_bind, p1, p2, Option.bind_some, eq_int hu]
    by_cases h : xs.getD j 0 = ys.getD j 0 <;> simp [h, runPure_pure, -List.getD_eq_getElem?_getD]
def arrB (P : Program) (T : TypeId) (n : Nat) : Bool :=
  match P.underlying T with
  | some (.array m e) => Nat.beq m n && !P.eqGuardType P.depth T && (match P.underlying e with | some (.int k) => decide (k = .i64) | _ => false) && (match P.info? e with | some i => Nat.beq i.size 1 | none => false)
  | _ => false
section
variable {T' : TypeId}
theorem CalmV.arrCmp {b : BinOp} {dx dy : τ.den} {xs ys : List Int} {r : Bool} (hbop : (b = .eql ∧ r = decide (xs = ys)) ∨ (b = .neq ∧ r = !decide (xs = ys))) (ha : τ.agg = true) (hf : τ.isFlat = true) (hcx : τ.flatC dx = xs.map (Value.int .i64)) (hcy : τ.flatC dy = ys.map (Value.int .i64)) (hb : arrB P T xs.length = true) (hl : ys.length = xs.length)
    (hx : evV fl x = some (.v τ dx) := by rfl) (hy : evV fl y = some (.v τ dy) := by rfl) : CalmV P fl σ (.binOp b T x y T') (.v .bool r) :=
  .bin hx hy fun h S a c hu hv => by
    have e1 := flat_agg hu hf ha
    have e2 := flat_agg hv hf ha
    rw [hcx] at e1
    rw [hcy] at e2
    unfold arrB at hb
    split at hb
    · rename_i m e hU
      obtain ⟨hb, h4⟩ := band hb
      obtain ⟨hb, h3⟩ := band hb
      obtain ⟨h1, h2⟩ := band hb
      have h1 := nbeq h1
      have hg : P.eqGuardType P.depth T = false := by simpa using h2
      have hi : P.underlying e = some (.int .i64) := by
        split at h3
        · rename_i k hk; rw [of_decide_eq_true h3] at hk; exact hk
        · cases h3
      obtain ⟨i, hi2, hi3⟩ : ∃ i, P.info? e = some i ∧ i.size = 1 := by
        split at h4
        · rename_i i hi; exact ⟨i, hi, nbeq h4⟩
        · cases h4
      have hrun : runPure P (Op.equal T a c) = some (decide (xs = ys)) := by
        rw [e1, e2]; exact eq_arr (d := 9998) (by rw [hU, h1]) hi hi2 hi3 rfl hl
      subst e1 e2
      refine ⟨.bool r, RepV.ofBool _, ?_, ?_⟩
      · rw [(RepPV.flat (pv := .v τ dx) hf hu).1, (RepPV.flat (pv := .v τ dy) hf hv).1]; rfl
      · have he : ∀ q, runPure P (eqGuard q T x y (.agg (xs.map (Value.int .i64)).toArray) (.agg (ys.map (Value.int .i64)).toArray)) = some () := fun q => by
          unfold eqGuard
          cases q <;> simp [runPure_bind, runPure_program, hg, runPure_pure]
        have hbo : runPure P (binOp b T (.agg (xs.map (Value.int .i64)).toArray) (.agg (ys.map (Value.int .i64)).toArray)) = some (.bool r) := by
          rcases hbop with ⟨rfl, rfl⟩ | ⟨rfl, rfl⟩
          · unfold binOp
            simp only [runPure_bind, hrun, Option.bind_some, runPure_pure]
          · unfold binOp
            simp only [runPure_bind, hrun, Option.bind_some, runPure_pure]
        unfold purely
        rw [runPure_bind, he]
        simp only [Option.bind_some, hbo]; rfl
    · cases hb
end
end Go.Fs
namespace Go.Proofs
open Go.Fs Ieee
set_option linter.unusedVariables false
abbrev y101 : Ty := (.sl (.sl (.flt .f32)))
abbrev y117 : Ty := (.pair (.int .i64) (.int .i64))
abbrev y121 : Ty := (.pair (.int .i64) (.int .i64))
abbrev y124 : Ty := (.sl (.flt .f32))
abbrev y255 : Ty := (.pair (.int .i64) (.pair (.int .i64) (.pair (.int .i64) (.int .i64))))
theorem vt124 : ValT Tryz.prog 124 y124 := valT_of (by kernel_rfl)
theorem vt127 : ValT Tryz.prog 127 (.flt .f32) := valT_of (by kernel_rfl)
theorem vt255 : ValT Tryz.prog 255 y255 := valT_of (by kernel_rfl)
theorem el101 : ElT Tryz.prog 101 124 y124 := elT_of (by kernel_rfl)
theorem el124 : ElT Tryz.prog 124 127 (.flt .f32) := elT_of (by kernel_rfl)
theorem zt255 : ZerT Tryz.prog 255 y255 := zerT_of (z := .agg #[.int .i64 0, .int .i64 0, .int .i64 0, .int .i64 0]) (by kernel_rfl) rfl rfl
theorem bt255 : BldT Tryz.prog 255 y255 [(0, 1), (1, 1), (2, 1), (3, 1)] := bldT_of zt255 rfl (by kernel_rfl)
/-! ## Fields -/
def wid (F : List (List Nat)) : Nat := (F.headD []).length
theorem wid_eq {F : List (List Nat)} (h : 0 < F.length) : F[0].length = wid F := by
  cases F with
  | nil => simp at h
  | cons x l => rfl
def rowE (n : Nat) (r : List Nat) : Int := firstE [whenE (decide ((r.length : Int) = 0)) 12, whenE (decide ((8 : Int) < r.length)) 5, whenE (decide ((r.length : Int) ≠ n)) 2, firstE (r.map lvlE)]
def fieldE (F : List (List Nat)) : Int := if (F.length : Int) = 0 then 12 else if (8 : Int) < F.length then 5 else firstE (F.map (rowE (wid F)))
def placeE (p : Int × Int) (R C : Int) : Int := firstE [rangeE p.1 0 (4 * (R - 1)), rangeE p.2 0 (4 * (C - 1))]
structure OkF (F : List (List Nat)) : Prop where
  pos : 0 < F.length
  top : F.length ≤ 8
  wpos : 0 < wid F
  wtop : wid F ≤ 8
  row : ∀ r ∈ F, r.length = wid F
  lv : ∀ r ∈ F, ∀ x ∈ r, lvlE x = 0
theorem placeE_ok {p : Int × Int} {R C : Int} (h : placeE p R C = 0) : (0 ≤ p.1 ∧ p.1 ≤ 4 * (R - 1)) ∧ (0 ≤ p.2 ∧ p.2 ≤ 4 * (C - 1)) := by
  unfold placeE at h
  rw [firstE_zero] at h
  exact ⟨rangeE_zero.1 (h _ (by simp)), rangeE_zero.1 (h _ (by simp))⟩
theorem sMapFE_ok {F : Nat → Int} {l : List Nat} {f : PV} (hl : l.length < 100000) (hf : ∀ x ∈ l, VCall Tryz.prog OA f [.v (.flt .f32) x] (I (F x))) : VF Tryz.prog OA 168 [.v y124 l, f] (.v y179 (l.map F)) := by
  refine VF.enter Tryz.func168 rfl (fun _ _ => rfl) rfl ?_
  show VC _ _ _ _ _ [(0, .v y124 l), (1, f)] [] _
  refine VC.seq ?_
  refine VC.text ?_
  refine VO.c (.assign rfl) ?_
  refine VO.go ?_
  refine VC.seq ?_
  refine VC.text ?_
  refine VO.c (.assign rfl) ?_
  refine VO.go ?_
  refine VC.seq ?_
  refine VC.seq ?_
  refine VC.text ?_
  refine VO.c (.move rfl) ?_
  refine VO.r (.len el124) ?_
  refine VO.c (.move rfl) ?_
  refine VO.go ?_
  refine VC.block ?_
  refine VC.cell0 26 (.int .i64) ?_
  refine VC.keep [(1, f), (5, .raw (.slice none 0 0)), (8, .v y124 l), (9, I ((l.length : Nat) : Int)), (10, I ((0 : Nat) : Int))] ⟨rfl, rfl, rfl, rfl, rfl, trivial⟩ ?_
  refine VC.loop (I := fun kk ff ss => ∃ (j : Nat) (out : Value), kk = l.length - j ∧ ff = [(1, f), (5, .raw out), (8, .v y124 l), (9, I ((l.length : Nat) : Int)), (10, I ((j : Nat) : Int))] ∧ ss = [(out, .row 26 (.int .i64) ((l.take j).map F))] ∧ (j ≤ l.length)) ?_ _ _ _ ⟨0, (.slice none 0 0), rfl, rfl, rfl, Nat.zero_le _⟩
  rintro kk ff ss ⟨j, out, hk0, rfl, rfl, hj⟩
  refine VC.seq ?_
  refine VC.text ?_
  refine VO.c (.lss) ?_
  refine VO.go ?_
  refine VC.seq ?_
  refine VC.condD rfl (fun c3 => ?_) (fun c3 => ?_)
  · refine VC.skip ?_
    show VC _ _ _ _ _ _ _ _
    refine VC.seq ?_
    refine VC.block ?_
    refine VC.seq ?_
    refine VC.text ?_
    refine VO.c (.ix (j := j) rfl rfl el124 (by omega)) ?_
    refine VO.r (.ld vt127) ?_
    refine VO.c (.assign rfl) ?_
    refine VO.go ?_
    refine VC.text ?_
    refine VO.c (.move rfl) ?_
    refine VO.c (.move rfl) ?_
    refine VO.c (.move rfl) ?_
    refine VO.call rfl rfl ((hf _ (List.getElem_mem _)) ) ?_
    refine VO.new (.lit [F (l[j])] el179) ?_
    refine VO.app rfl rfl el179 el179 (by simp; omega) ?_
    intro ww1
    refine VO.c (.assign rfl) ?_
    refine VO.nil ?_
    show VC _ _ _ _ _ _ _ _
    refine VC.text ?_
    refine VO.c (.add rfl rfl (by omega)) ?_
    refine VO.c (.move rfl) ?_
    refine VO.nil ?_
    refine ⟨_, [(1, f), (5, .raw ww1), (8, .v y124 l), (9, I ((l.length : Nat) : Int)), (10, I (((j + 1) : Nat) : Int))], ?_, ⟨rfl, rfl, rfl, rfl, rfl, trivial⟩, (j + 1), ww1, rfl, rfl, (by rw [List.take_succ_eq_append_getElem (by omega), List.map_append] <;> rfl), (by omega)⟩
    omega
  · refine VC.exit ?_
    show VC _ _ _ _ _ _ _ _
    refine VC.seq ?_
    refine VC.text ?_
    refine VO.c (.move rfl) ?_
    refine VO.c (.assign rfl) ?_
    refine VO.go ?_
    refine VC.ret ?_
    exact VEnd.one rfl (evC (.row m0)) (pvE (by rw [List.take_of_length_le (by omega)]))
theorem sPlace_ok {p : Int × Int} {R : Int} {C : Int} (hR : 0 ≤ R ∧ R ≤ 100000) (hC : 0 ≤ C ∧ C ≤ 100000) : VF Tryz.prog OA 136 [.v y121 p, I R, I C] (I (placeE p R C)) := by
  refine VF.enter Tryz.func136 rfl (fun _ _ => rfl) rfl ?_
  show VC _ _ _ _ _ [(0, .v y121 p), (1, I R), (2, I C)] [] _
  refine VC.seq ?_
  refine VC.text ?_
  refine VO.new (.box) ?_
  refine VO.c (.assign rfl) ?_
  refine VO.go ?_
  refine VC.seq ?_
  refine VC.drawn ?_
  refine VD.c (.fa (.l .o)) ?_
  refine VD.r [] (.ld vt3) (.inl rfl) ?_
  refine VD.c (.move rfl) ?_
  refine VD.c (.sub rfl rfl (by omega)) ?_
  refine VD.c (.mul rfl rfl (by omega)) ?_
  refine VD.call rfl rfl (VF.call (sWithin_ok )) ?_
  refine VD.nw [] ?_
  refine VD.c (.fa (.r .o)) ?_
  refine VD.r [] (.ld vt3) (.inl rfl) ?_
  refine VD.c (.move rfl) ?_
  refine VD.c (.sub rfl rfl (by omega)) ?_
  refine VD.c (.mul rfl rfl (by omega)) ?_
  refine VD.call rfl rfl (VF.call (sWithin_ok )) ?_
  refine VD.new (.lit [rangeE p.1 (0 : Int) ((4 : Int) * (R - (1 : Int))), rangeE p.2 (0 : Int) ((4 : Int) * (C - (1 : Int)))] el179) ?_
  refine VD.nw [19] ?_
  refine VD.callO rfl rfl (VF.call (sFirst_ok (by simp))) ?_
  refine VD.c (.assign rfl) ?_
  refine VD.go ?_
  refine VC.ret ?_
  exact VEnd.one rfl evT (pvI (by first | rfl | simp))
theorem rPlace_ok {p : Int × Int} {R : Int} {C : Int} (hR : 0 ≤ R ∧ R ≤ 100000) (hC : 0 ≤ C ∧ C ≤ 100000) : VF Tryz.prog OA 65 [.v y117 p, I R, I C] (I (placeE p R C)) := by
  refine VF.enter Tryz.func65 rfl (fun _ _ => rfl) rfl ?_
  show VC _ _ _ _ _ [(0, .v y117 p), (1, I R), (2, I C)] [] _
  refine VC.seq ?_
  refine VC.text ?_
  refine VO.new (.box) ?_
  refine VO.c (.assign rfl) ?_
  refine VO.go ?_
  refine VC.seq ?_
  refine VC.drawn ?_
  refine VD.c (.fa (.l .o)) ?_
  refine VD.r [] (.ld vt3) (.inl rfl) ?_
  refine VD.c (.move rfl) ?_
  refine VD.c (.sub rfl rfl (by omega)) ?_
  refine VD.c (.mul rfl rfl (by omega)) ?_
  refine VD.call rfl rfl (VF.call (rCheckRange_ok )) ?_
  refine VD.nw [] ?_
  refine VD.c (.fa (.r .o)) ?_
  refine VD.r [] (.ld vt3) (.inl rfl) ?_
  refine VD.c (.move rfl) ?_
  refine VD.c (.sub rfl rfl (by omega)) ?_
  refine VD.c (.mul rfl rfl (by omega)) ?_
  refine VD.call rfl rfl (VF.call (rCheckRange_ok )) ?_
  refine VD.new (.lit [rangeE p.1 (0 : Int) ((4 : Int) * (R - (1 : Int))), rangeE p.2 (0 : Int) ((4 : Int) * (C - (1 : Int)))] el22) ?_
  refine VD.nw [19] ?_
  refine VD.callO rfl rfl (VF.call (rFirst_ok (by simp))) ?_
  refine VD.c (.assign rfl) ?_
  refine VD.go ?_
  refine VC.ret ?_
  exact VEnd.one rfl evT (pvI (by first | rfl | simp))
theorem sxF_get {F : List (List Nat)} {r c : Nat} (hr : r < F.length) (hc : c < F[r].length) : sxE (F[r][c]) = sxF F r c := by
  unfold sxF
  rw [List.getD_eq_getElem?_getD, List.getD_eq_getElem?_getD, List.getElem?_eq_getElem hr, Option.getD_some, List.getElem?_eq_getElem hc, Option.getD_some]
theorem lv_get {F : List (List Nat)} (h : OkF F) {r c : Nat} (hr : r < F.length) (hc : c < F[r].length) : lvlE (F[r][c]) = 0 := h.lv _ (List.getElem_mem hr) _ (List.getElem_mem hc)
theorem wid_D {F : List (List Nat)} : (F.getD 0 []).length = wid F := by cases F <;> rfl
theorem at_same {F : List (List Nat)} {p : Int × Int} {a : Int} (h1 : sxF F (p.1 / 4).toNat (p.2 / 4).toNat = a) (h2 : sxF F (p.1 / 4).toNat (min ((p.2 / 4).toNat + 1) (wid F - 1)) = a) (h3 : sxF F (min ((p.1 / 4).toNat + 1) (F.length - 1)) (p.2 / 4).toNat = a) (h4 : sxF F (min ((p.1 / 4).toNat + 1) (F.length - 1)) (min ((p.2 / 4).toNat + 1) (wid F - 1)) = a) : 16 * a = atE F p := by
  unfold atE
  simp only [wid_D, h1, h2, h3, h4]
  generalize p.1 % 4 = y
  generalize p.2 % 4 = x
  rw [← Int.add_mul, ← Int.add_mul, ← Int.add_mul]
  congr 1
  simp only [Int.sub_mul, Int.mul_sub]
  omega
theorem sx_bound {F : List (List Nat)} (h : OkF F) {r c : Nat} (hr : r < F.length) (hc : c < F[r].length) : -1024 ≤ sxE (F[r][c]) ∧ sxE (F[r][c]) ≤ 1024 := (lvl_ok (lv_get h hr hc)).2
theorem wprod {a b s : Int} (ha : 0 ≤ a ∧ a ≤ 4) (hb : 0 ≤ b ∧ b ≤ 4) (hs : -1024 ≤ s ∧ s ≤ 1024) : -16384 ≤ a * b * s ∧ a * b * s ≤ 16384 := by
  have h0 : 0 ≤ a * b := Int.mul_nonneg ha.1 hb.1
  have h1 : a * b ≤ 4 * 4 := Int.mul_le_mul ha.2 hb.2 hb.1 (by decide)
  have h2 : a * b * s ≤ 16 * 1024 := by
    by_cases hn : 0 ≤ s
    · exact Int.mul_le_mul (by omega) hs.2 hn (by decide)
    · have := Int.mul_nonneg h0 (show 0 ≤ -s by omega)
      rw [Int.mul_neg] at this; omega
  have h3 : a * b * (-s) ≤ 16 * 1024 := by
    by_cases hn : 0 ≤ -s
    · exact Int.mul_le_mul (by omega) (by omega) hn (by decide)
    · have := Int.mul_nonneg h0 (show 0 ≤ s by omega)
      rw [Int.mul_neg]; omega
  rw [Int.mul_neg] at h3
  omega
theorem wfit {a b : Int} (ha : 0 ≤ a ∧ a ≤ 4) (hb : 0 ≤ b ∧ b ≤ 4) : fit (a * b) := by
  have h0 : 0 ≤ a * b := Int.mul_nonneg ha.1 hb.1
  have h1 : a * b ≤ 4 * 4 := Int.mul_le_mul ha.2 hb.2 hb.1 (by decide)
  exact ⟨by omega, by omega⟩
theorem pfit {a : Int} (h : -16384 ≤ a ∧ a ≤ 16384) : fit a := ⟨by omega, by omega⟩
theorem sAt_ok_c4 {F : List (List Nat)} {p : Int × Int}  {ww2 : Value} (hF : OkF F) (hr1 : (p.1 / 4).toNat < F.length) (hr2 : min ((p.1 / 4).toNat + 1) (F.length - 1) < F.length) (hw1 : F[(p.1 / 4).toNat].length = wid F) (hw2 : F[min ((p.1 / 4).toNat + 1) (F.length - 1)].length = wid F) (hc1 : (p.2 / 4).toNat < wid F) (hc2 : min ((p.2 / 4).toNat + 1) (wid F - 1) < wid F) : VC Tryz.prog OA none (seqN 4 (codeOf Tryz.f137)) Tryz.f137.ntmps [(7, I (p.1 % 4)), (8, I (p.2 % 4)), (11, .raw ww2)] [(ww2, .var [I (sxE ((F[((p.1 / 4).toNat)])[((p.2 / 4).toNat)])), I (sxE ((F[((p.1 / 4).toNat)])[(min ((p.2 / 4).toNat + 1) (wid F - 1))])), I (sxE ((F[(min ((p.1 / 4).toNat + 1) (F.length - 1))])[((p.2 / 4).toNat)])), I (sxE ((F[(min ((p.1 / 4).toNat + 1) (F.length - 1))])[(min ((p.2 / 4).toNat + 1) (wid F - 1))]))])] (VEnd Tryz.prog Tryz.f137 (I (atE F p))) := by
  refine VC.seq ?_
  refine VC.seq ?_
  refine VC.text ?_
  have k1 := sx_bound hF hr1 (show (p.2 / 4).toNat < _ by omega)
  have k2 := sx_bound hF hr1 (show min ((p.2 / 4).toNat + 1) (wid F - 1) < _ by omega)
  have k3 := sx_bound hF hr2 (show (p.2 / 4).toNat < _ by omega)
  have k4 := sx_bound hF hr2 (show min ((p.2 / 4).toNat + 1) (wid F - 1) < _ by omega)
  have g1 := sxF_get hr1 (show (p.2 / 4).toNat < _ by omega)
  have g2 := sxF_get hr1 (show min ((p.2 / 4).toNat + 1) (wid F - 1) < _ by omega)
  have g3 := sxF_get hr2 (show (p.2 / 4).toNat < _ by omega)
  have g4 := sxF_get hr2 (show min ((p.2 / 4).toNat + 1) (wid F - 1) < _ by omega)
  have hy : 0 ≤ p.1 % 4 ∧ p.1 % 4 ≤ 4 := by omega
  have hx : 0 ≤ p.2 % 4 ∧ p.2 % 4 ≤ 4 := by omega
  have hy2 : 0 ≤ 4 - p.1 % 4 ∧ 4 - p.1 % 4 ≤ 4 := by omega
  have hx2 : 0 ≤ 4 - p.2 % 4 ∧ 4 - p.2 % 4 ≤ 4 := by omega
  have p1 := wprod hy2 hx2 k1
  have p2 := wprod hy2 hx k2
  have p3 := wprod hy hx2 k3
  have p4 := wprod hy hx k4
  refine VO.c (.ixV 0 (k := 0) (τ' := (.int .i64)) m0) ?_
  refine VO.r (.ldF (k := 0) m0 vt3) ?_
  refine VO.c (.assign rfl) ?_
  refine VO.go ?_
  refine VC.seq ?_
  refine VC.text ?_
  refine VO.r (.ldA (dx := (sxE ((F[((p.1 / 4).toNat)])[((p.2 / 4).toNat)]), sxE ((F[((p.1 / 4).toNat)])[(min ((p.2 / 4).toNat + 1) (wid F - 1))]), sxE ((F[(min ((p.1 / 4).toNat + 1) (F.length - 1))])[((p.2 / 4).toNat)]), sxE ((F[(min ((p.1 / 4).toNat + 1) (F.length - 1))])[(min ((p.2 / 4).toNat + 1) (wid F - 1))]))) m0 vt255) ?_
  refine VO.c (.move rfl) ?_
  refine VO.c (.move rfl) ?_
  refine VO.c (.move rfl) ?_
  refine VO.c (.move rfl) ?_
  refine VO.c (.build (sxE ((F[((p.1 / 4).toNat)])[((p.2 / 4).toNat)]), sxE ((F[((p.1 / 4).toNat)])[((p.2 / 4).toNat)]), sxE ((F[((p.1 / 4).toNat)])[((p.2 / 4).toNat)]), sxE ((F[((p.1 / 4).toNat)])[((p.2 / 4).toNat)])) bt255) ?_
  refine VO.c (.arrCmp (xs := [sxE ((F[((p.1 / 4).toNat)])[((p.2 / 4).toNat)]), sxE ((F[((p.1 / 4).toNat)])[(min ((p.2 / 4).toNat + 1) (wid F - 1))]), sxE ((F[(min ((p.1 / 4).toNat + 1) (F.length - 1))])[((p.2 / 4).toNat)]), sxE ((F[(min ((p.1 / 4).toNat + 1) (F.length - 1))])[(min ((p.2 / 4).toNat + 1) (wid F - 1))])]) (ys := [sxE ((F[((p.1 / 4).toNat)])[((p.2 / 4).toNat)]), sxE ((F[((p.1 / 4).toNat)])[((p.2 / 4).toNat)]), sxE ((F[((p.1 / 4).toNat)])[((p.2 / 4).toNat)]), sxE ((F[((p.1 / 4).toNat)])[((p.2 / 4).toNat)])]) (.inl ⟨rfl, rfl⟩) rfl rfl rfl rfl (by kernel_rfl) rfl) ?_
  refine VO.go ?_
  refine VC.condD rfl (fun c5 => ?_) (fun c5 => ?_)
  · refine VC.seq ?_
    refine VC.text ?_
    refine VO.c (.move rfl) ?_
    refine VO.c (.mul rfl rfl (by omega)) ?_
    refine VO.c (.assign rfl) ?_
    refine VO.go ?_
    refine VC.ret ?_
    exact VEnd.one rfl evT (pvI (by simp only [List.cons.injEq, and_true, true_and] at c5; exact at_same g1.symm (g2.symm.trans c5.1) (g3.symm.trans c5.2.1) (g4.symm.trans c5.2.2)))
  · refine VC.skip ?_
    show VC _ _ _ _ _ _ _ _
    refine VC.seq ?_
    refine VC.text ?_
    refine VO.c (.assign rfl) ?_
    refine VO.go ?_
    refine VC.seq ?_
    refine VC.seq ?_
    refine VC.text ?_
    refine VO.c (.move rfl) ?_
    refine VO.c (.sub rfl rfl (by omega)) ?_
    refine VO.c (.move rfl) ?_
    refine VO.c (.sub rfl rfl (by omega)) ?_
    refine VO.c (.mul rfl rfl (by exact wfit hy2 hx2)) ?_
    refine VO.c (.move rfl) ?_
    refine VO.c (.sub rfl rfl (by omega)) ?_
    refine VO.c (.move rfl) ?_
    refine VO.c (.mul rfl rfl (by exact wfit hy2 hx)) ?_
    refine VO.c (.move rfl) ?_
    refine VO.c (.move rfl) ?_
    refine VO.c (.sub rfl rfl (by omega)) ?_
    refine VO.c (.mul rfl rfl (by exact wfit hy hx2)) ?_
    refine VO.c (.move rfl) ?_
    refine VO.c (.move rfl) ?_
    refine VO.c (.mul rfl rfl (by exact wfit hy hx)) ?_
    refine VO.c (.build ((((4 : Int) - (p.1 % 4)) * ((4 : Int) - (p.2 % 4))), (((4 : Int) - (p.1 % 4)) * (p.2 % 4)), ((p.1 % 4) * ((4 : Int) - (p.2 % 4))), ((p.1 % 4) * (p.2 % 4))) bt255) ?_
    refine VO.c (.move rfl) ?_
    refine VO.go ?_
    refine VC.block ?_
    refine VC.unroll ?_
    refine VC.seq ?_
    refine VC.text ?_
    refine VO.c (.lss) ?_
    refine VO.go ?_
    refine VC.seq ?_
    refine VC.condT rfl ?_
    refine VC.skip ?_
    show VC _ _ _ _ _ _ _ _
    refine VC.seq ?_
    refine VC.block ?_
    refine VC.seq ?_
    refine VC.text ?_
    refine VO.c (.move rfl) ?_
    refine VO.c (.ixA 0 (τ' := (.int .i64)) (dy := (((4 : Int) - (p.1 % 4)) * ((4 : Int) - (p.2 % 4)))) (.l .o)) ?_
    refine VO.c (.assign rfl) ?_
    refine VO.c (.assign rfl) ?_
    refine VO.go ?_
    refine VC.keep [(11, .raw ww2), (13, I (0 : Int)), (14, I (0 : Int)), (15, I (((4 : Int) - (p.1 % 4)) * ((4 : Int) - (p.2 % 4)))), (102, .v y255 ((((4 : Int) - (p.1 % 4)) * ((4 : Int) - (p.2 % 4))), (((4 : Int) - (p.1 % 4)) * (p.2 % 4)), ((p.1 % 4) * ((4 : Int) - (p.2 % 4))), ((p.1 % 4) * (p.2 % 4)))), (103, I (0 : Int))] ⟨rfl, rfl, rfl, rfl, rfl, rfl, trivial⟩ ?_
    refine VC.text ?_
    refine VO.c (.move rfl) ?_
    refine VO.c (.move rfl) ?_
    refine VO.c (.move rfl) ?_
    refine VO.c (.ixV 0 (k := 0) (τ' := (.int .i64)) m0) ?_
    refine VO.r (.ldF (k := 0) m0 vt3) ?_
    refine VO.c (.mul rfl rfl (by first | exact pfit p1 | exact pfit p2 | exact pfit p3 | exact pfit p4)) ?_
    refine VO.c (.add rfl rfl (by exact ⟨by omega, by omega⟩)) ?_
    refine VO.c (.assign rfl) ?_
    refine VO.nil ?_
    show VC _ _ _ _ _ _ _ _
    refine VC.text ?_
    refine VO.c (.add rfl rfl (by decide)) ?_
    refine VO.c (.move rfl) ?_
    refine VO.nil ?_
    show VC _ _ _ _ _ _ _ _
    refine VC.unroll ?_
    refine VC.seq ?_
    refine VC.text ?_
    refine VO.c (.lss) ?_
    refine VO.go ?_
    refine VC.seq ?_
    refine VC.condT rfl ?_
    refine VC.skip ?_
    show VC _ _ _ _ _ _ _ _
    refine VC.seq ?_
    refine VC.block ?_
    refine VC.seq ?_
    refine VC.text ?_
    refine VO.c (.move rfl) ?_
    refine VO.c (.ixA 1 (τ' := (.int .i64)) (dy := (((4 : Int) - (p.1 % 4)) * (p.2 % 4))) (.r (.l .o))) ?_
    refine VO.c (.assign rfl) ?_
    refine VO.c (.assign rfl) ?_
    refine VO.go ?_
    refine VC.text ?_
    refine VO.c (.move rfl) ?_
    refine VO.c (.move rfl) ?_
    refine VO.c (.move rfl) ?_
    refine VO.c (.ixV 1 (k := 1) (τ' := (.int .i64)) m0) ?_
    refine VO.r (.ldF (k := 1) m0 vt3) ?_
    refine VO.c (.mul rfl rfl (by first | exact pfit p1 | exact pfit p2 | exact pfit p3 | exact pfit p4)) ?_
    refine VO.c (.add rfl rfl (by exact ⟨by omega, by omega⟩)) ?_
    refine VO.c (.assign rfl) ?_
    refine VO.nil ?_
    show VC _ _ _ _ _ _ _ _
    refine VC.text ?_
    refine VO.c (.add rfl rfl (by decide)) ?_
    refine VO.c (.move rfl) ?_
    refine VO.nil ?_
    show VC _ _ _ _ _ _ _ _
    refine VC.unroll ?_
    refine VC.seq ?_
    refine VC.text ?_
    refine VO.c (.lss) ?_
    refine VO.go ?_
    refine VC.seq ?_
    refine VC.condT rfl ?_
    refine VC.skip ?_
    show VC _ _ _ _ _ _ _ _
    refine VC.seq ?_
    refine VC.block ?_
    refine VC.seq ?_
    refine VC.text ?_
    refine VO.c (.move rfl) ?_
    refine VO.c (.ixA 2 (τ' := (.int .i64)) (dy := ((p.1 % 4) * ((4 : Int) - (p.2 % 4)))) (.r (.r (.l .o)))) ?_
    refine VO.c (.assign rfl) ?_
    refine VO.c (.assign rfl) ?_
    refine VO.go ?_
    refine VC.text ?_
    refine VO.c (.move rfl) ?_
    refine VO.c (.move rfl) ?_
    refine VO.c (.move rfl) ?_
    refine VO.c (.ixV 2 (k := 2) (τ' := (.int .i64)) m0) ?_
    refine VO.r (.ldF (k := 2) m0 vt3) ?_
    refine VO.c (.mul rfl rfl (by first | exact pfit p1 | exact pfit p2 | exact pfit p3 | exact pfit p4)) ?_
    refine VO.c (.add rfl rfl (by exact ⟨by omega, by omega⟩)) ?_
    refine VO.c (.assign rfl) ?_
    refine VO.nil ?_
    show VC _ _ _ _ _ _ _ _
    refine VC.keep [(11, .raw ww2), (13, I ((((0 : Int) + ((((4 : Int) - (p.1 % 4)) * ((4 : Int) - (p.2 % 4))) * sxE ((F[((p.1 / 4).toNat)])[((p.2 / 4).toNat)]))) + ((((4 : Int) - (p.1 % 4)) * (p.2 % 4)) * sxE ((F[((p.1 / 4).toNat)])[(min ((p.2 / 4).toNat + 1) (wid F - 1))]))) + (((p.1 % 4) * ((4 : Int) - (p.2 % 4))) * sxE ((F[(min ((p.1 / 4).toNat + 1) (F.length - 1))])[((p.2 / 4).toNat)])))), (102, .v y255 ((((4 : Int) - (p.1 % 4)) * ((4 : Int) - (p.2 % 4))), (((4 : Int) - (p.1 % 4)) * (p.2 % 4)), ((p.1 % 4) * ((4 : Int) - (p.2 % 4))), ((p.1 % 4) * (p.2 % 4)))), (103, I (2 : Int))] ⟨rfl, rfl, rfl, rfl, trivial⟩ ?_
    refine VC.text ?_
    refine VO.c (.add rfl rfl (by decide)) ?_
    refine VO.c (.move rfl) ?_
    refine VO.nil ?_
    show VC _ _ _ _ _ _ _ _
    refine VC.unroll ?_
    refine VC.seq ?_
    refine VC.text ?_
    refine VO.c (.lss) ?_
    refine VO.go ?_
    refine VC.seq ?_
    refine VC.condT rfl ?_
    refine VC.skip ?_
    show VC _ _ _ _ _ _ _ _
    refine VC.seq ?_
    refine VC.block ?_
    refine VC.seq ?_
    refine VC.text ?_
    refine VO.c (.move rfl) ?_
    refine VO.c (.ixA 3 (τ' := (.int .i64)) (dy := ((p.1 % 4) * (p.2 % 4))) (.r (.r (.r .o)))) ?_
    refine VO.c (.assign rfl) ?_
    refine VO.c (.assign rfl) ?_
    refine VO.go ?_
    refine VC.text ?_
    refine VO.c (.move rfl) ?_
    refine VO.c (.move rfl) ?_
    refine VO.c (.move rfl) ?_
    refine VO.c (.ixV 3 (k := 3) (τ' := (.int .i64)) m0) ?_
    refine VO.r (.ldF (k := 3) m0 vt3) ?_
    refine VO.c (.mul rfl rfl (by first | exact pfit p1 | exact pfit p2 | exact pfit p3 | exact pfit p4)) ?_
    refine VO.c (.add rfl rfl (by exact ⟨by omega, by omega⟩)) ?_
    refine VO.c (.assign rfl) ?_
    refine VO.nil ?_
    show VC _ _ _ _ _ _ _ _
    refine VC.text ?_
    refine VO.c (.add rfl rfl (by decide)) ?_
    refine VO.c (.move rfl) ?_
    refine VO.nil ?_
    show VC _ _ _ _ _ _ _ _
    refine VC.unroll ?_
    refine VC.seq ?_
    refine VC.text ?_
    refine VO.c (.lss) ?_
    refine VO.go ?_
    refine VC.seq ?_
    refine VC.condF rfl ?_
    refine VC.exit ?_
    show VC _ _ _ _ _ _ _ _
    refine VC.seq ?_
    refine VC.text ?_
    refine VO.c (.move rfl) ?_
    refine VO.c (.assign rfl) ?_
    refine VO.go ?_
    refine VC.ret ?_
    exact VEnd.one rfl evT (pvI (by unfold atE; simp only [wid_D, ← g1, ← g2, ← g3, ← g4]; omega))
theorem sAt_ok {F : List (List Nat)} {p : Int × Int} (hF : OkF F) (hp : (0 ≤ p.1 ∧ p.1 ≤ 4 * ((F.length : Int) - 1)) ∧ (0 ≤ p.2 ∧ p.2 ≤ 4 * ((wid F : Int) - 1))) : VF Tryz.prog OA 137 [.v y101 F, .v y121 p] (I (atE F p)) := by
  refine VF.enter Tryz.func137 rfl (fun _ _ => rfl) rfl ?_
  show VC _ _ _ _ _ [(0, .v y101 F), (1, .v y121 p)] [] _
  have hq1 : p.1.tdiv 4 = (((p.1 / 4).toNat : Nat) : Int) := by rw [Int.tdiv_eq_ediv_of_nonneg hp.1.1]; omega
  have hq2 : p.2.tdiv 4 = (((p.2 / 4).toNat : Nat) : Int) := by rw [Int.tdiv_eq_ediv_of_nonneg hp.2.1]; omega
  have hm1 : p.1.tmod 4 = p.1 % 4 := Int.tmod_eq_emod_of_nonneg hp.1.1
  have hm2 : p.2.tmod 4 = p.2 % 4 := Int.tmod_eq_emod_of_nonneg hp.2.1
  have hpos := hF.pos
  have htop := hF.top
  have hwp := hF.wpos
  have hwt := hF.wtop
  have e0 := wid_eq hpos
  have hr1 : (p.1 / 4).toNat < F.length := by omega
  have hr2 : min ((p.1 / 4).toNat + 1) (F.length - 1) < F.length := by omega
  have hw1 := hF.row _ (List.getElem_mem hr1)
  have hw2 := hF.row _ (List.getElem_mem hr2)
  have hc1 : (p.2 / 4).toNat < wid F := by omega
  have hc2 : min ((p.2 / 4).toNat + 1) (wid F - 1) < wid F := by omega
  have hn1 : min ((((p.1 / 4).toNat : Nat) : Int) + (1 : Int)) (((F.length : Nat) : Int) - (1 : Int)) = ((min ((p.1 / 4).toNat + 1) (F.length - 1) : Nat) : Int) := by omega
  have hn2 : min ((((p.2 / 4).toNat : Nat) : Int) + (1 : Int)) ((((F[0]).length : Nat) : Int) - (1 : Int)) = ((min ((p.2 / 4).toNat + 1) (wid F - 1) : Nat) : Int) := by omega
  refine VC.seq ?_
  refine VC.text ?_
  refine VO.new (.box) ?_
  refine VO.c (.assign rfl) ?_
  refine VO.go ?_
  refine VC.seq ?_
  refine VC.drawn ?_
  refine VD.c (.fa (.l .o)) ?_
  refine VD.r [] (.ld vt3) (.inl rfl) ?_
  refine VD.c (.quo rfl rfl (by decide) (by omega)) ?_
  refine VD.c (.fa (.r .o)) ?_
  refine VD.r [] (.ld vt3) (.inl rfl) ?_
  refine VD.c (.quo rfl rfl (by decide) (by omega)) ?_
  refine VD.nw [] ?_
  refine VD.c (.fa (.l .o)) ?_
  refine VD.r [] (.ld vt3) (.inl rfl) ?_
  refine VD.c (.rem rfl rfl (by decide)) ?_
  refine VD.c (.fa (.r .o)) ?_
  refine VD.r [] (.ld vt3) (.inl rfl) ?_
  refine VD.c (.rem rfl rfl (by decide)) ?_
  refine VD.c (.assign rfl) ?_
  refine VD.nw [] ?_
  refine VD.c (.assign rfl) ?_
  refine VD.c (.assign rfl) ?_
  refine VD.c (.assign rfl) ?_
  rw [hq1, hq2, hm1, hm2]
  refine VD.go ?_
  refine VC.seq ?_
  refine VC.drawn ?_
  refine VD.c (.move rfl) ?_
  refine VD.c (.add rfl rfl (by omega)) ?_
  refine VD.c (.move rfl) ?_
  refine VD.r [] (.len el101) (.inl rfl) ?_
  refine VD.c (.sub rfl rfl (by omega)) ?_
  refine VD.r [] (.min) (.inl rfl) ?_
  refine VD.nw [] ?_
  refine VD.c (.move rfl) ?_
  refine VD.c (.add rfl rfl (by omega)) ?_
  refine VD.c (.move rfl) ?_
  refine VD.c (.ix (j := 0) rfl rfl el101 (by omega)) ?_
  refine VD.r [] (.ld vt124) (.inl rfl) ?_
  refine VD.r [] (.len el124) (.inl rfl) ?_
  refine VD.c (.sub rfl rfl (by omega)) ?_
  refine VD.nw [] ?_
  refine VD.r [] (.min) (.inl rfl) ?_
  refine VD.c (.assign rfl) ?_
  refine VD.c (.assign rfl) ?_
  rw [hn1, hn2]
  refine VD.go ?_
  refine VC.seq ?_
  refine VC.keep [(0, .v y101 F), (5, I (((p.1 / 4).toNat : Nat) : Int)), (6, I (((p.2 / 4).toNat : Nat) : Int)), (7, I (p.1 % 4)), (8, I (p.2 % 4)), (9, I (((min ((p.1 / 4).toNat + 1) (F.length - 1)) : Nat) : Int)), (10, I (((min ((p.2 / 4).toNat + 1) (wid F - 1)) : Nat) : Int))] ⟨rfl, rfl, rfl, rfl, rfl, rfl, rfl, trivial⟩ ?_
  refine VC.drawn ?_
  refine VD.c (.move rfl) ?_
  refine VD.c (.move rfl) ?_
  refine VD.c (.ix (j := ((p.1 / 4).toNat)) rfl rfl el101 (by omega)) ?_
  refine VD.r [] (.ld vt124) (.inl rfl) ?_
  refine VD.c (.move rfl) ?_
  refine VD.c (.ix (j := ((p.2 / 4).toNat)) rfl rfl el124 (by omega)) ?_
  refine VD.nw [] ?_
  refine VD.r [] (.ld vt127) (.inl rfl) ?_
  refine VD.call rfl rfl (VF.call (sSix_ok (lv_get hF hr1 (by omega)))) ?_
  refine VD.c (.move rfl) ?_
  refine VD.c (.move rfl) ?_
  refine VD.c (.ix (j := ((p.1 / 4).toNat)) rfl rfl el101 (by omega)) ?_
  refine VD.r [] (.ld vt124) (.inl rfl) ?_
  refine VD.c (.move rfl) ?_
  refine VD.nw [] ?_
  refine VD.c (.ix (j := (min ((p.2 / 4).toNat + 1) (wid F - 1))) rfl rfl el124 (by omega)) ?_
  refine VD.r [] (.ld vt127) (.inl rfl) ?_
  refine VD.call rfl rfl (VF.call (sSix_ok (lv_get hF hr1 (by omega)))) ?_
  refine VD.c (.move rfl) ?_
  refine VD.c (.move rfl) ?_
  refine VD.c (.ix (j := (min ((p.1 / 4).toNat + 1) (F.length - 1))) rfl rfl el101 (by omega)) ?_
  refine VD.r [] (.ld vt124) (.inl rfl) ?_
  refine VD.nw [] ?_
  refine VD.c (.move rfl) ?_
  refine VD.c (.ix (j := ((p.2 / 4).toNat)) rfl rfl el124 (by omega)) ?_
  refine VD.r [] (.ld vt127) (.inl rfl) ?_
  refine VD.call rfl rfl (VF.call (sSix_ok (lv_get hF hr2 (by omega)))) ?_
  refine VD.c (.move rfl) ?_
  refine VD.c (.move rfl) ?_
  refine VD.c (.ix (j := (min ((p.1 / 4).toNat + 1) (F.length - 1))) rfl rfl el101 (by omega)) ?_
  refine VD.nw [] ?_
  refine VD.r [] (.ld vt124) (.inl rfl) ?_
  refine VD.c (.move rfl) ?_
  refine VD.c (.ix (j := (min ((p.2 / 4).toNat + 1) (wid F - 1))) rfl rfl el124 (by omega)) ?_
  refine VD.r [] (.ld vt127) (.inl rfl) ?_
  refine VD.call rfl rfl (VF.call (sSix_ok (lv_get hF hr2 (by omega)))) ?_
  refine VD.c (.build (sxE ((F[((p.1 / 4).toNat)])[((p.2 / 4).toNat)]), sxE ((F[((p.1 / 4).toNat)])[(min ((p.2 / 4).toNat + 1) (wid F - 1))]), sxE ((F[(min ((p.1 / 4).toNat + 1) (F.length - 1))])[((p.2 / 4).toNat)]), sxE ((F[(min ((p.1 / 4).toNat + 1) (F.length - 1))])[(min ((p.2 / 4).toNat + 1) (wid F - 1))])) bt255) ?_
  refine VD.cell (.alloc zt255) ?_
  intro ww2
  refine VD.nw [11] ?_
  refine VD.mk0 (MakeV.setF (k := 0) vt255 .v (by decide) (.inr ⟨rfl, rfl⟩) rfl rfl) ?_
  rintro _ _ tl3 ⟨rfl, rfl⟩
  refine VD.go ?_
  refine VC.keep [(7, I (p.1 % 4)), (8, I (p.2 % 4)), (11, .raw ww2)] ⟨rfl, rfl, rfl, trivial⟩ ?_
  exact sAt_ok_c4 (F := F) (p := p) hF hr1 hr2 hw1 hw2 hc1 hc2
end Go.Proofs
namespace Go.Proofs
open Go.Fs Ieee
set_option linter.unusedVariables false
theorem vt117 : ValT Tryz.prog 117 y117 := valT_of (by kernel_rfl)
theorem vt121 : ValT Tryz.prog 121 y121 := valT_of (by kernel_rfl)
def rowS (F : List (List Nat)) (p : Int × Int) (r c : Nat) : Int := sumR c fun k => wtE p.1 r * wtE p.2 k * sxF F r k
def colS (F : List (List Nat)) (p : Int × Int) (r : Nat) : Int := sumR r fun i => rowS F p i (F.getD i []).length
theorem sumF_col {F : List (List Nat)} {p : Int × Int} : sumF F p = colS F p F.length := rfl
theorem abs_pos (n : Int) : 0 ≤ absI n := by unfold absI; split <;> omega
theorem wt_range (p : Int) (r : Nat) : 0 ≤ wtE p r ∧ wtE p r ≤ 4 := by
  have := abs_pos (p - 4 * (r : Int))
  unfold wtE; split <;> omega
theorem wt_in {p : Int} {r : Nat} (h : absI (p - 4 * (r : Int)) < 4) : wtE p r = 4 - absI (p - 4 * (r : Int)) := by
  unfold wtE; rw [if_pos h]
theorem len_D {F : List (List Nat)} {r : Nat} (hr : r < F.length) : (F.getD r []).length = F[r].length := by
  rw [List.getD_eq_getElem?_getD, List.getElem?_eq_getElem hr, Option.getD_some]
theorem term_b {F : List (List Nat)} (hF : OkF F) {p : Int × Int} {r c : Nat} (hr : r < F.length) (hc : c < F[r].length) : -16384 ≤ wtE p.1 r * wtE p.2 c * sxF F r c ∧ wtE p.1 r * wtE p.2 c * sxF F r c ≤ 16384 := by
  rw [← sxF_get hr hc]
  exact wprod (wt_range _ _) (wt_range _ _) (sx_bound hF hr hc)
theorem rowS_b {F : List (List Nat)} (hF : OkF F) {p : Int × Int} {r : Nat} (hr : r < F.length) : ∀ {c : Nat}, c ≤ F[r].length → -(16384 * (c : Int)) ≤ rowS F p r c ∧ rowS F p r c ≤ 16384 * (c : Int)
  | 0, _ => by simp [rowS, sumR]
  | c + 1, h => by
    have h1 := rowS_b hF (p := p) hr (c := c) (by omega)
    have h2 := term_b hF (p := p) hr (c := c) (by omega)
    have h3 : rowS F p r (c + 1) = rowS F p r c + wtE p.1 r * wtE p.2 c * sxF F r c := rfl
    rw [h3]; omega
theorem colS_b {F : List (List Nat)} (hF : OkF F) {p : Int × Int} : ∀ {r : Nat}, r ≤ F.length → -(131072 * (r : Int)) ≤ colS F p r ∧ colS F p r ≤ 131072 * (r : Int)
  | 0, _ => by simp [colS, sumR]
  | r + 1, h => by
    have h1 := colS_b hF (p := p) (r := r) (by omega)
    have hr : r < F.length := by omega
    have h2 := rowS_b hF (p := p) hr (Nat.le_refl _)
    have h3 : colS F p (r + 1) = colS F p r + rowS F p r (F.getD r []).length := rfl
    have h4 := hF.row _ (List.getElem_mem hr)
    have h5 := hF.wtop
    rw [h3, len_D hr]; omega
theorem wt_out {p : Int × Int} {r c : Nat} {s : Int} (h : ¬ (absI (p.1 - 4 * (r : Int)) < 4 ∧ absI (p.2 - 4 * (c : Int)) < 4)) : wtE p.1 r * wtE p.2 c * s = 0 := by
  by_cases h1 : absI (p.1 - 4 * (r : Int)) < 4
  · rw [wt_far (p := p.2) (r := c) (by omega), Int.mul_zero, Int.zero_mul]
  · rw [wt_far (p := p.1) (r := r) (by omega), Int.zero_mul, Int.zero_mul]
theorem rAt_ok {F : List (List Nat)} {p : Int × Int} (hF : OkF F) (hp : (0 ≤ p.1 ∧ p.1 ≤ 4 * ((F.length : Int) - 1)) ∧ (0 ≤ p.2 ∧ p.2 ≤ 4 * ((wid F : Int) - 1))) : VF Tryz.prog OA 66 [.v y101 F, .v y117 p] (I (atE F p)) := by
  refine VF.enter Tryz.func66 rfl (fun _ _ => rfl) rfl ?_
  show VC _ _ _ _ _ [(0, .v y101 F), (1, .v y117 p)] [] _
  have hpos := hF.pos
  have htop := hF.top
  have hwp := hF.wpos
  have hwt := hF.wtop
  refine VC.seq ?_
  refine VC.text ?_
  refine VO.new (.box) ?_
  refine VO.c (.assign rfl) ?_
  refine VO.go ?_
  refine VC.seq ?_
  refine VC.text ?_
  refine VO.c (.assign rfl) ?_
  refine VO.go ?_
  refine VC.seq ?_
  refine VC.seq ?_
  refine VC.text ?_
  refine VO.c (.assign rfl) ?_
  refine VO.go ?_
  refine VC.block ?_
  refine VC.keep [(0, .v y101 F), (3, .p y117 p), (5, I (colS F p 0)), (6, I ((0 : Nat) : Int))] ⟨rfl, rfl, slI rfl (by rfl), rfl, trivial⟩ ?_
  refine VC.loop (I := fun kk ff ss => ∃ (r : Nat), kk = F.length - r ∧ ff = [(0, .v y101 F), (3, .p y117 p), (5, I (colS F p r)), (6, I ((r : Nat) : Int))] ∧ ss = [] ∧ (r ≤ F.length)) ?_ _ _ _ ⟨0, rfl, rfl, rfl, Nat.zero_le _⟩
  rintro kk ff ss ⟨r, hk0, rfl, rfl, hr⟩
  refine VC.seq ?_
  refine VC.seq ?_
  refine VC.text ?_
  refine VO.c (.move rfl) ?_
  refine VO.c (.move rfl) ?_
  refine VO.r (.len el101) ?_
  refine VO.c (.lss) ?_
  refine VO.go ?_
  refine VC.condD rfl (fun c3 => ?_) (fun c3 => ?_)
  · refine VC.skip ?_
    show VC _ _ _ _ _ _ _ _
    refine VC.seq ?_
    refine VC.block ?_
    refine VC.seq ?_
    refine VC.text ?_
    have hrr : r < F.length := by omega
    have hw := hF.row _ (List.getElem_mem hrr)
    refine VO.c (.assign rfl) ?_
    refine VO.go ?_
    refine VC.block ?_
    refine VC.keep [(0, .v y101 F), (3, .p y117 p), (5, I (colS F p r + rowS F p r 0)), (6, I ((r : Nat) : Int)), (7, I ((0 : Nat) : Int))] ⟨rfl, rfl, slI rfl (by simp [rowS, sumR]), rfl, rfl, trivial⟩ ?_
    refine VC.loop (I := fun kk ff ss => ∃ (c : Nat), kk = F[r].length - c ∧ ff = [(0, .v y101 F), (3, .p y117 p), (5, I (colS F p r + rowS F p r c)), (6, I ((r : Nat) : Int)), (7, I ((c : Nat) : Int))] ∧ ss = [] ∧ (c ≤ F[r].length)) ?_ _ _ _ ⟨0, rfl, rfl, rfl, (by omega)⟩
    rintro kk ff ss ⟨c, hk2, rfl, rfl, hc⟩
    refine VC.seq ?_
    refine VC.seq ?_
    refine VC.text ?_
    refine VO.c (.move rfl) ?_
    refine VO.c (.move rfl) ?_
    refine VO.c (.move rfl) ?_
    refine VO.c (.ix (j := r) rfl rfl el101 (by omega)) ?_
    refine VO.r (.ld vt124) ?_
    refine VO.r (.len el124) ?_
    refine VO.c (.lss) ?_
    refine VO.go ?_
    refine VC.condD rfl (fun c6 => ?_) (fun c6 => ?_)
    · refine VC.skip ?_
      show VC _ _ _ _ _ _ _ _
      refine VC.seq ?_
      refine VC.block ?_
      refine VC.seq ?_
      refine VC.drawn ?_
      have hcc : c < F[r].length := by omega
      refine VD.c (.fa (.l .o)) ?_
      refine VD.r [] (.ld vt3) (.inl rfl) ?_
      refine VD.c (.move rfl) ?_
      refine VD.c (.mul rfl rfl (by omega)) ?_
      refine VD.c (.sub rfl rfl (by omega)) ?_
      refine VD.c (.fa (.r .o)) ?_
      refine VD.nw [] ?_
      refine VD.r [] (.ld vt3) (.inl rfl) ?_
      refine VD.c (.move rfl) ?_
      refine VD.c (.mul rfl rfl (by omega)) ?_
      refine VD.c (.sub rfl rfl (by omega)) ?_
      refine VD.c (.assign rfl) ?_
      refine VD.c (.assign rfl) ?_
      refine VD.go ?_
      refine VC.seq ?_
      refine VC.seq ?_
      refine VC.text ?_
      refine VO.c (.move rfl) ?_
      refine VO.c (.lss) ?_
      refine VO.go ?_
      refine VC.join [(0, .v y101 F), (3, .p y117 p), (5, I (colS F p r + rowS F p r c)), (6, I ((r : Nat) : Int)), (7, I ((c : Nat) : Int)), (8, I (absI (p.1 - 4 * (r : Int)))), (9, I (p.2 - ((4 : Int) * ((c : Nat) : Int))))] [] ?_ ?_
      refine VC.condD rfl (fun c9 => ?_) (fun c9 => ?_)
      · refine VC.text ?_
        refine VO.c (.move rfl) ?_
        refine VO.c (.sub rfl rfl (by omega)) ?_
        refine VO.c (.assign rfl) ?_
        refine VO.nil ?_
        exact ⟨⟨rfl, rfl, rfl, rfl, rfl, slI rfl (by first | (unfold absI; rw [if_pos c9]) | (unfold absI; rw [if_neg c9])), rfl, trivial⟩, rfl⟩
      · refine VC.skip ?_
        exact ⟨⟨rfl, rfl, rfl, rfl, rfl, slI rfl (by first | (unfold absI; rw [if_pos c9]) | (unfold absI; rw [if_neg c9])), rfl, trivial⟩, rfl⟩
      show VC _ _ _ _ _ _ _ _
      refine VC.seq ?_
      refine VC.seq ?_
      refine VC.text ?_
      refine VO.c (.move rfl) ?_
      refine VO.c (.lss) ?_
      refine VO.go ?_
      refine VC.join [(0, .v y101 F), (3, .p y117 p), (5, I (colS F p r + rowS F p r c)), (6, I ((r : Nat) : Int)), (7, I ((c : Nat) : Int)), (8, I (absI (p.1 - 4 * (r : Int)))), (9, I (absI (p.2 - 4 * (c : Int))))] [] ?_ ?_
      refine VC.condD rfl (fun c11 => ?_) (fun c11 => ?_)
      · refine VC.text ?_
        refine VO.c (.move rfl) ?_
        refine VO.c (.sub rfl rfl (by omega)) ?_
        refine VO.c (.assign rfl) ?_
        refine VO.nil ?_
        exact ⟨⟨rfl, rfl, rfl, rfl, rfl, rfl, slI rfl (by first | (unfold absI; rw [if_pos c11]) | (unfold absI; rw [if_neg c11])), trivial⟩, rfl⟩
      · refine VC.skip ?_
        exact ⟨⟨rfl, rfl, rfl, rfl, rfl, rfl, slI rfl (by first | (unfold absI; rw [if_pos c11]) | (unfold absI; rw [if_neg c11])), trivial⟩, rfl⟩
      show VC _ _ _ _ _ _ _ _
      refine VC.seq ?_
      refine VC.text ?_
      refine VO.c (.move rfl) ?_
      refine VO.c (.lss) ?_
      refine VO.c (.move rfl) ?_
      refine VO.cg (r := decide (absI (p.1 - 4 * (r : Int)) < (4 : Int))) (w := true) [] trivial (fun hgd => have g13_2 : absI (p.1 - 4 * (r : Int)) < (4 : Int) := (by simpa using hgd); (.move rfl)) ?_
      refine VO.cg (r := decide (absI (p.1 - 4 * (r : Int)) < (4 : Int))) (w := true) [(46, I (absI (p.2 - 4 * (c : Int))))] ⟨rfl, trivial⟩ (fun hgd => have g13_2 : absI (p.1 - 4 * (r : Int)) < (4 : Int) := (by simpa using hgd); (.lss)) ?_
      refine VO.c (.and) ?_
      refine VO.go ?_
      refine VC.condB rfl (fun c13 => ?_) (fun c13 => ?_)
      · try simp only [Bool.and_eq_true, Bool.or_eq_true, Bool.and_eq_false_iff, Bool.or_eq_false_iff, Bool.not_eq_true', Bool.not_eq_false', decide_eq_true_eq, decide_eq_false_iff_not] at c13
        refine VC.text ?_
        have ha1 := abs_pos (p.1 - 4 * (r : Int))
        have ha2 := abs_pos (p.2 - 4 * (c : Int))
        have hb1 := rowS_b hF (p := p) hrr (c := c) (by omega)
        have hb2 := colS_b hF (p := p) (r := r) (by omega)
        have k1 := sx_bound hF hrr hcc
        have q1 := wprod (show 0 ≤ 4 - absI (p.1 - 4 * (r : Int)) ∧ 4 - absI (p.1 - 4 * (r : Int)) ≤ 4 by omega) (show 0 ≤ 4 - absI (p.2 - 4 * (c : Int)) ∧ 4 - absI (p.2 - 4 * (c : Int)) ≤ 4 by omega) k1
        refine VO.c (.move rfl) ?_
        refine VO.c (.move rfl) ?_
        refine VO.c (.sub rfl rfl (by omega)) ?_
        refine VO.c (.move rfl) ?_
        refine VO.c (.sub rfl rfl (by omega)) ?_
        refine VO.c (.mul rfl rfl (by exact wfit (by omega) (by omega))) ?_
        refine VO.c (.move rfl) ?_
        refine VO.c (.move rfl) ?_
        refine VO.c (.ix (j := r) rfl rfl el101 (by omega)) ?_
        refine VO.r (.ld vt124) ?_
        refine VO.c (.move rfl) ?_
        refine VO.c (.ix (j := c) rfl rfl el124 (by omega)) ?_
        refine VO.r (.ld vt127) ?_
        refine VO.call rfl rfl (VF.call (rSix_ok (lv_get hF hrr hcc))) ?_
        refine VO.c (.mul rfl rfl (by exact pfit q1)) ?_
        refine VO.c (.add rfl rfl (by exact ⟨by omega, by omega⟩)) ?_
        refine VO.c (.assign rfl) ?_
        refine VO.nil ?_
        show VC _ _ _ _ _ _ _ _
        refine VC.keep [(0, .v y101 F), (3, .p y117 p), (5, I ((colS F p r + rowS F p r c) + ((((4 : Int) - absI (p.1 - 4 * (r : Int))) * ((4 : Int) - absI (p.2 - 4 * (c : Int)))) * sxE ((F[r])[c])))), (6, I ((r : Nat) : Int)), (7, I ((c : Nat) : Int))] ⟨rfl, rfl, rfl, rfl, rfl, trivial⟩ ?_
        refine VC.text ?_
        refine VO.c (.move rfl) ?_
        refine VO.c (.add rfl rfl (by omega)) ?_
        refine VO.c (.assign rfl) ?_
        refine VO.nil ?_
        refine ⟨_, [(0, .v y101 F), (3, .p y117 p), (5, I (colS F p r + rowS F p r (c + 1))), (6, I ((r : Nat) : Int)), (7, I (((c + 1) : Nat) : Int))], ?_, ⟨rfl, rfl, slI rfl (by first | (rw [Int.add_assoc]; congr 1; show rowS F p r c + _ = rowS F p r c + wtE p.1 r * wtE p.2 c * sxF F r c; congr 1; rw [wt_in c13.1, wt_in c13.2, sxF_get hrr hcc]) | (congr 1; show rowS F p r c = rowS F p r c + wtE p.1 r * wtE p.2 c * sxF F r c; rw [wt_out (by omega), Int.add_zero])), rfl, rfl, trivial⟩, (c + 1), rfl, rfl, rfl, (by omega)⟩
        omega
      · try simp only [Bool.and_eq_true, Bool.or_eq_true, Bool.and_eq_false_iff, Bool.or_eq_false_iff, Bool.not_eq_true', Bool.not_eq_false', decide_eq_true_eq, decide_eq_false_iff_not] at c13
        refine VC.skip ?_
        show VC _ _ _ _ _ _ _ _
        refine VC.text ?_
        refine VO.c (.move rfl) ?_
        refine VO.c (.add rfl rfl (by omega)) ?_
        refine VO.c (.assign rfl) ?_
        refine VO.nil ?_
        refine ⟨_, [(0, .v y101 F), (3, .p y117 p), (5, I (colS F p r + rowS F p r (c + 1))), (6, I ((r : Nat) : Int)), (7, I (((c + 1) : Nat) : Int))], ?_, ⟨rfl, rfl, slI rfl (by first | (rw [Int.add_assoc]; congr 1; show rowS F p r c + _ = rowS F p r c + wtE p.1 r * wtE p.2 c * sxF F r c; congr 1; rw [wt_in c13.1, wt_in c13.2, sxF_get hrr hcc]) | (congr 1; show rowS F p r c = rowS F p r c + wtE p.1 r * wtE p.2 c * sxF F r c; rw [wt_out (by omega), Int.add_zero])), rfl, rfl, trivial⟩, (c + 1), rfl, rfl, rfl, (by omega)⟩
        omega
    · refine VC.exit ?_
      show VC _ _ _ _ _ _ _ _
      refine VC.text ?_
      refine VO.c (.move rfl) ?_
      refine VO.c (.add rfl rfl (by omega)) ?_
      refine VO.c (.assign rfl) ?_
      refine VO.nil ?_
      refine ⟨_, [(0, .v y101 F), (3, .p y117 p), (5, I (colS F p (r + 1))), (6, I (((r + 1) : Nat) : Int))], ?_, ⟨rfl, rfl, slI rfl (by show colS F p r + rowS F p r c = colS F p r + rowS F p r (F.getD r []).length; rw [len_D (by omega), show c = F[r].length by omega]), rfl, trivial⟩, (r + 1), rfl, rfl, rfl, (by omega)⟩
      omega
  · refine VC.exit ?_
    show VC _ _ _ _ _ _ _ _
    refine VC.seq ?_
    refine VC.text ?_
    refine VO.c (.move rfl) ?_
    refine VO.c (.assign rfl) ?_
    refine VO.go ?_
    refine VC.ret ?_
    exact VEnd.one rfl evT (pvI (by rw [← sum_at (F := F) (p := p) (fun l m => by rw [wid_D]; exact hF.row l m) hp.1 (by rw [wid_D]; exact hp.2), sumF_col, show F.length = r by omega]))
def shortFE (F : List (List Nat)) : Bool := decide (F.length ≤ 9 ∧ ∀ r ∈ F, r.length ≤ 9)
def atB (F : List (List Nat)) (p : Int × Int) : Int := if fieldE F ≠ 0 then fieldE F else placeE p F.length (wid F)
def atR (F : List (List Nat)) (p : Int × Int) : Int := if atB F p = 0 then atE F p else 0
end Go.Proofs
namespace Go.Proofs
open Go.Fs Ieee
/-! ## Raised levels -/
def upW (x : Nat) : Nat := (single.add x 1065353216).getD 0
structure SmF (F : List (List Nat)) : Prop where
  ok : OkF F
  top : F.length ≤ 4
  wtop : wid F ≤ 4
  low : ∀ r ∈ F, ∀ x ∈ r, -960 ≤ sxE x ∧ sxE x ≤ 960
def upF (F : List (List Nat)) : List (List Nat) := F.map fun r => r.map upW
/-! ## Lines -/
def lineE (f : Nat → Int) (n : Nat) (q : Int) : Int := (4 - q % 4) * f (q / 4).toNat + q % 4 * f (min ((q / 4).toNat + 1) (n - 1))
/-! ## The four laws -/
abbrev InF (F : List (List Nat)) (p : Int × Int) : Prop := (0 ≤ p.1 ∧ p.1 ≤ 4 * ((F.length : Int) - 1)) ∧ (0 ≤ p.2 ∧ p.2 ≤ 4 * ((wid F : Int) - 1))
end Go.Proofs
namespace Go.Proofs
open Go.Fs Ieee
set_option linter.unusedVariables false
end Go.Proofs
namespace Go.Fs
end Go.Fs
namespace Go.Proofs
open Go.Fs Ieee
end Go.Proofs
namespace Go.Fs
variable {P : Program} {orc : FuncId → List Value → Heap → Option (Value × Heap)} {rnd : Option Nat} {h h' h0 h1 h2 : Heap} {S S' S0 B G : List Nat} {σ σ' : Sto} {t t' : Tr} {ms : List Nat} {fl nw : VL} {ops : Array Oper} {n : Nat} {l : List Oper} {K : VL → Sto → Prop} {Q : Ex → VL → Sto → Prop}
  {d : Tmp} {ty : TypeId} {pos : String} {after : Array Edge} {op : Op} {v pv : PV} {g : Option (Nat × Bool)} {x y z : Operand} {T T' e : TypeId} {w : Value} {s : ByteArray} {p : Nat}

/-! ## Strings, rune by rune -/
theorem FreshO.rng (hT : P.underlying T = some .string := by kernel_rfl) (hx : evV fl x = some (.v .str s) := by rfl) : FreshO P fl (.range T x) (.it s 0) :=
  ⟨rfl, fun h S t hs hok hS => by
    have hv : evalO t x = .string s := RepV.str (hs x (by simp [Op.operands]) _ hx : RepV h S .str _ s)
    refine ⟨fun k => .pointer (some ⟨k, 0, none⟩), .iter s 0, fun _ => rfl, fun S' hN hm => ⟨h.next, rfl, hm, by rw [Heap.get_push, if_pos rfl]⟩, fun H _ _ _ _ _ => ?_⟩
    show fsRange P T (evalO t x) H = _
    rw [hv]
    simp [fsRange, hT]⟩
theorem MakeV.nextT (hp : p < s.size) (hx : evV fl x = some (.raw w)) : MakeV P fl ((w, .it s p) :: σ) (.next x true) fun v σ' => v = .tup [.v .bool true, .v (.int .i64) ((p : Nat) : Int), .v (.int .i32) (((Utf8.decode s p).1 : Nat) : Int)] ∧ σ' = (w, .it s (p + (Utf8.decode s p).2)) :: σ :=
  ⟨rfl, fun S0 h t L => by
    have h1 : evalO t x = w := evV_ok L.slots hx
    obtain ⟨b, h3, h4, hg⟩ := L.cells _ List.mem_cons_self
    have hw : w = .pointer (some ⟨b, 0, none⟩) := h3
    have hbk : blk w = [b] := by rw [hw]; rfl
    refine ⟨.tuple #[.bool true, .int .i64 ((p : Nat) : Int), .int .i32 (((Utf8.decode s p).1 : Nat) : Int)], h.set b (.iter s (p + (Utf8.decode s p).2)), _, _, ⟨rfl, rfl⟩, Made.head L (Aft.set hg (by rw [hbk]; simp)) (fun b hb => .inl hb) (by rw [hbk]; simp) fun hN => ?_, ?_, fun _ _ _ _ _ => ?_⟩
    · refine ⟨b, h3, ?_, by rw [Heap.get_set hg, if_pos rfl]⟩
      rw [own_cons]; exact List.mem_append_left _ (List.mem_append_left _ (by rw [hbk]; simp))
    · exact ⟨_, rfl, _, _, rfl, RepV.ofBool _, _, _, rfl, RepV.ofInt _ _, _, _, rfl, RepV.ofInt _ _, rfl⟩
    · show fsNext (evalO t x) true h = _
      rw [h1, hw]
      simp [fsNext, hg, hp]⟩
theorem MakeV.nextF (hp : ¬ p < s.size) (hx : evV fl x = some (.raw w)) : MakeV P fl ((w, .it s p) :: σ) (.next x true) fun v σ' => v = .tup [.v .bool false] ∧ σ' = (w, .it s p) :: σ :=
  ⟨rfl, fun S0 h t L => by
    have h1 : evalO t x = w := evV_ok L.slots hx
    obtain ⟨b, h3, h4, hg⟩ := L.cells _ List.mem_cons_self
    have hw : w = .pointer (some ⟨b, 0, none⟩) := h3
    refine ⟨.tuple #[.bool false], h, _, _, ⟨rfl, rfl⟩, Made.same L (Aft.refl h []), ⟨_, rfl, _, _, rfl, RepV.ofBool _, rfl⟩, fun _ _ _ _ _ => ?_⟩
    show fsNext (evalO t x) true h = _
    rw [h1, hw]
    simp [fsNext, hg, hp]⟩
theorem VO.next (hx : evV fl x = some (.raw w)) (h1 : p < s.size → VO P orc ops n l ((d, .tup [.v .bool true, .v (.int .i64) ((p : Nat) : Int), .v (.int .i32) (((Utf8.decode s p).1 : Nat) : Int)]) :: fl) ((w, .it s (p + (Utf8.decode s p).2)) :: σ) K) (h2 : ¬ p < s.size → VO P orc ops n l ((d, .tup [.v .bool false]) :: fl) ((w, .it s p) :: σ) K)
    (hw : wantV ops fl g = some true := by rfl) (hn : (Nat.blt d n && Nat.ble n 4000) = true := by rfl) : VO P orc ops n (⟨some d, .next x true, ty, pos, after, g⟩ :: l) fl ((w, .it s p) :: σ) K := by
  by_cases hp : p < s.size
  · exact VO.mk (MakeV.nextT hp hx) (by rintro _ _ ⟨rfl, rfl⟩; exact h1 hp) hw hn
  · exact VO.mk (MakeV.nextF hp hx) (by rintro _ _ ⟨rfl, rfl⟩; exact h2 hp) hw hn
theorem CalmV.ext0 {b : Bool} (hx : evV fl x = some (.tup [.v .bool b]) := by rfl) : CalmV P fl σ (.extract x 0) (.v .bool b) := ⟨rfl, fun h S t hs _ => by
  obtain ⟨us, h1, u, r, rfl, h2, h3⟩ := (hs x (by simp [Op.operands]) _ hx : RepPV h S (.tup [.v .bool b]) _)
  obtain rfl : r = [] := h3
  have hu : u = .bool b := RepV.bool h2
  subst hu
  refine ⟨.bool b, RepV.ofBool _, fun _ _ _ _ _ H => ?_⟩
  show (bif isJunk (evalO t x) then none else (runPure P (Instr.extract (evalO t x) 0)).map _) = _
  rw [h1]
  have hj : isJunk (.tuple [Value.bool b].toArray) = false := rfl
  rw [hj]
  rfl⟩
theorem decode_low {i : Nat} (h : (s.get! i).toNat < 128) : Utf8.decode s i = ((s.get! i).toNat, 1) := by
  unfold Utf8.decode
  simp only [Nat.add_zero]
  rw [if_pos h]
theorem decode_high {i : Nat} (h : ¬ (s.get! i).toNat < 128) : 128 ≤ (Utf8.decode s i).1 := by
  unfold Utf8.decode
  simp only [Nat.add_zero]
  rw [if_neg h]
  have hr : 128 ≤ Utf8.runeError := by decide
  split
  · split
    · assumption
    · exact hr
  · split
    · split
      · rename_i hc
        have := (Bool.and_eq_true .. ▸ hc : _ ∧ _).1
        have := of_decide_eq_true this
        simp only; omega
      · exact hr
    · split
      · split
        · rename_i hc
          have := (Bool.and_eq_true .. ▸ hc : _ ∧ _).1
          have := of_decide_eq_true this
          simp only; omega
        · exact hr
      · exact hr

/-! ## Guards of guarded operations -/
structure GdT (ops : Array Oper) (fl : VL) (g : Option (Nat × Bool)) (b : Bool) : Prop where
  want : ∀ {h : Heap} {S : List Nat} {t : Tr}, Slots h S t fl → ∀ o : Oper, o.guard = g → fsWanted ops t o = some b
def SubH (fl nw : VL) : Prop := ∀ (h : Heap) (S : List Nat) (t : Tr), Slots h S t fl → Slots h S t (nw ++ fl)
end Go.Fs
namespace Go.Fs
instance : DecidableEq (Ty.den .str) := inferInstanceAs (DecidableEq ByteArray)
instance {k : IntKind} : DecidableEq (Ty.den (.int k)) := inferInstanceAs (DecidableEq Int)
instance : DecidableEq (Ty.den .bool) := inferInstanceAs (DecidableEq Bool)
instance {a b : Ty} [DecidableEq a.den] [DecidableEq b.den] : DecidableEq (Ty.den (.pair a b)) := inferInstanceAs (DecidableEq (a.den × b.den))
variable {P : Program} {orc : FuncId → List Value → Heap → Option (Value × Heap)} {fl : VL} {σ γ : Sto} {T : TypeId} {τ : Ty}
theorem repL_raw {h : Heap} {S : List Nat} : ∀ (us : List Value), RepL h S (us.map PV.raw) us
  | [] => rfl
  | u :: r => ⟨u, r, rfl, rfl, repL_raw r⟩
theorem CalmV.buildA {pl : List (Nat × Nat)} {parts : Array (Nat × Operand)} {zs : List Value} {ps cs : List PV} (hT : BldT P T τ pl) (hz : zeroC τ = zs := by rfl) (hps : evVs fl (parts.toList.map (·.2)) = some ps := by rfl) (hb : bldL pl (zs.map .raw) (parts.toList.map (·.1)) ps = some cs := by rfl) : CalmV P fl σ (.build T parts) (.agg cs) :=
  ⟨rfl, fun h S t hs _ => by
    obtain ⟨z, z1, z2, z3⟩ := hT.zer.zero
    obtain ⟨y1, y2⟩ := zero_rep h S τ
    have hr : RepL h S ps ((parts.toList.map (·.2)).map (evalO t)) := sees_list (fun x hx => hs x (by simpa [Op.operands] using hx)) hps
    obtain ⟨cs', f1, f2, f3, f4⟩ := fill_bld hb hr (show RepL h S (zs.map .raw) (zeroC τ) from by rw [hz]; exact repL_raw zs) (af0_one y2)
    refine ⟨.agg cs'.toArray, ⟨cs', rfl, f2⟩, fun _ _ _ _ _ H => ?_⟩
    show (bif (parts.toList.all fun p => (evalO t p.2).cells.toList.all oneCell) && ((((P.info? T).bind (·.zero)).map fun z => z.cells.toList.all af0) == some true) then (runPure P (Instr.build T (parts.map fun p => (p.1, evalO t p.2)))).map fun v => (v, H) else none) = _
    have c1 : (parts.toList.all fun p => (evalO t p.2).cells.toList.all oneCell) = true := by
      rw [List.map_map, List.all_map] at f3
      exact f3
    have c2 : ((((P.info? T).bind (·.zero)).map fun z => z.cells.toList.all af0) == some true) = true := by
      rw [z1]
      have e : z.cells.toList.all af0 = true := by rw [z2]; exact y2
      simp only [Option.map_some, e]; rfl
    have hrun := hT.run z (parts.map fun p => (p.1, evalO t p.2)) cs'.toArray z1 (by
      rw [← f1, Array.toList_map, ← zip_map, List.map_map]
      congr 1
      rw [← z2])
    rw [c1, c2, hrun]
    rfl⟩
def byteE (s : ByteArray) (i : Int) : Int := (((s.get! i.toNat).toNat : Nat) : Int)
theorem byteE_nat (s : ByteArray) (i : Nat) : byteE s i = (((s.get! i).toNat : Nat) : Int) := rfl
theorem CalmV.ixS {x y : Operand} {s : ByteArray} {i : Int} (hx : evV fl x = some (.v .str s)) (hy : evV fl y = some (.v (.int .i64) i)) (h0 : 0 ≤ i) (h1 : i < (s.size : Nat)) (hT : P.underlying T = some .string := by kernel_rfl) : CalmV P fl σ (.index T x y) (.v (.int .u8) (byteE s i)) :=
  ⟨rfl, fun h S t hq _ => by
    have hv : evalO t x = .string s := RepV.str (hq x (by simp [Op.operands]) _ hx : RepV h S .str _ s)
    have hi : evalO t y = .int .i64 i := RepV.int (hq y (by simp [Op.operands]) _ hy : RepV h S (.int .i64) _ i)
    refine ⟨.int .u8 (byteE s i), RepV.ofInt _ _, fun _ _ _ _ _ H => ?_⟩
    show (if af (evalO t y) then (runPure P (Instr.index T (evalO t x) (evalO t y))).map _ else none) = _
    rw [hi, hv, if_pos (show af (Value.int .i64 i) = true from rfl)]
    have hb : i.toNat < s.size := by omega
    have h8 : s[i.toNat]? = some (s.get! i.toNat) := by
      rw [getElem?_pos s i.toNat hb]
      congr 1
      show s.data[i.toNat] = s.data[i.toNat]!
      rw [getElem!_pos s.data i.toNat hb]
    have h9 : runPure P (Instr.index T (.string s) (.int .i64 i)) = some (.int .u8 (byteE s i)) := by
      unfold Instr.index
      simp only [runPure_bind, asIntOf, runPure_pure, Option.bind_some, runPure_underlying hT, if_pos h0, h8]
      rfl
    rw [h9]; rfl⟩
end Go.Fs
namespace Go.Proofs
open Go.Fs Ieee
set_option linter.unusedVariables false

/-! ## Names -/
def letterB (c : Int) : Bool := decide (65 ≤ c ∧ c ≤ 90 ∨ 97 ≤ c ∧ c ≤ 122)
def otherB (c : Int) : Bool := decide (48 ≤ c ∧ c ≤ 57 ∨ c = 95)
def byteB (c : Int) (i : Nat) : Bool := letterB c || (decide (i ≠ 0) && otherB c)
def nameB (s : ByteArray) : Bool := decide (s.size ≠ 0 ∧ s.size ≤ 24 ∧ ∀ i, i < s.size → byteB (byteE s i) i = true)
theorem nameB_f {s : ByteArray} {i : Nat} (hi : i < s.size) (h : byteB (byteE s i) i = false) : false = nameB s := by
  refine (decide_eq_false fun hh => ?_).symm
  rw [hh.2.2 i hi] at h; cases h
theorem nameB_t {s : ByteArray} (h1 : s.size ≠ 0) (h2 : s.size ≤ 24) (h : ∀ i, i < s.size → byteB (byteE s i) i = true) : true = nameB s := (decide_eq_true ⟨h1, h2, h⟩).symm
theorem size_empty {s : ByteArray} : s ≠ ByteArray.empty ↔ s.size ≠ 0 := by
  constructor
  · intro h e
    exact h (ByteArray.ext (Array.eq_empty_of_size_eq_zero e))
  · rintro h rfl; exact h rfl
theorem byteB_high {c : Int} {i : Nat} (h : 128 ≤ c) : byteB c i = false := by
  have h1 : letterB c = false := decide_eq_false (by omega)
  have h2 : otherB c = false := decide_eq_false (by omega)
  rw [byteB, h1, h2]; simp
theorem rune_f {s : ByteArray} {p : Nat} (h : byteB ((Utf8.decode s p).1 : Nat) p = false) : byteB (byteE s p) p = false := by
  by_cases hl : (s.get! p).toNat < 128
  · rw [decode_low hl] at h; exact h
  · exact byteB_high (by rw [byteE_nat]; omega)
theorem rune_t {s : ByteArray} {p : Nat} (h : byteB ((Utf8.decode s p).1 : Nat) p = true) : byteB (byteE s p) p = true ∧ (Utf8.decode s p).2 = 1 := by
  by_cases hl : (s.get! p).toNat < 128
  · rw [decode_low hl] at h ⊢; exact ⟨h, rfl⟩
  · have := decode_high hl
    rw [byteB_high (by omega)] at h; cases h
theorem name_end {s : ByteArray} (h : ∀ i, i < s.size → byteB (byteE s i) i = true) : (decide (s ≠ ByteArray.empty) && decide (((s.size : Nat) : Int) ≤ 24)) = nameB s := by
  rw [← Bool.decide_and]
  exact decide_eq_decide.2 ⟨fun hh => ⟨size_empty.1 hh.1, by omega, h⟩, fun hh => ⟨size_empty.2 hh.1, by omega⟩⟩
theorem gName_ok {s : ByteArray} : VF Tryz.prog OA 151 [St s] (B (nameB s)) := by
  refine VF.enter Tryz.func151 rfl (fun _ _ => rfl) rfl ?_
  show VC _ _ _ _ _ [(0, St s)] [] _
  refine VC.seq ?_
  refine VC.text ?_
  refine VO.c (.assign rfl) ?_
  refine VO.go ?_
  refine VC.seq ?_
  refine VC.seq ?_
  refine VC.text ?_
  refine VO.c (.move rfl) ?_
  refine VO.cell (.rng) ?_
  intro ww1
  refine VO.go ?_
  refine VC.block ?_
  refine VC.keep [(0, St s), (8, .raw ww1)] ⟨rfl, rfl, trivial⟩ ?_
  refine VC.loop (I := fun kk ff ss => ∃ (p : Nat), kk = s.size - p ∧ ff = [(0, St s), (8, .raw ww1)] ∧ ss = [(ww1, .it s p)] ∧ (p ≤ s.size) ∧ (∀ i, i < p → byteB (byteE s i) i = true)) ?_ _ _ _ ⟨0, rfl, rfl, rfl, Nat.zero_le _, (by intro i hi; omega)⟩
  rintro kk ff ss ⟨p, hk0, rfl, rfl, hp, hq⟩
  refine VC.seq ?_
  refine VC.text ?_
  refine VO.next rfl (fun h2_0 => ?_) (fun h2_0 => ?_)
  · refine VO.c (.extract) ?_
    refine VO.go ?_
    refine VC.seq ?_
    refine VC.condT rfl ?_
    refine VC.skip ?_
    show VC _ _ _ _ _ _ _ _
    refine VC.block ?_
    refine VC.seq ?_
    refine VC.text ?_
    refine VO.c (.extract) ?_
    refine VO.c (.extract) ?_
    refine VO.c (.assign rfl) ?_
    refine VO.c (.assign rfl) ?_
    refine VO.go ?_
    refine VC.seq ?_
    refine VC.join [(0, St s), (3, I ((p : Nat) : Int)), (4, .v (.int .i32) (((Utf8.decode s p).1 : Nat) : Int)), (5, B (letterB ((Utf8.decode s p).1 : Nat))), (8, .raw ww1)] [(ww1, .it s (p + (Utf8.decode s p).2))] ?_ ?_
    · skip
      refine VC.text ?_
      refine VO.c (.move rfl) ?_
      refine VO.c (.geq) ?_
      refine VO.c (.move rfl) ?_
      refine VO.splitD (x := 15) rfl (fun g4_2 => ?_) (fun g4_2 => ?_)
      · refine VO.c (.move rfl) ?_
        refine VO.c (.leq) ?_
        refine VO.c (.pickT rfl rfl) ?_
        refine VO.c (.move rfl) ?_
        refine VO.splitD (x := 19) rfl (fun g4_6 => ?_) (fun g4_6 => ?_)
        · refine VO.skip ?_
          refine VO.skip ?_
          refine VO.skip ?_
          refine VO.skip ?_
          refine VO.skip ?_
          refine VO.skip ?_
          refine VO.c (.pickT rfl rfl) ?_
          refine VO.c (.assign rfl) ?_
          refine VO.nil ?_
          exact ⟨⟨rfl, rfl, rfl, slE rfl (by rw [Bool.eq_iff_iff]; simp [letterB] <;> omega), rfl, trivial⟩, rfl⟩
        · refine VO.c (.move rfl) ?_
          refine VO.c (.geq) ?_
          refine VO.c (.move rfl) ?_
          refine VO.cg (r := decide ((97 : Int) ≤ (((Utf8.decode s p).1 : Nat) : Int))) (w := true) [] trivial (fun hgd => have g4_9 : (97 : Int) ≤ (((Utf8.decode s p).1 : Nat) : Int) := (by simpa using hgd); (.move rfl)) ?_
          refine VO.cg (r := decide ((97 : Int) ≤ (((Utf8.decode s p).1 : Nat) : Int))) (w := true) [(23, .v (.int .i32) (((Utf8.decode s p).1 : Nat) : Int))] ⟨rfl, trivial⟩ (fun hgd => have g4_9 : (97 : Int) ≤ (((Utf8.decode s p).1 : Nat) : Int) := (by simpa using hgd); (.leq)) ?_
          refine VO.c (.and) ?_
          refine VO.c (.pickF rfl rfl) ?_
          refine VO.c (.assign rfl) ?_
          refine VO.nil ?_
          exact ⟨⟨rfl, rfl, rfl, slE rfl (by rw [Bool.eq_iff_iff]; simp [letterB] <;> omega), rfl, trivial⟩, rfl⟩
      · refine VO.skip ?_
        refine VO.skip ?_
        refine VO.c (.pickF rfl rfl) ?_
        refine VO.c (.move rfl) ?_
        refine VO.c (.move rfl) ?_
        refine VO.c (.geq) ?_
        refine VO.c (.move rfl) ?_
        refine VO.cg (r := decide ((97 : Int) ≤ (((Utf8.decode s p).1 : Nat) : Int))) (w := true) [] trivial (fun hgd => have g4_9 : (97 : Int) ≤ (((Utf8.decode s p).1 : Nat) : Int) := (by simpa using hgd); (.move rfl)) ?_
        refine VO.cg (r := decide ((97 : Int) ≤ (((Utf8.decode s p).1 : Nat) : Int))) (w := true) [(23, .v (.int .i32) (((Utf8.decode s p).1 : Nat) : Int))] ⟨rfl, trivial⟩ (fun hgd => have g4_9 : (97 : Int) ≤ (((Utf8.decode s p).1 : Nat) : Int) := (by simpa using hgd); (.leq)) ?_
        refine VO.c (.and) ?_
        refine VO.c (.pickF rfl rfl) ?_
        refine VO.c (.assign rfl) ?_
        refine VO.nil ?_
        exact ⟨⟨rfl, rfl, rfl, slE rfl (by rw [Bool.eq_iff_iff]; simp [letterB] <;> omega), rfl, trivial⟩, rfl⟩
    show VC _ _ _ _ _ _ _ _
    refine VC.seq ?_
    refine VC.join [(0, St s), (3, I ((p : Nat) : Int)), (5, B (letterB ((Utf8.decode s p).1 : Nat))), (6, B (otherB ((Utf8.decode s p).1 : Nat))), (8, .raw ww1)] [(ww1, .it s (p + (Utf8.decode s p).2))] ?_ ?_
    · skip
      refine VC.text ?_
      refine VO.c (.move rfl) ?_
      refine VO.c (.geq) ?_
      refine VO.c (.move rfl) ?_
      refine VO.splitD (x := 29) rfl (fun g5_2 => ?_) (fun g5_2 => ?_)
      · refine VO.c (.move rfl) ?_
        refine VO.c (.leq) ?_
        refine VO.c (.pickT rfl rfl) ?_
        refine VO.c (.move rfl) ?_
        refine VO.cg (r := decide ((((Utf8.decode s p).1 : Nat) : Int) ≤ (57 : Int))) (w := false) [] trivial (fun hgd => have g5_6 : ¬ ((((Utf8.decode s p).1 : Nat) : Int) ≤ (57 : Int)) := (by simpa using hgd); (.move rfl)) ?_
        refine VO.cg (r := decide ((((Utf8.decode s p).1 : Nat) : Int) ≤ (57 : Int))) (w := false) [(34, .v (.int .i32) (((Utf8.decode s p).1 : Nat) : Int))] ⟨rfl, trivial⟩ (fun hgd => have g5_6 : ¬ ((((Utf8.decode s p).1 : Nat) : Int) ≤ (57 : Int)) := (by simpa using hgd); (.eql)) ?_
        refine VO.c (.or) ?_
        refine VO.c (.assign rfl) ?_
        refine VO.nil ?_
        exact ⟨⟨rfl, rfl, rfl, slE rfl (by rw [Bool.eq_iff_iff]; simp [otherB] <;> omega), rfl, trivial⟩, rfl⟩
      · refine VO.skip ?_
        refine VO.skip ?_
        refine VO.c (.pickF rfl rfl) ?_
        refine VO.c (.move rfl) ?_
        refine VO.c (.move rfl) ?_
        refine VO.c (.eql) ?_
        refine VO.c (.pickF rfl rfl) ?_
        refine VO.c (.assign rfl) ?_
        refine VO.nil ?_
        exact ⟨⟨rfl, rfl, rfl, slE rfl (by rw [Bool.eq_iff_iff]; simp [otherB] <;> omega), rfl, trivial⟩, rfl⟩
    show VC _ _ _ _ _ _ _ _
    refine VC.seq ?_
    refine VC.join [(0, St s), (8, .raw ww1), (46, B (!byteB ((Utf8.decode s p).1 : Nat) p))] [(ww1, .it s (p + (Utf8.decode s p).2))] ?_ ?_
    · skip
      refine VC.text ?_
      refine VO.c (.move rfl) ?_
      refine VO.c (.not) ?_
      refine VO.c (.move rfl) ?_
      refine VO.splitB (x := 39) rfl (fun g6_2 => ?_) (fun g6_2 => ?_)
      · try simp only [Bool.and_eq_true, Bool.or_eq_true, Bool.and_eq_false_iff, Bool.or_eq_false_iff, Bool.not_eq_true', Bool.not_eq_false', decide_eq_true_eq, decide_eq_false_iff_not] at g6_2
        refine VO.c (.move rfl) ?_
        refine VO.c (.eql) ?_
        refine VO.c (.move rfl) ?_
        refine VO.cg (r := decide (((p : Nat) : Int) = (0 : Int))) (w := false) [] trivial (fun hgd => have g6_5 : ¬ (((p : Nat) : Int) = (0 : Int)) := (by simpa using hgd); (.move rfl)) ?_
        refine VO.cg (r := decide (((p : Nat) : Int) = (0 : Int))) (w := false) [(43, B (otherB ((Utf8.decode s p).1 : Nat)))] ⟨rfl, trivial⟩ (fun hgd => have g6_5 : ¬ (((p : Nat) : Int) = (0 : Int)) := (by simpa using hgd); (.not)) ?_
        refine VO.c (.or) ?_
        refine VO.c (.pickT rfl rfl) ?_
        refine VO.nil ?_
        exact ⟨⟨rfl, rfl, slE rfl (by simp [byteB, *]), trivial⟩, rfl⟩
      · try simp only [Bool.and_eq_true, Bool.or_eq_true, Bool.and_eq_false_iff, Bool.or_eq_false_iff, Bool.not_eq_true', Bool.not_eq_false', decide_eq_true_eq, decide_eq_false_iff_not] at g6_2
        refine VO.skip ?_
        refine VO.skip ?_
        refine VO.skip ?_
        refine VO.skip ?_
        refine VO.skip ?_
        refine VO.skip ?_
        refine VO.c (.pickF rfl rfl) ?_
        refine VO.nil ?_
        exact ⟨⟨rfl, rfl, slE rfl (by simp [byteB, *]), trivial⟩, rfl⟩
    show VC _ _ _ _ _ _ _ _
    refine VC.condB rfl (fun c6 => ?_) (fun c6 => ?_)
    · try simp only [Bool.and_eq_true, Bool.or_eq_true, Bool.and_eq_false_iff, Bool.or_eq_false_iff, Bool.not_eq_true', Bool.not_eq_false', decide_eq_true_eq, decide_eq_false_iff_not] at c6
      refine VC.seq ?_
      refine VC.text ?_
      refine VO.c (.assign rfl) ?_
      refine VO.go ?_
      refine VC.ret ?_
      exact VEnd.one rfl evT (pvE (by exact nameB_f h2_0 (rune_f c6)))
    · try simp only [Bool.and_eq_true, Bool.or_eq_true, Bool.and_eq_false_iff, Bool.or_eq_false_iff, Bool.not_eq_true', Bool.not_eq_false', decide_eq_true_eq, decide_eq_false_iff_not] at c6
      refine VC.skip ?_
      refine ⟨_, [(0, St s), (8, .raw ww1)], ?_, ⟨rfl, rfl, trivial⟩, (p + 1), rfl, rfl, (by rw [(rune_t c6).2]), (by omega), (by intro i hi; rcases Nat.lt_succ_iff_lt_or_eq.1 hi with h | h; exact hq i h; subst h; exact (rune_t c6).1)⟩
      omega
  · refine VO.c (.ext0) ?_
    refine VO.go ?_
    refine VC.seq ?_
    refine VC.condF rfl ?_
    refine VC.exit ?_
    show VC _ _ _ _ _ _ _ _
    refine VC.seq ?_
    refine VC.text ?_
    refine VO.c (.move rfl) ?_
    refine VO.c (.sneq) ?_
    refine VO.c (.move rfl) ?_
    refine VO.cg (r := decide (s ≠ ByteArray.empty)) (w := true) [] trivial (fun hgd => have g8_2 : s ≠ ByteArray.empty := (by simpa using hgd); (.move rfl)) ?_
    refine VO.rg (r := decide (s ≠ ByteArray.empty)) (w := true) [(50, St s)] ⟨rfl, trivial⟩ (fun hgd => have g8_2 : s ≠ ByteArray.empty := (by simpa using hgd); (.lenS)) ?_
    refine VO.cg (r := decide (s ≠ ByteArray.empty)) (w := true) [(51, I ((s.size : Nat) : Int))] ⟨rfl, trivial⟩ (fun hgd => have g8_2 : s ≠ ByteArray.empty := (by simpa using hgd); (.leq)) ?_
    refine VO.c (.and) ?_
    refine VO.c (.assign rfl) ?_
    refine VO.go ?_
    refine VC.ret ?_
    exact VEnd.one rfl evT (pvE (by exact name_end (fun i hi => hq i (by omega))))
theorem rName_ok {s : ByteArray} : VF Tryz.prog OA 182 [St s] (B (nameB s)) := by
  refine VF.enter Tryz.func182 rfl (fun _ _ => rfl) rfl ?_
  show VC _ _ _ _ _ [(0, St s)] [] _
  refine VC.seq ?_
  refine VC.text ?_
  refine VO.c (.assign rfl) ?_
  refine VO.go ?_
  refine VC.seq ?_
  refine VC.seq ?_
  refine VC.text ?_
  refine VO.c (.move rfl) ?_
  refine VO.r (.lenS) ?_
  refine VO.c (.eql) ?_
  refine VO.c (.move rfl) ?_
  refine VO.cg (r := decide (((s.size : Nat) : Int) = (0 : Int))) (w := false) [] trivial (fun hgd => have g1_3 : ¬ (((s.size : Nat) : Int) = (0 : Int)) := (by simpa using hgd); (.move rfl)) ?_
  refine VO.rg (r := decide (((s.size : Nat) : Int) = (0 : Int))) (w := false) [(9, St s)] ⟨rfl, trivial⟩ (fun hgd => have g1_3 : ¬ (((s.size : Nat) : Int) = (0 : Int)) := (by simpa using hgd); (.lenS)) ?_
  refine VO.cg (r := decide (((s.size : Nat) : Int) = (0 : Int))) (w := false) [(10, I ((s.size : Nat) : Int))] ⟨rfl, trivial⟩ (fun hgd => have g1_3 : ¬ (((s.size : Nat) : Int) = (0 : Int)) := (by simpa using hgd); (.gtr)) ?_
  refine VO.c (.or) ?_
  refine VO.go ?_
  refine VC.condB rfl (fun c1 => ?_) (fun c1 => ?_)
  · try simp only [Bool.and_eq_true, Bool.or_eq_true, Bool.and_eq_false_iff, Bool.or_eq_false_iff, Bool.not_eq_true', Bool.not_eq_false', decide_eq_true_eq, decide_eq_false_iff_not] at c1
    refine VC.seq ?_
    refine VC.text ?_
    refine VO.c (.assign rfl) ?_
    refine VO.go ?_
    refine VC.ret ?_
    exact VEnd.one rfl evT (pvE (by exact (decide_eq_false fun hh => by have := hh.1; have := hh.2.1; omega).symm))
  · try simp only [Bool.and_eq_true, Bool.or_eq_true, Bool.and_eq_false_iff, Bool.or_eq_false_iff, Bool.not_eq_true', Bool.not_eq_false', decide_eq_true_eq, decide_eq_false_iff_not] at c1
    refine VC.skip ?_
    show VC _ _ _ _ _ _ _ _
    refine VC.seq ?_
    refine VC.seq ?_
    refine VC.text ?_
    refine VO.c (.assign rfl) ?_
    refine VO.go ?_
    refine VC.block ?_
    refine VC.keep [(0, St s), (3, I ((0 : Nat) : Int))] ⟨rfl, rfl, trivial⟩ ?_
    refine VC.loop (I := fun kk ff ss => ∃ (i : Nat), kk = s.size - i ∧ ff = [(0, St s), (3, I ((i : Nat) : Int))] ∧ ss = [] ∧ (i ≤ s.size) ∧ (∀ k, k < i → byteB (byteE s k) k = true)) ?_ _ _ _ ⟨0, rfl, rfl, rfl, Nat.zero_le _, (by intro k hk; omega)⟩
    rintro kk ff ss ⟨i, hk0, rfl, rfl, hi, hq⟩
    refine VC.seq ?_
    refine VC.seq ?_
    refine VC.text ?_
    refine VO.c (.move rfl) ?_
    refine VO.c (.move rfl) ?_
    refine VO.r (.lenS) ?_
    refine VO.c (.lss) ?_
    refine VO.go ?_
    refine VC.condD rfl (fun c4 => ?_) (fun c4 => ?_)
    · refine VC.skip ?_
      show VC _ _ _ _ _ _ _ _
      refine VC.seq ?_
      refine VC.block ?_
      refine VC.seq ?_
      refine VC.text ?_
      refine VO.c (.move rfl) ?_
      refine VO.c (.move rfl) ?_
      refine VO.c (.ixS rfl rfl (by omega) (by omega)) ?_
      refine VO.c (.assign rfl) ?_
      refine VO.go ?_
      refine VC.seq ?_
      refine VC.seq ?_
      refine VC.join [(0, St s), (3, I ((i : Nat) : Int)), (4, .v (.int .u8) (byteE s ((i : Nat) : Int))), (35, B (letterB (byteE s i)))] [] ?_ ?_
      · skip
        refine VC.text ?_
        refine VO.c (.move rfl) ?_
        refine VO.c (.geq) ?_
        refine VO.c (.move rfl) ?_
        refine VO.splitD (x := 24) rfl (fun g7_2 => ?_) (fun g7_2 => ?_)
        · refine VO.c (.move rfl) ?_
          refine VO.c (.leq) ?_
          refine VO.c (.pickT rfl rfl) ?_
          refine VO.c (.move rfl) ?_
          refine VO.splitD (x := 28) rfl (fun g7_6 => ?_) (fun g7_6 => ?_)
          · refine VO.skip ?_
            refine VO.skip ?_
            refine VO.skip ?_
            refine VO.skip ?_
            refine VO.skip ?_
            refine VO.skip ?_
            refine VO.c (.pickT rfl rfl) ?_
            refine VO.nil ?_
            exact ⟨⟨rfl, rfl, rfl, slE rfl (by rw [Bool.eq_iff_iff]; simp [letterB] <;> omega), trivial⟩, rfl⟩
          · refine VO.c (.move rfl) ?_
            refine VO.c (.geq) ?_
            refine VO.c (.move rfl) ?_
            refine VO.cg (r := decide ((65 : Int) ≤ (byteE s ((i : Nat) : Int)))) (w := true) [] trivial (fun hgd => have g7_9 : (65 : Int) ≤ (byteE s ((i : Nat) : Int)) := (by simpa using hgd); (.move rfl)) ?_
            refine VO.cg (r := decide ((65 : Int) ≤ (byteE s ((i : Nat) : Int)))) (w := true) [(32, .v (.int .u8) (byteE s ((i : Nat) : Int)))] ⟨rfl, trivial⟩ (fun hgd => have g7_9 : (65 : Int) ≤ (byteE s ((i : Nat) : Int)) := (by simpa using hgd); (.leq)) ?_
            refine VO.c (.and) ?_
            refine VO.c (.pickF rfl rfl) ?_
            refine VO.nil ?_
            exact ⟨⟨rfl, rfl, rfl, slE rfl (by rw [Bool.eq_iff_iff]; simp [letterB] <;> omega), trivial⟩, rfl⟩
        · refine VO.skip ?_
          refine VO.skip ?_
          refine VO.c (.pickF rfl rfl) ?_
          refine VO.c (.move rfl) ?_
          refine VO.c (.move rfl) ?_
          refine VO.c (.geq) ?_
          refine VO.c (.move rfl) ?_
          refine VO.cg (r := decide ((65 : Int) ≤ (byteE s ((i : Nat) : Int)))) (w := true) [] trivial (fun hgd => have g7_9 : (65 : Int) ≤ (byteE s ((i : Nat) : Int)) := (by simpa using hgd); (.move rfl)) ?_
          refine VO.cg (r := decide ((65 : Int) ≤ (byteE s ((i : Nat) : Int)))) (w := true) [(32, .v (.int .u8) (byteE s ((i : Nat) : Int)))] ⟨rfl, trivial⟩ (fun hgd => have g7_9 : (65 : Int) ≤ (byteE s ((i : Nat) : Int)) := (by simpa using hgd); (.leq)) ?_
          refine VO.c (.and) ?_
          refine VO.c (.pickF rfl rfl) ?_
          refine VO.nil ?_
          exact ⟨⟨rfl, rfl, rfl, slE rfl (by rw [Bool.eq_iff_iff]; simp [letterB] <;> omega), trivial⟩, rfl⟩
      show VC _ _ _ _ _ _ _ _
      refine VC.condB rfl (fun c7 => ?_) (fun c7 => ?_)
      · have hok : byteB (byteE s i) i = true := by rw [byteB, c7] <;> rfl
        refine VC.exit ?_
        show VC _ _ _ _ _ _ _ _
        refine VC.text ?_
        refine VO.c (.move rfl) ?_
        refine VO.c (.add rfl rfl (by omega)) ?_
        refine VO.c (.assign rfl) ?_
        refine VO.nil ?_
        refine ⟨_, [(0, St s), (3, I (((i + 1) : Nat) : Int))], ?_, ⟨rfl, rfl, trivial⟩, (i + 1), rfl, rfl, rfl, (by omega), (by intro k hk; rcases Nat.lt_succ_iff_lt_or_eq.1 hk with h | h; exact hq k h; subst h; exact hok)⟩
        omega
      · refine VC.skip ?_
        show VC _ _ _ _ _ _ _ _
        refine VC.seq ?_
        refine VC.join [(0, St s), (3, I ((i : Nat) : Int)), (49, B (!(decide (i ≠ 0) && otherB (byteE s i))))] [] ?_ ?_
        · skip
          refine VC.text ?_
          refine VO.c (.move rfl) ?_
          refine VO.c (.eql) ?_
          refine VO.c (.move rfl) ?_
          refine VO.splitD (x := 38) rfl (fun g8_2 => ?_) (fun g8_2 => ?_)
          · refine VO.skip ?_
            refine VO.skip ?_
            refine VO.skip ?_
            refine VO.skip ?_
            refine VO.skip ?_
            refine VO.skip ?_
            refine VO.skip ?_
            refine VO.skip ?_
            refine VO.skip ?_
            refine VO.skip ?_
            refine VO.c (.pickT rfl rfl) ?_
            refine VO.nil ?_
            exact ⟨⟨rfl, rfl, slE rfl (by rw [Bool.eq_iff_iff]; simp [otherB] <;> omega), trivial⟩, rfl⟩
          · refine VO.c (.move rfl) ?_
            refine VO.c (.neq) ?_
            refine VO.c (.move rfl) ?_
            refine VO.splitD (x := 41) rfl (fun g8_5 => ?_) (fun g8_5 => ?_)
            · refine VO.c (.move rfl) ?_
              refine VO.c (.lss) ?_
              refine VO.c (.move rfl) ?_
              refine VO.cg (r := decide ((byteE s ((i : Nat) : Int)) < (48 : Int))) (w := false) [] trivial (fun hgd => have g8_8 : ¬ ((byteE s ((i : Nat) : Int)) < (48 : Int)) := (by simpa using hgd); (.move rfl)) ?_
              refine VO.cg (r := decide ((byteE s ((i : Nat) : Int)) < (48 : Int))) (w := false) [(45, .v (.int .u8) (byteE s ((i : Nat) : Int)))] ⟨rfl, trivial⟩ (fun hgd => have g8_8 : ¬ ((byteE s ((i : Nat) : Int)) < (48 : Int)) := (by simpa using hgd); (.gtr)) ?_
              refine VO.c (.or) ?_
              refine VO.c (.pickT rfl rfl) ?_
              refine VO.c (.pickF rfl rfl) ?_
              refine VO.nil ?_
              exact ⟨⟨rfl, rfl, slE rfl (by rw [Bool.eq_iff_iff]; simp [otherB] <;> omega), trivial⟩, rfl⟩
            · refine VO.skip ?_
              refine VO.skip ?_
              refine VO.skip ?_
              refine VO.skip ?_
              refine VO.skip ?_
              refine VO.skip ?_
              refine VO.c (.pickF rfl rfl) ?_
              refine VO.c (.pickF rfl rfl) ?_
              refine VO.nil ?_
              exact ⟨⟨rfl, rfl, slE rfl (by rw [Bool.eq_iff_iff]; simp [otherB] <;> omega), trivial⟩, rfl⟩
        show VC _ _ _ _ _ _ _ _
        refine VC.condB rfl (fun c8 => ?_) (fun c8 => ?_)
        · try simp only [Bool.and_eq_true, Bool.or_eq_true, Bool.and_eq_false_iff, Bool.or_eq_false_iff, Bool.not_eq_true', Bool.not_eq_false', decide_eq_true_eq, decide_eq_false_iff_not] at c8
          refine VC.seq ?_
          refine VC.text ?_
          refine VO.c (.assign rfl) ?_
          refine VO.go ?_
          refine VC.ret ?_
          exact VEnd.one rfl evT (pvE (by exact nameB_f (i := i) (by omega) (by simp only [byteB, c7, Bool.false_or, Bool.and_eq_false_iff, decide_eq_false_iff_not]; exact c8)))
        · try simp only [Bool.and_eq_true, Bool.or_eq_true, Bool.and_eq_false_iff, Bool.or_eq_false_iff, Bool.not_eq_true', Bool.not_eq_false', decide_eq_true_eq, decide_eq_false_iff_not] at c8
          have hok : byteB (byteE s i) i = true := by simp [byteB, *]
          refine VC.skip ?_
          show VC _ _ _ _ _ _ _ _
          refine VC.text ?_
          refine VO.c (.move rfl) ?_
          refine VO.c (.add rfl rfl (by omega)) ?_
          refine VO.c (.assign rfl) ?_
          refine VO.nil ?_
          refine ⟨_, [(0, St s), (3, I (((i + 1) : Nat) : Int))], ?_, ⟨rfl, rfl, trivial⟩, (i + 1), rfl, rfl, rfl, (by omega), (by intro k hk; rcases Nat.lt_succ_iff_lt_or_eq.1 hk with h | h; exact hq k h; subst h; exact hok)⟩
          omega
    · refine VC.exit ?_
      show VC _ _ _ _ _ _ _ _
      refine VC.seq ?_
      refine VC.text ?_
      refine VO.c (.assign rfl) ?_
      refine VO.go ?_
      refine VC.ret ?_
      exact VEnd.one rfl evT (pvE (by exact nameB_t (by omega) (by omega) (fun k hk => hq k (by omega))))
theorem rNameE_ok {s : ByteArray} : VF Tryz.prog OA 152 [St s] (I (whenE (!nameB s) 8)) := by
  refine VF.enter Tryz.func152 rfl (fun _ _ => rfl) rfl ?_
  show VC _ _ _ _ _ [(0, St s)] [] _
  refine VC.seq ?_
  refine VC.text ?_
  refine VO.c (.assign rfl) ?_
  refine VO.go ?_
  refine VC.seq ?_
  refine VC.seq ?_
  refine VC.text ?_
  refine VO.c (.move rfl) ?_
  refine VO.call rfl rfl (VF.call (rName_ok )) ?_
  refine VO.c (.not) ?_
  refine VO.go ?_
  refine VC.condB rfl (fun c1 => ?_) (fun c1 => ?_)
  · try simp only [Bool.and_eq_true, Bool.or_eq_true, Bool.and_eq_false_iff, Bool.or_eq_false_iff, Bool.not_eq_true', Bool.not_eq_false', decide_eq_true_eq, decide_eq_false_iff_not] at c1
    refine VC.seq ?_
    refine VC.text ?_
    refine VO.c (.assign rfl) ?_
    refine VO.go ?_
    refine VC.ret ?_
    exact VEnd.one rfl evT (pvI (by simp [whenE, *]))
  · try simp only [Bool.and_eq_true, Bool.or_eq_true, Bool.and_eq_false_iff, Bool.or_eq_false_iff, Bool.not_eq_true', Bool.not_eq_false', decide_eq_true_eq, decide_eq_false_iff_not] at c1
    refine VC.skip ?_
    show VC _ _ _ _ _ _ _ _
    refine VC.seq ?_
    refine VC.text ?_
    refine VO.c (.assign rfl) ?_
    refine VO.go ?_
    refine VC.ret ?_
    exact VEnd.one rfl evT (pvI (by simp [whenE, *]))
end Go.Proofs
namespace Go.Proofs
open Go.Fs Ieee
set_option linter.unusedVariables false
abbrev y104 : Ty := (.sl (.pair .str (.int .i64)))
abbrev y106 : Ty := (.pair (.int .i64) (.pair (.int .i64) (.pair (.int .i64) (.sl (.pair .str (.int .i64))))))
abbrev y205 : Ty := (.mp .str (.int .i64))
abbrev y210 : Ty := (.pair .str (.int .i64))
theorem vt9 : ValT Tryz.prog 9 .str := valT_of (by kernel_rfl)
theorem vt104 : ValT Tryz.prog 104 y104 := valT_of (by kernel_rfl)
theorem vt210 : ValT Tryz.prog 210 y210 := valT_of (by kernel_rfl)
theorem el104 : ElT Tryz.prog 104 210 y210 := elT_of (by kernel_rfl)
theorem zt4 : ZerT Tryz.prog 4 .bool := zerT_of (z := .bool false) (by kernel_rfl) rfl rfl
theorem zt210 : ZerT Tryz.prog 210 y210 := zerT_of (z := .agg #[.string ByteArray.empty, .int .i64 0]) (by kernel_rfl) rfl rfl
theorem mt205 : MapT Tryz.prog 205 .str (.int .i64) := ⟨9, 3, by kernel_rfl, keyStr (by kernel_rfl), zt3⟩
theorem mt238 : MapT Tryz.prog 238 .str .bool := ⟨9, 4, by kernel_rfl, keyStr (by kernel_rfl), zt4⟩
/-! ## Members -/
abbrev Mems := List (ByteArray × Int)
def nmE (l : Mems) (i : Nat) : ByteArray := (l.map (·.1)).getD i ByteArray.empty
def wgtE (l : Mems) (i : Nat) : Int := (l.map (·.2)).getD i 0
theorem nmE_eq {l : Mems} {i : Nat} (h : i < l.length) : l[i].1 = nmE l i := by simp [nmE, h]
theorem wgtE_eq {l : Mems} {i : Nat} (h : i < l.length) : l[i].2 = wgtE l i := by simp [wgtE, h]
def knownM (l : Mems) : Nat → List (ByteArray × Bool)
  | 0 => []
  | i + 1 => mset (knownM l i) (nmE l i) true
def idxM (l : Mems) : Nat → List (ByteArray × Int)
  | 0 => []
  | i + 1 => mset (idxM l i) (nmE l i) (i : Int)
theorem mget_mset {α β : Type} [DecidableEq α] : ∀ (m : List (α × β)) (x z : α) (y : β), mget (mset m x y) z = if z = x then some y else mget m z
  | [], x, z, y => by simp [mset, mget]
  | (k, v) :: r, x, z, y => by
    by_cases h : x = k
    · subst h
      simp only [mset, if_pos, mget]
      split <;> rfl
    · simp only [mset, if_neg h, mget, mget_mset r x z y]
      by_cases h2 : z = k
      · rw [if_pos h2, if_pos h2, if_neg (fun e => h (e.symm.trans h2))]
      · rw [if_neg h2, if_neg h2]
theorem known_iff {l : Mems} {x : ByteArray} : ∀ (i : Nat), (mget (knownM l i) x).getD false = true ↔ ∃ k, k < i ∧ nmE l k = x
  | 0 => by simp [knownM, mget]
  | i + 1 => by
    rw [knownM, mget_mset]
    by_cases h : x = nmE l i
    · rw [if_pos h]
      simp only [Option.getD_some, true_iff]
      exact ⟨i, by omega, h.symm⟩
    · rw [if_neg h, known_iff i]
      constructor
      · rintro ⟨k, h1, h2⟩; exact ⟨k, by omega, h2⟩
      · rintro ⟨k, h1, h2⟩
        rcases Nat.lt_succ_iff_lt_or_eq.1 h1 with h3 | h3
        · exact ⟨k, h3, h2⟩
        · subst h3; exact absurd h2.symm h
def memE (l : Mems) (i : Nat) : Int := firstE [whenE (!nameB (nmE l i)) 8, rangeE (wgtE l i) 1 1000, whenE ((mget (knownM l i) (nmE l i)).getD false) 9]
theorem memX {l : Mems} {i : Nat} (h : i < l.length) : firstE [whenE (!nameB l[i].1) 8, rangeE l[i].2 1 1000, whenE ((mget (knownM l i) l[i].1).getD false) 9] = memE l i := by rw [nmE_eq h, wgtE_eq h] <;> rfl
def domP (d : Int × Int × Int × Mems) : Int := firstE [rangeE d.1 1 8, rangeE d.2.1 1 8, rangeE d.2.2.1 1 96, whenE (decide ((d.2.2.2.length : Int) = 0)) 12, whenE (decide ((16 : Int) < d.2.2.2.length)) 5]
def domE (d : Int × Int × Int × Mems) : Int := if domP d = 0 then firstE ((List.range d.2.2.2.length).map (memE d.2.2.2)) else domP d
theorem firstE_range {f : Nat → Int} {n i : Nat} (hi : i < n) (hz : ∀ k, k < i → f k = 0) (h : f i ≠ 0) : f i = firstE ((List.range n).map f) := by
  have e : List.range n = List.range i ++ (i :: (List.range' (i + 1) (n - i - 1))) := by
    apply List.ext_getElem
    · simp; omega
    · intro k h1 h2
      rw [List.getElem_append]
      by_cases hk : k < i
      · simp [hk]
      · simp only [List.length_range, hk, dite_false, List.getElem_range, List.getElem_cons]
        by_cases h3 : k - i = 0
        · simp [h3]; omega
        · simp [h3]; omega
  have h0 : firstE ((List.range i).map f) = 0 := firstE_zero.2 fun x hx => by
    obtain ⟨k, h1, rfl⟩ := List.mem_map.1 hx
    exact hz k (List.mem_range.1 h1)
  rw [e, List.map_append, firstE_app, if_pos h0, List.map_cons, firstE]
  simp [h]
theorem firstE_range0 {f : Nat → Int} {n : Nat} (hz : ∀ k, k < n → f k = 0) : 0 = firstE ((List.range n).map f) := (firstE_zero.2 fun x hx => by
  obtain ⟨k, h1, rfl⟩ := List.mem_map.1 hx
  exact hz k (List.mem_range.1 h1)).symm
theorem domP_len {d : Int × Int × Int × Mems} (h : domP d = 0) : d.2.2.2.length ≤ 16 ∧ d.2.2.2.length ≠ 0 := by
  unfold domP at h
  rw [firstE_zero] at h
  constructor
  · have := whenE_zero (by decide) (h _ (List.mem_cons_of_mem _ (List.mem_cons_of_mem _ (List.mem_cons_of_mem _ (List.mem_cons_of_mem _ List.mem_cons_self)))))
    omega
  · have := whenE_zero (by decide) (h _ (List.mem_cons_of_mem _ (List.mem_cons_of_mem _ (List.mem_cons_of_mem _ List.mem_cons_self))))
    omega
theorem sDom_ok {d : Int × Int × Int × (List (ByteArray × Int))} : VF Tryz.prog OA 80 [.v y106 d] (I (domE d)) := by
  refine VF.enter Tryz.func80 rfl (fun _ _ => rfl) rfl ?_
  show VC _ _ _ _ _ [(0, .v y106 d)] [] _
  refine VC.seq ?_
  refine VC.text ?_
  refine VO.new (.box) ?_
  refine VO.c (.assign rfl) ?_
  refine VO.go ?_
  refine VC.seq ?_
  refine VC.seq ?_
  refine VC.drawn ?_
  refine VD.c (.fa (.l .o)) ?_
  refine VD.r [] (.ld vt3) (.inl rfl) ?_
  refine VD.call rfl rfl (VF.call (sWithin_ok )) ?_
  refine VD.c (.fa (.r (.l .o))) ?_
  refine VD.r [] (.ld vt3) (.inl rfl) ?_
  refine VD.call rfl rfl (VF.call (sWithin_ok )) ?_
  refine VD.nw [] ?_
  refine VD.c (.fa (.r (.r (.l .o)))) ?_
  refine VD.r [] (.ld vt3) (.inl rfl) ?_
  refine VD.call rfl rfl (VF.call (sWithin_ok )) ?_
  refine VD.c (.fa (.r (.r (.r .o)))) ?_
  refine VD.r [] (.ld vt104) (.inl rfl) ?_
  refine VD.r [] (.len el104) (.inl rfl) ?_
  refine VD.c (.eql) ?_
  refine VD.nw [] ?_
  refine VD.call rfl rfl (VF.call (sWhen_ok )) ?_
  refine VD.c (.fa (.r (.r (.r .o)))) ?_
  refine VD.r [] (.ld vt104) (.inl rfl) ?_
  refine VD.r [] (.len el104) (.inl rfl) ?_
  refine VD.c (.gtr) ?_
  refine VD.call rfl rfl (VF.call (sWhen_ok )) ?_
  refine VD.new (.lit [rangeE d.1 (1 : Int) (8 : Int), rangeE d.2.1 (1 : Int) (8 : Int), rangeE d.2.2.1 (1 : Int) (96 : Int), whenE (decide (((d.2.2.2.length : Nat) : Int) = (0 : Int))) (12 : Int), whenE (decide ((16 : Int) < ((d.2.2.2.length : Nat) : Int))) (5 : Int)] el179) ?_
  refine VD.nw [27] ?_
  refine VD.callO rfl rfl (VF.call (sFirst_ok (by first | assumption | omega | simp))) ?_
  refine VD.c (.assign rfl) ?_
  refine VD.go ?_
  refine VC.seq ?_
  refine VC.text ?_
  refine VO.c (.move rfl) ?_
  refine VO.c (.neq) ?_
  refine VO.go ?_
  refine VC.condD rfl (fun c2 => ?_) (fun c2 => ?_)
  · have c2' : ¬ domP d = 0 := c2
    refine VC.seq ?_
    refine VC.text ?_
    refine VO.c (.move rfl) ?_
    refine VO.c (.assign rfl) ?_
    refine VO.go ?_
    refine VC.ret ?_
    exact VEnd.one rfl evT (pvI (by rw [domE, if_neg c2'] <;> rfl))
  · have c2' : domP d = 0 := by simpa [domP] using c2
    have hl := (domP_len c2').1
    refine VC.skip ?_
    show VC _ _ _ _ _ _ _ _
    refine VC.seq ?_
    refine VC.text ?_
    refine VO.cell (.mkMap .str .bool) ?_
    intro ww1
    refine VO.c (.assign rfl) ?_
    refine VO.go ?_
    refine VC.seq ?_
    refine VC.seq ?_
    refine VC.text ?_
    refine VO.c (.fa (.r (.r (.r .o)))) ?_
    refine VO.r (.ld vt104) ?_
    refine VO.r (.len el104) ?_
    refine VO.c (.move rfl) ?_
    refine VO.go ?_
    refine VC.block ?_
    refine VC.keep [(4, .raw ww1), (34, .v y104 d.2.2.2), (35, I ((d.2.2.2.length : Nat) : Int)), (36, I ((0 : Nat) : Int))] ⟨rfl, rfl, rfl, rfl, trivial⟩ ?_
    refine VC.loop (I := fun kk ff ss => ∃ (i : Nat), kk = d.2.2.2.length - i ∧ ff = [(4, .raw ww1), (34, .v y104 d.2.2.2), (35, I ((d.2.2.2.length : Nat) : Int)), (36, I ((i : Nat) : Int))] ∧ ss = [(ww1, .mp .str .bool (knownM d.2.2.2 i))] ∧ (i ≤ d.2.2.2.length) ∧ (∀ k, k < i → memE d.2.2.2 k = 0)) ?_ _ _ _ ⟨0, rfl, rfl, rfl, Nat.zero_le _, (by intro k hk; omega)⟩
    rintro kk ff ss ⟨i, hk0, rfl, rfl, hi, hz⟩
    refine VC.seq ?_
    refine VC.text ?_
    refine VO.c (.lss) ?_
    refine VO.go ?_
    refine VC.seq ?_
    refine VC.condD rfl (fun c6 => ?_) (fun c6 => ?_)
    · refine VC.skip ?_
      show VC _ _ _ _ _ _ _ _
      refine VC.seq ?_
      refine VC.block ?_
      refine VC.seq ?_
      refine VC.text ?_
      refine VO.c (.ix (j := i) rfl rfl el104 (by omega)) ?_
      refine VO.r (.ld vt210) ?_
      refine VO.cell (.alloc zt210) ?_
      intro ww2
      refine VO.setV (cs' := [St ((d.2.2.2[i]).1), I ((d.2.2.2[i]).2)]) vt210 .v ?_
      refine VO.shut [(6, .p y210 (d.2.2.2[i]))] (.cons rfl (.var m0 .refl) .nil) ?_
      refine VO.go ?_
      refine VC.seq ?_
      refine VC.seq ?_
      refine VC.drawn ?_
      refine VD.c (.fa (.l .o)) ?_
      refine VD.r [] (.ld vt9) (.inl rfl) ?_
      refine VD.call rfl rfl (VF.call (gName_ok )) ?_
      refine VD.c (.not) ?_
      refine VD.call rfl rfl (VF.call (sWhen_ok )) ?_
      refine VD.c (.fa (.r .o)) ?_
      refine VD.nw [] ?_
      refine VD.r [] (.ld vt3) (.inl rfl) ?_
      refine VD.call rfl rfl (VF.call (sWithin_ok )) ?_
      refine VD.c (.move rfl) ?_
      refine VD.c (.fa (.l .o)) ?_
      refine VD.r [] (.ld vt9) (.inl rfl) ?_
      refine VD.r [(ww1, .mp .str .bool (knownM d.2.2.2 i))] (.lookO mt238 m0) (.inr ⟨rfl, rfl⟩) ?_
      refine VD.call rfl rfl (VF.call (sWhen_ok )) ?_
      refine VD.nw [] ?_
      refine VD.new (.lit [whenE (!(nameB ((d.2.2.2[i]).1))) (8 : Int), rangeE ((d.2.2.2[i]).2) (1 : Int) (1000 : Int), whenE ((mget (knownM d.2.2.2 i) ((d.2.2.2[i]).1)).getD false) (9 : Int)] el179) ?_
      refine VD.callO rfl rfl (VF.call (sFirst_ok (by first | assumption | omega | simp))) ?_
      refine VD.c (.assign rfl) ?_
      refine VD.go ?_
      refine VC.seq ?_
      refine VC.text ?_
      refine VO.c (.move rfl) ?_
      refine VO.c (.neq) ?_
      refine VO.go ?_
      refine VC.condD rfl (fun c9 => ?_) (fun c9 => ?_)
      · have hm : ¬ memE d.2.2.2 i = 0 := by rw [← memX (by omega)]; exact c9
        refine VC.seq ?_
        refine VC.text ?_
        refine VO.c (.move rfl) ?_
        refine VO.c (.assign rfl) ?_
        refine VO.go ?_
        refine VC.ret ?_
        exact VEnd.one rfl evT (pvI (by rw [domE, if_pos c2', ← firstE_range (by omega) hz hm, ← memX (by omega)]))
      · have hm : memE d.2.2.2 i = 0 := by rw [← memX (by omega)]; simpa using c9
        refine VC.skip ?_
        show VC _ _ _ _ _ _ _ _
        refine VC.text ?_
        refine VO.c (.move rfl) ?_
        refine VO.c (.fa (.l .o)) ?_
        refine VO.r (.ld vt9) ?_
        refine VO.mput mt238 ?_
        refine VO.nil ?_
        show VC _ _ _ _ _ _ _ _
        refine VC.text ?_
        refine VO.c (.add rfl rfl (by omega)) ?_
        refine VO.c (.move rfl) ?_
        refine VO.nil ?_
        refine ⟨_, [(4, .raw ww1), (34, .v y104 d.2.2.2), (35, I ((d.2.2.2.length : Nat) : Int)), (36, I (((i + 1) : Nat) : Int))], ?_, ⟨rfl, rfl, rfl, rfl, trivial⟩, (i + 1), rfl, rfl, (by rw [knownM, nmE_eq]), (by omega), (by intro k hk; rcases Nat.lt_succ_iff_lt_or_eq.1 hk with h | h; exact hz k h; subst h; exact hm)⟩
        omega
    · refine VC.exit ?_
      show VC _ _ _ _ _ _ _ _
      refine VC.seq ?_
      refine VC.text ?_
      refine VO.c (.assign rfl) ?_
      refine VO.go ?_
      refine VC.ret ?_
      exact VEnd.one rfl evT (pvI (by rw [domE, if_pos c2']; exact firstE_range0 (fun k hk => hz k (by omega))))
theorem sMems_ok {d : Int × Int × Int × (List (ByteArray × Int))} (hl : d.2.2.2.length ≤ 16) : VF Tryz.prog OA 126 [.v y106 d] (.v y205 (idxM d.2.2.2 d.2.2.2.length)) := by
  refine VF.enter Tryz.func126 rfl (fun _ _ => rfl) rfl ?_
  show VC _ _ _ _ _ [(0, .v y106 d)] [] _
  refine VC.seq ?_
  refine VC.text ?_
  refine VO.new (.box) ?_
  refine VO.c (.assign rfl) ?_
  refine VO.go ?_
  refine VC.seq ?_
  refine VC.text ?_
  refine VO.cell (.mkMap .str (.int .i64)) ?_
  intro ww3
  refine VO.c (.assign rfl) ?_
  refine VO.go ?_
  refine VC.seq ?_
  refine VC.seq ?_
  refine VC.text ?_
  refine VO.c (.fa (.r (.r (.r .o)))) ?_
  refine VO.r (.ld vt104) ?_
  refine VO.r (.len el104) ?_
  refine VO.c (.move rfl) ?_
  refine VO.go ?_
  refine VC.block ?_
  refine VC.keep [(3, .raw ww3), (8, .v y104 d.2.2.2), (9, I ((d.2.2.2.length : Nat) : Int)), (10, I ((0 : Nat) : Int))] ⟨rfl, rfl, rfl, rfl, trivial⟩ ?_
  refine VC.loop (I := fun kk ff ss => ∃ (i : Nat), kk = d.2.2.2.length - i ∧ ff = [(3, .raw ww3), (8, .v y104 d.2.2.2), (9, I ((d.2.2.2.length : Nat) : Int)), (10, I ((i : Nat) : Int))] ∧ ss = [(ww3, .mp .str (.int .i64) (idxM d.2.2.2 i))] ∧ (i ≤ d.2.2.2.length)) ?_ _ _ _ ⟨0, rfl, rfl, rfl, Nat.zero_le _⟩
  rintro kk ff ss ⟨i, hk0, rfl, rfl, hi⟩
  refine VC.seq ?_
  refine VC.text ?_
  refine VO.c (.lss) ?_
  refine VO.go ?_
  refine VC.seq ?_
  refine VC.condD rfl (fun c3 => ?_) (fun c3 => ?_)
  · refine VC.skip ?_
    show VC _ _ _ _ _ _ _ _
    refine VC.seq ?_
    refine VC.block ?_
    refine VC.seq ?_
    refine VC.text ?_
    refine VO.c (.move rfl) ?_
    refine VO.c (.ix (j := i) rfl rfl el104 (by omega)) ?_
    refine VO.r (.ld vt210) ?_
    refine VO.cell (.alloc zt210) ?_
    intro ww4
    refine VO.c (.assign rfl) ?_
    refine VO.setV (cs' := [St ((d.2.2.2[i]).1), I ((d.2.2.2[i]).2)]) vt210 .v ?_
    refine VO.shut [(5, .p y210 (d.2.2.2[i]))] (.cons rfl (.var m0 .refl) .nil) ?_
    refine VO.go ?_
    refine VC.text ?_
    refine VO.c (.move rfl) ?_
    refine VO.c (.fa (.l .o)) ?_
    refine VO.r (.ld vt9) ?_
    refine VO.c (.move rfl) ?_
    refine VO.mput mt205 ?_
    refine VO.nil ?_
    show VC _ _ _ _ _ _ _ _
    refine VC.text ?_
    refine VO.c (.add rfl rfl (by omega)) ?_
    refine VO.c (.move rfl) ?_
    refine VO.nil ?_
    refine ⟨_, [(3, .raw ww3), (8, .v y104 d.2.2.2), (9, I ((d.2.2.2.length : Nat) : Int)), (10, I (((i + 1) : Nat) : Int))], ?_, ⟨rfl, rfl, rfl, rfl, trivial⟩, (i + 1), rfl, rfl, (by rw [idxM, nmE_eq]), (by omega)⟩
    omega
  · refine VC.exit ?_
    show VC _ _ _ _ _ _ _ _
    refine VC.seq ?_
    refine VC.text ?_
    refine VO.c (.move rfl) ?_
    refine VO.c (.assign rfl) ?_
    refine VO.go ?_
    refine VC.ret ?_
    exact VEnd.one rfl (evC (.mp m0)) (pvE (by rw [show i = d.2.2.2.length by omega]))
end Go.Proofs
namespace Go.Proofs
open Go.Fs Ieee
set_option linter.unusedVariables false
abbrev y95 : Ty := (.pair (.int .i64) (.pair (.int .i64) (.pair (.int .i64) (.sl (.pair .str (.int .i64))))))
theorem vt93 : ValT Tryz.prog 93 (.sl (.pair .str (.int .i64))) := valT_of (by kernel_rfl)
theorem el93 : ElT Tryz.prog 93 203 (.pair .str (.int .i64)) := elT_of (by kernel_rfl)
/-! ## The reference's domains -/
theorem mem_pre {l : Mems} {i : Nat} (h : i < l.length) : memE l i = if firstE [whenE (!nameB l[i].1) 8, rangeE l[i].2 1 1000] = 0 then whenE ((mget (knownM l i) (nmE l i)).getD false) 9 else firstE [whenE (!nameB l[i].1) 8, rangeE l[i].2 1 1000] := by
  have e : memE l i = firstE ([whenE (!nameB l[i].1) 8, rangeE l[i].2 1 1000] ++ [whenE ((mget (knownM l i) (nmE l i)).getD false) 9]) := by rw [nmE_eq h, wgtE_eq h] <;> rfl
  rw [e, firstE_app, firstE_one]
theorem mem_nine {l : Mems} {i k : Nat} (h : i < l.length) (hk : k < i) (h0 : firstE [whenE (!nameB l[i].1) 8, rangeE l[i].2 1 1000] = 0) (e : l[k].1 = l[i].1) : memE l i = 9 := by
  rw [mem_pre h, if_pos h0, (known_iff i).2 ⟨k, hk, by rw [← nmE_eq (by omega), ← nmE_eq h]; exact e⟩] <;> rfl
theorem mem_zero {l : Mems} {i : Nat} (h : i < l.length) (h0 : firstE [whenE (!nameB l[i].1) 8, rangeE l[i].2 1 1000] = 0) (e : ∀ k (hk : k < i), ¬ l[k].1 = l[i].1) : memE l i = 0 := by
  rw [mem_pre h, if_pos h0]
  cases hb : (mget (knownM l i) (nmE l i)).getD false with
  | false => rfl
  | true =>
    obtain ⟨k, hk, h2⟩ := (known_iff i).1 hb
    rw [← nmE_eq (by omega), ← nmE_eq h] at h2
    exact absurd h2 (e k hk)
theorem domP_pre {d : Int × Int × Int × Mems} : domP d = if firstE [rangeE d.1 1 8, rangeE d.2.1 1 8, rangeE d.2.2.1 1 96] = 0 then (if (d.2.2.2.length : Int) = 0 then 12 else if (16 : Int) < d.2.2.2.length then 5 else 0) else firstE [rangeE d.1 1 8, rangeE d.2.1 1 8, rangeE d.2.2.1 1 96] := by
  have e : domP d = firstE ([rangeE d.1 1 8, rangeE d.2.1 1 8, rangeE d.2.2.1 1 96] ++ [whenE (decide ((d.2.2.2.length : Int) = 0)) 12, whenE (decide ((16 : Int) < d.2.2.2.length)) 5]) := rfl
  rw [e, firstE_app]
  congr 1
  by_cases h1 : (d.2.2.2.length : Int) = 0
  · rw [whenE_t h1, if_pos h1] <;> rfl
  · rw [whenE_f h1, if_neg h1]
    by_cases h2 : (16 : Int) < d.2.2.2.length
    · rw [whenE_t h2, if_pos h2] <;> rfl
    · rw [whenE_f h2, if_neg h2] <;> rfl
theorem rDom_ok {d : Int × Int × Int × (List (ByteArray × Int))} : VF Tryz.prog OA 81 [.v y95 d] (I (domE d)) := by
  refine VF.enter Tryz.func81 rfl (fun _ _ => rfl) rfl ?_
  show VC _ _ _ _ _ [(0, .v y95 d)] [] _
  refine VC.seq ?_
  refine VC.text ?_
  refine VO.new (.box) ?_
  refine VO.c (.assign rfl) ?_
  refine VO.go ?_
  refine VC.seq ?_
  refine VC.seq ?_
  refine VC.drawn ?_
  refine VD.c (.fa (.l .o)) ?_
  refine VD.r [] (.ld vt3) (.inl rfl) ?_
  refine VD.call rfl rfl (VF.call (rCheckRange_ok )) ?_
  refine VD.c (.fa (.r (.l .o))) ?_
  refine VD.r [] (.ld vt3) (.inl rfl) ?_
  refine VD.call rfl rfl (VF.call (rCheckRange_ok )) ?_
  refine VD.nw [] ?_
  refine VD.c (.fa (.r (.r (.l .o)))) ?_
  refine VD.r [] (.ld vt3) (.inl rfl) ?_
  refine VD.call rfl rfl (VF.call (rCheckRange_ok )) ?_
  refine VD.new (.lit [rangeE d.1 (1 : Int) (8 : Int), rangeE d.2.1 (1 : Int) (8 : Int), rangeE d.2.2.1 (1 : Int) (96 : Int)] el22) ?_
  refine VD.callO rfl rfl (VF.call (rFirst_ok (by first | assumption | omega | simp))) ?_
  refine VD.c (.assign rfl) ?_
  refine VD.go ?_
  refine VC.seq ?_
  refine VC.text ?_
  refine VO.c (.move rfl) ?_
  refine VO.c (.neq) ?_
  refine VO.go ?_
  refine VC.condD rfl (fun c2 => ?_) (fun c2 => ?_)
  · have hp : domP d ≠ 0 := by rw [domP_pre, if_neg c2]; exact c2
    refine VC.seq ?_
    refine VC.text ?_
    refine VO.c (.move rfl) ?_
    refine VO.c (.assign rfl) ?_
    refine VO.go ?_
    refine VC.ret ?_
    exact VEnd.one rfl evT (pvI (by rw [domE, if_neg hp, domP_pre, if_neg c2]))
  · have c2' : firstE [rangeE d.1 1 8, rangeE d.2.1 1 8, rangeE d.2.2.1 1 96] = 0 := by simpa using c2
    refine VC.skip ?_
    show VC _ _ _ _ _ _ _ _
    refine VC.seq ?_
    refine VC.seq ?_
    refine VC.text ?_
    refine VO.c (.fa (.r (.r (.r .o)))) ?_
    refine VO.r (.ld vt93) ?_
    refine VO.r (.len el93) ?_
    refine VO.c (.eql) ?_
    refine VO.go ?_
    refine VC.condD rfl (fun c4 => ?_) (fun c4 => ?_)
    · refine VC.seq ?_
      refine VC.text ?_
      refine VO.c (.assign rfl) ?_
      refine VO.go ?_
      refine VC.ret ?_
      exact VEnd.one rfl evT (pvI (by rw [domE, domP_pre, if_pos c2', if_pos c4] <;> rfl))
    · refine VC.skip ?_
      show VC _ _ _ _ _ _ _ _
      refine VC.seq ?_
      refine VC.seq ?_
      refine VC.text ?_
      refine VO.c (.fa (.r (.r (.r .o)))) ?_
      refine VO.r (.ld vt93) ?_
      refine VO.r (.len el93) ?_
      refine VO.c (.gtr) ?_
      refine VO.go ?_
      refine VC.condD rfl (fun c6 => ?_) (fun c6 => ?_)
      · refine VC.seq ?_
        refine VC.text ?_
        refine VO.c (.assign rfl) ?_
        refine VO.go ?_
        refine VC.ret ?_
        exact VEnd.one rfl evT (pvI (by rw [domE, domP_pre, if_pos c2', if_neg c4, if_pos c6] <;> rfl))
      · have hl : d.2.2.2.length ≤ 16 := by omega
        have hp : domP d = 0 := by rw [domP_pre, if_pos c2', if_neg c4, if_neg c6]
        refine VC.skip ?_
        show VC _ _ _ _ _ _ _ _
        refine VC.seq ?_
        refine VC.seq ?_
        refine VC.text ?_
        refine VO.c (.assign rfl) ?_
        refine VO.go ?_
        refine VC.block ?_
        refine VC.keep [(1, .p y95 d), (4, I ((0 : Nat) : Int))] ⟨rfl, rfl, trivial⟩ ?_
        refine VC.loop (I := fun kk ff ss => ∃ (i : Nat), kk = d.2.2.2.length - i ∧ ff = [(1, .p y95 d), (4, I ((i : Nat) : Int))] ∧ ss = [] ∧ (i ≤ d.2.2.2.length) ∧ (∀ k, k < i → memE d.2.2.2 k = 0)) ?_ _ _ _ ⟨0, rfl, rfl, rfl, Nat.zero_le _, (by intro k hk; omega)⟩
        rintro kk ff ss ⟨i, hk0, rfl, rfl, hi, hz⟩
        refine VC.seq ?_
        refine VC.seq ?_
        refine VC.text ?_
        refine VO.c (.move rfl) ?_
        refine VO.c (.fa (.r (.r (.r .o)))) ?_
        refine VO.r (.ld vt93) ?_
        refine VO.r (.len el93) ?_
        refine VO.c (.lss) ?_
        refine VO.go ?_
        refine VC.condD rfl (fun c9 => ?_) (fun c9 => ?_)
        · have hi' : i < d.2.2.2.length := by omega
          refine VC.skip ?_
          show VC _ _ _ _ _ _ _ _
          refine VC.seq ?_
          refine VC.block ?_
          refine VC.seq ?_
          refine VC.seq ?_
          refine VC.drawn ?_
          refine VD.c (.fa (.r (.r (.r .o)))) ?_
          refine VD.r [] (.ld vt93) (.inl rfl) ?_
          refine VD.c (.move rfl) ?_
          refine VD.c (.ix (j := i) rfl rfl el93 (by omega)) ?_
          refine VD.c (.fa (.l .o)) ?_
          refine VD.r [] (.ld vt9) (.inl rfl) ?_
          refine VD.nw [] ?_
          refine VD.call rfl rfl (VF.call (rNameE_ok )) ?_
          refine VD.c (.fa (.r (.r (.r .o)))) ?_
          refine VD.r [] (.ld vt93) (.inl rfl) ?_
          refine VD.c (.move rfl) ?_
          refine VD.c (.ix (j := i) rfl rfl el93 (by omega)) ?_
          refine VD.c (.fa (.r .o)) ?_
          refine VD.r [] (.ld vt3) (.inl rfl) ?_
          refine VD.nw [] ?_
          refine VD.call rfl rfl (VF.call (rCheckRange_ok )) ?_
          refine VD.new (.lit [whenE (!nameB ((d.2.2.2[i]).1)) 8, rangeE ((d.2.2.2[i]).2) (1 : Int) (1000 : Int)] el22) ?_
          refine VD.callO rfl rfl (VF.call (rFirst_ok (by first | assumption | omega | simp))) ?_
          refine VD.c (.assign rfl) ?_
          refine VD.go ?_
          refine VC.seq ?_
          refine VC.text ?_
          refine VO.c (.move rfl) ?_
          refine VO.c (.neq) ?_
          refine VO.go ?_
          refine VC.condD rfl (fun c12 => ?_) (fun c12 => ?_)
          · have hm : memE d.2.2.2 i ≠ 0 := by rw [mem_pre hi', if_neg c12]; exact c12
            refine VC.seq ?_
            refine VC.text ?_
            refine VO.c (.move rfl) ?_
            refine VO.c (.assign rfl) ?_
            refine VO.go ?_
            refine VC.ret ?_
            exact VEnd.one rfl evT (pvI (by rw [domE, if_pos hp, ← firstE_range hi' hz hm, mem_pre hi', if_neg c12]))
          · have c12' : firstE [whenE (!nameB d.2.2.2[i].1) 8, rangeE d.2.2.2[i].2 1 1000] = 0 := by simpa using c12
            refine VC.skip ?_
            show VC _ _ _ _ _ _ _ _
            refine VC.seq ?_
            refine VC.text ?_
            refine VO.c (.assign rfl) ?_
            refine VO.go ?_
            refine VC.block ?_
            refine VC.keep [(1, .p y95 d), (4, I ((i : Nat) : Int)), (6, I ((0 : Nat) : Int))] ⟨rfl, rfl, rfl, trivial⟩ ?_
            refine VC.loop (I := fun kk ff ss => ∃ (k : Nat), kk = i - k ∧ ff = [(1, .p y95 d), (4, I ((i : Nat) : Int)), (6, I ((k : Nat) : Int))] ∧ ss = [] ∧ (k ≤ i) ∧ (∀ j (hj : j < k) (hj' : j < d.2.2.2.length), ¬ d.2.2.2[j].1 = d.2.2.2[i].1)) ?_ _ _ _ ⟨0, rfl, rfl, rfl, Nat.zero_le _, (by intro j hj; omega)⟩
            rintro kk ff ss ⟨k, hk2, rfl, rfl, hk, hn⟩
            refine VC.seq ?_
            refine VC.seq ?_
            refine VC.text ?_
            refine VO.c (.move rfl) ?_
            refine VO.c (.move rfl) ?_
            refine VO.c (.lss) ?_
            refine VO.go ?_
            refine VC.condD rfl (fun c15 => ?_) (fun c15 => ?_)
            · refine VC.skip ?_
              show VC _ _ _ _ _ _ _ _
              refine VC.seq ?_
              refine VC.block ?_
              refine VC.seq ?_
              refine VC.drawn ?_
              refine VD.c (.fa (.r (.r (.r .o)))) ?_
              refine VD.r [] (.ld vt93) (.inl rfl) ?_
              refine VD.c (.move rfl) ?_
              refine VD.c (.ix (j := k) rfl rfl el93 (by omega)) ?_
              refine VD.c (.fa (.l .o)) ?_
              refine VD.r [] (.ld vt9) (.inl rfl) ?_
              refine VD.nw [] ?_
              refine VD.c (.fa (.r (.r (.r .o)))) ?_
              refine VD.r [] (.ld vt93) (.inl rfl) ?_
              refine VD.c (.move rfl) ?_
              refine VD.c (.ix (j := i) rfl rfl el93 (by omega)) ?_
              refine VD.c (.fa (.l .o)) ?_
              refine VD.r [] (.ld vt9) (.inl rfl) ?_
              refine VD.c (.seql) ?_
              refine VD.go ?_
              refine VC.condD rfl (fun c17 => ?_) (fun c17 => ?_)
              · have hm := mem_nine hi' (show k < i by omega) c12' c17
                refine VC.seq ?_
                refine VC.text ?_
                refine VO.c (.assign rfl) ?_
                refine VO.go ?_
                refine VC.ret ?_
                exact VEnd.one rfl evT (pvI (by rw [domE, if_pos hp, ← firstE_range hi' hz (by rw [hm]; decide), hm]))
              · refine VC.skip ?_
                show VC _ _ _ _ _ _ _ _
                refine VC.text ?_
                refine VO.c (.move rfl) ?_
                refine VO.c (.add rfl rfl (by omega)) ?_
                refine VO.c (.assign rfl) ?_
                refine VO.nil ?_
                refine ⟨_, [(1, .p y95 d), (4, I ((i : Nat) : Int)), (6, I (((k + 1) : Nat) : Int))], ?_, ⟨rfl, rfl, rfl, trivial⟩, (k + 1), rfl, rfl, rfl, (by omega), (by intro j hj hj'; rcases Nat.lt_succ_iff_lt_or_eq.1 hj with h | h; exact hn j h hj'; subst h; exact c17)⟩
                omega
            · refine VC.exit ?_
              show VC _ _ _ _ _ _ _ _
              refine VC.text ?_
              refine VO.c (.move rfl) ?_
              refine VO.c (.add rfl rfl (by omega)) ?_
              refine VO.c (.assign rfl) ?_
              refine VO.nil ?_
              refine ⟨_, [(1, .p y95 d), (4, I (((i + 1) : Nat) : Int))], ?_, ⟨rfl, rfl, trivial⟩, (i + 1), rfl, rfl, rfl, (by omega), (by intro k hk; rcases Nat.lt_succ_iff_lt_or_eq.1 hk with h | h; exact hz k h; subst h; exact mem_zero (by omega) c12' (fun j hj => hn j (by omega) (by omega)))⟩
              omega
        · refine VC.exit ?_
          show VC _ _ _ _ _ _ _ _
          refine VC.seq ?_
          refine VC.text ?_
          refine VO.c (.assign rfl) ?_
          refine VO.go ?_
          refine VC.ret ?_
          exact VEnd.one rfl evT (pvI (by rw [domE, if_pos hp]; exact firstE_range0 (fun k hk => hz k (by omega))))
def memAt (l : Mems) (x : ByteArray) : Int := if l.findIdx (fun m => decide (m.1 = x)) < l.length then (l.findIdx (fun m => decide (m.1 = x)) : Nat) else -1
theorem memAt_some {l : Mems} {x : ByteArray} {i : Nat} (h : i < l.length) (he : l[i].1 = x) (hn : ∀ k (hk : k < i), ¬ l[k].1 = x) : ((i : Nat) : Int) = memAt l x := by
  have e : l.findIdx (fun m => decide (m.1 = x)) = i := (List.findIdx_eq h).2 ⟨decide_eq_true he, fun j hj => decide_eq_false (hn j hj)⟩
  rw [memAt, e, if_pos h]
theorem memAt_none {l : Mems} {x : ByteArray} (hn : ∀ k (hk : k < l.length), ¬ l[k].1 = x) : -1 = memAt l x := by
  have e : l.findIdx (fun m => decide (m.1 = x)) = l.length := List.findIdx_eq_length.2 fun m hm => by
    obtain ⟨k, hk, rfl⟩ := List.getElem_of_mem hm
    exact decide_eq_false (hn k hk)
  rw [memAt, e, if_neg (by omega)]
theorem rMemAt_ok {d : Int × Int × Int × (List (ByteArray × Int))} {x : ByteArray} (hl : d.2.2.2.length ≤ 16) : VF Tryz.prog OA 131 [.v y95 d, St x] (I (memAt d.2.2.2 x)) := by
  refine VF.enter Tryz.func131 rfl (fun _ _ => rfl) rfl ?_
  show VC _ _ _ _ _ [(0, .v y95 d), (1, St x)] [] _
  refine VC.seq ?_
  refine VC.text ?_
  refine VO.new (.box) ?_
  refine VO.c (.assign rfl) ?_
  refine VO.go ?_
  refine VC.seq ?_
  refine VC.seq ?_
  refine VC.text ?_
  refine VO.c (.assign rfl) ?_
  refine VO.go ?_
  refine VC.block ?_
  refine VC.keep [(1, St x), (2, .p y95 d), (5, I ((0 : Nat) : Int))] ⟨rfl, rfl, rfl, trivial⟩ ?_
  refine VC.loop (I := fun kk ff ss => ∃ (i : Nat), kk = d.2.2.2.length - i ∧ ff = [(1, St x), (2, .p y95 d), (5, I ((i : Nat) : Int))] ∧ ss = [] ∧ (i ≤ d.2.2.2.length) ∧ (∀ j (hj : j < i) (hj' : j < d.2.2.2.length), ¬ d.2.2.2[j].1 = x)) ?_ _ _ _ ⟨0, rfl, rfl, rfl, Nat.zero_le _, (by intro j hj; omega)⟩
  rintro kk ff ss ⟨i, hk0, rfl, rfl, hi, hn⟩
  refine VC.seq ?_
  refine VC.seq ?_
  refine VC.text ?_
  refine VO.c (.move rfl) ?_
  refine VO.c (.fa (.r (.r (.r .o)))) ?_
  refine VO.r (.ld vt93) ?_
  refine VO.r (.len el93) ?_
  refine VO.c (.lss) ?_
  refine VO.go ?_
  refine VC.condD rfl (fun c2 => ?_) (fun c2 => ?_)
  · refine VC.skip ?_
    show VC _ _ _ _ _ _ _ _
    refine VC.seq ?_
    refine VC.block ?_
    refine VC.seq ?_
    refine VC.text ?_
    refine VO.c (.fa (.r (.r (.r .o)))) ?_
    refine VO.r (.ld vt93) ?_
    refine VO.c (.move rfl) ?_
    refine VO.c (.ix (j := i) rfl rfl el93 (by omega)) ?_
    refine VO.c (.fa (.l .o)) ?_
    refine VO.r (.ld vt9) ?_
    refine VO.c (.move rfl) ?_
    refine VO.c (.seql) ?_
    refine VO.go ?_
    refine VC.condD rfl (fun c4 => ?_) (fun c4 => ?_)
    · refine VC.seq ?_
      refine VC.text ?_
      refine VO.c (.move rfl) ?_
      refine VO.c (.assign rfl) ?_
      refine VO.go ?_
      refine VC.ret ?_
      exact VEnd.one rfl evT (pvI (by exact memAt_some (by omega) c4 (fun k hk => hn k hk (by omega))))
    · refine VC.skip ?_
      show VC _ _ _ _ _ _ _ _
      refine VC.text ?_
      refine VO.c (.move rfl) ?_
      refine VO.c (.add rfl rfl (by omega)) ?_
      refine VO.c (.assign rfl) ?_
      refine VO.nil ?_
      refine ⟨_, [(1, St x), (2, .p y95 d), (5, I (((i + 1) : Nat) : Int))], ?_, ⟨rfl, rfl, rfl, trivial⟩, (i + 1), rfl, rfl, rfl, (by omega), (by intro j hj hj'; rcases Nat.lt_succ_iff_lt_or_eq.1 hj with h | h; exact hn j h hj'; subst h; exact c4)⟩
      omega
  · refine VC.exit ?_
    show VC _ _ _ _ _ _ _ _
    refine VC.seq ?_
    refine VC.text ?_
    refine VO.c (.assign rfl) ?_
    refine VO.go ?_
    refine VC.ret ?_
    exact VEnd.one rfl evT (pvI (by exact memAt_none (fun k hk => hn k (by omega) hk)))
end Go.Proofs
namespace Go.Proofs
open Go.Fs Ieee
set_option linter.unusedVariables false
abbrev y108 : Ty := (.sl (.pair (.int .i64) (.pair .str (.pair (.int .i64) (.pair (.int .i64) (.sl (.flt .f32)))))))
abbrev y160 : Ty := (.pair (.int .i64) (.pair .str (.pair (.int .i64) (.pair (.int .i64) (.sl (.flt .f32))))))
abbrev y229 : Ty := (.sl (.pair (.pair (.int .i64) (.pair .str (.pair (.int .i64) (.pair (.int .i64) (.sl (.flt .f32)))))) (.int .i64)))
abbrev y232 : Ty := (.pair (.pair (.int .i64) (.pair .str (.pair (.int .i64) (.pair (.int .i64) (.sl (.flt .f32)))))) (.int .i64))
theorem vt106 : ValT Tryz.prog 106 y106 := valT_of (by kernel_rfl)
theorem vt160 : ValT Tryz.prog 160 y160 := valT_of (by kernel_rfl)
theorem vt205 : ValT Tryz.prog 205 y205 := valT_of (by kernel_rfl)
theorem vt232 : ValT Tryz.prog 232 y232 := valT_of (by kernel_rfl)
theorem el108 : ElT Tryz.prog 108 160 y160 := elT_of (by kernel_rfl)
theorem el229 : ElT Tryz.prog 229 232 y232 := elT_of (by kernel_rfl)
theorem zt160 : ZerT Tryz.prog 160 y160 := zerT_of (z := .agg #[.int .i64 0, .string ByteArray.empty, .int .i64 0, .int .i64 0, .slice none 0 0]) (by kernel_rfl) rfl rfl
theorem zt205 : ZerT Tryz.prog 205 y205 := zerT_of (z := .map none) (by kernel_rfl) rfl rfl
theorem zt232 : ZerT Tryz.prog 232 y232 := zerT_of (z := .agg #[.int .i64 0, .string ByteArray.empty, .int .i64 0, .int .i64 0, .slice none 0 0, .int .i64 0]) (by kernel_rfl) rfl rfl
theorem bt232 : BldT Tryz.prog 232 y232 [(0, 5), (5, 1)] := bldT_of zt232 rfl (by kernel_rfl)
/-! ## Pieces and stores -/
abbrev Dom := Int × Int × Int × Mems
abbrev Pc := Int × ByteArray × Int × Int × List Nat
theorem dom_ok {d : Dom} (h : domE d = 0) : (1 ≤ d.1 ∧ d.1 ≤ 8) ∧ (1 ≤ d.2.1 ∧ d.2.1 ≤ 8) ∧ (1 ≤ d.2.2.1 ∧ d.2.2.1 ≤ 96) ∧ d.2.2.2.length ≤ 16 ∧ d.2.2.2.length ≠ 0 ∧ ∀ k, k < d.2.2.2.length → memE d.2.2.2 k = 0 := by
  unfold domE at h
  split at h
  · rename_i h0
    have hl := domP_len h0
    rw [firstE_zero] at h
    unfold domP at h0
    rw [firstE_zero] at h0
    exact ⟨rangeE_zero.1 (h0 _ (by simp)), rangeE_zero.1 (h0 _ (by simp)), rangeE_zero.1 (h0 _ (by simp)), hl.1, hl.2, fun k hk => h _ (List.mem_map_of_mem (List.mem_range.2 hk))⟩
  · contradiction
def hasM (d : Dom) (x : ByteArray) : Option Int := mget (idxM d.2.2.2 d.2.2.2.length) x
def pcPre (d : Dom) (p : Pc) : Int := firstE [rangeE p.1 0 100000, whenE (!(hasM d p.2.1).isSome) 10, rangeE p.2.2.1 0 (d.2.2.1 - 1), rangeE p.2.2.2.1 0 (d.1 - 1), whenE (decide ((p.2.2.2.2.length : Int) ≠ d.2.1)) 2]
def pcE (d : Dom) (p : Pc) : Int := if pcPre d p = 0 then firstE (p.2.2.2.2.map lvlE) else pcPre d p
theorem sTime_ok {t : Int} : VF Tryz.prog OA 125 [I t] (I (rangeE t 0 100000)) := by
  refine VF.enter Tryz.func125 rfl (fun _ _ => rfl) rfl ?_
  show VC _ _ _ _ _ [(0, I t)] [] _
  refine VC.seq ?_
  refine VC.text ?_
  refine VO.c (.assign rfl) ?_
  refine VO.go ?_
  refine VC.seq ?_
  refine VC.text ?_
  refine VO.c (.move rfl) ?_
  refine VO.call rfl rfl (VF.call (sWithin_ok )) ?_
  refine VO.c (.assign rfl) ?_
  refine VO.go ?_
  refine VC.ret ?_
  exact VEnd.one rfl evT (pvI (by first | rfl | simp))
theorem sPc_ok {d : Int × Int × Int × (List (ByteArray × Int))} {p : Int × ByteArray × Int × Int × (List Nat)} (hd : domE d = 0) (hv : p.2.2.2.2.length < 100000) : VF Tryz.prog OA 153 [.v y106 d, .v y160 p] (I (pcE d p)) := by
  refine VF.enter Tryz.func153 rfl (fun _ _ => rfl) rfl ?_
  show VC _ _ _ _ _ [(0, .v y106 d), (1, .v y160 p)] [] _
  refine VC.seq ?_
  refine VC.text ?_
  have hdd := dom_ok hd
  refine VO.new (.box) ?_
  refine VO.new (.box) ?_
  refine VO.c (.assign rfl) ?_
  refine VO.go ?_
  refine VC.seq ?_
  refine VC.drawn ?_
  refine VD.r [] (.ld vt106) (.inl rfl) ?_
  refine VD.call rfl rfl (VF.call (sMems_ok (by omega))) ?_
  refine VD.c (.fa (.r (.l .o))) ?_
  refine VD.r [] (.ld vt9) (.inl rfl) ?_
  refine VD.ro (.lookOk mt205) ?_
  refine VD.c (.move rfl) ?_
  refine VD.nw [8, 13, 10] ?_
  refine VD.c (.extract) ?_
  refine VD.c (.extract) ?_
  refine VD.c (.assign rfl) ?_
  refine VD.c (.assign rfl) ?_
  refine VD.go ?_
  refine VC.seq ?_
  refine VC.seq ?_
  refine VC.drawn ?_
  refine VD.c (.fa (.l .o)) ?_
  refine VD.r [] (.ld vt3) (.inl rfl) ?_
  refine VD.call rfl rfl (VF.call (sTime_ok )) ?_
  refine VD.c (.move rfl) ?_
  refine VD.c (.not) ?_
  refine VD.call rfl rfl (VF.call (sWhen_ok )) ?_
  refine VD.nw [] ?_
  refine VD.c (.fa (.r (.r (.l .o)))) ?_
  refine VD.r [] (.ld vt3) (.inl rfl) ?_
  refine VD.c (.fa (.r (.r (.l .o)))) ?_
  refine VD.r [] (.ld vt3) (.inl rfl) ?_
  refine VD.c (.sub rfl rfl (by omega)) ?_
  refine VD.call rfl rfl (VF.call (sWithin_ok )) ?_
  refine VD.c (.fa (.r (.r (.r (.l .o))))) ?_
  refine VD.nw [] ?_
  refine VD.r [] (.ld vt3) (.inl rfl) ?_
  refine VD.c (.fa (.l .o)) ?_
  refine VD.r [] (.ld vt3) (.inl rfl) ?_
  refine VD.c (.sub rfl rfl (by omega)) ?_
  refine VD.call rfl rfl (VF.call (sWithin_ok )) ?_
  refine VD.c (.fa (.r (.r (.r (.r .o))))) ?_
  refine VD.r [] (.ld vt124) (.inl rfl) ?_
  refine VD.nw [] ?_
  refine VD.r [] (.len el124) (.inl rfl) ?_
  refine VD.c (.fa (.r (.l .o))) ?_
  refine VD.r [] (.ld vt3) (.inl rfl) ?_
  refine VD.c (.neq) ?_
  refine VD.call rfl rfl (VF.call (sWhen_ok )) ?_
  refine VD.new (.lit [rangeE p.1 0 100000, whenE (!((mget (idxM d.2.2.2 d.2.2.2.length) p.2.1).isSome)) (10 : Int), rangeE p.2.2.1 (0 : Int) (d.2.2.1 - (1 : Int)), rangeE p.2.2.2.1 (0 : Int) (d.1 - (1 : Int)), whenE (decide (((p.2.2.2.2.length : Nat) : Int) ≠ d.2.1)) (2 : Int)] el179) ?_
  refine VD.callO rfl rfl (VF.call (sFirst_ok (by first | assumption | omega | simp))) ?_
  refine VD.nw [41] ?_
  refine VD.c (.assign rfl) ?_
  refine VD.go ?_
  refine VC.seq ?_
  refine VC.keep [(3, .p y160 p), (7, I (firstE [rangeE p.1 0 100000, whenE (!((mget (idxM d.2.2.2 d.2.2.2.length) p.2.1).isSome)) (10 : Int), rangeE p.2.2.1 (0 : Int) (d.2.2.1 - (1 : Int)), rangeE p.2.2.2.1 (0 : Int) (d.1 - (1 : Int)), whenE (decide (((p.2.2.2.2.length : Nat) : Int) ≠ d.2.1)) (2 : Int)]))] ⟨rfl, rfl, trivial⟩ ?_
  refine VC.text ?_
  refine VO.c (.move rfl) ?_
  refine VO.c (.neq) ?_
  refine VO.go ?_
  refine VC.condD rfl (fun c3 => ?_) (fun c3 => ?_)
  · have c3' : ¬ pcPre d p = 0 := c3
    refine VC.seq ?_
    refine VC.text ?_
    refine VO.c (.move rfl) ?_
    refine VO.c (.assign rfl) ?_
    refine VO.go ?_
    refine VC.ret ?_
    exact VEnd.one rfl evT (pvI (by rw [pcE, if_neg c3'] <;> rfl))
  · have c3' : pcPre d p = 0 := by simpa [pcPre, hasM] using c3
    refine VC.skip ?_
    show VC _ _ _ _ _ _ _ _
    refine VC.seq ?_
    refine VC.text ?_
    refine VO.c (.fa (.r (.r (.r (.r .o))))) ?_
    refine VO.r (.ld vt124) ?_
    refine VO.call rfl rfl (VF.call (sMapFE_ok (F := lvlE) hv (fun _ _ => VF.call gLv_ok))) ?_
    refine VO.call rfl rfl (VF.call (sFirst_ok (by simp; omega))) ?_
    refine VO.c (.assign rfl) ?_
    refine VO.go ?_
    refine VC.ret ?_
    exact VEnd.one rfl evT (pvI (by rw [pcE, if_pos c3']))
def cmpI (a b : Int) : Int := if a < b then -1 else if b < a then 1 else 0
theorem cCmp_ok {a : Int} {b : Int} : VF Tryz.prog OA 181 [I a, I b] (I (cmpI a b)) := by
  refine VF.enter Tryz.func181 rfl (fun _ _ => rfl) rfl ?_
  show VC _ _ _ _ _ [(0, I a), (1, I b)] [] _
  refine VC.seq ?_
  refine VC.text ?_
  refine VO.c (.assign rfl) ?_
  refine VO.go ?_
  refine VC.seq ?_
  refine VC.text ?_
  refine VO.c (.move rfl) ?_
  refine VO.call rfl rfl (VF.call (cNaN_ok )) ?_
  refine VO.c (.assign rfl) ?_
  refine VO.go ?_
  refine VC.seq ?_
  refine VC.text ?_
  refine VO.c (.move rfl) ?_
  refine VO.call rfl rfl (VF.call (cNaN_ok )) ?_
  refine VO.c (.assign rfl) ?_
  refine VO.go ?_
  refine VC.seq ?_
  refine VC.seq ?_
  refine VC.text ?_
  refine VO.c (.move rfl) ?_
  refine VO.go ?_
  refine VC.condF rfl ?_
  refine VC.skip ?_
  show VC _ _ _ _ _ _ _ _
  refine VC.seq ?_
  refine VC.seq ?_
  refine VC.text ?_
  refine VO.c (.move rfl) ?_
  refine VO.go ?_
  refine VC.condF rfl ?_
  refine VC.skip ?_
  show VC _ _ _ _ _ _ _ _
  refine VC.seq ?_
  refine VC.seq ?_
  refine VC.text ?_
  refine VO.c (.move rfl) ?_
  refine VO.c (.move rfl) ?_
  refine VO.c (.lss) ?_
  refine VO.go ?_
  refine VC.condD rfl (fun c9 => ?_) (fun c9 => ?_)
  · refine VC.seq ?_
    refine VC.text ?_
    refine VO.c (.assign rfl) ?_
    refine VO.go ?_
    refine VC.ret ?_
    exact VEnd.one rfl evT (pvI (by rw [cmpI, if_pos c9]))
  · refine VC.skip ?_
    show VC _ _ _ _ _ _ _ _
    refine VC.seq ?_
    refine VC.seq ?_
    refine VC.text ?_
    refine VO.c (.move rfl) ?_
    refine VO.c (.move rfl) ?_
    refine VO.c (.gtr) ?_
    refine VO.go ?_
    refine VC.condD rfl (fun c11 => ?_) (fun c11 => ?_)
    · refine VC.seq ?_
      refine VC.text ?_
      refine VO.c (.assign rfl) ?_
      refine VO.go ?_
      refine VC.ret ?_
      exact VEnd.one rfl evT (pvI (by rw [cmpI, if_neg c9, if_pos c11]))
    · refine VC.skip ?_
      show VC _ _ _ _ _ _ _ _
      refine VC.seq ?_
      refine VC.text ?_
      refine VO.c (.assign rfl) ?_
      refine VO.go ?_
      refine VC.ret ?_
      exact VEnd.one rfl evT (pvI (by rw [cmpI, if_neg c9, if_neg c11]))
theorem cOr_ok {l : List Int} (hl : l.length < 1000000) : VF Tryz.prog OA 180 [.v y22 l] (I (firstE l)) := by
  refine VF.enter Tryz.func180 rfl (fun _ _ => rfl) rfl ?_
  show VC _ _ _ _ _ [(0, .v y22 l)] [] _
  refine VC.seq ?_
  refine VC.text ?_
  refine VO.c (.assign rfl) ?_
  refine VO.go ?_
  refine VC.seq ?_
  refine VC.text ?_
  refine VO.c (.assign rfl) ?_
  refine VO.go ?_
  refine VC.seq ?_
  refine VC.seq ?_
  refine VC.text ?_
  refine VO.c (.move rfl) ?_
  refine VO.r (.len el22) ?_
  refine VO.c (.move rfl) ?_
  refine VO.go ?_
  refine VC.block ?_
  refine VC.keep [(3, I (0 : Int)), (6, .v y22 l), (7, I ((l.length : Nat) : Int)), (8, I ((0 : Nat) : Int))] ⟨rfl, rfl, rfl, rfl, trivial⟩ ?_
  refine VC.loop (I := fun kk ff ss => ∃ (j : Nat), kk = l.length - j ∧ ff = [(3, I (0 : Int)), (6, .v y22 l), (7, I ((l.length : Nat) : Int)), (8, I ((j : Nat) : Int))] ∧ ss = [] ∧ (j ≤ l.length) ∧ (firstE l = firstE (l.drop j))) ?_ _ _ _ ⟨0, rfl, rfl, rfl, Nat.zero_le _, (by rfl)⟩
  rintro kk ff ss ⟨j, hk0, rfl, rfl, hj, hf⟩
  refine VC.seq ?_
  refine VC.text ?_
  refine VO.c (.lss) ?_
  refine VO.go ?_
  refine VC.seq ?_
  refine VC.condD rfl (fun c3 => ?_) (fun c3 => ?_)
  · refine VC.skip ?_
    show VC _ _ _ _ _ _ _ _
    refine VC.seq ?_
    refine VC.block ?_
    refine VC.seq ?_
    refine VC.text ?_
    refine VO.c (.ix (j := j) rfl rfl el22 (by omega)) ?_
    refine VO.r (.ld vt3) ?_
    refine VO.c (.assign rfl) ?_
    refine VO.go ?_
    refine VC.seq ?_
    refine VC.text ?_
    refine VO.c (.move rfl) ?_
    refine VO.c (.move rfl) ?_
    refine VO.c (.neq) ?_
    refine VO.go ?_
    refine VC.condD rfl (fun c5 => ?_) (fun c5 => ?_)
    · refine VC.seq ?_
      refine VC.text ?_
      refine VO.c (.move rfl) ?_
      refine VO.c (.assign rfl) ?_
      refine VO.go ?_
      refine VC.ret ?_
      exact VEnd.one rfl evT (pvI (by rw [hf, firstE_drop (by omega), if_neg c5]))
    · refine VC.skip ?_
      show VC _ _ _ _ _ _ _ _
      refine VC.text ?_
      refine VO.c (.add rfl rfl (by omega)) ?_
      refine VO.c (.move rfl) ?_
      refine VO.nil ?_
      refine ⟨_, [(3, I (0 : Int)), (6, .v y22 l), (7, I ((l.length : Nat) : Int)), (8, I (((j + 1) : Nat) : Int))], ?_, ⟨rfl, rfl, rfl, rfl, trivial⟩, (j + 1), rfl, rfl, rfl, (by omega), (by rw [hf, firstE_drop (by omega), if_pos (by simpa using c5)])⟩
      omega
  · refine VC.exit ?_
    show VC _ _ _ _ _ _ _ _
    refine VC.seq ?_
    refine VC.text ?_
    refine VO.c (.move rfl) ?_
    refine VO.c (.assign rfl) ?_
    refine VO.go ?_
    refine VC.ret ?_
    exact VEnd.one rfl evT (pvI (by rw [hf, firstE_end (by omega)]))
def cmpP (a b : Pc × Int) : Int := firstE [cmpI a.1.1 b.1.1, cmpI a.2 b.2, cmpI a.1.2.2.1 b.1.2.2.1, cmpI a.1.2.2.2.1 b.1.2.2.2.1]
theorem sCmpP_ok {a : (Int × ByteArray × Int × Int × (List Nat)) × Int} {b : (Int × ByteArray × Int × Int × (List Nat)) × Int} : VF Tryz.prog OA 148 [.v y232 a, .v y232 b] (I (cmpP a b)) := by
  refine VF.enter Tryz.func148 rfl (fun _ _ => rfl) rfl ?_
  show VC _ _ _ _ _ [(0, .v y232 a), (1, .v y232 b)] [] _
  refine VC.seq ?_
  refine VC.text ?_
  refine VO.new (.box) ?_
  refine VO.new (.box) ?_
  refine VO.c (.assign rfl) ?_
  refine VO.go ?_
  refine VC.seq ?_
  refine VC.drawn ?_
  refine VD.c (.fa (.l .o)) ?_
  refine VD.c (.fa (.l .o)) ?_
  refine VD.r [] (.ld vt3) (.inl rfl) ?_
  refine VD.c (.fa (.l .o)) ?_
  refine VD.c (.fa (.l .o)) ?_
  refine VD.r [] (.ld vt3) (.inl rfl) ?_
  refine VD.nw [] ?_
  refine VD.call rfl rfl (VF.call (cCmp_ok )) ?_
  refine VD.c (.fa (.r .o)) ?_
  refine VD.r [] (.ld vt3) (.inl rfl) ?_
  refine VD.c (.fa (.r .o)) ?_
  refine VD.r [] (.ld vt3) (.inl rfl) ?_
  refine VD.call rfl rfl (VF.call (cCmp_ok )) ?_
  refine VD.c (.fa (.l .o)) ?_
  refine VD.nw [] ?_
  refine VD.c (.fa (.r (.r (.l .o)))) ?_
  refine VD.r [] (.ld vt3) (.inl rfl) ?_
  refine VD.c (.fa (.l .o)) ?_
  refine VD.c (.fa (.r (.r (.l .o)))) ?_
  refine VD.r [] (.ld vt3) (.inl rfl) ?_
  refine VD.call rfl rfl (VF.call (cCmp_ok )) ?_
  refine VD.c (.fa (.l .o)) ?_
  refine VD.nw [] ?_
  refine VD.c (.fa (.r (.r (.r (.l .o))))) ?_
  refine VD.r [] (.ld vt3) (.inl rfl) ?_
  refine VD.c (.fa (.l .o)) ?_
  refine VD.c (.fa (.r (.r (.r (.l .o))))) ?_
  refine VD.r [] (.ld vt3) (.inl rfl) ?_
  refine VD.call rfl rfl (VF.call (cCmp_ok )) ?_
  refine VD.new (.lit [cmpI a.1.1 b.1.1, cmpI a.2 b.2, cmpI a.1.2.2.1 b.1.2.2.1, cmpI a.1.2.2.2.1 b.1.2.2.2.1] el22) ?_
  refine VD.nw [31] ?_
  refine VD.callO rfl rfl (VF.call (cOr_ok (by first | assumption | omega | simp))) ?_
  refine VD.c (.assign rfl) ?_
  refine VD.go ?_
  refine VC.ret ?_
  exact VEnd.one rfl evT (pvI (by first | rfl | simp))
theorem sMapPl_ok {F : Int × ByteArray × Int × Int × List Nat → (Int × ByteArray × Int × Int × List Nat) × Int} {l : List (Int × ByteArray × Int × Int × (List Nat))} {f : PV} (hl : l.length < 100000) (hf : ∀ x ∈ l, VCall Tryz.prog OA f [.v y160 x] (.v y232 (F x))) : VF Tryz.prog OA 177 [.v y108 l, f] (.v y229 (l.map F)) := by
  refine VF.enter Tryz.func177 rfl (fun _ _ => rfl) rfl ?_
  show VC _ _ _ _ _ [(0, .v y108 l), (1, f)] [] _
  refine VC.seq ?_
  refine VC.text ?_
  refine VO.c (.assign rfl) ?_
  refine VO.go ?_
  refine VC.seq ?_
  refine VC.text ?_
  refine VO.c (.assign rfl) ?_
  refine VO.go ?_
  refine VC.seq ?_
  refine VC.seq ?_
  refine VC.text ?_
  refine VO.c (.move rfl) ?_
  refine VO.r (.len el108) ?_
  refine VO.c (.move rfl) ?_
  refine VO.go ?_
  refine VC.block ?_
  refine VC.cell0 232 y232 ?_
  refine VC.keep [(1, f), (5, .raw (.slice none 0 0)), (8, .v y108 l), (9, I ((l.length : Nat) : Int)), (10, I ((0 : Nat) : Int))] ⟨rfl, rfl, rfl, rfl, rfl, trivial⟩ ?_
  refine VC.loop (I := fun kk ff ss => ∃ (j : Nat) (out : Value), kk = l.length - j ∧ ff = [(1, f), (5, .raw out), (8, .v y108 l), (9, I ((l.length : Nat) : Int)), (10, I ((j : Nat) : Int))] ∧ ss = [(out, .row 232 y232 ((l.take j).map F))] ∧ (j ≤ l.length)) ?_ _ _ _ ⟨0, (.slice none 0 0), rfl, rfl, rfl, Nat.zero_le _⟩
  rintro kk ff ss ⟨j, out, hk0, rfl, rfl, hj⟩
  refine VC.seq ?_
  refine VC.text ?_
  refine VO.c (.lss) ?_
  refine VO.go ?_
  refine VC.seq ?_
  refine VC.condD rfl (fun c3 => ?_) (fun c3 => ?_)
  · refine VC.skip ?_
    show VC _ _ _ _ _ _ _ _
    refine VC.seq ?_
    refine VC.block ?_
    refine VC.seq ?_
    refine VC.text ?_
    refine VO.c (.ix (j := j) rfl rfl el108 (by omega)) ?_
    refine VO.r (.ld vt160) ?_
    refine VO.cell (.alloc zt160) ?_
    intro ww1
    refine VO.setV (cs' := [I ((l[j]).1), St ((l[j]).2.1), I ((l[j]).2.2.1), I ((l[j]).2.2.2.1), .v y124 ((l[j]).2.2.2.2)]) vt160 .v ?_
    refine VO.shut [(7, .p y160 (l[j]))] (.cons rfl (.var m0 .refl) .nil) ?_
    refine VO.go ?_
    refine VC.text ?_
    refine VO.c (.move rfl) ?_
    refine VO.c (.move rfl) ?_
    refine VO.r (.ld vt160) ?_
    refine VO.call rfl rfl ((hf _ (List.getElem_mem _)) ) ?_
    refine VO.new (.lit [F (l[j])] el229) ?_
    refine VO.app rfl rfl el229 el229 (by simp; omega) ?_
    intro ww2
    refine VO.c (.assign rfl) ?_
    refine VO.nil ?_
    show VC _ _ _ _ _ _ _ _
    refine VC.text ?_
    refine VO.c (.add rfl rfl (by omega)) ?_
    refine VO.c (.move rfl) ?_
    refine VO.nil ?_
    refine ⟨_, [(1, f), (5, .raw ww2), (8, .v y108 l), (9, I ((l.length : Nat) : Int)), (10, I (((j + 1) : Nat) : Int))], ?_, ⟨rfl, rfl, rfl, rfl, rfl, trivial⟩, (j + 1), ww2, rfl, rfl, (by rw [List.take_succ_eq_append_getElem (by omega), List.map_append] <;> rfl), (by omega)⟩
    omega
  · refine VC.exit ?_
    show VC _ _ _ _ _ _ _ _
    refine VC.seq ?_
    refine VC.text ?_
    refine VO.c (.move rfl) ?_
    refine VO.c (.assign rfl) ?_
    refine VO.go ?_
    refine VC.ret ?_
    exact VEnd.one rfl (evC (.row m0)) (pvE (by rw [List.take_of_length_le (by omega)]))
def plE (d : Dom) (p : Pc) : Pc × Int := (p, (hasM d p.2.1).getD 0)
theorem sPl1_ok {p : Int × ByteArray × Int × Int × (List Nat)} {m : List (ByteArray × Int)} : VF Tryz.prog OA 178 [.v y160 p, .p y205 m] (.v y232 (p, (mget m p.2.1).getD 0)) := by
  refine VF.enter Tryz.func178 rfl (fun _ _ => rfl) rfl ?_
  show VC _ _ _ _ _ [(0, .v y160 p), (1, .p y205 m)] [] _
  refine VC.seq ?_
  refine VC.text ?_
  refine VO.new (.box) ?_
  refine VO.cell (.alloc zt232) ?_
  intro ww3
  refine VO.go ?_
  refine VC.seq ?_
  refine VC.text ?_
  refine VO.r (.ld vt160) ?_
  refine VO.r (.ld vt205) ?_
  refine VO.c (.fa (.r (.l .o))) ?_
  refine VO.r (.ld vt9) ?_
  refine VO.r (.look mt205) ?_
  refine VO.c (.build (p, ((mget m p.2.1).getD 0)) bt232) ?_
  refine VO.setV (cs' := [I p.1, St p.2.1, I p.2.2.1, I p.2.2.2.1, .v y124 p.2.2.2.2, I ((mget m p.2.1).getD 0)]) vt232 .v ?_
  refine VO.go ?_
  refine VC.ret ?_
  exact VEnd.one rfl (.cell (x := (p, ((mget m p.2.1).getD 0))) rfl m0 vt232 .refl) (pvE (by first | rfl | simp))
theorem sPl_ok {d : Int × Int × Int × (List (ByteArray × Int))} {l : List (Int × ByteArray × Int × Int × (List Nat))} (hd : d.2.2.2.length ≤ 16) (hl : l.length < 100000) : VF Tryz.prog OA 146 [.v y106 d, .v y108 l] (.v y229 (l.map (plE d))) := by
  refine VF.enter Tryz.func146 rfl (fun _ _ => rfl) rfl ?_
  show VC _ _ _ _ _ [(0, .v y106 d), (1, .v y108 l)] [] _
  refine VC.seq ?_
  refine VC.text ?_
  refine VO.new (.box) ?_
  refine VO.c (.assign rfl) ?_
  refine VO.go ?_
  refine VC.seq ?_
  refine VC.text ?_
  refine VO.r (.ld vt106) ?_
  refine VO.call rfl rfl (VF.call (sMems_ok hd)) ?_
  refine VO.cell (.alloc zt205) ?_
  intro ww4
  refine VO.setV (cs' := [.v y205 (idxM d.2.2.2 d.2.2.2.length)]) vt205 .v ?_
  refine VO.shut [(5, .p y205 (idxM d.2.2.2 d.2.2.2.length))] (.cons rfl (.var m0 .refl) .nil) ?_
  refine VO.go ?_
  refine VC.seq ?_
  refine VC.text ?_
  refine VO.c (.move rfl) ?_
  refine VO.c (.func) ?_
  refine VO.call rfl rfl (VF.call (sMapPl_ok (F := plE d) hl (fun _ _ => VF.clo sPl1_ok))) ?_
  refine VO.c (.assign rfl) ?_
  refine VO.go ?_
  refine VC.ret ?_
  exact VEnd.one rfl evT (pvE (by first | rfl | simp))
def pcA (l : List Pc) (i : Nat) : Pc := l.getD i (0, ByteArray.empty, 0, 0, [])
theorem pcA_eq {l : List Pc} {i : Nat} (h : i < l.length) : l[i] = pcA l i := by simp [pcA, h]
def pieceE (d : Dom) (l : List Pc) (i : Nat) : Int := firstE [pcE d (pcA l i), whenE (decide (0 < i) && decide (0 ≤ cmpP (plE d (pcA l (i - 1))) (plE d (pcA l i)))) 11]
def storeP (d : Dom) (l : List Pc) : Int := firstE [domE d, whenE (decide ((4096 : Int) < l.length)) 5]
def storeE (d : Dom) (l : List Pc) : Int := if storeP d l = 0 then firstE ((List.range l.length).map (pieceE d l)) else storeP d l
theorem storeP_ok {d : Dom} {l : List Pc} (h : storeP d l = 0) : domE d = 0 ∧ l.length ≤ 4096 := by
  unfold storeP at h
  rw [firstE_zero] at h
  have h1 := whenE_zero (by decide) (h _ (List.mem_cons_of_mem _ List.mem_cons_self))
  exact ⟨h _ List.mem_cons_self, by omega⟩
theorem piece_t {d : Dom} {l : List Pc} {i j : Nat} (h : i < l.length) (hi : 0 < i) (hj : j < (l.map (plE d)).length) (hj' : i < (l.map (plE d)).length) (e : j = i - 1) : firstE [pcE d ((l.map (plE d))[i]).1, whenE (decide (0 ≤ cmpP ((l.map (plE d))[j]) ((l.map (plE d))[i]))) 11] = pieceE d l i := by
  subst e
  rw [pieceE, List.getElem_map, List.getElem_map, pcA_eq, pcA_eq, decide_eq_true hi, Bool.true_and] <;> rfl
theorem piece_f {d : Dom} {l : List Pc} {i : Nat} (h : i < l.length) (hi : ¬ 0 < i) (hj' : i < (l.map (plE d)).length) : firstE [pcE d ((l.map (plE d))[i]).1, whenE false 11] = pieceE d l i := by
  rw [pieceE, List.getElem_map, pcA_eq, decide_eq_false hi, Bool.false_and] <;> rfl
theorem sStore_ok {d : Int × Int × Int × (List (ByteArray × Int))} {l : List (Int × ByteArray × Int × Int × (List Nat))} (hl : l.length < 100000) (hv : ∀ p ∈ l, p.2.2.2.2.length < 100000) : VF Tryz.prog OA 85 [.v y106 d, .v y108 l] (I (storeE d l)) := by
  refine VF.enter Tryz.func85 rfl (fun _ _ => rfl) rfl ?_
  show VC _ _ _ _ _ [(0, .v y106 d), (1, .v y108 l)] [] _
  refine VC.seq ?_
  refine VC.text ?_
  refine VO.new (.box) ?_
  refine VO.c (.assign rfl) ?_
  refine VO.go ?_
  refine VC.seq ?_
  refine VC.seq ?_
  refine VC.text ?_
  refine VO.r (.ld vt106) ?_
  refine VO.call rfl rfl (VF.call (sDom_ok )) ?_
  refine VO.c (.move rfl) ?_
  refine VO.r (.len el108) ?_
  refine VO.c (.gtr) ?_
  refine VO.call rfl rfl (VF.call (sWhen_ok )) ?_
  refine VO.new (.lit [domE d, whenE (decide ((4096 : Int) < ((l.length : Nat) : Int))) (5 : Int)] el179) ?_
  refine VO.call rfl rfl (VF.call (sFirst_ok (by first | assumption | omega | simp))) ?_
  refine VO.c (.assign rfl) ?_
  refine VO.go ?_
  refine VC.seq ?_
  refine VC.text ?_
  refine VO.c (.move rfl) ?_
  refine VO.c (.neq) ?_
  refine VO.go ?_
  refine VC.condD rfl (fun c2 => ?_) (fun c2 => ?_)
  · have c2' : ¬ storeP d l = 0 := c2
    refine VC.seq ?_
    refine VC.text ?_
    refine VO.c (.move rfl) ?_
    refine VO.c (.assign rfl) ?_
    refine VO.go ?_
    refine VC.ret ?_
    exact VEnd.one rfl evT (pvI (by rw [storeE, if_neg c2'] <;> rfl))
  · have c2' : storeP d l = 0 := by simpa [storeP] using c2
    have hs := storeP_ok c2'
    have hdd := dom_ok hs.1
    refine VC.skip ?_
    show VC _ _ _ _ _ _ _ _
    refine VC.seq ?_
    refine VC.text ?_
    refine VO.r (.ld vt106) ?_
    refine VO.c (.move rfl) ?_
    refine VO.call rfl rfl (VF.call (sPl_ok (by omega) hl)) ?_
    refine VO.c (.assign rfl) ?_
    refine VO.go ?_
    refine VC.seq ?_
    refine VC.seq ?_
    refine VC.text ?_
    refine VO.c (.move rfl) ?_
    refine VO.r (.len el229) ?_
    refine VO.c (.move rfl) ?_
    refine VO.go ?_
    refine VC.block ?_
    refine VC.keep [(2, .p y106 d), (6, .v y229 (l.map (plE d))), (24, .v y229 (l.map (plE d))), (25, I (((l.map (plE d)).length : Nat) : Int)), (26, I ((0 : Nat) : Int))] ⟨rfl, rfl, rfl, rfl, rfl, trivial⟩ ?_
    refine VC.loop (I := fun kk ff ss => ∃ (i : Nat), kk = l.length - i ∧ ff = [(2, .p y106 d), (6, .v y229 (l.map (plE d))), (24, .v y229 (l.map (plE d))), (25, I (((l.map (plE d)).length : Nat) : Int)), (26, I ((i : Nat) : Int))] ∧ ss = [] ∧ (i ≤ l.length) ∧ (∀ k, k < i → pieceE d l k = 0)) ?_ _ _ _ ⟨0, rfl, rfl, rfl, Nat.zero_le _, (by intro k hk; omega)⟩
    rintro kk ff ss ⟨i, hk0, rfl, rfl, hi, hz⟩
    refine VC.seq ?_
    refine VC.text ?_
    refine VO.c (.lss) ?_
    refine VO.go ?_
    refine VC.seq ?_
    refine VC.condD rfl (fun c6 => ?_) (fun c6 => ?_)
    · have hi' : i < l.length := by simpa using c6
      refine VC.skip ?_
      show VC _ _ _ _ _ _ _ _
      refine VC.seq ?_
      refine VC.block ?_
      refine VC.seq ?_
      refine VC.text ?_
      refine VO.c (.move rfl) ?_
      refine VO.c (.ix (j := i) rfl rfl el229 (by simp; omega)) ?_
      refine VO.r (.ld vt232) ?_
      refine VO.cell (.alloc zt232) ?_
      intro ww5
      refine VO.c (.assign rfl) ?_
      refine VO.setV (cs' := [I ((((l.map (plE d))[i]).1).1), St ((((l.map (plE d))[i]).1).2.1), I ((((l.map (plE d))[i]).1).2.2.1), I ((((l.map (plE d))[i]).1).2.2.2.1), .v y124 ((((l.map (plE d))[i]).1).2.2.2.2), I (((l.map (plE d))[i]).2)]) vt232 .v ?_
      refine VO.shut [(8, .p y232 ((l.map (plE d))[i]))] (.cons rfl (.var m0 .refl) .nil) ?_
      refine VO.go ?_
      refine VC.seq ?_
      refine VC.join [(2, .p y106 d), (6, .v y229 (l.map (plE d))), (9, I (pieceE d l i)), (24, .v y229 (l.map (plE d))), (25, I (((l.map (plE d)).length : Nat) : Int)), (26, I ((i : Nat) : Int))] [] ?_ ?_
      · skip
        refine VC.drawn ?_
        refine VD.r [] (.ld vt106) (.inl rfl) ?_
        refine VD.c (.fa (.l .o)) ?_
        refine VD.r [] (.ld vt160) (.inl rfl) ?_
        refine VD.call rfl rfl (VF.call (sPc_ok hs.1 (by simp only [List.getElem_map]; exact hv _ (List.getElem_mem _)))) ?_
        refine VD.c (.move rfl) ?_
        refine VD.c (.gtr) ?_
        refine VD.nw [] ?_
        refine VD.c (.move rfl) ?_
        refine VD.splitD (x := 37) rfl (fun g8_6 => ?_) (fun g8_6 => ?_)
        · refine VD.c (.move rfl) ?_
          refine VD.c (.move rfl) ?_
          refine VD.c (.sub rfl rfl (by omega)) ?_
          refine VD.r [] (.max) (.inl rfl) ?_
          refine VD.c (.ixZ (k := (max (0 : Int) (((i : Nat) : Int) - (1 : Int)))) rfl rfl el229 (by omega) (by simp; omega)) ?_
          refine VD.nw [] ?_
          refine VD.r [] (.ld vt232) (.inl rfl) ?_
          refine VD.r [] (.ld vt232) (.inl rfl) ?_
          refine VD.call rfl rfl (VF.call (sCmpP_ok )) ?_
          refine VD.c (.geq) ?_
          refine VD.c (.pickT rfl rfl) ?_
          refine VD.call rfl rfl (VF.call (sWhen_ok )) ?_
          refine VD.new (.lit [pcE d (((l.map (plE d))[i]).1), whenE (decide ((0 : Int) ≤ cmpP ((l.map (plE d))[Int.toNat (max (0 : Int) (((i : Nat) : Int) - (1 : Int)))]) ((l.map (plE d))[i]))) (11 : Int)] el179) ?_
          refine VD.nw [49] ?_
          refine VD.callO rfl rfl (VF.call (sFirst_ok (by first | assumption | omega | simp))) ?_
          refine VD.c (.assign rfl) ?_
          refine VD.nil ?_
          exact ⟨⟨rfl, rfl, slI rfl (by first | exact piece_t hi' (by omega) _ _ (by omega) | exact piece_f hi' (by omega) _), rfl, rfl, rfl, trivial⟩, rfl⟩
        · refine VD.skip ?_
          refine VD.skip ?_
          refine VD.skip ?_
          refine VD.skip ?_
          refine VD.skip ?_
          refine VD.nw [] ?_
          refine VD.skip ?_
          refine VD.skip ?_
          refine VD.skip ?_
          refine VD.skip ?_
          refine VD.c (.pickF rfl rfl) ?_
          refine VD.call rfl rfl (VF.call (sWhen_ok )) ?_
          refine VD.new (.lit [pcE d (((l.map (plE d))[i]).1), whenE false (11 : Int)] el179) ?_
          refine VD.nw [49] ?_
          refine VD.callO rfl rfl (VF.call (sFirst_ok (by first | assumption | omega | simp))) ?_
          refine VD.c (.assign rfl) ?_
          refine VD.nil ?_
          exact ⟨⟨rfl, rfl, slI rfl (by first | exact piece_t hi' (by omega) _ _ (by omega) | exact piece_f hi' (by omega) _), rfl, rfl, rfl, trivial⟩, rfl⟩
      show VC _ _ _ _ _ _ _ _
      refine VC.seq ?_
      refine VC.text ?_
      refine VO.c (.move rfl) ?_
      refine VO.c (.neq) ?_
      refine VO.go ?_
      refine VC.condD rfl (fun c9 => ?_) (fun c9 => ?_)
      · refine VC.seq ?_
        refine VC.text ?_
        refine VO.c (.move rfl) ?_
        refine VO.c (.assign rfl) ?_
        refine VO.go ?_
        refine VC.ret ?_
        exact VEnd.one rfl evT (pvI (by rw [storeE, if_pos c2', ← firstE_range hi' hz c9]))
      · refine VC.skip ?_
        show VC _ _ _ _ _ _ _ _
        refine VC.text ?_
        refine VO.c (.add rfl rfl (by omega)) ?_
        refine VO.c (.move rfl) ?_
        refine VO.nil ?_
        refine ⟨_, [(2, .p y106 d), (6, .v y229 (l.map (plE d))), (24, .v y229 (l.map (plE d))), (25, I (((l.map (plE d)).length : Nat) : Int)), (26, I (((i + 1) : Nat) : Int))], ?_, ⟨rfl, rfl, rfl, rfl, rfl, trivial⟩, (i + 1), rfl, rfl, rfl, (by omega), (by intro k hk; rcases Nat.lt_succ_iff_lt_or_eq.1 hk with h | h; exact hz k h; subst h; simpa using c9)⟩
        omega
    · have hi' : l.length ≤ i := by simpa using c6
      refine VC.exit ?_
      show VC _ _ _ _ _ _ _ _
      refine VC.seq ?_
      refine VC.text ?_
      refine VO.c (.assign rfl) ?_
      refine VO.go ?_
      refine VC.ret ?_
      exact VEnd.one rfl evT (pvI (by rw [storeE, if_pos c2']; exact firstE_range0 (fun k hk => hz k (by omega))))
end Go.Proofs
namespace Go.Proofs
open Go.Fs Ieee
set_option linter.unusedVariables false
abbrev y96 : Ty := (.sl (.pair (.int .i64) (.pair .str (.pair (.int .i64) (.pair (.int .i64) (.sl (.flt .f32)))))))
abbrev y152 : Ty := (.pair (.int .i64) (.pair .str (.pair (.int .i64) (.pair (.int .i64) (.sl (.flt .f32))))))
theorem vt95 : ValT Tryz.prog 95 y95 := valT_of (by kernel_rfl)
theorem vt152 : ValT Tryz.prog 152 y152 := valT_of (by kernel_rfl)
theorem el96 : ElT Tryz.prog 96 152 y152 := elT_of (by kernel_rfl)
/-! ## The reference's stores -/
theorem idx_none {l : Mems} {x : ByteArray} : ∀ (i : Nat), mget (idxM l i) x = none → ∀ k, k < i → nmE l k ≠ x
  | 0, _, k, hk => by omega
  | i + 1, h, k, hk => by
    rw [idxM, mget_mset] at h
    split at h
    · cases h
    · rename_i hx
      rcases Nat.lt_succ_iff_lt_or_eq.1 hk with h3 | h3
      · exact idx_none i h k h3
      · subst h3; exact fun e => hx e.symm
theorem idx_some {l : Mems} {x : ByteArray} {v : Int} : ∀ (i : Nat), mget (idxM l i) x = some v → ∃ k, k < i ∧ v = (k : Int) ∧ nmE l k = x
  | 0, h => by cases h
  | i + 1, h => by
    rw [idxM, mget_mset] at h
    split at h
    · rename_i hx
      injection h with h
      exact ⟨i, by omega, h.symm, hx.symm⟩
    · obtain ⟨k, h1, h2, h3⟩ := idx_some i h
      exact ⟨k, by omega, h2, h3⟩
theorem mem_dist {l : Mems} {i k : Nat} (h : memE l i = 0) (hk : k < i) : nmE l k ≠ nmE l i := fun e => by
  unfold memE at h
  rw [firstE_zero] at h
  have h1 := h _ (List.mem_cons_of_mem _ (List.mem_cons_of_mem _ List.mem_cons_self))
  rw [(known_iff i).2 ⟨k, hk, e⟩] at h1
  cases h1
theorem hasM_eq {d : Dom} (hd : domE d = 0) (x : ByteArray) : hasM d x = if memAt d.2.2.2 x < 0 then none else some (memAt d.2.2.2 x) := by
  obtain ⟨_, _, _, _, _, hz⟩ := dom_ok hd
  cases hg : hasM d x with
  | none =>
    have h1 := idx_none _ hg
    rw [← memAt_none fun k hk => by rw [nmE_eq hk]; exact h1 k hk]
    rfl
  | some v =>
    obtain ⟨k, hk, hv, hn⟩ := idx_some _ hg
    rw [← memAt_some hk (by rw [nmE_eq hk]; exact hn) fun j hj => by rw [nmE_eq (by omega), ← hn]; exact mem_dist (hz k hk) hj]
    rw [if_neg (by omega), hv]
theorem pcPre_eq {d : Dom} {p : Pc} (hd : domE d = 0) : pcPre d p = if rangeE p.1 0 100000 ≠ 0 then rangeE p.1 0 100000 else if memAt d.2.2.2 p.2.1 < 0 then 10 else if firstE [rangeE p.2.2.1 0 (d.2.2.1 - 1), rangeE p.2.2.2.1 0 (d.1 - 1)] ≠ 0 then firstE [rangeE p.2.2.1 0 (d.2.2.1 - 1), rangeE p.2.2.2.1 0 (d.1 - 1)] else if (p.2.2.2.2.length : Int) ≠ d.2.1 then 2 else 0 := by
  have e : pcPre d p = firstE ([rangeE p.1 0 100000] ++ ([whenE (!(hasM d p.2.1).isSome) 10] ++ ([rangeE p.2.2.1 0 (d.2.2.1 - 1), rangeE p.2.2.2.1 0 (d.1 - 1)] ++ [whenE (decide ((p.2.2.2.2.length : Int) ≠ d.2.1)) 2]))) := rfl
  rw [e, firstE_app, firstE_one]
  by_cases h1 : rangeE p.1 0 100000 = 0
  · rw [if_pos h1, if_neg (by simpa using h1), firstE_app, firstE_one, hasM_eq hd]
    by_cases h2 : memAt d.2.2.2 p.2.1 < 0
    · rw [if_pos h2, if_pos h2] <;> rfl
    · rw [if_neg h2, if_neg h2]
      show firstE _ = _
      rw [firstE_app]
      by_cases h3 : firstE [rangeE p.2.2.1 0 (d.2.2.1 - 1), rangeE p.2.2.2.1 0 (d.1 - 1)] = 0
      · rw [if_pos h3, if_neg (by simpa using h3), firstE_one]
        by_cases h4 : (p.2.2.2.2.length : Int) ≠ d.2.1
        · rw [whenE_t h4, if_pos h4]
        · rw [whenE_f h4, if_neg h4]
      · rw [if_neg h3, if_pos h3]
  · rw [if_neg h1, if_pos h1]
theorem rPc_ok {d : Int × Int × Int × (List (ByteArray × Int))} {p : Int × ByteArray × Int × Int × (List Nat)} (hd : domE d = 0) (hv : p.2.2.2.2.length < 100000) : VF Tryz.prog OA 129 [.v y95 d, .v y152 p] (I (pcE d p)) := by
  refine VF.enter Tryz.func129 rfl (fun _ _ => rfl) rfl ?_
  show VC _ _ _ _ _ [(0, .v y95 d), (1, .v y152 p)] [] _
  refine VC.seq ?_
  refine VC.text ?_
  have hdd := dom_ok hd
  have hq := pcPre_eq (p := p) hd
  refine VO.new (.box) ?_
  refine VO.new (.box) ?_
  refine VO.c (.assign rfl) ?_
  refine VO.go ?_
  refine VC.seq ?_
  refine VC.seq ?_
  refine VC.text ?_
  refine VO.c (.fa (.l .o)) ?_
  refine VO.r (.ld vt3) ?_
  refine VO.call rfl rfl (VF.call (rCheckRange_ok )) ?_
  refine VO.c (.assign rfl) ?_
  refine VO.go ?_
  refine VC.seq ?_
  refine VC.text ?_
  refine VO.c (.move rfl) ?_
  refine VO.c (.neq) ?_
  refine VO.go ?_
  refine VC.condD rfl (fun c2 => ?_) (fun c2 => ?_)
  · have hn : pcPre d p ≠ 0 := by rw [hq, if_pos c2]; exact c2
    refine VC.seq ?_
    refine VC.text ?_
    refine VO.c (.move rfl) ?_
    refine VO.c (.assign rfl) ?_
    refine VO.go ?_
    refine VC.ret ?_
    exact VEnd.one rfl evT (pvI (by rw [pcE, if_neg hn, hq, if_pos c2]))
  · have c2' : rangeE p.1 0 100000 = 0 := by simpa using c2
    refine VC.skip ?_
    show VC _ _ _ _ _ _ _ _
    refine VC.seq ?_
    refine VC.seq ?_
    refine VC.text ?_
    refine VO.r (.ld vt95) ?_
    refine VO.c (.fa (.r (.l .o))) ?_
    refine VO.r (.ld vt9) ?_
    refine VO.call rfl rfl (VF.call (rMemAt_ok (by omega))) ?_
    refine VO.c (.lss) ?_
    refine VO.go ?_
    refine VC.condD rfl (fun c4 => ?_) (fun c4 => ?_)
    · have hn : pcPre d p = 10 := by rw [hq, if_neg c2, if_pos c4]
      refine VC.seq ?_
      refine VC.text ?_
      refine VO.c (.assign rfl) ?_
      refine VO.go ?_
      refine VC.ret ?_
      exact VEnd.one rfl evT (pvI (by rw [pcE, hn, if_neg (by decide)]))
    · refine VC.skip ?_
      show VC _ _ _ _ _ _ _ _
      refine VC.seq ?_
      refine VC.seq ?_
      refine VC.drawn ?_
      refine VD.c (.fa (.r (.r (.l .o)))) ?_
      refine VD.r [] (.ld vt3) (.inl rfl) ?_
      refine VD.c (.fa (.r (.r (.l .o)))) ?_
      refine VD.r [] (.ld vt3) (.inl rfl) ?_
      refine VD.c (.sub rfl rfl (by omega)) ?_
      refine VD.call rfl rfl (VF.call (rCheckRange_ok )) ?_
      refine VD.nw [] ?_
      refine VD.c (.fa (.r (.r (.r (.l .o))))) ?_
      refine VD.r [] (.ld vt3) (.inl rfl) ?_
      refine VD.c (.fa (.l .o)) ?_
      refine VD.r [] (.ld vt3) (.inl rfl) ?_
      refine VD.c (.sub rfl rfl (by omega)) ?_
      refine VD.call rfl rfl (VF.call (rCheckRange_ok )) ?_
      refine VD.new (.lit [rangeE p.2.2.1 (0 : Int) (d.2.2.1 - (1 : Int)), rangeE p.2.2.2.1 (0 : Int) (d.1 - (1 : Int))] el22) ?_
      refine VD.nw [32] ?_
      refine VD.callO rfl rfl (VF.call (rFirst_ok (by first | assumption | omega | simp))) ?_
      refine VD.c (.assign rfl) ?_
      refine VD.go ?_
      refine VC.seq ?_
      refine VC.text ?_
      refine VO.c (.move rfl) ?_
      refine VO.c (.neq) ?_
      refine VO.go ?_
      refine VC.condD rfl (fun c7 => ?_) (fun c7 => ?_)
      · have hn : pcPre d p = firstE [rangeE p.2.2.1 0 (d.2.2.1 - 1), rangeE p.2.2.2.1 0 (d.1 - 1)] := by rw [hq, if_neg c2, if_neg c4, if_pos c7]
        refine VC.seq ?_
        refine VC.keep [(2, .p y95 d), (3, .p y152 p), (6, I (firstE [rangeE p.2.2.1 (0 : Int) (d.2.2.1 - (1 : Int)), rangeE p.2.2.2.1 (0 : Int) (d.1 - (1 : Int))]))] ⟨rfl, rfl, rfl, trivial⟩ ?_
        refine VC.text ?_
        refine VO.c (.move rfl) ?_
        refine VO.c (.assign rfl) ?_
        refine VO.go ?_
        refine VC.ret ?_
        exact VEnd.one rfl evT (pvI (by rw [pcE, hn, if_neg c7]))
      · refine VC.skip ?_
        show VC _ _ _ _ _ _ _ _
        refine VC.seq ?_
        refine VC.seq ?_
        refine VC.keep [(2, .p y95 d), (3, .p y152 p)] ⟨rfl, rfl, trivial⟩ ?_
        refine VC.text ?_
        refine VO.c (.fa (.r (.r (.r (.r .o))))) ?_
        refine VO.r (.ld vt124) ?_
        refine VO.r (.len el124) ?_
        refine VO.c (.fa (.r (.l .o))) ?_
        refine VO.r (.ld vt3) ?_
        refine VO.c (.neq) ?_
        refine VO.go ?_
        refine VC.condD rfl (fun c9 => ?_) (fun c9 => ?_)
        · have hn : pcPre d p = 2 := by rw [hq, if_neg c2, if_neg c4, if_neg c7, if_pos c9]
          refine VC.seq ?_
          refine VC.text ?_
          refine VO.c (.assign rfl) ?_
          refine VO.go ?_
          refine VC.ret ?_
          exact VEnd.one rfl evT (pvI (by rw [pcE, hn, if_neg (by decide)]))
        · have hn : pcPre d p = 0 := by rw [hq, if_neg c2, if_neg c4, if_neg c7, if_neg c9]
          refine VC.skip ?_
          show VC _ _ _ _ _ _ _ _
          refine VC.seq ?_
          refine VC.seq ?_
          refine VC.text ?_
          refine VO.c (.assign rfl) ?_
          refine VO.go ?_
          refine VC.block ?_
          refine VC.keep [(3, .p y152 p), (7, I ((0 : Nat) : Int))] ⟨rfl, rfl, trivial⟩ ?_
          refine VC.loop (I := fun kk ff ss => ∃ (i : Nat), kk = p.2.2.2.2.length - i ∧ ff = [(3, .p y152 p), (7, I ((i : Nat) : Int))] ∧ ss = [] ∧ (i ≤ p.2.2.2.2.length) ∧ (firstE (p.2.2.2.2.map lvlE) = firstE ((p.2.2.2.2.drop i).map lvlE))) ?_ _ _ _ ⟨0, rfl, rfl, rfl, Nat.zero_le _, (by rfl)⟩
          rintro kk ff ss ⟨i, hk0, rfl, rfl, hi, hf⟩
          refine VC.seq ?_
          refine VC.seq ?_
          refine VC.text ?_
          refine VO.c (.move rfl) ?_
          refine VO.c (.fa (.r (.r (.r (.r .o))))) ?_
          refine VO.r (.ld vt124) ?_
          refine VO.r (.len el124) ?_
          refine VO.c (.lss) ?_
          refine VO.go ?_
          refine VC.condD rfl (fun c12 => ?_) (fun c12 => ?_)
          · refine VC.skip ?_
            show VC _ _ _ _ _ _ _ _
            refine VC.seq ?_
            refine VC.block ?_
            refine VC.seq ?_
            refine VC.text ?_
            refine VO.c (.fa (.r (.r (.r (.r .o))))) ?_
            refine VO.r (.ld vt124) ?_
            refine VO.c (.move rfl) ?_
            refine VO.c (.ix (j := i) rfl rfl el124 (by omega)) ?_
            refine VO.r (.ld vt127) ?_
            refine VO.call rfl rfl (VF.call (rLv_ok )) ?_
            refine VO.c (.assign rfl) ?_
            refine VO.go ?_
            refine VC.seq ?_
            refine VC.text ?_
            refine VO.c (.move rfl) ?_
            refine VO.c (.neq) ?_
            refine VO.go ?_
            refine VC.condD rfl (fun c15 => ?_) (fun c15 => ?_)
            · refine VC.seq ?_
              refine VC.text ?_
              refine VO.c (.move rfl) ?_
              refine VO.c (.assign rfl) ?_
              refine VO.go ?_
              refine VC.ret ?_
              exact VEnd.one rfl evT (pvI (by rw [pcE, if_pos hn, hf, firstE_map_drop (by omega), if_neg c15]))
            · refine VC.skip ?_
              show VC _ _ _ _ _ _ _ _
              refine VC.text ?_
              refine VO.c (.move rfl) ?_
              refine VO.c (.add rfl rfl (by omega)) ?_
              refine VO.c (.assign rfl) ?_
              refine VO.nil ?_
              refine ⟨_, [(3, .p y152 p), (7, I (((i + 1) : Nat) : Int))], ?_, ⟨rfl, rfl, trivial⟩, (i + 1), rfl, rfl, rfl, (by omega), (by rw [hf, firstE_map_drop (by omega), if_pos (by simpa using c15)])⟩
              omega
          · refine VC.exit ?_
            show VC _ _ _ _ _ _ _ _
            refine VC.seq ?_
            refine VC.text ?_
            refine VO.c (.assign rfl) ?_
            refine VO.go ?_
            refine VC.ret ?_
            exact VEnd.one rfl evT (pvI (by rw [pcE, if_pos hn, hf, firstE_map_end (by omega)]))
def befE (d : Dom) (a b : Pc) : Bool := if a.1 ≠ b.1 then decide (a.1 < b.1) else if memAt d.2.2.2 a.2.1 ≠ memAt d.2.2.2 b.2.1 then decide (memAt d.2.2.2 a.2.1 < memAt d.2.2.2 b.2.1) else if a.2.2.1 ≠ b.2.2.1 then decide (a.2.2.1 < b.2.2.1) else decide (a.2.2.2.1 < b.2.2.2.1)
theorem rBef_ok {d : Int × Int × Int × (List (ByteArray × Int))} {a : Int × ByteArray × Int × Int × (List Nat)} {b : Int × ByteArray × Int × Int × (List Nat)} (hd : d.2.2.2.length ≤ 16) : VF Tryz.prog OA 130 [.v y95 d, .v y152 a, .v y152 b] (B (befE d a b)) := by
  refine VF.enter Tryz.func130 rfl (fun _ _ => rfl) rfl ?_
  show VC _ _ _ _ _ [(0, .v y95 d), (1, .v y152 a), (2, .v y152 b)] [] _
  refine VC.seq ?_
  refine VC.text ?_
  refine VO.new (.box) ?_
  refine VO.new (.box) ?_
  refine VO.new (.box) ?_
  refine VO.c (.assign rfl) ?_
  refine VO.go ?_
  refine VC.seq ?_
  refine VC.seq ?_
  refine VC.text ?_
  refine VO.c (.fa (.l .o)) ?_
  refine VO.r (.ld vt3) ?_
  refine VO.c (.fa (.l .o)) ?_
  refine VO.r (.ld vt3) ?_
  refine VO.c (.neq) ?_
  refine VO.go ?_
  refine VC.condD rfl (fun c1 => ?_) (fun c1 => ?_)
  · refine VC.seq ?_
    refine VC.text ?_
    refine VO.c (.fa (.l .o)) ?_
    refine VO.r (.ld vt3) ?_
    refine VO.c (.fa (.l .o)) ?_
    refine VO.r (.ld vt3) ?_
    refine VO.c (.lss) ?_
    refine VO.c (.assign rfl) ?_
    refine VO.go ?_
    refine VC.ret ?_
    exact VEnd.one rfl evT (pvE (by rw [befE, if_pos c1]))
  · refine VC.skip ?_
    show VC _ _ _ _ _ _ _ _
    refine VC.seq ?_
    refine VC.seq ?_
    refine VC.drawn ?_
    refine VD.r [] (.ld vt95) (.inl rfl) ?_
    refine VD.c (.fa (.r (.l .o))) ?_
    refine VD.r [] (.ld vt9) (.inl rfl) ?_
    refine VD.call rfl rfl (VF.call (rMemAt_ok hd)) ?_
    refine VD.r [] (.ld vt95) (.inl rfl) ?_
    refine VD.c (.fa (.r (.l .o))) ?_
    refine VD.nw [] ?_
    refine VD.r [] (.ld vt9) (.inl rfl) ?_
    refine VD.call rfl rfl (VF.call (rMemAt_ok hd)) ?_
    refine VD.c (.assign rfl) ?_
    refine VD.c (.assign rfl) ?_
    refine VD.go ?_
    refine VC.seq ?_
    refine VC.text ?_
    refine VO.c (.move rfl) ?_
    refine VO.c (.move rfl) ?_
    refine VO.c (.neq) ?_
    refine VO.go ?_
    refine VC.condD rfl (fun c4 => ?_) (fun c4 => ?_)
    · refine VC.seq ?_
      refine VC.text ?_
      refine VO.c (.move rfl) ?_
      refine VO.c (.move rfl) ?_
      refine VO.c (.lss) ?_
      refine VO.c (.assign rfl) ?_
      refine VO.go ?_
      refine VC.ret ?_
      exact VEnd.one rfl evT (pvE (by rw [befE, if_neg c1, if_pos c4]))
    · refine VC.skip ?_
      show VC _ _ _ _ _ _ _ _
      refine VC.seq ?_
      refine VC.seq ?_
      refine VC.text ?_
      refine VO.c (.fa (.r (.r (.l .o)))) ?_
      refine VO.r (.ld vt3) ?_
      refine VO.c (.fa (.r (.r (.l .o)))) ?_
      refine VO.r (.ld vt3) ?_
      refine VO.c (.neq) ?_
      refine VO.go ?_
      refine VC.condD rfl (fun c6 => ?_) (fun c6 => ?_)
      · refine VC.seq ?_
        refine VC.text ?_
        refine VO.c (.fa (.r (.r (.l .o)))) ?_
        refine VO.r (.ld vt3) ?_
        refine VO.c (.fa (.r (.r (.l .o)))) ?_
        refine VO.r (.ld vt3) ?_
        refine VO.c (.lss) ?_
        refine VO.c (.assign rfl) ?_
        refine VO.go ?_
        refine VC.ret ?_
        exact VEnd.one rfl evT (pvE (by rw [befE, if_neg c1, if_neg c4, if_pos c6]))
      · refine VC.skip ?_
        show VC _ _ _ _ _ _ _ _
        refine VC.seq ?_
        refine VC.text ?_
        refine VO.c (.fa (.r (.r (.r (.l .o))))) ?_
        refine VO.r (.ld vt3) ?_
        refine VO.c (.fa (.r (.r (.r (.l .o))))) ?_
        refine VO.r (.ld vt3) ?_
        refine VO.c (.lss) ?_
        refine VO.c (.assign rfl) ?_
        refine VO.go ?_
        refine VC.ret ?_
        exact VEnd.one rfl evT (pvE (by rw [befE, if_neg c1, if_neg c4, if_neg c6]))
theorem cmpI_lt {a b : Int} (h : a < b) : cmpI a b = -1 := by rw [cmpI, if_pos h]
theorem cmpI_eq {a b : Int} (h : a = b) : cmpI a b = 0 := by rw [cmpI, if_neg (by omega), if_neg (by omega)]
theorem cmpI_gt {a b : Int} (h : b < a) : cmpI a b = 1 := by rw [cmpI, if_neg (by omega), if_pos h]
theorem firstE_cmp {a b : Int} {r : List Int} : (0 ≤ firstE (cmpI a b :: r)) = (b < a ∨ a = b ∧ 0 ≤ firstE r) := by
  rcases Int.lt_trichotomy a b with h | h | h
  · rw [cmpI_lt h]
    refine propext ⟨fun hh => by simp [firstE] at hh, fun hh => by omega⟩
  · rw [cmpI_eq h]
    refine propext ⟨fun hh => .inr ⟨h, by simpa [firstE] using hh⟩, fun hh => ?_⟩
    rcases hh with hh | hh
    · omega
    · simpa [firstE] using hh.2
  · rw [cmpI_gt h]
    exact propext ⟨fun _ => .inl h, fun _ => by simp [firstE]⟩
theorem pc_known {d : Dom} {p : Pc} (hd : domE d = 0) (h : pcE d p = 0) : (hasM d p.2.1).getD 0 = memAt d.2.2.2 p.2.1 := by
  have h1 : pcPre d p = 0 := by
    unfold pcE at h
    split at h
    · assumption
    · contradiction
  rw [pcPre_eq hd] at h1
  split at h1
  · contradiction
  · split at h1
    · cases h1
    · rename_i h2
      rw [hasM_eq hd, if_neg h2] <;> rfl
theorem cmp_bef {d : Dom} {a b : Pc} (hd : domE d = 0) (ha : pcE d a = 0) (hb : pcE d b = 0) : decide (0 ≤ cmpP (plE d a) (plE d b)) = !befE d a b := by
  have e1 := pc_known hd ha
  have e2 := pc_known hd hb
  rw [Bool.eq_iff_iff, decide_eq_true_iff]
  unfold cmpP plE befE
  simp only [firstE_cmp, e1, e2]
  have e3 : 0 ≤ firstE [] := by decide
  generalize memAt d.2.2.2 a.2.1 = u
  generalize memAt d.2.2.2 b.2.1 = v
  by_cases h1 : a.1 ≠ b.1
  · rw [if_pos h1]; simp; omega
  · rw [if_neg h1]
    by_cases h2 : u ≠ v
    · rw [if_pos h2]; simp; omega
    · rw [if_neg h2]
      by_cases h3 : a.2.2.1 ≠ b.2.2.1
      · rw [if_pos h3]; simp; omega
      · rw [if_neg h3]; simp [e3]; omega
theorem piece_ne {d : Dom} {l : List Pc} {i : Nat} (h : pcE d (pcA l i) ≠ 0) : pieceE d l i = pcE d (pcA l i) := by
  rw [pieceE, firstE, if_neg h]
theorem piece_z {d : Dom} {l : List Pc} {i : Nat} (h : pcE d (pcA l i) = 0) : pieceE d l i = whenE (decide (0 < i) && decide (0 ≤ cmpP (plE d (pcA l (i - 1))) (plE d (pcA l i)))) 11 := by
  rw [pieceE, show ∀ x y : Int, firstE [x, y] = firstE ([x] ++ [y]) from fun _ _ => rfl, firstE_app, firstE_one, if_pos h, firstE_one]
theorem piece_zero {d : Dom} {l : List Pc} {i : Nat} (h : pieceE d l i = 0) : pcE d (pcA l i) = 0 := by
  unfold pieceE at h
  rw [firstE_zero] at h
  exact h _ List.mem_cons_self
theorem storeP_eq {d : Dom} {l : List Pc} : storeP d l = if domE d ≠ 0 then domE d else if (4096 : Int) < l.length then 5 else 0 := by
  rw [storeP, show ∀ x y : Int, firstE [x, y] = firstE ([x] ++ [y]) from fun _ _ => rfl, firstE_app, firstE_one, firstE_one]
  by_cases h : domE d = 0
  · rw [if_pos h, if_neg (by simpa using h)]
    by_cases h2 : (4096 : Int) < l.length
    · rw [whenE_t h2, if_pos h2]
    · rw [whenE_f h2, if_neg h2]
  · rw [if_neg h, if_pos h]
theorem bef_i {d : Dom} {l : List Pc} {i j : Nat} (h : j < l.length) (hi : i < l.length) (e : j = i - 1) : befE d l[j] l[i] = befE d (pcA l (i - 1)) (pcA l i) := by
  subst e; rw [pcA_eq, pcA_eq]
theorem rStore_ok {d : Int × Int × Int × (List (ByteArray × Int))} {l : List (Int × ByteArray × Int × Int × (List Nat))} (hl : l.length < 100000) (hv : ∀ p ∈ l, p.2.2.2.2.length < 100000) : VF Tryz.prog OA 57 [.v y95 d, .v y96 l] (I (storeE d l)) := by
  refine VF.enter Tryz.func57 rfl (fun _ _ => rfl) rfl ?_
  show VC _ _ _ _ _ [(0, .v y95 d), (1, .v y96 l)] [] _
  refine VC.seq ?_
  refine VC.text ?_
  refine VO.new (.box) ?_
  refine VO.c (.assign rfl) ?_
  refine VO.go ?_
  refine VC.seq ?_
  refine VC.seq ?_
  refine VC.text ?_
  refine VO.r (.ld vt95) ?_
  refine VO.call rfl rfl (VF.call (rDom_ok )) ?_
  refine VO.c (.assign rfl) ?_
  refine VO.go ?_
  refine VC.seq ?_
  refine VC.text ?_
  refine VO.c (.move rfl) ?_
  refine VO.c (.neq) ?_
  refine VO.go ?_
  refine VC.condD rfl (fun c2 => ?_) (fun c2 => ?_)
  · have hn : storeP d l = domE d := by rw [storeP_eq, if_pos c2]
    refine VC.seq ?_
    refine VC.text ?_
    refine VO.c (.move rfl) ?_
    refine VO.c (.assign rfl) ?_
    refine VO.go ?_
    refine VC.ret ?_
    exact VEnd.one rfl evT (pvI (by rw [storeE, hn, if_neg c2]))
  · have hd : domE d = 0 := by simpa using c2
    have hdd := dom_ok hd
    refine VC.skip ?_
    show VC _ _ _ _ _ _ _ _
    refine VC.seq ?_
    refine VC.seq ?_
    refine VC.text ?_
    refine VO.c (.move rfl) ?_
    refine VO.r (.len el96) ?_
    refine VO.c (.gtr) ?_
    refine VO.go ?_
    refine VC.condD rfl (fun c4 => ?_) (fun c4 => ?_)
    · have hn : storeP d l = 5 := by rw [storeP_eq, if_neg c2, if_pos c4]
      refine VC.seq ?_
      refine VC.text ?_
      refine VO.c (.assign rfl) ?_
      refine VO.go ?_
      refine VC.ret ?_
      exact VEnd.one rfl evT (pvI (by rw [storeE, hn, if_neg (by decide)]))
    · have hn : storeP d l = 0 := by rw [storeP_eq, if_neg c2, if_neg c4]
      refine VC.skip ?_
      show VC _ _ _ _ _ _ _ _
      refine VC.seq ?_
      refine VC.seq ?_
      refine VC.text ?_
      refine VO.c (.assign rfl) ?_
      refine VO.go ?_
      refine VC.block ?_
      refine VC.keep [(1, .v y96 l), (2, .p y95 d), (6, I ((0 : Nat) : Int))] ⟨rfl, rfl, rfl, trivial⟩ ?_
      refine VC.loop (I := fun kk ff ss => ∃ (i : Nat), kk = l.length - i ∧ ff = [(1, .v y96 l), (2, .p y95 d), (6, I ((i : Nat) : Int))] ∧ ss = [] ∧ (i ≤ l.length) ∧ (∀ k, k < i → pieceE d l k = 0)) ?_ _ _ _ ⟨0, rfl, rfl, rfl, Nat.zero_le _, (by intro k hk; omega)⟩
      rintro kk ff ss ⟨i, hk0, rfl, rfl, hi, hz⟩
      refine VC.seq ?_
      refine VC.seq ?_
      refine VC.text ?_
      refine VO.c (.move rfl) ?_
      refine VO.c (.move rfl) ?_
      refine VO.r (.len el96) ?_
      refine VO.c (.lss) ?_
      refine VO.go ?_
      refine VC.condD rfl (fun c7 => ?_) (fun c7 => ?_)
      · have hi' : i < l.length := by omega
        refine VC.skip ?_
        show VC _ _ _ _ _ _ _ _
        refine VC.seq ?_
        refine VC.block ?_
        refine VC.seq ?_
        refine VC.seq ?_
        refine VC.drawn ?_
        refine VD.r [] (.ld vt95) (.inl rfl) ?_
        refine VD.c (.move rfl) ?_
        refine VD.c (.move rfl) ?_
        refine VD.c (.ix (j := i) rfl rfl el96 (by omega)) ?_
        refine VD.r [] (.ld vt152) (.inl rfl) ?_
        refine VD.call rfl rfl (VF.call (rPc_ok hd (hv _ (List.getElem_mem _)))) ?_
        refine VD.nw [] ?_
        refine VD.c (.assign rfl) ?_
        refine VD.go ?_
        refine VC.seq ?_
        refine VC.text ?_
        refine VO.c (.move rfl) ?_
        refine VO.c (.neq) ?_
        refine VO.go ?_
        refine VC.condD rfl (fun c10 => ?_) (fun c10 => ?_)
        · have c10' : pcE d (pcA l i) ≠ 0 := by rw [← pcA_eq hi']; exact c10
          refine VC.seq ?_
          refine VC.text ?_
          refine VO.c (.move rfl) ?_
          refine VO.c (.assign rfl) ?_
          refine VO.go ?_
          refine VC.ret ?_
          exact VEnd.one rfl evT (pvI (by rw [storeE, if_pos hn, ← firstE_range hi' hz (by rw [piece_ne c10']; exact c10'), piece_ne c10', pcA_eq hi']))
        · have c10' : pcE d (pcA l i) = 0 := by rw [← pcA_eq hi']; simpa using c10
          refine VC.skip ?_
          show VC _ _ _ _ _ _ _ _
          refine VC.seq ?_
          refine VC.join [(1, .v y96 l), (2, .p y95 d), (6, I ((i : Nat) : Int)), (46, B (decide (0 < i) && decide (0 ≤ cmpP (plE d (pcA l (i - 1))) (plE d (pcA l i)))))] [] ?_ ?_
          · skip
            refine VC.drawn ?_
            refine VD.c (.move rfl) ?_
            refine VD.c (.gtr) ?_
            refine VD.c (.move rfl) ?_
            refine VD.splitD (x := 33) rfl (fun g12_2 => ?_) (fun g12_2 => ?_)
            · refine VD.r [] (.ld vt95) (.inl rfl) ?_
              refine VD.c (.move rfl) ?_
              refine VD.nw [] ?_
              refine VD.c (.move rfl) ?_
              refine VD.c (.sub rfl rfl (by omega)) ?_
              refine VD.c (.ixZ (k := (((i : Nat) : Int) - (1 : Int))) rfl rfl el96 (by omega) (by omega)) ?_
              refine VD.r [] (.ld vt152) (.inl rfl) ?_
              refine VD.c (.move rfl) ?_
              refine VD.c (.move rfl) ?_
              refine VD.c (.ix (j := i) rfl rfl el96 (by omega)) ?_
              refine VD.nw [] ?_
              refine VD.r [] (.ld vt152) (.inl rfl) ?_
              refine VD.call rfl rfl (VF.call (rBef_ok hdd.2.2.2.1)) ?_
              refine VD.c (.not) ?_
              refine VD.c (.pickT rfl rfl) ?_
              refine VD.nil ?_
              exact ⟨⟨rfl, rfl, rfl, slE rfl (by first | (rw [cmp_bef hd (piece_zero (hz (i - 1) (by omega))) c10', decide_eq_true (show 0 < i by omega), Bool.true_and, bef_i _ _ (by omega)]) | (rw [decide_eq_false (by omega)]; rfl)), trivial⟩, rfl⟩
            · refine VD.skip ?_
              refine VD.skip ?_
              refine VD.nw [] ?_
              refine VD.skip ?_
              refine VD.skip ?_
              refine VD.skip ?_
              refine VD.skip ?_
              refine VD.skip ?_
              refine VD.skip ?_
              refine VD.skip ?_
              refine VD.nw [] ?_
              refine VD.skip ?_
              refine VD.skip ?_
              refine VD.skip ?_
              refine VD.c (.pickF rfl rfl) ?_
              refine VD.nil ?_
              exact ⟨⟨rfl, rfl, rfl, slE rfl (by first | (rw [cmp_bef hd (piece_zero (hz (i - 1) (by omega))) c10', decide_eq_true (show 0 < i by omega), Bool.true_and, bef_i _ _ (by omega)]) | (rw [decide_eq_false (by omega)]; rfl)), trivial⟩, rfl⟩
          show VC _ _ _ _ _ _ _ _
          refine VC.condB rfl (fun c12 => ?_) (fun c12 => ?_)
          · try simp only [Bool.and_eq_true, Bool.or_eq_true, Bool.and_eq_false_iff, Bool.or_eq_false_iff, Bool.not_eq_true', Bool.not_eq_false', decide_eq_true_eq, decide_eq_false_iff_not] at c12
            have c12' : (decide (0 < i) && decide (0 ≤ cmpP (plE d (pcA l (i - 1))) (plE d (pcA l i)))) = true := by rw [decide_eq_true c12.1, decide_eq_true c12.2] <;> rfl
            refine VC.seq ?_
            refine VC.text ?_
            refine VO.c (.assign rfl) ?_
            refine VO.go ?_
            refine VC.ret ?_
            exact VEnd.one rfl evT (pvI (by rw [storeE, if_pos hn, ← firstE_range hi' hz (by rw [piece_z c10', c12']; decide), piece_z c10', c12'] <;> rfl))
          · try simp only [Bool.and_eq_true, Bool.or_eq_true, Bool.and_eq_false_iff, Bool.or_eq_false_iff, Bool.not_eq_true', Bool.not_eq_false', decide_eq_true_eq, decide_eq_false_iff_not] at c12
            have c12' : (decide (0 < i) && decide (0 ≤ cmpP (plE d (pcA l (i - 1))) (plE d (pcA l i)))) = false := by rw [Bool.eq_false_iff]; simp only [ne_eq, Bool.and_eq_true, decide_eq_true_iff]; omega
            refine VC.skip ?_
            show VC _ _ _ _ _ _ _ _
            refine VC.text ?_
            refine VO.c (.move rfl) ?_
            refine VO.c (.add rfl rfl (by omega)) ?_
            refine VO.c (.assign rfl) ?_
            refine VO.nil ?_
            refine ⟨_, [(1, .v y96 l), (2, .p y95 d), (6, I (((i + 1) : Nat) : Int))], ?_, ⟨rfl, rfl, rfl, trivial⟩, (i + 1), rfl, rfl, rfl, (by omega), (by intro k hk; rcases Nat.lt_succ_iff_lt_or_eq.1 hk with h | h; exact hz k h; subst h; rw [piece_z c10', c12'] <;> rfl)⟩
            omega
      · refine VC.exit ?_
        show VC _ _ _ _ _ _ _ _
        refine VC.seq ?_
        refine VC.text ?_
        refine VO.c (.assign rfl) ?_
        refine VO.go ?_
        refine VC.ret ?_
        exact VEnd.one rfl evT (pvI (by rw [storeE, if_pos hn]; exact firstE_range0 (fun k hk => hz k (by omega))))
end Go.Proofs
namespace Go.Fs
variable {P : Program} {orc : FuncId → List Value → Heap → Option (Value × Heap)} {fl : VL} {σ : Sto} {T T' e ty : TypeId} {τ : Ty} {ops : Array Oper} {n : Nat} {l : List Oper} {K : VL → Sto → Prop} {d : Tmp} {pos : String} {after : Array Edge} {g : Option (Nat × Bool)} {x y : Operand} {xs : List τ.den}
theorem VO.isnil (hx : evV fl x = some (.v (.sl τ) xs)) (hy : evV fl y = some (.raw (.slice none 0 0))) (hT : P.underlying T = some (.slice e)) (hp : purely P (do eqGuard .eql T x y (.slice none 0 0) (.slice none 0 0); binOp .eql T (.slice none 0 0) (.slice none 0 0)) = some (.bool true))
    (h1 : xs = [] → VO P orc ops n l ((d, .v .bool true) :: fl) σ K) (h2 : VO P orc ops n l ((d, .v .bool false) :: fl) σ K)
    (hw : wantV ops fl g = some true := by rfl) (hn : (Nat.blt d n && Nat.ble n 4000) = true := by rfl) : VO P orc ops n (⟨some d, .binOp .eql T x y T', ty, pos, after, g⟩ :: l) fl σ K := fun h0 G S0 t h ms Iv0 => by
  obtain ⟨n1, n2⟩ := fits hn
  have a1 : RepV _ _ (.sl τ) (evalO t x) xs := evV_ok Iv0.slots hx
  have a2 : evalO t y = .slice none 0 0 := evV_ok Iv0.slots hy
  have a3 := a1.sl
  rcases a3 with ⟨hv, hl⟩ | ⟨b, o, mk, hv, _⟩
  · have hs : stepO P ⟨some d, .binOp .eql T x y T', ty, pos, after, g⟩ (evalO t) h = some (.bool true, h) := by
      show (if (af (evalO t x) && af (evalO t y)) = true then _ else _) = _
      rw [hv, a2, if_pos (show (af (Value.slice none 0 0) && af (Value.slice none 0 0)) = true from rfl), hp]; rfl
    exact EvO.op (want_ok Iv0.slots hw) hs (put_fits n1 t _) (h1 hl h0 G S0 _ h ms (Iv0.set (show RepPV _ _ (.v .bool true) (.bool true) from RepV.ofBool _) n2))
  · have hs : stepO P ⟨some d, .binOp .eql T x y T', ty, pos, after, g⟩ (evalO t) h = some (.bool false, h) := by
      show (if (af (evalO t x) && af (evalO t y)) = true then _ else ((fsNil P .eql T (evalO t x) (evalO t y)).or _).map _) = _
      rw [hv, a2, if_neg (by exact Bool.false_ne_true), show fsNil P .eql T (.slice (some ⟨b, o, none⟩) xs.length mk) (.slice none 0 0) = some false from by unfold fsNil; simp only [hT]; rfl]
      rfl
    exact EvO.op (want_ok Iv0.slots hw) hs (put_fits n1 t _) (h2 h0 G S0 _ h ms (Iv0.set (show RepPV _ _ (.v .bool false) (.bool false) from RepV.ofBool _) n2))
theorem keyAggB {K : TypeId} {κ : Ty} (hE : EqT P K κ) (hB : (match P.underlying K with | some td => isAggD td | none => false) = true) (ha : κ.agg = true) (hf : κ.isFlat = true) (hc : ∀ (em : Bool) (x : κ.den), (runPure P (Instr.checkKey em 10000 K (.agg (κ.flatC x).toArray))).isSome = true) : KeyT P K κ := by
  cases h : P.underlying K with
  | none => rw [h] at hB; cases hB
  | some td => rw [h] at hB; exact keyAgg hE h hB ha hf hc
theorem CalmV.shrU {k : IntKind} {p q : Int} (hx : evV fl x = some (.v (.int .i64) p)) (hy : evV fl y = some (.v (.int k) q)) (hq : 0 ≤ q ∧ q ≤ 64) : CalmV P fl σ (.binOp .shr T x y T') (.v (.int .i64) (p.fdiv (2 ^ q.toNat))) :=
  .binI hx hy (u := .int .i64 (p.fdiv (2 ^ q.toNat))) (by have this : min q.toNat IntKind.i64.bits = q.toNat := Nat.min_eq_left (show q.toNat ≤ 64 by omega); show (runPure P (Op.shift .shr .i64 p k q)).bind _ = _; unfold Op.shift; rw [if_neg (by omega)]; simp only [this]; rfl) fun h S => RepV.ofInt _ _
theorem agg_one {w : Value} (h : oneCell w = true) : isAggV w = false := by
  cases w <;> first | rfl | cases h
end Go.Fs
namespace Go.Proofs
open Go.Fs Ieee
set_option linter.unusedVariables false
abbrev y141 : Ty := (.pair .str (.pair (.int .i64) (.int .i64)))
abbrev y208 : Ty := (.mp (.pair .str (.pair (.int .i64) (.int .i64))) (.pair (.int .i64) (.pair .str (.pair (.int .i64) (.pair (.int .i64) (.sl (.flt .f32)))))))
theorem vt141 : ValT Tryz.prog 141 y141 := valT_of (by kernel_rfl)
theorem zt141 : ZerT Tryz.prog 141 y141 := zerT_of (z := .agg #[.string ByteArray.empty, .int .i64 0, .int .i64 0]) (by kernel_rfl) rfl rfl
theorem bt141 : BldT Tryz.prog 141 y141 [(0, 1), (1, 1), (2, 1)] := bldT_of zt141 rfl (by kernel_rfl)
theorem eq141 : EqT Tryz.prog 141 y141 := eqT_of (by kernel_rfl)
theorem mt208 : MapT Tryz.prog 208 y141 y160 := ⟨141, 160, by kernel_rfl, keyAggB eq141 (by kernel_rfl) rfl rfl fun _ _ => by kernel_rfl, zt160⟩
/-! ## The pieces of a run -/
abbrev Sl := ByteArray × Int × Int
def slotE (p : Pc) : Sl := (p.2.1, p.2.2.1, p.2.2.2.1)
def runM (l : List Pc) (n : Int) : Nat → List (Sl × Pc)
  | 0 => []
  | i + 1 => if (pcA l i).1 = n then mset (runM l n i) (slotE (pcA l i)) (pcA l i) else runM l n i
theorem sSlot_ok {p : Int × ByteArray × Int × Int × (List Nat)} : VF Tryz.prog OA 167 [.v y160 p] (.v y141 (slotE p)) := by
  refine VF.enter Tryz.func167 rfl (fun _ _ => rfl) rfl ?_
  show VC _ _ _ _ _ [(0, .v y160 p)] [] _
  refine VC.seq ?_
  refine VC.text ?_
  refine VO.new (.box) ?_
  refine VO.cell (.alloc zt141) ?_
  intro ww1
  refine VO.go ?_
  refine VC.seq ?_
  refine VC.text ?_
  refine VO.c (.fa (.r (.l .o))) ?_
  refine VO.r (.ld vt9) ?_
  refine VO.c (.fa (.r (.r (.l .o)))) ?_
  refine VO.r (.ld vt3) ?_
  refine VO.c (.fa (.r (.r (.r (.l .o))))) ?_
  refine VO.r (.ld vt3) ?_
  refine VO.c (.build (p.2.1, p.2.2.1, p.2.2.2.1) bt141) ?_
  refine VO.setV (cs' := [St p.2.1, I p.2.2.1, I p.2.2.2.1]) vt141 .v ?_
  refine VO.go ?_
  refine VC.ret ?_
  exact VEnd.one rfl (.cell (x := (p.2.1, p.2.2.1, p.2.2.2.1)) rfl m0 vt141 .refl) (pvE (by first | rfl | simp))
theorem sRun_ok {l : List (Int × ByteArray × Int × Int × (List Nat))} {n : Int} (hl : l.length < 100000) : VF Tryz.prog OA 128 [.v y108 l, I n] (.v y208 (runM l n l.length)) := by
  refine VF.enter Tryz.func128 rfl (fun _ _ => rfl) rfl ?_
  show VC _ _ _ _ _ [(0, .v y108 l), (1, I n)] [] _
  refine VC.seq ?_
  refine VC.text ?_
  refine VO.c (.assign rfl) ?_
  refine VO.go ?_
  refine VC.seq ?_
  refine VC.text ?_
  refine VO.cell (.mkMap y141 y160) ?_
  intro ww2
  refine VO.c (.assign rfl) ?_
  refine VO.go ?_
  refine VC.seq ?_
  refine VC.seq ?_
  refine VC.text ?_
  refine VO.c (.move rfl) ?_
  refine VO.r (.len el108) ?_
  refine VO.c (.move rfl) ?_
  refine VO.go ?_
  refine VC.block ?_
  refine VC.keep [(1, I n), (5, .raw ww2), (9, .v y108 l), (10, I ((l.length : Nat) : Int)), (11, I ((0 : Nat) : Int))] ⟨rfl, rfl, rfl, rfl, rfl, trivial⟩ ?_
  refine VC.loop (I := fun kk ff ss => ∃ (i : Nat), kk = l.length - i ∧ ff = [(1, I n), (5, .raw ww2), (9, .v y108 l), (10, I ((l.length : Nat) : Int)), (11, I ((i : Nat) : Int))] ∧ ss = [(ww2, .mp y141 y160 (runM l n i))] ∧ (i ≤ l.length)) ?_ _ _ _ ⟨0, rfl, rfl, rfl, Nat.zero_le _⟩
  rintro kk ff ss ⟨i, hk0, rfl, rfl, hi⟩
  refine VC.seq ?_
  refine VC.text ?_
  refine VO.c (.lss) ?_
  refine VO.go ?_
  refine VC.seq ?_
  refine VC.condD rfl (fun c3 => ?_) (fun c3 => ?_)
  · have hi' : i < l.length := by omega
    refine VC.skip ?_
    show VC _ _ _ _ _ _ _ _
    refine VC.seq ?_
    refine VC.block ?_
    refine VC.seq ?_
    refine VC.text ?_
    refine VO.c (.ix (j := i) rfl rfl el108 (by omega)) ?_
    refine VO.r (.ld vt160) ?_
    refine VO.cell (.alloc zt160) ?_
    intro ww3
    refine VO.setV (cs' := [I ((l[i]).1), St ((l[i]).2.1), I ((l[i]).2.2.1), I ((l[i]).2.2.2.1), .v y124 ((l[i]).2.2.2.2)]) vt160 .v ?_
    refine VO.shut [(7, .p y160 (l[i]))] (.cons rfl (.var m0 .refl) .nil) ?_
    refine VO.go ?_
    refine VC.seq ?_
    refine VC.text ?_
    refine VO.c (.fa (.l .o)) ?_
    refine VO.r (.ld vt3) ?_
    refine VO.c (.move rfl) ?_
    refine VO.c (.eql) ?_
    refine VO.go ?_
    refine VC.condD rfl (fun c5 => ?_) (fun c5 => ?_)
    · refine VC.drawn ?_
      refine VD.c (.move rfl) ?_
      refine VD.r [] (.ld vt160) (.inl rfl) ?_
      refine VD.call rfl rfl (VF.call (sSlot_ok )) ?_
      refine VD.r [] (.ld vt160) (.inl rfl) ?_
      refine VD.mk0 (MakeV.mput mt208 rfl rfl rfl) ?_
      rintro _ _ tl4 ⟨rfl, rfl⟩
      refine VD.nil ?_
      show VC _ _ _ _ _ _ _ _
      refine VC.text ?_
      refine VO.c (.add rfl rfl (by omega)) ?_
      refine VO.c (.move rfl) ?_
      refine VO.nil ?_
      refine ⟨_, [(1, I n), (5, .raw ww2), (9, .v y108 l), (10, I ((l.length : Nat) : Int)), (11, I (((i + 1) : Nat) : Int))], ?_, ⟨rfl, rfl, rfl, rfl, rfl, trivial⟩, (i + 1), rfl, rfl, (by rw [runM, ← pcA_eq hi']; first | rw [if_pos c5] | rw [if_neg c5]), (by omega)⟩
      omega
    · refine VC.skip ?_
      show VC _ _ _ _ _ _ _ _
      refine VC.text ?_
      refine VO.c (.add rfl rfl (by omega)) ?_
      refine VO.c (.move rfl) ?_
      refine VO.nil ?_
      refine ⟨_, [(1, I n), (5, .raw ww2), (9, .v y108 l), (10, I ((l.length : Nat) : Int)), (11, I (((i + 1) : Nat) : Int))], ?_, ⟨rfl, rfl, rfl, rfl, rfl, trivial⟩, (i + 1), rfl, rfl, (by rw [runM, ← pcA_eq hi']; first | rw [if_pos c5] | rw [if_neg c5]), (by omega)⟩
      omega
  · refine VC.exit ?_
    show VC _ _ _ _ _ _ _ _
    refine VC.seq ?_
    refine VC.text ?_
    refine VO.c (.move rfl) ?_
    refine VO.c (.assign rfl) ?_
    refine VO.go ?_
    refine VC.ret ?_
    exact VEnd.one rfl (evC (.mp m0)) (pvE (by rw [show i = l.length by omega]))
theorem clF_ok {l : List Nat} (hl : l.length < 100000) : VF Tryz.prog OA 166 [.v y124 l] (.v y124 l) := by
  refine VF.enter Tryz.func166 rfl (fun _ _ => rfl) rfl ?_
  show VC _ _ _ _ _ [(0, .v y124 l)] [] _
  refine VC.seq ?_
  refine VC.text ?_
  refine VO.c (.assign rfl) ?_
  refine VO.go ?_
  refine VC.seq ?_
  refine VC.seq ?_
  refine VC.text ?_
  refine VO.c (.move rfl) ?_
  refine VO.isnil (e := 127) rfl rfl (by kernel_rfl) (by kernel_rfl) (fun h1_1 => ?_) ?_
  · refine VO.go ?_
    refine VC.condT rfl ?_
    refine VC.seq ?_
    refine VC.text ?_
    refine VO.c (.assign rfl) ?_
    refine VO.go ?_
    refine VC.ret ?_
    exact VEnd.one rfl (evC .nil) (pvE (by rw [h1_1]))
  · refine VO.go ?_
    refine VC.condF rfl ?_
    refine VC.skip ?_
    show VC _ _ _ _ _ _ _ _
    refine VC.seq ?_
    refine VC.text ?_
    refine VO.cell (.lit0 el124) ?_
    intro ww5
    refine VO.c (.move rfl) ?_
    refine VO.app rfl rfl el124 el124 (by simp; omega) ?_
    intro ww6
    refine VO.c (.assign rfl) ?_
    refine VO.go ?_
    refine VC.ret ?_
    exact VEnd.one rfl (evC (.row m0)) (pvE (by first | rfl | simp))
def rowsQ (q : Nat → Option (List Nat)) (n : Nat) : List (List Nat) × Bool := bif (List.range n).all (fun r => (q r).isSome) then ((List.range n).map (fun r => (q r).getD []), true) else ([], false)
theorem rowsQ_t {q : Nat → Option (List Nat)} {n : Nat} (h : ∀ r, r < n → (q r).isSome = true) : rowsQ q n = ((List.range n).map (fun r => (q r).getD []), true) := by
  rw [rowsQ, List.all_eq_true.2 fun r hr => h r (List.mem_range.1 hr)] <;> rfl
theorem rowsQ_f {q : Nat → Option (List Nat)} {n r : Nat} (hr : r < n) (h : (q r).isSome = false) : rowsQ q n = ([], false) := by
  have e : (List.range n).all (fun r => (q r).isSome) = false := Bool.eq_false_iff.2 fun hh => by
    have h2 := List.all_eq_true.1 hh r (List.mem_range.2 hr)
    rw [h] at h2; cases h2
  rw [rowsQ, e] <;> rfl
def hasQ (m : List (Sl × Pc)) (x : ByteArray) (t : Int) (r : Nat) : Option (List Nat) := (mget m (x, t, (r : Int))).map (·.2.2.2.2)
theorem sField2_ok {d : Int × Int × Int × (List (ByteArray × Int))} {m : List ((ByteArray × Int × Int) × (Int × ByteArray × Int × Int × (List Nat)))} {x : ByteArray} {t : Int} (hd : domE d = 0) (hv : ∀ k p, mget m k = some p → p.2.2.2.2.length < 100000) : VF Tryz.prog OA 127 [.v y106 d, .v y208 m, St x, I t] (.tup [.v y101 ((rowsQ (hasQ m x t) d.1.toNat).1), B ((rowsQ (hasQ m x t) d.1.toNat).2)]) := by
  refine VF.enter Tryz.func127 rfl (fun _ _ => rfl) rfl ?_
  show VC _ _ _ _ _ [(0, .v y106 d), (1, .v y208 m), (2, St x), (3, I t)] [] _
  refine VC.seq ?_
  refine VC.text ?_
  have hdd := dom_ok hd
  refine VO.new (.box) ?_
  refine VO.c (.assign rfl) ?_
  refine VO.c (.assign rfl) ?_
  refine VO.go ?_
  refine VC.seq ?_
  refine VC.text ?_
  refine VO.c (.assign rfl) ?_
  refine VO.go ?_
  refine VC.seq ?_
  refine VC.seq ?_
  refine VC.text ?_
  refine VO.c (.fa (.l .o)) ?_
  refine VO.r (.ld vt3) ?_
  refine VO.c (.move rfl) ?_
  refine VO.go ?_
  refine VC.block ?_
  refine VC.cell0 124 y124 ?_
  refine VC.keep [(1, .v y208 m), (2, St x), (3, I t), (10, .raw (.slice none 0 0)), (15, I d.1), (16, I ((0 : Nat) : Int))] ⟨rfl, rfl, rfl, rfl, rfl, rfl, trivial⟩ ?_
  refine VC.loop (I := fun kk ff ss => ∃ (r : Nat) (out : Value), kk = d.1.toNat - r ∧ ff = [(1, .v y208 m), (2, St x), (3, I t), (10, .raw out), (15, I d.1), (16, I ((r : Nat) : Int))] ∧ ss = [(out, .row 124 y124 ((List.range r).map (fun r => (hasQ m x t r).getD [])))] ∧ (r ≤ d.1.toNat) ∧ (∀ k, k < r → (hasQ m x t k).isSome = true)) ?_ _ _ _ ⟨0, (.slice none 0 0), rfl, rfl, rfl, Nat.zero_le _, (by intro k hk; omega)⟩
  rintro kk ff ss ⟨r, out, hk0, rfl, rfl, hr, hq⟩
  refine VC.seq ?_
  refine VC.text ?_
  refine VO.c (.lss) ?_
  refine VO.go ?_
  refine VC.seq ?_
  refine VC.condD rfl (fun c3 => ?_) (fun c3 => ?_)
  · have hr' : r < d.1.toNat := by omega
    refine VC.skip ?_
    show VC _ _ _ _ _ _ _ _
    refine VC.seq ?_
    refine VC.block ?_
    refine VC.seq ?_
    refine VC.text ?_
    refine VO.c (.move rfl) ?_
    refine VO.c (.assign rfl) ?_
    refine VO.go ?_
    refine VC.seq ?_
    refine VC.text ?_
    refine VO.c (.move rfl) ?_
    refine VO.c (.move rfl) ?_
    refine VO.c (.move rfl) ?_
    refine VO.c (.move rfl) ?_
    refine VO.c (.build (x, t, ((r : Nat) : Int)) bt141) ?_
    refine VO.r (.lookOk mt208) ?_
    refine VO.c (.move rfl) ?_
    refine VO.c (.extract) ?_
    refine VO.c (.extract) ?_
    refine VO.cell (.alloc zt160) ?_
    intro ww7
    refine VO.setV (cs' := [I (((mget m (x, t, ((r : Nat) : Int))).getD (0, ByteArray.empty, 0, 0, [])).1), St (((mget m (x, t, ((r : Nat) : Int))).getD (0, ByteArray.empty, 0, 0, [])).2.1), I (((mget m (x, t, ((r : Nat) : Int))).getD (0, ByteArray.empty, 0, 0, [])).2.2.1), I (((mget m (x, t, ((r : Nat) : Int))).getD (0, ByteArray.empty, 0, 0, [])).2.2.2.1), .v y124 (((mget m (x, t, ((r : Nat) : Int))).getD (0, ByteArray.empty, 0, 0, [])).2.2.2.2)]) vt160 .v ?_
    refine VO.shut [(12, .p y160 ((mget m (x, t, ((r : Nat) : Int))).getD (0, ByteArray.empty, 0, 0, [])))] (.cons rfl (.var m0 .refl) .nil) ?_
    refine VO.c (.assign rfl) ?_
    refine VO.go ?_
    refine VC.seq ?_
    refine VC.seq ?_
    refine VC.text ?_
    refine VO.c (.move rfl) ?_
    refine VO.c (.not) ?_
    refine VO.go ?_
    refine VC.condB rfl (fun c6 => ?_) (fun c6 => ?_)
    · try simp only [Bool.and_eq_true, Bool.or_eq_true, Bool.and_eq_false_iff, Bool.or_eq_false_iff, Bool.not_eq_true', Bool.not_eq_false', decide_eq_true_eq, decide_eq_false_iff_not] at c6
      have hs : (hasQ m x t r).isSome = false := by unfold hasQ; cases hg : mget m (x, t, (r : Int)) <;> simp_all
      refine VC.seq ?_
      refine VC.text ?_
      refine VO.c (.assign rfl) ?_
      refine VO.c (.assign rfl) ?_
      refine VO.go ?_
      refine VC.ret ?_
      exact VEnd.two rfl (evC .nil) evT (pvE (by rw [rowsQ_f hr' hs])) (pvE (by rw [rowsQ_f hr' hs]))
    · try simp only [Bool.and_eq_true, Bool.or_eq_true, Bool.and_eq_false_iff, Bool.or_eq_false_iff, Bool.not_eq_true', Bool.not_eq_false', decide_eq_true_eq, decide_eq_false_iff_not] at c6
      have hs : (hasQ m x t r).isSome = true := by unfold hasQ; cases hg : mget m (x, t, (r : Int)) <;> simp_all
      refine VC.skip ?_
      show VC _ _ _ _ _ _ _ _
      refine VC.text ?_
      refine VO.c (.move rfl) ?_
      refine VO.c (.fa (.r (.r (.r (.r .o))))) ?_
      refine VO.r (.ld vt124) ?_
      refine VO.call rfl rfl (VF.call (clF_ok (by cases hg : mget m (x, t, (r : Int)) with | none => simp | some p => exact hv _ _ hg))) ?_
      refine VO.new (.lit [(((mget m (x, t, ((r : Nat) : Int))).getD (0, ByteArray.empty, 0, 0, [])).2.2.2.2)] el101) ?_
      refine VO.app rfl rfl el101 el101 (by simp; omega) ?_
      intro ww8
      refine VO.c (.assign rfl) ?_
      refine VO.nil ?_
      show VC _ _ _ _ _ _ _ _
      refine VC.text ?_
      refine VO.c (.add rfl rfl (by omega)) ?_
      refine VO.c (.move rfl) ?_
      refine VO.nil ?_
      refine ⟨_, [(1, .v y208 m), (2, St x), (3, I t), (10, .raw ww8), (15, I d.1), (16, I (((r + 1) : Nat) : Int))], ?_, ⟨rfl, rfl, rfl, rfl, rfl, rfl, trivial⟩, (r + 1), ww8, rfl, rfl, (by rw [List.range_succ, List.map_append]; unfold hasQ; cases hg : mget m (x, t, (r : Int)) <;> simp_all), (by omega), (by intro k hk; rcases Nat.lt_succ_iff_lt_or_eq.1 hk with h | h; exact hq k h; subst h; exact hs)⟩
      omega
  · refine VC.exit ?_
    show VC _ _ _ _ _ _ _ _
    refine VC.seq ?_
    refine VC.text ?_
    refine VO.c (.move rfl) ?_
    refine VO.c (.assign rfl) ?_
    refine VO.c (.assign rfl) ?_
    refine VO.go ?_
    refine VC.ret ?_
    exact VEnd.two rfl (evC (.row m0)) evT (pvE (by rw [rowsQ_t (fun k hk => hq k (by omega)), show r = d.1.toNat by omega])) (pvE (by rw [rowsQ_t (fun k hk => hq k (by omega))]))
end Go.Proofs
