/- Parts of the proof: an evaluator of the model, what it is sound for, and contracts of functions. No condition. -/
import Derived.Test.YteooaaiacpcfoaaGreatDoorP0
import Derived.Lib.UnsafeStr
import Derived.Laws.BytesString
import Derived.Lib.ConvBytes
import Derived.Orders
set_option linter.all false
namespace Go.Fs
open Go.RowKit (Below)
variable {P : Program} {ρ ρ' : Ren} {S S' : Nat → Prop} {B : Nat} {w0 w w' w1 w2 : World} {h h' h1 h2 : Heap}
def growM (e : TypeId) (size : Nat) (zs : Bool) (base : Option Addr) (n c m : Nat) (x : Value) (app : Sem (Array Value)) : Sem Value := do
  let need := n + m
  if need ≤ c then
    let new ← app
    if let some a := base then storeCells (a.add (n * size)) new.toList
    pure (.slice base need c)
  else
    if (need : Int) > IntKind.i64.max ∧ (zs ∨ (← typeInfo e).bytes = 0) then runtimePanic (.error "growslice: len out of range")
    if Builtin.nextslicecap need c * (← typeInfo e).bytes > 2 ^ 48 then (if zs then runtimePanic (.error "growslice: len out of range") else do
      if !(← Builtin.mayShare size n m base x) then mark .noRoom
      unsupported (.resourceLimit "append: a slice or a string whose bytes no memory bears"))
    let newCap ← choose (.appendCap need c e)
    askRoom (newCap * (← typeInfo e).bytes)
    let old ← Builtin.firstCells size n (.slice base n c)
    let new ← app
    let rest := Builtin.zeroCells (← zeroValue e).cells (newCap - need)
    pure (.slice (some (← newRow e (old ++ new ++ rest))) need newCap)
theorem append_run_false {argTypes : Array TypeId} {ty st xt e : TypeId} {xd : TypeDesc} {i : TypeInfo} {base : Option Addr} {n c m : Nat} {x : Value}
    (h0 : argTypes[0]? = some st) (h1 : argTypes[1]? = some xt) (hst : P.underlying st = some (.slice e)) (hxt : P.underlying xt = some xd) (hi : P.info? e = some i)
    (hx : isInt xd = false) (hn : (Builtin.lenOf x).run P w = .ok m w) :
    (Builtin.append_ argTypes ty #[.slice base n c, x]).run P w = (growM e i.size false base n c m x (Builtin.firstCells i.size m x)).run P w := by
  unfold Builtin.append_; simp only [h0, h1, List.getElem?_toArray, List.getElem?_cons_zero, List.getElem?_cons_succ, Sem.run_bind, run_underlying hst, run_underlying hxt, Result.andThen_ok, sizeOf_run e i hi, Sem.run_pure]
  cases xd with
  | int k => cases hx
  | _ =>
    refine Eq.trans (b := Sem.run P (Builtin.lenOf x >>= fun m' => growM e i.size false base n c m' x (Builtin.firstCells i.size m' x)) w) rfl ?_; simp only [Sem.run_bind, hn, Result.andThen_ok]
theorem append_run_true {argTypes : Array TypeId} {ty st xt e : TypeId} {xd : TypeDesc} {i : TypeInfo} {base : Option Addr} {n c k : Nat}
    (h0 : argTypes[0]? = some st) (h1 : argTypes[1]? = some xt) (hst : P.underlying st = some (.slice e)) (hxt : P.underlying xt = some xd) (hi : P.info? e = some i)
    (hx : isInt xd = true) (hk : (k : Int) ≤ 1099511627776) (hb : k * i.bytes ≤ 1099511627776) :
    (Builtin.append_ argTypes ty #[.slice base n c, .int .i64 k]).run P w = (growM e i.size true base n c k (.int .i64 k)
      (if k * i.size = 0 then pure #[] else do pure (Builtin.zeroCells (← zeroValue e).cells k))).run P w := by
  unfold Builtin.append_; simp only [h0, h1, List.getElem?_toArray, List.getElem?_cons_zero, List.getElem?_cons_succ, Sem.run_bind, run_underlying hst, run_underlying hxt, Result.andThen_ok, sizeOf_run e i hi, Sem.run_pure]
  have n1 : ¬ ((k : Int) < 0) := by omega
  have hb2 : ((k : Int) * (i.bytes : Int)) ≤ 1099511627776 := by
    have : ((k * i.bytes : Nat) : Int) ≤ 1099511627776 := by omega
    simpa using this
  have n2 : ¬ ((k : Int) * (i.bytes : Int) > 2 ^ 48) := by omega
  cases xd with
  | int kd =>
    refine Eq.trans (b := Sem.run P (do
      let l ← asInt (.int .i64 (k : Int))
      let jp : Nat → Sem Value := fun m' => growM e i.size true base n c m' (.int .i64 k) (if m' * i.size = 0 then pure #[] else do pure (Builtin.zeroCells (← zeroValue e).cells m'))
      if IntKind.i64.wrap l < 0 then
        runtimePanic (.error "makeslice: len out of range")
        if IntKind.i64.wrap l * (← typeInfo e).bytes > 2 ^ 48 then
          let made ← choose (.extern "append.ofMake.carriedOut" 2)
          runtimePanic (.error (if made == 1 then "makeslice: len out of range" else "growslice: len out of range"))
          jp (← pure (IntKind.i64.wrap l).toNat)
        else jp (← pure (IntKind.i64.wrap l).toNat)
      else
        if IntKind.i64.wrap l * (← typeInfo e).bytes > 2 ^ 48 then
          let made ← choose (.extern "append.ofMake.carriedOut" 2)
          runtimePanic (.error (if made == 1 then "makeslice: len out of range" else "growslice: len out of range"))
          jp (← pure (IntKind.i64.wrap l).toNat)
        else jp (← pure (IntKind.i64.wrap l).toNat)) w) rfl ?_
    simp only [Sem.run_bind, asInt, asIntOf, Sem.run_pure, Result.andThen_ok, wrap_i64_id (by omega : (0 : Int) ≤ k) hk, n1, if_false, typeInfo_run e i hi, n2, Int.toNat_natCast]
  | _ => cases hx
theorem i64_max : IntKind.i64.max = 9223372036854775807 := rfl
theorem growM_new {e : TypeId} {i : TypeInfo} {z x : Value} {zs : Bool} {base : Option Addr} {n c m : Nat} {app : Sem (Array Value)} {old new : List Value}
    (hi : P.info? e = some i) (hz : i.zero = some z) (hzs : z.cells.size = i.size) (hby : 0 < i.bytes) (hneed : c < n + m) (hbound : (n + m) * i.bytes ≤ 274877906944)
    (hold : (Builtin.firstCells i.size n (.slice base n c)).run P w.drew = .ok old.toArray w.drew) (happ : app.run P w.drew = .ok new.toArray w.drew) (ho : old.length = n * i.size) (hn : new.length = m * i.size) :
    ∃ cap rest, n + m ≤ cap ∧ (old ++ new ++ rest).length = cap * i.size ∧
      (growM e i.size zs base n c m x app).run P w = .ok (.slice (some ⟨w.heap.size, 0, none⟩) (n + m) cap) (w.drew.alloc (.cells (old ++ new ++ rest).toArray e)) := by
  have hnb : n + m ≤ 274877906944 := Nat.le_trans (Nat.le_mul_of_pos_right _ hby) hbound; have hbb : i.bytes ≤ 274877906944 := Nat.le_trans (Nat.le_mul_of_pos_left _ (by omega)) hbound; have hcap := nextslicecap_le (n + m) c hneed
  have hprod : Builtin.nextslicecap (n + m) c * i.bytes ≤ 2 ^ 48 := by
    have h1 : Builtin.nextslicecap (n + m) c * i.bytes ≤ (2 * (n + m) + 192) * i.bytes := Nat.mul_le_mul_right _ hcap
    have h2 : (2 * (n + m) + 192) * i.bytes = 2 * ((n + m) * i.bytes) + 192 * i.bytes := by
      rw [Nat.add_mul, Nat.mul_assoc]
    omega
  have n1 : ¬ (n + m ≤ c) := by omega
  have n2 : ¬ ((((n + m : Nat) : Int) > IntKind.i64.max) ∧ (zs = true ∨ i.bytes = 0)) := by
    rw [i64_max]; omega
  have n3 : ¬ (Builtin.nextslicecap (n + m) c * i.bytes > 2 ^ 48) := by omega
  have hq : (Question.appendCap (n + m) c e).forced = false := rfl; refine ⟨(Question.appendCap (n + m) c e).cut (w.tape w.drawn (Question.appendCap (n + m) c e)), (Builtin.zeroCells z.cells ((Question.appendCap (n + m) c e).cut (w.tape w.drawn (Question.appendCap (n + m) c e)) - (n + m))).toList, ?_, ?_, ?_⟩
  · simp only [Question.cut]; omega
  · have hle : n + m ≤ (Question.appendCap (n + m) c e).cut (w.tape w.drawn (Question.appendCap (n + m) c e)) := by simp only [Question.cut]; omega
    simp only [List.length_append, ho, hn, Builtin.zeroCells, hzs]; simp only [Array.toList_map, List.length_map, Array.length_toList, Array.size_range]; rw [← Nat.add_mul, ← Nat.add_mul]; congr 1; omega
  unfold growM; simp only [n1, if_false, Sem.run_bind, typeInfo_run e i hi, Result.andThen_ok, n2, n3, run_choose, hq, Bool.false_eq_true, run_askRoom]; have hd : ({ w with drawn := w.drawn + 1 } : World) = w.drew := rfl; rw [hd]; simp only [Sem.run_bind, hold, happ, Result.andThen_ok, zeroValue_run e i z hi hz, newRow, run_newObj, Sem.run_pure]; congr 2; show (w.drew.heap.push _) = _; congr 2; apply Array.toList_inj.1; simp
theorem growM_in {e : TypeId} {size : Nat} {x : Value} {zs : Bool} {A : Addr} {n c m : Nat} {app : Sem (Array Value)} {new : List Value} (hle : n + m ≤ c) (happ : app.run P w = .ok new.toArray w)
    (hst : (storeCells (A.add (n * size)) new).run P w = .ok () w') : (growM e size zs (some A) n c m x app).run P w = .ok (.slice (some A) (n + m) c) w' := by
  unfold growM; simp only [hle, if_true, Sem.run_bind, happ, Result.andThen_ok, hst, Sem.run_pure]
structure App (P : Program) (ρ : Ren) (S : Nat → Prop) (w : World) (app : Sem (Array Value)) (news : List Value) : Prop where
  here : ∃ new, LR ρ S news new ∧ app.run P w = .ok new.toArray w
  drew : ∃ new, LR ρ S news new ∧ app.run P w.drew = .ok new.toArray w.drew
theorem grown_ok {e : TypeId} {i : TypeInfo} {n m c : Nat} {olds news old new rest : List Value} (hr : HR P ρ S B w0 h w) (hi : P.info? e = some i)
    (ho : LR ρ S olds old) (hn : LR ρ S news new) (hle : n + m ≤ c) (hlen : (old ++ new ++ rest).length = c * i.size) :
    Val P B w0 ρ S h w (grown e (n + m) (olds ++ news) h).1 (grown e (n + m) (olds ++ news) h).2 (.ok (.slice (some ⟨w.heap.size, 0, none⟩) (n + m) c) (w.drew.alloc (.cells (old ++ new ++ rest).toArray e))) := by
  have hr2 : HR P ρ S B w0 h w.drew := hr.drew _; have hl1 := ho.1; have hl2 := hn.1
  have hm := newRow_ok hr2 e (cs := olds ++ news) (cur := old ++ new ++ rest) true (by simp; omega) (fun e => by cases e) (fun j hj => by
    have h1 := (ho.append hn).2 j hj; rw [List.getD_eq_getElem?_getD, List.getD_eq_getElem?_getD] at h1 ⊢; rw [List.getElem?_append_left (show j < (old ++ new).length by simp at hj ⊢; omega)]
    exact h1)
  refine ⟨_, _, _, rfl, Moved.ofDrew hm, ?_⟩; exact slice_new hr.pos (n + m) c _ rfl hle (by rw [hlen, cellsOf_info hi]) _ (Ext.pushNext _)
theorem grow_ok {e : TypeId} {i : TypeInfo} {z s s' x v : Value} {zs : Bool} {m : Nat} {news : List Value} {app : Sem (Array Value)} (hr : HR P ρ S B w0 h w) (hi : P.info? e = some i) (hz : i.zero = some z) (hzs : z.cells.size = i.size)
    (hsz : 0 < i.size) (hby : 0 < i.bytes) (hnl : news.length = m * i.size) (hone : news.all oneCell = true) (hs : VR ρ S s s') (happ : App P ρ S w app news) (hf : fsGrow e i s m news h = some (v, h')) :
    ∃ base n c, s' = .slice base n c ∧ Val P B w0 ρ S h w v h' ((growM e i.size zs base n c m x app).run P w) := by
  obtain ⟨new0, hl0, happ0⟩ := happ.here; obtain ⟨new1, hl1, happ1⟩ := happ.drew; have hr2 : HR P ρ S B w0 h w.drew := hr.drew _; unfold fsGrow at hf; split at hf
  · obtain rfl := hs.nilSlice_inv; refine ⟨none, 0, 0, rfl, ?_⟩
    cases hm : Nat.beq m 0 with
    | true =>
      rw [hm] at hf; simp only [cond_true, Option.some.injEq, Prod.mk.injEq] at hf; obtain ⟨rfl, rfl⟩ := hf; obtain rfl := nbeq hm
      have : (growM e i.size zs none 0 0 0 x app).run P w = .ok (.slice none 0 0) w := by
        unfold growM; simp only [Nat.add_zero, Nat.le_refl, if_true, Sem.run_bind, happ0, Result.andThen_ok, Sem.run_pure]
      rw [this]
      exact Val.pure hr (.lit rfl)
    | false =>
      rw [hm] at hf; simp only [cond_false] at hf; obtain ⟨hb, hf2⟩ := bif_some hf; clear hf; have hb := nble hb; have hm0 := ne_of_no hm; simp only [Option.some.injEq] at hf2; obtain ⟨cap, rest, h1, h2, h3⟩ := growM_new (P := P) (w := w) (e := e) (i := i) (x := x) (zs := zs) (base := none) (n := 0) (c := 0) (m := m) (app := app) (old := []) (new := new1) hi hz hzs hby (by omega) (by simpa using hb) (by simp [Builtin.firstCells]) happ1 (by simp) (by rw [← hl1.1, hnl]); have h4 := grown_ok (n := 0) (m := m) hr hi (olds := []) LR.nil hl1 h1 h2; rw [h3]; simp only [Nat.zero_add, List.nil_append] at h4 hf2 ⊢; rw [hf2] at h4; exact h4
  · rename_i b o n mk; obtain ⟨A, c, rfl, hn, hm1, h0, hb⟩ := hs.slice_inv; refine ⟨some A, n, c, rfl, ?_⟩
    cases hq : (Nat.beq m 0 && Nat.beq mk 1) with
    | true =>
      rw [hq] at hf; simp only [cond_true, Option.some.injEq, Prod.mk.injEq] at hf; obtain ⟨rfl, rfl⟩ := hf; obtain ⟨hm, hmk⟩ := band hq; obtain rfl := nbeq hm; have hnew : new0 = [] := List.eq_nil_of_length_eq_zero (by rw [← hl0.1, hnl]; simp); subst hnew; have hc := hm1 (nbeq hmk); rw [growM_in (w' := w) (by omega) happ0 rfl]
      exact Val.pure hr (by simpa using hs)
    | false =>
      rw [hq] at hf; simp only [cond_false] at hf; split at hf
      · rename_i e' cs own more hg; obtain ⟨hc1, hf2⟩ := bif_some hf; clear hf; obtain ⟨hc2, hle⟩ := band hc1; obtain ⟨he, hbd⟩ := band hc2; obtain rfl := nbeq he; have hbd := nble hbd; have hle := nble hle; have hobj := (hr.objs b _ hg).2; have hb0 : b ≠ 0 := (hr.ids b (hr.objs b _ hg).1).2; obtain ⟨hS, rfl, hcap⟩ := hb hb0; have hesz := hobj.esz.trans (cellsOf_info hi); have hcell : ∀ i, i < cs.length → ∃ v, w.cell? ((ρ b).at i) = some v ∧ VR ρ S (cs.getD i undef) v := fun i hi => hobj.cell hi
        -- the old elements, read behind the draw
        obtain ⟨olds, hold, hlo⟩ := loadCells_ok (P := P) (w := w.drew) (l := ρ b) (ρ := ρ) (S := S) (o := o) (n := n * i.size) hcell hle
        have hol : olds.length = n * i.size := by rw [← hlo.1]; simp; omega
        have hfirst : (Builtin.firstCells i.size n (.slice (some ((ρ b).at o)) n c)).run P w.drew = .ok olds.toArray w.drew := hold
        have mkNew : c < n + m → Val P B w0 ρ S h w (grown e' (n + m) ((cs.drop o).take (n * i.size) ++ news) h).1 (grown e' (n + m) ((cs.drop o).take (n * i.size) ++ news) h).2
            ((growM e' i.size zs (some ((ρ b).at o)) n c m x app).run P w) := fun hlt => by
          obtain ⟨cap, rest, h1, h2, h3⟩ := growM_new (P := P) (w := w) (e := e') (i := i) (x := x) (zs := zs) (base := some ((ρ b).at o)) (n := n) (c := c) (m := m) (app := app) (old := olds) (new := new1) hi hz hzs hby hlt hbd hfirst happ1 hol (by rw [← hl1.1, hnl]); rw [h3]; exact grown_ok hr hi hlo hl1 h1 h2
        cases hmk1 : Nat.beq mk 1 with
        | true =>
          rw [hmk1] at hf2; simp only [cond_true, Option.some.injEq] at hf2; have hc := hm1 (nbeq hmk1)
          have hm0 : m ≠ 0 := fun e => by subst e; simp [hmk1] at hq
          have := mkNew (by omega); rw [hf2] at this
          exact this
        | false =>
          rw [hmk1] at hf2; simp only [cond_false] at hf2; obtain ⟨hc3, hf3⟩ := bif_some hf2; clear hf2; obtain ⟨hmk0, hown⟩ := band hc3; have hcap := hcap (nbeq hmk0); rw [hesz] at hcap; subst hown; obtain ⟨cur, hcur1, hoff, htot, _, hlc, hmore, hrel⟩ := hobj
          cases hin : Nat.ble (o + (n + m) * i.size) cs.length with
          | true =>
            rw [hin] at hf3; simp only [cond_true, Option.some.injEq, Prod.mk.injEq] at hf3; obtain ⟨rfl, hf4⟩ := hf3; have hin := nble hin
            have hnm : n + m ≤ c := by
              have h1 : (n + m) * i.size ≤ c * i.size := by omega
              exact Nat.le_of_mul_le_mul_right h1 hsz
            have hres : VR ρ S (.slice (some ⟨b, o, none⟩) (n + m) 0) (.slice (some ((ρ b).at o)) (n + m) c) :=
              .slice b o (n + m) 0 c _ hnm (fun e => by cases e) (fun e => absurd e hb0) (fun _ => ⟨hS, rfl, fun _ => by rw [hesz]; exact hcap⟩)
            cases hm : Nat.beq m 0 with
            | true =>
              rw [hm] at hf4; simp only [cond_true] at hf4; subst hf4; have hm0 := nbeq hm; have hnew : new0 = [] := List.eq_nil_of_length_eq_zero (by rw [← hl0.1, hnl, hm0]; simp); subst hnew; rw [growM_in (w' := w) hnm happ0 rfl]
              exact Val.pure hr hres
            | false =>
              rw [hm] at hf4; simp only [cond_false] at hf4; subst hf4; have hnm2 : (n + m) * i.size = n * i.size + m * i.size := Nat.add_mul _ _ _; obtain ⟨w2, h1, h2⟩ := storeCells_ok (o := o + n * i.size) hr hg hl0 hone (by omega); rw [growM_in (w' := w2) hnm happ0 (by rw [Loc.at_add]; exact h1)]
              exact ⟨ρ, w2, _, rfl, h2, hres.mono fun b hb => ⟨.inl hb, rfl⟩⟩
          | false =>
            rw [hin] at hf3; simp only [cond_false] at hf3; have hin := nble_no hin
            cases hmr : more with
            | false =>
              rw [hmr] at hf3; simp only [Bool.not_false, cond_true, Option.some.injEq] at hf3; have hcl := hmore hmr
              have hlt : c < n + m := by
                have h1 : c * i.size < (n + m) * i.size := by omega
                exact Nat.lt_of_mul_lt_mul_right h1
              have := mkNew hlt; rw [hf3] at this
              exact this
            | true =>
              rw [hmr] at hf3; simp only [Bool.not_true, cond_false] at hf3; obtain ⟨hc4, hf4⟩ := bif_some hf3; clear hf3; obtain ⟨ho0, hfull⟩ := band hc4; obtain rfl := nbeq ho0; have hfull := nbeq hfull; simp only [Option.some.injEq] at hf4; have hhas : ownO (.row e' cs true more) = true := rfl; have hB := hr.base b _ hg rfl; have hlt0 := (hr.objs b _ hg).2.lt rfl; by_cases hnm : n + m ≤ c
              · -- in place
                have hnm2 : (n + m) * i.size = n * i.size + m * i.size := Nat.add_mul _ _ _; have hcm : (n + m) * i.size ≤ c * i.size := Nat.mul_le_mul_right _ hnm
                have hnl0 : new0.length = m * i.size := by rw [← hl0.1, hnl]
                have hrun := run_storeCells_fz P (ρ b).block (n * i.size) e' (ρ b).fz new0 0 cur.toArray w hcur1 (by have := (ρ b).hfz; simpa [htot] using this) (by simp; omega) (fun v hv' => by rw [oneCell_eq]; exact hl0.oneCell hone v hv'); simp only [Nat.add_zero] at hrun
                have hat : (ρ b).at (n * i.size) = ⟨(ρ b).block, n * i.size, none⟩ := by simp [Loc.at, hoff]
                rw [growM_in hnm happ0 (by rw [Loc.at_add, Nat.zero_add, hat]; exact hrun)]
                have hmv := Moved.replace hr hg rfl (o' := .row e' (cs ++ news) true true) rfl (ρ b) (.inl rfl) hB (w' := w.setRow (ρ b).block (cur.toArray.toList.take (n * i.size) ++ new0 ++ cur.toArray.toList.drop (n * i.size + new0.length)).toArray)
                  rfl rfl rfl (by simp [World.setRow]) (fun k _ hk => setRow_other w _ k _ hk)
                  ⟨cur.take (n * i.size) ++ new0 ++ cur.drop (n * i.size + new0.length), by rw [setRow_heap w _ cur.toArray _ e' _ hcur1], hoff, by rw [length_splice _ _ _ (by omega)]; exact htot, (hr.objs b _ hg).2.esz,
                    by rw [length_splice _ _ _ (by omega)]; simp; omega, (fun e => by cases e), fun j hj => by
                      have hjj : j < cs.length + news.length := by simpa using hj
                      rw [List.getD_eq_getElem?_getD, List.getD_eq_getElem?_getD, getElem?_splice cur _ new0 (by omega), List.getElem?_append, ← hfull]; by_cases h1 : j < n * i.size
                      · rw [if_pos h1, if_pos h1]; have := (hrel j (by omega)).mono (hr.agree' (ρ b) (.row e' (cs ++ news) true true)); rw [List.getD_eq_getElem?_getD, List.getD_eq_getElem?_getD] at this; exact this
                      rw [if_neg h1, if_neg h1, if_pos (by omega)]; have := (hl0.2 (j - n * i.size) (by omega)).mono (hr.agree' (ρ b) (.row e' (cs ++ news) true true)); rw [List.getD_eq_getElem?_getD, List.getD_eq_getElem?_getD] at this
                      exact this⟩
                simp only [grown, Prod.mk.injEq] at hf4; obtain ⟨rfl, rfl⟩ := hf4; refine ⟨_, _, _, rfl, hmv, ?_⟩; have := slice_new (ρ := ρ) (S := S) hr.pos (n + m) c (ρ b) hoff hnm (by rw [hesz]; omega) ((h.drop b).push (.row e' (cs ++ news) true true)) (.inr ⟨Nat.le_refl _, Nat.lt_succ_self _⟩)
                have h0 : (ρ b).at 0 = ⟨(ρ b).block, 0, none⟩ := by simp [Loc.at, hoff]
                rw [h0]; exact this
              -- a new row
              obtain ⟨cap, rest, h1, h2, h3⟩ := growM_new (P := P) (w := w) (e := e') (i := i) (x := x) (zs := zs) (base := some ((ρ b).at 0)) (n := n) (c := c) (m := m) (app := app) (old := olds) (new := new1) hi hz hzs hby (by omega) hbd hfirst happ1 hol (by rw [← hl1.1, hnl]); rw [h3]
              have hcs : (cs.drop 0).take (n * i.size) = cs := by rw [hfull]; simp
              rw [hcs] at hlo; have hl2 := hl1.1; have hl3 := hlo.1
              have hmv := Moved.replace (w := w.drew) hr2 hg rfl (o' := .row e' (cs ++ news) true true) rfl (.clean w.heap.size 0 (olds ++ new1 ++ rest).length (P.cellsOf e')) (.inr (Nat.le_refl _)) hr.size
                (w' := w.drew.alloc (.cells (olds ++ new1 ++ rest).toArray e')) rfl rfl rfl (by simp) (fun k hk _ => Below.heap_alloc w.drew _ k hk)
                ⟨olds ++ new1 ++ rest, heap_alloc_new w.drew _, rfl, rfl, rfl, by simp; omega, (fun e => by cases e), fun j hj => by
                  have h4 := ((hlo.append hl1).mono (hr.agree' (.clean w.heap.size 0 (olds ++ new1 ++ rest).length (P.cellsOf e')) (.row e' (cs ++ news) true true))).2 j hj; rw [List.getD_eq_getElem?_getD, List.getD_eq_getElem?_getD] at h4 ⊢; rw [List.getElem?_append_left (show j < (olds ++ new1).length by simp at hj ⊢; omega)]
                  exact h4⟩
              simp only [grown, Prod.mk.injEq] at hf4; obtain ⟨rfl, rfl⟩ := hf4; refine ⟨_, _, _, rfl, Moved.ofDrew hmv, ?_⟩; exact slice_new hr.pos (n + m) cap _ rfl h1 (by rw [h2, cellsOf_info hi]) _ (.inr ⟨Nat.le_refl _, Nat.lt_succ_self _⟩)
      cases hf
  cases hf
theorem append_ok {argTypes : Array TypeId} {ty : TypeId} {s x s' x' v : Value} (hr : HR P ρ S B w0 h w) (hs : VR ρ S s s') (hx : VR ρ S x x') (hf : fsAppend P argTypes s x h = some (v, h')) :
    Val P B w0 ρ S h w v h' ((Builtin.append_ argTypes ty #[s', x']).run P w) := by
  unfold fsAppend at hf; split at hf
  · rename_i st xt h0 h1; split at hf
    · rename_i e xd hst hxt; split at hf
      · rename_i i hi; split at hf
        · rename_i z hz; split at hf
          · rename_i m news happ; obtain ⟨hc, hf2⟩ := bif_some hf; clear hf; obtain ⟨hc1, hzs⟩ := band hc; obtain ⟨hc2, hone⟩ := band hc1; obtain ⟨hc3, hnl⟩ := band hc2; obtain ⟨hsz, hby⟩ := band hc3; have hsz := nblt hsz; have hby := nblt hby; have hnl := nbeq hnl; have hzs := nbeq hzs; obtain ⟨new0, a1, a2, a3⟩ := appended_ok hi hz hzs hsz hr hx happ; obtain ⟨new1, b1, b2, b3⟩ := appended_ok hi hz hzs hsz (hr.drew (w.drawn + 1)) hx happ
            cases hxi : isInt xd with
            | false =>
              rw [hxi] at a2 a3 b3; simp only [Bool.false_eq_true, if_false, Bool.not_false, if_true] at a2 a3 b3; have hApp : App P ρ S w (Builtin.firstCells i.size m x') news := ⟨⟨new0, a1, a3⟩, ⟨new1, b1, b3⟩⟩; obtain ⟨base, n, c, rfl, hval⟩ := grow_ok (x := x') (zs := false) hr hi hz hzs hsz hby hnl hone hs hApp hf2; rw [append_run_false h0 h1 hst hxt hi hxi a2]
              exact hval
            | true =>
              have hx2 : ∃ k : Nat, x' = .int .i64 k ∧ m = k ∧ (k : Int) ≤ 1099511627776 ∧ k * i.bytes ≤ 1099511627776 := by
                rw [hxi] at happ; unfold appended at happ; simp only [cond_true] at happ; split at happ
                · rename_i l; obtain ⟨hd, hf3⟩ := bif_some happ; obtain ⟨hd1, _⟩ := band hd; obtain ⟨hd2, hbb⟩ := band hd1; obtain ⟨hl0, hl1⟩ := band hd2; have hl0 := of_decide_eq_true hl0; have hl1 := of_decide_eq_true hl1; obtain ⟨k, rfl⟩ := Int.eq_ofNat_of_zero_le hl0; simp only [Int.toNat_natCast, Option.some.injEq, Prod.mk.injEq] at hf3 hbb; exact ⟨k, hx.int_inv, hf3.1.symm, hl1, nble hbb⟩
                cases happ
              obtain ⟨k, rfl, rfl, hk1, hk2⟩ := hx2; rw [hxi] at a3 b3; simp only [Bool.not_true, Bool.false_eq_true, if_false] at a3 b3; have hApp : App P ρ S w (if m * i.size = 0 then pure #[] else do pure (Builtin.zeroCells (← zeroValue e).cells m)) news := ⟨⟨new0, a1, a3⟩, ⟨new1, b1, b3⟩⟩; obtain ⟨base, n, c, rfl, hval⟩ := grow_ok (x := .int .i64 m) (zs := true) hr hi hz hzs hsz hby hnl hone hs hApp hf2; rw [append_run_true h0 h1 hst hxt hi hxi hk1 hk2]; exact hval
          cases hf
        cases hf
      cases hf
    cases hf
  cases hf
end Go.Fs
namespace Go.Fs
open Go.RowKit (Below)
variable {P : Program} {ρ ρ' : Ren} {S S' : Nat → Prop} {B : Nat} {w0 w w' w1 w2 : World} {h h' h1 h2 : Heap}
def KeyR (es es' : List MapEntry) : Prop := es.length = es'.length ∧ ∀ (i : Nat) (e e' : MapEntry), es[i]? = some e → es'[i]? = some e' → e'.key = e.key
def FindR (es es' : List MapEntry) (i : Nat) : Option (Nat × Value) → Option (Nat × Value) → Prop
  | none, none => True
  | some (j, v), some (j', v') => j' = j ∧ ∃ m e e', j = i + m ∧ es[m]? = some e ∧ es'[m]? = some e' ∧ v = e.val ∧ v' = e'.val
  | _, _ => False
theorem FindR.step {es es' : List MapEntry} {a a' : MapEntry} {i : Nat} {r r' : Option (Nat × Value)} (h : FindR es es' (i + 1) r r') : FindR (a :: es) (a' :: es') i r r' := by
  match r, r', h with
  | none, none, _ => trivial
  | some (j, v), some (j', v'), ⟨h1, m, e, e', h2, h3, h4, h5⟩ => exact ⟨h1, m + 1, e, e', by omega, by simpa using h3, by simpa using h4, h5⟩
theorem KeyR.tail {es es' : List MapEntry} {a a' : MapEntry} (h : KeyR (a :: es) (a' :: es')) : a'.key = a.key ∧ KeyR es es' :=
  ⟨h.2 0 a a' rfl rfl, by simpa using h.1, fun i e e' he he' => h.2 (i + 1) e e' (by simpa using he) (by simpa using he')⟩
theorem findNow_ok {d : TypeDesc} {k : Value} : ∀ (es es' : List MapEntry) (i : Nat), KeyR es es' →
    (Instr.findNow d k es i = none → Instr.findNow d k es' i = none) ∧ ∀ r, Instr.findNow d k es i = some r → ∃ r', Instr.findNow d k es' i = some r' ∧ FindR es es' i r r'
  | [], [], i, _ => ⟨fun h => h, fun r h => ⟨none, rfl, by simp only [Instr.findNow, Option.some.injEq] at h; subst h; trivial⟩⟩
  | [], _ :: _, _, h => by simp [KeyR] at h
  | _ :: _, [], _, h => by simp [KeyR] at h
  | a :: es, a' :: es', i, h => by
    obtain ⟨hk, ht⟩ := h.tail; obtain ⟨ih1, ih2⟩ := findNow_ok (d := d) (k := k) es es' (i + 1) ht; simp only [Instr.findNow, hk]
    cases hs : Instr.sameNow d k a.key with
    | none => exact ⟨fun _ => rfl, fun r hr => by cases hr⟩
    | some b =>
      cases b with
      | true =>
        refine ⟨fun hc => by (cases hc), fun r hr => ?_⟩; simp only [Option.some.injEq] at hr; subst hr
        exact ⟨_, rfl, rfl, 0, a, a', rfl, rfl, rfl, rfl, rfl⟩
      | false =>
        refine ⟨fun hc => ih1 hc, fun r hr => ?_⟩; obtain ⟨r', h1, h2⟩ := ih2 r hr; exact ⟨r', h1, h2.step⟩
theorem findAsking_ok {t : TypeId} {k : Value} : ∀ (es es' : List MapEntry) (i : Nat) (r : Option (Nat × Value)), KeyR es es' → runPure P (Instr.findAsking t k es i) = some r →
    ∃ r', runPure P (Instr.findAsking t k es' i) = some r' ∧ FindR es es' i r r'
  | [], [], i, r, _, h => ⟨none, rfl, by
      have h' : some none = some r := h
      simp only [Option.some.injEq] at h'; subst h'; trivial⟩
  | [], _ :: _, _, _, h, _ => by simp [KeyR] at h
  | _ :: _, [], _, _, h, _ => by simp [KeyR] at h
  | a :: es, a' :: es', i, r, h, hr => by
    obtain ⟨hk, ht⟩ := h.tail; simp only [Instr.findAsking, runPure_bind, hk] at hr ⊢
    cases hs : runPure P (Op.equal t k a.key) with
    | none => rw [hs] at hr; cases hr
    | some b =>
      rw [hs] at hr; simp only [Option.bind_some] at hr ⊢
      cases b with
      | true =>
        simp only [if_true, runPure_pure, Option.some.injEq] at hr ⊢; subst hr
        exact ⟨_, rfl, rfl, 0, a, a', rfl, rfl, rfl, rfl, rfl⟩
      | false =>
        simp only [Bool.false_eq_true, if_false] at hr ⊢; obtain ⟨r', h1, h2⟩ := findAsking_ok es es' (i + 1) r ht hr; exact ⟨r', h1, h2.step⟩
theorem find_ok {t : TypeId} {k : Value} {es es' : List MapEntry} {r : Option Nat} (hk : KeyR es es') (hf : fsFind P t k es = some r) (w : World) :
    ∃ a a', (Instr.findKey t k es').run P w = .ok a' w ∧ FindR es es' 0 a a' ∧ r = a.map (·.1) := by
  unfold fsFind at hf; split at hf
  · rename_i d hd; split at hf
    · rename_i a ha; simp only [Option.some.injEq] at hf; obtain ⟨a', h1, h2⟩ := (findNow_ok es es' 0 hk).2 a ha; exact ⟨a, a', by simp [Instr.findKey, run_underlying hd, Result.andThen, h1], h2, hf.symm⟩
    rename_i ha; have h1 := (findNow_ok es es' 0 hk).1 ha; obtain ⟨a, h2, h3⟩ := Option.map_eq_some_iff.1 hf; obtain ⟨a', h4, h5⟩ := findAsking_ok es es' 0 a hk h2; refine ⟨a, a', ?_, h5, h3.symm⟩; simp only [Instr.findKey, Sem.run_bind, run_underlying hd, Result.andThen_ok, h1]; exact runPure_run h4 w
  cases hf
theorem getMap_run {r : Nat} {es : Array MapEntry} {clock : Nat} (hb : w.heap[r]? = some (.map es clock)) : (getObj r).run P w = .ok (.map es clock) w := by
  simp [getObj, Sem.run, hb]
theorem setMap_run {r : Nat} {es : Array MapEntry} {clock : Nat} (o : Obj) (hb : w.heap[r]? = some (.map es clock)) : (setObj r o).run P w = .ok () { w with heap := w.heap.setIfInBounds r o } := by
  simp [setObj, Sem.run, hb]
theorem heap_put {r : Nat} {o o' : Obj} (hb : w.heap[r]? = some o) : (w.heap.setIfInBounds r o')[r]? = some o' ∧ ∀ r', r' ≠ r → (w.heap.setIfInBounds r o')[r']? = w.heap[r']? := by
  have hlt : r < w.heap.size := (Array.getElem?_eq_some_iff.1 hb).1; exact ⟨by simp [hlt], fun r' hne => by simp [Ne.symm hne]⟩
theorem mapo_ok {b : Nat} {es : List MapEntry} {clock : Nat} (hr : HR P ρ S B w0 h w) (hg : h.get b = some (.mapo es clock)) :
    ∃ es' : List MapEntry, w.heap[(ρ b).block]? = some (.map es'.toArray clock) ∧ es.length = es'.length ∧
      ∀ (i : Nat) (e e' : MapEntry), es[i]? = some e → es'[i]? = some e' → e'.key = e.key ∧ af e.key = true ∧ e'.born = e.born ∧ VR ρ S e.val e'.val := (hr.objs b _ hg).2
theorem checkKey_ok {t : TypeId} {k : Value} {em : Bool} (hc : (runPure P (Instr.checkKey em 10000 t k)).isSome = true) (w : World) : (Instr.checkKey em 10000 t k).run P w = .ok () w := by
  obtain ⟨u, hu⟩ := Option.isSome_iff_exists.1 hc; exact runPure_run hu w
theorem lookup_ok {t : TypeId} {x x' k k' v : Value} {ok : Bool} (hr : HR P ρ S B w0 h w) (hx : VR ρ S x x') (hk : VR ρ S k k') (hf : fsLookup P t x k ok h = some v) :
    ∃ v', (Instr.lookup t x' k' ok).run P w = .ok v' w ∧ VR ρ S v v' := by
  unfold fsLookup at hf; split at hf
  · rename_i key elem hu; split at hf
    · rename_i z hz; simp only at hf; split at hf
      · rename_i es hes; split at hf
        · rename_i hc; obtain ⟨hak, haz, hck⟩ := hc; obtain rfl := hk.eq_of_af hak
          -- the map's entries in the world
          have hmap : ∃ es' : List MapEntry, (x' = .map none ∧ es' = [] ∨ ∃ r clock, x' = .map (some r) ∧ w.heap[r]? = some (.map es'.toArray clock)) ∧ KeyR es es' ∧
              ∀ (i : Nat) (e e' : MapEntry), es[i]? = some e → es'[i]? = some e' → VR ρ S e.val e'.val := by
            split at hes
            · simp only [Option.some.injEq] at hes; subst hes; obtain rfl := hx.eq_of_af0 rfl; exact ⟨[], .inl ⟨rfl, rfl⟩, ⟨rfl, fun i e e' he => by simp at he⟩, fun i e e' he => by simp at he⟩
            · rename_i b; obtain ⟨hs, rfl⟩ := hx.map_inv; split at hes
              · rename_i es2 clock hg; simp only [Option.some.injEq] at hes; subst hes; obtain ⟨es', h1, h2, h3⟩ := mapo_ok hr hg; exact ⟨es', .inr ⟨_, _, rfl, h1⟩, ⟨h2, fun i e e' he he' => (h3 i e e' he he').1⟩, fun i e e' he he' => (h3 i e e' he he').2.2.2⟩
              cases hes
            cases hes
          obtain ⟨es', h1, h2, h3⟩ := hmap
          have hem : es'.toArray.isEmpty = es.isEmpty := by
            have := h2.1; cases es <;> cases es' <;> simp_all
          obtain ⟨i, hi, hiz⟩ := Option.bind_eq_some_iff.1 hz; have hzr := zeroValue_run elem i z hi hiz w
          have hlook : ∀ a', (Instr.findKey key k' es').run P w = .ok a' w → ∀ v0 b0, (match a' with | some (_, v) => v0 = v ∧ b0 = true | none => v0 = z ∧ b0 = false) →
              (Instr.lookup t x' k' ok).run P w = .ok (if ok then .tuple #[v0, .bool b0] else v0) w := fun a' ha' v0 b0 hvb => by
            unfold Instr.lookup; simp only [Sem.run_bind, run_underlying hu, Result.andThen_ok]; rcases h1 with ⟨rfl, rfl⟩ | ⟨r, clock, rfl, h1⟩
            · have hem' : (#[] : Array MapEntry).isEmpty = es.isEmpty := hem; have ha2 : (Instr.findKey key k' (#[] : Array MapEntry).toList).run P w = .ok a' w := ha'; simp only [Sem.run_bind, Sem.run_pure, Result.andThen_ok, hem', checkKey_ok hck, ha2]
              cases a' with
              | none =>
                obtain ⟨rfl, rfl⟩ := hvb
                simp only [Sem.run_bind, hzr, Result.andThen_ok, Sem.run_pure]
              | some p =>
                obtain ⟨rfl, rfl⟩ := hvb; simp only [Sem.run_bind, Result.andThen_ok, Sem.run_pure]
            simp only [Sem.run_bind, Sem.run_pure, getMap_run h1, Result.andThen_ok, hem, checkKey_ok hck, ha']
            cases a' with
            | none =>
              obtain ⟨rfl, rfl⟩ := hvb
              simp only [Sem.run_bind, hzr, Result.andThen_ok, Sem.run_pure]
            | some p =>
              obtain ⟨rfl, rfl⟩ := hvb; simp only [Sem.run_bind, Result.andThen_ok, Sem.run_pure]
          have wrap : ∀ v0 v1 b0, VR ρ S v0 v1 → VR ρ S (if ok = true then .tuple #[v0, .bool b0] else v0) (if ok = true then .tuple #[v1, .bool b0] else v1) := fun v0 v1 b0 hv => by
            cases ok with
            | false => exact hv
            | true => exact VR.tuple' (LR.cons hv (LR.cons (.lit rfl) LR.nil))
          split at hf
          · rename_i j hj; obtain ⟨a, a', h4, h5, h6⟩ := find_ok h2 hj w; split at hf
            · rename_i e he; simp only [Option.some.injEq] at hf; subst hf
              match a, a', h5 with
              | some (j1, v1), some (j2, v2), ⟨e1, m, e3, e4, e5, e6, e7, e8, e9⟩ =>
                simp only [Option.map_some, Option.some.injEq] at h6; subst h6
                have : m = j := by omega
                subst this; rw [e6] at he; injection he with he; subst he e9
                exact ⟨_, hlook _ h4 e4.val true ⟨rfl, rfl⟩, wrap _ _ _ (h3 _ _ _ e6 e7)⟩
              | none, none, _ => simp at h6
            cases hf
          · rename_i hj; obtain ⟨a, a', h4, h5, h6⟩ := find_ok h2 hj w; simp only [Option.some.injEq] at hf; subst hf
            match a, a', h5 with
            | some (j1, v1), some (j2, v2), _ => simp at h6
            | none, none, _ => exact ⟨_, hlook _ h4 z false ⟨rfl, rfl⟩, wrap _ _ _ (.of_af haz)⟩
          cases hf
        cases hf
      cases hf
    cases hf
  cases hf
theorem mapUpdate_ok {t : TypeId} {m m' k k' x x' : Value} (hr : HR P ρ S B w0 h w) (hm : VR ρ S m m') (hk : VR ρ S k k') (hx : VR ρ S x x') (hf : fsMapUpdate P t m k x h = some h') :
    ∃ w', (Instr.mapUpdate t m' k' x').run P w = .ok () w' ∧ Moved P B w0 ρ ρ S h h' w w' := by
  unfold fsMapUpdate at hf; split at hf
  · rename_i key elem b hu; obtain ⟨hs, rfl⟩ := hm.map_inv; split at hf
    · rename_i es clock hg; split at hf
      · rename_i hc; obtain ⟨hak, hck⟩ := hc; obtain rfl := hk.eq_of_af hak; obtain ⟨es', h1, h2, h3⟩ := mapo_ok hr hg; have hkr : KeyR es es' := ⟨h2, fun i e e' he he' => (h3 i e e' he he').1⟩
        have put : ∀ (es2 es2' : List MapEntry) (c2 : Nat), es2.length = es2'.length →
            (∀ (i : Nat) (e e' : MapEntry), es2[i]? = some e → es2'[i]? = some e' → e'.key = e.key ∧ af e.key = true ∧ e'.born = e.born ∧ VR ρ S e.val e'.val) →
            Moved P B w0 ρ ρ S h (h.set b (.mapo es2 c2)) w { w with heap := w.heap.setIfInBounds (ρ b).block (.map es2'.toArray c2) } := fun es2 es2' c2 hl hv =>
          Moved.set hr hg rfl rfl rfl rfl rfl (by simp) (fun k hk => (heap_put h1).2 k hk) ⟨es2', (heap_put h1).1, hl, hv⟩
        split at hf
        · rename_i j hj; obtain ⟨a, a', h4, h5, h6⟩ := find_ok hkr hj w; split at hf
          · rename_i e he; split at hf
            · rename_i hsame; simp only [Option.some.injEq] at hf; subst hf
              match a, a', h5 with
              | some (j1, v1), some (j2, v2), ⟨e1, m, e3, e4, e5, e6, e7, e8, e9⟩ =>
                simp only [Option.map_some, Option.some.injEq] at h6
                have q1 : m = j2 := by omega
                have q2 : m = j := by omega
                subst q1 q2; rw [e6] at he; injection he with he; subst he; have hkey := (h3 _ _ _ e6 e7).1; refine ⟨_, ?_, put (es.set m { e3 with key := k', val := x }) (es'.set m { e4 with key := k', val := x' }) clock (by simp [h2]) ?_⟩
                · unfold Instr.mapUpdate
                  have hg4 : ((es'.toArray[m]?).map (·.key)).getD k' = e3.key := by simp [e7, hkey]
                  simp only [Sem.run_bind, run_underlying hu, Result.andThen_ok, getMap_run h1, checkKey_ok hck, h4, hg4, Instr.keyThatStays, hsame, if_true, Sem.run_pure, setMap_run _ h1]; congr 3; apply congrArg (fun z => Obj.map z clock); apply Array.toList_inj.1; refine List.ext_getElem? fun q => ?_; simp only [Array.toList_modify, List.getElem?_modify, List.getElem?_set]; have hlt := (List.getElem?_eq_some_iff.1 e7).1; by_cases hq : m = q
                  · subst hq
                    have h9 : es'[m] = e4 := by
                      have := List.getElem?_eq_getElem hlt; rw [e7] at this; injection this with this; exact this.symm
                    simp [hlt, h9]
                  simp [hq]
                intro i e e' he he'; rw [List.getElem?_set] at he he'; split at he
                · rename_i hq; rw [if_pos hq] at he'; split at he
                  · split at he'
                    · injection he with he; injection he' with he'; subst he he'; exact ⟨rfl, hak, (h3 _ _ _ e6 e7).2.2.1, hx⟩
                    cases he'
                  cases he
                rename_i hq; rw [if_neg hq] at he'
                exact h3 i e e' he he'
              | none, none, _ => simp at h6
            cases hf
          cases hf
        · rename_i hj; obtain ⟨a, a', h4, h5, h6⟩ := find_ok hkr hj w; simp only [Option.some.injEq] at hf; subst hf
          match a, a', h5 with
          | some (j1, v1), some (j2, v2), _ => simp at h6
          | none, none, _ =>
            refine ⟨_, ?_, put (es ++ [{ key := k', val := x, born := clock }]) (es' ++ [{ key := k', val := x', born := clock }]) (clock + 1) (by simp [h2]) ?_⟩
            · unfold Instr.mapUpdate; simp only [Sem.run_bind, run_underlying hu, Result.andThen_ok, getMap_run h1, checkKey_ok hck, h4, setMap_run _ h1]; congr 4; simp
            intro i e e' he he'; rw [List.getElem?_append] at he he'; rw [← h2] at he'; split at he
            · rename_i hlt; rw [if_pos hlt] at he'; exact h3 i e e' he he'
            rename_i hlt; rw [if_neg hlt] at he'
            cases hq : i - es.length with
            | zero =>
              rw [hq] at he he'; simp at he he'; subst he he'
              exact ⟨rfl, hak, rfl, hx⟩
            | succ q => rw [hq] at he; simp at he
        cases hf
      cases hf
    cases hf
  cases hf
theorem makeMap_ok (hr : HR P ρ S B w0 h w) (t : TypeId) :
    Val P B w0 ρ S h w (.map (some h.next)) (h.push (.mapo [] 0)) ((Instr.makeMap t none).run P w) := by
  refine ⟨_, _, _, rfl, Moved.push hr (.mapo [] 0) (.map #[] 0) (.clean w.heap.size 0 0 (0)) rfl rfl ⟨[], heap_alloc_new w _, rfl, fun i e e' he => by simp at he⟩, ?_⟩; have := VR.map (ρ := ρ.put h.next (.clean w.heap.size 0 0 (0))) (S := Ext S h (h.push (.mapo [] 0))) h.next (Ext.pushNext _); rw [Ren.put_same] at this; exact this
theorem range_ok {t : TypeId} {x x' v : Value} (hr : HR P ρ S B w0 h w) (hx : VR ρ S x x') (hf : fsRange P t x h = some (v, h')) :
    Val P B w0 ρ S h w v h' ((Instr.range t x').run P w) := by
  unfold fsRange at hf; split at hf
  · rename_i s hu; simp only [Option.some.injEq, Prod.mk.injEq] at hf; obtain ⟨rfl, rfl⟩ := hf; obtain rfl := hx.string_inv; refine ⟨ρ.put h.next (.clean w.heap.size 0 0 (0)), w.alloc (.stringIter s 0), .pointer (some ⟨w.heap.size, 0, none⟩), ?_, Moved.push hr (.iter s 0) (.stringIter s 0) (.clean w.heap.size 0 0 (0)) rfl rfl ⟨heap_alloc_new w _, rfl⟩, ?_⟩
    · simp only [Instr.range, Sem.run_bind, run_underlying hu, Result.andThen_ok, Sem.run_pure]; rfl
    have := VR.ptr (ρ := ρ.put h.next (.clean w.heap.size 0 0 (0))) (S := Ext S h (h.push (.iter s 0))) h.next 0 (Ext.pushNext _); rw [Ren.put_same] at this; exact this
  cases hf
theorem next_ok {ty : TypeId} {x x' v : Value} {isS : Bool} (hr : HR P ρ S B w0 h w) (hx : VR ρ S x x') (hf : fsNext x isS h = some (v, h')) :
    Val P B w0 ρ S h w v h' ((Instr.next x' isS ty).run P w) := by
  unfold fsNext at hf; split at hf
  · rename_i b; obtain ⟨hs, rfl⟩ := hx.ptr_inv; split at hf
    · rename_i s pos hg; obtain ⟨h1, h2⟩ := (hr.objs b _ hg).2
      have hat : (ρ b).at 0 = ⟨(ρ b).block, 0, none⟩ := by simp [Loc.at, h2]
      have hget : (getObj (ρ b).block).run P w = .ok (.stringIter s pos) w := by simp [getObj, Sem.run, h1]
      rw [hat]; simp only at hf; split at hf
      · rename_i hlt; simp only [Option.some.injEq, Prod.mk.injEq] at hf; obtain ⟨rfl, rfl⟩ := hf
        have hset : ∀ o', (setObj (ρ b).block o').run P w = .ok () { w with heap := w.heap.setIfInBounds (ρ b).block o' } := fun o' => by simp [setObj, Sem.run, h1]
        refine ⟨ρ, { w with heap := w.heap.setIfInBounds (ρ b).block (.stringIter s (pos + (Utf8.decode s pos).2)) }, _, ?_,
          Moved.set hr hg rfl rfl rfl rfl rfl (by simp) (fun k hk => (heap_put h1).2 k hk) ⟨(heap_put h1).1, h2⟩, .of_af rfl⟩
        simp only [Instr.next, Sem.run_bind, hget, Result.andThen_ok, hlt, if_true, hset, Sem.run_pure, goInt]
      rename_i hlt; simp only [Option.some.injEq, Prod.mk.injEq] at hf; obtain ⟨rfl, rfl⟩ := hf
      have : (Instr.next (.pointer (some ⟨(ρ b).block, 0, none⟩)) true ty).run P w = .ok (.tuple #[.bool false]) w := by
        simp only [Instr.next, Sem.run_bind, hget, Result.andThen_ok, hlt, if_false, Sem.run_pure]
      rw [this]; exact Val.pure hr (.of_af rfl)
    cases hf
  cases hf
end Go.Fs
namespace Go.Fs
open Go.RowKit (Below)
variable {P : Program} {ρ ρ' : Ren} {S S' : Nat → Prop} {B : Nat} {w0 w w' w1 w2 : World} {h h' h1 h2 : Heap}
def Nx (P : Program) (B : Nat) (w0 : World) (ρ : Ren) (S : Nat → Prop) (h : Heap) (w : World) (v : Value) (h' : Heap) (r : Result Next) : Prop :=
  ∃ ρ' w' v', (r = .ok (Next.value v') w' ∨ (r = .ok .skip w' ∧ v' = undef)) ∧ Moved P B w0 ρ ρ' S h h' w w' ∧ VR ρ' (Ext S h h') v v'
theorem nx_of_val {s : Sem Value} {v : Value} (hv : Val P B w0 ρ S h w v h' (s.run P w)) : Nx P B w0 ρ S h w v h' ((do pure (Next.value (← s)) : Sem Next).run P w) := by
  obtain ⟨ρ', w', v', h1, h2, h3⟩ := hv; exact ⟨ρ', w', v', .inl (by simp [h1]), h2, h3⟩
theorem nx_val {s : Sem Value} {v v' : Value} (hr : HR P ρ S B w0 h w) (h1 : s.run P w = .ok v' w) (hv : VR ρ S v v') : Nx P B w0 ρ S h w v h ((do pure (Next.value (← s)) : Sem Next).run P w) :=
  nx_of_val (by rw [h1]; exact Val.pure hr hv)
theorem nx_unit {s : Sem Unit} (h1 : s.run P w = .ok () w') (m : Moved P B w0 ρ ρ S h h' w w') : Nx P B w0 ρ S h w undef h' ((do s; pure .skip : Sem Next).run P w) :=
  ⟨ρ, w', undef, .inr ⟨by simp [h1], rfl⟩, m, VR.undef⟩
theorem map_pair {α : Type} {x : Option α} {h h' : Heap} {v : α} (e : (x.map fun v => (v, h)) = some (v, h')) : x = some v ∧ h' = h := by
  obtain ⟨a, h1, h2⟩ := Option.map_eq_some_iff.1 e; simp only [Prod.mk.injEq] at h2; obtain ⟨rfl, rfl⟩ := h2; exact ⟨h1, rfl⟩
theorem purely_ok {s : Sem Value} {v : Value} (hp : purely P s = some v) (w : World) : s.run P w = .ok v w ∧ af v = true := by
  unfold purely at hp; obtain ⟨a, h1, h2⟩ := Option.bind_eq_some_iff.1 hp; obtain ⟨h3, h4⟩ := bif_some (x := some a) (c := af a) (v := v) (by cases ha : af a <;> simp_all); simp only [Option.some.injEq] at h4; subst h4; exact ⟨runPure_run h1 w, h3⟩
theorem VR.func_inv {f : FuncId} {a c : Array Value} {v' : Value} (hv : VR ρ S (.func (.func f) a c) v') : ∃ a' c', v' = .func (.func f) a' c' ∧ LR ρ S a.toList a'.toList ∧ LR ρ S c.toList c'.toList := by
  cases hv with
  | lit h => simp [af0] at h
  | func f a a' c c' ha hA hc hC => exact ⟨a', c', rfl, ⟨by simpa using ha, by simpa using hA⟩, ⟨by simpa using hc, by simpa using hC⟩⟩
theorem VR.yield_inv {l : Nat} {v' : Value} (hv : VR ρ S (.func (.yield l) #[] #[]) v') : S l ∧ v' = .func (.yield (ρ l).block) #[] #[] := by
  cases hv with
  | lit h => simp [af0] at h
  | yield l hs => exact ⟨hs, rfl⟩
theorem nil_done {op : BinOp} {t : TypeId} {x y : Operand} {a' b' : Value} {r : Bool} (he : (Op.equal t a' b').run P w = .ok false w)
    (hg : ∀ q, q = .eql ∨ q = .neq → eqGuard q t x y a' b' = pure ())
    (h1 : binOp .eql t a' b' = (do pure (.bool (← Op.equal t a' b')))) (h2 : binOp .neq t a' b' = (do pure (.bool (!(← Op.equal t a' b'))))) (hop : eqNo op = some r) :
    (do eqGuard op t x y a' b'; binOp op t a' b' : Sem Value).run P w = .ok (.bool r) w := by
  cases op <;> simp only [eqNo, Option.some.injEq, reduceCtorEq] at hop
  · subst hop; rw [hg _ (.inl rfl), h1]; simp [he]
  subst hop; rw [hg _ (.inr rfl), h2]; simp [he]
theorem nil_ok {op : BinOp} {t : TypeId} {x y : Operand} {a b a' b' : Value} {r : Bool} (ha : VR ρ S a a') (hb : VR ρ S b b') (hf : fsNil P op t a b = some r) (w : World) :
    (do eqGuard op t x y a' b'; binOp op t a' b' : Sem Value).run P w = .ok (.bool r) w := by
  unfold fsNil at hf; split at hf
  · rename_i A n c; split at hf
    · rename_i e hu; obtain ⟨b0, o, rfl, hs⟩ := ha.slice_any; obtain ⟨A', c', rfl, _⟩ := hs.slice_inv; obtain rfl := hb.nilSlice_inv; refine nil_done ?_ (fun q hq => by rcases hq with rfl | rfl <;> rfl) rfl rfl hf; show (Op.equalIn 10000 t _ _).run P w = _; unfold Op.equalIn; simp only [Sem.run_bind, run_underlying hu, Result.andThen_ok, Sem.run_pure]
    cases hf
  · rename_i b0; split at hf
    · rename_i k e hu; obtain ⟨_, rfl⟩ := ha.map_inv; obtain rfl := hb.eq_of_af0 rfl; refine nil_done ?_ (fun q hq => by rcases hq with rfl | rfl <;> rfl) rfl rfl hf; show (Op.equalIn 10000 t _ _).run P w = _; unfold Op.equalIn; simp only [Sem.run_bind, run_underlying hu, Result.andThen_ok, Sem.run_pure]
    cases hf
  · rename_i f a1 a2; split at hf
    · rename_i p1 p2 p3 hu
      have hfn : ∃ f' a1' a2', a' = .func f' a1' a2' := by
        cases ha with
        | lit h => simp [af0] at h
        | func f a a' c c' ha hA hc hC => exact ⟨_, _, _, rfl⟩
        | yield l hs => exact ⟨_, _, _, rfl⟩
      obtain ⟨f', a1', a2', rfl⟩ := hfn; obtain rfl := hb.eq_of_af0 rfl; refine nil_done ?_ (fun q hq => by rcases hq with rfl | rfl <;> rfl) rfl rfl hf; show (Op.equalIn 10000 t _ _).run P w = _; unfold Op.equalIn; simp only [Sem.run_bind, run_underlying hu, Result.andThen_ok, Sem.run_pure]
    cases hf
  cases hf
end Go.Fs
namespace Go.Fs
open Go.RowKit (Below)
variable {P : Program} {ρ ρ' : Ren} {S S' : Nat → Prop} {B : Nat} {w0 w w' w1 w2 : World} {h h' h1 h2 : Heap}
theorem sliceData_ok {argTypes : Array TypeId} {ty : TypeId} {x x' v : Value} (hx : VR ρ S x x') (hf : fsSliceData x = some v) : ∃ v', (Builtin.unsafeSliceData_ argTypes ty #[x']).run P w = .ok v' w ∧ VR ρ S v v' := by
  unfold fsSliceData at hf; split at hf
  · obtain rfl := hx.nilSlice_inv; simp only [Option.some.injEq] at hf; subst hf; exact ⟨_, Lib.run_unsafeSliceData_nil _ _ _ _ _, .lit rfl⟩
  · rename_i b o n m; obtain ⟨A, c, rfl, hn, _, h0, hb⟩ := hx.slice_inv
    cases hz : Nat.beq n 0 with
    | true => rw [hz] at hf; cases hf
    | false =>
      rw [hz] at hf; simp only [cond_false, Option.some.injEq] at hf; subst hf; have hn0 := ne_of_no hz; have hb0 : b ≠ 0 := fun e => hn0 (h0 e); obtain ⟨hs, rfl, _⟩ := hb hb0; exact ⟨_, Lib.run_unsafeSliceData_row _ _ _ _ _ _ (by omega), .ptr b o hs⟩
  cases hf
theorem bytesC_ok : ∀ {cs cs' : List Value} {l : List UInt8}, LR ρ S cs cs' → bytesC cs = some l → cs' = l.map (fun x => Value.int .u8 x.toNat)
  | [], cs', l, hl, hb => by
    simp only [bytesC, Option.some.injEq] at hb; subst hb
    exact List.eq_nil_of_length_eq_zero hl.1.symm
  | v :: r, [], l, hl, _ => by have := hl.1; simp at this
  | v :: r, v' :: r', l, hl, hb => by
    unfold bytesC at hb; split at hb
    · rename_i he; cases he
    · rename_i n r0 he; simp only [List.cons.injEq] at he; obtain ⟨rfl, rfl⟩ := he; obtain ⟨hc, hb2⟩ := bif_some hb; obtain ⟨l0, h1, rfl⟩ := Option.map_eq_some_iff.1 hb2; have hv : VR ρ S (.int .u8 (.ofNat n)) v' := hl.2 0 (by simp); have hr : LR ρ S r r' := ⟨by have := hl.1; simpa using this, fun i hi => by have := hl.2 (i + 1) (by simp; omega); simpa using this⟩; have hn := nblt hc; rw [hv.int_inv, bytesC_ok hr h1]; simp only [List.map_cons, UInt8.toNat_ofNat', Nat.reducePow]; rw [Nat.mod_eq_of_lt hn]; rfl
    cases hb
theorem bytesC_len : ∀ {cs : List Value} {l : List UInt8}, bytesC cs = some l → l.length = cs.length
  | [], l, hb => by
    simp only [bytesC, Option.some.injEq] at hb
    subst hb; rfl
  | v :: r, l, hb => by
    unfold bytesC at hb; split at hb
    · rename_i he; cases he
    · rename_i n r0 he; simp only [List.cons.injEq] at he; obtain ⟨rfl, rfl⟩ := he; obtain ⟨hc, hb2⟩ := bif_some hb; obtain ⟨l0, h1, rfl⟩ := Option.map_eq_some_iff.1 hb2; rw [List.length_cons, List.length_cons, bytesC_len h1]
    cases hb
theorem unsafeStr_ok {argTypes : Array TypeId} {ty : TypeId} {p n p' n' v : Value} (hr : HR P ρ S B w0 h w) (hp : VR ρ S p p') (hn : VR ρ S n n') (hf : fsUnsafeStr P argTypes p n h = some (v, h')) :
    Val P B w0 ρ S h w v h' ((Builtin.unsafeString_ argTypes ty #[p', n']).run P w) := by
  unfold fsUnsafeStr at hf; split at hf
  · rename_i pt it hat; have ha : argTypes = #[pt, it] := Array.toList_inj.1 hat; subst ha; split at hf
    · rename_i e hu; simp only [Option.some.injEq, Prod.mk.injEq] at hf; obtain ⟨rfl, rfl⟩ := hf; rw [hp.eq_of_af0 rfl, hn.int_inv, Lib.run_unsafeString_none]; exact Val.pure hr (.lit rfl)
    cases hf
  · rename_i pt it b n hat; have ha : argTypes = #[pt, it] := Array.toList_inj.1 hat; subst ha; split at hf
    · rename_i e e' cs more hu hg; obtain ⟨hc, hf2⟩ := bif_some hf; obtain ⟨hc, hc4⟩ := band hc; obtain ⟨hc, hc3⟩ := band hc; obtain ⟨hc1, hc2⟩ := band hc; obtain rfl := nbeq hc1; have hc2 := nbeq hc2; have hc3 := nble hc3; have hc4 := nble hc4; split at hf2
      · rename_i l hl; simp only [Option.some.injEq, Prod.mk.injEq] at hf2; obtain ⟨rfl, rfl⟩ := hf2; obtain ⟨hsb, cur, k1, k2, k3, k4, k5, k6, k7⟩ := hr.objs b _ hg
        have hll : l.length = n + 1 := by rw [bytesC_len hl, List.length_take]; omega
        have hlr : LR ρ S (cs.take (n + 1)) (cur.take (n + 1)) := ⟨by rw [List.length_take, List.length_take]; omega, fun i hi => by
          rw [List.length_take] at hi; have := k7 i (by omega); rw [List.getD_eq_getElem?_getD, List.getD_eq_getElem?_getD, List.getElem?_take, if_pos (by omega), List.getElem?_take, if_pos (by omega), ← List.getD_eq_getElem?_getD, ← List.getD_eq_getElem?_getD]
          exact this⟩
        have hcur := bytesC_ok hlr hl
        have hptr : p' = .pointer (some ⟨(ρ b).block, 0, none⟩) := by
          rw [hp.ptr_inv.2]; unfold Loc.at; rw [k2]
        have hni : n' = .int .i64 (l.length : Int) := by rw [hn.int_inv, hll]; rfl
        have hcell : ∀ j x, l[j]? = some x → w.cell? ((⟨(ρ b).block, 0, none⟩ : Addr).add j) = some (.int .u8 x.toNat) := fun j x hj => by
          obtain ⟨hj1, hj2⟩ := List.getElem?_eq_some_iff.1 hj
          have h3 : (cur.take (n + 1))[j]? = some (.int .u8 x.toNat) := by rw [hcur, List.getElem?_map, hj]; rfl
          rw [List.getElem?_take, if_pos (by omega)] at h3
          have h4 : ((⟨(ρ b).block, 0, none⟩ : Addr).add j) = ⟨(ρ b).block, j, none⟩ := by
            unfold Addr.add; by_cases hj0 : j = 0
            · subst hj0; rfl
            simp [hj0]
          rw [h4]; simp [World.cell?, k1, h3]
        have hrun := Lib.run_unsafeString_row w pt it ty e' hu hc2 (ρ b).block cur.length (by simp [World.shape?, k1]) l (by intro e0; rw [e0] at hll; simp at hll) (by omega) (by omega) hcell; rw [hptr, hni, hrun]; refine ⟨ρ, _, _, rfl, ?_, .lit rfl⟩
        have hfz : (w.freeze ⟨(ρ b).block, 0, none⟩ l.length).os = w.os ∧ (w.freeze ⟨(ρ b).block, 0, none⟩ l.length).tape = w.tape ∧ (w.freeze ⟨(ρ b).block, 0, none⟩ l.length).output = w.output ∧ (w.freeze ⟨(ρ b).block, 0, none⟩ l.length).heap.size = w.heap.size ∧ ∀ k, k ≠ (ρ b).block → (w.freeze ⟨(ρ b).block, 0, none⟩ l.length).heap[k]? = w.heap[k]? := by
          unfold World.freeze; rw [if_neg (by omega)]; refine ⟨rfl, rfl, rfl, by simp, fun k hk => ?_⟩; simp only [Array.getElem?_modify]; rw [if_neg (fun e0 => hk e0.symm)]
        obtain ⟨f1, f2, f3, f4, f5⟩ := hfz; exact Moved.gone hr hg rfl f1 f2 f3 f4 f5 (by unfold World.freeze; split <;> exact Nat.le_refl _)
      cases hf2
    cases hf
  cases hf
end Go.Fs
namespace Go.Fs
variable {P : Program} {ρ : Ren} {S : Nat → Prop} {B : Nat} {w0 w : World} {h : Heap}
theorem fold_push : ∀ (l : List UInt8) (acc : ByteArray), (l.map fun x => ((x.toNat : Nat) : Int)).foldl (fun r n => r.push (UInt8.ofNat n.toNat)) acc = ⟨acc.data ++ l.toArray⟩
  | [], acc => by simp
  | x :: r, acc => by
    rw [List.map_cons, List.foldl_cons, fold_push r]; congr 1; show (acc.push (UInt8.ofNat ((x.toNat : Nat) : Int).toNat)).data ++ r.toArray = _; rw [Int.toNat_natCast, UInt8.ofNat_toNat]; show acc.data.push x ++ r.toArray = _; simp
theorem bytesG_ok {s d : TypeId} {x x' v : Value} (hr : HR P ρ S B w0 h w) (hx : VR ρ S x x') (hf : fsBytes P s d x h = some v) : (convert s d x').run P w = .ok v w ∧ VR ρ S v v := by
  unfold fsBytes at hf; split at hf
  · rename_i a n mk; split at hf
    · rename_i e hu; split at hf
      · rename_i he; split at hf
        · rename_i hd; split at hf
          · rename_i cs hc; obtain ⟨l, hl, rfl⟩ := Option.map_eq_some_iff.1 hf; refine ⟨?_, .lit rfl⟩; unfold cellsOf at hc; split at hc
            · rename_i hq; cases hq
            · rename_i b o k mk' hq; injection hq with hq1 hq2 hq3; injection hq1 with hq1; subst hq1 hq2 hq3; obtain ⟨A, c, rfl, hn, hm, h0, hb⟩ := hx.slice_inv; obtain ⟨_, hc2⟩ := bif_some hc
              have key : ∀ vs' : List Value, (loadCells A n).run P w = .ok vs'.toArray w → LR ρ S cs vs' → (convert s d (.slice (some A) n c)).run P w = .ok (.string ⟨l.toArray⟩) w := fun vs' k1 k2 => by
                have k3 := bytesC_ok k2 hl; rw [run_convert_bytes_string w s d e _ _ _ hu he hd, run_bytesToString w _ n c (l.map fun x => ((x.toNat : Nat) : Int)) (by rw [k1, k3, List.map_map]; rfl), fold_push]; simp
              cases hz : Nat.beq (n * 1) 0 with
              | true =>
                rw [hz] at hc2; simp only [cond_true, Option.some.injEq] at hc2; subst hc2
                have hn0 : n = 0 := by have := nbeq hz; omega
                subst hn0; refine key [] ?_ LR.nil
                simp [loadCells, loadCellsFrom, Sem.run_pure]
              | false =>
                rw [hz] at hc2; simp only [cond_false] at hc2; split at hc2
                · rename_i e' cs' own more hg; obtain ⟨hle, hc3⟩ := bif_some hc2; have hle := nble hle; simp only [Option.some.injEq] at hc3; subst hc3; have hobj := (hr.objs b _ hg).2; have hb0 : b ≠ 0 := (hr.ids b (hr.objs b _ hg).1).2; obtain ⟨_, rfl, _⟩ := hb hb0; obtain ⟨vs', k1, k2⟩ := loadCells_ok (fun i hi => hobj.cell hi) hle; rw [Nat.mul_one] at k1 k2; exact key vs' k1 (by simpa using k2)
                cases hc2
            · rename_i hq; cases hq
            cases hc
          cases hf
        cases hf
      cases hf
    cases hf
  cases hf
end Go.Fs
namespace Go.Fs
open Go.RowKit (Below)
variable {P : Program} {ρ ρ' : Ren} {S S' : Nat → Prop} {B : Nat} {w0 w w' w1 w2 : World} {h h' h1 h2 : Heap}
theorem nx_of_ex {s : Sem Value} {v : Value} (hr : HR P ρ S B w0 h w) (hx : ∃ v', s.run P w = .ok v' w ∧ VR ρ S v v') : Nx P B w0 ρ S h w v h ((do pure (Next.value (← s)) : Sem Next).run P w) := by
  obtain ⟨v', h1, h2⟩ := hx; exact nx_val hr h1 h2
theorem mem_opt {x o : Operand} (y : Option Operand) (h : y = some o) (hx : x = o) : x ∈ y.toArray.toList := by
  subst h hx; simp
theorem read_nan {f : Ieee.Format} {x : Nat} (h1 : f.infRung < x % f.signWeight) (h2 : f.binade ≤ f.infRung) : (f.read x).isNaN = true := by
  unfold Ieee.Format.read; dsimp only; rw [if_neg (by omega), if_neg (by omega), if_neg (by omega)]; rfl
theorem nan32 (t : Nat) : ((FloatKind.f32).decode ((t % 2) * 2 ^ 31 + 0x7f800000 + 1 + (t / 2) % (2 ^ 23 - 1))).isNaN = true := by
  refine read_nan (f := Ieee.single) ?_ (by decide)
  have e1 : Ieee.single.infRung = 2139095040 := by decide
  have e2 : Ieee.single.signWeight = 2147483648 := by decide
  rw [e1, e2]; have h1 : t / 2 % (2 ^ 23 - 1) < 2 ^ 23 - 1 := Nat.mod_lt _ (by decide); generalize t / 2 % (2 ^ 23 - 1) = r at h1 ⊢; rcases Nat.mod_two_eq_zero_or_one t with h | h <;> rw [h] <;> omega
theorem nan64 (t : Nat) : ((FloatKind.f64).decode ((t % 2) * 2 ^ 63 + 0x7ff0000000000000 + 1 + (t / 2) % (2 ^ 52 - 1))).isNaN = true := by
  refine read_nan (f := Ieee.double) ?_ (by decide)
  have e1 : Ieee.double.infRung = 9218868437227405312 := by decide
  have e2 : Ieee.double.signWeight = 9223372036854775808 := by decide
  rw [e1, e2]; have h1 : t / 2 % (2 ^ 52 - 1) < 2 ^ 52 - 1 := Nat.mod_lt _ (by decide); generalize t / 2 % (2 ^ 52 - 1) = r at h1 ⊢; rcases Nat.mod_two_eq_zero_or_one t with h | h <;> rw [h] <;> omega
theorem nanBits_isNaN (k : FloatKind) (a b n : Nat) : (k.decode ((Question.nanBits k a b).cut n)).isNaN = true := by
  cases k
  · exact nan32 n
  exact nan64 n
theorem nanConv_isNaN (k : FloatKind) (b n : Nat) : (k.decode ((Question.nanConv k b).cut n)).isNaN = true := by
  cases k
  · exact nan32 n
  exact nan64 n
theorem nx_drew {s : Sem Value} {v v' : Value} (hr : HR P ρ S B w0 h w) (h1 : s.run P w = .ok v' { w with drawn := w.drawn + 1 }) (hv : VR ρ S v v') : Nx P B w0 ρ S h w v h ((do pure (Next.value (← s)) : Sem Next).run P w) :=
  nx_of_val (by rw [h1]; exact ⟨ρ, _, v', rfl, Moved.ofDrew (n := w.drawn + 1) (Moved.same (hr.drew _)), hv.mono fun _ hb => ⟨.inl hb, rfl⟩⟩)
theorem nanA_ok {op : BinOp} {t : TypeId} {x y : Operand} {a b v : Value} (hr : HR P ρ S B w0 h w) (hf : fsNanA op a b = some v) : Nx P B w0 ρ S h w v h ((do pure (Next.value (← (do eqGuard op t x y a b; binOp op t a b))) : Sem Next).run P w) := by
  unfold fsNanA at hf; split at hf
  · rename_i k p k' q; obtain ⟨hc, hv⟩ := bif_some hf; obtain ⟨hk, hn⟩ := band hc; obtain rfl := of_decide_eq_true hk; obtain rfl := Option.some.inj hv; refine nx_drew hr (v' := .float k ((Question.nanBits k p q).cut (w.tape w.drawn (Question.nanBits k p q)))) ?_ (.nan k _ (nanBits_isNaN k p q _)); have hq : (Question.nanBits k p q).forced = false := rfl; unfold nanOp at hn; split at hn
    all_goals first | (cases hn; done) | skip
    all_goals
      rw [Option.isNone_iff_eq_none] at hn; simp [eqGuard, binOp, Op.floatArith, hn, run_choose, hq]
  cases hf
theorem VR.fkind {v v' : Value} {k : FloatKind} (hv : VR ρ S v v') (hk : fkind v = some k) : ∃ b, v' = .float k b ∧ (isNanJ v = true → (k.decode b).isNaN = true) := by
  unfold Fs.fkind at hk; split at hk
  · rename_i k0 b; obtain rfl := Option.some.inj hk; exact ⟨b, hv.eq_of_af0 rfl, fun e => by cases e⟩
  · rename_i k0; obtain rfl := Option.some.inj hk
    cases hv with
    | lit h => simp [af0] at h
    | nan k b hb => exact ⟨b, rfl, fun _ => hb⟩
  cases hk
theorem order_nan {k : FloatKind} {a b : Nat} (h : (k.decode a).isNaN = true ∨ (k.decode b).isNaN = true) : k.format.order a b = none := by
  unfold Ieee.Format.order; rcases h with h | h
  · have : (k.format.read a).isNaN = true := h; cases hd : k.format.read a <;> rw [hd] at this <;> first | (cases this; done) | rfl
  have : (k.format.read b).isNaN = true := h; cases hd : k.format.read b <;> rw [hd] at this <;> first | (cases this; done) | skip; cases k.format.read a <;> rfl
theorem nanC_ok {op : BinOp} {t : TypeId} {x y : Operand} {a b a' b' : Value} {r : Bool} (ha : VR ρ S a a') (hb : VR ρ S b b') (hf : fsNanC op a b = some r) (w : World) : (do eqGuard op t x y a' b'; binOp op t a' b' : Sem Value).run P w = .ok (.bool r) w := by
  unfold fsNanC at hf; split at hf
  · rename_i k k' h1 h2; obtain ⟨hc, hv⟩ := bif_some hf; obtain ⟨hk, hn⟩ := band hc; obtain rfl := of_decide_eq_true hk; obtain ⟨p, rfl, hp⟩ := ha.fkind h1; obtain ⟨q, rfl, hq⟩ := hb.fkind h2
    have ho : k.format.order p q = none := order_nan (by
      rcases Bool.or_eq_true_iff.1 hn with hn | hn
      · exact .inl (hp hn)
      exact .inr (hq hn))
    cases op <;> simp only [nanCmp, Option.some.injEq, reduceCtorEq] at hv <;> subst hv <;> simp [eqGuard, binOp, Op.floatCmp, ho]
  cases hf
theorem nanV_ok {s d : TypeId} {a v : Value} (hr : HR P ρ S B w0 h w) (hf : fsNanV P s d a = some v) : Nx P B w0 ρ S h w v h ((do pure (Next.value (← convert s d a)) : Sem Next).run P w) := by
  unfold fsNanV at hf; split at hf
  · rename_i k b u k' hu hd; obtain ⟨hc, hv⟩ := bif_some hf; obtain ⟨hk, hn⟩ := band hc; obtain rfl := Option.some.inj hv
    have hne : ¬ k = k' := by simpa using hk
    refine nx_drew hr (v' := .float k' ((Question.nanConv k' b).cut (w.tape w.drawn (Question.nanConv k' b)))) ?_ (.nan k' _ (nanConv_isNaN k' b _)); have hq : (Question.nanConv k' b).forced = false := rfl
    cases he : k.decode b with
    | nan n f => cases u <;> simp [convert, run_underlying hu, run_underlying hd, Conv.floatToFloat, hne, he, run_choose, hq]
    | _ => rw [he] at hn; cases hn
  cases hf
theorem op_plain {call : FuncId → List Value → Heap → Option (Value × Heap)} {yield : Nat → List Value → Heap → Option (Value × Heap)} {o : Oper} {ev ev' : Operand → Value} {v : Value}
    (hr : HR P ρ S B w0 h w) (hev : ∀ x ∈ o.op.operands.toList, VR ρ S (ev x) (ev' x)) (hno : ∀ c f, o.op = .call c → c.callee ≠ .value f)
    (hf : fsOp P call yield o ev h = some (v, h')) : Nx P B w0 ρ S h w v h' ((execOp ev' o).run P w) := by
  unfold fsOp at hf; unfold execOp
  cases hop : o.op with
  | move x =>
    simp only [hop, Op.operands, List.mem_cons, List.not_mem_nil, or_false, forall_eq] at hf hev ⊢; simp only [Option.some.injEq, Prod.mk.injEq] at hf; obtain ⟨rfl, rfl⟩ := hf
    exact ⟨ρ, w, _, .inl rfl, Moved.same hr, hev.mono fun _ hb => ⟨.inl hb, rfl⟩⟩
  | assign x =>
    simp only [hop, Op.operands, List.mem_cons, List.not_mem_nil, or_false, forall_eq] at hf hev ⊢; simp only [Option.some.injEq, Prod.mk.injEq] at hf; obtain ⟨rfl, rfl⟩ := hf
    exact ⟨ρ, w, _, .inl rfl, Moved.same hr, hev.mono fun _ hb => ⟨.inl hb, rfl⟩⟩
  | pick c a b =>
    simp only [hop, Op.operands, List.mem_cons, List.not_mem_nil, or_false, forall_eq_or_imp, forall_eq] at hf hev ⊢; obtain ⟨e1, e2, e3⟩ := hev; split at hf
    · rename_i hc; simp only [Option.some.injEq, Prod.mk.injEq] at hf; obtain ⟨rfl, rfl⟩ := hf; rw [hc] at e1; refine ⟨ρ, w, ev' a, .inl ?_, Moved.same hr, e2.mono fun _ hb => ⟨.inl hb, rfl⟩⟩; simp [e1.bool_inv, asBool]
    · rename_i hc; simp only [Option.some.injEq, Prod.mk.injEq] at hf; obtain ⟨rfl, rfl⟩ := hf; rw [hc] at e1; refine ⟨ρ, w, ev' b, .inl ?_, Moved.same hr, e3.mono fun _ hb => ⟨.inl hb, rfl⟩⟩; simp [e1.bool_inv, asBool]
    cases hf
  | alloc e =>
    simp only [hop] at hf ⊢; split at hf
    · rename_i z hz; obtain ⟨i, hi, hiz⟩ := Option.bind_eq_some_iff.1 hz; split at hf
      · rename_i haz; have := fsBox_ok hr hf (.of_af haz); refine nx_of_val ?_
        have he : (Instr.alloc e true (.tuple #[])).run P w = ((do pure (.pointer (some (← newVar e z))) : Sem Value)).run P w := by
          simp only [Instr.alloc, Sem.run_bind, zeroValue_run e i z hi hiz, Result.andThen_ok]
        rw [he]; exact this
      cases hf
    cases hf
  | box e x =>
    simp only [hop, Op.operands, List.mem_cons, List.not_mem_nil, or_false, forall_eq] at hf hev ⊢
    exact nx_of_val (fsBox_ok hr hf hev)
  | build t parts =>
    simp only [hop] at hf ⊢; rw [hop] at hev; have hev2 : ∀ p ∈ parts.toList, VR ρ S (ev p.2) (ev' p.2) := fun p hp => hev p.2 (by simp only [Op.operands]; exact List.mem_map_of_mem hp); obtain ⟨hc, hf2⟩ := bif_some hf; obtain ⟨hone, hz⟩ := band hc; obtain ⟨hf3, rfl⟩ := map_pair hf2
    cases hz2 : (P.info? t).bind (·.zero) with
    | none => rw [hz2] at hz; cases hz
    | some z =>
      rw [hz2] at hz
      have hza : z.cells.toList.all af0 = true := by simpa using hz
      exact nx_of_ex hr (build_ok hev2 hone hz2 hza hf3 w)
  | buildSlice t len parts =>
    simp only [hop] at hf ⊢; rw [hop] at hev; have hev2 : ∀ p ∈ parts.toList, VR ρ S (ev p.2) (ev' p.2) := fun p hp => hev p.2 (by simp only [Op.operands]; exact List.mem_map_of_mem hp)
    exact nx_of_val (buildSlice_ok hr hev2 hf)
  | load t a =>
    simp only [hop, Op.operands, List.mem_cons, List.not_mem_nil, or_false, forall_eq] at hf hev ⊢; obtain ⟨hg, rfl⟩ := map_pair hf; clear hf; have hf := hg
    exact nx_of_ex hr (fsLoad_ok hr hf hev)
  | store t a x =>
    simp only [hop, Op.operands, List.mem_cons, List.not_mem_nil, or_false, forall_eq_or_imp, forall_eq] at hf hev ⊢; obtain ⟨h2, h3, h4⟩ := Option.map_eq_some_iff.1 hf; simp only [Prod.mk.injEq] at h4; obtain ⟨rfl, rfl⟩ := h4; obtain ⟨w', h5, h6⟩ := fsStore_ok hr h3 hev.1 hev.2
    exact nx_unit h5 h6
  | nilCheck x =>
    simp only [hop, Op.operands, List.mem_cons, List.not_mem_nil, or_false, forall_eq] at hf hev ⊢; split at hf
    · rename_i a hx; simp only [Option.some.injEq, Prod.mk.injEq] at hf; obtain ⟨rfl, rfl⟩ := hf; rw [hx] at hev; obtain ⟨b0, o0, rfl, hs, he⟩ := hev.ptr_any; rw [he]; exact ⟨ρ, w, _, .inl rfl, Moved.same hr, (VR.ptr b0 o0 hs).mono fun _ hb => ⟨.inl hb, rfl⟩⟩
    · rename_i f a b hx; simp only [Option.some.injEq, Prod.mk.injEq] at hf; obtain ⟨rfl, rfl⟩ := hf; rw [hx] at hev; obtain ⟨a', c', he, _⟩ := hev.func_inv; rw [he] at hev ⊢; exact ⟨ρ, w, _, .inl rfl, Moved.same hr, hev.mono fun _ hb => ⟨.inl hb, rfl⟩⟩
    cases hf
  | binOp op t x y yt =>
    simp only [hop, Op.operands, List.mem_cons, List.not_mem_nil, or_false, forall_eq_or_imp, forall_eq] at hf hev ⊢; obtain ⟨e1, e2⟩ := hev; split at hf
    · rename_i haf; obtain ⟨a1, a2⟩ := band haf; obtain ⟨hg, rfl⟩ := map_pair hf; clear hf; have hf := hg; rw [e1.eq_of_af a1, e2.eq_of_af a2]
      cases hp : purely P (do eqGuard op t x y (ev x) (ev y); binOp op t (ev x) (ev y)) with
      | some u =>
        rw [hp] at hf; obtain rfl := Option.some.inj hf; obtain ⟨h1, h2⟩ := purely_ok hp w
        exact nx_val hr h1 (.of_af h2)
      | none =>
        rw [hp] at hf; exact nanA_ok hr hf
    obtain ⟨r, h3, h4⟩ := Option.map_eq_some_iff.1 hf; simp only [Prod.mk.injEq] at h4; obtain ⟨rfl, rfl⟩ := h4
    cases hp : fsNil P op t (ev x) (ev y) with
    | some u =>
      rw [hp] at h3; obtain rfl := Option.some.inj h3
      exact nx_val hr (nil_ok e1 e2 hp w) (.of_af rfl)
    | none =>
      rw [hp] at h3
      exact nx_val hr (nanC_ok e1 e2 h3 w) (.of_af rfl)
  | unOp op t x =>
    simp only [hop, Op.operands, List.mem_cons, List.not_mem_nil, or_false, forall_eq] at hf hev ⊢; split at hf
    · rename_i haf; obtain ⟨hg, rfl⟩ := map_pair hf; clear hf; have hf := hg; rw [hev.eq_of_af haf]; obtain ⟨h1, h2⟩ := purely_ok hf w; exact nx_val hr h1 (.of_af h2)
    cases hf
  | convert s d x =>
    simp only [hop, Op.operands, List.mem_cons, List.not_mem_nil, or_false, forall_eq] at hf hev ⊢; split at hf
    · rename_i haf; obtain ⟨hg, rfl⟩ := map_pair hf; clear hf; have hf := hg; rw [hev.eq_of_af haf]
      cases hp : purely P (convert s d (ev x)) with
      | some u =>
        rw [hp] at hf; obtain rfl := Option.some.inj hf; obtain ⟨h1, h2⟩ := purely_ok hp w
        exact nx_val hr h1 (.of_af h2)
      | none =>
        rw [hp] at hf; exact nanV_ok hr hf
    obtain ⟨hg, rfl⟩ := map_pair hf; obtain ⟨h1, h2⟩ := bytesG_ok hr hev hg
    exact nx_val hr h1 h2
  | makeFunc fn first captured =>
    simp only [hop] at hf ⊢; rw [hop] at hev; simp only [Op.operands, Array.toList_append, List.mem_append] at hev
    cases fn with
    | func f =>
      simp only [Option.some.injEq, Prod.mk.injEq] at hf; obtain ⟨rfl, rfl⟩ := hf
      have l1 : LR ρ S (first.map ev).toList (first.map ev').toList := by
        simp only [Array.toList_map]; exact LR.map _ _ _ fun x hx => hev x (.inl hx)
      have l2 : LR ρ S (captured.map ev).toList (captured.map ev').toList := by
        simp only [Array.toList_map]; exact LR.map _ _ _ fun x hx => hev x (.inr hx)
      have hv : VR ρ S (.func (.func f) (first.map ev) (captured.map ev)) (.func (.func f) (first.map ev') (captured.map ev')) :=
        .func f _ _ _ _ (by simp) (by simpa using l1.2) (by simp) (by simpa using l2.2)
      exact nx_val hr rfl hv
    | _ => cases hf
  | makeMap t r =>
    simp only [hop] at hf ⊢
    cases r with
    | none =>
      simp only [Option.some.injEq, Prod.mk.injEq] at hf; obtain ⟨rfl, rfl⟩ := hf
      exact nx_of_val (makeMap_ok hr t)
    | some r => cases hf
  | makeSlice t l c =>
    simp only [hop, Op.operands, List.mem_cons, List.not_mem_nil, or_false, forall_eq_or_imp, forall_eq] at hf hev ⊢
    exact nx_of_val (makeSlice_ok hr hev.1 hev.2 hf)
  | slice t x lo hi mx =>
    simp only [hop] at hf ⊢; rw [hop] at hev; simp only [Op.operands, Array.toList_append, List.mem_append] at hev; obtain ⟨hg, rfl⟩ := map_pair hf; clear hf; have hf := hg; refine nx_of_ex hr (slice_ok hr (hev x (.inl (.inl (.inl (by simp))))) (OR.of_map fun o ho => ?_) (OR.of_map fun o ho => ?_) (OR.of_map fun o ho => ?_) hf)
    · exact hev o (.inl (.inl (.inr (mem_opt lo ho rfl))))
    · exact hev o (.inl (.inr (mem_opt hi ho rfl)))
    exact hev o (.inr (mem_opt mx ho rfl))
  | fieldAddr s x f =>
    simp only [hop, Op.operands, List.mem_cons, List.not_mem_nil, or_false, forall_eq] at hf hev ⊢; obtain ⟨hg, rfl⟩ := map_pair hf; clear hf; have hf := hg
    exact nx_of_ex hr (fieldAt_ok hev hf w)
  | field s x f =>
    simp only [hop, Op.operands, List.mem_cons, List.not_mem_nil, or_false, forall_eq] at hf hev ⊢; obtain ⟨hg, rfl⟩ := map_pair hf; clear hf; have hf := hg
    exact nx_of_ex hr (field_ok hev hf w)
  | indexAddr s x ix =>
    simp only [hop, Op.operands, List.mem_cons, List.not_mem_nil, or_false, forall_eq_or_imp, forall_eq] at hf hev ⊢; split at hf
    · rename_i haf; obtain ⟨hg, rfl⟩ := map_pair hf; clear hf; have hf := hg; rw [hev.2.eq_of_af haf]; exact nx_of_ex hr (indexAt_ok hev.1 hf w)
    cases hf
  | index s x ix =>
    simp only [hop, Op.operands, List.mem_cons, List.not_mem_nil, or_false, forall_eq_or_imp, forall_eq] at hf hev ⊢; split at hf
    · rename_i haf; obtain ⟨hg, rfl⟩ := map_pair hf; clear hf; have hf := hg; rw [hev.2.eq_of_af haf]; exact nx_of_ex hr (index_ok hev.1 hf w)
    cases hf
  | lookup s x ix ok =>
    simp only [hop, Op.operands, List.mem_cons, List.not_mem_nil, or_false, forall_eq_or_imp, forall_eq] at hf hev ⊢; obtain ⟨hg, rfl⟩ := map_pair hf; clear hf; have hf := hg
    exact nx_of_ex hr (lookup_ok hr hev.1 hev.2 hf)
  | mapUpdate t m k x =>
    simp only [hop, Op.operands, List.mem_cons, List.not_mem_nil, or_false, forall_eq_or_imp, forall_eq] at hf hev ⊢; obtain ⟨h2, h3, h4⟩ := Option.map_eq_some_iff.1 hf; simp only [Prod.mk.injEq] at h4; obtain ⟨rfl, rfl⟩ := h4; obtain ⟨w', h5, h6⟩ := mapUpdate_ok hr hev.1 hev.2.1 hev.2.2 h3
    exact nx_unit h5 h6
  | insert t m k x =>
    simp only [hop, Op.operands, List.mem_cons, List.not_mem_nil, or_false, forall_eq_or_imp, forall_eq] at hf hev ⊢; obtain ⟨h2, h3, h4⟩ := Option.map_eq_some_iff.1 hf; simp only [Prod.mk.injEq] at h4; obtain ⟨rfl, rfl⟩ := h4; obtain ⟨w', h5, h6⟩ := mapUpdate_ok hr hev.1 hev.2.1 hev.2.2 h3
    exact nx_unit h5 h6
  | range t x =>
    simp only [hop, Op.operands, List.mem_cons, List.not_mem_nil, or_false, forall_eq] at hf hev ⊢
    exact nx_of_val (range_ok hr hev hf)
  | next it s =>
    simp only [hop, Op.operands, List.mem_cons, List.not_mem_nil, or_false, forall_eq] at hf hev ⊢
    exact nx_of_val (next_ok hr hev hf)
  | extract t ix =>
    simp only [hop, Op.operands, List.mem_cons, List.not_mem_nil, or_false, forall_eq] at hf hev ⊢
    cases hj : isJunk (ev t) with
    | true => rw [hj] at hf; cases hf
    | false =>
      rw [hj] at hf; simp only [cond_false] at hf; obtain ⟨hg, rfl⟩ := map_pair hf; clear hf; have hf := hg
      exact nx_of_ex hr (extract_ok hev (not_junk hj) hf w)
  | call c =>
    simp only [hop] at hf ⊢; rw [hop] at hev; simp only [Op.operands, Call.operands, Array.toList_append, List.mem_append] at hev
    cases hc : c.callee with
    | value f => exact absurd hc (hno c f hop)
    | invoke r n => rw [hc] at hf; cases hf
    | builtin b =>
      rw [hc] at hf hev; simp only [List.not_mem_nil, false_or] at hf hev
      have hres : ∀ w, (resolve ev' c o.type).run P w = .ok { target := .builtin b c.argTypes o.type (c.args.map fun | .const _ => true | _ => false), args := c.args.map ev' } w := fun w => by
        unfold resolve; rw [hc]; rfl
      have hrun : ((do let d ← resolve ev' c o.type; invoke d.target d.args : Sem Next)).run P w = (builtin b c.argTypes o.type (c.args.map fun | .const _ => true | _ => false) (c.args.map ev')).run P w := by
        simp only [Sem.run_bind, hres, Result.andThen_ok]; rfl
      rw [hrun]
      have hl : LR ρ S (c.args.toList.map ev) (c.args.map ev').toList := by
        rw [Array.toList_map]; exact LR.map _ _ _ fun x hx => hev x hx
      have two : ∀ a b, c.args.toList.map ev = [a, b] → ∃ a' b', c.args.map ev' = #[a', b'] ∧ VR ρ S a a' ∧ VR ρ S b b' := fun a b he => by
        rw [he] at hl; have h1 := hl.1
        match hm : (c.args.map ev').toList, h1 with
        | [a', b'], _ =>
          rw [hm] at hl; exact ⟨a', b', Array.toList_inj.1 hm, hl.2 0 (by simp), hl.2 1 (by simp)⟩
      have one : ∀ a, c.args.toList.map ev = [a] → ∃ a', c.args.map ev' = #[a'] ∧ VR ρ S a a' := fun a he => by
        rw [he] at hl; have h1 := hl.1
        match hm : (c.args.map ev').toList, h1 with
        | [a'], _ =>
          rw [hm] at hl; exact ⟨a', Array.toList_inj.1 hm, hl.2 0 (by simp)⟩
      unfold fsBuiltin at hf; split at hf
      · rename_i s x he; obtain ⟨s', x', h1, h2, h3⟩ := two _ _ he; rw [h1]; exact nx_of_val (append_ok hr h2 h3 hf)
      · rename_i s x he; obtain ⟨s', x', h1, h2, h3⟩ := two _ _ he; rw [h1]; exact nx_of_val (copy_ok hr h2 h3 hf)
      · rename_i x he; obtain ⟨x', h1, h2⟩ := one _ he; rw [h1]
        cases hcl : fsClear P c.argTypes x h with
        | none => rw [hcl] at hf; cases hf
        | some h2' =>
          rw [hcl] at hf; simp only [Option.map_some, Option.some.injEq, Prod.mk.injEq] at hf; obtain ⟨rfl, rfl⟩ := hf; exact nx_of_val (clear_ok hr h2 hcl)
      · rename_i x he; obtain ⟨x', h1, h2⟩ := one _ he; rw [h1]; obtain ⟨hg, rfl⟩ := map_pair hf; clear hf; have hf := hg; exact nx_of_ex hr (len_ok hr h2 hf)
      · rename_i x he; obtain ⟨x', h1, h2⟩ := one _ he; rw [h1]; obtain ⟨hg, rfl⟩ := map_pair hf; clear hf; have hf := hg; exact nx_of_ex hr (cap_ok hr h2 hf)
      · rename_i x he; obtain ⟨x', h1, h2⟩ := one _ he; rw [h1]; obtain ⟨hg, rfl⟩ := map_pair hf; clear hf; have hf := hg; exact nx_of_ex hr (sliceData_ok h2 hf)
      · rename_i p n he; obtain ⟨p', n', h1, h2, h3⟩ := two _ _ he; rw [h1]; exact nx_of_val (unsafeStr_ok hr h2 h3 hf)
      · split at hf
        · rename_i haf; obtain ⟨hg, rfl⟩ := map_pair hf; clear hf; have hf := hg; have he : c.args.map ev' = (c.args.toList.map ev).toArray := Array.toList_inj.1 (hl.eq_of_af haf); rw [he]; obtain ⟨h1, h2⟩ := purely_ok hf w; exact nx_val hr h1 (.of_af h2)
        cases hf
      · split at hf
        · rename_i haf; obtain ⟨hg, rfl⟩ := map_pair hf; clear hf; have hf := hg; have he : c.args.map ev' = (c.args.toList.map ev).toArray := Array.toList_inj.1 (hl.eq_of_af haf); rw [he]; obtain ⟨h1, h2⟩ := purely_ok hf w; exact nx_val hr h1 (.of_af h2)
        cases hf
      cases hf
  | _ => simp only [hop] at hf; cases hf
end Go.Fs
namespace Go.Fs
variable {P : Program} {ρ : Ren} {S : Nat → Prop} {B : Nat} {w0 w : World} {h : Heap}
theorem bytesS_ok {s d e : TypeId} {b n m : Nat} {e' : TypeId} {cs : List Value} {more : Bool} {x' : Value} {l : List UInt8} (hr : HR P ρ S B w0 h w) (hx : VR ρ S (.slice (some ⟨b, 0, none⟩) n m) x') (hu : P.underlying s = some (.slice e)) (he : P.underlying e = some (.int .u8)) (hd : P.underlying d = some .string)
    (hg : h.get b = some (.row e' cs true more)) (hn : n ≤ cs.length) (hl : bytesC (cs.take n) = some l) : (convert s d x').run P w = .ok (.string ⟨l.toArray⟩) w := by
  obtain ⟨A, c, rfl, hnc, _, _, hbb⟩ := hx.slice_inv; have hb0 : b ≠ 0 := (hr.ids b (hr.objs b _ hg).1).2; obtain ⟨_, rfl, _⟩ := hbb hb0; obtain ⟨_, cur, h1, h2, h3, h4, h5, h6, h7⟩ := hr.objs b _ hg
  have hc : ∀ i, i < cs.length → ∃ v, w.cell? ((ρ b).at i) = some v ∧ VR ρ S (cs.getD i undef) v := fun i hi => ⟨cur.getD i undef, by
    have : i < cur.length := by omega
    simp [World.cell?, Loc.at, h1, h2, List.getD, this], h7 i hi⟩
  obtain ⟨vs, k1, k2⟩ := loadCells_ok hc (o := 0) (n := n) (by omega); rw [List.drop_zero] at k2; have k3 := bytesC_ok k2 hl; rw [run_convert_bytes_string w s d e _ _ _ hu he hd, run_bytesToString w _ n c (l.map fun x => ((x.toNat : Nat) : Int)) (by rw [k1, k3, List.map_map]; rfl), fold_push]; simp
end Go.Fs
namespace Go.Fs
open Go.RowKit (Below)
variable {P : Program} {ρ ρ' : Ren} {S S' : Nat → Prop} {B : Nat} {w0 w w' w1 w2 : World} {h h' h1 h2 : Heap}
def Wide (r : Option Nat) : Fence := { Fence.wide with round := r }
def RetR (P : Program) (B : Nat) (w0 : World) (ρ : Ren) (S : Nat → Prop) (h : Heap) (w : World) (v : Value) (h' : Heap) : Ending → World → Prop
  | .returned v', w' => ∃ ρ', Moved P B w0 ρ ρ' S h h' w w' ∧ VR ρ' (Ext S h h') v v'
  | _, _ => False
def Enters (P : Program) (f : FuncId) : Prop := ∃ fn, P.funcs[f]? = some fn ∧ fn.body.isNone = false ∧ (fn.name == "runtime.NumGoroutine") = false
def CallSound (P : Program) (B : Nat) (w0 : World) (call : FuncId → List Value → Heap → Option (Value × Heap)) : Prop :=
  ∀ f args h v h', call f args h = some (v, h') → Enters P f ∧ ∀ ρ S w args', HR P ρ S B w0 h w → LR ρ S args args' → ∀ n, CallsIn Fence.wide n P f args'.toArray w (RetR P B w0 ρ S h w v h')
def CallSnd (P : Program) (B : Nat) (w0 : World) (call : FuncId → List Value → Heap → Option (Value × Heap)) : Prop :=
  ∀ f args h v h', call f args h = some (v, h') → (Enters P f ∧ ∀ ρ S w args', HR P ρ S B w0 h w → LR ρ S args args' → ∀ n, CallsIn Fence.wide n P f args'.toArray w (RetR P B w0 ρ S h w v h')) ∨
    ∀ ρ S w args', HR P ρ S B w0 h w → LR ρ S args args' → ∃ w' v', (callFunc f args'.toArray).run P w = .ok (.value v') w' ∧ RetR P B w0 ρ S h w v h' (.returned v') w'
def YieldSound (P : Program) (B : Nat) (w0 : World) (yield : Nat → List Value → Heap → Option (Value × Heap)) : Prop :=
  ∀ l args h v h', yield l args h = some (v, h') → ∀ ρ S w args', HR P ρ S B w0 h w → LR ρ S args args' → S l → ∃ f tmps assign body,
    (Instr.yield (ρ l).block args'.toArray).run P w = .ok (.round (ρ l).block f tmps assign body) w ∧ ∀ n, RoundIn Fence.wide n P (ρ l).block f tmps assign body w (RetR P B w0 ρ S h w v h')
theorem callFunc_run {f : FuncId} (hf : Enters P f) (args : Array Value) (w : World) : (callFunc f args).run P w = .ok (.enter f args) w := by
  obtain ⟨fn, h1, h2, h3⟩ := hf; unfold callFunc; simp only [Sem.run_bind, run_program, Result.andThen_ok, h1, h3, h2, Bool.false_eq_true, if_false, Sem.run_pure]
theorem wide_about {r : Option Nat} {o : Oper} {a : Act} : ∀ f, o.about P w a.eval = some f → (Wide r).fn f := fun _ _ => trivial
theorem semAt_eq {call : FuncId → List Value → Heap → Option (Value × Heap)} {yield : Nat → List Value → Heap → Option (Value × Heap)} {o : Oper} {ev ev' : Operand → Value} {r : Option Nat} {x : Value × Heap}
    (hf : fsOp P call yield o ev h = some x) : o.semAt r ev' = execOp ev' o := by
  unfold Oper.semAt; unfold fsOp at hf
  cases hop : o.op with
  | defer c => rw [hop] at hf; cases hf
  | _ => cases r <;> rfl
theorem op_wp {call : FuncId → List Value → Heap → Option (Value × Heap)} {yield : Nat → List Value → Heap → Option (Value × Heap)} (hcs : CallSnd P B w0 call) (hys : YieldSound P B w0 yield)
    {o : Oper} {ev : Operand → Value} {a : Act} {v : Value} {r : Option Nat} {n : Nat} {next : Act → World → Prop} {Q : Exit → Act → World → Prop}
    (hr : HR P ρ S B w0 h w) (hev : ∀ x ∈ o.op.operands.toList, VR ρ S (ev x) (a.eval x)) (hf : fsOp P call yield o ev h = some (v, h'))
    (k : ∀ ρ' w' v', Moved P B w0 ρ ρ' S h h' w w' → VR ρ' (Ext S h h') v v' → next (a.put o.dst v') w') : o.wpIn (Wide r) n P a w next Q := by
  refine ⟨wide_about, ?_⟩; rw [show (Wide r).round = r from rfl, semAt_eq hf]; by_cases hno : ∀ c f, o.op = .call c → c.callee ≠ .value f
  · obtain ⟨ρ', w', v', h1, h2, h3⟩ := op_plain hr hev hno hf; have := k ρ' w' v' h2 h3; rcases h1 with h1 | ⟨h1, rfl⟩
    · rw [h1]; exact this
    rw [h1]; exact this
  have hno2 : ∃ c f, o.op = .call c ∧ c.callee = .value f := Classical.byContradiction fun hx => hno fun c f h1 h2 => hx ⟨c, f, h1, h2⟩; obtain ⟨c, f, hop, hc⟩ := hno2; unfold fsOp at hf; rw [hop] at hf hev; simp only [hc] at hf; simp only [Op.operands, Call.operands, hc, Array.toList_append, List.mem_append, List.mem_cons, List.not_mem_nil, or_false] at hev
  have hargs : LR ρ S (c.args.toList.map ev) (c.args.map a.eval).toList := by
    rw [Array.toList_map]; exact LR.map _ _ _ fun x hx => hev x (.inr hx)
  have hfv := hev f (.inl rfl)
  have hrun : ∀ d : Deferred, (Deferred.ofValue (a.eval f) (c.args.map a.eval)).run P w = .ok d w → (execOp a.eval o).run P w = (invoke d.target d.args).run P w := fun d hd => by
    unfold execOp; rw [hop]; simp only [Sem.run_bind]
    have : (resolve a.eval c o.type).run P w = .ok d w := by
      unfold resolve; rw [hc]; exact hd
    rw [this]; rfl
  have fin : ∀ e w', RetR P B w0 ρ S h w v h' e w' → (match e, w' with
      | .returned v, w'' => next (a.put o.dst v) w''
      | .panicked chain, w'' => Q (.panic chain) a w''
      | .outgrown, _ => LetsOut Q) := fun e w' he => by
    cases e with
    | returned v' => obtain ⟨ρ', h1, h2⟩ := he; exact k ρ' w' v' h1 h2
    | panicked c => exact he.elim
    | outgrown => exact he.elim
  split at hf
  · rename_i g first captured hevf; rw [hevf] at hfv; obtain ⟨f1, c1, hef, hl1, hl2⟩ := hfv.func_inv; rw [hrun { target := .fn (.func g) c1, args := f1 ++ c.args.map a.eval } (by rw [hef]; rfl)]; rcases hcs _ _ _ _ _ hf with ⟨hent, hcall⟩ | hext
    case inr =>
      obtain ⟨w', v', e1, e2⟩ := hext ρ S w ((f1 ++ c.args.map a.eval) ++ c1).toList hr (by simpa using (hl1.append hargs).append hl2); have hinv : (invoke (.fn (.func g) c1) (f1 ++ c.args.map a.eval)).run P w = .ok (.value v') w' := e1; rw [hinv]; exact fin (.returned v') w' e2
    have hinv : (invoke (.fn (.func g) c1) (f1 ++ c.args.map a.eval)).run P w = .ok (.enter g ((f1 ++ c.args.map a.eval) ++ c1)) w := callFunc_run hent _ w; rw [hinv]; refine ⟨fun hd => (by cases hd), ?_⟩; have h3 := hcall ρ S w ((f1 ++ c.args.map a.eval) ++ c1).toList hr (by simpa using (hl1.append hargs).append hl2) (n - 1); have h4 : CallsIn (Wide r) (n - 1) P g ((f1 ++ c.args.map a.eval) ++ c1) w (RetR P B w0 ρ S h w v h') := h3; exact h4.mono fin
  · rename_i l hevf; have hevf' : ev f = .func (.yield l) #[] #[] := hevf; rw [hevf'] at hfv; obtain ⟨hs, hef⟩ := hfv.yield_inv; obtain ⟨fn, tmps, assign, body, h3, h4⟩ := hys _ _ _ _ _ hf ρ S w _ hr hargs hs; rw [hrun { target := .fn (.yield (ρ l).block) #[], args := #[] ++ c.args.map a.eval } (by rw [hef]; rfl)]
    have hinv : (invoke (.fn (.yield (ρ l).block) #[]) (#[] ++ c.args.map a.eval)).run P w = .ok (.round (ρ l).block fn tmps assign body) w := by
      have h5 : (c.args.map a.eval).toList.toArray = #[] ++ c.args.map a.eval := by rw [Array.toArray_toList]; simp
      rw [h5] at h3; exact h3
    rw [hinv]; refine ⟨fun hd => (by cases hd), ?_⟩; have h6 : RoundIn (Wide r) (n - 1) P (ρ l).block fn tmps assign body w (RetR P B w0 ρ S h w v h') := h4 (n - 1); exact h6.mono fin
  cases hf
theorem markB_ok {s e : TypeId} {b n : Nat} {e' : TypeId} {cs : List Value} {x' : Value} (hr : HR P ρ S B w0 h w) (hx : VR ρ S (.slice (some ⟨b, 0, none⟩) n 0) x') (hu : P.underlying s = some (.slice e)) (he : P.underlying e = some (.int .u8)) (hg : h.get b = some (.row e' cs true false)) :
    Val P B w0 ρ S h w (.slice (some ⟨h.next, 0, none⟩) n 0) ((h.drop b).push (.row e' cs true false)) ((convert s s x').run P w) := by
  obtain ⟨A, c, rfl, hnc, _, _, hbb⟩ := hx.slice_inv; have hb0 : b ≠ 0 := (hr.ids b (hr.objs b _ hg).1).2; obtain ⟨hS, rfl, hcap⟩ := hbb hb0; have hcap := hcap rfl; obtain ⟨_, cur, h1, h2, h3, h4, h5, h6, h7⟩ := hr.objs b _ hg
  have hat : (ρ b).at 0 = ⟨(ρ b).block, 0, none⟩ := by unfold Loc.at; rw [h2]
  have hsh : w.shape? (ρ b).block = some (e', cur.length) := by simp [World.shape?, h1]
  let f : Nat × Nat := if (ρ b).fz.1 == (ρ b).fz.2 then (cur.length, cur.length + 1) else (min (ρ b).fz.1 cur.length, max (ρ b).fz.2 (cur.length + 1))
  have hf : f.1 = f.2 ∨ cur.length ≤ f.1 := by
    right; show cur.length ≤ (if (ρ b).fz.1 == (ρ b).fz.2 then (cur.length, cur.length + 1) else (min (ρ b).fz.1 cur.length, max (ρ b).fz.2 (cur.length + 1))).1; have := (ρ b).hfz; split
    · exact Nat.le_refl _
    rename_i hne
    have hne : ¬ (ρ b).fz.1 = (ρ b).fz.2 := by simpa using hne
    show cur.length ≤ min (ρ b).fz.1 cur.length; omega
  have hw : ∀ k : Nat, (w.freeze ⟨(ρ b).block, cur.length, none⟩ 1).heap[k]? = if k = (ρ b).block then some (.cells cur.toArray e' f) else w.heap[k]? := fun k => by
    unfold World.freeze; rw [if_neg (by decide)]; simp only [Array.getElem?_modify]; by_cases hk : k = (ρ b).block
    · subst hk; rw [if_pos rfl, if_pos rfl, h1]; rfl
    rw [if_neg (fun e0 => hk e0.symm), if_neg hk]
  refine ⟨ρ.put h.next ⟨(ρ b).block, 0, cur.length, P.cellsOf e', f, hf⟩, w.freeze ⟨(ρ b).block, cur.length, none⟩ 1, .slice (some ⟨(ρ b).block, 0, none⟩) n c, ?_, ?_, ?_⟩
  · rw [hat]; simp [convert, run_underlying hu, run_underlying he, markStringish, hsh]
  · refine Moved.replace hr hg rfl rfl ⟨(ρ b).block, 0, cur.length, P.cellsOf e', f, hf⟩ (.inl rfl) (hr.base b _ hg rfl) ?_ ?_ ?_ ?_ (fun k _ hk => by rw [hw, if_neg hk]) ⟨cur, by rw [hw]; exact if_pos rfl, rfl, rfl, rfl, h5, h6, fun i hi => (h7 i hi).mono (hr.agree' _ (.row e' cs true false))⟩ ?_
    all_goals (unfold World.freeze; rw [if_neg (by decide)])
    · simp
    exact Nat.le_refl _
  refine slice_new hr.pos n c ⟨(ρ b).block, 0, cur.length, P.cellsOf e', f, hf⟩ rfl hnc ?_ _ (Ext.pushNext (.row e' cs true false)); show c * P.cellsOf e' = cur.length; rw [← h4, ← h3]; omega
theorem markB_wp 
    {o : Oper} {ev : Operand → Value} {a : Act} {v : Value} {r : Option Nat} {n : Nat} {next : Act → World → Prop} {Q : Exit → Act → World → Prop}
    (hr : HR P ρ S B w0 h w) (hev : ∀ x ∈ o.op.operands.toList, VR ρ S (ev x) (a.eval x)) (hf : fsMarkB P o ev h = some (v, h'))
    (k : ∀ ρ' w' v', Moved P B w0 ρ ρ' S h h' w w' → VR ρ' (Ext S h h') v v' → next (a.put o.dst v') w') : o.wpIn (Wide r) n P a w next Q := by
  unfold fsMarkB at hf; split at hf
  · rename_i s d x hop; split at hf
    · rename_i b m hevx; split at hf
      · rename_i e hu; split at hf
        · rename_i he; split at hf
          · rename_i e' cs hg; obtain ⟨hc, hq⟩ := bif_some hf; obtain ⟨hc, _⟩ := band hc; obtain ⟨hc, _⟩ := band hc; obtain rfl := nbeq hc; have hq := Prod.mk.inj (Option.some.inj hq); obtain ⟨rfl, rfl⟩ := hq; refine ⟨wide_about, ?_⟩; rw [show (Wide r).round = r from rfl, show o.semAt r a.eval = execOp a.eval o by unfold Oper.semAt; rw [hop]; cases r <;> rfl]; have hx : VR ρ S (ev x) (a.eval x) := hev x (by rw [hop]; simp [Op.operands]); rw [hevx] at hx; obtain ⟨ρ', w', v', h1, h2, h3⟩ := markB_ok hr hx hu he hg; unfold execOp; rw [hop]; simp only [Sem.run_bind, h1, Result.andThen_ok, Sem.run_pure]; exact k ρ' w' v' h2 h3
          cases hf
        cases hf
      cases hf
    cases hf
  cases hf
theorem markS_wp 
    {o : Oper} {ev : Operand → Value} {a : Act} {v : Value} {r : Option Nat} {n : Nat} {next : Act → World → Prop} {Q : Exit → Act → World → Prop}
    (hr : HR P ρ S B w0 h w) (hev : ∀ x ∈ o.op.operands.toList, VR ρ S (ev x) (a.eval x)) (hf : fsMarkS P o ev h = some (v, h'))
    (k : ∀ ρ' w' v', Moved P B w0 ρ ρ' S h h' w w' → VR ρ' (Ext S h h') v v' → next (a.put o.dst v') w') : o.wpIn (Wide r) n P a w next Q := by
  unfold fsMarkS at hf; split at hf
  · rename_i s d x hop; split at hf
    · rename_i b m mk hevx; split at hf
      · rename_i e hu; split at hf
        · rename_i he; split at hf
          · rename_i hd; split at hf
            · rename_i e' cs more hg; obtain ⟨hc, hq⟩ := bif_some hf; obtain ⟨l, hl, hq⟩ := Option.map_eq_some_iff.1 hq; have hq := Prod.mk.inj hq; obtain ⟨rfl, rfl⟩ := hq; refine ⟨wide_about, ?_⟩; rw [show (Wide r).round = r from rfl, show o.semAt r a.eval = execOp a.eval o by unfold Oper.semAt; rw [hop]; cases r <;> rfl]; have hx : VR ρ S (ev x) (a.eval x) := hev x (by rw [hop]; simp [Op.operands]); rw [hevx] at hx; have h1 := bytesS_ok hr hx hu he hd hg (nble hc) hl; unfold execOp; rw [hop]; simp only [Sem.run_bind, h1, Result.andThen_ok, Sem.run_pure]; exact k ρ w _ (Moved.same hr) (.lit rfl)
            cases hf
          cases hf
        cases hf
      cases hf
    cases hf
  cases hf
theorem freeze_alloc (w : World) (c : Array Value) (e : TypeId) (z : Nat) (hz : z = w.heap.size) : (w.alloc (.cells c e)).freeze ⟨z, c.size, none⟩ 1 = w.alloc (.cells c e (c.size, c.size + 1)) := by
  subst hz; unfold World.freeze; rw [if_neg (by decide)]
  have hh : ∀ f : Obj → Obj, f (.cells c e) = .cells c e (c.size, c.size + 1) → (w.heap.push (Obj.cells c e)).modify w.heap.size f = w.heap.push (.cells c e (c.size, c.size + 1)) := fun f hf => by
    refine Array.ext_getElem? fun k => ?_; simp only [Array.getElem?_modify, Array.getElem?_push]; by_cases hk : w.heap.size = k
    · subst hk; simp [hf]
    rw [if_neg hk]; by_cases h2 : k = w.heap.size
    · exact absurd h2.symm hk
    simp [h2]
  have h2 : ∀ (x y : Array Obj), x = y → ({ (w.alloc (.cells c e)) with heap := x } : World) = { (w.alloc (.cells c e (c.size, c.size + 1))) with heap := y } := fun x y hxy => by subst hxy; rfl
  exact h2 _ _ (hh _ rfl)
theorem markT_ok {s d e : TypeId} {u : TypeDesc} {t : ByteArray} (hr : HR P ρ S B w0 h w) (hs : P.underlying s = some u) (hu : P.underlying d = some (.slice e)) (he : P.underlying e = some (.int .u8)) (h1 : P.cellsOf e = 1) :
    Val P B w0 ρ S h w (.slice (some ⟨h.next, 0, none⟩) t.size 0) (h.push (.row e (t.data.map fun b => Value.int .u8 b.toNat).toList true true)) ((convert s d (.string t)).run P w) := by
  have hr2 : HR P ρ S B w0 h w.drew := hr.drew _
  have hle : t.size ≤ grownCap w t.size 0 e := by exact grownCap_ge w t.size 0 e
  have hsz : (Lib.bytesCells w e t).size = grownCap w t.size 0 e := by
    unfold Lib.bytesCells; simp; omega
  let l : Loc := ⟨w.heap.size, 0, (Lib.bytesCells w e t).size, 1, ((Lib.bytesCells w e t).size, (Lib.bytesCells w e t).size + 1), .inr (Nat.le_refl _)⟩
  have hm := Moved.push hr2 (.row e (t.data.map fun b => Value.int .u8 b.toNat).toList true true) (.cells (Lib.bytesCells w e t) e ((Lib.bytesCells w e t).size, (Lib.bytesCells w e t).size + 1)) l rfl rfl
    ⟨(Lib.bytesCells w e t).toList, by show (w.drew.heap.push _)[w.drew.heap.size]? = _; rw [Array.getElem?_push_size], rfl, by simp [l], h1.symm, by simp [Lib.bytesCells], (fun e => by cases e), fun i hi => by
      have hi' : i < t.size := by simpa using hi
      have e1 : (Lib.bytesCells w e t).toList.getD i undef = .int .u8 ((t.data.toList.getD i 0).toNat : Int) := by
        unfold Lib.bytesCells; rw [Array.toList_append, List.getD_eq_getElem?_getD, List.getElem?_append_left (by simpa using hi)]; simp [List.getD, hi']
      have e2 : (t.data.map fun b => Value.int .u8 b.toNat).toList.getD i undef = .int .u8 ((t.data.toList.getD i 0).toNat : Int) := by
        simp [List.getD, hi']
      rw [e1, e2]
      exact .lit rfl⟩
  refine ⟨ρ.put h.next l, _, _, Lib.run_convert_string_bytes w s d e t hs hu he, ?_, slice_new hr.pos t.size (grownCap w t.size 0 e) l rfl hle ?_ _ (Ext.pushNext _)⟩
  · rw [show Lib.bytesWorld w e t = w.drew.alloc (.cells (Lib.bytesCells w e t) e ((Lib.bytesCells w e t).size, (Lib.bytesCells w e t).size + 1)) from freeze_alloc w.drew _ e _ rfl]; exact Moved.ofDrew hm
  show grownCap w t.size 0 e * 1 = (Lib.bytesCells w e t).size; omega
theorem markT_wp 
    {o : Oper} {ev : Operand → Value} {a : Act} {v : Value} {r : Option Nat} {n : Nat} {next : Act → World → Prop} {Q : Exit → Act → World → Prop}
    (hr : HR P ρ S B w0 h w) (hev : ∀ x ∈ o.op.operands.toList, VR ρ S (ev x) (a.eval x)) (hf : fsMarkT P o ev h = some (v, h'))
    (k : ∀ ρ' w' v', Moved P B w0 ρ ρ' S h h' w w' → VR ρ' (Ext S h h') v v' → next (a.put o.dst v') w') : o.wpIn (Wide r) n P a w next Q := by
  unfold fsMarkT at hf; split at hf
  · rename_i s d x hop; split at hf
    · rename_i t hevx; split at hf
      · rename_i u e hs hu; split at hf
        · rename_i he; obtain ⟨hc, hq⟩ := bif_some hf; obtain ⟨hc, _⟩ := band hc; have hq := Prod.mk.inj (Option.some.inj hq); obtain ⟨rfl, rfl⟩ := hq; refine ⟨wide_about, ?_⟩; rw [show (Wide r).round = r from rfl, show o.semAt r a.eval = execOp a.eval o by unfold Oper.semAt; rw [hop]; cases r <;> rfl]; have hx : VR ρ S (ev x) (a.eval x) := hev x (by rw [hop]; simp [Op.operands]); rw [hevx] at hx; obtain ⟨ρ', w', v', h1, h2, h3⟩ := markT_ok (t := t) hr hs hu he (nbeq hc); unfold execOp; rw [hop]; simp only [Sem.run_bind]; rw [hx.string_inv]; simp only [h1, Result.andThen_ok, Sem.run_pure]; exact k ρ' w' v' h2 h3
        cases hf
      cases hf
    cases hf
  cases hf
theorem evG_ok {ev : Operand → Value} {a : Act} (hr : HR P ρ S B w0 h w) {xs : List Operand} (hev : ∀ x ∈ xs, VR ρ S (ev x) (a.eval x)) : ∀ x ∈ xs, VR ρ S (evG P h ev x) (a.eval x) := fun x hx => by
  cases x with
  | global g =>
    show VR ρ S (gptr P h g) (.pointer (some ⟨g, 0, none⟩)); unfold gptr; split
    · rename_i e cs gl hg hgl
      cases hb : Nat.beq gl.type e with
      | false => exact .junk _
      | true =>
        obtain ⟨h1, h2⟩ := hr.objs _ _ hg; obtain ⟨h3, h4⟩ := h2.2.2 rfl g gl hgl (nbeq hb); have := VR.ptr (ρ := ρ) (S := S) (g + 1) 0 h1; unfold Loc.at at this; rw [h3, h4] at this; exact this
    exact .junk _
  | _ => exact hev _ hx
theorem opM_wp {call : FuncId → List Value → Heap → Option (Value × Heap)} {yield : Nat → List Value → Heap → Option (Value × Heap)} (hcs : CallSnd P B w0 call) (hys : YieldSound P B w0 yield)
    {o : Oper} {ev : Operand → Value} {a : Act} {v : Value} {r : Option Nat} {n : Nat} {next : Act → World → Prop} {Q : Exit → Act → World → Prop}
    (hr : HR P ρ S B w0 h w) (hev : ∀ x ∈ o.op.operands.toList, VR ρ S (ev x) (a.eval x)) (hf : fsOpM P call yield o ev h = some (v, h'))
    (k : ∀ ρ' w' v', Moved P B w0 ρ ρ' S h h' w w' → VR ρ' (Ext S h h') v v' → next (a.put o.dst v') w') : o.wpIn (Wide r) n P a w next Q := by
  unfold fsOpM at hf; split at hf
  · rename_i x hx; obtain rfl := Option.some.inj hf; exact op_wp hcs hys hr hev hx k
  unfold fsMarkG at hf; split at hf
  · rename_i r1 hx; obtain rfl := Option.some.inj hf; exact markB_wp hr hev hx k
  split at hf
  · rename_i r2 hx2; obtain rfl := Option.some.inj hf; exact markS_wp hr hev hx2 k
  split at hf
  · rename_i r2 hx2; obtain rfl := Option.some.inj hf; exact markT_wp hr hev hx2 k
  obtain ⟨_, hf⟩ := bif_some hf; exact op_wp (call := fun _ _ _ => none) (yield := fun _ _ _ => none) (fun _ _ _ _ _ hx => by cases hx) (fun _ _ _ _ _ hx => by cases hx) hr (evG_ok hr hev) hf k
end Go.Fs
namespace Go.Fs
open Go.RowKit (Below)
variable {P : Program} {ρ ρ' : Ren} {S S' : Nat → Prop} {B : Nat} {w0 w w' w1 w2 : World} {h h' h1 h2 : Heap}
theorem Ext.trans' {b : Nat} (n1 : h.next ≤ h1.next) (n2 : h1.next ≤ h2.next) (he : Ext (Ext S h h1) h1 h2 b) : Ext S h h2 b := by
  rcases he with (he | he) | he
  · exact .inl he
  · exact .inr (by omega)
  exact .inr (by omega)
theorem put_defers (a : Act) (dst : Option Tmp) (v : Value) : (a.put dst v).defers = a.defers := by
  cases dst <;> rfl
theorem wanted_ok {ops : Array Oper} {t : Tr} {tmps : Array Value} {o : Oper} {b : Bool}
    (hg : ∀ j want d, o.guard = some (j, want) → (ops[j]?).bind (·.dst) = some d → VR ρ S (t.get d) (tmps.toList.getD d undef)) (hf : fsWanted ops t o = some b) :
    Region.wanted o (yielded ops tmps) = b := by
  unfold fsWanted at hf; unfold Region.wanted; split at hf
  · rename_i hn; rw [hn]; simpa using hf
  rename_i j want hn; rw [hn]; simp only; unfold yielded; split at hf
  · rename_i hd; rw [hd]; simpa using hf
  rename_i d hd; have hv := hg j want d hn hd; rw [hd]; simp only [Option.bind_some]
  have ht : tmps.toList.getD d undef = (tmps[d]?).getD undef := by
    rw [List.getD_eq_getElem?_getD, Array.getElem?_toList]
  rw [ht] at hv; split at hf
  · rename_i b0 hb0; simp only [Option.some.injEq] at hf; subst hf; rw [hb0] at hv; have h1 := hv.bool_inv
    cases hx : tmps[d]? with
    | none => rw [hx] at h1; cases h1
    | some v =>
      rw [hx] at h1; simp only [Option.getD_some] at h1; subst h1; cases b0 <;> cases want <;> rfl
  · rename_i hb0; simp only [Option.some.injEq] at hf; subst hf; have hb1 : t.get d = .tuple #[] := hb0; rw [hb1] at hv; obtain ⟨cs, h1, h2⟩ := hv.tuple_inv (by simp [junk])
    have h3 : cs = #[] := by
      have := h2.1; apply Array.toList_inj.1; exact List.eq_nil_of_length_eq_zero (by simpa using this.symm)
    subst h3
    cases hx : tmps[d]? with
    | none => rfl
    | some v =>
      rw [hx] at h1; simp only [Option.getD_some] at h1; subst h1; rfl
  cases hf
theorem ops_wp {step : Oper → (Operand → Value) → Heap → Option (Value × Heap)} {call : FuncId → List Value → Heap → Option (Value × Heap)} {yield : Nat → List Value → Heap → Option (Value × Heap)}
    (hst : step = fsOpM P call yield) (hcs : CallSnd P B w0 call) (hys : YieldSound P B w0 yield) {ops : Array Oper} {r : Option Nat} {m n : Nat} {Q : Exit → Act → World → Prop} {t' : Tr} :
    ∀ (l : List Oper) (idxs : List Nat) (ρ : Ren) (S : Nat → Prop) (w : World) (a : Act) (t : Tr) (h : Heap), idxs.map (ops[·]?) = l.map some → HR P ρ S B w0 h w → TrR ρ S t m a.tmps →
      fsOps step ops m l t h = some (t', h') →
      (∀ ρ' w' a', Moved P B w0 ρ ρ' S h h' w w' → TrR ρ' (Ext S h h') t' m a'.tmps → a'.defers = a.defers → Q .normal a' w') → wpOpsIn (Wide r) n P ops Q idxs a w
  | [], [], ρ, S, w, a, t, h, _, hr, ht, hf, k => by
    simp only [fsOps, Option.some.injEq, Prod.mk.injEq] at hf; obtain ⟨rfl, rfl⟩ := hf
    exact k ρ w a (Moved.same hr) (ht.mono fun _ hb => ⟨.inl hb, rfl⟩) rfl
  | [], _ :: _, _, _, _, _, _, _, hi, _, _, _, _ => by simp at hi
  | _ :: _, [], _, _, _, _, _, _, hi, _, _, _, _ => by simp at hi
  | o :: l, i :: idxs, ρ, S, w, a, t, h, hi, hr, ht, hf, k => by
    simp only [List.map_cons, List.cons.injEq] at hi; obtain ⟨ho, hi⟩ := hi; simp only [fsOps] at hf; have hw : ∀ b, fsWanted ops t o = some b → Region.wanted o (yielded ops a.tmps) = b := fun b hb => wanted_ok (fun _ _ d _ _ => ht.2.2 d) hb; simp only [wpOpsIn, ho]; split at hf
    · rename_i hwt; rw [if_pos (hw _ hwt)]; split at hf
      · rename_i v h1 hs; split at hf
        · rename_i t1 hp; subst hst; refine opM_wp hcs hys hr (fun x _ => ht.eval a.defers x) hs fun ρ1 w1 v1 m1 hv => ?_; have ht1 : TrR ρ1 (Ext S h h1) t1 m (a.put o.dst v1).tmps := TrR.put (ht.mono fun b hb => ⟨.inl hb, m1.agree b hb⟩) hp hv a.defers; refine ops_wp rfl hcs hys l idxs ρ1 _ w1 _ t1 h1 hi m1.hr ht1 hf fun ρ2 w2 a2 m2 ht2 hd => ?_; exact k ρ2 w2 a2 (m1.trans m2) (ht2.mono fun b hb => ⟨Ext.trans' m1.next m2.next hb, rfl⟩) (hd.trans (put_defers _ _ _))
        cases hf
      cases hf
    · rename_i hwt; rw [if_neg (by rw [hw _ hwt]; simp)]; refine ⟨wide_about, ?_⟩; split at hf
      · rename_i t1 hp; have ht1 : TrR ρ S t1 m (a.put o.dst undef).tmps := TrR.put ht hp VR.undef a.defers; refine ops_wp hst hcs hys l idxs ρ _ w _ t1 h hi hr ht1 hf fun ρ2 w2 a2 m2 ht2 hd => ?_; exact k ρ2 w2 a2 m2 ht2 (hd.trans (put_defers _ _ _))
      cases hf
    cases hf
theorem range_map {ops : Array Oper} : (List.range ops.size).map (ops[·]?) = ops.toList.map some := by
  refine List.ext_getElem? fun i => ?_; by_cases hi : i < ops.size
  · simp [hi]
  simp [hi]
end Go.Fs
namespace Go.Fs
open Go.RowKit (Below)
variable {P : Program} {ρ ρ' : Ren} {S S' : Nat → Prop} {B : Nat} {w0 w w' w1 w2 : World} {h h' h1 h2 : Heap}
inductive Sched (ops : Array Oper) : (Nat → Bool) → List Nat → Prop
  | nil (E : Nat → Bool) (h : ∀ i, i < ops.size → E i = true) : Sched ops E []
  | cons (E : Nat → Bool) (i : Nat) (o : Oper) (l : List Nat) (ho : ops[i]? = some o) (hE : E i = false) (he : ∀ e ∈ o.after.toList, Region.binds .any e = true → E e.on = true)
      (h : Sched ops (fun j => E j || j == i) l) : Sched ops E (i :: l)
def EdgesOk (ops : Array Oper) : Prop := ∀ (i : Nat) (o : Oper), ops[i]? = some o → ∀ e ∈ o.after.toList, Region.binds .any e = true → e.on < i
def unl (ops : Array Oper) (listed : Array Bool) : Nat := ((List.range ops.size).filter fun i => !listed.getD i true).length
theorem getD_other {l : Array Bool} {i j : Nat} (b : Bool) (hij : i ≠ j) : (l.setIfInBounds i true).getD j b = l.getD j b := by
  simp [Array.getD_eq_getD_getElem?, Array.getElem?_setIfInBounds, hij]
theorem getD_same {l : Array Bool} {i : Nat} (b : Bool) (hi : i < l.size) : (l.setIfInBounds i true).getD i b = true := by
  simp [Array.getD_eq_getD_getElem?, Array.getElem?_setIfInBounds, hi]
theorem filter_lt {α : Type} (p q : α → Bool) : ∀ (l : List α) (x : α), x ∈ l → p x = true → q x = false → (∀ y, q y = true → p y = true) → (l.filter q).length < (l.filter p).length
  | [], _, hx, _, _, _ => by cases hx
  | y :: l, x, hx, hp, hq, hle => by
    have le : ∀ l : List α, (l.filter q).length ≤ (l.filter p).length := fun l => by
      induction l with
      | nil => simp
      | cons z l ih =>
        simp only [List.filter_cons]
        cases hz : q z with
        | true => simp [hle z hz]; omega
        | false => cases p z <;> simp <;> omega
    rcases List.mem_cons.1 hx with rfl | hx
    · simp [hp, hq]; have := le l; omega
    have ih := filter_lt p q l x hx hp hq hle; simp only [List.filter_cons]
    cases hz : q y with
    | true => simp [hle y hz]; omega
    | false => cases p y <;> simp <;> omega
theorem sched_go {ops : Array Oper} (hed : EdgesOk ops) : ∀ (fuel t : Nat) (listed : Array Bool), listed.size = ops.size → unl ops listed ≤ fuel →
    Sched ops (fun j => listed.getD j false) (Region.linearise.go .any ops fuel t listed []) := by
  have all : ∀ listed : Array Bool, listed.size = ops.size → Region.ready .any ops listed = [] → ∀ i, i < ops.size → listed.getD i false = true := fun listed hs hr i => by
    induction i using Nat.strongRecOn with
    | ind i ih =>
      intro hi
      cases hl : listed.getD i false with
      | true => rfl
      | false =>
        have hmem : i ∈ Region.ready .any ops listed := by
          unfold Region.ready; rw [List.mem_filter]; refine ⟨List.mem_range.2 hi, ?_⟩
          have h1 : listed.getD i true = false := by
            have hlt : i < listed.size := by omega
            simp [hlt] at hl ⊢; exact hl
          rw [h1]; simp only [Array.getElem?_eq_getElem hi, Option.map_some, Option.getD_some, Bool.not_false, Bool.true_and]; rw [Array.all_eq_true_iff_forall_mem]; intro e he
          cases hb : Region.binds .any e with
          | false => rfl
          | true =>
            have hlt := hed i ops[i] (Array.getElem?_eq_getElem hi) e (by simpa using he) hb; simp [ih e.on hlt (by omega)]
        rw [hr] at hmem; cases hmem
  intro fuel
  induction fuel with
  | zero =>
    intro t listed hs hu; refine .nil _ fun i hi => ?_
    have h0 : unl ops listed = 0 := by omega
    unfold unl at h0; have h1 := List.filter_eq_nil_iff.1 (List.eq_nil_of_length_eq_zero h0) i (List.mem_range.2 hi)
    have hlt : i < listed.size := by omega
    simp [hlt] at h1 ⊢
    exact h1
  | succ fuel ih =>
    intro t listed hs hu; simp only [Region.linearise.go]
    change Sched ops _ (match (Region.ready .any ops listed)[t % (Region.ready .any ops listed).length]? with
      | some i => Region.linearise.go .any ops fuel (t / (Region.ready .any ops listed).length) (listed.setIfInBounds i true) [i]
      | none => [].reverse)
    cases hi : (Region.ready .any ops listed)[t % (Region.ready .any ops listed).length]? with
    | none =>
      have hnil : Region.ready .any ops listed = [] := by
        cases hr : Region.ready .any ops listed with
        | nil => rfl
        | cons x xs =>
          rw [hr] at hi; have hlt : t % (x :: xs).length < (x :: xs).length := Nat.mod_lt _ (by simp); simp at hi; simp at hlt; omega
      exact .nil _ fun i hi => all listed hs hnil i hi
    | some i =>
      simp only []; rw [linearise_go_acc, List.reverse_singleton, List.singleton_append]; have hmem := List.mem_of_getElem? hi; unfold Region.ready at hmem; obtain ⟨h1, h2⟩ := List.mem_filter.1 hmem; have hlt := List.mem_range.1 h1; simp only [Array.getElem?_eq_getElem hlt, Option.map_some, Option.getD_some, Bool.and_eq_true, Bool.not_eq_true'] at h2; obtain ⟨h3, h4⟩ := h2
      have hlt' : i < listed.size := by omega
      have h5 : listed.getD i false = false := by simp [hlt'] at h3 ⊢; exact h3
      have he : (fun j => (listed.setIfInBounds i true).getD j false) = fun j => listed.getD j false || j == i := by
        funext j; by_cases hj : i = j
        · subst hj; rw [getD_same false hlt']; simp
        rw [getD_other false hj]
        have : (j == i) = false := by simpa using Ne.symm hj
        rw [this, Bool.or_false]
      refine .cons _ i ops[i] _ (Array.getElem?_eq_getElem hlt) h5 (fun e he hb => ?_) ?_
      · have := Array.all_eq_true_iff_forall_mem.1 h4 e (by simpa using he); simpa [hb] using this
      rw [← he]; refine ih _ _ (by simpa using hs) ?_
      have : unl ops (listed.setIfInBounds i true) < unl ops listed := by
        refine filter_lt _ _ _ i h1 (by rw [h3]; rfl) (by rw [getD_same true hlt']; rfl) fun y hy => ?_; by_cases hj : i = y
        · subst hj; rw [getD_same true hlt'] at hy; cases hy
        rwa [getD_other true hj] at hy
      omega
theorem sched_any {ops : Array Oper} (hed : EdgesOk ops) (t : Nat) : Sched ops (fun _ => false) (Region.schedule true ops t) := by
  have h1 := sched_go hed ops.size t (Array.replicate ops.size false) (by simp) (by
    unfold unl
    exact Nat.le_trans (List.length_filter_le _ _) (by simp))
  have he : (fun j => (Array.replicate ops.size false).getD j false) = fun _ => false := by
    funext j; simp [Array.getD_eq_getD_getElem?, Array.getElem?_replicate]; split <;> rfl
  rw [he] at h1; simpa [Region.schedule, Region.linearise] using h1
structure MovedS (P : Program) (B : Nat) (w0 : World) (ρ ρ' : Ren) (S S' : Nat → Prop) (h h' : Heap) (L : Nat) (w w' : World) : Prop where
  agree : ∀ b, S b → ρ' b = ρ b
  sub : ∀ b, S b → S' b
  hr : HR P ρ' S' B w0 h' w'
  frame : Frame ρ h w w'
  keep : ∀ i, S i → i < L → h'.get i = h.get i
  old : ∀ i o, h'.get i = some o → S i → ∃ o', h.get i = some o' ∧ ownO o' = ownO o
  fresh : ∀ i o, h'.get i = some o → ¬ S i → ownO o = true ∧ (w.heap.size ≤ (ρ' i).block ∨ ∃ j oj, h.get j = some oj ∧ ownO oj = true ∧ (ρ j).block = (ρ' i).block ∧ L ≤ j)
theorem MovedS.trans {S1 S2 : Nat → Prop} {ρ1 ρ2 : Ren} {L : Nat} (m : MovedS P B w0 ρ ρ1 S S1 h h1 L w w1) (k : MovedS P B w0 ρ1 ρ2 S1 S2 h1 h2 L w1 w2) : MovedS P B w0 ρ ρ2 S S2 h h2 L w w2 where
  agree := fun b hb => (k.agree b (m.sub b hb)).trans (m.agree b hb)
  sub := fun b hb => k.sub b (m.sub b hb)
  hr := k.hr
  frame := by
    refine ⟨k.frame.os.trans m.frame.os, k.frame.tape.trans m.frame.tape, k.frame.output.trans m.frame.output, Nat.le_trans m.frame.size k.frame.size, fun b hb hno => ?_⟩; rw [k.frame.block b (Nat.lt_of_lt_of_le hb m.frame.size) ?_, m.frame.block b hb hno]; intro i o hi ho he; by_cases hS : S i
    · obtain ⟨o', hi', ho'⟩ := m.old i o hi hS; rw [m.agree i hS] at he; exact hno i o' hi' (ho'.trans ho) he
    obtain ⟨_, hf⟩ := m.fresh i o hi hS; rcases hf with hf | ⟨j, oj, hj, hoj, hbj, _⟩
    · omega
    exact hno j oj hj hoj (hbj.trans he)
  keep := fun i hi hl => (k.keep i (m.sub i hi) hl).trans (m.keep i hi hl)
  old := fun i o ho hi => by
    obtain ⟨o1, h1, h2⟩ := k.old i o ho (m.sub i hi); obtain ⟨o2, h3, h4⟩ := m.old i o1 h1 hi; exact ⟨o2, h3, h4.trans h2⟩
  fresh := fun i o ho hi => by
    by_cases hS1 : S1 i
    · obtain ⟨o1, h3, h4⟩ := k.old i o ho hS1; obtain ⟨h5, hf⟩ := m.fresh i o1 h3 hi; refine ⟨h4 ▸ h5, ?_⟩; rw [k.agree i hS1]; exact hf
    obtain ⟨h5, hf⟩ := k.fresh i o ho hS1; refine ⟨h5, ?_⟩; rcases hf with hf | ⟨j, oj, hj, hoj, hbj, hlj⟩
    · exact .inl (Nat.le_trans m.frame.size hf)
    by_cases hjS : S j
    · obtain ⟨o2, h6, h7⟩ := m.old j oj hj hjS; rw [m.agree j hjS] at hbj; exact .inr ⟨j, o2, h6, h7.trans hoj, hbj, hlj⟩
    obtain ⟨_, hf'⟩ := m.fresh j oj hj hjS; rcases hf' with hf' | ⟨j', oj', hj', hoj', hbj', hlj'⟩
    · exact .inl (by omega)
    exact .inr ⟨j', oj', hj', hoj', hbj'.trans hbj, hlj'⟩
open Classical in
noncomputable def glue (S : Nat → Prop) (ρ ρ1 : Ren) : Ren := fun b => if S b then ρ b else ρ1 b
theorem glue_in {ρ1 : Ren} {b : Nat} (hb : S b) : glue S ρ ρ1 b = ρ b := by unfold glue; rw [if_pos hb]
theorem glue_out {ρ1 : Ren} {b : Nat} (hb : ¬ S b) : glue S ρ ρ1 b = ρ1 b := by unfold glue; rw [if_neg hb]
theorem framed {S1 S2 : Nat → Prop} {ρ1 : Ren} {H H2 hm : Heap} {L : Nat} (hr : HR P ρ S B w0 H w) (hs1 : ∀ b, S1 b → S b) (hsub : ∀ b o, hm.get b = some o → H.get b = some o)
    (hrm : HR P ρ S1 B w0 hm w) (m : Moved P B w0 ρ ρ1 S1 hm h1 w w1) (hnew : ∀ b, hm.next ≤ b → b < h1.next → ¬ S b) (hS2 : ∀ b, S2 b ↔ S b ∨ (hm.next ≤ b ∧ b < h1.next))
    (hids : ∀ b, S2 b → b < H2.next) (hpos : 0 < H2.next) (hL : ∀ b o, ¬ S b → H2.get b = some o → L ≤ h1.low)
    (ha : ∀ b o, S b → H2.get b = some o → (hm.get b ≠ none ∧ h1.get b = some o) ∨ (hm.get b = none ∧ H.get b = some o))
    (hb : ∀ b o, ¬ S b → H2.get b = some o → (hm.next ≤ b ∧ b < h1.next) ∧ h1.get b = some o) (hc : ∀ b, S b → b < L → H2.get b = H.get b) :
    MovedS P B w0 ρ (glue S ρ ρ1) S S2 H H2 L w w1 := by
  have gl : ∀ b, Ext S1 hm h1 b → S2 b ∧ glue S ρ ρ1 b = ρ1 b := fun b hbx => by
    rcases hbx with hbx | hbx
    · exact ⟨(hS2 b).2 (.inl (hs1 b hbx)), by rw [glue_in (hs1 b hbx), m.agree b hbx]⟩
    exact ⟨(hS2 b).2 (.inr hbx), glue_out (hnew b hbx.1 hbx.2)⟩
  have inS1 : ∀ b, hm.get b ≠ none → S1 b := fun b hbn => by
    cases hg : hm.get b with
    | none => exact absurd hg hbn
    | some o => exact (hrm.objs b o hg).1
  -- an object is one of the part, or lies beside it
  have cls : ∀ b o, H2.get b = some o → (h1.get b = some o ∧ Ext S1 hm h1 b ∧ glue S ρ ρ1 b = ρ1 b) ∨ (hm.get b = none ∧ H.get b = some o ∧ S b ∧ glue S ρ ρ1 b = ρ b) := fun b o hg => by
    by_cases hS : S b
    · rcases ha b o hS hg with ⟨h3, h4⟩ | ⟨h3, h4⟩
      · have this : Ext S1 hm h1 b := .inl (inS1 b h3); exact .inl ⟨h4, this, (gl b this).2⟩
      exact .inr ⟨h3, h4, hS, glue_in hS⟩
    obtain ⟨h3, h4⟩ := hb b o hS hg; exact .inl ⟨h4, .inr h3, glue_out hS⟩
  have beside : ∀ b o, hm.get b = none → H.get b = some o → w1.heap[(ρ b).block]? = w.heap[(ρ b).block]? := fun b o hn hg => by
    refine m.frame.block _ ?_ fun j oj hj hoj he => ?_
    · by_cases hown : ownO o = true
      · exact (hr.objs b o hg).2.lt hown
      have := hr.ro b o hg (by simpa using hown); have := hr.size; omega
    by_cases hown : ownO o = true
    · have := hr.inj j b oj o (hsub j oj hj) hg hoj hown he; subst this; rw [hj] at hn; cases hn
    have h3 := hr.ro b o hg (by simpa using hown); have h4 := hr.base j oj (hsub j oj hj) hoj; omega
  have mixed : ∀ i j oi oj, h1.get i = some oi → Ext S1 hm h1 i → ownO oi = true → hm.get j = none → H.get j = some oj → ownO oj = true → (ρ1 i).block = (ρ j).block → False := fun i j oi oj hi hxi hoi hn hj hoj he => by
    by_cases hlt : i < hm.next
    · obtain ⟨o', h3, h4⟩ := m.old i oi hi hlt; have hSi := (hrm.objs i o' h3).1; rw [m.agree i hSi] at he; have := hr.inj i j o' oj (hsub i o' h3) hj (h4.trans hoi) hoj he; subst this; rw [h3] at hn; cases hn
    obtain ⟨_, hf⟩ := m.fresh i oi hi (by omega); have hjl := (hr.objs j oj hj).2.lt hoj; rcases hf with hf | ⟨j', oj', h3, h4, h5, _⟩
    · omega
    have := hr.inj j' j oj' oj (hsub j' oj' h3) hj h4 hoj (h5.trans he); subst this; rw [h3] at hn; cases hn
  exact {
    agree := fun b hbS => glue_in hbS
    sub := fun b hbS => (hS2 b).2 (.inl hbS)
    hr := {
      objs := fun i o hi => by
        rcases cls i o hi with ⟨h3, h4, h5⟩ | ⟨h3, h4, h5, h6⟩
        · refine ⟨(gl i h4).1, ?_⟩; rw [h5]; exact (m.hr.objs i o h3).2.mono gl
        refine ⟨(hS2 i).2 (.inl h5), ?_⟩; rw [h6]; exact ((hr.objs i o h4).2.mono fun b hbS => ⟨(hS2 b).2 (.inl hbS), glue_in hbS⟩).world (beside i o h3 h4)
      inj := fun i j oi oj hi hj hoi hoj he => by
        rcases cls i oi hi with ⟨h3, h4, h5⟩ | ⟨h3, h4, h5, h6⟩ <;> rcases cls j oj hj with ⟨k3, k4, k5⟩ | ⟨k3, k4, k5, k6⟩
        · rw [h5, k5] at he; exact m.hr.inj i j oi oj h3 k3 hoi hoj he
        · rw [h5, k6] at he; exact (mixed i j oi oj h3 h4 hoi k3 k4 hoj he).elim
        · rw [h6, k5] at he; exact (mixed j i oj oi k3 k4 hoj h3 h4 hoi he.symm).elim
        rw [h6, k6] at he; exact hr.inj i j oi oj h4 k4 hoi hoj he
      base := fun i o hi ho => by
        rcases cls i o hi with ⟨h3, h4, h5⟩ | ⟨h3, h4, h5, h6⟩
        · rw [h5]; exact m.hr.base i o h3 ho
        rw [h6]; exact hr.base i o h4 ho
      ro := fun i o hi ho => by
        rcases cls i o hi with ⟨h3, h4, h5⟩ | ⟨h3, h4, h5, h6⟩
        · rw [h5]; exact m.hr.ro i o h3 ho
        rw [h6]; exact hr.ro i o h4 ho
      ids := fun b hbS => by
        refine ⟨hids b hbS, ?_⟩; rcases (hS2 b).1 hbS with h3 | h3
        · exact (hr.ids b h3).2
        have := hrm.pos; omega
      pos := hpos
      below := m.hr.below
      drawn := m.hr.drawn
      size := m.hr.size }
    frame := ⟨m.frame.os, m.frame.tape, m.frame.output, m.frame.size, fun k hk hno => m.frame.block k hk fun i o hi ho => hno i o (hsub i o hi) ho⟩
    keep := hc
    old := fun i o hi hS => by
      rcases ha i o hS hi with ⟨h3, h4⟩ | ⟨h3, h4⟩
      · have h5 := inS1 i h3; obtain ⟨o', h6, h7⟩ := m.old i o h4 (hrm.ids i h5).1; exact ⟨o', hsub i o' h6, h7⟩
      exact ⟨o, h4, rfl⟩
    fresh := fun i o hi hS => by
      obtain ⟨h3, h4⟩ := hb i o hS hi; obtain ⟨h5, hf⟩ := m.fresh i o h4 h3.1; refine ⟨h5, ?_⟩; rw [glue_out hS]; rcases hf with hf | ⟨j, oj, h6, h7, h8, h9, _⟩
      · exact .inl hf
      exact .inr ⟨j, oj, hsub j oj h6, h7, h8, Nat.le_trans (hL i o hS hi) h9⟩ }
theorem VR.keepS {v v0 v1 : Value} {ρ1 : Ren} {S1 : Nat → Prop} (h : VR ρ S v v0) (k : VR ρ1 S1 v v1) (hag : ∀ b, S b → ρ1 b = ρ b) : VR ρ S v v1 := by
  induction h generalizing v1 with
  | lit h => rw [k.eq_of_af0 h]; exact .lit h
  | junk v => exact .junk _
  | nan q b hb =>
    obtain ⟨b', rfl, h2⟩ := k.fkind (k := q) rfl
    exact .nan q b' (h2 rfl)
  | ptr b o hs =>
    obtain ⟨_, rfl⟩ := k.ptr_inv
    rw [hag b hs]; exact .ptr b o hs
  | slice b o n m c A hn hm h0 hb =>
    obtain ⟨A', c', rfl, h1, h2, h3, h4⟩ := k.slice_inv; refine .slice b o n m c' A' h1 h2 h3 fun hb0 => ?_; obtain ⟨h5, _, _⟩ := hb hb0; obtain ⟨_, h6, h7⟩ := h4 hb0; rw [hag b h5] at h6 h7
    exact ⟨h5, h6, h7⟩
  | map b hs =>
    obtain ⟨_, rfl⟩ := k.map_inv
    rw [hag b hs]; exact .map b hs
  | agg cs cs' hl _ ih =>
    obtain ⟨c1, rfl, h1⟩ := k.agg_inv
    exact .agg cs c1 (by simpa using h1.1) fun i hi => ih i hi (h1.2 i (by simpa using hi))
  | tuple cs cs' hl _ ih =>
    cases k with
    | lit h => simp [af0] at h
    | junk => exact .junk _
    | tuple _ c1 hl1 h1 => exact .tuple cs c1 hl1 fun i hi => ih i hi (h1 i hi)
  | func f a a' c c' ha _ hc _ ihA ihC =>
    obtain ⟨a1, c1, rfl, h1, h2⟩ := k.func_inv
    exact .func f a a1 c c1 (by simpa using h1.1) (fun i hi => ihA i hi (h1.2 i (by simpa using hi))) (by simpa using h2.1) (fun i hi => ihC i hi (h2.2 i (by simpa using hi)))
  | yield l hs =>
    obtain ⟨_, rfl⟩ := k.yield_inv; rw [hag l hs]; exact .yield l hs
theorem ObjR.keepS {l : Loc} {o : AObj} {ρ1 : Ren} {S1 : Nat → Prop} (h : ObjR P ρ S l w o) (k : ObjR P ρ1 S1 l w1 o) (hag : ∀ b, S b → ρ1 b = ρ b) : ObjR P ρ S l w1 o := by
  match o, h, k with
  | .row e cs true more, ⟨cur0, _, _, _, _, _, _, g7⟩, ⟨cur, h1, h2, h3, h4, h5, h6, h7⟩ => exact ⟨cur, h1, h2, h3, h4, h5, h6, fun i hi => (g7 i hi).keepS (h7 i hi) hag⟩
  | .row e cs false more, hg, hk => exact ⟨hk.1, fun i hi => let ⟨v, h1, h2⟩ := hk.2.1 i hi; let ⟨v0, _, g2⟩ := hg.2.1 i hi; ⟨v, h1, g2.keepS h2 hag⟩, hk.2.2⟩
  | .mapo es clock, ⟨es0, g1, g2, g3⟩, ⟨es', h1, h2, h3⟩ =>
    refine ⟨es', h1, h2, fun i e e' he he' => ?_⟩; obtain ⟨a, b, c, d⟩ := h3 i e e' he he'
    have hlt : i < es0.length := by have := (List.getElem?_eq_some_iff.1 he).1; omega
    exact ⟨a, b, c, (g3 i e es0[i] he (List.getElem?_eq_getElem hlt)).2.2.2.keepS d hag⟩
  | .iter s pos, _, hk => exact hk
  | .loopo st jump tmps n params assign body d, ⟨g0, fn0, t0, g1, g2⟩, ⟨h0, fn, tmps', h1, h2⟩ =>
    rw [hag d g0] at h1
    exact ⟨g0, fn, tmps', h1, ⟨h2.1.1, h2.1.2.1, fun i => (g2.1.2.2 i).keepS (h2.1.2.2 i) hag⟩, h2.2⟩
  | .defd, _, hk => exact hk
end Go.Fs
namespace Go.Fs
variable {P : Program}
section
variable {step : Oper → (Operand → Value) → Heap → Option (Value × Heap)} {ops : Array Oper} {n : Nat}
inductive Did (step : Oper → (Operand → Value) → Heap → Option (Value × Heap)) (ops : Array Oper) (n : Nat) (X : Nat → AObj → Prop) (o : Oper) (i : Nat) (s s' : DSt) : Prop
  | skip (hw : fsWanted ops s.t o = some false) (hp : put n s.t o.dst undef = some s'.t) (hh : s'.h = s.h) (hs : s'.segs = s.segs) (hm : s'.mem = s.mem) (ht : s'.tail = s.tail)
  | calm (hw : fsWanted ops s.t o = some true) (hc : calm o.op = true) (v : Value) (h' : Heap) (hst : step o (evalO s.t) { next := s.h.next, low := s.h.next, objs := [] } = some (v, h')) (hn : h'.next = s.h.next)
      (hp : put n s.t o.dst v = some s'.t) (hh : s'.h = s.h) (hs : s'.segs = s.segs) (hm : s'.mem = s.mem) (ht : s'.tail = s.tail)
  | still (hw : fsWanted ops s.t o = some true) (v : Value) (objs : List (Nat × AObj)) (hX : ∀ b ob, look objs b = some ob → X b ob)
      (hst : step o (evalO s.t) { next := s.h.next, low := s.h.next, objs := objs } = some (v, { next := s.h.next, low := s.h.next, objs := objs }))
      (hp : put n s.t o.dst v = some s'.t) (hh : s'.h = s.h) (hs : s'.segs = s.segs) (hm : s'.mem = s.mem) (ht : s'.tail = s.tail)
  | mem (hw : fsWanted ops s.t o = some true) (hc : Fs.calm o.op = false) (v : Value) (h' : Heap) (ord : Bool) (ho : ord = Nat.beq (s.mem &&& beforeOf s.bs o) s.mem) (htail : s.tail = true → ord = true)
      (hst : step o (evalO s.t) { next := s.h.next, low := s.h.next, objs := bif ord then s.h.objs else mask (beforeOf s.bs o) s.segs s.h.objs } = some (v, h')) (hn : s.h.next ≤ h'.next)
      (hp : put n s.t o.dst v = some s'.t) (hm : s'.mem = s.mem ||| 2 ^ i) (hs : s'.segs = (i, s.h.next, h'.next) :: s.segs) (hnx : s'.h.next = h'.next)
      (hk : (s.h.next ≤ h'.low ∧ s'.h.low = s.h.low ∧ s'.h.objs = newer s.h.next h'.next h'.objs ++ s.h.objs ∧ s'.tail = s.tail) ∨ (ord = true ∧ s'.h.low = min s.h.low h'.low ∧ s'.h.objs = h'.objs ∧ s'.tail = true))
theorem did_of {X : Nat → AObj → Prop} {o : Oper} {i : Nat} {s s' : DSt} (hf : fsDraw step ops n o i s = some s') : s'.bs = s.bs ++ [beforeOf s.bs o] ∧ Did step ops n X o i s s' := by
  unfold fsDraw at hf; simp only at hf; split at hf
  · rename_i hw; obtain ⟨t, h1, h2⟩ := Option.map_eq_some_iff.1 hf; subst h2; exact ⟨rfl, .skip hw h1 rfl rfl rfl rfl⟩
  · cases hf
  rename_i hw; split at hf
  · rename_i hc; split at hf
    · rename_i v h' hst; obtain ⟨h3, h4⟩ := bif_some hf; obtain ⟨t, h1, h2⟩ := Option.map_eq_some_iff.1 h4; subst h2; exact ⟨rfl, .calm hw hc v h' hst (nbeq h3) h1 rfl rfl rfl rfl⟩
    cases hf
  rename_i hc
  have hc : calm o.op = false := by simpa using hc
  generalize hord : Nat.beq (s.mem &&& beforeOf s.bs o) s.mem = ord at hf
  cases htl : (s.tail && !ord) with
  | true => rw [htl] at hf; cases hf
  | false =>
    rw [htl] at hf; simp only [cond_false] at hf
    have htail : s.tail = true → ord = true := fun h => by rw [h] at htl; simpa using htl
    split at hf
    · rename_i v h' hst
      cases hlt : Nat.blt h'.next s.h.next with
      | true => rw [hlt] at hf; cases hf
      | false =>
        rw [hlt] at hf; simp only [cond_false] at hf
        have hn : s.h.next ≤ h'.next := by have := nble_no hlt; omega
        split at hf
        · rename_i t hp
          cases hlow : Nat.ble s.h.next h'.low with
          | true =>
            rw [hlow] at hf; simp only [cond_true, Option.some.injEq] at hf; subst hf
            exact ⟨rfl, .mem hw hc v h' ord hord.symm htail hst hn hp rfl rfl rfl (.inl ⟨nble hlow, rfl, rfl, rfl⟩)⟩
          | false =>
            rw [hlow] at hf; simp only [cond_false] at hf; obtain ⟨h5, h6⟩ := bif_some hf; simp only [Option.some.injEq] at h6; subst h6; exact ⟨rfl, .mem hw hc v h' ord hord.symm htail hst hn hp rfl rfl rfl (.inr ⟨h5, rfl, rfl, rfl⟩)⟩
        cases hf
    cases hf
theorem drawn_trace : ∀ (l : List Oper) (i : Nat) (s s' : DSt), fsDrawn step ops n l i s = some s' → ∃ st : Nat → DSt, st i = s ∧ st (i + l.length) = s' ∧
    ∀ j o, l[j]? = some o → fsDraw step ops n o (i + j) (st (i + j)) = some (st (i + j + 1))
  | [], i, s, s', h => by
    simp only [fsDrawn, Option.some.injEq] at h; subst h
    exact ⟨fun _ => s, rfl, rfl, fun j o hj => by simp at hj⟩
  | o :: l, i, s, s', h => by
    simp only [fsDrawn] at h; split at h
    · rename_i s1 hs1; obtain ⟨st, h1, h2, h3⟩ := drawn_trace l (i + 1) s1 s' h; refine ⟨fun k => if k = i then s else st k, by simp, ?_, fun j o' hj => ?_⟩
      · simp only [List.length_cons]; rw [if_neg (by omega), ← h2]; congr 1; omega
      cases j with
      | zero =>
        simp at hj; subst hj
        simp [h1, hs1]
      | succ j =>
        simp only [List.getElem?_cons_succ] at hj; have := h3 j o' hj; rw [show i + 1 + j = i + (j + 1) by omega] at this; simp only; rw [if_neg (by omega), if_neg (by omega)]; exact this
    cases h
structure Trace (step : Oper → (Operand → Value) → Heap → Option (Value × Heap)) (ops : Array Oper) (n : Nat) (st : Nat → DSt) (t0 : Tr) (h0 : Heap) : Prop where
  zero : st 0 = ⟨t0, h0, [], [], 0, false⟩
  did : ∀ i o, ops[i]? = some o → (st (i + 1)).bs = (st i).bs ++ [beforeOf (st i).bs o] ∧ Did step ops n (fun b ob => h0.get b = some ob ∧ b < h0.next ∧ (b < (st ops.size).h.low ∨ ∀ q, q ≤ ops.size → (st q).h.get b = some ob)) o i (st i) (st (i + 1))
variable {st : Nat → DSt} {t0 : Tr} {h0 : Heap}
theorem trace_of {s : DSt} (h : fsDrawn step ops n ops.toList 0 ⟨t0, h0, [], [], 0, false⟩ = some s) : ∃ st, Trace step ops n st t0 h0 ∧ st ops.size = s := by
  obtain ⟨st, h1, h2, h3⟩ := drawn_trace _ _ _ _ h; refine ⟨st, ⟨h1, fun i o ho => ?_⟩, by simpa using h2⟩; have := h3 i o (by simpa using ho); simp only [Nat.zero_add] at this; exact did_of this
def stillO (P : Program) (h0 : Heap) (ops : Array Oper) (n : Nat) (o : Oper) (s : DSt) : Option (DSt × Nat) :=
  match fsWanted ops s.t o, o.op with
  | some true, .load T a =>
    match evalO s.t a with
    | .pointer (some p) =>
      match h0.get p.block with
      | some ob =>
        bif Nat.blt p.block h0.next then
          match fsLoad P T (evalO s.t a) { next := s.h.next, low := s.h.next, objs := [(p.block, ob)] } with
          | some v => (put n s.t o.dst v).map fun t => ({ s with t, bs := s.bs ++ [beforeOf s.bs o] }, p.block + 1)
          | none => none
        else none
      | none => none
    | _ => none
  | _, _ => none
def fsDrawnX (P : Program) (h0 : Heap) (step : Oper → (Operand → Value) → Heap → Option (Value × Heap)) (ops : Array Oper) (n : Nat) : List Oper → Nat → DSt → Nat → Option (DSt × Nat)
  | [], _, s, lim => some (s, lim)
  | o :: r, i, s, lim => match fsDraw step ops n o i s with
    | some s' => fsDrawnX P h0 step ops n r (i + 1) s' lim
    | none => match stillO P h0 ops n o s with
      | some (s', b) => fsDrawnX P h0 step ops n r (i + 1) s' (max lim b)
      | none => none
def drawnX (P : Program) (h0 : Heap) (step : Oper → (Operand → Value) → Heap → Option (Value × Heap)) (ops : Array Oper) (n : Nat) (s : DSt) : Option DSt :=
  match fsDrawnX P h0 step ops n ops.toList 0 s 0 with
  | some (s', lim) => bif Nat.ble lim s'.h.low then some s' else none
  | none => none
theorem still_of {call : FuncId → List Value → Heap → Option (Value × Heap)} {yield : Nat → List Value → Heap → Option (Value × Heap)} {X : Nat → AObj → Prop} {o : Oper} {i b : Nat} {s s' : DSt}
    (hf : stillO P h0 ops n o s = some (s', b)) (hX : ∀ c ob, h0.get c = some ob → c < h0.next → c + 1 = b → X c ob) :
    s'.bs = s.bs ++ [beforeOf s.bs o] ∧ Did (fsOp P call yield) ops n X o i s s' := by
  unfold stillO at hf; split at hf
  · rename_i T a hw hop; split at hf
    · rename_i p hev; split at hf
      · rename_i ob hg; obtain ⟨h1, h2⟩ := bif_some hf; split at h2
        · rename_i v hv; obtain ⟨t, h3, h4⟩ := Option.map_eq_some_iff.1 h2; simp only [Prod.mk.injEq] at h4; obtain ⟨h4, h5⟩ := h4; subst h4; refine ⟨rfl, .still hw v [(p.block, ob)] (fun c oc hc => ?_) ?_ h3 rfl rfl rfl rfl⟩
          · simp only [look] at hc
            cases hbc : Nat.beq p.block c with
            | true =>
              rw [hbc] at hc; simp only [cond_true, Option.some.injEq] at hc; obtain rfl := nbeq hbc; subst hc
              exact hX _ _ hg (nblt h1) h5
            | false => rw [hbc] at hc; cases hc
          unfold fsOp; rw [hop]; simp only [hv, Option.map_some]
        cases h2
      cases hf
    cases hf
  cases hf
theorem drawnX_trace {call : FuncId → List Value → Heap → Option (Value × Heap)} {yield : Nat → List Value → Heap → Option (Value × Heap)} : ∀ (l : List Oper) (i : Nat) (s s' : DSt) (lim lim' : Nat), fsDrawnX P h0 (fsOp P call yield) ops n l i s lim = some (s', lim') →
    lim ≤ lim' ∧ ∃ st : Nat → DSt, st i = s ∧ st (i + l.length) = s' ∧
    ∀ j o, l[j]? = some o → ∀ X : Nat → AObj → Prop, (∀ c ob, h0.get c = some ob → c < h0.next → c < lim' → X c ob) → (st (i + j + 1)).bs = (st (i + j)).bs ++ [beforeOf (st (i + j)).bs o] ∧ Did (fsOp P call yield) ops n X o (i + j) (st (i + j)) (st (i + j + 1))
  | [], i, s, s', lim, lim', h => by
    simp only [fsDrawnX, Option.some.injEq, Prod.mk.injEq] at h; obtain ⟨h, h'⟩ := h; subst h h'
    exact ⟨Nat.le_refl _, fun _ => s, rfl, rfl, fun j o hj => by simp at hj⟩
  | o :: l, i, s, s', lim, lim', h => by
    simp only [fsDrawnX] at h
    have key : ∀ s1 lim1, lim ≤ lim1 → fsDrawnX P h0 (fsOp P call yield) ops n l (i + 1) s1 lim1 = some (s', lim') →
        (∀ X : Nat → AObj → Prop, (∀ c ob, h0.get c = some ob → c < h0.next → c < lim' → X c ob) → s1.bs = s.bs ++ [beforeOf s.bs o] ∧ Did (fsOp P call yield) ops n X o i s s1) →
      lim ≤ lim' ∧ ∃ st : Nat → DSt, st i = s ∧ st (i + (o :: l).length) = s' ∧
        ∀ j o', (o :: l)[j]? = some o' → ∀ X : Nat → AObj → Prop, (∀ c ob, h0.get c = some ob → c < h0.next → c < lim' → X c ob) → (st (i + j + 1)).bs = (st (i + j)).bs ++ [beforeOf (st (i + j)).bs o'] ∧ Did (fsOp P call yield) ops n X o' (i + j) (st (i + j)) (st (i + j + 1)) := fun s1 lim1 hl hr hd => by
      obtain ⟨hle, st, h1, h2, h3⟩ := drawnX_trace l (i + 1) s1 s' lim1 lim' hr; refine ⟨Nat.le_trans hl hle, fun k => if k = i then s else st k, by simp, ?_, fun j o' hj X hX => ?_⟩
      · simp only [List.length_cons]; rw [if_neg (by omega), ← h2]; congr 1; omega
      cases j with
      | zero =>
        simp at hj; subst hj
        simpa [h1] using hd X hX
      | succ j =>
        simp only [List.getElem?_cons_succ] at hj; have := h3 j o' hj X hX; rw [show i + 1 + j = i + (j + 1) by omega] at this; simp only; rw [if_neg (by omega), if_neg (by omega)]; exact this
    split at h
    · rename_i s1 hs1; exact key s1 lim (Nat.le_refl _) h fun X _ => did_of hs1
    split at h
    · rename_i s1 b hs1; refine key s1 _ (Nat.le_max_left _ _) h fun X hX => still_of hs1 fun c ob hc hc2 hc3 => hX c ob hc hc2 ?_; have := (drawnX_trace l (i + 1) s1 s' _ lim' h).1; have := Nat.le_max_right lim b; omega
    cases h
theorem traceX_of {call : FuncId → List Value → Heap → Option (Value × Heap)} {yield : Nat → List Value → Heap → Option (Value × Heap)} {s : DSt} (h : drawnX P h0 (fsOp P call yield) ops n ⟨t0, h0, [], [], 0, false⟩ = some s) : ∃ st, Trace (fsOp P call yield) ops n st t0 h0 ∧ st ops.size = s := by
  unfold drawnX at h; split at h
  · rename_i s' lim hr; obtain ⟨hl, h⟩ := bif_some h; simp only [Option.some.injEq] at h; subst h; obtain ⟨_, st, h1, h2, h3⟩ := drawnX_trace _ _ _ _ _ _ hr
    have h2' : st ops.size = s' := by simpa using h2
    refine ⟨st, ⟨h1, fun i o ho => ?_⟩, h2'⟩; have := h3 i o (by simpa using ho) (fun b ob => h0.get b = some ob ∧ b < h0.next ∧ (b < (st ops.size).h.low ∨ ∀ q, q ≤ ops.size → (st q).h.get b = some ob)) (fun c ob hc hc2 hc3 => ⟨hc, hc2, .inl (by rw [h2']; exact Nat.lt_of_lt_of_le hc3 (nble hl))⟩); simpa only [Nat.zero_add] using this
  cases h
def bfo (st : Nat → DSt) (ops : Array Oper) (k : Nat) : Nat := match ops[k]? with
  | some o => beforeOf (st k).bs o
  | none => 0
theorem Trace.bs (T : Trace step ops n st t0 h0) : ∀ i, i ≤ ops.size → (st i).bs.length = i ∧ ∀ k, k < i → (st i).bs.getD k 0 = bfo st ops k
  | 0, _ => ⟨by rw [T.zero]; rfl, fun k hk => by omega⟩
  | i + 1, hi => by
    obtain ⟨h1, h2⟩ := Trace.bs T i (by omega); have ho : ops[i]? = some ops[i] := Array.getElem?_eq_getElem (by omega); have h3 := (T.did i _ ho).1; refine ⟨by rw [h3]; simp [h1], fun k hk => ?_⟩; rw [h3, List.getD_eq_getElem?_getD]; by_cases hki : k < i
    · rw [List.getElem?_append_left (by omega)]; have := h2 k hki
      rwa [List.getD_eq_getElem?_getD] at this
    have : k = i := by omega
    subst this; rw [List.getElem?_append_right (by omega), h1, Nat.sub_self]; simp [bfo, ho]
theorem before_bits (bs : List Nat) (m : Nat) : ∀ (es : List Edge) (s : Nat),
    (es.foldl (fun s e => if Region.binds .any e then s ||| 2 ^ e.on ||| bs.getD e.on 0 else s) s).testBit m = true ↔ s.testBit m = true ∨ ∃ e ∈ es, Region.binds .any e = true ∧ (e.on = m ∨ (bs.getD e.on 0).testBit m = true)
  | [], s => by simp
  | e :: es, s => by
    rw [List.foldl_cons, before_bits bs m es]
    cases hb : Region.binds .any e with
    | false => simp [hb]
    | true =>
      simp only [if_true, Nat.testBit_or, Bool.or_eq_true, Nat.testBit_two_pow, decide_eq_true_eq, List.mem_cons, exists_eq_or_imp, hb, true_and]; constructor
      · rintro (((h | h) | h) | h)
        · exact .inl h
        · exact .inr (.inl (.inl h))
        · exact .inr (.inl (.inr h))
        exact .inr (.inr h)
      rintro (h | (h | h) | h)
      · exact .inl (.inl (.inl h))
      · exact .inl (.inl (.inr h))
      · exact .inl (.inr h)
      exact .inr h
theorem Trace.bf_iff (T : Trace step ops n st t0 h0) (hed : EdgesOk ops) {k : Nat} {o : Oper} (ho : ops[k]? = some o) (m : Nat) : (bfo st ops k).testBit m = true ↔ ∃ e ∈ o.after.toList, Region.binds .any e = true ∧ (e.on = m ∨ (bfo st ops e.on).testBit m = true) := by
  have hk : k < ops.size := (Array.getElem?_eq_some_iff.1 ho).1
  have h1 : bfo st ops k = beforeOf (st k).bs o := by simp [bfo, ho]
  rw [h1]; unfold beforeOf; rw [before_bits]; simp only [Nat.zero_testBit, Bool.false_eq_true, false_or]; constructor
  · rintro ⟨e, he, hb, h⟩; rw [(T.bs k (by omega)).2 e.on (hed k o ho e he hb)] at h; exact ⟨e, he, hb, h⟩
  rintro ⟨e, he, hb, h⟩; rw [← (T.bs k (by omega)).2 e.on (hed k o ho e he hb)] at h; exact ⟨e, he, hb, h⟩
theorem Trace.bf_lt (T : Trace step ops n st t0 h0) (hed : EdgesOk ops) : ∀ (k m : Nat), (bfo st ops k).testBit m = true → m < k := fun k => by
  induction k using Nat.strongRecOn with
  | ind k ih =>
    intro m hm
    cases ho : ops[k]? with
    | none => simp [bfo, ho] at hm
    | some o =>
      obtain ⟨e, he, hb, h⟩ := (T.bf_iff hed ho m).1 hm; have h1 := hed k o ho e he hb; rcases h with h | h
      · omega
      have := ih e.on h1 m h; omega
theorem Trace.bf_trans (T : Trace step ops n st t0 h0) (hed : EdgesOk ops) : ∀ (k m l : Nat), (bfo st ops k).testBit m = true → (bfo st ops m).testBit l = true → (bfo st ops k).testBit l = true := fun k => by
  induction k using Nat.strongRecOn with
  | ind k ih =>
    intro m l hm hl
    cases ho : ops[k]? with
    | none => simp [bfo, ho] at hm
    | some o =>
      obtain ⟨e, he, hb, h⟩ := (T.bf_iff hed ho m).1 hm; have h1 := hed k o ho e he hb; rcases h with h | h
      · subst h; exact (T.bf_iff hed ho l).2 ⟨e, he, hb, .inr hl⟩
      exact (T.bf_iff hed ho l).2 ⟨e, he, hb, .inr (ih e.on h1 m l h hl)⟩
theorem Trace.bf_done (T : Trace step ops n st t0 h0) (hed : EdgesOk ops) {E : Nat → Bool} (hE : ∀ k, E k = true → ∀ m, (bfo st ops k).testBit m = true → E m = true) {k : Nat} {o : Oper} (ho : ops[k]? = some o)
    (he : ∀ e ∈ o.after.toList, Region.binds .any e = true → E e.on = true) (m : Nat) (hm : (bfo st ops k).testBit m = true) : E m = true := by
  obtain ⟨e, h1, h2, h3⟩ := (T.bf_iff hed ho m).1 hm; rcases h3 with h3 | h3
  · subst h3; exact he e h1 h2
  exact hE e.on (he e h1 h2) m h3
def isMem (st : Nat → DSt) (ops : Array Oper) (k : Nat) : Prop := k < ops.size ∧ (st (k + 1)).segs.length ≠ (st k).segs.length
theorem Trace.mem_or (T : Trace step ops n st t0 h0) (i : Nat) (o : Oper) (ho : ops[i]? = some o) : (isMem st ops i ∧ (st (i + 1)).mem = (st i).mem ||| 2 ^ i ∧ (st (i + 1)).segs = (i, (st i).h.next, (st (i + 1)).h.next) :: (st i).segs ∧ (st i).h.next ≤ (st (i + 1)).h.next) ∨
    (¬ isMem st ops i ∧ (st (i + 1)).mem = (st i).mem ∧ (st (i + 1)).segs = (st i).segs ∧ (st (i + 1)).h = (st i).h ∧ (st (i + 1)).tail = (st i).tail) := by
  have hi : i < ops.size := (Array.getElem?_eq_some_iff.1 ho).1
  cases (T.did i o ho).2 with
  | skip hw hp hh hs hm ht => exact .inr ⟨fun h => h.2 (by rw [hs]), hm, hs, hh, ht⟩
  | calm hw hc v h' hst hn hp hh hs hm ht => exact .inr ⟨fun h => h.2 (by rw [hs]), hm, hs, hh, ht⟩
  | still hw v objs hX hst hp hh hs hm ht => exact .inr ⟨fun h => h.2 (by rw [hs]), hm, hs, hh, ht⟩
  | mem hw hc v h' ord ho' htail hst hn hp hm hs hnx hk =>
    exact .inl ⟨⟨hi, by rw [hs]; simp⟩, hm, by rw [hnx]; exact hs, by rw [hnx]; exact hn⟩
theorem Trace.next1 (T : Trace step ops n st t0 h0) (i : Nat) (hi : i < ops.size) : (st i).h.next ≤ (st (i + 1)).h.next := by
  rcases T.mem_or i _ (Array.getElem?_eq_getElem hi) with ⟨_, _, _, h⟩ | ⟨_, _, _, h, _⟩
  · exact h
  rw [h]; exact Nat.le_refl _
theorem Trace.next (T : Trace step ops n st t0 h0) (i j : Nat) (hij : i ≤ j) (hj : j ≤ ops.size) : (st i).h.next ≤ (st j).h.next := by
  induction j with
  | zero =>
    have : i = 0 := by omega
    subst this; exact Nat.le_refl _
  | succ j ih =>
    by_cases h : i = j + 1
    · subst h; exact Nat.le_refl _
    exact Nat.le_trans (ih (by omega) (by omega)) (T.next1 j (by omega))
theorem Trace.low1 (T : Trace step ops n st t0 h0) (i : Nat) (hi : i < ops.size) : (st (i + 1)).h.low ≤ (st i).h.low := by
  have ho : ops[i]? = some ops[i] := Array.getElem?_eq_getElem hi
  cases (T.did i _ ho).2 with
  | skip hw hp hh hs hm ht => rw [hh]; exact Nat.le_refl _
  | calm hw hc v h' hst hn hp hh hs hm ht => rw [hh]; exact Nat.le_refl _
  | still hw v objs hX hst hp hh hs hm ht => rw [hh]; exact Nat.le_refl _
  | mem hw hc v h' ord ho' htail hst hn hp hm hs hnx hk =>
    rcases hk with ⟨_, h1, _⟩ | ⟨_, h1, _⟩
    · rw [h1]; exact Nat.le_refl _
    rw [h1]; exact Nat.min_le_left _ _
theorem Trace.low (T : Trace step ops n st t0 h0) (i j : Nat) (hij : i ≤ j) (hj : j ≤ ops.size) : (st j).h.low ≤ (st i).h.low := by
  induction j with
  | zero =>
    have : i = 0 := by omega
    subst this; exact Nat.le_refl _
  | succ j ih =>
    by_cases h : i = j + 1
    · subst h; exact Nat.le_refl _
    exact Nat.le_trans (T.low1 j (by omega)) (ih (by omega) (by omega))
theorem Trace.tail1 (T : Trace step ops n st t0 h0) (i : Nat) (hi : i < ops.size) (h : (st i).tail = true) : (st (i + 1)).tail = true := by
  have ho : ops[i]? = some ops[i] := Array.getElem?_eq_getElem hi
  cases (T.did i _ ho).2 with
  | skip hw hp hh hs hm ht => rw [ht]; exact h
  | calm hw hc v h' hst hn hp hh hs hm ht => rw [ht]; exact h
  | still hw v objs hX hst hp hh hs hm ht => rw [ht]; exact h
  | mem hw hc v h' ord ho' htail hst hn hp hm hs hnx hk =>
    rcases hk with ⟨_, _, _, h1⟩ | ⟨_, _, _, h1⟩
    · rw [h1]; exact h
    exact h1
theorem Trace.tail (T : Trace step ops n st t0 h0) (i j : Nat) (hij : i ≤ j) (hj : j ≤ ops.size) (h : (st i).tail = true) : (st j).tail = true := by
  induction j with
  | zero =>
    have : i = 0 := by omega
    subst this; exact h
  | succ j ih =>
    by_cases h' : i = j + 1
    · subst h'; exact h
    exact T.tail1 j (by omega) (ih (by omega) (by omega))
theorem Trace.tail_from (T : Trace step ops n st t0 h0) : ∀ i, i ≤ ops.size → (st i).tail = true → ∃ k, k < i ∧ isMem st ops k ∧ (st (k + 1)).tail = true
  | 0, _, h => by rw [T.zero] at h; cases h
  | i + 1, hi, h => by
    have ho : ops[i]? = some ops[i] := Array.getElem?_eq_getElem (by omega); rcases T.mem_or i _ ho with ⟨h1, _⟩ | ⟨_, _, _, _, h1⟩
    · exact ⟨i, by omega, h1, h⟩
    rw [h1] at h; obtain ⟨k, h2, h3⟩ := Trace.tail_from T i (by omega) h; exact ⟨k, by omega, h3⟩
theorem Trace.mem_bits (T : Trace step ops n st t0 h0) : ∀ i, i ≤ ops.size → ∀ k, (st i).mem.testBit k = true ↔ k < i ∧ isMem st ops k
  | 0, _, k => by rw [T.zero]; simp
  | i + 1, hi, k => by
    have ih := Trace.mem_bits T i (by omega) k; have ho : ops[i]? = some ops[i] := Array.getElem?_eq_getElem (by omega); rcases T.mem_or i _ ho with ⟨h1, h2, _⟩ | ⟨h1, h2, _⟩
    · rw [h2, Nat.testBit_or, Bool.or_eq_true, ih, Nat.testBit_two_pow, decide_eq_true_eq]; constructor
      · rintro (⟨h3, h4⟩ | rfl)
        · exact ⟨by omega, h4⟩
        exact ⟨by omega, h1⟩
      rintro ⟨h3, h4⟩; by_cases hk : k = i
      · exact .inr hk.symm
      exact .inl ⟨by omega, h4⟩
    rw [h2, ih]; constructor
    · rintro ⟨h3, h4⟩; exact ⟨by omega, h4⟩
    rintro ⟨h3, h4⟩; refine ⟨?_, h4⟩; by_cases hk : k = i
    · subst hk; exact absurd h4 h1
    omega
theorem Trace.segs_mem (T : Trace step ops n st t0 h0) : ∀ i, i ≤ ops.size → ∀ k, k < i → isMem st ops k → (k, (st k).h.next, (st (k + 1)).h.next) ∈ (st i).segs
  | 0, _, k, hk, _ => by omega
  | i + 1, hi, k, hk, hm => by
    have ho : ops[i]? = some ops[i] := Array.getElem?_eq_getElem (by omega); rcases T.mem_or i _ ho with ⟨h1, _, h2, _⟩ | ⟨h1, _, h2, _⟩
    · rw [h2]; by_cases hki : k = i
      · subst hki; exact List.mem_cons_self
      exact List.mem_cons_of_mem _ (Trace.segs_mem T i (by omega) k (by omega) hm)
    rw [h2]; by_cases hki : k = i
    · subst hki; exact absurd hm h1
    exact Trace.segs_mem T i (by omega) k (by omega) hm
def seg (st : Nat → DSt) (k b : Nat) : Prop := (st k).h.next ≤ b ∧ b < (st (k + 1)).h.next
theorem Trace.cover (T : Trace step ops n st t0 h0) : ∀ i, i ≤ ops.size → ∀ b, h0.next ≤ b → b < (st i).h.next → ∃ k, k < i ∧ seg st k b
  | 0, _, b, h1, h2 => by rw [T.zero] at h2; exact absurd h2 (by simp; omega)
  | i + 1, hi, b, h1, h2 => by
    by_cases h : b < (st i).h.next
    · obtain ⟨k, hk, hs⟩ := Trace.cover T i (by omega) b h1 h; exact ⟨k, by omega, hs⟩
    exact ⟨i, by omega, by unfold seg; omega⟩
theorem Trace.seg_mem (T : Trace step ops n st t0 h0) {k b : Nat} (hk : k < ops.size) (hs : seg st k b) : isMem st ops k := by
  rcases T.mem_or k _ (Array.getElem?_eq_getElem hk) with ⟨h1, _⟩ | ⟨_, _, _, h1, _⟩
  · exact h1
  unfold seg at hs; rw [h1] at hs; omega
theorem Trace.seg_one (T : Trace step ops n st t0 h0) {k m b : Nat} (hk : k < ops.size) (hm : m < ops.size) (h1 : seg st k b) (h2 : seg st m b) : k = m := by
  unfold seg at h1 h2; rcases Nat.lt_trichotomy k m with h | h | h
  · have := T.next (k + 1) m h (by omega); omega
  · exact h
  have := T.next (m + 1) k h (by omega); omega
theorem Trace.seg_ge (T : Trace step ops n st t0 h0) {k b : Nat} (hk : k < ops.size) (h1 : seg st k b) : h0.next ≤ b := by
  have := T.next 0 k (by omega) (by omega); rw [T.zero] at this; exact Nat.le_trans this h1.1
theorem look_append (a b : List (Nat × AObj)) (i : Nat) : look (a ++ b) i = (look a i).or (look b i) := by
  induction a with
  | nil => rfl
  | cons p a ih =>
    obtain ⟨k, o⟩ := p; cases hb : Nat.beq k i <;> simp [look, hb, ih]
theorem look_filter (p : Nat × AObj → Bool) (q : Nat → Bool) (hpq : ∀ k o, p (k, o) = q k) : ∀ (l : List (Nat × AObj)) (b : Nat) (o : AObj), look (l.filter p) b = some o → look l b = some o ∧ q b = true
  | [], b, o, h => by cases h
  | (k, o') :: r, b, o, h => by
    rw [List.filter_cons] at h
    cases hc : p (k, o') with
    | false =>
      rw [hc] at h; obtain ⟨h1, h2⟩ := look_filter p q hpq r b o h
      cases hb : Nat.beq k b with
      | true =>
        have := nbeq hb; subst this
        rw [← hpq k o', hc] at h2; cases h2
      | false => exact ⟨by simp [look, hb, h1], h2⟩
    | true =>
      rw [hc] at h; simp only [if_true, look] at h
      cases hb : Nat.beq k b with
      | true =>
        rw [hb] at h; have := nbeq hb; subst this
        exact ⟨by simp [look, hb]; simpa using h, by rw [← hpq k o', hc]⟩
      | false =>
        rw [hb] at h; obtain ⟨h1, h2⟩ := look_filter p q hpq r b o h; exact ⟨by simp [look, hb, h1], h2⟩
theorem newer_some {lo hi : Nat} (l : List (Nat × AObj)) (b : Nat) (o : AObj) (h : look (newer lo hi l) b = some o) : (lo ≤ b ∧ b < hi) ∧ look l b = some o := by
  unfold newer at h
  cases hb : Nat.beq lo hi with
  | true => rw [hb] at h; cases h
  | false =>
    rw [hb] at h; obtain ⟨h1, h2⟩ := look_filter (inside lo hi) (fun b => Nat.ble lo b && Nat.blt b hi) (fun _ _ => rfl) l b o h; obtain ⟨h3, h4⟩ := band h2; exact ⟨⟨nble h3, nblt h4⟩, h1⟩
theorem mask_some {bb : Nat} : ∀ (segs : List (Nat × Nat × Nat)) (l : List (Nat × AObj)) (b : Nat) (o : AObj), look (mask bb segs l) b = some o →
    look l b = some o ∧ ∀ k lo hi, (k, lo, hi) ∈ segs → lo ≤ b → b < hi → bb.testBit k = true
  | [], l, b, o, h => ⟨h, fun _ _ _ hm => by cases hm⟩
  | (k, lo, hi) :: segs, l, b, o, h => by
    simp only [mask] at h; obtain ⟨h1, h2⟩ := mask_some segs _ b o h
    cases hb : bb.testBit k with
    | true =>
      rw [hb] at h1; refine ⟨by simpa using h1, fun k' lo' hi' hm h3 h4 => ?_⟩; rcases List.mem_cons.1 hm with he | hm
      · simp only [Prod.mk.injEq] at he; rw [he.1]; exact hb
      exact h2 _ _ _ hm h3 h4
    | false =>
      rw [hb] at h1; simp only [Bool.false_eq_true, if_false] at h1; obtain ⟨h5, h6⟩ := look_filter (outside lo hi) (fun b => !(decide (lo ≤ b) && decide (b < hi))) (fun _ _ => rfl) l b o h1; refine ⟨h5, fun k' lo' hi' hm h3 h4 => ?_⟩; rcases List.mem_cons.1 hm with he | hm
      · simp only [Prod.mk.injEq] at he; obtain ⟨rfl, rfl, rfl⟩ := he; simp [h3, h4] at h6
      exact h2 _ _ _ hm h3 h4
theorem Trace.stable (T : Trace step ops n st t0 h0) (hh : ∀ b o, h0.get b = some o → b < h0.next) : ∀ i, i ≤ ops.size → (st i).tail = false →
    (∀ b, b < h0.next → (st i).h.get b = h0.get b) ∧ (∀ k, k < i → ∀ b, seg st k b → (st i).h.get b = (st (k + 1)).h.get b) ∧ ∀ b o, (st i).h.get b = some o → b < (st i).h.next
  | 0, _, _ => ⟨fun b _ => by rw [T.zero], fun k hk => by omega, fun b o h => by rw [T.zero] at h ⊢; exact hh b o h⟩
  | i + 1, hi, ht => by
    have ht0 : (st i).tail = false := by
      cases h : (st i).tail with
      | false => rfl
      | true => rw [T.tail1 i (by omega) h] at ht; cases ht
    obtain ⟨h1, h2, h3⟩ := Trace.stable T hh i (by omega) ht0; have ho : ops[i]? = some ops[i] := Array.getElem?_eq_getElem (by omega)
    have same : (st (i + 1)).h = (st i).h → _ := fun he => (⟨fun b hb => by rw [he]; exact h1 b hb, fun k hk b hs => by
        by_cases hki : k = i
        · subst hki; rfl
        · rw [he]; exact h2 k (by omega) b hs, fun b o hb => by rw [he] at hb ⊢; exact h3 b o hb⟩ :
        (∀ b, b < h0.next → (st (i + 1)).h.get b = h0.get b) ∧ (∀ k, k < i + 1 → ∀ b, seg st k b → (st (i + 1)).h.get b = (st (k + 1)).h.get b) ∧ ∀ b o, (st (i + 1)).h.get b = some o → b < (st (i + 1)).h.next)
    cases (T.did i _ ho).2 with
    | skip hw hp hh' hs hm ht => exact same hh'
    | calm hw hc v h' hst hn hp hh' hs hm ht => exact same hh'
    | still hw v objs hX hst hp hh' hs hm ht => exact same hh'
    | mem hw hc v h' ord ho' htail hst hn hp hm hs hnx hk =>
      rcases hk with ⟨hlow, _, hobjs, _⟩ | ⟨_, _, _, h⟩
      · have hget : ∀ b, (st (i + 1)).h.get b = (look (newer (st i).h.next h'.next h'.objs) b).or ((st i).h.get b) := fun b => by
          show look (st (i + 1)).h.objs b = _; rw [hobjs, look_append]; rfl
        have hold : ∀ b, b < (st i).h.next → (st (i + 1)).h.get b = (st i).h.get b := fun b hb => by
          rw [hget]
          cases hl : look (newer (st i).h.next h'.next h'.objs) b with
          | none => rfl
          | some o => have := (newer_some _ _ _ hl).1; omega
        have h0n := T.next 0 i (by omega) (by omega); rw [T.zero] at h0n; refine ⟨fun b hb => by rw [hold b (Nat.lt_of_lt_of_le hb h0n)]; exact h1 b hb, fun k hk b hs => ?_, fun b o hb => ?_⟩
        · by_cases hki : k = i
          · subst hki; rfl
          have hs2 := hs.2; have := T.next (k + 1) i (by omega) (by omega); rw [hold b (by omega)]; exact h2 k (by omega) b hs
        rw [hnx]; rw [hget] at hb
        cases hl : look (newer (st i).h.next h'.next h'.objs) b with
        | none => rw [hl] at hb; have := h3 b o hb; omega
        | some o => exact (newer_some _ _ _ hl).1.2
      rw [h] at ht; cases ht
end
end Go.Fs
namespace Go.Fs
open Go.RowKit (Below)
variable {P : Program}
def DstOk (ops : Array Oper) : Prop := ∀ (i j : Nat) (oi oj : Oper) (d : Tmp), ops[i]? = some oi → ops[j]? = some oj → oi.dst = some d → oj.dst = some d → i = j
def ReadsOk (st : Nat → DSt) (ops : Array Oper) : Prop := ∀ (i : Nat) (oi : Oper), ops[i]? = some oi → ∀ x ∈ oi.looksAt ops, ∀ (j : Nat) (oj : Oper), ops[j]? = some oj → oj.dst = some x →
  j = i ∨ (bfo st ops i).testBit j = true ∨ (bfo st ops j).testBit i = true
def idsOf (st : Nat → DSt) (ops : Array Oper) (S : Nat → Prop) (K : Nat → Prop) (b : Nat) : Prop := S b ∨ ∃ m, K m ∧ m < ops.size ∧ seg st m b
def cl (st : Nat → DSt) (ops : Array Oper) (S : Nat → Prop) (k : Nat) : Nat → Prop := idsOf st ops S fun m => m = k ∨ (bfo st ops k).testBit m = true
def SB (st : Nat → DSt) (ops : Array Oper) (S : Nat → Prop) (i : Nat) : Nat → Prop := idsOf st ops S fun m => (bfo st ops i).testBit m = true
def SE (st : Nat → DSt) (ops : Array Oper) (S : Nat → Prop) (E : Nat → Bool) : Nat → Prop := idsOf st ops S fun m => E m = true
theorem idsOf_mono {st : Nat → DSt} {ops : Array Oper} {S : Nat → Prop} {K K' : Nat → Prop} (h : ∀ m, K m → K' m) (b : Nat) (hb : idsOf st ops S K b) : idsOf st ops S K' b := by
  rcases hb with hb | ⟨m, h1, h2⟩
  · exact .inl hb
  exact .inr ⟨m, h m h1, h2⟩
theorem cl_SE {st : Nat → DSt} {ops : Array Oper} {S : Nat → Prop} {E : Nat → Bool} (hdown : ∀ k, E k = true → ∀ m, (bfo st ops k).testBit m = true → E m = true) {k : Nat} (hk : E k = true) (b : Nat)
    (hb : cl st ops S k b) : SE st ops S E b := by
  refine idsOf_mono (fun m hm => ?_) b hb; rcases hm with hm | hm
  · rw [hm]; exact hk
  exact hdown k hk m hm
theorem put_get {n : Nat} {t t' : Tr} {dst : Option Tmp} {v : Value} (hn : n ≤ 4000) (hp : put n t dst v = some t') (x : Nat) : t'.get x = if dst = some x then v else t.get x := by
  unfold put at hp
  cases dst with
  | none => simp only [Option.some.injEq] at hp; subst hp; simp
  | some d =>
    obtain ⟨h1, h2⟩ := bif_some hp; simp only [Option.some.injEq] at h2; subst h2; have h1 := nblt h1; rw [Tr.get_set depth t d v x (by have : 2 ^ depth = 8192 := rfl; omega)]; by_cases hx : x = d
    · subst hx; simp
    rw [if_neg hx, if_neg (by simp; exact fun h => hx h.symm)]
theorem put_lt {n : Nat} {t t' : Tr} {d : Tmp} {v : Value} (hp : put n t (some d) v = some t') : d < n := by
  unfold put at hp; exact nblt (bif_some hp).1
section
variable {step : Oper → (Operand → Value) → Heap → Option (Value × Heap)} {ops : Array Oper} {n : Nat} {st : Nat → DSt} {t0 : Tr} {h0 : Heap}
theorem Did.put {X : Nat → AObj → Prop} {o : Oper} {i : Nat} {s s' : DSt} (h : Did step ops n X o i s s') : ∃ v, Fs.put n s.t o.dst v = some s'.t := by
  cases h with
  | skip hw hp hh hs hm ht => exact ⟨_, hp⟩
  | calm hw hc v h' hst hn hp hh hs hm ht => exact ⟨_, hp⟩
  | still hw v objs hX hst hp hh hs hm ht => exact ⟨_, hp⟩
  | mem hw hc v h' ord ho' htail hst hn hp hm hs hnx hk => exact ⟨_, hp⟩
theorem Trace.get_old (T : Trace step ops n st t0 h0) (hn : n ≤ 4000) : ∀ i, i ≤ ops.size → ∀ x, (∀ j o, j < i → ops[j]? = some o → o.dst ≠ some x) → (st i).t.get x = t0.get x
  | 0, _, x, _ => by rw [T.zero]
  | i + 1, hi, x, hx => by
    have ho : ops[i]? = some ops[i] := Array.getElem?_eq_getElem (by omega); obtain ⟨v, hp⟩ := (T.did i _ ho).2.put; rw [put_get hn hp, if_neg (hx i _ (by omega) ho)]; exact Trace.get_old T hn i (by omega) x fun j o hj => hx j o (by omega)
theorem Trace.get_new (T : Trace step ops n st t0 h0) (hdst : DstOk ops) (hn : n ≤ 4000) : ∀ i, i ≤ ops.size → ∀ j o x, j < i → ops[j]? = some o → o.dst = some x → (st i).t.get x = (st (j + 1)).t.get x
  | 0, _, j, _, _, hj, _, _ => by omega
  | i + 1, hi, j, o, x, hj, ho, hx => by
    by_cases hji : j = i
    · subst hji; rfl
    have hoi : ops[i]? = some ops[i] := Array.getElem?_eq_getElem (by omega); obtain ⟨v, hp⟩ := (T.did i _ hoi).2.put; rw [put_get hn hp, if_neg fun h => hji (hdst j i o _ x ho hoi hx h)]; exact Trace.get_new T hdst hn i (by omega) j o x (by omega) ho hx
end
def TmpI (st : Nat → DSt) (ops : Array Oper) (n : Nat) (t0 : Tr) (S : Nat → Prop) (E : Nat → Bool) (ρ : Ren) (tmps : Array Value) : Prop :=
  tmps.size = n ∧ (∀ k o d, E k = true → ops[k]? = some o → o.dst = some d → VR ρ (cl st ops S k) ((st (k + 1)).t.get d) (tmps.toList.getD d undef)) ∧
  ∀ d, (∀ k o, E k = true → ops[k]? = some o → o.dst ≠ some d) → VR ρ S (t0.get d) (tmps.toList.getD d undef)
theorem tmps_put (a : Act) (dst : Option Tmp) (v : Value) (x : Nat) (hlt : ∀ d, dst = some d → d < a.tmps.size) : (a.put dst v).tmps.toList.getD x undef = if dst = some x then v else a.tmps.toList.getD x undef := by
  cases dst with
  | none => simp [Act.put]
  | some d =>
    have hd := hlt d rfl; simp only [Act.put, Array.toList_setIfInBounds, List.getD_eq_getElem?_getD, List.getElem?_set]; by_cases e : d = x
    · subst e; simp [hd]
    simp [e]
theorem size_put (a : Act) (dst : Option Tmp) (v : Value) : (a.put dst v).tmps.size = a.tmps.size := by
  cases dst <;> simp [Act.put]
section
variable {step : Oper → (Operand → Value) → Heap → Option (Value × Heap)} {ops : Array Oper} {n : Nat} {st : Nat → DSt} {t0 : Tr} {h0 : Heap}
variable {S : Nat → Prop} {E : Nat → Bool} {ρ ρ2 : Ren} {a : Act}
theorem TmpI.put (hdst : DstOk ops) (hn : n ≤ 4000) (hI : TmpI st ops n t0 S E ρ a.tmps) (hdown : ∀ k, E k = true → ∀ m, (bfo st ops k).testBit m = true → E m = true) (hag : ∀ b, SE st ops S E b → ρ2 b = ρ b)
    {i : Nat} {o : Oper} (ho : ops[i]? = some o) (hE : E i = false) {v v1 : Value} (hp : put n (st i).t o.dst v = some (st (i + 1)).t) (hv : VR ρ2 (cl st ops S i) v v1) :
    TmpI st ops n t0 S (fun j => E j || j == i) ρ2 (a.put o.dst v1).tmps := by
  obtain ⟨h1, h2, h3⟩ := hI
  have hlt : ∀ d, o.dst = some d → d < a.tmps.size := fun d hd => by rw [hd] at hp; rw [h1]; exact put_lt hp
  refine ⟨by rw [size_put, h1], fun k ok d hk hok hd => ?_, fun d hd => ?_⟩
  · rw [tmps_put a o.dst v1 d hlt]; by_cases hki : k = i
    · subst hki; rw [ho] at hok; injection hok with hok; subst hok; rw [if_pos hd, put_get hn hp, if_pos hd]; exact hv
    have hne : o.dst ≠ some d := fun h => hki (hdst k i ok o d hok ho hd h); rw [if_neg hne]
    have hEk : E k = true := by simpa [hki] using hk
    exact (h2 k ok d hEk hok hd).mono fun b hb => ⟨hb, hag b (cl_SE hdown hEk b hb)⟩
  have hne : o.dst ≠ some d := hd i o (by simp) ho; rw [tmps_put a o.dst v1 d hlt, if_neg hne]; exact (h3 d fun k ok hk hok => hd k ok (by simp [hk]) hok).mono fun b hb => ⟨hb, hag b (.inl hb)⟩
theorem TmpI.look (T : Trace step ops n st t0 h0) (hed : EdgesOk ops) (hdst : DstOk ops) (hn : n ≤ 4000) (hrd : ReadsOk st ops) (hI : TmpI st ops n t0 S E ρ a.tmps)
    (hdown : ∀ k, E k = true → ∀ m, (bfo st ops k).testBit m = true → E m = true)
    {i : Nat} {o : Oper} (ho : ops[i]? = some o) (hE : E i = false) (he : ∀ e ∈ o.after.toList, Region.binds .any e = true → E e.on = true) (x : Tmp) (hx : x ∈ o.looksAt ops) :
    VR ρ (SB st ops S i) ((st i).t.get x) (a.tmps.toList.getD x undef) := by
  obtain ⟨h1, h2, h3⟩ := hI; have hi : i < ops.size := (Array.getElem?_eq_some_iff.1 ho).1; by_cases hw : ∃ (j : Nat) (oj : Oper), ops[j]? = some oj ∧ oj.dst = some x
  · obtain ⟨j, oj, hj, hjx⟩ := hw
    have old : E j = false → i ≤ j → VR ρ (SB st ops S i) ((st i).t.get x) (a.tmps.toList.getD x undef) := fun hEj hij => by
      rw [T.get_old hn i (by omega) x fun k ok hk hok hkx => by have := hdst k j ok oj x hok hj hkx hjx; omega]; refine (h3 x fun k ok hk hok hkx => ?_).mono fun b hb => ⟨.inl hb, rfl⟩; have := hdst k j ok oj x hok hj hkx hjx; subst this; rw [hEj] at hk; cases hk
    rcases hrd i o ho x hx j oj hj hjx with hji | hb | hb
    · subst hji; exact old hE (Nat.le_refl _)
    · have hlt := T.bf_lt hed i j hb; have hEj := T.bf_done hed hdown ho he j hb; rw [T.get_new hdst hn i (by omega) j oj x hlt hj hjx]; refine (h2 j oj x hEj hj hjx).mono fun b hb' => ⟨idsOf_mono (fun m hm => ?_) b hb', rfl⟩; rcases hm with rfl | hm
      · exact hb
      exact T.bf_trans hed i j m hb hm
    have hlt := T.bf_lt hed j i hb; refine old ?_ (by omega)
    cases hEj : E j with
    | false => rfl
    | true => rw [hdown j hEj i hb] at hE; cases hE
  rw [T.get_old hn i (by omega) x fun k ok _ hok hkx => hw ⟨k, ok, hok, hkx⟩]; exact (h3 x fun k ok _ hok hkx => hw ⟨k, ok, hok, hkx⟩).mono fun b hb => ⟨.inl hb, rfl⟩
end
theorem eval_of_look {ρ : Ren} {S : Nat → Prop} {t : Tr} {a : Act} {ops : Array Oper} {o : Oper} (h : ∀ x ∈ o.looksAt ops, VR ρ S (t.get x) (a.tmps.toList.getD x undef)) :
    ∀ x ∈ o.op.operands.toList, VR ρ S (evalO t x) (a.eval x) := fun x hx => by
  cases x with
  | tmp i =>
    have := h i (by
      unfold Oper.looksAt
      refine List.mem_append_left _ (List.mem_filterMap.2 ⟨.tmp i, hx, rfl⟩))
    simpa [evalO, Act.eval, Array.getD_eq_getD_getElem?, List.getD_eq_getElem?_getD] using this
  | const v =>
    simp only [evalO, Act.eval]; by_cases hv : af v = true
    · rw [if_pos hv]; exact .of_af hv
    rw [if_neg hv]; exact .junk v
  | global g => exact .junk _
  | func f => exact .func f _ _ _ _ rfl (fun i h => absurd h (by simp)) rfl (fun i h => absurd h (by simp))
end Go.Fs
namespace Go.Fs
open Go.RowKit (Below)
variable {P : Program}
structure ModeA (P : Program) (st : Nat → DSt) (ops : Array Oper) (h0 : Heap) (S : Nat → Prop) (E : Nat → Bool) (ρ : Ren) (H : Heap) (w : World) : Prop where
  calm : ∀ k, E k = true → isMem st ops k → (st (k + 1)).tail = false
  base : ∀ b, b < h0.next → H.get b = h0.get b
  news : ∀ k, E k = true → k < ops.size → ∀ b, seg st k b → H.get b = (st (k + 1)).h.get b
  objB : ∀ b o, S b → H.get b = some o → ObjR P ρ S (ρ b) w o
  objN : ∀ k, E k = true → k < ops.size → ∀ b o, seg st k b → H.get b = some o → ObjR P ρ (cl st ops S k) (ρ b) w o
structure ModeB (st : Nat → DSt) (ops : Array Oper) (E : Nat → Bool) (H : Heap) (p : Nat) : Prop where
  le : p ≤ ops.size
  tail : (st p).tail = true
  get : ∀ b, H.get b = (st p).h.get b
  all : ∀ k, isMem st ops k → (E k = true ↔ k < p)
structure Inv (P : Program) (B : Nat) (w0 : World) (st : Nat → DSt) (ops : Array Oper) (n : Nat) (t0 : Tr) (h0 : Heap) (S : Nat → Prop) (ρ0 : Ren) (ws : World) (d0 : List Deferred)
    (E : Nat → Bool) (ρ : Ren) (H : Heap) (w : World) (a : Act) : Prop where
  moved : MovedS P B w0 ρ0 ρ S (SE st ops S E) h0 H (min (st ops.size).h.low h0.next) ws w
  mode : ModeA P st ops h0 S E ρ H w ∨ ∃ p, ModeB st ops E H p
  tmp : TmpI st ops n t0 S E ρ a.tmps
  defers : a.defers = d0
  next : H.next = (st ops.size).h.next
  down : ∀ k, E k = true → ∀ m, (bfo st ops k).testBit m = true → E m = true
section
variable {step : Oper → (Operand → Value) → Heap → Option (Value × Heap)} {ops : Array Oper} {n : Nat} {st : Nat → DSt} {t0 : Tr} {h0 : Heap}
variable {S : Nat → Prop} {E : Nat → Bool} {ρ0 ρ ρ1 ρ2 : Ren} {a : Act} {B : Nat} {w0 ws w w1 : World} {H H2 hm h1 : Heap} {d0 : List Deferred}
theorem ModeA.on {X : Nat → Prop} {b : Nat} {o : AObj} {S2 : Nat → Prop} (hX : ∀ b, X b → SE st ops S E b) (hob : ObjR P ρ X (ρ b) w o) (hag : ∀ b, SE st ops S E b → ρ2 b = ρ b) (hb : SE st ops S E b)
    (hr2 : ObjR P ρ2 S2 (ρ2 b) w1 o) : ObjR P ρ2 X (ρ2 b) w1 o := by
  rw [hag b hb] at hr2 ⊢; exact (hob.keepS hr2 fun b hb => hag b (hX b hb)).mono fun b hb => ⟨hb, hag b (hX b hb)⟩
theorem Trace.ids_lt (T : Trace step ops n st t0 h0) (h0ids : ∀ b, S b → b < h0.next) {K : Nat → Prop} {i : Nat} (hi : i ≤ ops.size) (hK : ∀ m, K m → m < i) (b : Nat) (hb : idsOf st ops S K b) : b < (st i).h.next := by
  rcases hb with hb | ⟨m, h1, h2, h3⟩
  · have := T.next 0 i (by omega) hi; rw [T.zero] at this; exact Nat.lt_of_lt_of_le (h0ids b hb) this
  have := hK m h1; have := T.next (m + 1) i (by omega) hi; exact Nat.lt_of_lt_of_le h3.2 this
theorem Trace.new_not (T : Trace step ops n st t0 h0) (h0ids : ∀ b, S b → b < h0.next) {i b : Nat} (hi : i < ops.size) (hE : E i = false) (hs : seg st i b) : ¬ SE st ops S E b := by
  rintro (hb | ⟨m, h1, h2, h3⟩)
  · have := T.seg_ge hi hs; have := h0ids b hb; omega
  have := T.seg_one hi h2 hs h3; subst this; rw [hE] at h1; cases h1
theorem Inv.quiet (I : Inv P B w0 st ops n t0 h0 S ρ0 ws d0 E ρ H w a) {i : Nat} {o : Oper} (ho : ops[i]? = some o) (hnm : ¬ isMem st ops i) (hh : (st (i + 1)).h = (st i).h)
    (hbf : ∀ m, (bfo st ops i).testBit m = true → E m = true)
    (hag : ∀ b, SE st ops S E b → ρ2 b = ρ b) (hm2 : MovedS P B w0 ρ ρ2 (SE st ops S E) (SE st ops S E) H H (min (st ops.size).h.low h0.next) w w1) {a' : Act}
    (htmp : TmpI st ops n t0 S (fun j => E j || j == i) ρ2 a'.tmps) (hd : a'.defers = a.defers) :
    Inv P B w0 st ops n t0 h0 S ρ0 ws d0 (fun j => E j || j == i) ρ2 H w1 a' := by
  have hi : i < ops.size := (Array.getElem?_eq_some_iff.1 ho).1
  have noseg : ∀ b, ¬ seg st i b := fun b hs => by unfold seg at hs; rw [hh] at hs; omega
  have hSE : ∀ b, SE st ops S E b ↔ SE st ops S (fun j => E j || j == i) b := fun b => by
    constructor
    · exact fun hb => idsOf_mono (fun m hm => by simp [hm]) b hb
    rintro (hb | ⟨m, h1, h2, h3⟩)
    · exact .inl hb
    by_cases hmi : m = i
    · subst hmi; exact absurd h3 (noseg b)
    exact .inr ⟨m, by simpa [hmi] using h1, h2, h3⟩
  have hSE' : SE st ops S E = SE st ops S (fun j => E j || j == i) := funext fun b => propext (hSE b); refine ⟨?_, ?_, htmp, hd.trans I.defers, I.next, ?_⟩
  · rw [← hSE']; exact I.moved.trans hm2
  · rcases I.mode with A | ⟨p, Bm⟩
    · refine .inl ⟨fun k hk hmk => ?_, A.base, fun k hk hks b hs => ?_, fun b o' hb hg => ?_, fun k hk hks b o' hs hg => ?_⟩
      · by_cases hki : k = i
        · subst hki; exact absurd hmk hnm
        exact A.calm k (by simpa [hki] using hk) hmk
      · by_cases hki : k = i
        · subst hki; exact absurd hs (noseg b)
        exact A.news k (by simpa [hki] using hk) hks b hs
      · exact ModeA.on (fun b hb => .inl hb) (A.objB b o' hb hg) hag (.inl hb) (hm2.hr.objs b o' hg).2
      by_cases hki : k = i
      · subst hki; exact absurd hs (noseg b)
      have hEk : E k = true := by simpa [hki] using hk
      exact ModeA.on (cl_SE I.down hEk) (A.objN k hEk hks b o' hs hg) hag (.inr ⟨k, hEk, hks, hs⟩) (hm2.hr.objs b o' hg).2
    refine .inr ⟨p, Bm.le, Bm.tail, Bm.get, fun k hmk => ?_⟩; have hki : k ≠ i := fun h => hnm (h ▸ hmk); rw [← Bm.all k hmk]; simp [hki]
  intro k hk m hm; by_cases hki : k = i
  · subst hki; simp [hbf m hm]
  simp [I.down k (by simpa [hki] using hk) m hm]
theorem Inv.memStep (T : Trace step ops n st t0 h0) (hed : EdgesOk ops) (h0ids : ∀ b, S b → b < h0.next) (h0S : ∀ b o, h0.get b = some o → S b) (hpos0 : 0 < h0.next) (I : Inv P B w0 st ops n t0 h0 S ρ0 ws d0 E ρ H w a) {i : Nat} {o : Oper} (ho : ops[i]? = some o) (hE : E i = false) (hmi : isMem st ops i)
    (hbf : ∀ m, (bfo st ops i).testBit m = true → E m = true) {ord : Bool} (hord : ord = Nat.beq ((st i).mem &&& beforeOf (st i).bs o) (st i).mem) (htail : (st i).tail = true → ord = true)
    {v : Value} {h' : Heap} (hnx : (st (i + 1)).h.next = h'.next) (hnn : (st i).h.next ≤ h'.next)
    (hk : ((st i).h.next ≤ h'.low ∧ (st (i + 1)).h.low = (st i).h.low ∧ (st (i + 1)).h.objs = newer (st i).h.next h'.next h'.objs ++ (st i).h.objs ∧ (st (i + 1)).tail = (st i).tail) ∨
      (ord = true ∧ (st (i + 1)).h.low = min (st i).h.low h'.low ∧ (st (i + 1)).h.objs = h'.objs ∧ (st (i + 1)).tail = true)) :
    let hm : Heap := { next := (st i).h.next, low := (st i).h.next, objs := bif ord then (st i).h.objs else mask (beforeOf (st i).bs o) (st i).segs (st i).h.objs }
    HR P ρ (SB st ops S i) B w0 hm w ∧ ∀ ρ1 w1 v1 a', Moved P B w0 ρ ρ1 (SB st ops S i) hm h' w w1 → VR ρ1 (Ext (SB st ops S i) hm h') v v1 → a'.defers = a.defers →
      (∀ ρ2, (∀ b, SE st ops S E b → ρ2 b = ρ b) → VR ρ2 (cl st ops S i) v v1 → TmpI st ops n t0 S (fun j => E j || j == i) ρ2 a'.tmps) →
      ∃ ρ2 H2, Inv P B w0 st ops n t0 h0 S ρ0 ws d0 (fun j => E j || j == i) ρ2 H2 w1 a' := by
  intro hm; have hi : i < ops.size := (Array.getElem?_eq_some_iff.1 ho).1
  have hbo : beforeOf (st i).bs o = bfo st ops i := by simp [bfo, ho]
  have hHR := I.moved.hr
  have h0n : h0.next ≤ (st i).h.next := by have := T.next 0 i (by omega) (by omega); rwa [T.zero] at this
  have hordbit : ord = true → ∀ k, k < i → isMem st ops k → (bfo st ops i).testBit k = true := fun h k hk hmk => by
    rw [hord] at h; have h1 := nbeq h; have h2 := (T.mem_bits i (by omega) k).2 ⟨hk, hmk⟩; rw [← h1, Nat.testBit_and, Bool.and_eq_true, hbo] at h2; exact h2.2
  -- those behind it that look at the heap have not come, if it turns something old
  have later : (st (i + 1)).tail = true → ∀ k, isMem st ops k → i < k → E k = true → False := fun ht k hmk hik hEk => by
    have hks : k < ops.size := hmk.1; have hko : ops[k]? = some ops[k] := Array.getElem?_eq_getElem hks; have htk := T.tail (i + 1) k (by omega) (by omega) ht
    cases (T.did k _ hko).2 with
    | skip hw hp hh hs hm ht => exact hmk.2 (by rw [hs])
    | calm hw hc v h' hst hn hp hh hs hm ht => exact hmk.2 (by rw [hs])
    | still hw v objs hX hst hp hh hs hm ht => exact hmk.2 (by rw [hs])
    | mem hw hc v h' ord' ho' htail' hst hn hp hm hs hnx hk =>
      have h4 := htail' htk; rw [ho'] at h4; have h5 := nbeq h4; have h6 := (T.mem_bits k (by omega) i).2 ⟨hik, hmi⟩; rw [← h5, Nat.testBit_and, Bool.and_eq_true] at h6
      have h7 : (bfo st ops k).testBit i = true := by simp only [bfo, hko]; exact h6.2
      rw [I.down k hEk i h7] at hE; cases hE
  have hsub1 : ∀ b, SB st ops S i b → SE st ops S E b := fun b hb => idsOf_mono hbf b hb; have hidsB : ∀ b, SB st ops S i b → b < (st i).h.next := T.ids_lt h0ids (by omega) (T.bf_lt hed i); have hnot : ∀ b, hm.next ≤ b → b < h'.next → ¬ SE st ops S E b := fun b h1 h2 => T.new_not h0ids hi hE ⟨h1, by rw [hnx]; exact h2⟩
  have hS2 : ∀ b, SE st ops S (fun j => E j || j == i) b ↔ SE st ops S E b ∨ (hm.next ≤ b ∧ b < h'.next) := fun b => by
    constructor
    · rintro (hb | ⟨m, h1, h2, h3⟩)
      · exact .inl (.inl hb)
      by_cases hmi' : m = i
      · subst hmi'; exact .inr ⟨h3.1, by rw [← hnx]; exact h3.2⟩
      exact .inl (.inr ⟨m, by simpa [hmi'] using h1, h2, h3⟩)
    rintro (hb | ⟨h1, h2⟩)
    · exact idsOf_mono (fun m hm => by simp [hm]) b hb
    exact .inr ⟨i, by simp, hi, h1, by rw [hnx]; exact h2⟩
  have hidsN : ∀ b, SE st ops S (fun j => E j || j == i) b → b < (st ops.size).h.next := fun b hb => by
    rcases hb with hb | ⟨m, h1, h2, h3⟩
    · have := T.next 0 ops.size (by omega) (by omega); rw [T.zero] at this; exact Nat.lt_of_lt_of_le (h0ids b hb) this
    have := T.next (m + 1) ops.size (by omega) (by omega); exact Nat.lt_of_lt_of_le h3.2 this
  have hposN : 0 < (st ops.size).h.next := by have := hHR.pos; rwa [I.next] at this
  have hdown' : ∀ k, (fun j => E j || j == i) k = true → ∀ m, (bfo st ops k).testBit m = true → (fun j => E j || j == i) m = true := fun k hk' m hm' => by
    by_cases hki : k = i
    · subst hki; simp [hbf m hm']
    simp [I.down k (by simpa [hki] using hk') m hm']
  have hcl : ∀ ρ1 : Ren, ∀ b, Ext (SB st ops S i) hm h' b → cl st ops S i b := fun _ b hb => by
    rcases hb with hb | hb
    · exact idsOf_mono (fun m hm => .inr hm) b hb
    exact .inr ⟨i, .inl rfl, hi, hb.1, by rw [hnx]; exact hb.2⟩
  have hpos : 0 < (st i).h.next := by omega
  have hlowN := T.low (i + 1) ops.size (by omega) (Nat.le_refl _); have hids0 : ∀ b, SE st ops S E b → b ≠ 0 := fun b hb => (hHR.ids b hb).2
  -- the part's relation, out of what is known of its objects
  have mkHR : (∀ b o, hm.get b = some o → H.get b = some o) → (∀ b o, hm.get b = some o → SB st ops S i b ∧ ObjR P ρ (SB st ops S i) (ρ b) w o) → HR P ρ (SB st ops S i) B w0 hm w := fun hsub hob => {
    objs := hob
    inj := fun a b oa ob ha hb => hHR.inj a b oa ob (hsub a oa ha) (hsub b ob hb)
    base := fun b o' hb => hHR.base b o' (hsub b o' hb)
    ro := fun b o' hb => hHR.ro b o' (hsub b o' hb)
    ids := fun b hb => ⟨hidsB b hb, hids0 b (hsub1 b hb)⟩
    pos := hpos
    below := hHR.below
    drawn := hHR.drawn
    size := hHR.size }
  -- what is new, in a heap of new objects ahead of old ones
  have newGet : ∀ (objs : List (Nat × AObj)) b, look (newer (st i).h.next h'.next h'.objs ++ objs) b = (look (newer (st i).h.next h'.next h'.objs) b).or (look objs b) := fun objs b => look_append _ _ _
  have oldNew : ∀ b, SE st ops S E b → look (newer (st i).h.next h'.next h'.objs) b = none := fun b hb => by
    cases hl : look (newer (st i).h.next h'.next h'.objs) b with
    | none => rfl
    | some o' =>
      obtain ⟨⟨h1, h2⟩, _⟩ := newer_some _ _ _ hl; exact absurd hb (hnot b h1 h2)
  have allIn : ∀ b o', H.get b = some o' → SE st ops S E b := fun b o' hg => (hHR.objs b o' hg).1
  -- behind a step that turns something old
  have tailStep : (∀ b o, hm.get b = some o → H.get b = some o) → HR P ρ (SB st ops S i) B w0 hm w → ord = true → (st (i + 1)).h.low = min (st i).h.low h'.low → (st (i + 1)).h.objs = h'.objs → (st (i + 1)).tail = true →
      (∀ b, SE st ops S E b → b < h0.next → hm.get b = H.get b) → ∀ ρ1 w1 v1 a', Moved P B w0 ρ ρ1 (SB st ops S i) hm h' w w1 → VR ρ1 (Ext (SB st ops S i) hm h') v v1 → a'.defers = a.defers →
      (∀ ρ2, (∀ b, SE st ops S E b → ρ2 b = ρ b) → VR ρ2 (cl st ops S i) v v1 → TmpI st ops n t0 S (fun j => E j || j == i) ρ2 a'.tmps) →
      ∃ ρ2 H2, Inv P B w0 st ops n t0 h0 S ρ0 ws d0 (fun j => E j || j == i) ρ2 H2 w1 a' := by
    intro hsub hrm hot hlow hobjs ht hsame ρ1 w1 v1 a' m hv hd htmp
    have hlt : ∀ b, SE st ops S E b → b < (st i).h.next := fun b hb => by
      rcases hb with hb | ⟨k, h1, h2, h3⟩
      · have := h0ids b hb; omega
      by_cases hki : k < i
      · have := T.next (k + 1) i (by omega) (by omega); exact Nat.lt_of_lt_of_le h3.2 this
      by_cases hke : k = i
      · subst hke; rw [hE] at h1; cases h1
      exact (later ht k (T.seg_mem h2 h3) (by omega) h1).elim
    have hL : min (st ops.size).h.low h0.next ≤ h'.low := by
      have h1 : (st (i + 1)).h.low ≤ h'.low := by rw [hlow]; exact Nat.min_le_right _ _
      have h2 : min (st ops.size).h.low h0.next ≤ (st ops.size).h.low := Nat.min_le_left _ _; omega
    have hfr := framed (H2 := { next := (st ops.size).h.next, low := 0, objs := h'.objs }) (S2 := SE st ops S (fun j => E j || j == i)) (L := min (st ops.size).h.low h0.next) hHR hsub1 hsub hrm m hnot hS2 hidsN hposN
      (fun _ _ _ _ => hL)
      (fun b o' hb hg => by
        obtain ⟨o2, h3, _⟩ := m.old b o' hg (hlt b hb)
        exact .inl ⟨by rw [h3]; simp, hg⟩)
      (fun b o' hb hg => by
        rcases (m.hr.objs b o' hg).1 with h3 | h3
        · exact absurd (hsub1 b h3) hb
        exact ⟨h3, hg⟩)
      (fun b hb hbl => by
        have h3 : b < h0.next := Nat.lt_of_lt_of_le hbl (Nat.min_le_right _ _); have h4 := m.keep b (hlt b hb) (by omega)
        exact h4.trans (hsame b hb h3))
    have hag : ∀ b, SE st ops S E b → glue (SE st ops S E) ρ ρ1 b = ρ b := fun b hb => glue_in hb; refine ⟨_, _, I.moved.trans hfr, .inr ⟨i + 1, by omega, ht, fun b => ?_, fun k hmk => ?_⟩, htmp _ hag ?_, hd.trans I.defers, rfl, hdown'⟩
    · show look h'.objs b = look (st (i + 1)).h.objs b; rw [hobjs]
    · constructor
      · intro h3; by_cases hki : k = i
        · omega
        have h4 : E k = true := by simpa [hki] using h3
        have h5 : ¬ i < k := fun h5 => later ht k hmk h5 h4; omega
      intro h3; by_cases hki : k = i
      · simp [hki]
      simp [hbf k (hordbit hot k (by omega) hmk)]
    refine hv.mono fun b hb => ⟨hcl ρ b hb, ?_⟩; rcases hb with hb | hb
    · rw [glue_in (hsub1 b hb), m.agree b hb]
    exact glue_out (hnot b hb.1 hb.2)
  rcases I.mode with A | ⟨p, Bm⟩
  · -- nothing old has been turned
    have ht : (st i).tail = false := by
      cases h : (st i).tail with
      | false => rfl
      | true =>
        obtain ⟨k, h1, h2, h3⟩ := T.tail_from i (by omega) h; rw [A.calm k (hbf k (hordbit (htail h) k h1 h2)) h2] at h3; cases h3
    obtain ⟨sb1, sb2, sb3⟩ := T.stable (fun b o' hg => h0ids b (h0S b o' hg)) i (by omega) ht
    have hget : ∀ b o', hm.get b = some o' → (st i).h.get b = some o' ∧ ∀ k, k < i → seg st k b → (bfo st ops i).testBit k = true := fun b o' hg => by
      cases hb : ord with
      | true =>
        have hg' : (st i).h.get b = some o' := by
          have : look (bif ord then (st i).h.objs else mask (beforeOf (st i).bs o) (st i).segs (st i).h.objs) b = some o' := hg; rw [hb] at this; exact this
        exact ⟨hg', fun k hk hs => hordbit hb k hk (T.seg_mem (by omega) hs)⟩
      | false =>
        have : look (bif ord then (st i).h.objs else mask (beforeOf (st i).bs o) (st i).segs (st i).h.objs) b = some o' := hg; rw [hb] at this; obtain ⟨h3, h4⟩ := mask_some _ _ _ _ this; refine ⟨h3, fun k hk hs => ?_⟩; rw [← hbo]; exact h4 k _ _ (T.segs_mem i (by omega) k hk (T.seg_mem (by omega) hs)) hs.1 hs.2
    have hpart : ∀ b o', hm.get b = some o' → H.get b = some o' ∧ (S b ∨ ∃ k, (bfo st ops i).testBit k = true ∧ k < ops.size ∧ seg st k b) := fun b o' hg => by
      obtain ⟨h3, h4⟩ := hget b o' hg; have h5 := sb3 b o' h3; by_cases hb : b < h0.next
      · rw [sb1 b hb] at h3; rw [A.base b hb]; exact ⟨h3, .inl (h0S b o' h3)⟩
      obtain ⟨k, h6, h7⟩ := T.cover i (by omega) b (by omega) h5; have h8 := h4 k h6 h7; rw [A.news k (hbf k h8) (by omega) b h7, ← sb2 k h6 b h7]; exact ⟨h3, .inr ⟨k, h8, by omega, h7⟩⟩
    have hsub : ∀ b o', hm.get b = some o' → H.get b = some o' := fun b o' hg => (hpart b o' hg).1
    have hrm := mkHR hsub fun b o' hg => by
      obtain ⟨h3, h4⟩ := hpart b o' hg; rcases h4 with h4 | ⟨k, h5, h6, h7⟩
      · exact ⟨.inl h4, (A.objB b o' h4 h3).mono fun b hb => ⟨.inl hb, rfl⟩⟩
      refine ⟨.inr ⟨k, h5, h6, h7⟩, (A.objN k (hbf k h5) h6 b o' h7 h3).mono fun b hb => ⟨idsOf_mono (fun m hm => ?_) b hb, rfl⟩⟩; rcases hm with hm | hm
      · rw [hm]; exact h5
      exact T.bf_trans hed i k m h5 hm
    refine ⟨hrm, ?_⟩; rcases hk with ⟨hlow, hlow2, hobjs, htl⟩ | ⟨hot, hlow, hobjs, htl⟩
    · intro ρ1 w1 v1 a' m hv hd htmp
      have hfr := framed (H2 := { next := (st ops.size).h.next, low := 0, objs := newer (st i).h.next h'.next h'.objs ++ H.objs }) (S2 := SE st ops S (fun j => E j || j == i)) (L := min (st ops.size).h.low h0.next) hHR hsub1 hsub hrm m hnot hS2 hidsN hposN
        (fun _ _ _ _ => by have : min (st ops.size).h.low h0.next ≤ h0.next := Nat.min_le_right _ _; omega)
        (fun b o' hb hg => by
          have hg' : look (newer (st i).h.next h'.next h'.objs ++ H.objs) b = some o' := hg; rw [newGet, oldNew b hb] at hg'; have hg2 : H.get b = some o' := (show look H.objs b = some o' by simpa using hg')
          cases hq : hm.get b with
          | none => exact .inr ⟨rfl, hg2⟩
          | some o2 =>
            have h3 := hsub b o2 hq; rw [hg2] at h3; injection h3 with h3; subst h3; have h4 : b < hm.next := hidsB b (hrm.objs b o' hq).1; refine .inl ⟨by simp, ?_⟩; rw [m.keep b h4 (Nat.lt_of_lt_of_le h4 hlow)]
            exact hq)
        (fun b o' hb hg => by
          have hg' : look (newer (st i).h.next h'.next h'.objs ++ H.objs) b = some o' := hg; rw [newGet] at hg'
          cases hl : look (newer (st i).h.next h'.next h'.objs) b with
          | none =>
            rw [hl] at hg'
            exact absurd (allIn b o' (show look H.objs b = some o' by simpa using hg')) hb
          | some o2 =>
            rw [hl] at hg'; simp only [Option.some_or, Option.some.injEq] at hg'; subst hg'
            exact newer_some _ _ _ hl)
        (fun b hb _ => by
          show look (newer (st i).h.next h'.next h'.objs ++ H.objs) b = H.get b; rw [newGet, oldNew b hb]
          rfl)
      have hag : ∀ b, SE st ops S E b → glue (SE st ops S E) ρ ρ1 b = ρ b := fun b hb => glue_in hb
      have hgl : ∀ b, Ext (SB st ops S i) hm h' b → cl st ops S i b ∧ glue (SE st ops S E) ρ ρ1 b = ρ1 b := fun b hb => by
        refine ⟨hcl ρ b hb, ?_⟩; rcases hb with hb | hb
        · rw [glue_in (hsub1 b hb), m.agree b hb]
        exact glue_out (hnot b hb.1 hb.2)
      have hsame : ∀ b, SE st ops S E b → look (newer (st i).h.next h'.next h'.objs ++ H.objs) b = H.get b := fun b hb => by
        rw [newGet, oldNew b hb]; rfl
      refine ⟨_, _, I.moved.trans hfr, .inl ⟨fun k hk' hmk => ?_, fun b hb => ?_, fun k hk' hks b hs => ?_, fun b o' hb hg => ?_, fun k hk' hks b o' hs hg => ?_⟩, htmp _ hag (hv.mono hgl), hd.trans I.defers, rfl, hdown'⟩
      · by_cases hki : k = i
        · subst hki; rw [htl]; exact ht
        exact A.calm k (by simpa [hki] using hk') hmk
      · show look (newer (st i).h.next h'.next h'.objs ++ H.objs) b = h0.get b; rw [newGet]
        cases hl : look (newer (st i).h.next h'.next h'.objs) b with
        | none => exact A.base b hb
        | some o2 => have := (newer_some _ _ _ hl).1; omega
      · show look (newer (st i).h.next h'.next h'.objs ++ H.objs) b = look (st (k + 1)).h.objs b; by_cases hki : k = i
        · subst hki; rw [hobjs, newGet, newGet]; congr 1
          have hn1 : look H.objs b = none := by
            cases hq : look H.objs b with
            | none => rfl
            | some o2 => exact absurd (allIn b o2 hq) (T.new_not h0ids hi hE hs)
          have hn2 : look (st k).h.objs b = none := by
            cases hq : look (st k).h.objs b with
            | none => rfl
            | some o2 => have h3 := sb3 b o2 hq; have h4 := hs.1; omega
          rw [hn1, hn2]
        have hEk : E k = true := by simpa [hki] using hk'
        rw [hsame b (.inr ⟨k, hEk, hks, hs⟩)]; exact A.news k hEk hks b hs
      · have hg' : look (newer (st i).h.next h'.next h'.objs ++ H.objs) b = some o' := hg; rw [hsame b (.inl hb)] at hg'; exact ModeA.on (fun b hb => .inl hb) (A.objB b o' hb hg') hag (.inl hb) (hfr.hr.objs b o' hg).2
      by_cases hki : k = i
      · subst hki; have hg' : look (newer (st k).h.next h'.next h'.objs ++ H.objs) b = some o' := hg; rw [newGet] at hg'
        cases hl : look (newer (st k).h.next h'.next h'.objs) b with
        | none =>
          rw [hl] at hg'
          exact absurd (allIn b o' (show look H.objs b = some o' by simpa using hg')) (T.new_not h0ids hi hE hs)
        | some o2 =>
          rw [hl] at hg'; simp only [Option.some_or, Option.some.injEq] at hg'; subst hg'; have h3 := (newer_some _ _ _ hl).2; obtain ⟨h4, h5⟩ := m.hr.objs b o2 h3; rw [(hgl b h4).2]; exact h5.mono hgl
      have hEk : E k = true := by simpa [hki] using hk'
      have hg' : look (newer (st i).h.next h'.next h'.objs ++ H.objs) b = some o' := hg; rw [hsame b (.inr ⟨k, hEk, hks, hs⟩)] at hg'; exact ModeA.on (cl_SE I.down hEk) (A.objN k hEk hks b o' hs hg') hag (.inr ⟨k, hEk, hks, hs⟩) (hfr.hr.objs b o' hg).2
    refine tailStep hsub hrm hot hlow hobjs htl fun b hb hbl => ?_; show look (bif ord then (st i).h.objs else mask (beforeOf (st i).bs o) (st i).segs (st i).h.objs) b = H.get b; rw [hot, A.base b hbl]; exact sb1 b hbl
  -- something old has been turned
  have hpi : p ≤ i := by
    have h1 := Bm.all i hmi; rw [hE] at h1
    have : ¬ i < p := fun h => by have := h1.2 h; cases this
    omega
  have hot : ord = true := htail (T.tail p i hpi (by omega) Bm.tail)
  have hqh : ∀ q, p ≤ q → q ≤ i → (st q).h = (st p).h := fun q => by
    induction q with
    | zero => intro h1 _; have : p = 0 := by omega
              subst this; rfl
    | succ q ih =>
      intro h1 h2; by_cases hq : p = q + 1
      · subst hq; rfl
      have hqo : ops[q]? = some ops[q] := Array.getElem?_eq_getElem (by omega); rcases T.mem_or q _ hqo with ⟨h3, _⟩ | ⟨_, _, _, h3, _⟩
      · exfalso; have h4 := hbf q (hordbit hot q (by omega) h3); have := (Bm.all q h3).1 h4; omega
      rw [h3]; exact ih (by omega) (by omega)
  have hih := hqh i hpi (Nat.le_refl _)
  have hmget : ∀ b, hm.get b = H.get b := fun b => by
    show look (bif ord then (st i).h.objs else mask (beforeOf (st i).bs o) (st i).segs (st i).h.objs) b = H.get b; rw [hot, Bm.get b, ← hih]; rfl
  have hsub : ∀ b o', hm.get b = some o' → H.get b = some o' := fun b o' hg => by rw [← hmget]; exact hg
  have hEB : ∀ b, SE st ops S E b → SB st ops S i b := fun b hb => by
    rcases hb with hb | ⟨k, h1, h2, h3⟩
    · exact .inl hb
    have hmk := T.seg_mem h2 h3; have := (Bm.all k hmk).1 h1; exact .inr ⟨k, hordbit hot k (by omega) hmk, h2, h3⟩
  have hrm := mkHR hsub fun b o' hg => by
    obtain ⟨h3, h4⟩ := hHR.objs b o' (hsub b o' hg); exact ⟨hEB b h3, h4.mono fun b hb => ⟨hEB b hb, rfl⟩⟩
  refine ⟨hrm, ?_⟩; rcases hk with ⟨hlow, hlow2, hobjs, htl⟩ | ⟨_, hlow, hobjs, htl⟩
  · intro ρ1 w1 v1 a' m hv hd htmp; have hlt : ∀ b, SE st ops S E b → b < (st i).h.next := fun b hb => hidsB b (hEB b hb)
    have hsame : ∀ b, SE st ops S E b → look (newer (st i).h.next h'.next h'.objs ++ (st i).h.objs) b = hm.get b := fun b hb => by
      rw [newGet, oldNew b hb, hmget, Bm.get b, ← hih]; rfl
    have hfr := framed (H2 := { next := (st ops.size).h.next, low := 0, objs := newer (st i).h.next h'.next h'.objs ++ (st i).h.objs }) (S2 := SE st ops S (fun j => E j || j == i)) (L := min (st ops.size).h.low h0.next) hHR hsub1 hsub hrm m hnot hS2 hidsN hposN
      (fun _ _ _ _ => by have : min (st ops.size).h.low h0.next ≤ h0.next := Nat.min_le_right _ _; omega)
      (fun b o' hb hg => by
        have hg' : look (newer (st i).h.next h'.next h'.objs ++ (st i).h.objs) b = some o' := hg; rw [hsame b hb] at hg'; have h4 := hlt b hb; refine .inl ⟨by rw [hg']; simp, ?_⟩; rw [m.keep b h4 (Nat.lt_of_lt_of_le h4 hlow)]
        exact hg')
      (fun b o' hb hg => by
        have hg' : look (newer (st i).h.next h'.next h'.objs ++ (st i).h.objs) b = some o' := hg; rw [newGet] at hg'
        cases hl : look (newer (st i).h.next h'.next h'.objs) b with
        | none =>
          rw [hl] at hg'
          have h3 : H.get b = some o' := by rw [Bm.get b, ← hih]; exact (show look (st i).h.objs b = some o' by simpa using hg')
          exact absurd (allIn b o' h3) hb
        | some o2 =>
          rw [hl] at hg'; simp only [Option.some_or, Option.some.injEq] at hg'; subst hg'
          exact newer_some _ _ _ hl)
      (fun b hb _ => by
        show look (newer (st i).h.next h'.next h'.objs ++ (st i).h.objs) b = H.get b
        rw [hsame b hb, hmget])
    have hag : ∀ b, SE st ops S E b → glue (SE st ops S E) ρ ρ1 b = ρ b := fun b hb => glue_in hb; refine ⟨_, _, I.moved.trans hfr, .inr ⟨i + 1, by omega, ?_, fun b => ?_, fun k hmk => ?_⟩, htmp _ hag ?_, hd.trans I.defers, rfl, hdown'⟩
    · rw [htl]; exact T.tail p i hpi (by omega) Bm.tail
    · show look (newer (st i).h.next h'.next h'.objs ++ (st i).h.objs) b = look (st (i + 1)).h.objs b; rw [hobjs]
    · by_cases hki : k = i
      · subst hki; simp
      have h3 := Bm.all k hmk; simp only [beq_iff_eq, hki, or_false, Bool.or_eq_true]; rw [h3]; constructor
      · intro; omega
      intro h4; refine (Bm.all k hmk).1 (hbf k (hordbit hot k (by omega) hmk))
    refine hv.mono fun b hb => ⟨hcl ρ b hb, ?_⟩; rcases hb with hb | hb
    · rw [glue_in (hsub1 b hb), m.agree b hb]
    exact glue_out (hnot b hb.1 hb.2)
  exact tailStep hsub hrm hot hlow hobjs htl fun b _ _ => hmget b
end
end Go.Fs
