/- Parts of the proof: an evaluator of the model, what it is sound for, and contracts of functions. No condition. -/
import Derived.Test.YtgkcodkgcnbdeaaGreatP0
import Derived.Lib.UnsafeStr
import Derived.Laws.BytesString
import Derived.Orders
set_option linter.all false
namespace Go.Fs
open Go.RowKit (Below)
variable {P : Program} {ρ bT : Ren} {S S' : Nat -> Prop} {B : Nat} {w0 w w' w1 w2 : World} {h h' h1 h2 : aA}
def rE (e : TypeId) (size : Nat) (zs : Bool) (base : Option Addr) (n c m : Nat) (x : Value) (app : Sem (Array Value)) : Sem Value := do
  let xK := n + m
  if xK <= c then
    let new <- app
    if let some a := base then storeCells (a.add (n * size)) new.toList
    pure (.slice base xK c)
  else
    if (xK : Int) > IntKind.i64.max /\ (zs \/ (<- typeInfo e).bytes = 0) then runtimePanic (.error "growslice: len out of range")
    if Builtin.nextslicecap xK c * (<- typeInfo e).bytes > 2 ^ 48 then (if zs then runtimePanic (.error "growslice: len out of range") else do
      if !(<- Builtin.mayShare size n m base x) then mark .noRoom
      unsupported (.resourceLimit "append: a slice or a string whose bytes no memory bears"))
    let PQ <- choose (.appendCap xK c e)
    askRoom (PQ * (<- typeInfo e).bytes)
    let old <- Builtin.firstCells size n (.slice base n c)
    let new <- app
    let rest := Builtin.zeroCells (<- zeroValue e).cells (PQ - xK)
    pure (.slice (some (<- newRow e (old ++ new ++ rest))) xK PQ)
theorem DN {argTypes : Array TypeId} {ty st xt e : TypeId} {xd : TypeDesc} {i : TypeInfo} {base : Option Addr} {n c m : Nat} {x : Value}
    (h0 : argTypes[0]? = some st) (h1 : argTypes[1]? = some xt) (bR : P.underlying st = some (.slice e)) (hxt : P.underlying xt = some xd) (hi : P.info? e = some i)
    (hx : isInt xd = false) (hn : (Builtin.lenOf x).run P w = .ok m w) :
    (Builtin.append_ argTypes ty #[.slice base n c, x]).run P w = (rE e i.size false base n c m x (Builtin.firstCells i.size m x)).run P w := by
  unfold Builtin.append_; simp only [h0, h1, List.getElem?_toArray, List.getElem?_cons_zero, List.getElem?_cons_succ, Sem.run_bind, run_underlying bR, run_underlying hxt, Result.andThen_ok, eM e i hi, Sem.run_pure]
  cases xd with
  | int k => cases hx
  | _ =>
    refine Eq.trans (b := Sem.run P (Builtin.lenOf x >>= fun m' => rE e i.size false base n c m' x (Builtin.firstCells i.size m' x)) w) rfl ?_; simp only [Sem.run_bind, hn, Result.andThen_ok]
theorem FT {argTypes : Array TypeId} {ty st xt e : TypeId} {xd : TypeDesc} {i : TypeInfo} {base : Option Addr} {n c k : Nat}
    (h0 : argTypes[0]? = some st) (h1 : argTypes[1]? = some xt) (bR : P.underlying st = some (.slice e)) (hxt : P.underlying xt = some xd) (hi : P.info? e = some i)
    (hx : isInt xd = true) (hk : (k : Int) <= 1099511627776) (hb : k * i.bytes <= 1099511627776) :
    (Builtin.append_ argTypes ty #[.slice base n c, .int .i64 k]).run P w = (rE e i.size true base n c k (.int .i64 k)
      (if k * i.size = 0 then pure #[] else do pure (Builtin.zeroCells (<- zeroValue e).cells k))).run P w := by
  unfold Builtin.append_; simp only [h0, h1, List.getElem?_toArray, List.getElem?_cons_zero, List.getElem?_cons_succ, Sem.run_bind, run_underlying bR, run_underlying hxt, Result.andThen_ok, eM e i hi, Sem.run_pure]
  have n1 : ¬ ((k : Int) < 0) := by omega
  have rD : ((k : Int) * (i.bytes : Int)) <= 1099511627776 := by
    have : ((k * i.bytes : Nat) : Int) <= 1099511627776 := by omega
    simpa using this
  have n2 : ¬ ((k : Int) * (i.bytes : Int) > 2 ^ 48) := by omega
  cases xd with
  | int kd =>
    refine Eq.trans (b := Sem.run P (do
      let l <- asInt (.int .i64 (k : Int))
      let jp : Nat -> Sem Value := fun m' => rE e i.size true base n c m' (.int .i64 k) (if m' * i.size = 0 then pure #[] else do pure (Builtin.zeroCells (<- zeroValue e).cells m'))
      if IntKind.i64.wrap l < 0 then
        runtimePanic (.error "makeslice: len out of range")
        if IntKind.i64.wrap l * (<- typeInfo e).bytes > 2 ^ 48 then
          let made <- choose (.extern "append.ofMake.carriedOut" 2)
          runtimePanic (.error (if made == 1 then "makeslice: len out of range" else "growslice: len out of range"))
          jp (<- pure (IntKind.i64.wrap l).toNat)
        else jp (<- pure (IntKind.i64.wrap l).toNat)
      else
        if IntKind.i64.wrap l * (<- typeInfo e).bytes > 2 ^ 48 then
          let made <- choose (.extern "append.ofMake.carriedOut" 2)
          runtimePanic (.error (if made == 1 then "makeslice: len out of range" else "growslice: len out of range"))
          jp (<- pure (IntKind.i64.wrap l).toNat)
        else jp (<- pure (IntKind.i64.wrap l).toNat)) w) rfl ?_
    simp only [Sem.run_bind, asInt, asIntOf, Sem.run_pure, Result.andThen_ok, rX (by omega : (0 : Int) <= k) hk, n1, if_false, qT e i hi, n2, Int.toNat_natCast]
  | _ => cases hx
theorem adB : IntKind.i64.max = 9223372036854775807 := rfl
theorem C0 {e : TypeId} {i : TypeInfo} {z x : Value} {zs : Bool} {base : Option Addr} {n c m : Nat} {app : Sem (Array Value)} {old new : List Value}
    (hi : P.info? e = some i) (hz : i.zero = some z) (wI : z.cells.size = i.size) (xU : 0 < i.bytes) (ajM : c < n + m) (hbound : (n + m) * i.bytes <= 274877906944)
    (hold : (Builtin.firstCells i.size n (.slice base n c)).run P w.drew = .ok old.toArray w.drew) (sK : app.run P w.drew = .ok new.toArray w.drew) (ho : old.length = n * i.size) (hn : new.length = m * i.size) :
    ∃ cap rest, n + m <= cap /\ (old ++ new ++ rest).length = cap * i.size /\
      (rE e i.size zs base n c m x app).run P w = .ok (.slice (some ⟨w.heap.size, 0, none⟩) (n + m) cap) (w.drew.alloc (.cells (old ++ new ++ rest).toArray e)) := by
  have hnb : n + m <= 274877906944 := Nat.le_trans (Nat.le_mul_of_pos_right _ xU) hbound; have JU : i.bytes <= 274877906944 := Nat.le_trans (Nat.le_mul_of_pos_left _ (by omega)) hbound; have nS := nextslicecap_le (n + m) c ajM
  have anK : Builtin.nextslicecap (n + m) c * i.bytes <= 2 ^ 48 := by
    have h1 : Builtin.nextslicecap (n + m) c * i.bytes <= (2 * (n + m) + 192) * i.bytes := Nat.mul_le_mul_right _ nS
    have h2 : (2 * (n + m) + 192) * i.bytes = 2 * ((n + m) * i.bytes) + 192 * i.bytes := by
      rw [Nat.add_mul, Nat.mul_assoc]
    omega
  have n1 : ¬ (n + m <= c) := by omega
  have n2 : ¬ ((((n + m : Nat) : Int) > IntKind.i64.max) /\ (zs = true \/ i.bytes = 0)) := by
    rw [adB]; omega
  have n3 : ¬ (Builtin.nextslicecap (n + m) c * i.bytes > 2 ^ 48) := by omega
  have hq : (Question.appendCap (n + m) c e).forced = false := rfl; refine ⟨(Question.appendCap (n + m) c e).cut (w.tape w.drawn (Question.appendCap (n + m) c e)), (Builtin.zeroCells z.cells ((Question.appendCap (n + m) c e).cut (w.tape w.drawn (Question.appendCap (n + m) c e)) - (n + m))).toList, ?_, ?_, ?_⟩
  . simp only [Question.cut]; omega
  . have hle : n + m <= (Question.appendCap (n + m) c e).cut (w.tape w.drawn (Question.appendCap (n + m) c e)) := by simp only [Question.cut]; omega
    simp only [List.length_append, ho, hn, Builtin.zeroCells, wI]; simp only [Array.toList_map, List.length_map, Array.length_toList, Array.size_range]; rw [<- Nat.add_mul, <- Nat.add_mul]; congr 1; omega
  unfold rE; simp only [n1, if_false, Sem.run_bind, qT e i hi, Result.andThen_ok, n2, n3, run_choose, hq, Bool.false_eq_true, run_askRoom]; have hd : ({ w with drawn := w.drawn + 1 } : World) = w.drew := rfl; rw [hd]; simp only [Sem.run_bind, hold, sK, Result.andThen_ok, gO e i z hi hz, newRow, run_newObj, Sem.run_pure]; congr 2; show (w.drew.heap.push _) = _; congr 2; apply Array.toList_inj.1; simp
theorem zR {e : TypeId} {size : Nat} {x : Value} {zs : Bool} {A : Addr} {n c m : Nat} {app : Sem (Array Value)} {new : List Value} (hle : n + m <= c) (sK : app.run P w = .ok new.toArray w)
    (bR : (storeCells (A.add (n * size)) new).run P w = .ok () w') : (rE e size zs (some A) n c m x app).run P w = .ok (.slice (some A) (n + m) c) w' := by
  unfold rE; simp only [hle, if_true, Sem.run_bind, sK, Result.andThen_ok, bR, Sem.run_pure]
structure App (P : Program) (ρ : Ren) (S : Nat -> Prop) (w : World) (app : Sem (Array Value)) (news : List Value) : Prop where
  here : ∃ new, LR ρ S news new /\ app.run P w = .ok new.toArray w
  drew : ∃ new, LR ρ S news new /\ app.run P w.drew = .ok new.toArray w.drew
theorem NV {e : TypeId} {i : TypeInfo} {n m c : Nat} {olds news old new rest : List Value} (hr : HR P ρ S B w0 h w) (hi : P.info? e = some i)
    (ho : LR ρ S olds old) (hn : LR ρ S news new) (hle : n + m <= c) (hlen : (old ++ new ++ rest).length = c * i.size) :
    pA P B w0 ρ S h w (grown e (n + m) (olds ++ news) h).1 (grown e (n + m) (olds ++ news) h).2 (.ok (.slice (some ⟨w.heap.size, 0, none⟩) (n + m) c) (w.drew.alloc (.cells (old ++ new ++ rest).toArray e))) := by
  have jZ : HR P ρ S B w0 h w.drew := hr.drew _; have rF := ho.1; have lS := hn.1
  have hm := wG jZ e (cs := olds ++ news) (cur := old ++ new ++ rest) true (by simp; omega) (fun e => by cases e) (fun j hj => by
    have h1 := (ho.append hn).2 j hj; rw [List.getD_eq_getElem?_getD, List.getD_eq_getElem?_getD] at h1 ⊢; rw [List.getElem?_append_left (show j < (old ++ new).length by simp at hj ⊢; omega)]
    exact h1)
  refine ⟨_, _, _, rfl, aZ.wH hm, ?_⟩; exact qD hr.pos (n + m) c _ rfl hle (by rw [hlen, iU hi]) _ (Ext.lM _)
theorem SC {e : TypeId} {i : TypeInfo} {z s s' x v : Value} {zs : Bool} {m : Nat} {news : List Value} {app : Sem (Array Value)} (hr : HR P ρ S B w0 h w) (hi : P.info? e = some i) (hz : i.zero = some z) (wI : z.cells.size = i.size)
    (dJ : 0 < i.size) (xU : 0 < i.bytes) (wK : news.length = m * i.size) (jO : news.all aU = true) (hs : VR ρ S s s') (sK : App P ρ S w app news) (hf : kX e i s m news h = some (v, h')) :
    ∃ base n c, s' = .slice base n c /\ pA P B w0 ρ S h w v h' ((rE e i.size zs base n c m x app).run P w) := by
  obtain ⟨xL, rY, JV⟩ := sK.here; obtain ⟨yB, rF, VU⟩ := sK.drew; have jZ : HR P ρ S B w0 h w.drew := hr.drew _; unfold kX at hf; split at hf
  . obtain rfl := hs.iT; refine ⟨none, 0, 0, rfl, ?_⟩
    cases hm : Nat.beq m 0 with
    | true =>
      rw [hm] at hf; simp only [cond_true, Option.some.injEq, Prod.mk.injEq] at hf; obtain ⟨rfl, rfl⟩ := hf; obtain rfl := bU hm
      have : (rE e i.size zs none 0 0 0 x app).run P w = .ok (.slice none 0 0) w := by
        unfold rE; simp only [Nat.add_zero, Nat.le_refl, if_true, Sem.run_bind, JV, Result.andThen_ok, Sem.run_pure]
      rw [this]
      exact pA.pure hr (.lit rfl)
    | false =>
      rw [hm] at hf; simp only [cond_false] at hf; obtain ⟨hb, dU⟩ := aT hf; clear hf; have hb := fP hb; have hm0 := gA hm; simp only [Option.some.injEq] at dU; obtain ⟨cap, rest, h1, h2, h3⟩ := C0 (P := P) (w := w) (e := e) (i := i) (x := x) (zs := zs) (base := none) (n := 0) (c := 0) (m := m) (app := app) (old := []) (new := yB) hi hz wI xU (by omega) (by simpa using hb) (by simp [Builtin.firstCells]) VU (by simp) (by rw [<- rF.1, wK]); have h4 := NV (n := 0) (m := m) hr hi (olds := []) LR.nil rF h1 h2; rw [h3]; simp only [Nat.zero_add, List.nil_append] at h4 dU ⊢; rw [dU] at h4; exact h4
  . rename_i b o n mk; obtain ⟨A, c, rfl, hn, IC, h0, hb⟩ := hs.iB; refine ⟨some A, n, c, rfl, ?_⟩
    cases hq : (Nat.beq m 0 && Nat.beq mk 1) with
    | true =>
      rw [hq] at hf; simp only [cond_true, Option.some.injEq, Prod.mk.injEq] at hf; obtain ⟨rfl, rfl⟩ := hf; obtain ⟨hm, mE⟩ := b6 hq; obtain rfl := bU hm; have jQ : xL = [] := List.eq_nil_of_length_eq_zero (by rw [<- rY.1, wK]; simp); subst jQ; have hc := IC (bU mE); rw [zR (w' := w) (by omega) JV rfl]
      exact pA.pure hr (by simpa using hs)
    | false =>
      rw [hq] at hf; simp only [cond_false] at hf; split at hf
      . rename_i e' cs own more hg; obtain ⟨wJ, dU⟩ := aT hf; clear hf; obtain ⟨nT, hle⟩ := b6 wJ; obtain ⟨he, hbd⟩ := b6 nT; obtain rfl := bU he; have hbd := fP hbd; have hle := fP hle; have nE := (hr.aB b _ hg).2; have iY : b ≠ 0 := (hr.ids b (hr.aB b _ hg).1).2; obtain ⟨hS, rfl, nS⟩ := hb iY; have H4 := nE.BZ.trans (iU hi); have uN : ∀ i, i < cs.length -> ∃ v, w.cell? ((ρ b).at i) = some v /\ VR ρ S (cs.getD i undef) v := fun i hi => nE.cell hi
        -- the old elements, read behind the draw
        obtain ⟨olds, hold, uL⟩ := qU (P := P) (w := w.drew) (l := ρ b) (ρ := ρ) (S := S) (o := o) (n := n * i.size) uN hle
        have SD : olds.length = n * i.size := by rw [<- uL.1]; simp; omega
        have wL : (Builtin.firstCells i.size n (.slice (some ((ρ b).at o)) n c)).run P w.drew = .ok olds.toArray w.drew := hold
        have adC : c < n + m -> pA P B w0 ρ S h w (grown e' (n + m) ((cs.drop o).take (n * i.size) ++ news) h).1 (grown e' (n + m) ((cs.drop o).take (n * i.size) ++ news) h).2
            ((rE e' i.size zs (some ((ρ b).at o)) n c m x app).run P w) := fun bL => by
          obtain ⟨cap, rest, h1, h2, h3⟩ := C0 (P := P) (w := w) (e := e') (i := i) (x := x) (zs := zs) (base := some ((ρ b).at o)) (n := n) (c := c) (m := m) (app := app) (old := olds) (new := yB) hi hz wI xU bL hbd wL VU SD (by rw [<- rF.1, wK]); rw [h3]; exact NV hr hi uL rF h1 h2
        cases Z6 : Nat.beq mk 1 with
        | true =>
          rw [Z6] at dU; simp only [cond_true, Option.some.injEq] at dU; have hc := IC (bU Z6)
          have hm0 : m ≠ 0 := fun e => by subst e; simp [Z6] at hq
          have := adC (by omega); rw [dU] at this
          exact this
        | false =>
          rw [Z6] at dU; simp only [cond_false] at dU; obtain ⟨DL, tN⟩ := aT dU; clear dU; obtain ⟨al7, kK⟩ := b6 DL; have nS := nS (bU al7); rw [H4] at nS; subst kK; obtain ⟨cur, adD, Z7, aiE, _, hlc, ajN, al8⟩ := nE
          cases vC : Nat.ble (o + (n + m) * i.size) cs.length with
          | true =>
            rw [vC] at tN; simp only [cond_true, Option.some.injEq, Prod.mk.injEq] at tN; obtain ⟨rfl, ID⟩ := tN; have vC := fP vC
            have AL : n + m <= c := by
              have h1 : (n + m) * i.size <= c * i.size := by omega
              exact Nat.le_of_mul_le_mul_right h1 dJ
            have BK : VR ρ S (.slice (some ⟨b, o, none⟩) (n + m) 0) (.slice (some ((ρ b).at o)) (n + m) c) :=
              .slice b o (n + m) 0 c _ AL (fun e => by cases e) (fun e => absurd e iY) (fun _ => ⟨hS, rfl, fun _ => by rw [H4]; exact nS⟩)
            cases hm : Nat.beq m 0 with
            | true =>
              rw [hm] at ID; simp only [cond_true] at ID; subst ID; have hm0 := bU hm; have jQ : xL = [] := List.eq_nil_of_length_eq_zero (by rw [<- rY.1, wK, hm0]; simp); subst jQ; rw [zR (w' := w) AL JV rfl]
              exact pA.pure hr BK
            | false =>
              rw [hm] at ID; simp only [cond_false] at ID; subst ID; have al9 : (n + m) * i.size = n * i.size + m * i.size := Nat.add_mul _ _ _; obtain ⟨w2, h1, h2⟩ := pB (o := o + n * i.size) hr hg rY jO (by omega); rw [zR (w' := w2) AL JV (by rw [Loc.tV]; exact h1)]
              exact ⟨ρ, w2, _, rfl, h2, BK.mono fun b hb => ⟨.inl hb, rfl⟩⟩
          | false =>
            rw [vC] at tN; simp only [cond_false] at tN; have vC := j8 vC
            cases hmr : more with
            | false =>
              rw [hmr] at tN; simp only [Bool.not_false, cond_true, Option.some.injEq] at tN; have wD := ajN hmr
              have bL : c < n + m := by
                have h1 : c * i.size < (n + m) * i.size := by omega
                exact Nat.lt_of_mul_lt_mul_right h1
              have := adC bL; rw [tN] at this
              exact this
            | true =>
              rw [hmr] at tN; simp only [Bool.not_true, cond_false] at tN; obtain ⟨hc4, ID⟩ := aT tN; clear tN; obtain ⟨ho0, PR⟩ := b6 hc4; obtain rfl := bU ho0; have PR := bU PR; simp only [Option.some.injEq] at ID; have anT : iG (.row e' cs true more) = true := rfl; have hB := hr.base b _ hg rfl; have adE := (hr.aB b _ hg).2.lt rfl; by_cases AL : n + m <= c
              . -- in place
                have al9 : (n + m) * i.size = n * i.size + m * i.size := Nat.add_mul _ _ _; have MV : (n + m) * i.size <= c * i.size := Nat.mul_le_mul_right _ AL
                have anU : xL.length = m * i.size := by rw [<- rY.1, wK]
                have eK := oF P (ρ b).block (n * i.size) e' (ρ b).fz xL 0 cur.toArray w adD (by have := (ρ b).hfz; simpa [aiE] using this) (by simp; omega) (fun v nJ => by rw [H0]; exact rY.aU jO v nJ); simp only [Nat.add_zero] at eK
                have FP : (ρ b).at (n * i.size) = ⟨(ρ b).block, n * i.size, none⟩ := by simp [Loc.at, Z7]
                rw [zR AL JV (by rw [Loc.tV, Nat.zero_add, FP]; exact eK)]
                have hmv := aZ.replace hr hg rfl (o' := .row e' (cs ++ news) true true) rfl (ρ b) (.inl rfl) hB (w' := w.setRow (ρ b).block (cur.toArray.toList.take (n * i.size) ++ xL ++ cur.toArray.toList.drop (n * i.size + xL.length)).toArray)
                  rfl rfl rfl (by simp [World.setRow]) (fun k _ hk => setRow_other w _ k _ hk)
                  ⟨cur.take (n * i.size) ++ xL ++ cur.drop (n * i.size + xL.length), by rw [setRow_heap w _ cur.toArray _ e' _ adD], Z7, by rw [sJ _ _ _ (by omega)]; exact aiE, (hr.aB b _ hg).2.BZ,
                    by rw [sJ _ _ _ (by omega)]; simp; omega, (fun e => by cases e), fun j hj => by
                      have MS : j < cs.length + news.length := by simpa using hj
                      rw [List.getD_eq_getElem?_getD, List.getD_eq_getElem?_getD, qC cur _ xL (by omega), List.getElem?_append, <- PR]; by_cases h1 : j < n * i.size
                      . rw [if_pos h1, if_pos h1]; have := (al8 j (by omega)).mono (hr.qS (ρ b) (.row e' (cs ++ news) true true)); rw [List.getD_eq_getElem?_getD, List.getD_eq_getElem?_getD] at this; exact this
                      rw [if_neg h1, if_neg h1, if_pos (by omega)]; have := (rY.2 (j - n * i.size) (by omega)).mono (hr.qS (ρ b) (.row e' (cs ++ news) true true)); rw [List.getD_eq_getElem?_getD, List.getD_eq_getElem?_getD] at this
                      exact this⟩
                simp only [grown, Prod.mk.injEq] at ID; obtain ⟨rfl, rfl⟩ := ID; refine ⟨_, _, _, rfl, hmv, ?_⟩; have := qD (ρ := ρ) (S := S) hr.pos (n + m) c (ρ b) Z7 AL (by rw [H4]; omega) ((h.drop b).push (.row e' (cs ++ news) true true)) (.inr ⟨Nat.le_refl _, Nat.lt_succ_self _⟩)
                have h0 : (ρ b).at 0 = ⟨(ρ b).block, 0, none⟩ := by simp [Loc.at, Z7]
                rw [h0]; exact this
              -- a new row
              obtain ⟨cap, rest, h1, h2, h3⟩ := C0 (P := P) (w := w) (e := e') (i := i) (x := x) (zs := zs) (base := some ((ρ b).at 0)) (n := n) (c := c) (m := m) (app := app) (old := olds) (new := yB) hi hz wI xU (by omega) hbd wL VU SD (by rw [<- rF.1, wK]); rw [h3]
              have gW : (cs.drop 0).take (n * i.size) = cs := by rw [PR]; simp
              rw [gW] at uL; have lS := rF.1; have hl3 := uL.1
              have hmv := aZ.replace (w := w.drew) jZ hg rfl (o' := .row e' (cs ++ news) true true) rfl (.clean w.heap.size 0 (olds ++ yB ++ rest).length (P.cellsOf e')) (.inr (Nat.le_refl _)) hr.size
                (w' := w.drew.alloc (.cells (olds ++ yB ++ rest).toArray e')) rfl rfl rfl (by simp) (fun k hk _ => Below.heap_alloc w.drew _ k hk)
                ⟨olds ++ yB ++ rest, heap_alloc_new w.drew _, rfl, rfl, rfl, by simp; omega, (fun e => by cases e), fun j hj => by
                  have h4 := ((uL.append rF).mono (hr.qS (.clean w.heap.size 0 (olds ++ yB ++ rest).length (P.cellsOf e')) (.row e' (cs ++ news) true true))).2 j hj; rw [List.getD_eq_getElem?_getD, List.getD_eq_getElem?_getD] at h4 ⊢; rw [List.getElem?_append_left (show j < (olds ++ yB).length by simp at hj ⊢; omega)]
                  exact h4⟩
              simp only [grown, Prod.mk.injEq] at ID; obtain ⟨rfl, rfl⟩ := ID; refine ⟨_, _, _, rfl, aZ.wH hmv, ?_⟩; exact qD hr.pos (n + m) cap _ rfl h1 (by rw [h2, iU hi]) _ (.inr ⟨Nat.le_refl _, Nat.lt_succ_self _⟩)
      cases hf
  cases hf
theorem VV {argTypes : Array TypeId} {ty : TypeId} {s x s' x' v : Value} (hr : HR P ρ S B w0 h w) (hs : VR ρ S s s') (hx : VR ρ S x x') (hf : dQ P argTypes s x h = some (v, h')) :
    pA P B w0 ρ S h w v h' ((Builtin.append_ argTypes ty #[s', x']).run P w) := by
  unfold dQ at hf; split at hf
  . rename_i st xt h0 h1; split at hf
    . rename_i e xd bR hxt; split at hf
      . rename_i i hi; split at hf
        . rename_i z hz; split at hf
          . rename_i m news sK; obtain ⟨hc, dU⟩ := aT hf; clear hf; obtain ⟨wJ, wI⟩ := b6 hc; obtain ⟨nT, jO⟩ := b6 wJ; obtain ⟨DL, wK⟩ := b6 nT; obtain ⟨dJ, xU⟩ := b6 DL; have dJ := jP dJ; have xU := jP xU; have wK := bU wK; have wI := bU wI; obtain ⟨xL, a1, a2, a3⟩ := DM hi hz wI dJ hr hx sK; obtain ⟨yB, b1, b2, b3⟩ := DM hi hz wI dJ (hr.drew (w.drawn + 1)) hx sK
            cases hxi : isInt xd with
            | false =>
              rw [hxi] at a2 a3 b3; simp only [Bool.false_eq_true, if_false, Bool.not_false, if_true] at a2 a3 b3; have adF : App P ρ S w (Builtin.firstCells i.size m x') news := ⟨⟨xL, a1, a3⟩, ⟨yB, b1, b3⟩⟩; obtain ⟨base, n, c, rfl, jD⟩ := SC (x := x') (zs := false) hr hi hz wI dJ xU wK jO hs adF dU; rw [DN h0 h1 bR hxt hi hxi a2]
              exact jD
            | true =>
              have yC : ∃ k : Nat, x' = .int .i64 k /\ m = k /\ (k : Int) <= 1099511627776 /\ k * i.bytes <= 1099511627776 := by
                rw [hxi] at sK; unfold fZ at sK; simp only [cond_true] at sK; split at sK
                . rename_i l; obtain ⟨hd, tN⟩ := aT sK; obtain ⟨FU, _⟩ := b6 hd; obtain ⟨VS, JU⟩ := b6 FU; obtain ⟨rY, rF⟩ := b6 VS; have rY := of_decide_eq_true rY; have rF := of_decide_eq_true rF; obtain ⟨k, rfl⟩ := Int.eq_ofNat_of_zero_le rY; simp only [Int.toNat_natCast, Option.some.injEq, Prod.mk.injEq] at tN JU; exact ⟨k, hx.r4, tN.1.symm, rF, fP JU⟩
                cases sK
              obtain ⟨k, rfl, rfl, C1, nU⟩ := yC; rw [hxi] at a3 b3; simp only [Bool.not_true, Bool.false_eq_true, if_false] at a3 b3; have adF : App P ρ S w (if m * i.size = 0 then pure #[] else do pure (Builtin.zeroCells (<- zeroValue e).cells m)) news := ⟨⟨xL, a1, a3⟩, ⟨yB, b1, b3⟩⟩; obtain ⟨base, n, c, rfl, jD⟩ := SC (x := .int .i64 m) (zs := true) hr hi hz wI dJ xU wK jO hs adF dU; rw [FT h0 h1 bR hxt hi hxi C1 nU]; exact jD
          cases hf
        cases hf
      cases hf
    cases hf
  cases hf
end Go.Fs
namespace Go.Fs
open Go.RowKit (Below)
variable {P : Program} {ρ bT : Ren} {S S' : Nat -> Prop} {B : Nat} {w0 w w' w1 w2 : World} {h h' h1 h2 : aA}
def xM (es eL : List MapEntry) : Prop := es.length = eL.length /\ ∀ (i : Nat) (e e' : MapEntry), es[i]? = some e -> eL[i]? = some e' -> e'.key = e.key
def FV (es eL : List MapEntry) (i : Nat) : Option (Nat × Value) -> Option (Nat × Value) -> Prop
  | none, none => True
  | some (j, v), some (j', v') => j' = j /\ ∃ m e e', j = i + m /\ es[m]? = some e /\ eL[m]? = some e' /\ v = e.val /\ v' = e'.val
  | _, _ => False
theorem FV.step {es eL : List MapEntry} {a a' : MapEntry} {i : Nat} {r r' : Option (Nat × Value)} (h : FV es eL (i + 1) r r') : FV (a :: es) (a' :: eL) i r r' := by
  match r, r', h with
  | none, none, _ => trivial
  | some (j, v), some (j', v'), ⟨h1, m, e, e', h2, h3, h4, h5⟩ => exact ⟨h1, m + 1, e, e', by omega, by simpa using h3, by simpa using h4, h5⟩
theorem xM.tail {es eL : List MapEntry} {a a' : MapEntry} (h : xM (a :: es) (a' :: eL)) : a'.key = a.key /\ xM es eL :=
  ⟨h.2 0 a a' rfl rfl, by simpa using h.1, fun i e e' he lQ => h.2 (i + 1) e e' (by simpa using he) (by simpa using lQ)⟩
theorem yD {d : TypeDesc} {k : Value} : ∀ (es eL : List MapEntry) (i : Nat), xM es eL ->
    (Instr.findNow d k es i = none -> Instr.findNow d k eL i = none) /\ ∀ r, Instr.findNow d k es i = some r -> ∃ r', Instr.findNow d k eL i = some r' /\ FV es eL i r r'
  | [], [], i, _ => ⟨fun h => h, fun r h => ⟨none, rfl, by simp only [Instr.findNow, Option.some.injEq] at h; subst h; trivial⟩⟩
  | [], _ :: _, _, h => by simp [xM] at h
  | _ :: _, [], _, h => by simp [xM] at h
  | a :: es, a' :: eL, i, h => by
    obtain ⟨hk, ht⟩ := h.tail; obtain ⟨ih1, ih2⟩ := yD (d := d) (k := k) es eL (i + 1) ht; simp only [Instr.findNow, hk]
    cases hs : Instr.sameNow d k a.key with
    | none => exact ⟨fun _ => rfl, fun r hr => by cases hr⟩
    | some b =>
      cases b with
      | true =>
        refine ⟨fun hc => by (cases hc), fun r hr => ?_⟩; simp only [Option.some.injEq] at hr; subst hr
        exact ⟨_, rfl, rfl, 0, a, a', rfl, rfl, rfl, rfl, rfl⟩
      | false =>
        refine ⟨fun hc => ih1 hc, fun r hr => ?_⟩; obtain ⟨r', h1, h2⟩ := ih2 r hr; exact ⟨r', h1, h2.step⟩
theorem yE {t : TypeId} {k : Value} : ∀ (es eL : List MapEntry) (i : Nat) (r : Option (Nat × Value)), xM es eL -> aE P (Instr.findAsking t k es i) = some r ->
    ∃ r', aE P (Instr.findAsking t k eL i) = some r' /\ FV es eL i r r'
  | [], [], i, r, _, h => ⟨none, rfl, by
      have h' : some none = some r := h
      simp only [Option.some.injEq] at h'; subst h'; trivial⟩
  | [], _ :: _, _, _, h, _ => by simp [xM] at h
  | _ :: _, [], _, _, h, _ => by simp [xM] at h
  | a :: es, a' :: eL, i, r, h, hr => by
    obtain ⟨hk, ht⟩ := h.tail; simp only [Instr.findAsking, aF, hk] at hr ⊢
    cases hs : aE P (Op.equal t k a.key) with
    | none => rw [hs] at hr; cases hr
    | some b =>
      rw [hs] at hr; simp only [Option.bind_some] at hr ⊢
      cases b with
      | true =>
        simp only [if_true, aK, Option.some.injEq] at hr ⊢; subst hr
        exact ⟨_, rfl, rfl, 0, a, a', rfl, rfl, rfl, rfl, rfl⟩
      | false =>
        simp only [Bool.false_eq_true, if_false] at hr ⊢; obtain ⟨r', h1, h2⟩ := yE es eL (i + 1) r ht hr; exact ⟨r', h1, h2.step⟩
theorem DO {t : TypeId} {k : Value} {es eL : List MapEntry} {r : Option Nat} (hk : xM es eL) (hf : w8 P t k es = some r) (w : World) :
    ∃ a a', (Instr.findKey t k eL).run P w = .ok a' w /\ FV es eL 0 a a' /\ r = a.map (·.1) := by
  unfold w8 at hf; split at hf
  . rename_i d hd; split at hf
    . rename_i a ha; simp only [Option.some.injEq] at hf; obtain ⟨a', h1, h2⟩ := (yD es eL 0 hk).2 a ha; exact ⟨a, a', by simp [Instr.findKey, run_underlying hd, Result.andThen, h1], h2, hf.symm⟩
    rename_i ha; have h1 := (yD es eL 0 hk).1 ha; obtain ⟨a, h2, h3⟩ := Option.map_eq_some_iff.1 hf; obtain ⟨a', h4, h5⟩ := yE es eL 0 a hk h2; refine ⟨a, a', ?_, h5, h3.symm⟩; simp only [Instr.findKey, Sem.run_bind, run_underlying hd, Result.andThen_ok, h1]; exact cD h4 w
  cases hf
theorem yF {r : Nat} {es : Array MapEntry} {clock : Nat} (hb : w.heap[r]? = some (.map es clock)) : (getObj r).run P w = .ok (.map es clock) w := by
  simp [getObj, Sem.run, hb]
theorem H5 {r : Nat} {es : Array MapEntry} {clock : Nat} (o : Obj) (hb : w.heap[r]? = some (.map es clock)) : (setObj r o).run P w = .ok () { w with heap := w.heap.setIfInBounds r o } := by
  simp [setObj, Sem.run, hb]
theorem zS {r : Nat} {o o' : Obj} (hb : w.heap[r]? = some o) : (w.heap.setIfInBounds r o')[r]? = some o' /\ ∀ r', r' ≠ r -> (w.heap.setIfInBounds r o')[r']? = w.heap[r']? := by
  have bL : r < w.heap.size := (Array.getElem?_eq_some_iff.1 hb).1; exact ⟨by simp [bL], fun r' cM => by simp [Ne.symm cM]⟩
theorem SF {b : Nat} {es : List MapEntry} {clock : Nat} (hr : HR P ρ S B w0 h w) (hg : h.get b = some (.nO es clock)) :
    ∃ eL : List MapEntry, w.heap[(ρ b).block]? = some (.map eL.toArray clock) /\ es.length = eL.length /\
      ∀ (i : Nat) (e e' : MapEntry), es[i]? = some e -> eL[i]? = some e' -> e'.key = e.key /\ af e.key = true /\ e'.born = e.born /\ VR ρ S e.val e'.val := (hr.aB b _ hg).2
theorem rZ {t : TypeId} {k : Value} {em : Bool} (hc : (aE P (Instr.checkKey em 10000 t k)).isSome = true) (w : World) : (Instr.checkKey em 10000 t k).run P w = .ok () w := by
  obtain ⟨u, hu⟩ := Option.isSome_iff_exists.1 hc; exact cD hu w
theorem VW {t : TypeId} {x x' k k' v : Value} {ok : Bool} (hr : HR P ρ S B w0 h w) (hx : VR ρ S x x') (hk : VR ρ S k k') (hf : gJ P t x k ok h = some v) :
    ∃ v', (Instr.lookup t x' k' ok).run P w = .ok v' w /\ VR ρ S v v' := by
  unfold gJ at hf; split at hf
  . rename_i key elem hu; split at hf
    . rename_i z hz; simp only at hf; split at hf
      . rename_i es SG; split at hf
        . rename_i hc; obtain ⟨hak, haz, hck⟩ := hc; obtain rfl := hk.dR hak
          -- the map's entries in the world
          have alA : ∃ eL : List MapEntry, (x' = .map none /\ eL = [] \/ ∃ r clock, x' = .map (some r) /\ w.heap[r]? = some (.map eL.toArray clock)) /\ xM es eL /\
              ∀ (i : Nat) (e e' : MapEntry), es[i]? = some e -> eL[i]? = some e' -> VR ρ S e.val e'.val := by
            split at SG
            . simp only [Option.some.injEq] at SG; subst SG; obtain rfl := hx.iA rfl; exact ⟨[], .inl ⟨rfl, rfl⟩, ⟨rfl, fun i e e' he => by simp at he⟩, fun i e e' he => by simp at he⟩
            . rename_i b; obtain ⟨hs, rfl⟩ := hx.y8; split at SG
              . rename_i es2 clock hg; simp only [Option.some.injEq] at SG; subst SG; obtain ⟨eL, h1, h2, h3⟩ := SF hr hg; exact ⟨eL, .inr ⟨_, _, rfl, h1⟩, ⟨h2, fun i e e' he lQ => (h3 i e e' he lQ).1⟩, fun i e e' he lQ => (h3 i e e' he lQ).2.2.2⟩
              cases SG
            cases SG
          obtain ⟨eL, h1, h2, h3⟩ := alA
          have hem : eL.toArray.isEmpty = es.isEmpty := by
            have := h2.1; cases es <;> cases eL <;> simp_all
          obtain ⟨i, hi, hiz⟩ := Option.bind_eq_some_iff.1 hz; have MT := gO elem i z hi hiz w
          have JW : ∀ a', (Instr.findKey key k' eL).run P w = .ok a' w -> ∀ v0 b0, (match a' with | some (_, v) => v0 = v /\ b0 = true | none => v0 = z /\ b0 = false) ->
              (Instr.lookup t x' k' ok).run P w = .ok (if ok then .tuple #[v0, .bool b0] else v0) w := fun a' mI v0 b0 hvb => by
            unfold Instr.lookup; simp only [Sem.run_bind, run_underlying hu, Result.andThen_ok]; rcases h1 with ⟨rfl, rfl⟩ | ⟨r, clock, rfl, h1⟩
            . have alB : (#[] : Array MapEntry).isEmpty = es.isEmpty := hem; have ha2 : (Instr.findKey key k' (#[] : Array MapEntry).toList).run P w = .ok a' w := mI; simp only [Sem.run_bind, Sem.run_pure, Result.andThen_ok, alB, rZ hck, ha2]
              cases a' with
              | none =>
                obtain ⟨rfl, rfl⟩ := hvb
                simp only [Sem.run_bind, MT, Result.andThen_ok, Sem.run_pure]
              | some p =>
                obtain ⟨rfl, rfl⟩ := hvb; simp only [Sem.run_bind, Result.andThen_ok, Sem.run_pure]
            simp only [Sem.run_bind, Sem.run_pure, yF h1, Result.andThen_ok, hem, rZ hck, mI]
            cases a' with
            | none =>
              obtain ⟨rfl, rfl⟩ := hvb
              simp only [Sem.run_bind, MT, Result.andThen_ok, Sem.run_pure]
            | some p =>
              obtain ⟨rfl, rfl⟩ := hvb; simp only [Sem.run_bind, Result.andThen_ok, Sem.run_pure]
          have wrap : ∀ v0 v1 b0, VR ρ S v0 v1 -> VR ρ S (if ok = true then .tuple #[v0, .bool b0] else v0) (if ok = true then .tuple #[v1, .bool b0] else v1) := fun v0 v1 b0 hv => by
            cases ok with
            | false => exact hv
            | true => exact VR.tuple' (LR.cons hv (LR.cons (.lit rfl) LR.nil))
          split at hf
          . rename_i j hj; obtain ⟨a, a', h4, h5, h6⟩ := DO h2 hj w; split at hf
            . rename_i e he; simp only [Option.some.injEq] at hf; subst hf
              match a, a', h5 with
              | some (j1, v1), some (j2, v2), ⟨e1, m, e3, e4, e5, e6, e7, e8, e9⟩ =>
                simp only [Option.map_some, Option.some.injEq] at h6; subst h6
                have : m = j := by omega
                subst this; rw [e6] at he; injection he with he; subst he e9
                exact ⟨_, JW _ h4 e4.val true ⟨rfl, rfl⟩, wrap _ _ _ (h3 _ _ _ e6 e7)⟩
              | none, none, _ => simp at h6
            cases hf
          . rename_i hj; obtain ⟨a, a', h4, h5, h6⟩ := DO h2 hj w; simp only [Option.some.injEq] at hf; subst hf
            match a, a', h5 with
            | some (j1, v1), some (j2, v2), _ => simp at h6
            | none, none, _ => exact ⟨_, JW _ h4 z false ⟨rfl, rfl⟩, wrap _ _ _ (.mJ haz)⟩
          cases hf
        cases hf
      cases hf
    cases hf
  cases hf
theorem BL {t : TypeId} {m m' k k' x x' : Value} (hr : HR P ρ S B w0 h w) (hm : VR ρ S m m') (hk : VR ρ S k k') (hx : VR ρ S x x') (hf : kY P t m k x h = some h') :
    ∃ w', (Instr.mapUpdate t m' k' x').run P w = .ok () w' /\ aZ P B w0 ρ ρ S h h' w w' := by
  unfold kY at hf; split at hf
  . rename_i key elem b hu; obtain ⟨hs, rfl⟩ := hm.y8; split at hf
    . rename_i es clock hg; split at hf
      . rename_i hc; obtain ⟨hak, hck⟩ := hc; obtain rfl := hk.dR hak; obtain ⟨eL, h1, h2, h3⟩ := SF hr hg; have hkr : xM es eL := ⟨h2, fun i e e' he lQ => (h3 i e e' he lQ).1⟩
        have put : ∀ (es2 SH : List MapEntry) (c2 : Nat), es2.length = SH.length ->
            (∀ (i : Nat) (e e' : MapEntry), es2[i]? = some e -> SH[i]? = some e' -> e'.key = e.key /\ af e.key = true /\ e'.born = e.born /\ VR ρ S e.val e'.val) ->
            aZ P B w0 ρ ρ S h (h.set b (.nO es2 c2)) w { w with heap := w.heap.setIfInBounds (ρ b).block (.map SH.toArray c2) } := fun es2 SH c2 hl hv =>
          aZ.set hr hg rfl rfl rfl rfl rfl (by simp) (fun k hk => (zS h1).2 k hk) ⟨SH, (zS h1).1, hl, hv⟩
        split at hf
        . rename_i j hj; obtain ⟨a, a', h4, h5, h6⟩ := DO hkr hj w; split at hf
          . rename_i e he; split at hf
            . rename_i k8; simp only [Option.some.injEq] at hf; subst hf
              match a, a', h5 with
              | some (j1, v1), some (j2, v2), ⟨e1, m, e3, e4, e5, e6, e7, e8, e9⟩ =>
                simp only [Option.map_some, Option.some.injEq] at h6
                have q1 : m = j2 := by omega
                have q2 : m = j := by omega
                subst q1 q2; rw [e6] at he; injection he with he; subst he; have alC := (h3 _ _ _ e6 e7).1; refine ⟨_, ?_, put (es.set m { e3 with key := k', val := x }) (eL.set m { e4 with key := k', val := x' }) clock (by simp [h2]) ?_⟩
                . unfold Instr.mapUpdate
                  have hg4 : ((eL.toArray[m]?).map (·.key)).getD k' = e3.key := by simp [e7, alC]
                  simp only [Sem.run_bind, run_underlying hu, Result.andThen_ok, yF h1, rZ hck, h4, hg4, Instr.keyThatStays, k8, if_true, Sem.run_pure, H5 _ h1]; congr 3; apply congrArg (fun z => Obj.map z clock); apply Array.toList_inj.1; refine List.ext_getElem? fun q => ?_; simp only [Array.toList_modify, List.getElem?_modify, List.getElem?_set]; have bL := (List.getElem?_eq_some_iff.1 e7).1; by_cases hq : m = q
                  . subst hq
                    have h9 : eL[m] = e4 := by
                      have := List.getElem?_eq_getElem bL; rw [e7] at this; injection this with this; exact this.symm
                    simp [bL, h9]
                  simp [hq]
                intro i e e' he lQ; rw [List.getElem?_set] at he lQ; split at he
                . rename_i hq; rw [if_pos hq] at lQ; split at he
                  . split at lQ
                    . injection he with he; injection lQ with lQ; subst he lQ; exact ⟨rfl, hak, (h3 _ _ _ e6 e7).2.2.1, hx⟩
                    cases lQ
                  cases he
                rename_i hq; rw [if_neg hq] at lQ
                exact h3 i e e' he lQ
              | none, none, _ => simp at h6
            cases hf
          cases hf
        . rename_i hj; obtain ⟨a, a', h4, h5, h6⟩ := DO hkr hj w; simp only [Option.some.injEq] at hf; subst hf
          match a, a', h5 with
          | some (j1, v1), some (j2, v2), _ => simp at h6
          | none, none, _ =>
            refine ⟨_, ?_, put (es ++ [{ key := k', val := x, born := clock }]) (eL ++ [{ key := k', val := x', born := clock }]) (clock + 1) (by simp [h2]) ?_⟩
            . unfold Instr.mapUpdate; simp only [Sem.run_bind, run_underlying hu, Result.andThen_ok, yF h1, rZ hck, h4, H5 _ h1]; congr 4; simp
            intro i e e' he lQ; rw [List.getElem?_append] at he lQ; rw [<- h2] at lQ; split at he
            . rename_i bL; rw [if_pos bL] at lQ; exact h3 i e e' he lQ
            rename_i bL; rw [if_neg bL] at lQ
            cases hq : i - es.length with
            | zero =>
              rw [hq] at he lQ; simp at he lQ; subst he lQ
              exact ⟨rfl, hak, rfl, hx⟩
            | succ q => rw [hq] at he; simp at he
        cases hf
      cases hf
    cases hf
  cases hf
theorem SI (hr : HR P ρ S B w0 h w) (t : TypeId) :
    pA P B w0 ρ S h w (.map (some h.next)) (h.push (.nO [] 0)) ((Instr.makeMap t none).run P w) := by
  refine ⟨_, _, _, rfl, aZ.push hr (.nO [] 0) (.map #[] 0) (.clean w.heap.size 0 0 (0)) rfl rfl ⟨[], heap_alloc_new w _, rfl, fun i e e' he => by simp at he⟩, ?_⟩; have := VR.map (ρ := ρ.put h.next (.clean w.heap.size 0 0 (0))) (S := Ext S h (h.push (.nO [] 0))) h.next (Ext.lM _); rw [Ren.fE] at this; exact this
theorem zT {t : TypeId} {x x' v : Value} (hr : HR P ρ S B w0 h w) (hx : VR ρ S x x') (hf : xX P t x h = some (v, h')) :
    pA P B w0 ρ S h w v h' ((Instr.range t x').run P w) := by
  unfold xX at hf; split at hf
  . rename_i s hu; simp only [Option.some.injEq, Prod.mk.injEq] at hf; obtain ⟨rfl, rfl⟩ := hf; obtain rfl := hx.r5; refine ⟨ρ.put h.next (.clean w.heap.size 0 0 (0)), w.alloc (.stringIter s 0), .pointer (some ⟨w.heap.size, 0, none⟩), ?_, aZ.push hr (.iter s 0) (.stringIter s 0) (.clean w.heap.size 0 0 (0)) rfl rfl ⟨heap_alloc_new w _, rfl⟩, ?_⟩
    . simp only [Instr.range, Sem.run_bind, run_underlying hu, Result.andThen_ok, Sem.run_pure]; rfl
    have := VR.ptr (ρ := ρ.put h.next (.clean w.heap.size 0 0 (0))) (S := Ext S h (h.push (.iter s 0))) h.next 0 (Ext.lM _); rw [Ren.fE] at this; exact this
  cases hf
theorem yG {ty : TypeId} {x x' v : Value} {MX : Bool} (hr : HR P ρ S B w0 h w) (hx : VR ρ S x x') (hf : w9 x MX h = some (v, h')) :
    pA P B w0 ρ S h w v h' ((Instr.next x' MX ty).run P w) := by
  unfold w9 at hf; split at hf
  . rename_i b; obtain ⟨hs, rfl⟩ := hx.sI; split at hf
    . rename_i s pos hg; obtain ⟨h1, h2⟩ := (hr.aB b _ hg).2
      have FP : (ρ b).at 0 = ⟨(ρ b).block, 0, none⟩ := by simp [Loc.at, h2]
      have jE : (getObj (ρ b).block).run P w = .ok (.stringIter s pos) w := by simp [getObj, Sem.run, h1]
      rw [FP]; simp only at hf; split at hf
      . rename_i bL; simp only [Option.some.injEq, Prod.mk.injEq] at hf; obtain ⟨rfl, rfl⟩ := hf
        have JF : ∀ o', (setObj (ρ b).block o').run P w = .ok () { w with heap := w.heap.setIfInBounds (ρ b).block o' } := fun o' => by simp [setObj, Sem.run, h1]
        refine ⟨ρ, { w with heap := w.heap.setIfInBounds (ρ b).block (.stringIter s (pos + (Utf8.decode s pos).2)) }, _, ?_,
          aZ.set hr hg rfl rfl rfl rfl rfl (by simp) (fun k hk => (zS h1).2 k hk) ⟨(zS h1).1, h2⟩, .mJ rfl⟩
        simp only [Instr.next, Sem.run_bind, jE, Result.andThen_ok, bL, if_true, JF, Sem.run_pure, goInt]
      rename_i bL; simp only [Option.some.injEq, Prod.mk.injEq] at hf; obtain ⟨rfl, rfl⟩ := hf
      have : (Instr.next (.pointer (some ⟨(ρ b).block, 0, none⟩)) true ty).run P w = .ok (.tuple #[.bool false]) w := by
        simp only [Instr.next, Sem.run_bind, jE, Result.andThen_ok, bL, if_false, Sem.run_pure]
      rw [this]; exact pA.pure hr (.mJ rfl)
    cases hf
  cases hf
end Go.Fs
namespace Go.Fs
open Go.RowKit (Below)
variable {P : Program} {ρ bT : Ren} {S S' : Nat -> Prop} {B : Nat} {w0 w w' w1 w2 : World} {h h' h1 h2 : aA}
def Nx (P : Program) (B : Nat) (w0 : World) (ρ : Ren) (S : Nat -> Prop) (h : aA) (w : World) (v : Value) (h' : aA) (r : Result Next) : Prop :=
  ∃ bT w' v', (r = .ok (Next.value v') w' \/ (r = .ok .skip w' /\ v' = undef)) /\ aZ P B w0 ρ bT S h h' w w' /\ VR bT (Ext S h h') v v'
theorem gK {s : Sem Value} {v : Value} (hv : pA P B w0 ρ S h w v h' (s.run P w)) : Nx P B w0 ρ S h w v h' ((do pure (Next.value (<- s)) : Sem Next).run P w) := by
  obtain ⟨bT, w', v', h1, h2, h3⟩ := hv; exact ⟨bT, w', v', .inl (by simp [h1]), h2, h3⟩
theorem s3 {s : Sem Value} {v v' : Value} (hr : HR P ρ S B w0 h w) (h1 : s.run P w = .ok v' w) (hv : VR ρ S v v') : Nx P B w0 ρ S h w v h ((do pure (Next.value (<- s)) : Sem Next).run P w) :=
  gK (by rw [h1]; exact pA.pure hr hv)
theorem JX {s : Sem Unit} (h1 : s.run P w = .ok () w') (m : aZ P B w0 ρ ρ S h h' w w') : Nx P B w0 ρ S h w undef h' ((do s; pure .skip : Sem Next).run P w) :=
  ⟨ρ, w', undef, .inr ⟨by simp [h1], rfl⟩, m, VR.undef⟩
theorem fF {α : Type} {x : Option α} {h h' : aA} {v : α} (e : (x.map fun v => (v, h)) = some (v, h')) : x = some v /\ h' = h := by
  obtain ⟨a, h1, h2⟩ := Option.map_eq_some_iff.1 e; simp only [Prod.mk.injEq] at h2; obtain ⟨rfl, rfl⟩ := h2; exact ⟨h1, rfl⟩
theorem qE {s : Sem Value} {v : Value} (hp : cL P s = some v) (w : World) : s.run P w = .ok v w /\ af v = true := by
  unfold cL at hp; obtain ⟨a, h1, h2⟩ := Option.bind_eq_some_iff.1 hp; obtain ⟨h3, h4⟩ := aT (x := some a) (c := af a) (v := v) (by cases ha : af a <;> simp_all); simp only [Option.some.injEq] at h4; subst h4; exact ⟨cD h1 w, h3⟩
theorem VR.zU {f : FuncId} {a c : Array Value} {v' : Value} (hv : VR ρ S (.func (.func f) a c) v') : ∃ a' c', v' = .func (.func f) a' c' /\ LR ρ S a.toList a'.toList /\ LR ρ S c.toList c'.toList := by
  cases hv with
  | lit h => simp [eF] at h
  | func f a a' c c' ha hA hc hC => exact ⟨a', c', rfl, ⟨by simpa using ha, by simpa using hA⟩, ⟨by simpa using hc, by simpa using hC⟩⟩
theorem VR.JY {l : Nat} {v' : Value} (hv : VR ρ S (.func (.yield l) #[] #[]) v') : S l /\ v' = .func (.yield (ρ l).block) #[] #[] := by
  cases hv with
  | lit h => simp [eF] at h
  | yield l hs => exact ⟨hs, rfl⟩
theorem FW {op : BinOp} {t : TypeId} {x y : Operand} {a' b' : Value} {r : Bool} (he : (Op.equal t a' b').run P w = .ok false w)
    (hg : ∀ q, q = .eql \/ q = .neq -> eqGuard q t x y a' b' = pure ())
    (h1 : binOp .eql t a' b' = (do pure (.bool (<- Op.equal t a' b')))) (h2 : binOp .neq t a' b' = (do pure (.bool (!(<- Op.equal t a' b'))))) (dT : RT op = some r) :
    (do eqGuard op t x y a' b'; binOp op t a' b' : Sem Value).run P w = .ok (.bool r) w := by
  cases op <;> simp only [RT, Option.some.injEq, reduceCtorEq] at dT
  . subst dT; rw [hg _ (.inl rfl), h1]; simp [he]
  subst dT; rw [hg _ (.inr rfl), h2]; simp [he]
theorem ah0 {op : BinOp} {t : TypeId} {x y : Operand} {a b a' b' : Value} {r : Bool} (ha : VR ρ S a a') (hb : VR ρ S b b') (hf : wA P op t a b = some r) (w : World) :
    (do eqGuard op t x y a' b'; binOp op t a' b' : Sem Value).run P w = .ok (.bool r) w := by
  unfold wA at hf; split at hf
  . rename_i A n c; split at hf
    . rename_i e hu; obtain ⟨b0, o, rfl, hs⟩ := ha.JP; obtain ⟨A', c', rfl, _⟩ := hs.iB; obtain rfl := hb.iT; refine FW ?_ (fun q hq => by rcases hq with rfl | rfl <;> rfl) rfl rfl hf; show (Op.equalIn 10000 t _ _).run P w = _; unfold Op.equalIn; simp only [Sem.run_bind, run_underlying hu, Result.andThen_ok, Sem.run_pure]
    cases hf
  . rename_i b0; split at hf
    . rename_i k e hu; obtain ⟨_, rfl⟩ := ha.y8; obtain rfl := hb.iA rfl; refine FW ?_ (fun q hq => by rcases hq with rfl | rfl <;> rfl) rfl rfl hf; show (Op.equalIn 10000 t _ _).run P w = _; unfold Op.equalIn; simp only [Sem.run_bind, run_underlying hu, Result.andThen_ok, Sem.run_pure]
    cases hf
  . rename_i f a1 a2; split at hf
    . rename_i p1 p2 p3 hu
      have l5 : ∃ f' a1' a2', a' = .func f' a1' a2' := by
        cases ha with
        | lit h => simp [eF] at h
        | func f a a' c c' ha hA hc hC => exact ⟨_, _, _, rfl⟩
        | yield l hs => exact ⟨_, _, _, rfl⟩
      obtain ⟨f', a1', a2', rfl⟩ := l5; obtain rfl := hb.iA rfl; refine FW ?_ (fun q hq => by rcases hq with rfl | rfl <;> rfl) rfl rfl hf; show (Op.equalIn 10000 t _ _).run P w = _; unfold Op.equalIn; simp only [Sem.run_bind, run_underlying hu, Result.andThen_ok, Sem.run_pure]
    cases hf
  cases hf
end Go.Fs
namespace Go.Fs
open Go.RowKit (Below)
variable {P : Program} {ρ bT : Ren} {S S' : Nat -> Prop} {B : Nat} {w0 w w' w1 w2 : World} {h h' h1 h2 : aA}
theorem MZ {argTypes : Array TypeId} {ty : TypeId} {x x' v : Value} (hx : VR ρ S x x') (hf : w5 x = some v) : ∃ v', (Builtin.unsafeSliceData_ argTypes ty #[x']).run P w = .ok v' w /\ VR ρ S v v' := by
  unfold w5 at hf; split at hf
  . obtain rfl := hx.iT; simp only [Option.some.injEq] at hf; subst hf; exact ⟨_, Lib.run_unsafeSliceData_nil _ _ _ _ _, .lit rfl⟩
  . rename_i b o n m; obtain ⟨A, c, rfl, hn, _, h0, hb⟩ := hx.iB
    cases hz : Nat.beq n 0 with
    | true => rw [hz] at hf; cases hf
    | false =>
      rw [hz] at hf; simp only [cond_false, Option.some.injEq] at hf; subst hf; have hn0 := gA hz; have iY : b ≠ 0 := fun e => hn0 (h0 e); obtain ⟨hs, rfl, _⟩ := hb iY; exact ⟨_, Lib.run_unsafeSliceData_row _ _ _ _ _ _ (by omega), .ptr b o hs⟩
  cases hf
theorem C2 : ∀ {cs cs' : List Value} {l : List UInt8}, LR ρ S cs cs' -> qQ cs = some l -> cs' = l.map (fun x => Value.int .u8 x.toNat)
  | [], cs', l, hl, hb => by
    simp only [qQ, Option.some.injEq] at hb; subst hb
    exact List.eq_nil_of_length_eq_zero hl.1.symm
  | v :: r, [], l, hl, _ => by have := hl.1; simp at this
  | v :: r, v' :: r', l, hl, hb => by
    unfold qQ at hb; split at hb
    . rename_i he; cases he
    . rename_i n r0 he; simp only [List.cons.injEq] at he; obtain ⟨rfl, rfl⟩ := he; obtain ⟨hc, rD⟩ := aT hb; obtain ⟨l0, h1, rfl⟩ := Option.map_eq_some_iff.1 rD; have hv : VR ρ S (.int .u8 (.ofNat n)) v' := hl.2 0 (by simp); have hr : LR ρ S r r' := ⟨by have := hl.1; simpa using this, fun i hi => by have := hl.2 (i + 1) (by simp; omega); simpa using this⟩; have hn := jP hc; rw [hv.r4, C2 hr h1]; simp only [List.map_cons, UInt8.toNat_ofNat', Nat.reducePow]; rw [Nat.mod_eq_of_lt hn]; rfl
    cases hb
theorem H6 : ∀ {cs : List Value} {l : List UInt8}, qQ cs = some l -> l.length = cs.length
  | [], l, hb => by
    simp only [qQ, Option.some.injEq] at hb
    subst hb; rfl
  | v :: r, l, hb => by
    unfold qQ at hb; split at hb
    . rename_i he; cases he
    . rename_i n r0 he; simp only [List.cons.injEq] at he; obtain ⟨rfl, rfl⟩ := he; obtain ⟨hc, rD⟩ := aT hb; obtain ⟨l0, h1, rfl⟩ := Option.map_eq_some_iff.1 rD; rw [List.length_cons, List.length_cons, H6 h1]
    cases hb
theorem N0 {argTypes : Array TypeId} {ty : TypeId} {p n p' n' v : Value} (hr : HR P ρ S B w0 h w) (hp : VR ρ S p p') (hn : VR ρ S n n') (hf : w6 P argTypes p n h = some (v, h')) :
    pA P B w0 ρ S h w v h' ((Builtin.unsafeString_ argTypes ty #[p', n']).run P w) := by
  unfold w6 at hf; split at hf
  . rename_i pt it FP; have ha : argTypes = #[pt, it] := Array.toList_inj.1 FP; subst ha; split at hf
    . rename_i e hu; simp only [Option.some.injEq, Prod.mk.injEq] at hf; obtain ⟨rfl, rfl⟩ := hf; rw [hp.iA rfl, hn.r4, Lib.run_unsafeString_none]; exact pA.pure hr (.lit rfl)
    cases hf
  . rename_i pt it b n FP; have ha : argTypes = #[pt, it] := Array.toList_inj.1 FP; subst ha; split at hf
    . rename_i e e' cs more hu hg; obtain ⟨hc, dU⟩ := aT hf; obtain ⟨hc, hc4⟩ := b6 hc; obtain ⟨hc, DL⟩ := b6 hc; obtain ⟨wJ, nT⟩ := b6 hc; obtain rfl := bU wJ; have nT := bU nT; have DL := fP DL; have hc4 := fP hc4; split at dU
      . rename_i l hl; simp only [Option.some.injEq, Prod.mk.injEq] at dU; obtain ⟨rfl, rfl⟩ := dU; obtain ⟨hsb, cur, k1, k2, k3, k4, k5, k6, k7⟩ := hr.aB b _ hg
        have hll : l.length = n + 1 := by rw [H6 hl, List.length_take]; omega
        have hlr : LR ρ S (cs.take (n + 1)) (cur.take (n + 1)) := ⟨by rw [List.length_take, List.length_take]; omega, fun i hi => by
          rw [List.length_take] at hi; have := k7 i (by omega); rw [List.getD_eq_getElem?_getD, List.getD_eq_getElem?_getD, List.getElem?_take, if_pos (by omega), List.getElem?_take, if_pos (by omega), <- List.getD_eq_getElem?_getD, <- List.getD_eq_getElem?_getD]
          exact this⟩
        have alD := C2 hlr hl
        have alE : p' = .pointer (some ⟨(ρ b).block, 0, none⟩) := by
          rw [hp.sI.2]; unfold Loc.at; rw [k2]
        have hni : n' = .int .i64 (l.length : Int) := by rw [hn.r4, hll]; rfl
        have uN : ∀ j x, l[j]? = some x -> w.cell? ((⟨(ρ b).block, 0, none⟩ : Addr).add j) = some (.int .u8 x.toNat) := fun j x hj => by
          obtain ⟨hj1, JZ⟩ := List.getElem?_eq_some_iff.1 hj
          have h3 : (cur.take (n + 1))[j]? = some (.int .u8 x.toNat) := by rw [alD, List.getElem?_map, hj]; rfl
          rw [List.getElem?_take, if_pos (by omega)] at h3
          have h4 : ((⟨(ρ b).block, 0, none⟩ : Addr).add j) = ⟨(ρ b).block, j, none⟩ := by
            unfold Addr.add; by_cases hj0 : j = 0
            . subst hj0; rfl
            simp [hj0]
          rw [h4]; simp [World.cell?, k1, h3]
        have eK := Lib.run_unsafeString_row w pt it ty e' hu nT (ρ b).block cur.length (by simp [World.shape?, k1]) l (by intro e0; rw [e0] at hll; simp at hll) (by omega) (by omega) uN; rw [alE, hni, eK]; refine ⟨ρ, _, _, rfl, ?_, .lit rfl⟩
        have hfz : (w.freeze ⟨(ρ b).block, 0, none⟩ l.length).os = w.os /\ (w.freeze ⟨(ρ b).block, 0, none⟩ l.length).tape = w.tape /\ (w.freeze ⟨(ρ b).block, 0, none⟩ l.length).output = w.output /\ (w.freeze ⟨(ρ b).block, 0, none⟩ l.length).heap.size = w.heap.size /\ ∀ k, k ≠ (ρ b).block -> (w.freeze ⟨(ρ b).block, 0, none⟩ l.length).heap[k]? = w.heap[k]? := by
          unfold World.freeze; rw [if_neg (by omega)]; refine ⟨rfl, rfl, rfl, by simp, fun k hk => ?_⟩; simp only [Array.getElem?_modify]; rw [if_neg (fun e0 => hk e0.symm)]
        obtain ⟨f1, f2, f3, f4, f5⟩ := hfz; exact aZ.gone hr hg rfl f1 f2 f3 f4 f5 (by unfold World.freeze; split <;> exact Nat.le_refl _)
      cases dU
    cases hf
  cases hf
end Go.Fs
namespace Go.Fs
open Go.RowKit (Below)
variable {P : Program} {ρ bT : Ren} {S S' : Nat -> Prop} {B : Nat} {w0 w w' w1 w2 : World} {h h' h1 h2 : aA}
theorem jK {s : Sem Value} {v : Value} (hr : HR P ρ S B w0 h w) (hx : ∃ v', s.run P w = .ok v' w /\ VR ρ S v v') : Nx P B w0 ρ S h w v h ((do pure (Next.value (<- s)) : Sem Next).run P w) := by
  obtain ⟨v', h1, h2⟩ := hx; exact s3 hr h1 h2
theorem K0 {x o : Operand} (y : Option Operand) (h : y = some o) (hx : x = o) : x ∈ y.toArray.toList := by
  subst h hx; simp
theorem NW {f : Ieee.Format} {x : Nat} (h1 : f.infRung < x % f.signWeight) (h2 : f.binade <= f.infRung) : (f.read x).isNaN = true := by
  unfold Ieee.Format.read; dsimp only; rw [if_neg (by omega), if_neg (by omega), if_neg (by omega)]; rfl
theorem adG (t : Nat) : ((FloatKind.f32).decode ((t % 2) * 2 ^ 31 + 0x7f800000 + 1 + (t / 2) % (2 ^ 23 - 1))).isNaN = true := by
  refine NW (f := Ieee.single) ?_ (by decide)
  have e1 : Ieee.single.infRung = 2139095040 := by decide
  have e2 : Ieee.single.signWeight = 2147483648 := by decide
  rw [e1, e2]; have h1 : t / 2 % (2 ^ 23 - 1) < 2 ^ 23 - 1 := Nat.mod_lt _ (by decide); generalize t / 2 % (2 ^ 23 - 1) = r at h1 ⊢; rcases Nat.mod_two_eq_zero_or_one t with h | h <;> rw [h] <;> omega
theorem adH (t : Nat) : ((FloatKind.f64).decode ((t % 2) * 2 ^ 63 + 0x7ff0000000000000 + 1 + (t / 2) % (2 ^ 52 - 1))).isNaN = true := by
  refine NW (f := Ieee.double) ?_ (by decide)
  have e1 : Ieee.double.infRung = 9218868437227405312 := by decide
  have e2 : Ieee.double.signWeight = 9223372036854775808 := by decide
  rw [e1, e2]; have h1 : t / 2 % (2 ^ 52 - 1) < 2 ^ 52 - 1 := Nat.mod_lt _ (by decide); generalize t / 2 % (2 ^ 52 - 1) = r at h1 ⊢; rcases Nat.mod_two_eq_zero_or_one t with h | h <;> rw [h] <;> omega
theorem K1 (k : FloatKind) (a b n : Nat) : (k.decode ((Question.nanBits k a b).cut n)).isNaN = true := by
  cases k
  . exact adG n
  exact adH n
theorem K2 (k : FloatKind) (b n : Nat) : (k.decode ((Question.nanConv k b).cut n)).isNaN = true := by
  cases k
  . exact adG n
  exact adH n
theorem SJ {s : Sem Value} {v v' : Value} (hr : HR P ρ S B w0 h w) (h1 : s.run P w = .ok v' { w with drawn := w.drawn + 1 }) (hv : VR ρ S v v') : Nx P B w0 ρ S h w v h ((do pure (Next.value (<- s)) : Sem Next).run P w) :=
  gK (by rw [h1]; exact ⟨ρ, _, v', rfl, aZ.wH (n := w.drawn + 1) (aZ.same (hr.drew _)), hv.mono fun _ hb => ⟨.inl hb, rfl⟩⟩)
theorem adI {op : BinOp} {t : TypeId} {x y : Operand} {a b v : Value} (hr : HR P ρ S B w0 h w) (hf : zN op a b = some v) : Nx P B w0 ρ S h w v h ((do pure (Next.value (<- (do eqGuard op t x y a b; binOp op t a b))) : Sem Next).run P w) := by
  unfold zN at hf; split at hf
  . rename_i k p k' q; obtain ⟨hc, hv⟩ := aT hf; obtain ⟨hk, hn⟩ := b6 hc; obtain rfl := of_decide_eq_true hk; obtain rfl := Option.some.inj hv; refine SJ hr (v' := .float k ((Question.nanBits k p q).cut (w.tape w.drawn (Question.nanBits k p q)))) ?_ (.nan k _ (K1 k p q _)); have hq : (Question.nanBits k p q).forced = false := rfl; unfold JC at hn; split at hn
    all_goals first | (cases hn; done) | skip
    all_goals
      rw [Option.isNone_iff_eq_none] at hn; simp [eqGuard, binOp, Op.floatArith, hn, run_choose, hq]
  cases hf
theorem VR.uJ {v v' : Value} {k : FloatKind} (hv : VR ρ S v v') (hk : uJ v = some k) : ∃ b, v' = .float k b /\ (D5 v = true -> (k.decode b).isNaN = true) := by
  unfold Fs.uJ at hk; split at hk
  . rename_i k0 b; obtain rfl := Option.some.inj hk; exact ⟨b, hv.iA rfl, fun e => by cases e⟩
  . rename_i k0; obtain rfl := Option.some.inj hk
    cases hv with
    | lit h => simp [eF] at h
    | nan k b hb => exact ⟨b, rfl, fun _ => hb⟩
  cases hk
theorem VX {k : FloatKind} {a b : Nat} (h : (k.decode a).isNaN = true \/ (k.decode b).isNaN = true) : k.format.order a b = none := by
  unfold Ieee.Format.order; rcases h with h | h
  . have : (k.format.read a).isNaN = true := h; cases hd : k.format.read a <;> rw [hd] at this <;> first | (cases this; done) | rfl
  have : (k.format.read b).isNaN = true := h; cases hd : k.format.read b <;> rw [hd] at this <;> first | (cases this; done) | skip; cases k.format.read a <;> rfl
theorem adJ {op : BinOp} {t : TypeId} {x y : Operand} {a b a' b' : Value} {r : Bool} (ha : VR ρ S a a') (hb : VR ρ S b b') (hf : rU op a b = some r) (w : World) : (do eqGuard op t x y a' b'; binOp op t a' b' : Sem Value).run P w = .ok (.bool r) w := by
  unfold rU at hf; split at hf
  . rename_i k k' h1 h2; obtain ⟨hc, hv⟩ := aT hf; obtain ⟨hk, hn⟩ := b6 hc; obtain rfl := of_decide_eq_true hk; obtain ⟨p, rfl, hp⟩ := ha.uJ h1; obtain ⟨q, rfl, hq⟩ := hb.uJ h2
    have ho : k.format.order p q = none := VX (by
      rcases Bool.or_eq_true_iff.1 hn with hn | hn
      . exact .inl (hp hn)
      exact .inr (hq hn))
    cases op <;> simp only [IU, Option.some.injEq, reduceCtorEq] at hv <;> subst hv <;> simp [eqGuard, binOp, Op.floatCmp, ho]
  cases hf
theorem adK {s d : TypeId} {a v : Value} (hr : HR P ρ S B w0 h w) (hf : zO P s d a = some v) : Nx P B w0 ρ S h w v h ((do pure (Next.value (<- convert s d a)) : Sem Next).run P w) := by
  unfold zO at hf; split at hf
  . rename_i k b u k' hu hd; obtain ⟨hc, hv⟩ := aT hf; obtain ⟨hk, hn⟩ := b6 hc; obtain rfl := Option.some.inj hv
    have cM : ¬ k = k' := by simpa using hk
    refine SJ hr (v' := .float k' ((Question.nanConv k' b).cut (w.tape w.drawn (Question.nanConv k' b)))) ?_ (.nan k' _ (K2 k' b _)); have hq : (Question.nanConv k' b).forced = false := rfl
    cases he : k.decode b with
    | nan n f => cases u <;> simp [convert, run_underlying hu, run_underlying hd, Conv.floatToFloat, cM, he, run_choose, hq]
    | _ => rw [he] at hn; cases hn
  cases hf
theorem aaN {call : FuncId -> List Value -> aA -> Option (Value × aA)} {yield : Nat -> List Value -> aA -> Option (Value × aA)} {o : Oper} {ev kT : Operand -> Value} {v : Value}
    (hr : HR P ρ S B w0 h w) (bY : ∀ x ∈ o.op.operands.toList, VR ρ S (ev x) (kT x)) (pV : ∀ c f, o.op = .call c -> c.callee ≠ .value f)
    (hf : cQ P call yield o ev h = some (v, h')) : Nx P B w0 ρ S h w v h' ((execOp kT o).run P w) := by
  unfold cQ at hf; unfold execOp
  cases dT : o.op with
  | move x =>
    simp only [dT, Op.operands, List.mem_cons, List.not_mem_nil, or_false, forall_eq] at hf bY ⊢; simp only [Option.some.injEq, Prod.mk.injEq] at hf; obtain ⟨rfl, rfl⟩ := hf
    exact ⟨ρ, w, _, .inl rfl, aZ.same hr, bY.mono fun _ hb => ⟨.inl hb, rfl⟩⟩
  | assign x =>
    simp only [dT, Op.operands, List.mem_cons, List.not_mem_nil, or_false, forall_eq] at hf bY ⊢; simp only [Option.some.injEq, Prod.mk.injEq] at hf; obtain ⟨rfl, rfl⟩ := hf
    exact ⟨ρ, w, _, .inl rfl, aZ.same hr, bY.mono fun _ hb => ⟨.inl hb, rfl⟩⟩
  | pick c a b =>
    simp only [dT, Op.operands, List.mem_cons, List.not_mem_nil, or_false, forall_eq_or_imp, forall_eq] at hf bY ⊢; obtain ⟨e1, e2, e3⟩ := bY; split at hf
    . rename_i hc; simp only [Option.some.injEq, Prod.mk.injEq] at hf; obtain ⟨rfl, rfl⟩ := hf; rw [hc] at e1; refine ⟨ρ, w, kT a, .inl ?_, aZ.same hr, e2.mono fun _ hb => ⟨.inl hb, rfl⟩⟩; simp [e1.vB, asBool]
    . rename_i hc; simp only [Option.some.injEq, Prod.mk.injEq] at hf; obtain ⟨rfl, rfl⟩ := hf; rw [hc] at e1; refine ⟨ρ, w, kT b, .inl ?_, aZ.same hr, e3.mono fun _ hb => ⟨.inl hb, rfl⟩⟩; simp [e1.vB, asBool]
    cases hf
  | alloc e =>
    simp only [dT] at hf ⊢; split at hf
    . rename_i z hz; obtain ⟨i, hi, hiz⟩ := Option.bind_eq_some_iff.1 hz; split at hf
      . rename_i haz; have := NR hr hf (.mJ haz); refine gK ?_
        have he : (Instr.alloc e true (.tuple #[])).run P w = ((do pure (.pointer (some (<- newVar e z))) : Sem Value)).run P w := by
          simp only [Instr.alloc, Sem.run_bind, gO e i z hi hiz, Result.andThen_ok]
        rw [he]; exact this
      cases hf
    cases hf
  | box e x =>
    simp only [dT, Op.operands, List.mem_cons, List.not_mem_nil, or_false, forall_eq] at hf bY ⊢
    exact gK (NR hr hf bY)
  | build t parts =>
    simp only [dT] at hf ⊢; rw [dT] at bY; have adL : ∀ p ∈ parts.toList, VR ρ S (ev p.2) (kT p.2) := fun p hp => bY p.2 (by simp only [Op.operands]; exact List.mem_map_of_mem hp); obtain ⟨hc, dU⟩ := aT hf; obtain ⟨jO, hz⟩ := b6 hc; obtain ⟨tN, rfl⟩ := fF dU
    cases PM : (P.info? t).bind (·.zero) with
    | none => rw [PM] at hz; cases hz
    | some z =>
      rw [PM] at hz
      have DI : z.cells.toList.all eF = true := by simpa using hz
      exact jK hr (aaI adL jO PM DI tN w)
  | buildSlice t len parts =>
    simp only [dT] at hf ⊢; rw [dT] at bY; have adL : ∀ p ∈ parts.toList, VR ρ S (ev p.2) (kT p.2) := fun p hp => bY p.2 (by simp only [Op.operands]; exact List.mem_map_of_mem hp)
    exact gK (JR hr adL hf)
  | load t a =>
    simp only [dT, Op.operands, List.mem_cons, List.not_mem_nil, or_false, forall_eq] at hf bY ⊢; obtain ⟨hg, rfl⟩ := fF hf; clear hf; have hf := hg
    exact jK hr (JN hr hf bY)
  | store t a x =>
    simp only [dT, Op.operands, List.mem_cons, List.not_mem_nil, or_false, forall_eq_or_imp, forall_eq] at hf bY ⊢; obtain ⟨h2, h3, h4⟩ := Option.map_eq_some_iff.1 hf; simp only [Prod.mk.injEq] at h4; obtain ⟨rfl, rfl⟩ := h4; obtain ⟨w', h5, h6⟩ := S4 hr h3 bY.1 bY.2
    exact JX h5 h6
  | nilCheck x =>
    simp only [dT, Op.operands, List.mem_cons, List.not_mem_nil, or_false, forall_eq] at hf bY ⊢; split at hf
    . rename_i a hx; simp only [Option.some.injEq, Prod.mk.injEq] at hf; obtain ⟨rfl, rfl⟩ := hf; rw [hx] at bY; obtain ⟨b0, o0, rfl, hs, he⟩ := bY.JO; rw [he]; exact ⟨ρ, w, _, .inl rfl, aZ.same hr, (VR.ptr b0 o0 hs).mono fun _ hb => ⟨.inl hb, rfl⟩⟩
    . rename_i f a b hx; simp only [Option.some.injEq, Prod.mk.injEq] at hf; obtain ⟨rfl, rfl⟩ := hf; rw [hx] at bY; obtain ⟨a', c', he, _⟩ := bY.zU; rw [he] at bY ⊢; exact ⟨ρ, w, _, .inl rfl, aZ.same hr, bY.mono fun _ hb => ⟨.inl hb, rfl⟩⟩
    cases hf
  | binOp op t x y yt =>
    simp only [dT, Op.operands, List.mem_cons, List.not_mem_nil, or_false, forall_eq_or_imp, forall_eq] at hf bY ⊢; obtain ⟨e1, e2⟩ := bY; split at hf
    . rename_i pW; obtain ⟨a1, a2⟩ := b6 pW; obtain ⟨hg, rfl⟩ := fF hf; clear hf; have hf := hg; rw [e1.dR a1, e2.dR a2]
      cases hp : cL P (do eqGuard op t x y (ev x) (ev y); binOp op t (ev x) (ev y)) with
      | some u =>
        rw [hp] at hf; obtain rfl := Option.some.inj hf; obtain ⟨h1, h2⟩ := qE hp w
        exact s3 hr h1 (.mJ h2)
      | none =>
        rw [hp] at hf; exact adI hr hf
    obtain ⟨r, h3, h4⟩ := Option.map_eq_some_iff.1 hf; simp only [Prod.mk.injEq] at h4; obtain ⟨rfl, rfl⟩ := h4
    cases hp : wA P op t (ev x) (ev y) with
    | some u =>
      rw [hp] at h3; obtain rfl := Option.some.inj h3
      exact s3 hr (ah0 e1 e2 hp w) (.mJ rfl)
    | none =>
      rw [hp] at h3
      exact s3 hr (adJ e1 e2 h3 w) (.mJ rfl)
  | unOp op t x =>
    simp only [dT, Op.operands, List.mem_cons, List.not_mem_nil, or_false, forall_eq] at hf bY ⊢; split at hf
    . rename_i pW; obtain ⟨hg, rfl⟩ := fF hf; clear hf; have hf := hg; rw [bY.dR pW]; obtain ⟨h1, h2⟩ := qE hf w; exact s3 hr h1 (.mJ h2)
    cases hf
  | convert s d x =>
    simp only [dT, Op.operands, List.mem_cons, List.not_mem_nil, or_false, forall_eq] at hf bY ⊢; split at hf
    . rename_i pW; obtain ⟨hg, rfl⟩ := fF hf; clear hf; have hf := hg; rw [bY.dR pW]
      cases hp : cL P (convert s d (ev x)) with
      | some u =>
        rw [hp] at hf; obtain rfl := Option.some.inj hf; obtain ⟨h1, h2⟩ := qE hp w
        exact s3 hr h1 (.mJ h2)
      | none =>
        rw [hp] at hf; exact adK hr hf
    cases hf
  | makeFunc fn first captured =>
    simp only [dT] at hf ⊢; rw [dT] at bY; simp only [Op.operands, Array.toList_append, List.mem_append] at bY
    cases fn with
    | func f =>
      simp only [Option.some.injEq, Prod.mk.injEq] at hf; obtain ⟨rfl, rfl⟩ := hf
      have l1 : LR ρ S (first.map ev).toList (first.map kT).toList := by
        simp only [Array.toList_map]; exact LR.map _ _ _ fun x hx => bY x (.inl hx)
      have l2 : LR ρ S (captured.map ev).toList (captured.map kT).toList := by
        simp only [Array.toList_map]; exact LR.map _ _ _ fun x hx => bY x (.inr hx)
      have hv : VR ρ S (.func (.func f) (first.map ev) (captured.map ev)) (.func (.func f) (first.map kT) (captured.map kT)) :=
        .func f _ _ _ _ (by simp) (by simpa using l1.2) (by simp) (by simpa using l2.2)
      exact s3 hr rfl hv
    | _ => cases hf
  | makeMap t r =>
    simp only [dT] at hf ⊢
    cases r with
    | none =>
      simp only [Option.some.injEq, Prod.mk.injEq] at hf; obtain ⟨rfl, rfl⟩ := hf
      exact gK (SI hr t)
    | some r => cases hf
  | makeSlice t l c =>
    simp only [dT, Op.operands, List.mem_cons, List.not_mem_nil, or_false, forall_eq_or_imp, forall_eq] at hf bY ⊢
    exact gK (MU hr bY.1 bY.2 hf)
  | slice t x lo hi mx =>
    simp only [dT] at hf ⊢; rw [dT] at bY; simp only [Op.operands, Array.toList_append, List.mem_append] at bY; obtain ⟨hg, rfl⟩ := fF hf; clear hf; have hf := hg; refine jK hr (aaL hr (bY x (.inl (.inl (.inl (by simp))))) (OR.of_map fun o ho => ?_) (OR.of_map fun o ho => ?_) (OR.of_map fun o ho => ?_) hf)
    . exact bY o (.inl (.inl (.inr (K0 lo ho rfl))))
    . exact bY o (.inl (.inr (K0 hi ho rfl)))
    exact bY o (.inr (K0 mx ho rfl))
  | fieldAddr s x f =>
    simp only [dT, Op.operands, List.mem_cons, List.not_mem_nil, or_false, forall_eq] at hf bY ⊢; obtain ⟨hg, rfl⟩ := fF hf; clear hf; have hf := hg
    exact jK hr (S7 bY hf w)
  | field s x f =>
    simp only [dT, Op.operands, List.mem_cons, List.not_mem_nil, or_false, forall_eq] at hf bY ⊢; obtain ⟨hg, rfl⟩ := fF hf; clear hf; have hf := hg
    exact jK hr (aaJ bY hf w)
  | indexAddr s x ix =>
    simp only [dT, Op.operands, List.mem_cons, List.not_mem_nil, or_false, forall_eq_or_imp, forall_eq] at hf bY ⊢; split at hf
    . rename_i pW; obtain ⟨hg, rfl⟩ := fF hf; clear hf; have hf := hg; rw [bY.2.dR pW]; exact jK hr (S8 bY.1 hf w)
    cases hf
  | index s x ix =>
    simp only [dT, Op.operands, List.mem_cons, List.not_mem_nil, or_false, forall_eq_or_imp, forall_eq] at hf bY ⊢; split at hf
    . rename_i pW; obtain ⟨hg, rfl⟩ := fF hf; clear hf; have hf := hg; rw [bY.2.dR pW]; exact jK hr (aaK bY.1 hf w)
    cases hf
  | lookup s x ix ok =>
    simp only [dT, Op.operands, List.mem_cons, List.not_mem_nil, or_false, forall_eq_or_imp, forall_eq] at hf bY ⊢; obtain ⟨hg, rfl⟩ := fF hf; clear hf; have hf := hg
    exact jK hr (VW hr bY.1 bY.2 hf)
  | mapUpdate t m k x =>
    simp only [dT, Op.operands, List.mem_cons, List.not_mem_nil, or_false, forall_eq_or_imp, forall_eq] at hf bY ⊢; obtain ⟨h2, h3, h4⟩ := Option.map_eq_some_iff.1 hf; simp only [Prod.mk.injEq] at h4; obtain ⟨rfl, rfl⟩ := h4; obtain ⟨w', h5, h6⟩ := BL hr bY.1 bY.2.1 bY.2.2 h3
    exact JX h5 h6
  | insert t m k x =>
    simp only [dT, Op.operands, List.mem_cons, List.not_mem_nil, or_false, forall_eq_or_imp, forall_eq] at hf bY ⊢; obtain ⟨h2, h3, h4⟩ := Option.map_eq_some_iff.1 hf; simp only [Prod.mk.injEq] at h4; obtain ⟨rfl, rfl⟩ := h4; obtain ⟨w', h5, h6⟩ := BL hr bY.1 bY.2.1 bY.2.2 h3
    exact JX h5 h6
  | range t x =>
    simp only [dT, Op.operands, List.mem_cons, List.not_mem_nil, or_false, forall_eq] at hf bY ⊢
    exact gK (zT hr bY hf)
  | next it s =>
    simp only [dT, Op.operands, List.mem_cons, List.not_mem_nil, or_false, forall_eq] at hf bY ⊢
    exact gK (yG hr bY hf)
  | extract t ix =>
    simp only [dT, Op.operands, List.mem_cons, List.not_mem_nil, or_false, forall_eq] at hf bY ⊢
    cases hj : tT (ev t) with
    | true => rw [hj] at hf; cases hf
    | false =>
      rw [hj] at hf; simp only [cond_false] at hf; obtain ⟨hg, rfl⟩ := fF hf; clear hf; have hf := hg
      exact jK hr (S6 bY (aaF hj) hf w)
  | call c =>
    simp only [dT] at hf ⊢; rw [dT] at bY; simp only [Op.operands, Call.operands, Array.toList_append, List.mem_append] at bY
    cases hc : c.callee with
    | value f => exact absurd hc (pV c f dT)
    | invoke r n => rw [hc] at hf; cases hf
    | builtin b =>
      rw [hc] at hf bY; simp only [List.not_mem_nil, false_or] at hf bY
      have BK : ∀ w, (resolve kT c o.type).run P w = .ok { target := .builtin b c.argTypes o.type (c.args.map fun | .const _ => true | _ => false), args := c.args.map kT } w := fun w => by
        unfold resolve; rw [hc]; rfl
      have eK : ((do let d <- resolve kT c o.type; invoke d.target d.args : Sem Next)).run P w = (builtin b c.argTypes o.type (c.args.map fun | .const _ => true | _ => false) (c.args.map kT)).run P w := by
        simp only [Sem.run_bind, BK, Result.andThen_ok]; rfl
      rw [eK]
      have hl : LR ρ S (c.args.toList.map ev) (c.args.map kT).toList := by
        rw [Array.toList_map]; exact LR.map _ _ _ fun x hx => bY x hx
      have two : ∀ a b, c.args.toList.map ev = [a, b] -> ∃ a' b', c.args.map kT = #[a', b'] /\ VR ρ S a a' /\ VR ρ S b b' := fun a b he => by
        rw [he] at hl; have h1 := hl.1
        match hm : (c.args.map kT).toList, h1 with
        | [a', b'], _ =>
          rw [hm] at hl; exact ⟨a', b', Array.toList_inj.1 hm, hl.2 0 (by simp), hl.2 1 (by simp)⟩
      have one : ∀ a, c.args.toList.map ev = [a] -> ∃ a', c.args.map kT = #[a'] /\ VR ρ S a a' := fun a he => by
        rw [he] at hl; have h1 := hl.1
        match hm : (c.args.map kT).toList, h1 with
        | [a'], _ =>
          rw [hm] at hl; exact ⟨a', Array.toList_inj.1 hm, hl.2 0 (by simp)⟩
      unfold w7 at hf; split at hf
      . rename_i s x he; obtain ⟨s', x', h1, h2, h3⟩ := two _ _ he; rw [h1]; exact gK (VV hr h2 h3 hf)
      . rename_i s x he; obtain ⟨s', x', h1, h2, h3⟩ := two _ _ he; rw [h1]; exact gK (ad9 hr h2 h3 hf)
      . rename_i x he; obtain ⟨x', h1, h2⟩ := one _ he; rw [h1]
        cases wD : qY P c.argTypes x h with
        | none => rw [wD] at hf; cases hf
        | some IE =>
          rw [wD] at hf; simp only [Option.map_some, Option.some.injEq, Prod.mk.injEq] at hf; obtain ⟨rfl, rfl⟩ := hf; exact gK (aaM hr h2 wD)
      . rename_i x he; obtain ⟨x', h1, h2⟩ := one _ he; rw [h1]; obtain ⟨hg, rfl⟩ := fF hf; clear hf; have hf := hg; exact jK hr (agY hr h2 hf)
      . rename_i x he; obtain ⟨x', h1, h2⟩ := one _ he; rw [h1]; obtain ⟨hg, rfl⟩ := fF hf; clear hf; have hf := hg; exact jK hr (agZ hr h2 hf)
      . rename_i x he; obtain ⟨x', h1, h2⟩ := one _ he; rw [h1]; obtain ⟨hg, rfl⟩ := fF hf; clear hf; have hf := hg; exact jK hr (MZ h2 hf)
      . rename_i p n he; obtain ⟨p', n', h1, h2, h3⟩ := two _ _ he; rw [h1]; exact gK (N0 hr h2 h3 hf)
      . split at hf
        . rename_i pW; obtain ⟨hg, rfl⟩ := fF hf; clear hf; have hf := hg; have he : c.args.map kT = (c.args.toList.map ev).toArray := Array.toList_inj.1 (hl.dR pW); rw [he]; obtain ⟨h1, h2⟩ := qE hf w; exact s3 hr h1 (.mJ h2)
        cases hf
      . split at hf
        . rename_i pW; obtain ⟨hg, rfl⟩ := fF hf; clear hf; have hf := hg; have he : c.args.map kT = (c.args.toList.map ev).toArray := Array.toList_inj.1 (hl.dR pW); rw [he]; obtain ⟨h1, h2⟩ := qE hf w; exact s3 hr h1 (.mJ h2)
        cases hf
      cases hf
  | _ => simp only [dT] at hf; cases hf
end Go.Fs
namespace Go.Fs
variable {P : Program} {ρ : Ren} {S : Nat -> Prop} {B : Nat} {w0 w : World} {h : aA}
theorem fold_push : ∀ (l : List UInt8) (acc : ByteArray), (l.map fun x => ((x.toNat : Nat) : Int)).foldl (fun r n => r.push (UInt8.ofNat n.toNat)) acc = ⟨acc.data ++ l.toArray⟩
  | [], acc => by simp
  | x :: r, acc => by
    rw [List.map_cons, List.foldl_cons, fold_push r]; congr 1; show (acc.push (UInt8.ofNat ((x.toNat : Nat) : Int).toNat)).data ++ r.toArray = _; rw [Int.toNat_natCast, UInt8.ofNat_toNat]; show acc.data.push x ++ r.toArray = _; simp
theorem VY {s d e : TypeId} {b n m : Nat} {e' : TypeId} {cs : List Value} {more : Bool} {x' : Value} {l : List UInt8} (hr : HR P ρ S B w0 h w) (hx : VR ρ S (.slice (some ⟨b, 0, none⟩) n m) x') (hu : P.underlying s = some (.slice e)) (he : P.underlying e = some (.int .u8)) (hd : P.underlying d = some .string)
    (hg : h.get b = some (.row e' cs true more)) (hn : n <= cs.length) (hl : qQ (cs.take n) = some l) : (convert s d x').run P w = .ok (.string ⟨l.toArray⟩) w := by
  obtain ⟨A, c, rfl, hnc, _, _, JU⟩ := hx.iB; have iY : b ≠ 0 := (hr.ids b (hr.aB b _ hg).1).2; obtain ⟨_, rfl, _⟩ := JU iY; obtain ⟨_, cur, h1, h2, h3, h4, h5, h6, h7⟩ := hr.aB b _ hg
  have hc : ∀ i, i < cs.length -> ∃ v, w.cell? ((ρ b).at i) = some v /\ VR ρ S (cs.getD i undef) v := fun i hi => ⟨cur.getD i undef, by
    have : i < cur.length := by omega
    simp [World.cell?, Loc.at, h1, h2, List.getD, this], h7 i hi⟩
  obtain ⟨vs, k1, k2⟩ := qU hc (o := 0) (n := n) (by omega); rw [List.drop_zero] at k2; have k3 := C2 k2 hl; rw [run_convert_bytes_string w s d e _ _ _ hu he hd, run_bytesToString w _ n c (l.map fun x => ((x.toNat : Nat) : Int)) (by rw [k1, k3, List.map_map]; rfl), fold_push]; simp
end Go.Fs
namespace Go.Fs
open Go.RowKit (Below)
variable {P : Program} {ρ bT : Ren} {S S' : Nat -> Prop} {B : Nat} {w0 w w' w1 w2 : World} {h h' h1 h2 : aA}
def q5 (r : Option Nat) : Fence := { Fence.wide with round := r }
def xN (P : Program) (B : Nat) (w0 : World) (ρ : Ren) (S : Nat -> Prop) (h : aA) (w : World) (v : Value) (h' : aA) : Ending -> World -> Prop
  | .returned v', w' => ∃ bT, aZ P B w0 ρ bT S h h' w w' /\ VR bT (Ext S h h') v v'
  | _, _ => False
def Enters (P : Program) (f : FuncId) : Prop := ∃ fn, P.funcs[f]? = some fn /\ fn.body.isNone = false /\ (fn.name == "runtime.NumGoroutine") = false
def eN (P : Program) (B : Nat) (w0 : World) (call : FuncId -> List Value -> aA -> Option (Value × aA)) : Prop :=
  ∀ f args h v h', call f args h = some (v, h') -> Enters P f /\ ∀ ρ S w args', HR P ρ S B w0 h w -> LR ρ S args args' -> ∀ n, CallsIn Fence.wide n P f args'.toArray w (xN P B w0 ρ S h w v h')
def lG (P : Program) (B : Nat) (w0 : World) (call : FuncId -> List Value -> aA -> Option (Value × aA)) : Prop :=
  ∀ f args h v h', call f args h = some (v, h') -> (Enters P f /\ ∀ ρ S w args', HR P ρ S B w0 h w -> LR ρ S args args' -> ∀ n, CallsIn Fence.wide n P f args'.toArray w (xN P B w0 ρ S h w v h')) \/
    ∀ ρ S w args', HR P ρ S B w0 h w -> LR ρ S args args' -> ∃ w' v', (callFunc f args'.toArray).run P w = .ok (.value v') w' /\ xN P B w0 ρ S h w v h' (.returned v') w'
def gD (P : Program) (B : Nat) (w0 : World) (yield : Nat -> List Value -> aA -> Option (Value × aA)) : Prop :=
  ∀ l args h v h', yield l args h = some (v, h') -> ∀ ρ S w args', HR P ρ S B w0 h w -> LR ρ S args args' -> S l -> ∃ f tmps assign body,
    (Instr.yield (ρ l).block args'.toArray).run P w = .ok (.round (ρ l).block f tmps assign body) w /\ ∀ n, RoundIn Fence.wide n P (ρ l).block f tmps assign body w (xN P B w0 ρ S h w v h')
theorem uP {f : FuncId} (hf : Enters P f) (args : Array Value) (w : World) : (callFunc f args).run P w = .ok (.enter f args) w := by
  obtain ⟨fn, h1, h2, h3⟩ := hf; unfold callFunc; simp only [Sem.run_bind, run_program, Result.andThen_ok, h1, h3, h2, Bool.false_eq_true, if_false, Sem.run_pure]
theorem r6 {r : Option Nat} {o : Oper} {a : Act} : ∀ f, o.about P w a.eval = some f -> (q5 r).fn f := fun _ _ => trivial
theorem semAt_eq {call : FuncId -> List Value -> aA -> Option (Value × aA)} {yield : Nat -> List Value -> aA -> Option (Value × aA)} {o : Oper} {ev kT : Operand -> Value} {r : Option Nat} {x : Value × aA}
    (hf : cQ P call yield o ev h = some x) : o.semAt r kT = execOp kT o := by
  unfold Oper.semAt; unfold cQ at hf
  cases dT : o.op with
  | defer c => rw [dT] at hf; cases hf
  | _ => cases r <;> rfl
theorem K3 {call : FuncId -> List Value -> aA -> Option (Value × aA)} {yield : Nat -> List Value -> aA -> Option (Value × aA)} (gW : lG P B w0 call) (pX : gD P B w0 yield)
    {o : Oper} {ev : Operand -> Value} {a : Act} {v : Value} {r : Option Nat} {n : Nat} {next : Act -> World -> Prop} {Q : Exit -> Act -> World -> Prop}
    (hr : HR P ρ S B w0 h w) (bY : ∀ x ∈ o.op.operands.toList, VR ρ S (ev x) (a.eval x)) (hf : cQ P call yield o ev h = some (v, h'))
    (k : ∀ bT w' v', aZ P B w0 ρ bT S h h' w w' -> VR bT (Ext S h h') v v' -> next (a.put o.dst v') w') : o.wpIn (q5 r) n P a w next Q := by
  refine ⟨r6, ?_⟩; rw [show (q5 r).round = r from rfl, semAt_eq hf]; by_cases pV : ∀ c f, o.op = .call c -> c.callee ≠ .value f
  . obtain ⟨bT, w', v', h1, h2, h3⟩ := aaN hr bY pV hf; have := k bT w' v' h2 h3; rcases h1 with h1 | ⟨h1, rfl⟩
    . rw [h1]; exact this
    rw [h1]; exact this
  have alF : ∃ c f, o.op = .call c /\ c.callee = .value f := Classical.byContradiction fun hx => pV fun c f h1 h2 => hx ⟨c, f, h1, h2⟩; obtain ⟨c, f, dT, hc⟩ := alF; unfold cQ at hf; rw [dT] at hf bY; simp only [hc] at hf; simp only [Op.operands, Call.operands, hc, Array.toList_append, List.mem_append, List.mem_cons, List.not_mem_nil, or_false] at bY
  have mK : LR ρ S (c.args.toList.map ev) (c.args.map a.eval).toList := by
    rw [Array.toList_map]; exact LR.map _ _ _ fun x hx => bY x (.inr hx)
  have hfv := bY f (.inl rfl)
  have eK : ∀ d : Deferred, (Deferred.ofValue (a.eval f) (c.args.map a.eval)).run P w = .ok d w -> (execOp a.eval o).run P w = (invoke d.target d.args).run P w := fun d hd => by
    unfold execOp; rw [dT]; simp only [Sem.run_bind]
    have : (resolve a.eval c o.type).run P w = .ok d w := by
      unfold resolve; rw [hc]; exact hd
    rw [this]; rfl
  have fin : ∀ e w', xN P B w0 ρ S h w v h' e w' -> (match e, w' with
      | .returned v, w'' => next (a.put o.dst v) w''
      | .panicked chain, w'' => Q (.panic chain) a w''
      | .outgrown, _ => LetsOut Q) := fun e w' he => by
    cases e with
    | returned v' => obtain ⟨bT, h1, h2⟩ := he; exact k bT w' v' h1 h2
    | panicked c => exact he.elim
    | outgrown => exact he.elim
  split at hf
  . rename_i g first captured adM; rw [adM] at hfv; obtain ⟨f1, c1, hef, rF, lS⟩ := hfv.zU; rw [eK { target := .fn (.func g) c1, args := f1 ++ c.args.map a.eval } (by rw [hef]; rfl)]; rcases gW _ _ _ _ _ hf with ⟨adN, FJ⟩ | alG
    case inr =>
      obtain ⟨w', v', e1, e2⟩ := alG ρ S w ((f1 ++ c.args.map a.eval) ++ c1).toList hr (by simpa using (rF.append mK).append lS); have hinv : (invoke (.fn (.func g) c1) (f1 ++ c.args.map a.eval)).run P w = .ok (.value v') w' := e1; rw [hinv]; exact fin (.returned v') w' e2
    have hinv : (invoke (.fn (.func g) c1) (f1 ++ c.args.map a.eval)).run P w = .ok (.enter g ((f1 ++ c.args.map a.eval) ++ c1)) w := uP adN _ w; rw [hinv]; refine ⟨fun hd => (by cases hd), ?_⟩; have h3 := FJ ρ S w ((f1 ++ c.args.map a.eval) ++ c1).toList hr (by simpa using (rF.append mK).append lS) (n - 1); have h4 : CallsIn (q5 r) (n - 1) P g ((f1 ++ c.args.map a.eval) ++ c1) w (xN P B w0 ρ S h w v h') := h3; exact h4.mono fin
  . rename_i l adM; have ajO : ev f = .func (.yield l) #[] #[] := adM; rw [ajO] at hfv; obtain ⟨hs, hef⟩ := hfv.JY; obtain ⟨fn, tmps, assign, body, h3, h4⟩ := pX _ _ _ _ _ hf ρ S w _ hr mK hs; rw [eK { target := .fn (.yield (ρ l).block) #[], args := #[] ++ c.args.map a.eval } (by rw [hef]; rfl)]
    have hinv : (invoke (.fn (.yield (ρ l).block) #[]) (#[] ++ c.args.map a.eval)).run P w = .ok (.round (ρ l).block fn tmps assign body) w := by
      have h5 : (c.args.map a.eval).toList.toArray = #[] ++ c.args.map a.eval := by rw [Array.toArray_toList]; simp
      rw [h5] at h3; exact h3
    rw [hinv]; refine ⟨fun hd => (by cases hd), ?_⟩; have h6 : RoundIn (q5 r) (n - 1) P (ρ l).block fn tmps assign body w (xN P B w0 ρ S h w v h') := h4 (n - 1); exact h6.mono fin
  cases hf
theorem aaO {s e : TypeId} {b n : Nat} {e' : TypeId} {cs : List Value} {x' : Value} (hr : HR P ρ S B w0 h w) (hx : VR ρ S (.slice (some ⟨b, 0, none⟩) n 0) x') (hu : P.underlying s = some (.slice e)) (he : P.underlying e = some (.int .u8)) (hg : h.get b = some (.row e' cs true false)) :
    pA P B w0 ρ S h w (.slice (some ⟨h.next, 0, none⟩) n 0) ((h.drop b).push (.row e' cs true false)) ((convert s s x').run P w) := by
  obtain ⟨A, c, rfl, hnc, _, _, JU⟩ := hx.iB; have iY : b ≠ 0 := (hr.ids b (hr.aB b _ hg).1).2; obtain ⟨hS, rfl, nS⟩ := JU iY; have nS := nS rfl; obtain ⟨_, cur, h1, h2, h3, h4, h5, h6, h7⟩ := hr.aB b _ hg
  have FP : (ρ b).at 0 = ⟨(ρ b).block, 0, none⟩ := by unfold Loc.at; rw [h2]
  have hsh : w.shape? (ρ b).block = some (e', cur.length) := by simp [World.shape?, h1]
  let f : Nat × Nat := if (ρ b).fz.1 == (ρ b).fz.2 then (cur.length, cur.length + 1) else (min (ρ b).fz.1 cur.length, max (ρ b).fz.2 (cur.length + 1))
  have hf : f.1 = f.2 \/ cur.length <= f.1 := by
    right; show cur.length <= (if (ρ b).fz.1 == (ρ b).fz.2 then (cur.length, cur.length + 1) else (min (ρ b).fz.1 cur.length, max (ρ b).fz.2 (cur.length + 1))).1; have := (ρ b).hfz; split
    . exact Nat.le_refl _
    rename_i cM
    have cM : ¬ (ρ b).fz.1 = (ρ b).fz.2 := by simpa using cM
    show cur.length <= min (ρ b).fz.1 cur.length; omega
  have hw : ∀ k : Nat, (w.freeze ⟨(ρ b).block, cur.length, none⟩ 1).heap[k]? = if k = (ρ b).block then some (.cells cur.toArray e' f) else w.heap[k]? := fun k => by
    unfold World.freeze; rw [if_neg (by decide)]; simp only [Array.getElem?_modify]; by_cases hk : k = (ρ b).block
    . subst hk; rw [if_pos rfl, if_pos rfl, h1]; rfl
    rw [if_neg (fun e0 => hk e0.symm), if_neg hk]
  refine ⟨ρ.put h.next ⟨(ρ b).block, 0, cur.length, P.cellsOf e', f, hf⟩, w.freeze ⟨(ρ b).block, cur.length, none⟩ 1, .slice (some ⟨(ρ b).block, 0, none⟩) n c, ?_, ?_, ?_⟩
  . rw [FP]; simp [convert, run_underlying hu, run_underlying he, markStringish, hsh]
  . refine aZ.replace hr hg rfl rfl ⟨(ρ b).block, 0, cur.length, P.cellsOf e', f, hf⟩ (.inl rfl) (hr.base b _ hg rfl) ?_ ?_ ?_ ?_ (fun k _ hk => by rw [hw, if_neg hk]) ⟨cur, by rw [hw]; exact if_pos rfl, rfl, rfl, rfl, h5, h6, fun i hi => (h7 i hi).mono (hr.qS _ (.row e' cs true false))⟩ ?_
    all_goals (unfold World.freeze; rw [if_neg (by decide)])
    . simp
    exact Nat.le_refl _
  refine qD hr.pos n c ⟨(ρ b).block, 0, cur.length, P.cellsOf e', f, hf⟩ rfl hnc ?_ _ (Ext.lM (.row e' cs true false)); show c * P.cellsOf e' = cur.length; rw [<- h4, <- h3]; omega
theorem aaP 
    {o : Oper} {ev : Operand -> Value} {a : Act} {v : Value} {r : Option Nat} {n : Nat} {next : Act -> World -> Prop} {Q : Exit -> Act -> World -> Prop}
    (hr : HR P ρ S B w0 h w) (bY : ∀ x ∈ o.op.operands.toList, VR ρ S (ev x) (a.eval x)) (hf : D6 P o ev h = some (v, h'))
    (k : ∀ bT w' v', aZ P B w0 ρ bT S h h' w w' -> VR bT (Ext S h h') v v' -> next (a.put o.dst v') w') : o.wpIn (q5 r) n P a w next Q := by
  unfold D6 at hf; split at hf
  . rename_i s d x dT; split at hf
    . rename_i b m adO; split at hf
      . rename_i e hu; split at hf
        . rename_i he; split at hf
          . rename_i e' cs hg; obtain ⟨hc, hq⟩ := aT hf; obtain ⟨hc, _⟩ := b6 hc; obtain ⟨hc, _⟩ := b6 hc; obtain rfl := bU hc; have hq := Prod.mk.inj (Option.some.inj hq); obtain ⟨rfl, rfl⟩ := hq; refine ⟨r6, ?_⟩; rw [show (q5 r).round = r from rfl, show o.semAt r a.eval = execOp a.eval o by unfold Oper.semAt; rw [dT]; cases r <;> rfl]; have hx : VR ρ S (ev x) (a.eval x) := bY x (by rw [dT]; simp [Op.operands]); rw [adO] at hx; obtain ⟨bT, w', v', h1, h2, h3⟩ := aaO hr hx hu he hg; unfold execOp; rw [dT]; simp only [Sem.run_bind, h1, Result.andThen_ok, Sem.run_pure]; exact k bT w' v' h2 h3
          cases hf
        cases hf
      cases hf
    cases hf
  cases hf
theorem aaQ 
    {o : Oper} {ev : Operand -> Value} {a : Act} {v : Value} {r : Option Nat} {n : Nat} {next : Act -> World -> Prop} {Q : Exit -> Act -> World -> Prop}
    (hr : HR P ρ S B w0 h w) (bY : ∀ x ∈ o.op.operands.toList, VR ρ S (ev x) (a.eval x)) (hf : D7 P o ev h = some (v, h'))
    (k : ∀ bT w' v', aZ P B w0 ρ bT S h h' w w' -> VR bT (Ext S h h') v v' -> next (a.put o.dst v') w') : o.wpIn (q5 r) n P a w next Q := by
  unfold D7 at hf; split at hf
  . rename_i s d x dT; split at hf
    . rename_i b m mk adO; split at hf
      . rename_i e hu; split at hf
        . rename_i he; split at hf
          . rename_i hd; split at hf
            . rename_i e' cs more hg; obtain ⟨hc, hq⟩ := aT hf; obtain ⟨l, hl, hq⟩ := Option.map_eq_some_iff.1 hq; have hq := Prod.mk.inj hq; obtain ⟨rfl, rfl⟩ := hq; refine ⟨r6, ?_⟩; rw [show (q5 r).round = r from rfl, show o.semAt r a.eval = execOp a.eval o by unfold Oper.semAt; rw [dT]; cases r <;> rfl]; have hx : VR ρ S (ev x) (a.eval x) := bY x (by rw [dT]; simp [Op.operands]); rw [adO] at hx; have h1 := VY hr hx hu he hd hg (fP hc) hl; unfold execOp; rw [dT]; simp only [Sem.run_bind, h1, Result.andThen_ok, Sem.run_pure]; exact k ρ w _ (aZ.same hr) (.lit rfl)
            cases hf
          cases hf
        cases hf
      cases hf
    cases hf
  cases hf
theorem ah1 {ev : Operand -> Value} {a : Act} (hr : HR P ρ S B w0 h w) {xs : List Operand} (bY : ∀ x ∈ xs, VR ρ S (ev x) (a.eval x)) : ∀ x ∈ xs, VR ρ S (evG P h ev x) (a.eval x) := fun x hx => by
  cases x with
  | global g =>
    show VR ρ S (acY P h g) (.pointer (some ⟨g, 0, none⟩)); unfold acY; split
    . rename_i e cs gl hg hgl
      cases hb : Nat.beq gl.type e with
      | false => exact .gY _
      | true =>
        obtain ⟨h1, h2⟩ := hr.aB _ _ hg; obtain ⟨h3, h4⟩ := h2.2.2 rfl g gl hgl (bU hb); have := VR.ptr (ρ := ρ) (S := S) (g + 1) 0 h1; unfold Loc.at at this; rw [h3, h4] at this; exact this
    exact .gY _
  | _ => exact bY _ hx
theorem ah2 {call : FuncId -> List Value -> aA -> Option (Value × aA)} {yield : Nat -> List Value -> aA -> Option (Value × aA)} (gW : lG P B w0 call) (pX : gD P B w0 yield)
    {o : Oper} {ev : Operand -> Value} {a : Act} {v : Value} {r : Option Nat} {n : Nat} {next : Act -> World -> Prop} {Q : Exit -> Act -> World -> Prop}
    (hr : HR P ρ S B w0 h w) (bY : ∀ x ∈ o.op.operands.toList, VR ρ S (ev x) (a.eval x)) (hf : sG P call yield o ev h = some (v, h'))
    (k : ∀ bT w' v', aZ P B w0 ρ bT S h h' w w' -> VR bT (Ext S h h') v v' -> next (a.put o.dst v') w') : o.wpIn (q5 r) n P a w next Q := by
  unfold sG at hf; split at hf
  . rename_i x hx; obtain rfl := Option.some.inj hf; exact K3 gW pX hr bY hx k
  unfold D8 at hf; split at hf
  . rename_i r1 hx; obtain rfl := Option.some.inj hf; exact aaP hr bY hx k
  split at hf
  . rename_i r2 yC; obtain rfl := Option.some.inj hf; exact aaQ hr bY yC k
  obtain ⟨_, hf⟩ := aT hf; exact K3 (call := fun _ _ _ => none) (yield := fun _ _ _ => none) (fun _ _ _ _ _ hx => by cases hx) (fun _ _ _ _ _ hx => by cases hx) hr (ah1 hr bY) hf k
end Go.Fs
namespace Go.Fs
open Go.RowKit (Below)
variable {P : Program} {ρ bT : Ren} {S S' : Nat -> Prop} {B : Nat} {w0 w w' w1 w2 : World} {h h' h1 h2 : aA}
theorem Ext.trans' {b : Nat} (n1 : h.next <= h1.next) (n2 : h1.next <= h2.next) (he : Ext (Ext S h h1) h1 h2 b) : Ext S h h2 b := by
  rcases he with (he | he) | he
  . exact .inl he
  . exact .inr (by omega)
  exact .inr (by omega)
theorem put_defers (a : Act) (dst : Option Tmp) (v : Value) : (a.put dst v).defers = a.defers := by
  cases dst <;> rfl
theorem K4 {ops : Array Oper} {t : Tr} {tmps : Array Value} {o : Oper} {b : Bool}
    (hg : ∀ j want d, o.guard = some (j, want) -> (ops[j]?).bind (·.dst) = some d -> VR ρ S (t.get d) (tmps.toList.getD d undef)) (hf : bJ ops t o = some b) :
    Region.wanted o (yielded ops tmps) = b := by
  unfold bJ at hf; unfold Region.wanted; split at hf
  . rename_i hn; rw [hn]; simpa using hf
  rename_i j want hn; rw [hn]; simp only; unfold yielded; split at hf
  . rename_i hd; rw [hd]; simpa using hf
  rename_i d hd; have hv := hg j want d hn hd; rw [hd]; simp only [Option.bind_some]
  have ht : tmps.toList.getD d undef = (tmps[d]?).getD undef := by
    rw [List.getD_eq_getElem?_getD, Array.getElem?_toList]
  rw [ht] at hv; split at hf
  . rename_i b0 iY; simp only [Option.some.injEq] at hf; subst hf; rw [iY] at hv; have h1 := hv.vB
    cases hx : tmps[d]? with
    | none => rw [hx] at h1; cases h1
    | some v =>
      rw [hx] at h1; simp only [Option.getD_some] at h1; subst h1; cases b0 <;> cases want <;> rfl
  . rename_i iY; simp only [Option.some.injEq] at hf; subst hf; have s4 : t.get d = .tuple #[] := iY; rw [s4] at hv; obtain ⟨cs, h1, h2⟩ := hv.JM (by simp [gY])
    have h3 : cs = #[] := by
      have := h2.1; apply Array.toList_inj.1; exact List.eq_nil_of_length_eq_zero (by simpa using this.symm)
    subst h3
    cases hx : tmps[d]? with
    | none => rfl
    | some v =>
      rw [hx] at h1; simp only [Option.getD_some] at h1; subst h1; rfl
  cases hf
theorem PS {step : Oper -> (Operand -> Value) -> aA -> Option (Value × aA)} {call : FuncId -> List Value -> aA -> Option (Value × aA)} {yield : Nat -> List Value -> aA -> Option (Value × aA)}
    (bR : step = sG P call yield) (gW : lG P B w0 call) (pX : gD P B w0 yield) {ops : Array Oper} {r : Option Nat} {m n : Nat} {Q : Exit -> Act -> World -> Prop} {t' : Tr} :
    ∀ (l : List Oper) (idxs : List Nat) (ρ : Ren) (S : Nat -> Prop) (w : World) (a : Act) (t : Tr) (h : aA), idxs.map (ops[·]?) = l.map some -> HR P ρ S B w0 h w -> lF ρ S t m a.tmps ->
      p7 step ops m l t h = some (t', h') ->
      (∀ bT w' a', aZ P B w0 ρ bT S h h' w w' -> lF bT (Ext S h h') t' m a'.tmps -> a'.defers = a.defers -> Q .normal a' w') -> wpOpsIn (q5 r) n P ops Q idxs a w
  | [], [], ρ, S, w, a, t, h, _, hr, ht, hf, k => by
    simp only [p7, Option.some.injEq, Prod.mk.injEq] at hf; obtain ⟨rfl, rfl⟩ := hf
    exact k ρ w a (aZ.same hr) (ht.mono fun _ hb => ⟨.inl hb, rfl⟩) rfl
  | [], _ :: _, _, _, _, _, _, _, hi, _, _, _, _ => by simp at hi
  | _ :: _, [], _, _, _, _, _, _, hi, _, _, _, _ => by simp at hi
  | o :: l, i :: idxs, ρ, S, w, a, t, h, hi, hr, ht, hf, k => by
    simp only [List.map_cons, List.cons.injEq] at hi; obtain ⟨ho, hi⟩ := hi; simp only [p7] at hf; have hw : ∀ b, bJ ops t o = some b -> Region.wanted o (yielded ops a.tmps) = b := fun b hb => K4 (fun _ _ d _ _ => ht.2.2 d) hb; simp only [wpOpsIn, ho]; split at hf
    . rename_i sL; rw [if_pos (hw _ sL)]; split at hf
      . rename_i v h1 hs; split at hf
        . rename_i t1 hp; subst bR; refine ah2 gW pX hr (fun x _ => ht.eval a.defers x) hs fun cS w1 v1 m1 hv => ?_; have DP : lF cS (Ext S h h1) t1 m (a.put o.dst v1).tmps := lF.put (ht.mono fun b hb => ⟨.inl hb, m1.agree b hb⟩) hp hv a.defers; refine PS rfl gW pX l idxs cS _ w1 _ t1 h1 hi m1.hr DP hf fun iZ w2 a2 m2 ht2 hd => ?_; exact k iZ w2 a2 (m1.trans m2) (ht2.mono fun b hb => ⟨Ext.trans' m1.next m2.next hb, rfl⟩) (hd.trans (put_defers _ _ _))
        cases hf
      cases hf
    . rename_i sL; rw [if_neg (by rw [hw _ sL]; simp)]; refine ⟨r6, ?_⟩; split at hf
      . rename_i t1 hp; have DP : lF ρ S t1 m (a.put o.dst undef).tmps := lF.put ht hp VR.undef a.defers; refine PS bR gW pX l idxs ρ _ w _ t1 h hi hr DP hf fun iZ w2 a2 m2 ht2 hd => ?_; exact k iZ w2 a2 m2 ht2 (hd.trans (put_defers _ _ _))
      cases hf
    cases hf
theorem VZ {ops : Array Oper} : (List.range ops.size).map (ops[·]?) = ops.toList.map some := by
  refine List.ext_getElem? fun i => ?_; by_cases hi : i < ops.size
  . simp [hi]
  simp [hi]
end Go.Fs
namespace Go.Fs
open Go.RowKit (Below)
variable {P : Program} {ρ bT : Ren} {S S' : Nat -> Prop} {B : Nat} {w0 w w' w1 w2 : World} {h h' h1 h2 : aA}
inductive C3 (ops : Array Oper) : (Nat -> Bool) -> List Nat -> Prop
  | nil (E : Nat -> Bool) (h : ∀ i, i < ops.size -> E i = true) : C3 ops E []
  | cons (E : Nat -> Bool) (i : Nat) (o : Oper) (l : List Nat) (ho : ops[i]? = some o) (hE : E i = false) (he : ∀ e ∈ o.after.toList, Region.binds .any e = true -> E e.on = true)
      (h : C3 ops (fun j => E j || j == i) l) : C3 ops E (i :: l)
def nV (ops : Array Oper) : Prop := ∀ (i : Nat) (o : Oper), ops[i]? = some o -> ∀ e ∈ o.after.toList, Region.binds .any e = true -> e.on < i
def unl (ops : Array Oper) (listed : Array Bool) : Nat := ((List.range ops.size).filter fun i => !listed.getD i true).length
theorem H7 {l : Array Bool} {i j : Nat} (b : Bool) (N1 : i ≠ j) : (l.setIfInBounds i true).getD j b = l.getD j b := by
  simp [Array.getD_eq_getD_getElem?, Array.getElem?_setIfInBounds, N1]
theorem C4 {l : Array Bool} {i : Nat} (b : Bool) (hi : i < l.size) : (l.setIfInBounds i true).getD i b = true := by
  simp [Array.getD_eq_getD_getElem?, Array.getElem?_setIfInBounds, hi]
theorem filter_lt {α : Type} (p q : α -> Bool) : ∀ (l : List α) (x : α), x ∈ l -> p x = true -> q x = false -> (∀ y, q y = true -> p y = true) -> (l.filter q).length < (l.filter p).length
  | [], _, hx, _, _, _ => by cases hx
  | y :: l, x, hx, hp, hq, hle => by
    have le : ∀ l : List α, (l.filter q).length <= (l.filter p).length := fun l => by
      induction l with
      | nil => simp
      | cons z l ih =>
        simp only [List.filter_cons]
        cases hz : q z with
        | true => simp [hle z hz]; omega
        | false => cases p z <;> simp <;> omega
    rcases List.mem_cons.1 hx with rfl | hx
    . simp [hp, hq]; have := le l; omega
    have ih := filter_lt p q l x hx hp hq hle; simp only [List.filter_cons]
    cases hz : q y with
    | true => simp [hle y hz]; omega
    | false => cases p y <;> simp <;> omega
theorem aaR {ops : Array Oper} (nW : nV ops) : ∀ (fuel t : Nat) (listed : Array Bool), listed.size = ops.size -> unl ops listed <= fuel ->
    C3 ops (fun j => listed.getD j false) (Region.linearise.go .any ops fuel t listed []) := by
  have all : ∀ listed : Array Bool, listed.size = ops.size -> Region.ready .any ops listed = [] -> ∀ i, i < ops.size -> listed.getD i false = true := fun listed hs hr i => by
    induction i using Nat.strongRecOn with
    | ind i ih =>
      intro hi
      cases hl : listed.getD i false with
      | true => rfl
      | false =>
        have SK : i ∈ Region.ready .any ops listed := by
          unfold Region.ready; rw [List.mem_filter]; refine ⟨List.mem_range.2 hi, ?_⟩
          have h1 : listed.getD i true = false := by
            have bL : i < listed.size := by omega
            simp [bL] at hl ⊢; exact hl
          rw [h1]; simp only [Array.getElem?_eq_getElem hi, Option.map_some, Option.getD_some, Bool.not_false, Bool.true_and]; rw [Array.all_eq_true_iff_forall_mem]; intro e he
          cases hb : Region.binds .any e with
          | false => rfl
          | true =>
            have bL := nW i ops[i] (Array.getElem?_eq_getElem hi) e (by simpa using he) hb; simp [ih e.on bL (by omega)]
        rw [hr] at SK; cases SK
  intro fuel
  induction fuel with
  | zero =>
    intro t listed hs hu; refine .nil _ fun i hi => ?_
    have h0 : unl ops listed = 0 := by omega
    unfold unl at h0; have h1 := List.filter_eq_nil_iff.1 (List.eq_nil_of_length_eq_zero h0) i (List.mem_range.2 hi)
    have bL : i < listed.size := by omega
    simp [bL] at h1 ⊢
    exact h1
  | succ fuel ih =>
    intro t listed hs hu; simp only [Region.linearise.go]
    change C3 ops _ (match (Region.ready .any ops listed)[t % (Region.ready .any ops listed).length]? with
      | some i => Region.linearise.go .any ops fuel (t / (Region.ready .any ops listed).length) (listed.setIfInBounds i true) [i]
      | none => [].reverse)
    cases hi : (Region.ready .any ops listed)[t % (Region.ready .any ops listed).length]? with
    | none =>
      have Z8 : Region.ready .any ops listed = [] := by
        cases hr : Region.ready .any ops listed with
        | nil => rfl
        | cons x xs =>
          rw [hr] at hi; have bL : t % (x :: xs).length < (x :: xs).length := Nat.mod_lt _ (by simp); simp at hi; simp at bL; omega
      exact .nil _ fun i hi => all listed hs Z8 i hi
    | some i =>
      simp only []; rw [linearise_go_acc, List.reverse_singleton, List.singleton_append]; have SK := List.mem_of_getElem? hi; unfold Region.ready at SK; obtain ⟨h1, h2⟩ := List.mem_filter.1 SK; have bL := List.mem_range.1 h1; simp only [Array.getElem?_eq_getElem bL, Option.map_some, Option.getD_some, Bool.and_eq_true, Bool.not_eq_true'] at h2; obtain ⟨h3, h4⟩ := h2
      have Z9 : i < listed.size := by omega
      have h5 : listed.getD i false = false := by simp [Z9] at h3 ⊢; exact h3
      have he : (fun j => (listed.setIfInBounds i true).getD j false) = fun j => listed.getD j false || j == i := by
        funext j; by_cases hj : i = j
        . subst hj; rw [C4 false Z9]; simp
        rw [H7 false hj]
        have : (j == i) = false := by simpa using Ne.symm hj
        rw [this, Bool.or_false]
      refine .cons _ i ops[i] _ (Array.getElem?_eq_getElem bL) h5 (fun e he hb => ?_) ?_
      . have := Array.all_eq_true_iff_forall_mem.1 h4 e (by simpa using he); simpa [hb] using this
      rw [<- he]; refine ih _ _ (by simpa using hs) ?_
      have : unl ops (listed.setIfInBounds i true) < unl ops listed := by
        refine filter_lt _ _ _ i h1 (by rw [h3]; rfl) (by rw [C4 true Z9]; rfl) fun y hy => ?_; by_cases hj : i = y
        . subst hj; rw [C4 true Z9] at hy; cases hy
        rwa [H7 true hj] at hy
      omega
theorem W0 {ops : Array Oper} (nW : nV ops) (t : Nat) : C3 ops (fun _ => false) (Region.schedule true ops t) := by
  have h1 := aaR nW ops.size t (Array.replicate ops.size false) (by simp) (by
    unfold unl
    exact Nat.le_trans (List.length_filter_le _ _) (by simp))
  have he : (fun j => (Array.replicate ops.size false).getD j false) = fun _ => false := by
    funext j; simp [Array.getD_eq_getD_getElem?, Array.getElem?_replicate]; split <;> rfl
  rw [he] at h1; simpa [Region.schedule, Region.linearise] using h1
structure tW (P : Program) (B : Nat) (w0 : World) (ρ bT : Ren) (S S' : Nat -> Prop) (h h' : aA) (L : Nat) (w w' : World) : Prop where
  agree : ∀ b, S b -> bT b = ρ b
  sub : ∀ b, S b -> S' b
  hr : HR P bT S' B w0 h' w'
  frame : Frame ρ h w w'
  aW : ∀ i, S i -> i < L -> h'.get i = h.get i
  old : ∀ i o, h'.get i = some o -> S i -> ∃ o', h.get i = some o' /\ iG o' = iG o
  fresh : ∀ i o, h'.get i = some o -> ¬ S i -> iG o = true /\ (w.heap.size <= (bT i).block \/ ∃ j oj, h.get j = some oj /\ iG oj = true /\ (ρ j).block = (bT i).block /\ L <= j)
theorem tW.trans {S1 S2 : Nat -> Prop} {cS iZ : Ren} {L : Nat} (m : tW P B w0 ρ cS S S1 h h1 L w w1) (k : tW P B w0 cS iZ S1 S2 h1 h2 L w1 w2) : tW P B w0 ρ iZ S S2 h h2 L w w2 where
  agree := fun b hb => (k.agree b (m.sub b hb)).trans (m.agree b hb)
  sub := fun b hb => k.sub b (m.sub b hb)
  hr := k.hr
  frame := by
    refine ⟨k.frame.os.trans m.frame.os, k.frame.tape.trans m.frame.tape, k.frame.output.trans m.frame.output, Nat.le_trans m.frame.size k.frame.size, fun b hb pV => ?_⟩; rw [k.frame.block b (Nat.lt_of_lt_of_le hb m.frame.size) ?_, m.frame.block b hb pV]; intro i o hi ho he; by_cases hS : S i
    . obtain ⟨o', dI, qB⟩ := m.old i o hi hS; rw [m.agree i hS] at he; exact pV i o' dI (qB.trans ho) he
    obtain ⟨_, hf⟩ := m.fresh i o hi hS; rcases hf with hf | ⟨j, oj, hj, lR, FO, _⟩
    . omega
    exact pV j oj hj lR (FO.trans he)
  aW := fun i hi hl => (k.aW i (m.sub i hi) hl).trans (m.aW i hi hl)
  old := fun i o ho hi => by
    obtain ⟨o1, h1, h2⟩ := k.old i o ho (m.sub i hi); obtain ⟨o2, h3, h4⟩ := m.old i o1 h1 hi; exact ⟨o2, h3, h4.trans h2⟩
  fresh := fun i o ho hi => by
    by_cases PT : S1 i
    . obtain ⟨o1, h3, h4⟩ := k.old i o ho PT; obtain ⟨h5, hf⟩ := m.fresh i o1 h3 hi; refine ⟨h4 ▸ h5, ?_⟩; rw [k.agree i PT]; exact hf
    obtain ⟨h5, hf⟩ := k.fresh i o ho PT; refine ⟨h5, ?_⟩; rcases hf with hf | ⟨j, oj, hj, lR, FO, hlj⟩
    . exact .inl (Nat.le_trans m.frame.size hf)
    by_cases hjS : S j
    . obtain ⟨o2, h6, h7⟩ := m.old j oj hj hjS; rw [m.agree j hjS] at FO; exact .inr ⟨j, o2, h6, h7.trans lR, FO, hlj⟩
    obtain ⟨_, VK⟩ := m.fresh j oj hj hjS; rcases VK with VK | ⟨j', oj', y6, ad4, ad5, aiC⟩
    . exact .inl (by omega)
    exact .inr ⟨j', oj', y6, ad4, ad5.trans FO, aiC⟩
open Classical in
noncomputable def glue (S : Nat -> Prop) (ρ cS : Ren) : Ren := fun b => if S b then ρ b else cS b
theorem jR {cS : Ren} {b : Nat} (hb : S b) : glue S ρ cS b = ρ b := by unfold glue; rw [if_pos hb]
theorem sA {cS : Ren} {b : Nat} (hb : ¬ S b) : glue S ρ cS b = cS b := by unfold glue; rw [if_neg hb]
theorem DQ {S1 S2 : Nat -> Prop} {cS : Ren} {H H2 hm : aA} {L : Nat} (hr : HR P ρ S B w0 H w) (DK : ∀ b, S1 b -> S b) (iH : ∀ b o, hm.get b = some o -> H.get b = some o)
    (sM : HR P ρ S1 B w0 hm w) (m : aZ P B w0 ρ cS S1 hm h1 w w1) (jQ : ∀ b, hm.next <= b -> b < h1.next -> ¬ S b) (N2 : ∀ b, S2 b ↔ S b \/ (hm.next <= b /\ b < h1.next))
    (alH : ∀ b, S2 b -> b < H2.next) (nF : 0 < H2.next) (hL : ∀ b o, ¬ S b -> H2.get b = some o -> L <= h1.low)
    (ha : ∀ b o, S b -> H2.get b = some o -> (hm.get b ≠ none /\ h1.get b = some o) \/ (hm.get b = none /\ H.get b = some o))
    (hb : ∀ b o, ¬ S b -> H2.get b = some o -> (hm.next <= b /\ b < h1.next) /\ h1.get b = some o) (hc : ∀ b, S b -> b < L -> H2.get b = H.get b) :
    tW P B w0 ρ (glue S ρ cS) S S2 H H2 L w w1 := by
  have gl : ∀ b, Ext S1 hm h1 b -> S2 b /\ glue S ρ cS b = cS b := fun b PU => by
    rcases PU with PU | PU
    . exact ⟨(N2 b).2 (.inl (DK b PU)), by rw [jR (DK b PU), m.agree b PU]⟩
    exact ⟨(N2 b).2 (.inr PU), sA (jQ b PU.1 PU.2)⟩
  have aiF : ∀ b, hm.get b ≠ none -> S1 b := fun b hbn => by
    cases hg : hm.get b with
    | none => exact absurd hg hbn
    | some o => exact (sM.aB b o hg).1
  -- an object is one of the part, or lies beside it
  have cls : ∀ b o, H2.get b = some o -> (h1.get b = some o /\ Ext S1 hm h1 b /\ glue S ρ cS b = cS b) \/ (hm.get b = none /\ H.get b = some o /\ S b /\ glue S ρ cS b = ρ b) := fun b o hg => by
    by_cases hS : S b
    . rcases ha b o hS hg with ⟨h3, h4⟩ | ⟨h3, h4⟩
      . have this : Ext S1 hm h1 b := .inl (aiF b h3); exact .inl ⟨h4, this, (gl b this).2⟩
      exact .inr ⟨h3, h4, hS, jR hS⟩
    obtain ⟨h3, h4⟩ := hb b o hS hg; exact .inl ⟨h4, .inr h3, sA hS⟩
  have beside : ∀ b o, hm.get b = none -> H.get b = some o -> w1.heap[(ρ b).block]? = w.heap[(ρ b).block]? := fun b o hn hg => by
    refine m.frame.block _ ?_ fun j oj hj lR he => ?_
    . by_cases kK : iG o = true
      . exact (hr.aB b o hg).2.lt kK
      have := hr.ro b o hg (by simpa using kK); have := hr.size; omega
    by_cases kK : iG o = true
    . have := hr.inj j b oj o (iH j oj hj) hg lR kK he; subst this; rw [hj] at hn; cases hn
    have h3 := hr.ro b o hg (by simpa using kK); have h4 := hr.base j oj (iH j oj hj) lR; omega
  have mixed : ∀ i j oi oj, h1.get i = some oi -> Ext S1 hm h1 i -> iG oi = true -> hm.get j = none -> H.get j = some oj -> iG oj = true -> (cS i).block = (ρ j).block -> False := fun i j oi oj hi hxi uM hn hj lR he => by
    by_cases bL : i < hm.next
    . obtain ⟨o', h3, h4⟩ := m.old i oi hi bL; have hSi := (sM.aB i o' h3).1; rw [m.agree i hSi] at he; have := hr.inj i j o' oj (iH i o' h3) hj (h4.trans uM) lR he; subst this; rw [h3] at hn; cases hn
    obtain ⟨_, hf⟩ := m.fresh i oi hi (by omega); have N3 := (hr.aB j oj hj).2.lt lR; rcases hf with hf | ⟨j', oj', h3, h4, h5, _⟩
    . omega
    have := hr.inj j' j oj' oj (iH j' oj' h3) hj h4 lR (h5.trans he); subst this; rw [h3] at hn; cases hn
  exact {
    agree := fun b sN => jR sN
    sub := fun b sN => (N2 b).2 (.inl sN)
    hr := {
      aB := fun i o hi => by
        rcases cls i o hi with ⟨h3, h4, h5⟩ | ⟨h3, h4, h5, h6⟩
        . refine ⟨(gl i h4).1, ?_⟩; rw [h5]; exact (m.hr.aB i o h3).2.mono gl
        refine ⟨(N2 i).2 (.inl h5), ?_⟩; rw [h6]; exact ((hr.aB i o h4).2.mono fun b sN => ⟨(N2 b).2 (.inl sN), jR sN⟩).world (beside i o h3 h4)
      inj := fun i j oi oj hi hj uM lR he => by
        rcases cls i oi hi with ⟨h3, h4, h5⟩ | ⟨h3, h4, h5, h6⟩ <;> rcases cls j oj hj with ⟨k3, k4, k5⟩ | ⟨k3, k4, k5, k6⟩
        . rw [h5, k5] at he; exact m.hr.inj i j oi oj h3 k3 uM lR he
        . rw [h5, k6] at he; exact (mixed i j oi oj h3 h4 uM k3 k4 lR he).elim
        . rw [h6, k5] at he; exact (mixed j i oj oi k3 k4 lR h3 h4 uM he.symm).elim
        rw [h6, k6] at he; exact hr.inj i j oi oj h4 k4 uM lR he
      base := fun i o hi ho => by
        rcases cls i o hi with ⟨h3, h4, h5⟩ | ⟨h3, h4, h5, h6⟩
        . rw [h5]; exact m.hr.base i o h3 ho
        rw [h6]; exact hr.base i o h4 ho
      ro := fun i o hi ho => by
        rcases cls i o hi with ⟨h3, h4, h5⟩ | ⟨h3, h4, h5, h6⟩
        . rw [h5]; exact m.hr.ro i o h3 ho
        rw [h6]; exact hr.ro i o h4 ho
      ids := fun b sN => by
        refine ⟨alH b sN, ?_⟩; rcases (N2 b).1 sN with h3 | h3
        . exact (hr.ids b h3).2
        have := sM.pos; omega
      pos := nF
      below := m.hr.below
      drawn := m.hr.drawn
      size := m.hr.size }
    frame := ⟨m.frame.os, m.frame.tape, m.frame.output, m.frame.size, fun k hk pV => m.frame.block k hk fun i o hi ho => pV i o (iH i o hi) ho⟩
    aW := hc
    old := fun i o hi hS => by
      rcases ha i o hS hi with ⟨h3, h4⟩ | ⟨h3, h4⟩
      . have h5 := aiF i h3; obtain ⟨o', h6, h7⟩ := m.old i o h4 (sM.ids i h5).1; exact ⟨o', iH i o' h6, h7⟩
      exact ⟨o, h4, rfl⟩
    fresh := fun i o hi hS => by
      obtain ⟨h3, h4⟩ := hb i o hS hi; obtain ⟨h5, hf⟩ := m.fresh i o h4 h3.1; refine ⟨h5, ?_⟩; rw [sA hS]; rcases hf with hf | ⟨j, oj, h6, h7, h8, h9, _⟩
      . exact .inl hf
      exact .inr ⟨j, oj, iH j oj h6, h7, h8, Nat.le_trans (hL i o hS hi) h9⟩ }
theorem VR.yH {v v0 v1 : Value} {cS : Ren} {S1 : Nat -> Prop} (h : VR ρ S v v0) (k : VR cS S1 v v1) (fI : ∀ b, S b -> cS b = ρ b) : VR ρ S v v1 := by
  induction h generalizing v1 with
  | lit h => rw [k.iA h]; exact .lit h
  | gY v => exact .gY _
  | nan q b hb =>
    obtain ⟨b', rfl, h2⟩ := k.uJ (k := q) rfl
    exact .nan q b' (h2 rfl)
  | ptr b o hs =>
    obtain ⟨_, rfl⟩ := k.sI
    rw [fI b hs]; exact .ptr b o hs
  | slice b o n m c A hn hm h0 hb =>
    obtain ⟨A', c', rfl, h1, h2, h3, h4⟩ := k.iB; refine .slice b o n m c' A' h1 h2 h3 fun iY => ?_; obtain ⟨h5, _, _⟩ := hb iY; obtain ⟨_, h6, h7⟩ := h4 iY; rw [fI b h5] at h6 h7
    exact ⟨h5, h6, h7⟩
  | map b hs =>
    obtain ⟨_, rfl⟩ := k.y8
    rw [fI b hs]; exact .map b hs
  | agg cs cs' hl _ ih =>
    obtain ⟨c1, rfl, h1⟩ := k.JL
    exact .agg cs c1 (by simpa using h1.1) fun i hi => ih i hi (h1.2 i (by simpa using hi))
  | tuple cs cs' hl _ ih =>
    cases k with
    | lit h => simp [eF] at h
    | gY => exact .gY _
    | tuple _ c1 rF h1 => exact .tuple cs c1 rF fun i hi => ih i hi (h1 i hi)
  | func f a a' c c' ha _ hc _ ihA ihC =>
    obtain ⟨a1, c1, rfl, h1, h2⟩ := k.zU
    exact .func f a a1 c c1 (by simpa using h1.1) (fun i hi => ihA i hi (h1.2 i (by simpa using hi))) (by simpa using h2.1) (fun i hi => ihC i hi (h2.2 i (by simpa using hi)))
  | yield l hs =>
    obtain ⟨_, rfl⟩ := k.JY; rw [fI l hs]; exact .yield l hs
theorem kV.yH {l : Loc} {o : bB} {cS : Ren} {S1 : Nat -> Prop} (h : kV P ρ S l w o) (k : kV P cS S1 l w1 o) (fI : ∀ b, S b -> cS b = ρ b) : kV P ρ S l w1 o := by
  match o, h, k with
  | .row e cs true more, ⟨anV, _, _, _, _, _, _, g7⟩, ⟨cur, h1, h2, h3, h4, h5, h6, h7⟩ => exact ⟨cur, h1, h2, h3, h4, h5, h6, fun i hi => (g7 i hi).yH (h7 i hi) fI⟩
  | .row e cs false more, hg, hk => exact ⟨hk.1, fun i hi => let ⟨v, h1, h2⟩ := hk.2.1 i hi; let ⟨v0, _, g2⟩ := hg.2.1 i hi; ⟨v, h1, g2.yH h2 fI⟩, hk.2.2⟩
  | .nO es clock, ⟨es0, g1, g2, g3⟩, ⟨eL, h1, h2, h3⟩ =>
    refine ⟨eL, h1, h2, fun i e e' he lQ => ?_⟩; obtain ⟨a, b, c, d⟩ := h3 i e e' he lQ
    have bL : i < es0.length := by have := (List.getElem?_eq_some_iff.1 he).1; omega
    exact ⟨a, b, c, (g3 i e es0[i] he (List.getElem?_eq_getElem bL)).2.2.2.yH d fI⟩
  | .iter s pos, _, hk => exact hk
  | .dL st jump tmps n params assign body d, ⟨g0, fn0, t0, g1, g2⟩, ⟨h0, fn, j7, h1, h2⟩ =>
    rw [fI d g0] at h1
    exact ⟨g0, fn, j7, h1, ⟨h2.1.1, h2.1.2.1, fun i => (g2.1.2.2 i).yH (h2.1.2.2 i) fI⟩, h2.2⟩
  | .iR, _, hk => exact hk
end Go.Fs
namespace Go.Fs
variable {P : Program}
section
variable {step : Oper -> (Operand -> Value) -> aA -> Option (Value × aA)} {ops : Array Oper} {n : Nat}
inductive AM (step : Oper -> (Operand -> Value) -> aA -> Option (Value × aA)) (ops : Array Oper) (n : Nat) (X : Nat -> bB -> Prop) (o : Oper) (i : Nat) (s s' : dS) : Prop
  | skip (hw : bJ ops s.t o = some false) (hp : put n s.t o.dst undef = some s'.t) (hh : s'.h = s.h) (hs : s'.segs = s.segs) (hm : s'.mem = s.mem) (ht : s'.tail = s.tail)
  | calm (hw : bJ ops s.t o = some true) (hc : calm o.op = true) (v : Value) (h' : aA) (bR : step o (aC s.t) { next := s.h.next, low := s.h.next, aB := [] } = some (v, h')) (hn : h'.next = s.h.next)
      (hp : put n s.t o.dst v = some s'.t) (hh : s'.h = s.h) (hs : s'.segs = s.segs) (hm : s'.mem = s.mem) (ht : s'.tail = s.tail)
  | still (hw : bJ ops s.t o = some true) (v : Value) (aB : List (Nat × bB)) (hX : ∀ b ob, look aB b = some ob -> X b ob)
      (bR : step o (aC s.t) { next := s.h.next, low := s.h.next, aB := aB } = some (v, { next := s.h.next, low := s.h.next, aB := aB }))
      (hp : put n s.t o.dst v = some s'.t) (hh : s'.h = s.h) (hs : s'.segs = s.segs) (hm : s'.mem = s.mem) (ht : s'.tail = s.tail)
  | mem (hw : bJ ops s.t o = some true) (hc : Fs.calm o.op = false) (v : Value) (h' : aA) (ord : Bool) (ho : ord = Nat.beq (s.mem &&& aP s.bs o) s.mem) (lT : s.tail = true -> ord = true)
      (bR : step o (aC s.t) { next := s.h.next, low := s.h.next, aB := bif ord then s.h.aB else mask (aP s.bs o) s.segs s.h.aB } = some (v, h')) (hn : s.h.next <= h'.next)
      (hp : put n s.t o.dst v = some s'.t) (hm : s'.mem = s.mem ||| 2 ^ i) (hs : s'.segs = (i, s.h.next, h'.next) :: s.segs) (j6 : s'.h.next = h'.next)
      (hk : (s.h.next <= h'.low /\ s'.h.low = s.h.low /\ s'.h.aB = bH s.h.next h'.next h'.aB ++ s.h.aB /\ s'.tail = s.tail) \/ (ord = true /\ s'.h.low = min s.h.low h'.low /\ s'.h.aB = h'.aB /\ s'.tail = true))
theorem PW {X : Nat -> bB -> Prop} {o : Oper} {i : Nat} {s s' : dS} (hf : gH step ops n o i s = some s') : s'.bs = s.bs ++ [aP s.bs o] /\ AM step ops n X o i s s' := by
  unfold gH at hf; simp only at hf; split at hf
  . rename_i hw; obtain ⟨t, h1, h2⟩ := Option.map_eq_some_iff.1 hf; subst h2; exact ⟨rfl, .skip hw h1 rfl rfl rfl rfl⟩
  . cases hf
  rename_i hw; split at hf
  . rename_i hc; split at hf
    . rename_i v h' bR; obtain ⟨h3, h4⟩ := aT hf; obtain ⟨t, h1, h2⟩ := Option.map_eq_some_iff.1 h4; subst h2; exact ⟨rfl, .calm hw hc v h' bR (bU h3) h1 rfl rfl rfl rfl⟩
    cases hf
  rename_i hc
  have hc : calm o.op = false := by simpa using hc
  generalize iW : Nat.beq (s.mem &&& aP s.bs o) s.mem = ord at hf
  cases nI : (s.tail && !ord) with
  | true => rw [nI] at hf; cases hf
  | false =>
    rw [nI] at hf; simp only [cond_false] at hf
    have lT : s.tail = true -> ord = true := fun h => by rw [h] at nI; simpa using nI
    split at hf
    . rename_i v h' bR
      cases bL : Nat.blt h'.next s.h.next with
      | true => rw [bL] at hf; cases hf
      | false =>
        rw [bL] at hf; simp only [cond_false] at hf
        have hn : s.h.next <= h'.next := by have := j8 bL; omega
        split at hf
        . rename_i t hp
          cases dV : Nat.ble s.h.next h'.low with
          | true =>
            rw [dV] at hf; simp only [cond_true, Option.some.injEq] at hf; subst hf
            exact ⟨rfl, .mem hw hc v h' ord iW.symm lT bR hn hp rfl rfl rfl (.inl ⟨fP dV, rfl, rfl, rfl⟩)⟩
          | false =>
            rw [dV] at hf; simp only [cond_false] at hf; obtain ⟨h5, h6⟩ := aT hf; simp only [Option.some.injEq] at h6; subst h6; exact ⟨rfl, .mem hw hc v h' ord iW.symm lT bR hn hp rfl rfl rfl (.inr ⟨h5, rfl, rfl, rfl⟩)⟩
        cases hf
    cases hf
theorem DR : ∀ (l : List Oper) (i : Nat) (s s' : dS), kJ step ops n l i s = some s' -> ∃ st : Nat -> dS, st i = s /\ st (i + l.length) = s' /\
    ∀ j o, l[j]? = some o -> gH step ops n o (i + j) (st (i + j)) = some (st (i + j + 1))
  | [], i, s, s', h => by
    simp only [kJ, Option.some.injEq] at h; subst h
    exact ⟨fun _ => s, rfl, rfl, fun j o hj => by simp at hj⟩
  | o :: l, i, s, s', h => by
    simp only [kJ] at h; split at h
    . rename_i s1 DK; obtain ⟨st, h1, h2, h3⟩ := DR l (i + 1) s1 s' h; refine ⟨fun k => if k = i then s else st k, by simp, ?_, fun j o' hj => ?_⟩
      . simp only [List.length_cons]; rw [if_neg (by omega), <- h2]; congr 1; omega
      cases j with
      | zero =>
        simp at hj; subst hj
        simp [h1, DK]
      | succ j =>
        simp only [List.getElem?_cons_succ] at hj; have := h3 j o' hj; rw [show i + 1 + j = i + (j + 1) by omega] at this; simp only; rw [if_neg (by omega), if_neg (by omega)]; exact this
    cases h
structure Trace (step : Oper -> (Operand -> Value) -> aA -> Option (Value × aA)) (ops : Array Oper) (n : Nat) (st : Nat -> dS) (t0 : Tr) (h0 : aA) : Prop where
  zero : st 0 = ⟨t0, h0, [], [], 0, false⟩
  FX : ∀ i o, ops[i]? = some o -> (st (i + 1)).bs = (st i).bs ++ [aP (st i).bs o] /\ AM step ops n (fun b ob => h0.get b = some ob /\ b < h0.next /\ (b < (st ops.size).h.low \/ ∀ q, q <= ops.size -> (st q).h.get b = some ob)) o i (st i) (st (i + 1))
variable {st : Nat -> dS} {t0 : Tr} {h0 : aA}
theorem aaS {s : dS} (h : kJ step ops n ops.toList 0 ⟨t0, h0, [], [], 0, false⟩ = some s) : ∃ st, Trace step ops n st t0 h0 /\ st ops.size = s := by
  obtain ⟨st, h1, h2, h3⟩ := DR _ _ _ _ h; refine ⟨st, ⟨h1, fun i o ho => ?_⟩, by simpa using h2⟩; have := h3 i o (by simpa using ho); simp only [Nat.zero_add] at this; exact PW this
def IY (P : Program) (h0 : aA) (ops : Array Oper) (n : Nat) (o : Oper) (s : dS) : Option (dS × Nat) :=
  match bJ ops s.t o, o.op with
  | some true, .load T a =>
    match aC s.t a with
    | .pointer (some p) =>
      match h0.get p.block with
      | some ob =>
        bif Nat.blt p.block h0.next then
          match eU P T (aC s.t a) { next := s.h.next, low := s.h.next, aB := [(p.block, ob)] } with
          | some v => (put n s.t o.dst v).map fun t => ({ s with t, bs := s.bs ++ [aP s.bs o] }, p.block + 1)
          | none => none
        else none
      | none => none
    | _ => none
  | _, _ => none
def qF (P : Program) (h0 : aA) (step : Oper -> (Operand -> Value) -> aA -> Option (Value × aA)) (ops : Array Oper) (n : Nat) : List Oper -> Nat -> dS -> Nat -> Option (dS × Nat)
  | [], _, s, AN => some (s, AN)
  | o :: r, i, s, AN => match gH step ops n o i s with
    | some s' => qF P h0 step ops n r (i + 1) s' AN
    | none => match IY P h0 ops n o s with
      | some (s', b) => qF P h0 step ops n r (i + 1) s' (max AN b)
      | none => none
def IZ (P : Program) (h0 : aA) (step : Oper -> (Operand -> Value) -> aA -> Option (Value × aA)) (ops : Array Oper) (n : Nat) (s : dS) : Option dS :=
  match qF P h0 step ops n ops.toList 0 s 0 with
  | some (s', AN) => bif Nat.ble AN s'.h.low then some s' else none
  | none => none
theorem aaT {call : FuncId -> List Value -> aA -> Option (Value × aA)} {yield : Nat -> List Value -> aA -> Option (Value × aA)} {X : Nat -> bB -> Prop} {o : Oper} {i b : Nat} {s s' : dS}
    (hf : IY P h0 ops n o s = some (s', b)) (hX : ∀ c ob, h0.get c = some ob -> c < h0.next -> c + 1 = b -> X c ob) :
    s'.bs = s.bs ++ [aP s.bs o] /\ AM (cQ P call yield) ops n X o i s s' := by
  unfold IY at hf; split at hf
  . rename_i T a hw dT; split at hf
    . rename_i p bY; split at hf
      . rename_i ob hg; obtain ⟨h1, h2⟩ := aT hf; split at h2
        . rename_i v hv; obtain ⟨t, h3, h4⟩ := Option.map_eq_some_iff.1 h2; simp only [Prod.mk.injEq] at h4; obtain ⟨h4, h5⟩ := h4; subst h4; refine ⟨rfl, .still hw v [(p.block, ob)] (fun c oc hc => ?_) ?_ h3 rfl rfl rfl rfl⟩
          . simp only [look] at hc
            cases C5 : Nat.beq p.block c with
            | true =>
              rw [C5] at hc; simp only [cond_true, Option.some.injEq] at hc; obtain rfl := bU C5; subst hc
              exact hX _ _ hg (jP h1) h5
            | false => rw [C5] at hc; cases hc
          unfold cQ; rw [dT]; simp only [hv, Option.map_some]
        cases h2
      cases hf
    cases hf
  cases hf
theorem uQ {call : FuncId -> List Value -> aA -> Option (Value × aA)} {yield : Nat -> List Value -> aA -> Option (Value × aA)} : ∀ (l : List Oper) (i : Nat) (s s' : dS) (AN yI : Nat), qF P h0 (cQ P call yield) ops n l i s AN = some (s', yI) ->
    AN <= yI /\ ∃ st : Nat -> dS, st i = s /\ st (i + l.length) = s' /\
    ∀ j o, l[j]? = some o -> ∀ X : Nat -> bB -> Prop, (∀ c ob, h0.get c = some ob -> c < h0.next -> c < yI -> X c ob) -> (st (i + j + 1)).bs = (st (i + j)).bs ++ [aP (st (i + j)).bs o] /\ AM (cQ P call yield) ops n X o (i + j) (st (i + j)) (st (i + j + 1))
  | [], i, s, s', AN, yI, h => by
    simp only [qF, Option.some.injEq, Prod.mk.injEq] at h; obtain ⟨h, h'⟩ := h; subst h h'
    exact ⟨Nat.le_refl _, fun _ => s, rfl, rfl, fun j o hj => by simp at hj⟩
  | o :: l, i, s, s', AN, yI, h => by
    simp only [qF] at h
    have key : ∀ s1 ZA, AN <= ZA -> qF P h0 (cQ P call yield) ops n l (i + 1) s1 ZA = some (s', yI) ->
        (∀ X : Nat -> bB -> Prop, (∀ c ob, h0.get c = some ob -> c < h0.next -> c < yI -> X c ob) -> s1.bs = s.bs ++ [aP s.bs o] /\ AM (cQ P call yield) ops n X o i s s1) ->
      AN <= yI /\ ∃ st : Nat -> dS, st i = s /\ st (i + (o :: l).length) = s' /\
        ∀ j o', (o :: l)[j]? = some o' -> ∀ X : Nat -> bB -> Prop, (∀ c ob, h0.get c = some ob -> c < h0.next -> c < yI -> X c ob) -> (st (i + j + 1)).bs = (st (i + j)).bs ++ [aP (st (i + j)).bs o'] /\ AM (cQ P call yield) ops n X o' (i + j) (st (i + j)) (st (i + j + 1)) := fun s1 ZA hl hr hd => by
      obtain ⟨hle, st, h1, h2, h3⟩ := uQ l (i + 1) s1 s' ZA yI hr; refine ⟨Nat.le_trans hl hle, fun k => if k = i then s else st k, by simp, ?_, fun j o' hj X hX => ?_⟩
      . simp only [List.length_cons]; rw [if_neg (by omega), <- h2]; congr 1; omega
      cases j with
      | zero =>
        simp at hj; subst hj
        simpa [h1] using hd X hX
      | succ j =>
        simp only [List.getElem?_cons_succ] at hj; have := h3 j o' hj X hX; rw [show i + 1 + j = i + (j + 1) by omega] at this; simp only; rw [if_neg (by omega), if_neg (by omega)]; exact this
    split at h
    . rename_i s1 DK; exact key s1 AN (Nat.le_refl _) h fun X _ => PW DK
    split at h
    . rename_i s1 b DK; refine key s1 _ (Nat.le_max_left _ _) h fun X hX => aaT DK fun c ob hc nT DL => hX c ob hc nT ?_; have := (uQ l (i + 1) s1 s' _ yI h).1; have := Nat.le_max_right AN b; omega
    cases h
theorem W1 {call : FuncId -> List Value -> aA -> Option (Value × aA)} {yield : Nat -> List Value -> aA -> Option (Value × aA)} {s : dS} (h : IZ P h0 (cQ P call yield) ops n ⟨t0, h0, [], [], 0, false⟩ = some s) : ∃ st, Trace (cQ P call yield) ops n st t0 h0 /\ st ops.size = s := by
  unfold IZ at h; split at h
  . rename_i s' AN hr; obtain ⟨hl, h⟩ := aT h; simp only [Option.some.injEq] at h; subst h; obtain ⟨_, st, h1, h2, h3⟩ := uQ _ _ _ _ _ _ hr
    have IE : st ops.size = s' := by simpa using h2
    refine ⟨st, ⟨h1, fun i o ho => ?_⟩, IE⟩; have := h3 i o (by simpa using ho) (fun b ob => h0.get b = some ob /\ b < h0.next /\ (b < (st ops.size).h.low \/ ∀ q, q <= ops.size -> (st q).h.get b = some ob)) (fun c ob hc nT DL => ⟨hc, nT, .inl (by rw [IE]; exact Nat.lt_of_lt_of_le DL (fP hl))⟩); simpa only [Nat.zero_add] using this
  cases h
def nX (st : Nat -> dS) (ops : Array Oper) (k : Nat) : Nat := match ops[k]? with
  | some o => aP (st k).bs o
  | none => 0
theorem Trace.bs (T : Trace step ops n st t0 h0) : ∀ i, i <= ops.size -> (st i).bs.length = i /\ ∀ k, k < i -> (st i).bs.getD k 0 = nX st ops k
  | 0, _ => ⟨by rw [T.zero]; rfl, fun k hk => by omega⟩
  | i + 1, hi => by
    obtain ⟨h1, h2⟩ := Trace.bs T i (by omega); have ho : ops[i]? = some ops[i] := Array.getElem?_eq_getElem (by omega); have h3 := (T.FX i _ ho).1; refine ⟨by rw [h3]; simp [h1], fun k hk => ?_⟩; rw [h3, List.getD_eq_getElem?_getD]; by_cases iC : k < i
    . rw [List.getElem?_append_left (by omega)]; have := h2 k iC
      rwa [List.getD_eq_getElem?_getD] at this
    have : k = i := by omega
    subst this; rw [List.getElem?_append_right (by omega), h1, Nat.sub_self]; simp [nX, ho]
theorem DS (bs : List Nat) (m : Nat) : ∀ (es : List Edge) (s : Nat),
    (es.foldl (fun s e => if Region.binds .any e then s ||| 2 ^ e.on ||| bs.getD e.on 0 else s) s).testBit m = true ↔ s.testBit m = true \/ ∃ e ∈ es, Region.binds .any e = true /\ (e.on = m \/ (bs.getD e.on 0).testBit m = true)
  | [], s => by simp
  | e :: es, s => by
    rw [List.foldl_cons, DS bs m es]
    cases hb : Region.binds .any e with
    | false => simp [hb]
    | true =>
      simp only [if_true, Nat.testBit_or, Bool.or_eq_true, Nat.testBit_two_pow, decide_eq_true_eq, List.mem_cons, exists_eq_or_imp, hb, true_and]; constructor
      . rintro (((h | h) | h) | h)
        . exact .inl h
        . exact .inr (.inl (.inl h))
        . exact .inr (.inl (.inr h))
        exact .inr (.inr h)
      rintro (h | (h | h) | h)
      . exact .inl (.inl (.inl h))
      . exact .inl (.inl (.inr h))
      . exact .inl (.inr h)
      exact .inr h
theorem Trace.DT (T : Trace step ops n st t0 h0) (nW : nV ops) {k : Nat} {o : Oper} (ho : ops[k]? = some o) (m : Nat) : (nX st ops k).testBit m = true ↔ ∃ e ∈ o.after.toList, Region.binds .any e = true /\ (e.on = m \/ (nX st ops e.on).testBit m = true) := by
  have hk : k < ops.size := (Array.getElem?_eq_some_iff.1 ho).1
  have h1 : nX st ops k = aP (st k).bs o := by simp [nX, ho]
  rw [h1]; unfold aP; rw [DS]; simp only [Nat.zero_testBit, Bool.false_eq_true, false_or]; constructor
  . rintro ⟨e, he, hb, h⟩; rw [(T.bs k (by omega)).2 e.on (nW k o ho e he hb)] at h; exact ⟨e, he, hb, h⟩
  rintro ⟨e, he, hb, h⟩; rw [<- (T.bs k (by omega)).2 e.on (nW k o ho e he hb)] at h; exact ⟨e, he, hb, h⟩
theorem Trace.PX (T : Trace step ops n st t0 h0) (nW : nV ops) : ∀ (k m : Nat), (nX st ops k).testBit m = true -> m < k := fun k => by
  induction k using Nat.strongRecOn with
  | ind k ih =>
    intro m hm
    cases ho : ops[k]? with
    | none => simp [nX, ho] at hm
    | some o =>
      obtain ⟨e, he, hb, h⟩ := (T.DT nW ho m).1 hm; have h1 := nW k o ho e he hb; rcases h with h | h
      . omega
      have := ih e.on h1 m h; omega
theorem Trace.NX (T : Trace step ops n st t0 h0) (nW : nV ops) : ∀ (k m l : Nat), (nX st ops k).testBit m = true -> (nX st ops m).testBit l = true -> (nX st ops k).testBit l = true := fun k => by
  induction k using Nat.strongRecOn with
  | ind k ih =>
    intro m l hm hl
    cases ho : ops[k]? with
    | none => simp [nX, ho] at hm
    | some o =>
      obtain ⟨e, he, hb, h⟩ := (T.DT nW ho m).1 hm; have h1 := nW k o ho e he hb; rcases h with h | h
      . subst h; exact (T.DT nW ho l).2 ⟨e, he, hb, .inr hl⟩
      exact (T.DT nW ho l).2 ⟨e, he, hb, .inr (ih e.on h1 m l h hl)⟩
theorem Trace.SL (T : Trace step ops n st t0 h0) (nW : nV ops) {E : Nat -> Bool} (hE : ∀ k, E k = true -> ∀ m, (nX st ops k).testBit m = true -> E m = true) {k : Nat} {o : Oper} (ho : ops[k]? = some o)
    (he : ∀ e ∈ o.after.toList, Region.binds .any e = true -> E e.on = true) (m : Nat) (hm : (nX st ops k).testBit m = true) : E m = true := by
  obtain ⟨e, h1, h2, h3⟩ := (T.DT nW ho m).1 hm; rcases h3 with h3 | h3
  . subst h3; exact he e h1 h2
  exact hE e.on (he e h1 h2) m h3
def nK (st : Nat -> dS) (ops : Array Oper) (k : Nat) : Prop := k < ops.size /\ (st (k + 1)).segs.length ≠ (st k).segs.length
theorem Trace.wM (T : Trace step ops n st t0 h0) (i : Nat) (o : Oper) (ho : ops[i]? = some o) : (nK st ops i /\ (st (i + 1)).mem = (st i).mem ||| 2 ^ i /\ (st (i + 1)).segs = (i, (st i).h.next, (st (i + 1)).h.next) :: (st i).segs /\ (st i).h.next <= (st (i + 1)).h.next) \/
    (¬ nK st ops i /\ (st (i + 1)).mem = (st i).mem /\ (st (i + 1)).segs = (st i).segs /\ (st (i + 1)).h = (st i).h /\ (st (i + 1)).tail = (st i).tail) := by
  have hi : i < ops.size := (Array.getElem?_eq_some_iff.1 ho).1
  cases (T.FX i o ho).2 with
  | skip hw hp hh hs hm ht => exact .inr ⟨fun h => h.2 (by rw [hs]), hm, hs, hh, ht⟩
  | calm hw hc v h' bR hn hp hh hs hm ht => exact .inr ⟨fun h => h.2 (by rw [hs]), hm, hs, hh, ht⟩
  | still hw v aB hX bR hp hh hs hm ht => exact .inr ⟨fun h => h.2 (by rw [hs]), hm, hs, hh, ht⟩
  | mem hw hc v h' ord qB lT bR hn hp hm hs j6 hk =>
    exact .inl ⟨⟨hi, by rw [hs]; simp⟩, hm, by rw [j6]; exact hs, by rw [j6]; exact hn⟩
theorem Trace.ajP (T : Trace step ops n st t0 h0) (i : Nat) (hi : i < ops.size) : (st i).h.next <= (st (i + 1)).h.next := by
  rcases T.wM i _ (Array.getElem?_eq_getElem hi) with ⟨_, _, _, h⟩ | ⟨_, _, _, h, _⟩
  . exact h
  rw [h]; exact Nat.le_refl _
theorem Trace.next (T : Trace step ops n st t0 h0) (i j : Nat) (N1 : i <= j) (hj : j <= ops.size) : (st i).h.next <= (st j).h.next := by
  induction j with
  | zero =>
    have : i = 0 := by omega
    subst this; exact Nat.le_refl _
  | succ j ih =>
    by_cases h : i = j + 1
    . subst h; exact Nat.le_refl _
    exact Nat.le_trans (ih (by omega) (by omega)) (T.ajP j (by omega))
theorem Trace.alI (T : Trace step ops n st t0 h0) (i : Nat) (hi : i < ops.size) : (st (i + 1)).h.low <= (st i).h.low := by
  have ho : ops[i]? = some ops[i] := Array.getElem?_eq_getElem hi
  cases (T.FX i _ ho).2 with
  | skip hw hp hh hs hm ht => rw [hh]; exact Nat.le_refl _
  | calm hw hc v h' bR hn hp hh hs hm ht => rw [hh]; exact Nat.le_refl _
  | still hw v aB hX bR hp hh hs hm ht => rw [hh]; exact Nat.le_refl _
  | mem hw hc v h' ord qB lT bR hn hp hm hs j6 hk =>
    rcases hk with ⟨_, h1, _⟩ | ⟨_, h1, _⟩
    . rw [h1]; exact Nat.le_refl _
    rw [h1]; exact Nat.min_le_left _ _
theorem Trace.low (T : Trace step ops n st t0 h0) (i j : Nat) (N1 : i <= j) (hj : j <= ops.size) : (st j).h.low <= (st i).h.low := by
  induction j with
  | zero =>
    have : i = 0 := by omega
    subst this; exact Nat.le_refl _
  | succ j ih =>
    by_cases h : i = j + 1
    . subst h; exact Nat.le_refl _
    exact Nat.le_trans (T.alI j (by omega)) (ih (by omega) (by omega))
theorem Trace.adP (T : Trace step ops n st t0 h0) (i : Nat) (hi : i < ops.size) (h : (st i).tail = true) : (st (i + 1)).tail = true := by
  have ho : ops[i]? = some ops[i] := Array.getElem?_eq_getElem hi
  cases (T.FX i _ ho).2 with
  | skip hw hp hh hs hm ht => rw [ht]; exact h
  | calm hw hc v h' bR hn hp hh hs hm ht => rw [ht]; exact h
  | still hw v aB hX bR hp hh hs hm ht => rw [ht]; exact h
  | mem hw hc v h' ord qB lT bR hn hp hm hs j6 hk =>
    rcases hk with ⟨_, _, _, h1⟩ | ⟨_, _, _, h1⟩
    . rw [h1]; exact h
    exact h1
theorem Trace.tail (T : Trace step ops n st t0 h0) (i j : Nat) (N1 : i <= j) (hj : j <= ops.size) (h : (st i).tail = true) : (st j).tail = true := by
  induction j with
  | zero =>
    have : i = 0 := by omega
    subst this; exact h
  | succ j ih =>
    by_cases h' : i = j + 1
    . subst h'; exact h
    exact T.adP j (by omega) (ih (by omega) (by omega))
theorem Trace.C6 (T : Trace step ops n st t0 h0) : ∀ i, i <= ops.size -> (st i).tail = true -> ∃ k, k < i /\ nK st ops k /\ (st (k + 1)).tail = true
  | 0, _, h => by rw [T.zero] at h; cases h
  | i + 1, hi, h => by
    have ho : ops[i]? = some ops[i] := Array.getElem?_eq_getElem (by omega); rcases T.wM i _ ho with ⟨h1, _⟩ | ⟨_, _, _, _, h1⟩
    . exact ⟨i, by omega, h1, h⟩
    rw [h1] at h; obtain ⟨k, h2, h3⟩ := Trace.C6 T i (by omega) h; exact ⟨k, by omega, h3⟩
theorem Trace.FY (T : Trace step ops n st t0 h0) : ∀ i, i <= ops.size -> ∀ k, (st i).mem.testBit k = true ↔ k < i /\ nK st ops k
  | 0, _, k => by rw [T.zero]; simp
  | i + 1, hi, k => by
    have ih := Trace.FY T i (by omega) k; have ho : ops[i]? = some ops[i] := Array.getElem?_eq_getElem (by omega); rcases T.wM i _ ho with ⟨h1, h2, _⟩ | ⟨h1, h2, _⟩
    . rw [h2, Nat.testBit_or, Bool.or_eq_true, ih, Nat.testBit_two_pow, decide_eq_true_eq]; constructor
      . rintro (⟨h3, h4⟩ | rfl)
        . exact ⟨by omega, h4⟩
        exact ⟨by omega, h1⟩
      rintro ⟨h3, h4⟩; by_cases hk : k = i
      . exact .inr hk.symm
      exact .inl ⟨by omega, h4⟩
    rw [h2, ih]; constructor
    . rintro ⟨h3, h4⟩; exact ⟨by omega, h4⟩
    rintro ⟨h3, h4⟩; refine ⟨?_, h4⟩; by_cases hk : k = i
    . subst hk; exact absurd h4 h1
    omega
theorem Trace.FZ (T : Trace step ops n st t0 h0) : ∀ i, i <= ops.size -> ∀ k, k < i -> nK st ops k -> (k, (st k).h.next, (st (k + 1)).h.next) ∈ (st i).segs
  | 0, _, k, hk, _ => by omega
  | i + 1, hi, k, hk, hm => by
    have ho : ops[i]? = some ops[i] := Array.getElem?_eq_getElem (by omega); rcases T.wM i _ ho with ⟨h1, _, h2, _⟩ | ⟨h1, _, h2, _⟩
    . rw [h2]; by_cases iC : k = i
      . subst iC; exact List.mem_cons_self
      exact List.mem_cons_of_mem _ (Trace.FZ T i (by omega) k (by omega) hm)
    rw [h2]; by_cases iC : k = i
    . subst iC; exact absurd hm h1
    exact Trace.FZ T i (by omega) k (by omega) hm
def rG (st : Nat -> dS) (k b : Nat) : Prop := (st k).h.next <= b /\ b < (st (k + 1)).h.next
theorem Trace.cover (T : Trace step ops n st t0 h0) : ∀ i, i <= ops.size -> ∀ b, h0.next <= b -> b < (st i).h.next -> ∃ k, k < i /\ rG st k b
  | 0, _, b, h1, h2 => by rw [T.zero] at h2; exact absurd h2 (by simp; omega)
  | i + 1, hi, b, h1, h2 => by
    by_cases h : b < (st i).h.next
    . obtain ⟨k, hk, hs⟩ := Trace.cover T i (by omega) b h1 h; exact ⟨k, by omega, hs⟩
    exact ⟨i, by omega, by unfold rG; omega⟩
theorem Trace.DU (T : Trace step ops n st t0 h0) {k b : Nat} (hk : k < ops.size) (hs : rG st k b) : nK st ops k := by
  rcases T.wM k _ (Array.getElem?_eq_getElem hk) with ⟨h1, _⟩ | ⟨_, _, _, h1, _⟩
  . exact h1
  unfold rG at hs; rw [h1] at hs; omega
theorem Trace.adQ (T : Trace step ops n st t0 h0) {k m b : Nat} (hk : k < ops.size) (hm : m < ops.size) (h1 : rG st k b) (h2 : rG st m b) : k = m := by
  unfold rG at h1 h2; rcases Nat.lt_trichotomy k m with h | h | h
  . have := T.next (k + 1) m h (by omega); omega
  . exact h
  have := T.next (m + 1) k h (by omega); omega
theorem Trace.PY (T : Trace step ops n st t0 h0) {k b : Nat} (hk : k < ops.size) (h1 : rG st k b) : h0.next <= b := by
  have := T.next 0 k (by omega) (by omega); rw [T.zero] at this; exact Nat.le_trans this h1.1
theorem iN (a b : List (Nat × bB)) (i : Nat) : look (a ++ b) i = (look a i).or (look b i) := by
  induction a with
  | nil => rfl
  | cons p a ih =>
    obtain ⟨k, o⟩ := p; cases hb : Nat.beq k i <;> simp [look, hb, ih]
theorem pD (p : Nat × bB -> Bool) (q : Nat -> Bool) (hpq : ∀ k o, p (k, o) = q k) : ∀ (l : List (Nat × bB)) (b : Nat) (o : bB), look (l.filter p) b = some o -> look l b = some o /\ q b = true
  | [], b, o, h => by cases h
  | (k, o') :: r, b, o, h => by
    rw [List.filter_cons] at h
    cases hc : p (k, o') with
    | false =>
      rw [hc] at h; obtain ⟨h1, h2⟩ := pD p q hpq r b o h
      cases hb : Nat.beq k b with
      | true =>
        have := bU hb; subst this
        rw [<- hpq k o', hc] at h2; cases h2
      | false => exact ⟨by simp [look, hb, h1], h2⟩
    | true =>
      rw [hc] at h; simp only [if_true, look] at h
      cases hb : Nat.beq k b with
      | true =>
        rw [hb] at h; have := bU hb; subst this
        exact ⟨by simp [look, hb]; simpa using h, by rw [<- hpq k o', hc]⟩
      | false =>
        rw [hb] at h; obtain ⟨h1, h2⟩ := pD p q hpq r b o h; exact ⟨by simp [look, hb, h1], h2⟩
theorem eO {lo hi : Nat} (l : List (Nat × bB)) (b : Nat) (o : bB) (h : look (bH lo hi l) b = some o) : (lo <= b /\ b < hi) /\ look l b = some o := by
  unfold bH at h
  cases hb : Nat.beq lo hi with
  | true => rw [hb] at h; cases h
  | false =>
    rw [hb] at h; obtain ⟨h1, h2⟩ := pD (inside lo hi) (fun b => Nat.ble lo b && Nat.blt b hi) (fun _ _ => rfl) l b o h; obtain ⟨h3, h4⟩ := b6 h2; exact ⟨⟨fP h3, jP h4⟩, h1⟩
theorem K5 {bb : Nat} : ∀ (segs : List (Nat × Nat × Nat)) (l : List (Nat × bB)) (b : Nat) (o : bB), look (mask bb segs l) b = some o ->
    look l b = some o /\ ∀ k lo hi, (k, lo, hi) ∈ segs -> lo <= b -> b < hi -> bb.testBit k = true
  | [], l, b, o, h => ⟨h, fun _ _ _ hm => by cases hm⟩
  | (k, lo, hi) :: segs, l, b, o, h => by
    simp only [mask] at h; obtain ⟨h1, h2⟩ := K5 segs _ b o h
    cases hb : bb.testBit k with
    | true =>
      rw [hb] at h1; refine ⟨by simpa using h1, fun k' uO dI hm h3 h4 => ?_⟩; rcases List.mem_cons.1 hm with he | hm
      . simp only [Prod.mk.injEq] at he; rw [he.1]; exact hb
      exact h2 _ _ _ hm h3 h4
    | false =>
      rw [hb] at h1; simp only [Bool.false_eq_true, if_false] at h1; obtain ⟨h5, h6⟩ := pD (outside lo hi) (fun b => !(decide (lo <= b) && decide (b < hi))) (fun _ _ => rfl) l b o h1; refine ⟨h5, fun k' uO dI hm h3 h4 => ?_⟩; rcases List.mem_cons.1 hm with he | hm
      . simp only [Prod.mk.injEq] at he; obtain ⟨rfl, rfl, rfl⟩ := he; simp [h3, h4] at h6
      exact h2 _ _ _ hm h3 h4
theorem Trace.PZ (T : Trace step ops n st t0 h0) (hh : ∀ b o, h0.get b = some o -> b < h0.next) : ∀ i, i <= ops.size -> (st i).tail = false ->
    (∀ b, b < h0.next -> (st i).h.get b = h0.get b) /\ (∀ k, k < i -> ∀ b, rG st k b -> (st i).h.get b = (st (k + 1)).h.get b) /\ ∀ b o, (st i).h.get b = some o -> b < (st i).h.next
  | 0, _, _ => ⟨fun b _ => by rw [T.zero], fun k hk => by omega, fun b o h => by rw [T.zero] at h ⊢; exact hh b o h⟩
  | i + 1, hi, ht => by
    have ht0 : (st i).tail = false := by
      cases h : (st i).tail with
      | false => rfl
      | true => rw [T.adP i (by omega) h] at ht; cases ht
    obtain ⟨h1, h2, h3⟩ := Trace.PZ T hh i (by omega) ht0; have ho : ops[i]? = some ops[i] := Array.getElem?_eq_getElem (by omega)
    have same : (st (i + 1)).h = (st i).h -> _ := fun he => (⟨fun b hb => by rw [he]; exact h1 b hb, fun k hk b hs => by
        by_cases iC : k = i
        . subst iC; rfl
        . rw [he]; exact h2 k (by omega) b hs, fun b o hb => by rw [he] at hb ⊢; exact h3 b o hb⟩ :
        (∀ b, b < h0.next -> (st (i + 1)).h.get b = h0.get b) /\ (∀ k, k < i + 1 -> ∀ b, rG st k b -> (st (i + 1)).h.get b = (st (k + 1)).h.get b) /\ ∀ b o, (st (i + 1)).h.get b = some o -> b < (st (i + 1)).h.next)
    cases (T.FX i _ ho).2 with
    | skip hw hp hh' hs hm ht => exact same hh'
    | calm hw hc v h' bR hn hp hh' hs hm ht => exact same hh'
    | still hw v aB hX bR hp hh' hs hm ht => exact same hh'
    | mem hw hc v h' ord qB lT bR hn hp hm hs j6 hk =>
      rcases hk with ⟨dV, _, sO, _⟩ | ⟨_, _, _, h⟩
      . have jE : ∀ b, (st (i + 1)).h.get b = (look (bH (st i).h.next h'.next h'.aB) b).or ((st i).h.get b) := fun b => by
          show look (st (i + 1)).h.aB b = _; rw [sO, iN]; rfl
        have hold : ∀ b, b < (st i).h.next -> (st (i + 1)).h.get b = (st i).h.get b := fun b hb => by
          rw [jE]
          cases hl : look (bH (st i).h.next h'.next h'.aB) b with
          | none => rfl
          | some o => have := (eO _ _ _ hl).1; omega
        have Q0 := T.next 0 i (by omega) (by omega); rw [T.zero] at Q0; refine ⟨fun b hb => by rw [hold b (Nat.lt_of_lt_of_le hb Q0)]; exact h1 b hb, fun k hk b hs => ?_, fun b o hb => ?_⟩
        . by_cases iC : k = i
          . subst iC; rfl
          have K6 := hs.2; have := T.next (k + 1) i (by omega) (by omega); rw [hold b (by omega)]; exact h2 k (by omega) b hs
        rw [j6]; rw [jE] at hb
        cases hl : look (bH (st i).h.next h'.next h'.aB) b with
        | none => rw [hl] at hb; have := h3 b o hb; omega
        | some o => exact (eO _ _ _ hl).1.2
      rw [h] at ht; cases ht
end
end Go.Fs
namespace Go.Fs
open Go.RowKit (Below)
variable {P : Program}
def G0 (ops : Array Oper) : Prop := ∀ (i j : Nat) (oi oj : Oper) (d : Tmp), ops[i]? = some oi -> ops[j]? = some oj -> oi.dst = some d -> oj.dst = some d -> i = j
def K7 (st : Nat -> dS) (ops : Array Oper) : Prop := ∀ (i : Nat) (oi : Oper), ops[i]? = some oi -> ∀ x ∈ oi.looksAt ops, ∀ (j : Nat) (oj : Oper), ops[j]? = some oj -> oj.dst = some x ->
  j = i \/ (nX st ops i).testBit j = true \/ (nX st ops j).testBit i = true
def G1 (st : Nat -> dS) (ops : Array Oper) (S : Nat -> Prop) (K : Nat -> Prop) (b : Nat) : Prop := S b \/ ∃ m, K m /\ m < ops.size /\ rG st m b
def cl (st : Nat -> dS) (ops : Array Oper) (S : Nat -> Prop) (k : Nat) : Nat -> Prop := G1 st ops S fun m => m = k \/ (nX st ops k).testBit m = true
def SB (st : Nat -> dS) (ops : Array Oper) (S : Nat -> Prop) (i : Nat) : Nat -> Prop := G1 st ops S fun m => (nX st ops i).testBit m = true
def SE (st : Nat -> dS) (ops : Array Oper) (S : Nat -> Prop) (E : Nat -> Bool) : Nat -> Prop := G1 st ops S fun m => E m = true
theorem gP {st : Nat -> dS} {ops : Array Oper} {S : Nat -> Prop} {K K' : Nat -> Prop} (h : ∀ m, K m -> K' m) (b : Nat) (hb : G1 st ops S K b) : G1 st ops S K' b := by
  rcases hb with hb | ⟨m, h1, h2⟩
  . exact .inl hb
  exact .inr ⟨m, h m h1, h2⟩
theorem Q1 {st : Nat -> dS} {ops : Array Oper} {S : Nat -> Prop} {E : Nat -> Bool} (G2 : ∀ k, E k = true -> ∀ m, (nX st ops k).testBit m = true -> E m = true) {k : Nat} (hk : E k = true) (b : Nat)
    (hb : cl st ops S k b) : SE st ops S E b := by
  refine gP (fun m hm => ?_) b hb; rcases hm with hm | hm
  . rw [hm]; exact hk
  exact G2 k hk m hm
theorem K8 {n : Nat} {t t' : Tr} {dst : Option Tmp} {v : Value} (hn : n <= 4000) (hp : put n t dst v = some t') (x : Nat) : t'.get x = if dst = some x then v else t.get x := by
  unfold put at hp
  cases dst with
  | none => simp only [Option.some.injEq] at hp; subst hp; simp
  | some d =>
    obtain ⟨h1, h2⟩ := aT hp; simp only [Option.some.injEq] at h2; subst h2; have h1 := jP h1; rw [Tr.cZ depth t d v x (by have : 2 ^ depth = 8192 := rfl; omega)]; by_cases hx : x = d
    . subst hx; simp
    rw [if_neg hx, if_neg (by simp; exact fun h => hx h.symm)]
theorem ah3 {n : Nat} {t t' : Tr} {d : Tmp} {v : Value} (hp : put n t (some d) v = some t') : d < n := by
  unfold put at hp; exact jP (aT hp).1
section
variable {step : Oper -> (Operand -> Value) -> aA -> Option (Value × aA)} {ops : Array Oper} {n : Nat} {st : Nat -> dS} {t0 : Tr} {h0 : aA}
theorem AM.put {X : Nat -> bB -> Prop} {o : Oper} {i : Nat} {s s' : dS} (h : AM step ops n X o i s s') : ∃ v, Fs.put n s.t o.dst v = some s'.t := by
  cases h with
  | skip hw hp hh hs hm ht => exact ⟨_, hp⟩
  | calm hw hc v h' bR hn hp hh hs hm ht => exact ⟨_, hp⟩
  | still hw v aB hX bR hp hh hs hm ht => exact ⟨_, hp⟩
  | mem hw hc v h' ord qB lT bR hn hp hm hs j6 hk => exact ⟨_, hp⟩
theorem Trace.DV (T : Trace step ops n st t0 h0) (hn : n <= 4000) : ∀ i, i <= ops.size -> ∀ x, (∀ j o, j < i -> ops[j]? = some o -> o.dst ≠ some x) -> (st i).t.get x = t0.get x
  | 0, _, x, _ => by rw [T.zero]
  | i + 1, hi, x, hx => by
    have ho : ops[i]? = some ops[i] := Array.getElem?_eq_getElem (by omega); obtain ⟨v, hp⟩ := (T.FX i _ ho).2.put; rw [K8 hn hp, if_neg (hx i _ (by omega) ho)]; exact Trace.DV T hn i (by omega) x fun j o hj => hx j o (by omega)
theorem Trace.K9 (T : Trace step ops n st t0 h0) (pE : G0 ops) (hn : n <= 4000) : ∀ i, i <= ops.size -> ∀ j o x, j < i -> ops[j]? = some o -> o.dst = some x -> (st i).t.get x = (st (j + 1)).t.get x
  | 0, _, j, _, _, hj, _, _ => by omega
  | i + 1, hi, j, o, x, hj, ho, hx => by
    by_cases DW : j = i
    . subst DW; rfl
    have uM : ops[i]? = some ops[i] := Array.getElem?_eq_getElem (by omega); obtain ⟨v, hp⟩ := (T.FX i _ uM).2.put; rw [K8 hn hp, if_neg fun h => DW (pE j i o _ x ho uM hx h)]; exact Trace.K9 T pE hn i (by omega) j o x (by omega) ho hx
end
def DX (st : Nat -> dS) (ops : Array Oper) (n : Nat) (t0 : Tr) (S : Nat -> Prop) (E : Nat -> Bool) (ρ : Ren) (tmps : Array Value) : Prop :=
  tmps.size = n /\ (∀ k o d, E k = true -> ops[k]? = some o -> o.dst = some d -> VR ρ (cl st ops S k) ((st (k + 1)).t.get d) (tmps.toList.getD d undef)) /\
  ∀ d, (∀ k o, E k = true -> ops[k]? = some o -> o.dst ≠ some d) -> VR ρ S (t0.get d) (tmps.toList.getD d undef)
theorem NY (a : Act) (dst : Option Tmp) (v : Value) (x : Nat) (bL : ∀ d, dst = some d -> d < a.tmps.size) : (a.put dst v).tmps.toList.getD x undef = if dst = some x then v else a.tmps.toList.getD x undef := by
  cases dst with
  | none => simp [Act.put]
  | some d =>
    have hd := bL d rfl; simp only [Act.put, Array.toList_setIfInBounds, List.getD_eq_getElem?_getD, List.getElem?_set]; by_cases e : d = x
    . subst e; simp [hd]
    simp [e]
theorem size_put (a : Act) (dst : Option Tmp) (v : Value) : (a.put dst v).tmps.size = a.tmps.size := by
  cases dst <;> simp [Act.put]
section
variable {step : Oper -> (Operand -> Value) -> aA -> Option (Value × aA)} {ops : Array Oper} {n : Nat} {st : Nat -> dS} {t0 : Tr} {h0 : aA}
variable {S : Nat -> Prop} {E : Nat -> Bool} {ρ iZ : Ren} {a : Act}
theorem DX.put (pE : G0 ops) (hn : n <= 4000) (hI : DX st ops n t0 S E ρ a.tmps) (G2 : ∀ k, E k = true -> ∀ m, (nX st ops k).testBit m = true -> E m = true) (fI : ∀ b, SE st ops S E b -> iZ b = ρ b)
    {i : Nat} {o : Oper} (ho : ops[i]? = some o) (hE : E i = false) {v v1 : Value} (hp : put n (st i).t o.dst v = some (st (i + 1)).t) (hv : VR iZ (cl st ops S i) v v1) :
    DX st ops n t0 S (fun j => E j || j == i) iZ (a.put o.dst v1).tmps := by
  obtain ⟨h1, h2, h3⟩ := hI
  have bL : ∀ d, o.dst = some d -> d < a.tmps.size := fun d hd => by rw [hd] at hp; rw [h1]; exact ah3 hp
  refine ⟨by rw [size_put, h1], fun k ok d hk bW hd => ?_, fun d hd => ?_⟩
  . rw [NY a o.dst v1 d bL]; by_cases iC : k = i
    . subst iC; rw [ho] at bW; injection bW with bW; subst bW; rw [if_pos hd, K8 hn hp, if_pos hd]; exact hv
    have cM : o.dst ≠ some d := fun h => iC (pE k i ok o d bW ho hd h); rw [if_neg cM]
    have AO : E k = true := by simpa [iC] using hk
    exact (h2 k ok d AO bW hd).mono fun b hb => ⟨hb, fI b (Q1 G2 AO b hb)⟩
  have cM : o.dst ≠ some d := hd i o (by simp) ho; rw [NY a o.dst v1 d bL, if_neg cM]; exact (h3 d fun k ok hk bW => hd k ok (by simp [hk]) bW).mono fun b hb => ⟨hb, fI b (.inl hb)⟩
theorem DX.look (T : Trace step ops n st t0 h0) (nW : nV ops) (pE : G0 ops) (hn : n <= 4000) (W2 : K7 st ops) (hI : DX st ops n t0 S E ρ a.tmps)
    (G2 : ∀ k, E k = true -> ∀ m, (nX st ops k).testBit m = true -> E m = true)
    {i : Nat} {o : Oper} (ho : ops[i]? = some o) (hE : E i = false) (he : ∀ e ∈ o.after.toList, Region.binds .any e = true -> E e.on = true) (x : Tmp) (hx : x ∈ o.looksAt ops) :
    VR ρ (SB st ops S i) ((st i).t.get x) (a.tmps.toList.getD x undef) := by
  obtain ⟨h1, h2, h3⟩ := hI; have hi : i < ops.size := (Array.getElem?_eq_some_iff.1 ho).1; by_cases hw : ∃ (j : Nat) (oj : Oper), ops[j]? = some oj /\ oj.dst = some x
  . obtain ⟨j, oj, hj, IF⟩ := hw
    have old : E j = false -> i <= j -> VR ρ (SB st ops S i) ((st i).t.get x) (a.tmps.toList.getD x undef) := fun hEj N1 => by
      rw [T.DV hn i (by omega) x fun k ok hk bW KA => by have := pE k j ok oj x bW hj KA IF; omega]; refine (h3 x fun k ok hk bW KA => ?_).mono fun b hb => ⟨.inl hb, rfl⟩; have := pE k j ok oj x bW hj KA IF; subst this; rw [hEj] at hk; cases hk
    rcases W2 i o ho x hx j oj hj IF with DW | hb | hb
    . subst DW; exact old hE (Nat.le_refl _)
    . have bL := T.PX nW i j hb; have hEj := T.SL nW G2 ho he j hb; rw [T.K9 pE hn i (by omega) j oj x bL hj IF]; refine (h2 j oj x hEj hj IF).mono fun b sP => ⟨gP (fun m hm => ?_) b sP, rfl⟩; rcases hm with rfl | hm
      . exact hb
      exact T.NX nW i j m hb hm
    have bL := T.PX nW j i hb; refine old ?_ (by omega)
    cases hEj : E j with
    | false => rfl
    | true => rw [G2 j hEj i hb] at hE; cases hE
  rw [T.DV hn i (by omega) x fun k ok _ bW KA => hw ⟨k, ok, bW, KA⟩]; exact (h3 x fun k ok _ bW KA => hw ⟨k, ok, bW, KA⟩).mono fun b hb => ⟨.inl hb, rfl⟩
end
theorem N4 {ρ : Ren} {S : Nat -> Prop} {t : Tr} {a : Act} {ops : Array Oper} {o : Oper} (h : ∀ x ∈ o.looksAt ops, VR ρ S (t.get x) (a.tmps.toList.getD x undef)) :
    ∀ x ∈ o.op.operands.toList, VR ρ S (aC t x) (a.eval x) := fun x hx => by
  cases x with
  | tmp i =>
    have := h i (by
      unfold Oper.looksAt
      refine List.mem_append_left _ (List.mem_filterMap.2 ⟨.tmp i, hx, rfl⟩))
    simpa [aC, Act.eval, Array.getD_eq_getD_getElem?, List.getD_eq_getElem?_getD] using this
  | const v =>
    simp only [aC, Act.eval]; by_cases hv : af v = true
    . rw [if_pos hv]; exact .mJ hv
    rw [if_neg hv]; exact .gY v
  | global g => exact .gY _
  | func f => exact .func f _ _ _ _ rfl (fun i h => absurd h (by simp)) rfl (fun i h => absurd h (by simp))
end Go.Fs
namespace Go.Fs
open Go.RowKit (Below)
variable {P : Program}
structure G3 (P : Program) (st : Nat -> dS) (ops : Array Oper) (h0 : aA) (S : Nat -> Prop) (E : Nat -> Bool) (ρ : Ren) (H : aA) (w : World) : Prop where
  calm : ∀ k, E k = true -> nK st ops k -> (st (k + 1)).tail = false
  base : ∀ b, b < h0.next -> H.get b = h0.get b
  news : ∀ k, E k = true -> k < ops.size -> ∀ b, rG st k b -> H.get b = (st (k + 1)).h.get b
  adR : ∀ b o, S b -> H.get b = some o -> kV P ρ S (ρ b) w o
  adS : ∀ k, E k = true -> k < ops.size -> ∀ b o, rG st k b -> H.get b = some o -> kV P ρ (cl st ops S k) (ρ b) w o
structure ajQ (st : Nat -> dS) (ops : Array Oper) (E : Nat -> Bool) (H : aA) (p : Nat) : Prop where
  le : p <= ops.size
  tail : (st p).tail = true
  get : ∀ b, H.get b = (st p).h.get b
  all : ∀ k, nK st ops k -> (E k = true ↔ k < p)
structure Inv (P : Program) (B : Nat) (w0 : World) (st : Nat -> dS) (ops : Array Oper) (n : Nat) (t0 : Tr) (h0 : aA) (S : Nat -> Prop) (ρ0 : Ren) (ws : World) (d0 : List Deferred)
    (E : Nat -> Bool) (ρ : Ren) (H : aA) (w : World) (a : Act) : Prop where
  cI : tW P B w0 ρ0 ρ S (SE st ops S E) h0 H (min (st ops.size).h.low h0.next) ws w
  mode : G3 P st ops h0 S E ρ H w \/ ∃ p, ajQ st ops E H p
  tmp : DX st ops n t0 S E ρ a.tmps
  defers : a.defers = d0
  next : H.next = (st ops.size).h.next
  down : ∀ k, E k = true -> ∀ m, (nX st ops k).testBit m = true -> E m = true
section
variable {step : Oper -> (Operand -> Value) -> aA -> Option (Value × aA)} {ops : Array Oper} {n : Nat} {st : Nat -> dS} {t0 : Tr} {h0 : aA}
variable {S : Nat -> Prop} {E : Nat -> Bool} {ρ0 ρ cS iZ : Ren} {a : Act} {B : Nat} {w0 ws w w1 : World} {H H2 hm h1 : aA} {d0 : List Deferred}
theorem G3.on {X : Nat -> Prop} {b : Nat} {o : bB} {S2 : Nat -> Prop} (hX : ∀ b, X b -> SE st ops S E b) (RZ : kV P ρ X (ρ b) w o) (fI : ∀ b, SE st ops S E b -> iZ b = ρ b) (hb : SE st ops S E b)
    (jZ : kV P iZ S2 (iZ b) w1 o) : kV P iZ X (iZ b) w1 o := by
  rw [fI b hb] at jZ ⊢; exact (RZ.yH jZ fun b hb => fI b (hX b hb)).mono fun b hb => ⟨hb, fI b (hX b hb)⟩
theorem Trace.ZB (T : Trace step ops n st t0 h0) (j9 : ∀ b, S b -> b < h0.next) {K : Nat -> Prop} {i : Nat} (hi : i <= ops.size) (hK : ∀ m, K m -> m < i) (b : Nat) (hb : G1 st ops S K b) : b < (st i).h.next := by
  rcases hb with hb | ⟨m, h1, h2, h3⟩
  . have := T.next 0 i (by omega) hi; rw [T.zero] at this; exact Nat.lt_of_lt_of_le (j9 b hb) this
  have := hK m h1; have := T.next (m + 1) i (by omega) hi; exact Nat.lt_of_lt_of_le h3.2 this
theorem Trace.KB (T : Trace step ops n st t0 h0) (j9 : ∀ b, S b -> b < h0.next) {i b : Nat} (hi : i < ops.size) (hE : E i = false) (hs : rG st i b) : ¬ SE st ops S E b := by
  rintro (hb | ⟨m, h1, h2, h3⟩)
  . have := T.PY hi hs; have := j9 b hb; omega
  have := T.adQ hi h2 hs h3; subst this; rw [hE] at h1; cases h1
theorem Inv.quiet (I : Inv P B w0 st ops n t0 h0 S ρ0 ws d0 E ρ H w a) {i : Nat} {o : Oper} (ho : ops[i]? = some o) (AL : ¬ nK st ops i) (hh : (st (i + 1)).h = (st i).h)
    (yJ : ∀ m, (nX st ops i).testBit m = true -> E m = true)
    (fI : ∀ b, SE st ops S E b -> iZ b = ρ b) (fS : tW P B w0 ρ iZ (SE st ops S E) (SE st ops S E) H H (min (st ops.size).h.low h0.next) w w1) {a' : Act}
    (KC : DX st ops n t0 S (fun j => E j || j == i) iZ a'.tmps) (hd : a'.defers = a.defers) :
    Inv P B w0 st ops n t0 h0 S ρ0 ws d0 (fun j => E j || j == i) iZ H w1 a' := by
  have hi : i < ops.size := (Array.getElem?_eq_some_iff.1 ho).1
  have W3 : ∀ b, ¬ rG st i b := fun b hs => by unfold rG at hs; rw [hh] at hs; omega
  have hSE : ∀ b, SE st ops S E b ↔ SE st ops S (fun j => E j || j == i) b := fun b => by
    constructor
    . exact fun hb => gP (fun m hm => by simp [hm]) b hb
    rintro (hb | ⟨m, h1, h2, h3⟩)
    . exact .inl hb
    by_cases W4 : m = i
    . subst W4; exact absurd h3 (W3 b)
    exact .inr ⟨m, by simpa [W4] using h1, h2, h3⟩
  have alJ : SE st ops S E = SE st ops S (fun j => E j || j == i) := funext fun b => propext (hSE b); refine ⟨?_, ?_, KC, hd.trans I.defers, I.next, ?_⟩
  . rw [<- alJ]; exact I.cI.trans fS
  . rcases I.mode with A | ⟨p, Bm⟩
    . refine .inl ⟨fun k hk mE => ?_, A.base, fun k hk AP b hs => ?_, fun b o' hb hg => ?_, fun k hk AP b o' hs hg => ?_⟩
      . by_cases iC : k = i
        . subst iC; exact absurd mE AL
        exact A.calm k (by simpa [iC] using hk) mE
      . by_cases iC : k = i
        . subst iC; exact absurd hs (W3 b)
        exact A.news k (by simpa [iC] using hk) AP b hs
      . exact G3.on (fun b hb => .inl hb) (A.adR b o' hb hg) fI (.inl hb) (fS.hr.aB b o' hg).2
      by_cases iC : k = i
      . subst iC; exact absurd hs (W3 b)
      have AO : E k = true := by simpa [iC] using hk
      exact G3.on (Q1 I.down AO) (A.adS k AO AP b o' hs hg) fI (.inr ⟨k, AO, AP, hs⟩) (fS.hr.aB b o' hg).2
    refine .inr ⟨p, Bm.le, Bm.tail, Bm.get, fun k mE => ?_⟩; have iC : k ≠ i := fun h => AL (h ▸ mE); rw [<- Bm.all k mE]; simp [iC]
  intro k hk m hm; by_cases iC : k = i
  . subst iC; simp [yJ m hm]
  simp [I.down k (by simpa [iC] using hk) m hm]
theorem Inv.adT (T : Trace step ops n st t0 h0) (nW : nV ops) (j9 : ∀ b, S b -> b < h0.next) (IG : ∀ b o, h0.get b = some o -> S b) (adU : 0 < h0.next) (I : Inv P B w0 st ops n t0 h0 S ρ0 ws d0 E ρ H w a) {i : Nat} {o : Oper} (ho : ops[i]? = some o) (hE : E i = false) (W4 : nK st ops i)
    (yJ : ∀ m, (nX st ops i).testBit m = true -> E m = true) {ord : Bool} (iW : ord = Nat.beq ((st i).mem &&& aP (st i).bs o) (st i).mem) (lT : (st i).tail = true -> ord = true)
    {v : Value} {h' : aA} (j6 : (st (i + 1)).h.next = h'.next) (hnn : (st i).h.next <= h'.next)
    (hk : ((st i).h.next <= h'.low /\ (st (i + 1)).h.low = (st i).h.low /\ (st (i + 1)).h.aB = bH (st i).h.next h'.next h'.aB ++ (st i).h.aB /\ (st (i + 1)).tail = (st i).tail) \/
      (ord = true /\ (st (i + 1)).h.low = min (st i).h.low h'.low /\ (st (i + 1)).h.aB = h'.aB /\ (st (i + 1)).tail = true)) :
    let hm : aA := { next := (st i).h.next, low := (st i).h.next, aB := bif ord then (st i).h.aB else mask (aP (st i).bs o) (st i).segs (st i).h.aB }
    HR P ρ (SB st ops S i) B w0 hm w /\ ∀ cS w1 v1 a', aZ P B w0 ρ cS (SB st ops S i) hm h' w w1 -> VR cS (Ext (SB st ops S i) hm h') v v1 -> a'.defers = a.defers ->
      (∀ iZ, (∀ b, SE st ops S E b -> iZ b = ρ b) -> VR iZ (cl st ops S i) v v1 -> DX st ops n t0 S (fun j => E j || j == i) iZ a'.tmps) ->
      ∃ iZ H2, Inv P B w0 st ops n t0 h0 S ρ0 ws d0 (fun j => E j || j == i) iZ H2 w1 a' := by
  intro hm; have hi : i < ops.size := (Array.getElem?_eq_some_iff.1 ho).1
  have DY : aP (st i).bs o = nX st ops i := by simp [nX, ho]
  have qG := I.cI.hr
  have Q0 : h0.next <= (st i).h.next := by have := T.next 0 i (by omega) (by omega); rwa [T.zero] at this
  have vD : ord = true -> ∀ k, k < i -> nK st ops k -> (nX st ops i).testBit k = true := fun h k hk mE => by
    rw [iW] at h; have h1 := bU h; have h2 := (T.FY i (by omega) k).2 ⟨hk, mE⟩; rw [<- h1, Nat.testBit_and, Bool.and_eq_true, DY] at h2; exact h2.2
  -- those behind it that look at the heap have not come, if it turns something old
  have later : (st (i + 1)).tail = true -> ∀ k, nK st ops k -> i < k -> E k = true -> False := fun ht k mE hik AO => by
    have AP : k < ops.size := mE.1; have hko : ops[k]? = some ops[k] := Array.getElem?_eq_getElem AP; have htk := T.tail (i + 1) k (by omega) (by omega) ht
    cases (T.FX k _ hko).2 with
    | skip hw hp hh hs hm ht => exact mE.2 (by rw [hs])
    | calm hw hc v h' bR hn hp hh hs hm ht => exact mE.2 (by rw [hs])
    | still hw v aB hX bR hp hh hs hm ht => exact mE.2 (by rw [hs])
    | mem hw hc v h' anW qB ah4 bR hn hp hm hs j6 hk =>
      have h4 := ah4 htk; rw [qB] at h4; have h5 := bU h4; have h6 := (T.FY k (by omega) i).2 ⟨hik, W4⟩; rw [<- h5, Nat.testBit_and, Bool.and_eq_true] at h6
      have h7 : (nX st ops k).testBit i = true := by simp only [nX, hko]; exact h6.2
      rw [I.down k AO i h7] at hE; cases hE
  have nL : ∀ b, SB st ops S i b -> SE st ops S E b := fun b hb => gP yJ b hb; have G4 : ∀ b, SB st ops S i b -> b < (st i).h.next := T.ZB j9 (by omega) (T.PX nW i); have KD : ∀ b, hm.next <= b -> b < h'.next -> ¬ SE st ops S E b := fun b h1 h2 => T.KB j9 hi hE ⟨h1, by rw [j6]; exact h2⟩
  have N2 : ∀ b, SE st ops S (fun j => E j || j == i) b ↔ SE st ops S E b \/ (hm.next <= b /\ b < h'.next) := fun b => by
    constructor
    . rintro (hb | ⟨m, h1, h2, h3⟩)
      . exact .inl (.inl hb)
      by_cases aiG : m = i
      . subst aiG; exact .inr ⟨h3.1, by rw [<- j6]; exact h3.2⟩
      exact .inl (.inr ⟨m, by simpa [aiG] using h1, h2, h3⟩)
    rintro (hb | ⟨h1, h2⟩)
    . exact gP (fun m hm => by simp [hm]) b hb
    exact .inr ⟨i, by simp, hi, h1, by rw [j6]; exact h2⟩
  have W5 : ∀ b, SE st ops S (fun j => E j || j == i) b -> b < (st ops.size).h.next := fun b hb => by
    rcases hb with hb | ⟨m, h1, h2, h3⟩
    . have := T.next 0 ops.size (by omega) (by omega); rw [T.zero] at this; exact Nat.lt_of_lt_of_le (j9 b hb) this
    have := T.next (m + 1) ops.size (by omega) (by omega); exact Nat.lt_of_lt_of_le h3.2 this
  have W6 : 0 < (st ops.size).h.next := by have := qG.pos; rwa [I.next] at this
  have Q2 : ∀ k, (fun j => E j || j == i) k = true -> ∀ m, (nX st ops k).testBit m = true -> (fun j => E j || j == i) m = true := fun k Q3 m hm' => by
    by_cases iC : k = i
    . subst iC; simp [yJ m hm']
    simp [I.down k (by simpa [iC] using Q3) m hm']
  have wD : ∀ cS : Ren, ∀ b, Ext (SB st ops S i) hm h' b -> cl st ops S i b := fun _ b hb => by
    rcases hb with hb | hb
    . exact gP (fun m hm => .inr hm) b hb
    exact .inr ⟨i, .inl rfl, hi, hb.1, by rw [j6]; exact hb.2⟩
  have nF : 0 < (st i).h.next := by omega
  have anL := T.low (i + 1) ops.size (by omega) (Nat.le_refl _); have ajR : ∀ b, SE st ops S E b -> b ≠ 0 := fun b hb => (qG.ids b hb).2
  -- the part's relation, out of what is known of its objects
  have aiH : (∀ b o, hm.get b = some o -> H.get b = some o) -> (∀ b o, hm.get b = some o -> SB st ops S i b /\ kV P ρ (SB st ops S i) (ρ b) w o) -> HR P ρ (SB st ops S i) B w0 hm w := fun iH RZ => {
    aB := RZ
    inj := fun a b oa ob ha hb => qG.inj a b oa ob (iH a oa ha) (iH b ob hb)
    base := fun b o' hb => qG.base b o' (iH b o' hb)
    ro := fun b o' hb => qG.ro b o' (iH b o' hb)
    ids := fun b hb => ⟨G4 b hb, ajR b (nL b hb)⟩
    pos := nF
    below := qG.below
    drawn := qG.drawn
    size := qG.size }
  -- what is new, in a heap of new objects ahead of old ones
  have qV : ∀ (aB : List (Nat × bB)) b, look (bH (st i).h.next h'.next h'.aB ++ aB) b = (look (bH (st i).h.next h'.next h'.aB) b).or (look aB b) := fun aB b => iN _ _ _
  have J0 : ∀ b, SE st ops S E b -> look (bH (st i).h.next h'.next h'.aB) b = none := fun b hb => by
    cases hl : look (bH (st i).h.next h'.next h'.aB) b with
    | none => rfl
    | some o' =>
      obtain ⟨⟨h1, h2⟩, _⟩ := eO _ _ _ hl; exact absurd hb (KD b h1 h2)
  have Q4 : ∀ b o', H.get b = some o' -> SE st ops S E b := fun b o' hg => (qG.aB b o' hg).1
  -- behind a step that turns something old
  have NZ : (∀ b o, hm.get b = some o -> H.get b = some o) -> HR P ρ (SB st ops S i) B w0 hm w -> ord = true -> (st (i + 1)).h.low = min (st i).h.low h'.low -> (st (i + 1)).h.aB = h'.aB -> (st (i + 1)).tail = true ->
      (∀ b, SE st ops S E b -> b < h0.next -> hm.get b = H.get b) -> ∀ cS w1 v1 a', aZ P B w0 ρ cS (SB st ops S i) hm h' w w1 -> VR cS (Ext (SB st ops S i) hm h') v v1 -> a'.defers = a.defers ->
      (∀ iZ, (∀ b, SE st ops S E b -> iZ b = ρ b) -> VR iZ (cl st ops S i) v v1 -> DX st ops n t0 S (fun j => E j || j == i) iZ a'.tmps) ->
      ∃ iZ H2, Inv P B w0 st ops n t0 h0 S ρ0 ws d0 (fun j => E j || j == i) iZ H2 w1 a' := by
    intro iH sM N5 dV sO ht k8 cS w1 v1 a' m hv hd KC
    have bL : ∀ b, SE st ops S E b -> b < (st i).h.next := fun b hb => by
      rcases hb with hb | ⟨k, h1, h2, h3⟩
      . have := j9 b hb; omega
      by_cases iC : k < i
      . have := T.next (k + 1) i (by omega) (by omega); exact Nat.lt_of_lt_of_le h3.2 this
      by_cases hke : k = i
      . subst hke; rw [hE] at h1; cases h1
      exact (later ht k (T.DU h2 h3) (by omega) h1).elim
    have hL : min (st ops.size).h.low h0.next <= h'.low := by
      have h1 : (st (i + 1)).h.low <= h'.low := by rw [dV]; exact Nat.min_le_right _ _
      have h2 : min (st ops.size).h.low h0.next <= (st ops.size).h.low := Nat.min_le_left _ _; omega
    have G5 := DQ (H2 := { next := (st ops.size).h.next, low := 0, aB := h'.aB }) (S2 := SE st ops S (fun j => E j || j == i)) (L := min (st ops.size).h.low h0.next) qG nL iH sM m KD N2 W5 W6
      (fun _ _ _ _ => hL)
      (fun b o' hb hg => by
        obtain ⟨o2, h3, _⟩ := m.old b o' hg (bL b hb)
        exact .inl ⟨by rw [h3]; simp, hg⟩)
      (fun b o' hb hg => by
        rcases (m.hr.aB b o' hg).1 with h3 | h3
        . exact absurd (nL b h3) hb
        exact ⟨h3, hg⟩)
      (fun b hb Q5 => by
        have h3 : b < h0.next := Nat.lt_of_lt_of_le Q5 (Nat.min_le_right _ _); have h4 := m.aW b (bL b hb) (by omega)
        exact h4.trans (k8 b hb h3))
    have fI : ∀ b, SE st ops S E b -> glue (SE st ops S E) ρ cS b = ρ b := fun b hb => jR hb; refine ⟨_, _, I.cI.trans G5, .inr ⟨i + 1, by omega, ht, fun b => ?_, fun k mE => ?_⟩, KC _ fI ?_, hd.trans I.defers, rfl, Q2⟩
    . show look h'.aB b = look (st (i + 1)).h.aB b; rw [sO]
    . constructor
      . intro h3; by_cases iC : k = i
        . omega
        have h4 : E k = true := by simpa [iC] using h3
        have h5 : ¬ i < k := fun h5 => later ht k mE h5 h4; omega
      intro h3; by_cases iC : k = i
      . simp [iC]
      simp [yJ k (vD N5 k (by omega) mE)]
    refine hv.mono fun b hb => ⟨wD ρ b hb, ?_⟩; rcases hb with hb | hb
    . rw [jR (nL b hb), m.agree b hb]
    exact sA (KD b hb.1 hb.2)
  rcases I.mode with A | ⟨p, Bm⟩
  . -- nothing old has been turned
    have ht : (st i).tail = false := by
      cases h : (st i).tail with
      | false => rfl
      | true =>
        obtain ⟨k, h1, h2, h3⟩ := T.C6 i (by omega) h; rw [A.calm k (yJ k (vD (lT h) k h1 h2)) h2] at h3; cases h3
    obtain ⟨sb1, sb2, sb3⟩ := T.PZ (fun b o' hg => j9 b (IG b o' hg)) i (by omega) ht
    have jE : ∀ b o', hm.get b = some o' -> (st i).h.get b = some o' /\ ∀ k, k < i -> rG st k b -> (nX st ops i).testBit k = true := fun b o' hg => by
      cases hb : ord with
      | true =>
        have gX : (st i).h.get b = some o' := by
          have : look (bif ord then (st i).h.aB else mask (aP (st i).bs o) (st i).segs (st i).h.aB) b = some o' := hg; rw [hb] at this; exact this
        exact ⟨gX, fun k hk hs => vD hb k hk (T.DU (by omega) hs)⟩
      | false =>
        have : look (bif ord then (st i).h.aB else mask (aP (st i).bs o) (st i).segs (st i).h.aB) b = some o' := hg; rw [hb] at this; obtain ⟨h3, h4⟩ := K5 _ _ _ _ this; refine ⟨h3, fun k hk hs => ?_⟩; rw [<- DY]; exact h4 k _ _ (T.FZ i (by omega) k hk (T.DU (by omega) hs)) hs.1 hs.2
    have adV : ∀ b o', hm.get b = some o' -> H.get b = some o' /\ (S b \/ ∃ k, (nX st ops i).testBit k = true /\ k < ops.size /\ rG st k b) := fun b o' hg => by
      obtain ⟨h3, h4⟩ := jE b o' hg; have h5 := sb3 b o' h3; by_cases hb : b < h0.next
      . rw [sb1 b hb] at h3; rw [A.base b hb]; exact ⟨h3, .inl (IG b o' h3)⟩
      obtain ⟨k, h6, h7⟩ := T.cover i (by omega) b (by omega) h5; have h8 := h4 k h6 h7; rw [A.news k (yJ k h8) (by omega) b h7, <- sb2 k h6 b h7]; exact ⟨h3, .inr ⟨k, h8, by omega, h7⟩⟩
    have iH : ∀ b o', hm.get b = some o' -> H.get b = some o' := fun b o' hg => (adV b o' hg).1
    have sM := aiH iH fun b o' hg => by
      obtain ⟨h3, h4⟩ := adV b o' hg; rcases h4 with h4 | ⟨k, h5, h6, h7⟩
      . exact ⟨.inl h4, (A.adR b o' h4 h3).mono fun b hb => ⟨.inl hb, rfl⟩⟩
      refine ⟨.inr ⟨k, h5, h6, h7⟩, (A.adS k (yJ k h5) h6 b o' h7 h3).mono fun b hb => ⟨gP (fun m hm => ?_) b hb, rfl⟩⟩; rcases hm with hm | hm
      . rw [hm]; exact h5
      exact T.NX nW i k m h5 hm
    refine ⟨sM, ?_⟩; rcases hk with ⟨dV, ajS, sO, nI⟩ | ⟨N5, dV, sO, nI⟩
    . intro cS w1 v1 a' m hv hd KC
      have G5 := DQ (H2 := { next := (st ops.size).h.next, low := 0, aB := bH (st i).h.next h'.next h'.aB ++ H.aB }) (S2 := SE st ops S (fun j => E j || j == i)) (L := min (st ops.size).h.low h0.next) qG nL iH sM m KD N2 W5 W6
        (fun _ _ _ _ => by have : min (st ops.size).h.low h0.next <= h0.next := Nat.min_le_right _ _; omega)
        (fun b o' hb hg => by
          have gX : look (bH (st i).h.next h'.next h'.aB ++ H.aB) b = some o' := hg; rw [qV, J0 b hb] at gX; have uR : H.get b = some o' := (show look H.aB b = some o' by simpa using gX)
          cases hq : hm.get b with
          | none => exact .inr ⟨rfl, uR⟩
          | some o2 =>
            have h3 := iH b o2 hq; rw [uR] at h3; injection h3 with h3; subst h3; have h4 : b < hm.next := G4 b (sM.aB b o' hq).1; refine .inl ⟨by simp, ?_⟩; rw [m.aW b h4 (Nat.lt_of_lt_of_le h4 dV)]
            exact hq)
        (fun b o' hb hg => by
          have gX : look (bH (st i).h.next h'.next h'.aB ++ H.aB) b = some o' := hg; rw [qV] at gX
          cases hl : look (bH (st i).h.next h'.next h'.aB) b with
          | none =>
            rw [hl] at gX
            exact absurd (Q4 b o' (show look H.aB b = some o' by simpa using gX)) hb
          | some o2 =>
            rw [hl] at gX; simp only [Option.some_or, Option.some.injEq] at gX; subst gX
            exact eO _ _ _ hl)
        (fun b hb _ => by
          show look (bH (st i).h.next h'.next h'.aB ++ H.aB) b = H.get b; rw [qV, J0 b hb]
          rfl)
      have fI : ∀ b, SE st ops S E b -> glue (SE st ops S E) ρ cS b = ρ b := fun b hb => jR hb
      have hgl : ∀ b, Ext (SB st ops S i) hm h' b -> cl st ops S i b /\ glue (SE st ops S E) ρ cS b = cS b := fun b hb => by
        refine ⟨wD ρ b hb, ?_⟩; rcases hb with hb | hb
        . rw [jR (nL b hb), m.agree b hb]
        exact sA (KD b hb.1 hb.2)
      have k8 : ∀ b, SE st ops S E b -> look (bH (st i).h.next h'.next h'.aB ++ H.aB) b = H.get b := fun b hb => by
        rw [qV, J0 b hb]; rfl
      refine ⟨_, _, I.cI.trans G5, .inl ⟨fun k Q3 mE => ?_, fun b hb => ?_, fun k Q3 AP b hs => ?_, fun b o' hb hg => ?_, fun k Q3 AP b o' hs hg => ?_⟩, KC _ fI (hv.mono hgl), hd.trans I.defers, rfl, Q2⟩
      . by_cases iC : k = i
        . subst iC; rw [nI]; exact ht
        exact A.calm k (by simpa [iC] using Q3) mE
      . show look (bH (st i).h.next h'.next h'.aB ++ H.aB) b = h0.get b; rw [qV]
        cases hl : look (bH (st i).h.next h'.next h'.aB) b with
        | none => exact A.base b hb
        | some o2 => have := (eO _ _ _ hl).1; omega
      . show look (bH (st i).h.next h'.next h'.aB ++ H.aB) b = look (st (k + 1)).h.aB b; by_cases iC : k = i
        . subst iC; rw [sO, qV, qV]; congr 1
          have SM : look H.aB b = none := by
            cases hq : look H.aB b with
            | none => rfl
            | some o2 => exact absurd (Q4 b o2 hq) (T.KB j9 hi hE hs)
          have tO : look (st k).h.aB b = none := by
            cases hq : look (st k).h.aB b with
            | none => rfl
            | some o2 => have h3 := sb3 b o2 hq; have h4 := hs.1; omega
          rw [SM, tO]
        have AO : E k = true := by simpa [iC] using Q3
        rw [k8 b (.inr ⟨k, AO, AP, hs⟩)]; exact A.news k AO AP b hs
      . have gX : look (bH (st i).h.next h'.next h'.aB ++ H.aB) b = some o' := hg; rw [k8 b (.inl hb)] at gX; exact G3.on (fun b hb => .inl hb) (A.adR b o' hb gX) fI (.inl hb) (G5.hr.aB b o' hg).2
      by_cases iC : k = i
      . subst iC; have gX : look (bH (st k).h.next h'.next h'.aB ++ H.aB) b = some o' := hg; rw [qV] at gX
        cases hl : look (bH (st k).h.next h'.next h'.aB) b with
        | none =>
          rw [hl] at gX
          exact absurd (Q4 b o' (show look H.aB b = some o' by simpa using gX)) (T.KB j9 hi hE hs)
        | some o2 =>
          rw [hl] at gX; simp only [Option.some_or, Option.some.injEq] at gX; subst gX; have h3 := (eO _ _ _ hl).2; obtain ⟨h4, h5⟩ := m.hr.aB b o2 h3; rw [(hgl b h4).2]; exact h5.mono hgl
      have AO : E k = true := by simpa [iC] using Q3
      have gX : look (bH (st i).h.next h'.next h'.aB ++ H.aB) b = some o' := hg; rw [k8 b (.inr ⟨k, AO, AP, hs⟩)] at gX; exact G3.on (Q1 I.down AO) (A.adS k AO AP b o' hs gX) fI (.inr ⟨k, AO, AP, hs⟩) (G5.hr.aB b o' hg).2
    refine NZ iH sM N5 dV sO nI fun b hb Q5 => ?_; show look (bif ord then (st i).h.aB else mask (aP (st i).bs o) (st i).segs (st i).h.aB) b = H.get b; rw [N5, A.base b Q5]; exact sb1 b Q5
  -- something old has been turned
  have hpi : p <= i := by
    have h1 := Bm.all i W4; rw [hE] at h1
    have : ¬ i < p := fun h => by have := h1.2 h; cases this
    omega
  have N5 : ord = true := lT (T.tail p i hpi (by omega) Bm.tail)
  have hqh : ∀ q, p <= q -> q <= i -> (st q).h = (st p).h := fun q => by
    induction q with
    | zero => intro h1 _; have : p = 0 := by omega
              subst this; rfl
    | succ q ih =>
      intro h1 h2; by_cases hq : p = q + 1
      . subst hq; rfl
      have Q6 : ops[q]? = some ops[q] := Array.getElem?_eq_getElem (by omega); rcases T.wM q _ Q6 with ⟨h3, _⟩ | ⟨_, _, _, h3, _⟩
      . exfalso; have h4 := yJ q (vD N5 q (by omega) h3); have := (Bm.all q h3).1 h4; omega
      rw [h3]; exact ih (by omega) (by omega)
  have hih := hqh i hpi (Nat.le_refl _)
  have Q7 : ∀ b, hm.get b = H.get b := fun b => by
    show look (bif ord then (st i).h.aB else mask (aP (st i).bs o) (st i).segs (st i).h.aB) b = H.get b; rw [N5, Bm.get b, <- hih]; rfl
  have iH : ∀ b o', hm.get b = some o' -> H.get b = some o' := fun b o' hg => by rw [<- Q7]; exact hg
  have hEB : ∀ b, SE st ops S E b -> SB st ops S i b := fun b hb => by
    rcases hb with hb | ⟨k, h1, h2, h3⟩
    . exact .inl hb
    have mE := T.DU h2 h3; have := (Bm.all k mE).1 h1; exact .inr ⟨k, vD N5 k (by omega) mE, h2, h3⟩
  have sM := aiH iH fun b o' hg => by
    obtain ⟨h3, h4⟩ := qG.aB b o' (iH b o' hg); exact ⟨hEB b h3, h4.mono fun b hb => ⟨hEB b hb, rfl⟩⟩
  refine ⟨sM, ?_⟩; rcases hk with ⟨dV, ajS, sO, nI⟩ | ⟨_, dV, sO, nI⟩
  . intro cS w1 v1 a' m hv hd KC; have bL : ∀ b, SE st ops S E b -> b < (st i).h.next := fun b hb => G4 b (hEB b hb)
    have k8 : ∀ b, SE st ops S E b -> look (bH (st i).h.next h'.next h'.aB ++ (st i).h.aB) b = hm.get b := fun b hb => by
      rw [qV, J0 b hb, Q7, Bm.get b, <- hih]; rfl
    have G5 := DQ (H2 := { next := (st ops.size).h.next, low := 0, aB := bH (st i).h.next h'.next h'.aB ++ (st i).h.aB }) (S2 := SE st ops S (fun j => E j || j == i)) (L := min (st ops.size).h.low h0.next) qG nL iH sM m KD N2 W5 W6
      (fun _ _ _ _ => by have : min (st ops.size).h.low h0.next <= h0.next := Nat.min_le_right _ _; omega)
      (fun b o' hb hg => by
        have gX : look (bH (st i).h.next h'.next h'.aB ++ (st i).h.aB) b = some o' := hg; rw [k8 b hb] at gX; have h4 := bL b hb; refine .inl ⟨by rw [gX]; simp, ?_⟩; rw [m.aW b h4 (Nat.lt_of_lt_of_le h4 dV)]
        exact gX)
      (fun b o' hb hg => by
        have gX : look (bH (st i).h.next h'.next h'.aB ++ (st i).h.aB) b = some o' := hg; rw [qV] at gX
        cases hl : look (bH (st i).h.next h'.next h'.aB) b with
        | none =>
          rw [hl] at gX
          have h3 : H.get b = some o' := by rw [Bm.get b, <- hih]; exact (show look (st i).h.aB b = some o' by simpa using gX)
          exact absurd (Q4 b o' h3) hb
        | some o2 =>
          rw [hl] at gX; simp only [Option.some_or, Option.some.injEq] at gX; subst gX
          exact eO _ _ _ hl)
      (fun b hb _ => by
        show look (bH (st i).h.next h'.next h'.aB ++ (st i).h.aB) b = H.get b
        rw [k8 b hb, Q7])
    have fI : ∀ b, SE st ops S E b -> glue (SE st ops S E) ρ cS b = ρ b := fun b hb => jR hb; refine ⟨_, _, I.cI.trans G5, .inr ⟨i + 1, by omega, ?_, fun b => ?_, fun k mE => ?_⟩, KC _ fI ?_, hd.trans I.defers, rfl, Q2⟩
    . rw [nI]; exact T.tail p i hpi (by omega) Bm.tail
    . show look (bH (st i).h.next h'.next h'.aB ++ (st i).h.aB) b = look (st (i + 1)).h.aB b; rw [sO]
    . by_cases iC : k = i
      . subst iC; simp
      have h3 := Bm.all k mE; simp only [beq_iff_eq, iC, or_false, Bool.or_eq_true]; rw [h3]; constructor
      . intro; omega
      intro h4; refine (Bm.all k mE).1 (yJ k (vD N5 k (by omega) mE))
    refine hv.mono fun b hb => ⟨wD ρ b hb, ?_⟩; rcases hb with hb | hb
    . rw [jR (nL b hb), m.agree b hb]
    exact sA (KD b hb.1 hb.2)
  exact NZ iH sM N5 dV sO nI fun b _ _ => Q7 b
end
end Go.Fs
