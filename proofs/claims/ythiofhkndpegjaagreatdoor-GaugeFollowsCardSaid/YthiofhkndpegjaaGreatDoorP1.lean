/- Parts of the proof: an evaluator of the model, what it is sound for, and contracts of functions. No condition. -/
import Derived.Test.YthiofhkndpegjaaGreatDoorP0
import Derived.Lib.UnsafeStr
import Derived.Orders
set_option linter.all false
namespace Go.Fs
open Go.RowKit (Below)
variable {P : Program} {ρ bY : Ren} {S S' : Nat -> Prop} {B : Nat} {w0 w w' w1 w2 : World} {h h' h1 h2 : U}
def rH (e : TypeId) (size : Nat) (zs : Bool) (base : Option Addr) (n c m : Nat) (x : Value) (app : Sem (Array Value)) : Sem Value := do
  let xJ := n + m
  if xJ <= c then
    let new <- app
    if let some a := base then storeCells (a.add (n * size)) new.toList
    pure (.slice base xJ c)
  else
    if (xJ : Int) > IntKind.i64.max /\ (zs \/ (<- typeInfo e).bytes = 0) then runtimePanic (.error "growslice: len out of range")
    if Builtin.nextslicecap xJ c * (<- typeInfo e).bytes > 2 ^ 48 then (if zs then runtimePanic (.error "growslice: len out of range") else do
      if !(<- Builtin.mayShare size n m base x) then mark .noRoom
      unsupported (.resourceLimit "append: a slice or a string whose bytes no memory bears"))
    let PO <- choose (.appendCap xJ c e)
    askRoom (PO * (<- typeInfo e).bytes)
    let old <- Builtin.firstCells size n (.slice base n c)
    let new <- app
    let rest := Builtin.zeroCells (<- zeroValue e).cells (PO - xJ)
    pure (.slice (some (<- newRow e (old ++ new ++ rest))) xJ PO)
theorem CI {argTypes : Array TypeId} {ty st xt e : TypeId} {xd : TypeDesc} {i : TypeInfo} {base : Option Addr} {n c m : Nat} {x : Value}
    (h0 : argTypes[0]? = some st) (h1 : argTypes[1]? = some xt) (bT : P.underlying st = some (.slice e)) (hxt : P.underlying xt = some xd) (hi : P.info? e = some i)
    (hx : isInt xd = false) (hn : (Builtin.lenOf x).run P w = .ok m w) :
    (Builtin.append_ argTypes ty #[.slice base n c, x]).run P w = (rH e i.size false base n c m x (Builtin.firstCells i.size m x)).run P w := by
  unfold Builtin.append_; simp only [h0, h1, List.getElem?_toArray, List.getElem?_cons_zero, List.getElem?_cons_succ, Sem.run_bind, run_underlying bT, run_underlying hxt, Result.andThen_ok, eL e i hi, Sem.run_pure]
  cases xd with
  | int k => cases hx
  | _ =>
    refine Eq.trans (b := Sem.run P (Builtin.lenOf x >>= fun m' => rH e i.size false base n c m' x (Builtin.firstCells i.size m' x)) w) rfl ?_; simp only [Sem.run_bind, hn, Result.andThen_ok]
theorem EM {argTypes : Array TypeId} {ty st xt e : TypeId} {xd : TypeDesc} {i : TypeInfo} {base : Option Addr} {n c k : Nat}
    (h0 : argTypes[0]? = some st) (h1 : argTypes[1]? = some xt) (bT : P.underlying st = some (.slice e)) (hxt : P.underlying xt = some xd) (hi : P.info? e = some i)
    (hx : isInt xd = true) (hk : (k : Int) <= 1099511627776) (hb : k * i.bytes <= 1099511627776) :
    (Builtin.append_ argTypes ty #[.slice base n c, .int .i64 k]).run P w = (rH e i.size true base n c k (.int .i64 k)
      (if k * i.size = 0 then pure #[] else do pure (Builtin.zeroCells (<- zeroValue e).cells k))).run P w := by
  unfold Builtin.append_; simp only [h0, h1, List.getElem?_toArray, List.getElem?_cons_zero, List.getElem?_cons_succ, Sem.run_bind, run_underlying bT, run_underlying hxt, Result.andThen_ok, eL e i hi, Sem.run_pure]
  have n1 : ¬ ((k : Int) < 0) := by omega
  have sR : ((k : Int) * (i.bytes : Int)) <= 1099511627776 := by
    have : ((k * i.bytes : Nat) : Int) <= 1099511627776 := by omega
    simpa using this
  have n2 : ¬ ((k : Int) * (i.bytes : Int) > 2 ^ 48) := by omega
  cases xd with
  | int kd =>
    refine Eq.trans (b := Sem.run P (do
      let l <- asInt (.int .i64 (k : Int))
      let jp : Nat -> Sem Value := fun m' => rH e i.size true base n c m' (.int .i64 k) (if m' * i.size = 0 then pure #[] else do pure (Builtin.zeroCells (<- zeroValue e).cells m'))
      if IntKind.i64.wrap l < 0 then
        runtimePanic (.error "makeslice: len out of range")
        if IntKind.i64.wrap l * (<- typeInfo e).bytes > 2 ^ 48 then
          let made <- choose (.extern "append.ofMake.carriedOut" 2)
          runtimePanic (.error (if made == 1 then "makeslice: len out of range" else "growslice: len out of range"))
          jp (<- pure (IntKind.i64.wrap l).toNat)
        else jp (<- pure (IntKind.i64.wrap l).toNat)
      else
        if IntKind.i64.wrap l * (<- typeInfo e).bytes > 2 ^ 48 then
          let made <- choose (.extern "append.ofMake.carriedOut" 2)
          runtimePanic (.error (if made == 1 then "makeslice: len out of range" else "growslice: len out of range"))
          jp (<- pure (IntKind.i64.wrap l).toNat)
        else jp (<- pure (IntKind.i64.wrap l).toNat)) w) rfl ?_
    simp only [Sem.run_bind, asInt, asIntOf, Sem.run_pure, Result.andThen_ok, rW (by omega : (0 : Int) <= k) hk, n1, if_false, qR e i hi, n2, Int.toNat_natCast]
  | _ => cases hx
theorem aeD : IntKind.i64.max = 9223372036854775807 := rfl
theorem BB {e : TypeId} {i : TypeInfo} {z x : Value} {zs : Bool} {base : Option Addr} {n c m : Nat} {app : Sem (Array Value)} {old new : List Value}
    (hi : P.info? e = some i) (hz : i.zero = some z) (wD : z.cells.size = i.size) (xU : 0 < i.bytes) (akA : c < n + m) (hbound : (n + m) * i.bytes <= 274877906944)
    (hold : (Builtin.firstCells i.size n (.slice base n c)).run P w.drew = .ok old.toArray w.drew) (pB : app.run P w.drew = .ok new.toArray w.drew) (ho : old.length = n * i.size) (hn : new.length = m * i.size) :
    ∃ cap rest, n + m <= cap /\ (old ++ new ++ rest).length = cap * i.size /\
      (rH e i.size zs base n c m x app).run P w = .ok (.slice (some ⟨w.heap.size, 0, none⟩) (n + m) cap) (w.drew.alloc (.cells (old ++ new ++ rest).toArray e)) := by
  have hnb : n + m <= 274877906944 := Nat.le_trans (Nat.le_mul_of_pos_right _ xU) hbound; have JT : i.bytes <= 274877906944 := Nat.le_trans (Nat.le_mul_of_pos_left _ (by omega)) hbound; have nP := nextslicecap_le (n + m) c akA
  have aoC : Builtin.nextslicecap (n + m) c * i.bytes <= 2 ^ 48 := by
    have h1 : Builtin.nextslicecap (n + m) c * i.bytes <= (2 * (n + m) + 192) * i.bytes := Nat.mul_le_mul_right _ nP
    have h2 : (2 * (n + m) + 192) * i.bytes = 2 * ((n + m) * i.bytes) + 192 * i.bytes := by
      rw [Nat.add_mul, Nat.mul_assoc]
    omega
  have n1 : ¬ (n + m <= c) := by omega
  have n2 : ¬ ((((n + m : Nat) : Int) > IntKind.i64.max) /\ (zs = true \/ i.bytes = 0)) := by
    rw [aeD]; omega
  have n3 : ¬ (Builtin.nextslicecap (n + m) c * i.bytes > 2 ^ 48) := by omega
  have hq : (Question.appendCap (n + m) c e).forced = false := rfl; refine ⟨(Question.appendCap (n + m) c e).cut (w.tape w.drawn (Question.appendCap (n + m) c e)), (Builtin.zeroCells z.cells ((Question.appendCap (n + m) c e).cut (w.tape w.drawn (Question.appendCap (n + m) c e)) - (n + m))).toList, ?_, ?_, ?_⟩
  . simp only [Question.cut]; omega
  . have hle : n + m <= (Question.appendCap (n + m) c e).cut (w.tape w.drawn (Question.appendCap (n + m) c e)) := by simp only [Question.cut]; omega
    simp only [List.length_append, ho, hn, Builtin.zeroCells, wD]; simp only [Array.toList_map, List.length_map, Array.length_toList, Array.size_range]; rw [<- Nat.add_mul, <- Nat.add_mul]; congr 1; omega
  unfold rH; simp only [n1, if_false, Sem.run_bind, qR e i hi, Result.andThen_ok, n2, n3, run_choose, hq, Bool.false_eq_true, run_askRoom]; have hd : ({ w with drawn := w.drawn + 1 } : World) = w.drew := rfl; rw [hd]; simp only [Sem.run_bind, hold, pB, Result.andThen_ok, gY e i z hi hz, newRow, run_newObj, Sem.run_pure]; congr 2; show (w.drew.heap.push _) = _; congr 2; apply Array.toList_inj.1; simp
theorem zP {e : TypeId} {size : Nat} {x : Value} {zs : Bool} {A : Addr} {n c m : Nat} {app : Sem (Array Value)} {new : List Value} (hle : n + m <= c) (pB : app.run P w = .ok new.toArray w)
    (bT : (storeCells (A.add (n * size)) new).run P w = .ok () w') : (rH e size zs (some A) n c m x app).run P w = .ok (.slice (some A) (n + m) c) w' := by
  unfold rH; simp only [hle, if_true, Sem.run_bind, pB, Result.andThen_ok, bT, Sem.run_pure]
structure App (P : Program) (ρ : Ren) (S : Nat -> Prop) (w : World) (app : Sem (Array Value)) (news : List Value) : Prop where
  here : ∃ new, LR ρ S news new /\ app.run P w = .ok new.toArray w
  drew : ∃ new, LR ρ S news new /\ app.run P w.drew = .ok new.toArray w.drew
theorem O6 {e : TypeId} {i : TypeInfo} {n m c : Nat} {olds news old new rest : List Value} (hr : HR P ρ S B w0 h w) (hi : P.info? e = some i)
    (ho : LR ρ S olds old) (hn : LR ρ S news new) (hle : n + m <= c) (hlen : (old ++ new ++ rest).length = c * i.size) :
    p6 P B w0 ρ S h w (grown e (n + m) (olds ++ news) h).1 (grown e (n + m) (olds ++ news) h).2 (.ok (.slice (some ⟨w.heap.size, 0, none⟩) (n + m) c) (w.drew.alloc (.cells (old ++ new ++ rest).toArray e))) := by
  have kG : HR P ρ S B w0 h w.drew := hr.drew _; have sS := ho.1; have nQ := hn.1
  have hm := wB kG e (cs := olds ++ news) (cur := old ++ new ++ rest) true (by simp; omega) (fun e => by cases e) (fun j hj => by
    have h1 := (ho.append hn).2 j hj; rw [List.getD_eq_getElem?_getD, List.getD_eq_getElem?_getD] at h1 ⊢; rw [List.getElem?_append_left (show j < (old ++ new).length by simp at hj ⊢; omega)]
    exact h1)
  refine ⟨_, _, _, rfl, aU.wC hm, ?_⟩; exact q6 hr.pos (n + m) c _ rfl hle (by rw [hlen, iS hi]) _ (Ext.lL _)
theorem SN {e : TypeId} {i : TypeInfo} {z s s' x v : Value} {zs : Bool} {m : Nat} {news : List Value} {app : Sem (Array Value)} (hr : HR P ρ S B w0 h w) (hi : P.info? e = some i) (hz : i.zero = some z) (wD : z.cells.size = i.size)
    (dR : 0 < i.size) (xU : 0 < i.bytes) (uV : news.length = m * i.size) (lF : news.all aN = true) (hs : VR ρ S s s') (pB : App P ρ S w app news) (hf : o7 e i s m news h = some (v, h')) :
    ∃ base n c, s' = .slice base n c /\ p6 P B w0 ρ S h w v h' ((rH e i.size zs base n c m x app).run P w) := by
  obtain ⟨xK, rX, JU⟩ := pB.here; obtain ⟨yD, sS, WM⟩ := pB.drew; have kG : HR P ρ S B w0 h w.drew := hr.drew _; unfold o7 at hf; split at hf
  . obtain rfl := hs.iR; refine ⟨none, 0, 0, rfl, ?_⟩
    cases hm : Nat.beq m 0 with
    | true =>
      rw [hm] at hf; simp only [cond_true, Option.some.injEq, Prod.mk.injEq] at hf; obtain ⟨rfl, rfl⟩ := hf; obtain rfl := bV hm
      have : (rH e i.size zs none 0 0 0 x app).run P w = .ok (.slice none 0 0) w := by
        unfold rH; simp only [Nat.add_zero, Nat.le_refl, if_true, Sem.run_bind, JU, Result.andThen_ok, Sem.run_pure]
      rw [this]
      exact p6.pure hr (.lit rfl)
    | false =>
      rw [hm] at hf; simp only [cond_false] at hf; obtain ⟨hb, dI⟩ := aT hf; clear hf; have hb := fY hb; have hm0 := gC hm; simp only [Option.some.injEq] at dI; obtain ⟨cap, rest, h1, h2, h3⟩ := BB (P := P) (w := w) (e := e) (i := i) (x := x) (zs := zs) (base := none) (n := 0) (c := 0) (m := m) (app := app) (old := []) (new := yD) hi hz wD xU (by omega) (by simpa using hb) (by simp [Builtin.firstCells]) WM (by simp) (by rw [<- sS.1, uV]); have h4 := O6 (n := 0) (m := m) hr hi (olds := []) LR.nil sS h1 h2; rw [h3]; simp only [Nat.zero_add, List.nil_append] at h4 dI ⊢; rw [dI] at h4; exact h4
  . rename_i b o n mk; obtain ⟨A, c, rfl, hn, PN, h0, hb⟩ := hs.iY; refine ⟨some A, n, c, rfl, ?_⟩
    cases hq : (Nat.beq m 0 && Nat.beq mk 1) with
    | true =>
      rw [hq] at hf; simp only [cond_true, Option.some.injEq, Prod.mk.injEq] at hf; obtain ⟨rfl, rfl⟩ := hf; obtain ⟨hm, mB⟩ := aQ hq; obtain rfl := bV hm; have jB : xK = [] := List.eq_nil_of_length_eq_zero (by rw [<- rX.1, uV]; simp); subst jB; have hc := PN (bV mB); rw [zP (w' := w) (by omega) JU rfl]
      exact p6.pure hr (by simpa using hs)
    | false =>
      rw [hq] at hf; simp only [cond_false] at hf; split at hf
      . rename_i e' cs own more hg; obtain ⟨AI, dI⟩ := aT hf; clear hf; obtain ⟨pA, hle⟩ := aQ AI; obtain ⟨he, hbd⟩ := aQ pA; obtain rfl := bV he; have hbd := fY hbd; have hle := fY hle; have nE := (hr.aA b _ hg).2; have jX : b ≠ 0 := (hr.ids b (hr.aA b _ hg).1).2; obtain ⟨hS, rfl, nP⟩ := hb jX; have GP := nE.BA.trans (iS hi); have pZ : ∀ i, i < cs.length -> ∃ v, w.cell? ((ρ b).at i) = some v /\ VR ρ S (cs.getD i undef) v := fun i hi => nE.cell hi
        -- the old elements, read behind the draw
        obtain ⟨olds, hold, sO⟩ := uF (P := P) (w := w.drew) (l := ρ b) (ρ := ρ) (S := S) (o := o) (n := n * i.size) pZ hle
        have SO : olds.length = n * i.size := by rw [<- sO.1]; simp; omega
        have wE : (Builtin.firstCells i.size n (.slice (some ((ρ b).at o)) n c)).run P w.drew = .ok olds.toArray w.drew := hold
        have aeE : c < n + m -> p6 P B w0 ρ S h w (grown e' (n + m) ((cs.drop o).take (n * i.size) ++ news) h).1 (grown e' (n + m) ((cs.drop o).take (n * i.size) ++ news) h).2
            ((rH e' i.size zs (some ((ρ b).at o)) n c m x app).run P w) := fun bO => by
          obtain ⟨cap, rest, h1, h2, h3⟩ := BB (P := P) (w := w) (e := e') (i := i) (x := x) (zs := zs) (base := some ((ρ b).at o)) (n := n) (c := c) (m := m) (app := app) (old := olds) (new := yD) hi hz wD xU bO hbd wE WM SO (by rw [<- sS.1, uV]); rw [h3]; exact O6 hr hi sO sS h1 h2
        cases ZV : Nat.beq mk 1 with
        | true =>
          rw [ZV] at dI; simp only [cond_true, Option.some.injEq] at dI; have hc := PN (bV ZV)
          have hm0 : m ≠ 0 := fun e => by subst e; simp [ZV] at hq
          have := aeE (by omega); rw [dI] at this
          exact this
        | false =>
          rw [ZV] at dI; simp only [cond_false] at dI; obtain ⟨CG, rG⟩ := aT dI; clear dI; obtain ⟨alU, kV⟩ := aQ CG; have nP := nP (bV alU); rw [GP] at nP; subst kV; obtain ⟨cur, aeF, ZW, aj9, _, hlc, akB, alV⟩ := nE
          cases nO : Nat.ble (o + (n + m) * i.size) cs.length with
          | true =>
            rw [nO] at rG; simp only [cond_true, Option.some.injEq, Prod.mk.injEq] at rG; obtain ⟨rfl, I8⟩ := rG; have nO := fY nO
            have AJ : n + m <= c := by
              have h1 : (n + m) * i.size <= c * i.size := by omega
              exact Nat.le_of_mul_le_mul_right h1 dR
            have sT : VR ρ S (.slice (some ⟨b, o, none⟩) (n + m) 0) (.slice (some ((ρ b).at o)) (n + m) c) :=
              .slice b o (n + m) 0 c _ AJ (fun e => by cases e) (fun e => absurd e jX) (fun _ => ⟨hS, rfl, fun _ => by rw [GP]; exact nP⟩)
            cases hm : Nat.beq m 0 with
            | true =>
              rw [hm] at I8; simp only [cond_true] at I8; subst I8; have hm0 := bV hm; have jB : xK = [] := List.eq_nil_of_length_eq_zero (by rw [<- rX.1, uV, hm0]; simp); subst jB; rw [zP (w' := w) AJ JU rfl]
              exact p6.pure hr sT
            | false =>
              rw [hm] at I8; simp only [cond_false] at I8; subst I8; have alW : (n + m) * i.size = n * i.size + m * i.size := Nat.add_mul _ _ _; obtain ⟨w2, h1, h2⟩ := p8 (o := o + n * i.size) hr hg rX lF (by omega); rw [zP (w' := w2) AJ JU (by rw [Loc.tT]; exact h1)]
              exact ⟨ρ, w2, _, rfl, h2, sT.mono fun b hb => ⟨.inl hb, rfl⟩⟩
          | false =>
            rw [nO] at rG; simp only [cond_false] at rG; have nO := iG nO
            cases hmr : more with
            | false =>
              rw [hmr] at rG; simp only [Bool.not_false, cond_true, Option.some.injEq] at rG; have sN := akB hmr
              have bO : c < n + m := by
                have h1 : c * i.size < (n + m) * i.size := by omega
                exact Nat.lt_of_mul_lt_mul_right h1
              have := aeE bO; rw [rG] at this
              exact this
            | true =>
              rw [hmr] at rG; simp only [Bool.not_true, cond_false] at rG; obtain ⟨hc4, I8⟩ := aT rG; clear rG; obtain ⟨ho0, PQ⟩ := aQ hc4; obtain rfl := bV ho0; have PQ := bV PQ; simp only [Option.some.injEq] at I8; have aoP : iF (.row e' cs true more) = true := rfl; have hB := hr.base b _ hg rfl; have alX := (hr.aA b _ hg).2.lt rfl; by_cases AJ : n + m <= c
              . -- in place
                have alW : (n + m) * i.size = n * i.size + m * i.size := Nat.add_mul _ _ _; have SJ : (n + m) * i.size <= c * i.size := Nat.mul_le_mul_right _ AJ
                have aoQ : xK.length = m * i.size := by rw [<- rX.1, uV]
                have eZ := oB P (ρ b).block (n * i.size) e' (ρ b).fz xK 0 cur.toArray w aeF (by have := (ρ b).hfz; simpa [aj9] using this) (by simp; omega) (fun v rE => by rw [GN]; exact rX.aN lF v rE); simp only [Nat.add_zero] at eZ
                have rF : (ρ b).at (n * i.size) = ⟨(ρ b).block, n * i.size, none⟩ := by simp [Loc.at, ZW]
                rw [zP AJ JU (by rw [Loc.tT, Nat.zero_add, rF]; exact eZ)]
                have hmv := aU.replace hr hg rfl (o' := .row e' (cs ++ news) true true) rfl (ρ b) (.inl rfl) hB (w' := w.setRow (ρ b).block (cur.toArray.toList.take (n * i.size) ++ xK ++ cur.toArray.toList.drop (n * i.size + xK.length)).toArray)
                  rfl rfl rfl (by simp [World.setRow]) (fun k _ hk => setRow_other w _ k _ hk)
                  ⟨cur.take (n * i.size) ++ xK ++ cur.drop (n * i.size + xK.length), by rw [setRow_heap w _ cur.toArray _ e' _ aeF], ZW, by rw [sQ _ _ _ (by omega)]; exact aj9, (hr.aA b _ hg).2.BA,
                    by rw [sQ _ _ _ (by omega)]; simp; omega, (fun e => by cases e), fun j hj => by
                      have MX : j < cs.length + news.length := by simpa using hj
                      rw [List.getD_eq_getElem?_getD, List.getD_eq_getElem?_getD, q4 cur _ xK (by omega), List.getElem?_append, <- PQ]; by_cases h1 : j < n * i.size
                      . rw [if_pos h1, if_pos h1]; have := (alV j (by omega)).mono (hr.qQ (ρ b) (.row e' (cs ++ news) true true)); rw [List.getD_eq_getElem?_getD, List.getD_eq_getElem?_getD] at this; exact this
                      rw [if_neg h1, if_neg h1, if_pos (by omega)]; have := (rX.2 (j - n * i.size) (by omega)).mono (hr.qQ (ρ b) (.row e' (cs ++ news) true true)); rw [List.getD_eq_getElem?_getD, List.getD_eq_getElem?_getD] at this
                      exact this⟩
                simp only [grown, Prod.mk.injEq] at I8; obtain ⟨rfl, rfl⟩ := I8; refine ⟨_, _, _, rfl, hmv, ?_⟩; have := q6 (ρ := ρ) (S := S) hr.pos (n + m) c (ρ b) ZW AJ (by rw [GP]; omega) ((h.drop b).push (.row e' (cs ++ news) true true)) (.inr ⟨Nat.le_refl _, Nat.lt_succ_self _⟩)
                have h0 : (ρ b).at 0 = ⟨(ρ b).block, 0, none⟩ := by simp [Loc.at, ZW]
                rw [h0]; exact this
              -- a new row
              obtain ⟨cap, rest, h1, h2, h3⟩ := BB (P := P) (w := w) (e := e') (i := i) (x := x) (zs := zs) (base := some ((ρ b).at 0)) (n := n) (c := c) (m := m) (app := app) (old := olds) (new := yD) hi hz wD xU (by omega) hbd wE WM SO (by rw [<- sS.1, uV]); rw [h3]
              have iZ : (cs.drop 0).take (n * i.size) = cs := by rw [PQ]; simp
              rw [iZ] at sO; have nQ := sS.1; have hl3 := sO.1
              have hmv := aU.replace (w := w.drew) kG hg rfl (o' := .row e' (cs ++ news) true true) rfl (.clean w.heap.size 0 (olds ++ yD ++ rest).length (P.cellsOf e')) (.inr (Nat.le_refl _)) hr.size
                (w' := w.drew.alloc (.cells (olds ++ yD ++ rest).toArray e')) rfl rfl rfl (by simp) (fun k hk _ => Below.heap_alloc w.drew _ k hk)
                ⟨olds ++ yD ++ rest, heap_alloc_new w.drew _, rfl, rfl, rfl, by simp; omega, (fun e => by cases e), fun j hj => by
                  have h4 := ((sO.append sS).mono (hr.qQ (.clean w.heap.size 0 (olds ++ yD ++ rest).length (P.cellsOf e')) (.row e' (cs ++ news) true true))).2 j hj; rw [List.getD_eq_getElem?_getD, List.getD_eq_getElem?_getD] at h4 ⊢; rw [List.getElem?_append_left (show j < (olds ++ yD).length by simp at hj ⊢; omega)]
                  exact h4⟩
              simp only [grown, Prod.mk.injEq] at I8; obtain ⟨rfl, rfl⟩ := I8; refine ⟨_, _, _, rfl, aU.wC hmv, ?_⟩; exact q6 hr.pos (n + m) cap _ rfl h1 (by rw [h2, iS hi]) _ (.inr ⟨Nat.le_refl _, Nat.lt_succ_self _⟩)
      cases hf
  cases hf
theorem WN {argTypes : Array TypeId} {ty : TypeId} {s x s' x' v : Value} (hr : HR P ρ S B w0 h w) (hs : VR ρ S s s') (hx : VR ρ S x x') (hf : fM P argTypes s x h = some (v, h')) :
    p6 P B w0 ρ S h w v h' ((Builtin.append_ argTypes ty #[s', x']).run P w) := by
  unfold fM at hf; split at hf
  . rename_i st xt h0 h1; split at hf
    . rename_i e xd bT hxt; split at hf
      . rename_i i hi; split at hf
        . rename_i z hz; split at hf
          . rename_i m news pB; obtain ⟨hc, dI⟩ := aT hf; clear hf; obtain ⟨AI, wD⟩ := aQ hc; obtain ⟨pA, lF⟩ := aQ AI; obtain ⟨CG, uV⟩ := aQ pA; obtain ⟨dR, xU⟩ := aQ CG; have dR := jA dR; have xU := jA xU; have uV := bV uV; have wD := bV wD; obtain ⟨xK, a1, a2, a3⟩ := CH hi hz wD dR hr hx pB; obtain ⟨yD, b1, b2, b3⟩ := CH hi hz wD dR (hr.drew (w.drawn + 1)) hx pB
            cases hxi : isInt xd with
            | false =>
              rw [hxi] at a2 a3 b3; simp only [Bool.false_eq_true, if_false, Bool.not_false, if_true] at a2 a3 b3; have aeG : App P ρ S w (Builtin.firstCells i.size m x') news := ⟨⟨xK, a1, a3⟩, ⟨yD, b1, b3⟩⟩; obtain ⟨base, n, c, rfl, jM⟩ := SN (x := x') (zs := false) hr hi hz wD dR xU uV lF hs aeG dI; rw [CI h0 h1 bT hxt hi hxi a2]
              exact jM
            | true =>
              have PR : ∃ k : Nat, x' = .int .i64 k /\ m = k /\ (k : Int) <= 1099511627776 /\ k * i.bytes <= 1099511627776 := by
                rw [hxi] at pB; unfold gB at pB; simp only [cond_true] at pB; split at pB
                . rename_i l; obtain ⟨hd, rG⟩ := aT pB; obtain ⟨JV, _⟩ := aQ hd; obtain ⟨WJ, JT⟩ := aQ JV; obtain ⟨rX, sS⟩ := aQ WJ; have rX := of_decide_eq_true rX; have sS := of_decide_eq_true sS; obtain ⟨k, rfl⟩ := Int.eq_ofNat_of_zero_le rX; simp only [Int.toNat_natCast, Option.some.injEq, Prod.mk.injEq] at rG JT; exact ⟨k, hx.qY, rG.1.symm, sS, fY JT⟩
                cases pB
              obtain ⟨k, rfl, rfl, hk1, yE⟩ := PR; rw [hxi] at a3 b3; simp only [Bool.not_true, Bool.false_eq_true, if_false] at a3 b3; have aeG : App P ρ S w (if m * i.size = 0 then pure #[] else do pure (Builtin.zeroCells (<- zeroValue e).cells m)) news := ⟨⟨xK, a1, a3⟩, ⟨yD, b1, b3⟩⟩; obtain ⟨base, n, c, rfl, jM⟩ := SN (x := .int .i64 m) (zs := true) hr hi hz wD dR xU uV lF hs aeG dI; rw [EM h0 h1 bT hxt hi hxi hk1 yE]; exact jM
          cases hf
        cases hf
      cases hf
    cases hf
  cases hf
end Go.Fs
namespace Go.Fs
open Go.RowKit (Below)
variable {P : Program} {ρ bY : Ren} {S S' : Nat -> Prop} {B : Nat} {w0 w w' w1 w2 : World} {h h' h1 h2 : U}
def xL (es fH : List MapEntry) : Prop := es.length = fH.length /\ ∀ (i : Nat) (e e' : MapEntry), es[i]? = some e -> fH[i]? = some e' -> e'.key = e.key
def EN (es fH : List MapEntry) (i : Nat) : Option (Nat × Value) -> Option (Nat × Value) -> Prop
  | none, none => True
  | some (j, v), some (j', v') => j' = j /\ ∃ m e e', j = i + m /\ es[m]? = some e /\ fH[m]? = some e' /\ v = e.val /\ v' = e'.val
  | _, _ => False
theorem EN.step {es fH : List MapEntry} {a a' : MapEntry} {i : Nat} {r r' : Option (Nat × Value)} (h : EN es fH (i + 1) r r') : EN (a :: es) (a' :: fH) i r r' := by
  match r, r', h with
  | none, none, _ => trivial
  | some (j, v), some (j', v'), ⟨h1, m, e, e', h2, h3, h4, h5⟩ => exact ⟨h1, m + 1, e, e', by omega, by simpa using h3, by simpa using h4, h5⟩
theorem xL.tail {es fH : List MapEntry} {a a' : MapEntry} (h : xL (a :: es) (a' :: fH)) : a'.key = a.key /\ xL es fH :=
  ⟨h.2 0 a a' rfl rfl, by simpa using h.1, fun i e e' he lP => h.2 (i + 1) e e' (by simpa using he) (by simpa using lP)⟩
theorem yF {d : TypeDesc} {k : Value} : ∀ (es fH : List MapEntry) (i : Nat), xL es fH ->
    (Instr.findNow d k es i = none -> Instr.findNow d k fH i = none) /\ ∀ r, Instr.findNow d k es i = some r -> ∃ r', Instr.findNow d k fH i = some r' /\ EN es fH i r r'
  | [], [], i, _ => ⟨fun h => h, fun r h => ⟨none, rfl, by simp only [Instr.findNow, Option.some.injEq] at h; subst h; trivial⟩⟩
  | [], _ :: _, _, h => by simp [xL] at h
  | _ :: _, [], _, h => by simp [xL] at h
  | a :: es, a' :: fH, i, h => by
    obtain ⟨hk, ht⟩ := h.tail; obtain ⟨ih1, ih2⟩ := yF (d := d) (k := k) es fH (i + 1) ht; simp only [Instr.findNow, hk]
    cases hs : Instr.sameNow d k a.key with
    | none => exact ⟨fun _ => rfl, fun r hr => by cases hr⟩
    | some b =>
      cases b with
      | true =>
        refine ⟨fun hc => by (cases hc), fun r hr => ?_⟩; simp only [Option.some.injEq] at hr; subst hr
        exact ⟨_, rfl, rfl, 0, a, a', rfl, rfl, rfl, rfl, rfl⟩
      | false =>
        refine ⟨fun hc => ih1 hc, fun r hr => ?_⟩; obtain ⟨r', h1, h2⟩ := ih2 r hr; exact ⟨r', h1, h2.step⟩
theorem yG {t : TypeId} {k : Value} : ∀ (es fH : List MapEntry) (i : Nat) (r : Option (Nat × Value)), xL es fH -> aD P (Instr.findAsking t k es i) = some r ->
    ∃ r', aD P (Instr.findAsking t k fH i) = some r' /\ EN es fH i r r'
  | [], [], i, r, _, h => ⟨none, rfl, by
      have h' : some none = some r := h
      simp only [Option.some.injEq] at h'; subst h'; trivial⟩
  | [], _ :: _, _, _, h, _ => by simp [xL] at h
  | _ :: _, [], _, _, h, _ => by simp [xL] at h
  | a :: es, a' :: fH, i, r, h, hr => by
    obtain ⟨hk, ht⟩ := h.tail; simp only [Instr.findAsking, aC, hk] at hr ⊢
    cases hs : aD P (Op.equal t k a.key) with
    | none => rw [hs] at hr; cases hr
    | some b =>
      rw [hs] at hr; simp only [Option.bind_some] at hr ⊢
      cases b with
      | true =>
        simp only [if_true, aL, Option.some.injEq] at hr ⊢; subst hr
        exact ⟨_, rfl, rfl, 0, a, a', rfl, rfl, rfl, rfl, rfl⟩
      | false =>
        simp only [Bool.false_eq_true, if_false] at hr ⊢; obtain ⟨r', h1, h2⟩ := yG es fH (i + 1) r ht hr; exact ⟨r', h1, h2.step⟩
theorem CJ {t : TypeId} {k : Value} {es fH : List MapEntry} {r : Option Nat} (hk : xL es fH) (hf : IS P t k es = some r) (w : World) :
    ∃ a a', (Instr.findKey t k fH).run P w = .ok a' w /\ EN es fH 0 a a' /\ r = a.map (·.1) := by
  unfold IS at hf; split at hf
  . rename_i d hd; split at hf
    . rename_i a ha; simp only [Option.some.injEq] at hf; obtain ⟨a', h1, h2⟩ := (yF es fH 0 hk).2 a ha; exact ⟨a, a', by simp [Instr.findKey, run_underlying hd, Result.andThen, h1], h2, hf.symm⟩
    rename_i ha; have h1 := (yF es fH 0 hk).1 ha; obtain ⟨a, h2, h3⟩ := Option.map_eq_some_iff.1 hf; obtain ⟨a', h4, h5⟩ := yG es fH 0 a hk h2; refine ⟨a, a', ?_, h5, h3.symm⟩; simp only [Instr.findKey, Sem.run_bind, run_underlying hd, Result.andThen_ok, h1]; exact c9 h4 w
  cases hf
theorem yH {r : Nat} {es : Array MapEntry} {clock : Nat} (hb : w.heap[r]? = some (.map es clock)) : (getObj r).run P w = .ok (.map es clock) w := by
  simp [getObj, Sem.run, hb]
theorem GQ {r : Nat} {es : Array MapEntry} {clock : Nat} (o : Obj) (hb : w.heap[r]? = some (.map es clock)) : (setObj r o).run P w = .ok () { w with heap := w.heap.setIfInBounds r o } := by
  simp [setObj, Sem.run, hb]
theorem zQ {r : Nat} {o o' : Obj} (hb : w.heap[r]? = some o) : (w.heap.setIfInBounds r o')[r]? = some o' /\ ∀ r', r' ≠ r -> (w.heap.setIfInBounds r o')[r']? = w.heap[r']? := by
  have bO : r < w.heap.size := (Array.getElem?_eq_some_iff.1 hb).1; exact ⟨by simp [bO], fun r' cA => by simp [Ne.symm cA]⟩
theorem SP {b : Nat} {es : List MapEntry} {clock : Nat} (hr : HR P ρ S B w0 h w) (hg : h.get b = some (.oI es clock)) :
    ∃ fH : List MapEntry, w.heap[(ρ b).block]? = some (.map fH.toArray clock) /\ es.length = fH.length /\
      ∀ (i : Nat) (e e' : MapEntry), es[i]? = some e -> fH[i]? = some e' -> e'.key = e.key /\ af e.key = true /\ e'.born = e.born /\ VR ρ S e.val e'.val := (hr.aA b _ hg).2
theorem rY {t : TypeId} {k : Value} {em : Bool} (hc : (aD P (Instr.checkKey em 10000 t k)).isSome = true) (w : World) : (Instr.checkKey em 10000 t k).run P w = .ok () w := by
  obtain ⟨u, hu⟩ := Option.isSome_iff_exists.1 hc; exact c9 hu w
theorem WO {t : TypeId} {x x' k k' v : Value} {ok : Bool} (hr : HR P ρ S B w0 h w) (hx : VR ρ S x x') (hk : VR ρ S k k') (hf : EF P t x k ok h = some v) :
    ∃ v', (Instr.lookup t x' k' ok).run P w = .ok v' w /\ VR ρ S v v' := by
  unfold EF at hf; split at hf
  . rename_i key elem hu; split at hf
    . rename_i z hz; simp only at hf; split at hf
      . rename_i es SQ; split at hf
        . rename_i hc; obtain ⟨hak, haz, hck⟩ := hc; obtain rfl := hk.dN hak
          -- the map's entries in the world
          have alY : ∃ fH : List MapEntry, (x' = .map none /\ fH = [] \/ ∃ r clock, x' = .map (some r) /\ w.heap[r]? = some (.map fH.toArray clock)) /\ xL es fH /\
              ∀ (i : Nat) (e e' : MapEntry), es[i]? = some e -> fH[i]? = some e' -> VR ρ S e.val e'.val := by
            split at SQ
            . simp only [Option.some.injEq] at SQ; subst SQ; obtain rfl := hx.gP rfl; exact ⟨[], .inl ⟨rfl, rfl⟩, ⟨rfl, fun i e e' he => by simp at he⟩, fun i e e' he => by simp at he⟩
            . rename_i b; obtain ⟨hs, rfl⟩ := hx.y9; split at SQ
              . rename_i es2 clock hg; simp only [Option.some.injEq] at SQ; subst SQ; obtain ⟨fH, h1, h2, h3⟩ := SP hr hg; exact ⟨fH, .inr ⟨_, _, rfl, h1⟩, ⟨h2, fun i e e' he lP => (h3 i e e' he lP).1⟩, fun i e e' he lP => (h3 i e e' he lP).2.2.2⟩
              cases SQ
            cases SQ
          obtain ⟨fH, h1, h2, h3⟩ := alY
          have hem : fH.toArray.isEmpty = es.isEmpty := by
            have := h2.1; cases es <;> cases fH <;> simp_all
          obtain ⟨i, hi, hiz⟩ := Option.bind_eq_some_iff.1 hz; have hzr := gY elem i z hi hiz w
          have JW : ∀ a', (Instr.findKey key k' fH).run P w = .ok a' w -> ∀ v0 b0, (match a' with | some (_, v) => v0 = v /\ b0 = true | none => v0 = z /\ b0 = false) ->
              (Instr.lookup t x' k' ok).run P w = .ok (if ok then .tuple #[v0, .bool b0] else v0) w := fun a' pY v0 b0 hvb => by
            unfold Instr.lookup; simp only [Sem.run_bind, run_underlying hu, Result.andThen_ok]; rcases h1 with ⟨rfl, rfl⟩ | ⟨r, clock, rfl, h1⟩
            . have alZ : (#[] : Array MapEntry).isEmpty = es.isEmpty := hem; have ha2 : (Instr.findKey key k' (#[] : Array MapEntry).toList).run P w = .ok a' w := pY; simp only [Sem.run_bind, Sem.run_pure, Result.andThen_ok, alZ, rY hck, ha2]
              cases a' with
              | none =>
                obtain ⟨rfl, rfl⟩ := hvb
                simp only [Sem.run_bind, hzr, Result.andThen_ok, Sem.run_pure]
              | some p =>
                obtain ⟨rfl, rfl⟩ := hvb; simp only [Sem.run_bind, Result.andThen_ok, Sem.run_pure]
            simp only [Sem.run_bind, Sem.run_pure, yH h1, Result.andThen_ok, hem, rY hck, pY]
            cases a' with
            | none =>
              obtain ⟨rfl, rfl⟩ := hvb
              simp only [Sem.run_bind, hzr, Result.andThen_ok, Sem.run_pure]
            | some p =>
              obtain ⟨rfl, rfl⟩ := hvb; simp only [Sem.run_bind, Result.andThen_ok, Sem.run_pure]
          have wrap : ∀ v0 v1 b0, VR ρ S v0 v1 -> VR ρ S (if ok = true then .tuple #[v0, .bool b0] else v0) (if ok = true then .tuple #[v1, .bool b0] else v1) := fun v0 v1 b0 hv => by
            cases ok with
            | false => exact hv
            | true => exact VR.tuple' (LR.cons hv (LR.cons (.lit rfl) LR.nil))
          split at hf
          . rename_i j hj; obtain ⟨a, a', h4, h5, h6⟩ := CJ h2 hj w; split at hf
            . rename_i e he; simp only [Option.some.injEq] at hf; subst hf
              match a, a', h5 with
              | some (j1, v1), some (j2, v2), ⟨e1, m, e3, e4, e5, e6, e7, e8, e9⟩ =>
                simp only [Option.map_some, Option.some.injEq] at h6; subst h6
                have : m = j := by omega
                subst this; rw [e6] at he; injection he with he; subst he e9
                exact ⟨_, JW _ h4 e4.val true ⟨rfl, rfl⟩, wrap _ _ _ (h3 _ _ _ e6 e7)⟩
              | none, none, _ => simp at h6
            cases hf
          . rename_i hj; obtain ⟨a, a', h4, h5, h6⟩ := CJ h2 hj w; simp only [Option.some.injEq] at hf; subst hf
            match a, a', h5 with
            | some (j1, v1), some (j2, v2), _ => simp at h6
            | none, none, _ => exact ⟨_, JW _ h4 z false ⟨rfl, rfl⟩, wrap _ _ _ (.mH haz)⟩
          cases hf
        cases hf
      cases hf
    cases hf
  cases hf
theorem AU {t : TypeId} {m m' k k' x x' : Value} (hr : HR P ρ S B w0 h w) (hm : VR ρ S m m') (hk : VR ρ S k k') (hx : VR ρ S x x') (hf : vZ P t m k x h = some h') :
    ∃ w', (Instr.mapUpdate t m' k' x').run P w = .ok () w' /\ aU P B w0 ρ ρ S h h' w w' := by
  unfold vZ at hf; split at hf
  . rename_i key elem b hu; obtain ⟨hs, rfl⟩ := hm.y9; split at hf
    . rename_i es clock hg; split at hf
      . rename_i hc; obtain ⟨hak, hck⟩ := hc; obtain rfl := hk.dN hak; obtain ⟨fH, h1, h2, h3⟩ := SP hr hg; have hkr : xL es fH := ⟨h2, fun i e e' he lP => (h3 i e e' he lP).1⟩
        have put : ∀ (es2 SR : List MapEntry) (c2 : Nat), es2.length = SR.length ->
            (∀ (i : Nat) (e e' : MapEntry), es2[i]? = some e -> SR[i]? = some e' -> e'.key = e.key /\ af e.key = true /\ e'.born = e.born /\ VR ρ S e.val e'.val) ->
            aU P B w0 ρ ρ S h (h.set b (.oI es2 c2)) w { w with heap := w.heap.setIfInBounds (ρ b).block (.map SR.toArray c2) } := fun es2 SR c2 hl hv =>
          aU.set hr hg rfl rfl rfl rfl rfl (by simp) (fun k hk => (zQ h1).2 k hk) ⟨SR, (zQ h1).1, hl, hv⟩
        split at hf
        . rename_i j hj; obtain ⟨a, a', h4, h5, h6⟩ := CJ hkr hj w; split at hf
          . rename_i e he; split at hf
            . rename_i l6; simp only [Option.some.injEq] at hf; subst hf
              match a, a', h5 with
              | some (j1, v1), some (j2, v2), ⟨e1, m, e3, e4, e5, e6, e7, e8, e9⟩ =>
                simp only [Option.map_some, Option.some.injEq] at h6
                have q1 : m = j2 := by omega
                have q2 : m = j := by omega
                subst q1 q2; rw [e6] at he; injection he with he; subst he; have am0 := (h3 _ _ _ e6 e7).1; refine ⟨_, ?_, put (es.set m { e3 with key := k', val := x }) (fH.set m { e4 with key := k', val := x' }) clock (by simp [h2]) ?_⟩
                . unfold Instr.mapUpdate
                  have hg4 : ((fH.toArray[m]?).map (·.key)).getD k' = e3.key := by simp [e7, am0]
                  simp only [Sem.run_bind, run_underlying hu, Result.andThen_ok, yH h1, rY hck, h4, hg4, Instr.keyThatStays, l6, if_true, Sem.run_pure, GQ _ h1]; congr 3; apply congrArg (fun z => Obj.map z clock); apply Array.toList_inj.1; refine List.ext_getElem? fun q => ?_; simp only [Array.toList_modify, List.getElem?_modify, List.getElem?_set]; have bO := (List.getElem?_eq_some_iff.1 e7).1; by_cases hq : m = q
                  . subst hq
                    have h9 : fH[m] = e4 := by
                      have := List.getElem?_eq_getElem bO; rw [e7] at this; injection this with this; exact this.symm
                    simp [bO, h9]
                  simp [hq]
                intro i e e' he lP; rw [List.getElem?_set] at he lP; split at he
                . rename_i hq; rw [if_pos hq] at lP; split at he
                  . split at lP
                    . injection he with he; injection lP with lP; subst he lP; exact ⟨rfl, hak, (h3 _ _ _ e6 e7).2.2.1, hx⟩
                    cases lP
                  cases he
                rename_i hq; rw [if_neg hq] at lP
                exact h3 i e e' he lP
              | none, none, _ => simp at h6
            cases hf
          cases hf
        . rename_i hj; obtain ⟨a, a', h4, h5, h6⟩ := CJ hkr hj w; simp only [Option.some.injEq] at hf; subst hf
          match a, a', h5 with
          | some (j1, v1), some (j2, v2), _ => simp at h6
          | none, none, _ =>
            refine ⟨_, ?_, put (es ++ [{ key := k', val := x, born := clock }]) (fH ++ [{ key := k', val := x', born := clock }]) (clock + 1) (by simp [h2]) ?_⟩
            . unfold Instr.mapUpdate; simp only [Sem.run_bind, run_underlying hu, Result.andThen_ok, yH h1, rY hck, h4, GQ _ h1]; congr 4; simp
            intro i e e' he lP; rw [List.getElem?_append] at he lP; rw [<- h2] at lP; split at he
            . rename_i bO; rw [if_pos bO] at lP; exact h3 i e e' he lP
            rename_i bO; rw [if_neg bO] at lP
            cases hq : i - es.length with
            | zero =>
              rw [hq] at he lP; simp at he lP; subst he lP
              exact ⟨rfl, hak, rfl, hx⟩
            | succ q => rw [hq] at he; simp at he
        cases hf
      cases hf
    cases hf
  cases hf
theorem SS (hr : HR P ρ S B w0 h w) (t : TypeId) :
    p6 P B w0 ρ S h w (.map (some h.next)) (h.push (.oI [] 0)) ((Instr.makeMap t none).run P w) := by
  refine ⟨_, _, _, rfl, aU.push hr (.oI [] 0) (.map #[] 0) (.clean w.heap.size 0 0 (0)) rfl rfl ⟨[], heap_alloc_new w _, rfl, fun i e e' he => by simp at he⟩, ?_⟩; have := VR.map (ρ := ρ.put h.next (.clean w.heap.size 0 0 (0))) (S := Ext S h (h.push (.oI [] 0))) h.next (Ext.lL _); rw [Ren.fC] at this; exact this
theorem abG {t : TypeId} {x x' v : Value} (hr : HR P ρ S B w0 h w) (hx : VR ρ S x x') (hf : xY P t x h = some (v, h')) :
    p6 P B w0 ρ S h w v h' ((Instr.range t x').run P w) := by
  unfold xY at hf; split at hf
  . rename_i s hu; simp only [Option.some.injEq, Prod.mk.injEq] at hf; obtain ⟨rfl, rfl⟩ := hf; obtain rfl := hx.qZ; refine ⟨ρ.put h.next (.clean w.heap.size 0 0 (0)), w.alloc (.stringIter s 0), .pointer (some ⟨w.heap.size, 0, none⟩), ?_, aU.push hr (.iter s 0) (.stringIter s 0) (.clean w.heap.size 0 0 (0)) rfl rfl ⟨heap_alloc_new w _, rfl⟩, ?_⟩
    . simp only [Instr.range, Sem.run_bind, run_underlying hu, Result.andThen_ok, Sem.run_pure]; rfl
    have := VR.ptr (ρ := ρ.put h.next (.clean w.heap.size 0 0 (0))) (S := Ext S h (h.push (.iter s 0))) h.next 0 (Ext.lL _); rw [Ren.fC] at this; exact this
  cases hf
theorem SU {ty : TypeId} {x x' v : Value} {N0 : Bool} (hr : HR P ρ S B w0 h w) (hx : VR ρ S x x') (hf : w5 x N0 h = some (v, h')) :
    p6 P B w0 ρ S h w v h' ((Instr.next x' N0 ty).run P w) := by
  unfold w5 at hf; split at hf
  . rename_i b; obtain ⟨hs, rfl⟩ := hx.p7; split at hf
    . rename_i s pos hg; obtain ⟨h1, h2⟩ := (hr.aA b _ hg).2
      have rF : (ρ b).at 0 = ⟨(ρ b).block, 0, none⟩ := by simp [Loc.at, h2]
      have jC : (getObj (ρ b).block).run P w = .ok (.stringIter s pos) w := by simp [getObj, Sem.run, h1]
      rw [rF]; simp only at hf; split at hf
      . rename_i bO; simp only [Option.some.injEq, Prod.mk.injEq] at hf; obtain ⟨rfl, rfl⟩ := hf
        have xH : ∀ o', (setObj (ρ b).block o').run P w = .ok () { w with heap := w.heap.setIfInBounds (ρ b).block o' } := fun o' => by simp [setObj, Sem.run, h1]
        refine ⟨ρ, { w with heap := w.heap.setIfInBounds (ρ b).block (.stringIter s (pos + (Utf8.decode s pos).2)) }, _, ?_,
          aU.set hr hg rfl rfl rfl rfl rfl (by simp) (fun k hk => (zQ h1).2 k hk) ⟨(zQ h1).1, h2⟩, .mH rfl⟩
        simp only [Instr.next, Sem.run_bind, jC, Result.andThen_ok, bO, if_true, xH, Sem.run_pure, goInt]
      rename_i bO; simp only [Option.some.injEq, Prod.mk.injEq] at hf; obtain ⟨rfl, rfl⟩ := hf
      have : (Instr.next (.pointer (some ⟨(ρ b).block, 0, none⟩)) true ty).run P w = .ok (.tuple #[.bool false]) w := by
        simp only [Instr.next, Sem.run_bind, jC, Result.andThen_ok, bO, if_false, Sem.run_pure]
      rw [this]; exact p6.pure hr (.mH rfl)
    cases hf
  cases hf
end Go.Fs
namespace Go.Fs
open Go.RowKit (Below)
variable {P : Program} {ρ bY : Ren} {S S' : Nat -> Prop} {B : Nat} {w0 w w' w1 w2 : World} {h h' h1 h2 : U}
def Nx (P : Program) (B : Nat) (w0 : World) (ρ : Ren) (S : Nat -> Prop) (h : U) (w : World) (v : Value) (h' : U) (r : Result Next) : Prop :=
  ∃ bY w' v', (r = .ok (Next.value v') w' \/ (r = .ok .skip w' /\ v' = undef)) /\ aU P B w0 ρ bY S h h' w w' /\ VR bY (Ext S h h') v v'
theorem gQ {s : Sem Value} {v : Value} (hv : p6 P B w0 ρ S h w v h' (s.run P w)) : Nx P B w0 ρ S h w v h' ((do pure (Next.value (<- s)) : Sem Next).run P w) := by
  obtain ⟨bY, w', v', h1, h2, h3⟩ := hv; exact ⟨bY, w', v', .inl (by simp [h1]), h2, h3⟩
theorem rZ {s : Sem Value} {v v' : Value} (hr : HR P ρ S B w0 h w) (h1 : s.run P w = .ok v' w) (hv : VR ρ S v v') : Nx P B w0 ρ S h w v h ((do pure (Next.value (<- s)) : Sem Next).run P w) :=
  gQ (by rw [h1]; exact p6.pure hr hv)
theorem JX {s : Sem Unit} (h1 : s.run P w = .ok () w') (m : aU P B w0 ρ ρ S h h' w w') : Nx P B w0 ρ S h w undef h' ((do s; pure .skip : Sem Next).run P w) :=
  ⟨ρ, w', undef, .inr ⟨by simp [h1], rfl⟩, m, VR.undef⟩
theorem fD {α : Type} {x : Option α} {h h' : U} {v : α} (e : (x.map fun v => (v, h)) = some (v, h')) : x = some v /\ h' = h := by
  obtain ⟨a, h1, h2⟩ := Option.map_eq_some_iff.1 e; simp only [Prod.mk.injEq] at h2; obtain ⟨rfl, rfl⟩ := h2; exact ⟨h1, rfl⟩
theorem q7 {s : Sem Value} {v : Value} (hp : bX P s = some v) (w : World) : s.run P w = .ok v w /\ af v = true := by
  unfold bX at hp; obtain ⟨a, h1, h2⟩ := Option.bind_eq_some_iff.1 hp; obtain ⟨h3, h4⟩ := aT (x := some a) (c := af a) (v := v) (by cases ha : af a <;> simp_all); simp only [Option.some.injEq] at h4; subst h4; exact ⟨c9 h1 w, h3⟩
theorem VR.zR {f : FuncId} {a c : Array Value} {v' : Value} (hv : VR ρ S (.func (.func f) a c) v') : ∃ a' c', v' = .func (.func f) a' c' /\ LR ρ S a.toList a'.toList /\ LR ρ S c.toList c'.toList := by
  cases hv with
  | lit h => simp [eD] at h
  | func f a a' c c' ha hA hc hC => exact ⟨a', c', rfl, ⟨by simpa using ha, by simpa using hA⟩, ⟨by simpa using hc, by simpa using hC⟩⟩
theorem VR.JY {l : Nat} {v' : Value} (hv : VR ρ S (.func (.yield l) #[] #[]) v') : S l /\ v' = .func (.yield (ρ l).block) #[] #[] := by
  cases hv with
  | lit h => simp [eD] at h
  | yield l hs => exact ⟨hs, rfl⟩
theorem EO {op : BinOp} {t : TypeId} {x y : Operand} {a' b' : Value} {r : Bool} (he : (Op.equal t a' b').run P w = .ok false w)
    (hg : ∀ q, q = .eql \/ q = .neq -> eqGuard q t x y a' b' = pure ())
    (h1 : binOp .eql t a' b' = (do pure (.bool (<- Op.equal t a' b')))) (h2 : binOp .neq t a' b' = (do pure (.bool (!(<- Op.equal t a' b'))))) (dU : S6 op = some r) :
    (do eqGuard op t x y a' b'; binOp op t a' b' : Sem Value).run P w = .ok (.bool r) w := by
  cases op <;> simp only [S6, Option.some.injEq, reduceCtorEq] at dU
  . subst dU; rw [hg _ (.inl rfl), h1]; simp [he]
  subst dU; rw [hg _ (.inr rfl), h2]; simp [he]
theorem ahR {op : BinOp} {t : TypeId} {x y : Operand} {a b a' b' : Value} {r : Bool} (ha : VR ρ S a a') (hb : VR ρ S b b') (hf : w6 P op t a b = some r) (w : World) :
    (do eqGuard op t x y a' b'; binOp op t a' b' : Sem Value).run P w = .ok (.bool r) w := by
  unfold w6 at hf; split at hf
  . rename_i A n c; split at hf
    . rename_i e hu; obtain ⟨b0, o, rfl, hs⟩ := ha.JO; obtain ⟨A', c', rfl, _⟩ := hs.iY; obtain rfl := hb.iR; refine EO ?_ (fun q hq => by rcases hq with rfl | rfl <;> rfl) rfl rfl hf; show (Op.equalIn 10000 t _ _).run P w = _; unfold Op.equalIn; simp only [Sem.run_bind, run_underlying hu, Result.andThen_ok, Sem.run_pure]
    cases hf
  . rename_i b0; split at hf
    . rename_i k e hu; obtain ⟨_, rfl⟩ := ha.y9; obtain rfl := hb.gP rfl; refine EO ?_ (fun q hq => by rcases hq with rfl | rfl <;> rfl) rfl rfl hf; show (Op.equalIn 10000 t _ _).run P w = _; unfold Op.equalIn; simp only [Sem.run_bind, run_underlying hu, Result.andThen_ok, Sem.run_pure]
    cases hf
  . rename_i f a1 a2; split at hf
    . rename_i p1 p2 p3 hu
      have kF : ∃ f' a1' a2', a' = .func f' a1' a2' := by
        cases ha with
        | lit h => simp [eD] at h
        | func f a a' c c' ha hA hc hC => exact ⟨_, _, _, rfl⟩
        | yield l hs => exact ⟨_, _, _, rfl⟩
      obtain ⟨f', a1', a2', rfl⟩ := kF; obtain rfl := hb.gP rfl; refine EO ?_ (fun q hq => by rcases hq with rfl | rfl <;> rfl) rfl rfl hf; show (Op.equalIn 10000 t _ _).run P w = _; unfold Op.equalIn; simp only [Sem.run_bind, run_underlying hu, Result.andThen_ok, Sem.run_pure]
    cases hf
  cases hf
end Go.Fs
namespace Go.Fs
open Go.RowKit (Below)
variable {P : Program} {ρ bY : Ren} {S S' : Nat -> Prop} {B : Nat} {w0 w w' w1 w2 : World} {h h' h1 h2 : U}
theorem N3 {argTypes : Array TypeId} {ty : TypeId} {x x' v : Value} (hx : VR ρ S x x') (hf : vW x = some v) : ∃ v', (Builtin.unsafeSliceData_ argTypes ty #[x']).run P w = .ok v' w /\ VR ρ S v v' := by
  unfold vW at hf; split at hf
  . obtain rfl := hx.iR; simp only [Option.some.injEq] at hf; subst hf; exact ⟨_, Lib.run_unsafeSliceData_nil _ _ _ _ _, .lit rfl⟩
  . rename_i b o n m; obtain ⟨A, c, rfl, hn, _, h0, hb⟩ := hx.iY
    cases hz : Nat.beq n 0 with
    | true => rw [hz] at hf; cases hf
    | false =>
      rw [hz] at hf; simp only [cond_false, Option.some.injEq] at hf; subst hf; have hn0 := gC hz; have jX : b ≠ 0 := fun e => hn0 (h0 e); obtain ⟨hs, rfl, _⟩ := hb jX; exact ⟨_, Lib.run_unsafeSliceData_row _ _ _ _ _ _ (by omega), .ptr b o hs⟩
  cases hf
theorem JZ : ∀ {cs cs' : List Value} {l : List UInt8}, LR ρ S cs cs' -> tR cs = some l -> cs' = l.map (fun x => Value.int .u8 x.toNat)
  | [], cs', l, hl, hb => by
    simp only [tR, Option.some.injEq] at hb; subst hb
    exact List.eq_nil_of_length_eq_zero hl.1.symm
  | v :: r, [], l, hl, _ => by have := hl.1; simp at this
  | v :: r, v' :: r', l, hl, hb => by
    unfold tR at hb; split at hb
    . rename_i he; cases he
    . rename_i n r0 he; simp only [List.cons.injEq] at he; obtain ⟨rfl, rfl⟩ := he; obtain ⟨hc, sR⟩ := aT hb; obtain ⟨l0, h1, rfl⟩ := Option.map_eq_some_iff.1 sR; have hv : VR ρ S (.int .u8 (.ofNat n)) v' := hl.2 0 (by simp); have hr : LR ρ S r r' := ⟨by have := hl.1; simpa using this, fun i hi => by have := hl.2 (i + 1) (by simp; omega); simpa using this⟩; have hn := jA hc; rw [hv.qY, JZ hr h1]; simp only [List.map_cons, UInt8.toNat_ofNat', Nat.reducePow]; rw [Nat.mod_eq_of_lt hn]; rfl
    cases hb
theorem GR : ∀ {cs : List Value} {l : List UInt8}, tR cs = some l -> l.length = cs.length
  | [], l, hb => by
    simp only [tR, Option.some.injEq] at hb
    subst hb; rfl
  | v :: r, l, hb => by
    unfold tR at hb; split at hb
    . rename_i he; cases he
    . rename_i n r0 he; simp only [List.cons.injEq] at he; obtain ⟨rfl, rfl⟩ := he; obtain ⟨hc, sR⟩ := aT hb; obtain ⟨l0, h1, rfl⟩ := Option.map_eq_some_iff.1 sR; rw [List.length_cons, List.length_cons, GR h1]
    cases hb
theorem N4 {argTypes : Array TypeId} {ty : TypeId} {p n p' n' v : Value} (hr : HR P ρ S B w0 h w) (hp : VR ρ S p p') (hn : VR ρ S n n') (hf : vX P argTypes p n h = some (v, h')) :
    p6 P B w0 ρ S h w v h' ((Builtin.unsafeString_ argTypes ty #[p', n']).run P w) := by
  unfold vX at hf; split at hf
  . rename_i pt it rF; have ha : argTypes = #[pt, it] := Array.toList_inj.1 rF; subst ha; split at hf
    . rename_i e hu; simp only [Option.some.injEq, Prod.mk.injEq] at hf; obtain ⟨rfl, rfl⟩ := hf; rw [hp.gP rfl, hn.qY, Lib.run_unsafeString_none]; exact p6.pure hr (.lit rfl)
    cases hf
  . rename_i pt it b n rF; have ha : argTypes = #[pt, it] := Array.toList_inj.1 rF; subst ha; split at hf
    . rename_i e e' cs more hu hg; obtain ⟨hc, dI⟩ := aT hf; obtain ⟨hc, hc4⟩ := aQ hc; obtain ⟨hc, CG⟩ := aQ hc; obtain ⟨AI, pA⟩ := aQ hc; obtain rfl := bV AI; have pA := bV pA; have CG := fY CG; have hc4 := fY hc4; split at dI
      . rename_i l hl; simp only [Option.some.injEq, Prod.mk.injEq] at dI; obtain ⟨rfl, rfl⟩ := dI; obtain ⟨SL, cur, k1, k2, k3, k4, k5, k6, k7⟩ := hr.aA b _ hg
        have hll : l.length = n + 1 := by rw [GR hl, List.length_take]; omega
        have hlr : LR ρ S (cs.take (n + 1)) (cur.take (n + 1)) := ⟨by rw [List.length_take, List.length_take]; omega, fun i hi => by
          rw [List.length_take] at hi; have := k7 i (by omega); rw [List.getD_eq_getElem?_getD, List.getD_eq_getElem?_getD, List.getElem?_take, if_pos (by omega), List.getElem?_take, if_pos (by omega), <- List.getD_eq_getElem?_getD, <- List.getD_eq_getElem?_getD]
          exact this⟩
        have am1 := JZ hlr hl
        have am2 : p' = .pointer (some ⟨(ρ b).block, 0, none⟩) := by
          rw [hp.p7.2]; unfold Loc.at; rw [k2]
        have hni : n' = .int .i64 (l.length : Int) := by rw [hn.qY, hll]; rfl
        have pZ : ∀ j x, l[j]? = some x -> w.cell? ((⟨(ρ b).block, 0, none⟩ : Addr).add j) = some (.int .u8 x.toNat) := fun j x hj => by
          obtain ⟨hj1, hj2⟩ := List.getElem?_eq_some_iff.1 hj
          have h3 : (cur.take (n + 1))[j]? = some (.int .u8 x.toNat) := by rw [am1, List.getElem?_map, hj]; rfl
          rw [List.getElem?_take, if_pos (by omega)] at h3
          have h4 : ((⟨(ρ b).block, 0, none⟩ : Addr).add j) = ⟨(ρ b).block, j, none⟩ := by
            unfold Addr.add; by_cases hj0 : j = 0
            . subst hj0; rfl
            simp [hj0]
          rw [h4]; simp [World.cell?, k1, h3]
        have eZ := Lib.run_unsafeString_row w pt it ty e' hu pA (ρ b).block cur.length (by simp [World.shape?, k1]) l (by intro e0; rw [e0] at hll; simp at hll) (by omega) (by omega) pZ; rw [am2, hni, eZ]; refine ⟨ρ, _, _, rfl, ?_, .lit rfl⟩
        have hfz : (w.freeze ⟨(ρ b).block, 0, none⟩ l.length).os = w.os /\ (w.freeze ⟨(ρ b).block, 0, none⟩ l.length).tape = w.tape /\ (w.freeze ⟨(ρ b).block, 0, none⟩ l.length).output = w.output /\ (w.freeze ⟨(ρ b).block, 0, none⟩ l.length).heap.size = w.heap.size /\ ∀ k, k ≠ (ρ b).block -> (w.freeze ⟨(ρ b).block, 0, none⟩ l.length).heap[k]? = w.heap[k]? := by
          unfold World.freeze; rw [if_neg (by omega)]; refine ⟨rfl, rfl, rfl, by simp, fun k hk => ?_⟩; simp only [Array.getElem?_modify]; rw [if_neg (fun e0 => hk e0.symm)]
        obtain ⟨f1, f2, f3, f4, f5⟩ := hfz; exact aU.gone hr hg rfl f1 f2 f3 f4 f5 (by unfold World.freeze; split <;> exact Nat.le_refl _)
      cases dI
    cases hf
  cases hf
end Go.Fs
namespace Go.Fs
open Go.RowKit (Below)
variable {P : Program} {ρ bY : Ren} {S S' : Nat -> Prop} {B : Nat} {w0 w w' w1 w2 : World} {h h' h1 h2 : U}
theorem jH {s : Sem Value} {v : Value} (hr : HR P ρ S B w0 h w) (hx : ∃ v', s.run P w = .ok v' w /\ VR ρ S v v') : Nx P B w0 ρ S h w v h ((do pure (Next.value (<- s)) : Sem Next).run P w) := by
  obtain ⟨v', h1, h2⟩ := hx; exact rZ hr h1 h2
theorem K0 {x o : Operand} (y : Option Operand) (h : y = some o) (hx : x = o) : x ∈ y.toArray.toList := by
  subst h hx; simp
theorem O7 {f : Ieee.Format} {x : Nat} (h1 : f.infRung < x % f.signWeight) (h2 : f.binade <= f.infRung) : (f.read x).isNaN = true := by
  unfold Ieee.Format.read; dsimp only; rw [if_neg (by omega), if_neg (by omega), if_neg (by omega)]; rfl
theorem aeH (t : Nat) : ((FloatKind.f32).decode ((t % 2) * 2 ^ 31 + 0x7f800000 + 1 + (t / 2) % (2 ^ 23 - 1))).isNaN = true := by
  refine O7 (f := Ieee.single) ?_ (by decide)
  have e1 : Ieee.single.infRung = 2139095040 := by decide
  have e2 : Ieee.single.signWeight = 2147483648 := by decide
  rw [e1, e2]; have h1 : t / 2 % (2 ^ 23 - 1) < 2 ^ 23 - 1 := Nat.mod_lt _ (by decide); generalize t / 2 % (2 ^ 23 - 1) = r at h1 ⊢; rcases Nat.mod_two_eq_zero_or_one t with h | h <;> rw [h] <;> omega
theorem aeI (t : Nat) : ((FloatKind.f64).decode ((t % 2) * 2 ^ 63 + 0x7ff0000000000000 + 1 + (t / 2) % (2 ^ 52 - 1))).isNaN = true := by
  refine O7 (f := Ieee.double) ?_ (by decide)
  have e1 : Ieee.double.infRung = 9218868437227405312 := by decide
  have e2 : Ieee.double.signWeight = 9223372036854775808 := by decide
  rw [e1, e2]; have h1 : t / 2 % (2 ^ 52 - 1) < 2 ^ 52 - 1 := Nat.mod_lt _ (by decide); generalize t / 2 % (2 ^ 52 - 1) = r at h1 ⊢; rcases Nat.mod_two_eq_zero_or_one t with h | h <;> rw [h] <;> omega
theorem K1 (k : FloatKind) (a b n : Nat) : (k.decode ((Question.nanBits k a b).cut n)).isNaN = true := by
  cases k
  . exact aeH n
  exact aeI n
theorem K2 (k : FloatKind) (b n : Nat) : (k.decode ((Question.nanConv k b).cut n)).isNaN = true := by
  cases k
  . exact aeH n
  exact aeI n
theorem SV {s : Sem Value} {v v' : Value} (hr : HR P ρ S B w0 h w) (h1 : s.run P w = .ok v' { w with drawn := w.drawn + 1 }) (hv : VR ρ S v v') : Nx P B w0 ρ S h w v h ((do pure (Next.value (<- s)) : Sem Next).run P w) :=
  gQ (by rw [h1]; exact ⟨ρ, _, v', rfl, aU.wC (n := w.drawn + 1) (aU.same (hr.drew _)), hv.mono fun _ hb => ⟨.inl hb, rfl⟩⟩)
theorem aeJ {op : BinOp} {t : TypeId} {x y : Operand} {a b v : Value} (hr : HR P ρ S B w0 h w) (hf : zM op a b = some v) : Nx P B w0 ρ S h w v h ((do pure (Next.value (<- (do eqGuard op t x y a b; binOp op t a b))) : Sem Next).run P w) := by
  unfold zM at hf; split at hf
  . rename_i k p k' q; obtain ⟨hc, hv⟩ := aT hf; obtain ⟨hk, hn⟩ := aQ hc; obtain rfl := of_decide_eq_true hk; obtain rfl := Option.some.inj hv; refine SV hr (v' := .float k ((Question.nanBits k p q).cut (w.tape w.drawn (Question.nanBits k p q)))) ?_ (.nan k _ (K1 k p q _)); have hq : (Question.nanBits k p q).forced = false := rfl; unfold JA at hn; split at hn
    all_goals first | (cases hn; done) | skip
    all_goals
      rw [Option.isNone_iff_eq_none] at hn; simp [eqGuard, binOp, Op.floatArith, hn, run_choose, hq]
  cases hf
theorem VR.uC {v v' : Value} {k : FloatKind} (hv : VR ρ S v v') (hk : uC v = some k) : ∃ b, v' = .float k b /\ (C4 v = true -> (k.decode b).isNaN = true) := by
  unfold Fs.uC at hk; split at hk
  . rename_i k0 b; obtain rfl := Option.some.inj hk; exact ⟨b, hv.gP rfl, fun e => by cases e⟩
  . rename_i k0; obtain rfl := Option.some.inj hk
    cases hv with
    | lit h => simp [eD] at h
    | nan k b hb => exact ⟨b, rfl, fun _ => hb⟩
  cases hk
theorem WQ {k : FloatKind} {a b : Nat} (h : (k.decode a).isNaN = true \/ (k.decode b).isNaN = true) : k.format.order a b = none := by
  unfold Ieee.Format.order; rcases h with h | h
  . have : (k.format.read a).isNaN = true := h; cases hd : k.format.read a <;> rw [hd] at this <;> first | (cases this; done) | rfl
  have : (k.format.read b).isNaN = true := h; cases hd : k.format.read b <;> rw [hd] at this <;> first | (cases this; done) | skip; cases k.format.read a <;> rfl
theorem aeK {op : BinOp} {t : TypeId} {x y : Operand} {a b a' b' : Value} {r : Bool} (ha : VR ρ S a a') (hb : VR ρ S b b') (hf : rT op a b = some r) (w : World) : (do eqGuard op t x y a' b'; binOp op t a' b' : Sem Value).run P w = .ok (.bool r) w := by
  unfold rT at hf; split at hf
  . rename_i k k' h1 h2; obtain ⟨hc, hv⟩ := aT hf; obtain ⟨hk, hn⟩ := aQ hc; obtain rfl := of_decide_eq_true hk; obtain ⟨p, rfl, hp⟩ := ha.uC h1; obtain ⟨q, rfl, hq⟩ := hb.uC h2
    have ho : k.format.order p q = none := WQ (by
      rcases Bool.or_eq_true_iff.1 hn with hn | hn
      . exact .inl (hp hn)
      exact .inr (hq hn))
    cases op <;> simp only [IT, Option.some.injEq, reduceCtorEq] at hv <;> subst hv <;> simp [eqGuard, binOp, Op.floatCmp, ho]
  cases hf
theorem aeL {s d : TypeId} {a v : Value} (hr : HR P ρ S B w0 h w) (hf : zN P s d a = some v) : Nx P B w0 ρ S h w v h ((do pure (Next.value (<- convert s d a)) : Sem Next).run P w) := by
  unfold zN at hf; split at hf
  . rename_i k b u k' hu hd; obtain ⟨hc, hv⟩ := aT hf; obtain ⟨hk, hn⟩ := aQ hc; obtain rfl := Option.some.inj hv
    have cA : ¬ k = k' := by simpa using hk
    refine SV hr (v' := .float k' ((Question.nanConv k' b).cut (w.tape w.drawn (Question.nanConv k' b)))) ?_ (.nan k' _ (K2 k' b _)); have hq : (Question.nanConv k' b).forced = false := rfl
    cases he : k.decode b with
    | nan n f => cases u <;> simp [convert, run_underlying hu, run_underlying hd, Conv.floatToFloat, cA, he, run_choose, hq]
    | _ => rw [he] at hn; cases hn
  cases hf
theorem abH {call : FuncId -> List Value -> U -> Option (Value × U)} {yield : Nat -> List Value -> U -> Option (Value × U)} {o : Oper} {ev kR : Operand -> Value} {v : Value}
    (hr : HR P ρ S B w0 h w) (cB : ∀ x ∈ o.op.operands.toList, VR ρ S (ev x) (kR x)) (o9 : ∀ c f, o.op = .call c -> c.callee ≠ .value f)
    (hf : cP P call yield o ev h = some (v, h')) : Nx P B w0 ρ S h w v h' ((execOp kR o).run P w) := by
  unfold cP at hf; unfold execOp
  cases dU : o.op with
  | move x =>
    simp only [dU, Op.operands, List.mem_cons, List.not_mem_nil, or_false, forall_eq] at hf cB ⊢; simp only [Option.some.injEq, Prod.mk.injEq] at hf; obtain ⟨rfl, rfl⟩ := hf
    exact ⟨ρ, w, _, .inl rfl, aU.same hr, cB.mono fun _ hb => ⟨.inl hb, rfl⟩⟩
  | assign x =>
    simp only [dU, Op.operands, List.mem_cons, List.not_mem_nil, or_false, forall_eq] at hf cB ⊢; simp only [Option.some.injEq, Prod.mk.injEq] at hf; obtain ⟨rfl, rfl⟩ := hf
    exact ⟨ρ, w, _, .inl rfl, aU.same hr, cB.mono fun _ hb => ⟨.inl hb, rfl⟩⟩
  | pick c a b =>
    simp only [dU, Op.operands, List.mem_cons, List.not_mem_nil, or_false, forall_eq_or_imp, forall_eq] at hf cB ⊢; obtain ⟨e1, e2, e3⟩ := cB; split at hf
    . rename_i hc; simp only [Option.some.injEq, Prod.mk.injEq] at hf; obtain ⟨rfl, rfl⟩ := hf; rw [hc] at e1; refine ⟨ρ, w, kR a, .inl ?_, aU.same hr, e2.mono fun _ hb => ⟨.inl hb, rfl⟩⟩; simp [e1.uU, asBool]
    . rename_i hc; simp only [Option.some.injEq, Prod.mk.injEq] at hf; obtain ⟨rfl, rfl⟩ := hf; rw [hc] at e1; refine ⟨ρ, w, kR b, .inl ?_, aU.same hr, e3.mono fun _ hb => ⟨.inl hb, rfl⟩⟩; simp [e1.uU, asBool]
    cases hf
  | alloc e =>
    simp only [dU] at hf ⊢; split at hf
    . rename_i z hz; obtain ⟨i, hi, hiz⟩ := Option.bind_eq_some_iff.1 hz; split at hf
      . rename_i haz; have := O2 hr hf (.mH haz); refine gQ ?_
        have he : (Instr.alloc e true (.tuple #[])).run P w = ((do pure (.pointer (some (<- newVar e z))) : Sem Value)).run P w := by
          simp only [Instr.alloc, Sem.run_bind, gY e i z hi hiz, Result.andThen_ok]
        rw [he]; exact this
      cases hf
    cases hf
  | box e x =>
    simp only [dU, Op.operands, List.mem_cons, List.not_mem_nil, or_false, forall_eq] at hf cB ⊢
    exact gQ (O2 hr hf cB)
  | build t parts =>
    simp only [dU] at hf ⊢; rw [dU] at cB; have aeM : ∀ p ∈ parts.toList, VR ρ S (ev p.2) (kR p.2) := fun p hp => cB p.2 (by simp only [Op.operands]; exact List.mem_map_of_mem hp); obtain ⟨hc, dI⟩ := aT hf; obtain ⟨lF, hz⟩ := aQ hc; obtain ⟨rG, rfl⟩ := fD dI
    cases WI : (P.info? t).bind (·.zero) with
    | none => rw [WI] at hz; cases hz
    | some z =>
      rw [WI] at hz
      have MY : z.cells.toList.all eD = true := by simpa using hz
      exact jH hr (abB aeM lF WI MY rG w)
  | buildSlice t len parts =>
    simp only [dU] at hf ⊢; rw [dU] at cB; have aeM : ∀ p ∈ parts.toList, VR ρ S (ev p.2) (kR p.2) := fun p hp => cB p.2 (by simp only [Op.operands]; exact List.mem_map_of_mem hp)
    exact gQ (JQ hr aeM hf)
  | load t a =>
    simp only [dU, Op.operands, List.mem_cons, List.not_mem_nil, or_false, forall_eq] at hf cB ⊢; obtain ⟨hg, rfl⟩ := fD hf; clear hf; have hf := hg
    exact jH hr (JM hr hf cB)
  | store t a x =>
    simp only [dU, Op.operands, List.mem_cons, List.not_mem_nil, or_false, forall_eq_or_imp, forall_eq] at hf cB ⊢; obtain ⟨h2, h3, h4⟩ := Option.map_eq_some_iff.1 hf; simp only [Prod.mk.injEq] at h4; obtain ⟨rfl, rfl⟩ := h4; obtain ⟨w', h5, h6⟩ := SD hr h3 cB.1 cB.2
    exact JX h5 h6
  | nilCheck x =>
    simp only [dU, Op.operands, List.mem_cons, List.not_mem_nil, or_false, forall_eq] at hf cB ⊢; split at hf
    . rename_i a hx; simp only [Option.some.injEq, Prod.mk.injEq] at hf; obtain ⟨rfl, rfl⟩ := hf; rw [hx] at cB; obtain ⟨b0, o0, rfl, hs, he⟩ := cB.JN; rw [he]; exact ⟨ρ, w, _, .inl rfl, aU.same hr, (VR.ptr b0 o0 hs).mono fun _ hb => ⟨.inl hb, rfl⟩⟩
    . rename_i f a b hx; simp only [Option.some.injEq, Prod.mk.injEq] at hf; obtain ⟨rfl, rfl⟩ := hf; rw [hx] at cB; obtain ⟨a', c', he, _⟩ := cB.zR; rw [he] at cB ⊢; exact ⟨ρ, w, _, .inl rfl, aU.same hr, cB.mono fun _ hb => ⟨.inl hb, rfl⟩⟩
    cases hf
  | binOp op t x y yt =>
    simp only [dU, Op.operands, List.mem_cons, List.not_mem_nil, or_false, forall_eq_or_imp, forall_eq] at hf cB ⊢; obtain ⟨e1, e2⟩ := cB; split at hf
    . rename_i pV; obtain ⟨a1, a2⟩ := aQ pV; obtain ⟨hg, rfl⟩ := fD hf; clear hf; have hf := hg; rw [e1.dN a1, e2.dN a2]
      cases hp : bX P (do eqGuard op t x y (ev x) (ev y); binOp op t (ev x) (ev y)) with
      | some u =>
        rw [hp] at hf; obtain rfl := Option.some.inj hf; obtain ⟨h1, h2⟩ := q7 hp w
        exact rZ hr h1 (.mH h2)
      | none =>
        rw [hp] at hf; exact aeJ hr hf
    obtain ⟨r, h3, h4⟩ := Option.map_eq_some_iff.1 hf; simp only [Prod.mk.injEq] at h4; obtain ⟨rfl, rfl⟩ := h4
    cases hp : w6 P op t (ev x) (ev y) with
    | some u =>
      rw [hp] at h3; obtain rfl := Option.some.inj h3
      exact rZ hr (ahR e1 e2 hp w) (.mH rfl)
    | none =>
      rw [hp] at h3
      exact rZ hr (aeK e1 e2 h3 w) (.mH rfl)
  | unOp op t x =>
    simp only [dU, Op.operands, List.mem_cons, List.not_mem_nil, or_false, forall_eq] at hf cB ⊢; split at hf
    . rename_i pV; obtain ⟨hg, rfl⟩ := fD hf; clear hf; have hf := hg; rw [cB.dN pV]; obtain ⟨h1, h2⟩ := q7 hf w; exact rZ hr h1 (.mH h2)
    cases hf
  | convert s d x =>
    simp only [dU, Op.operands, List.mem_cons, List.not_mem_nil, or_false, forall_eq] at hf cB ⊢; split at hf
    . rename_i pV; obtain ⟨hg, rfl⟩ := fD hf; clear hf; have hf := hg; rw [cB.dN pV]
      cases hp : bX P (convert s d (ev x)) with
      | some u =>
        rw [hp] at hf; obtain rfl := Option.some.inj hf; obtain ⟨h1, h2⟩ := q7 hp w
        exact rZ hr h1 (.mH h2)
      | none =>
        rw [hp] at hf; exact aeL hr hf
    cases hf
  | makeFunc fn first captured =>
    simp only [dU] at hf ⊢; rw [dU] at cB; simp only [Op.operands, Array.toList_append, List.mem_append] at cB
    cases fn with
    | func f =>
      simp only [Option.some.injEq, Prod.mk.injEq] at hf; obtain ⟨rfl, rfl⟩ := hf
      have l1 : LR ρ S (first.map ev).toList (first.map kR).toList := by
        simp only [Array.toList_map]; exact LR.map _ _ _ fun x hx => cB x (.inl hx)
      have l2 : LR ρ S (captured.map ev).toList (captured.map kR).toList := by
        simp only [Array.toList_map]; exact LR.map _ _ _ fun x hx => cB x (.inr hx)
      have hv : VR ρ S (.func (.func f) (first.map ev) (captured.map ev)) (.func (.func f) (first.map kR) (captured.map kR)) :=
        .func f _ _ _ _ (by simp) (by simpa using l1.2) (by simp) (by simpa using l2.2)
      exact rZ hr rfl hv
    | _ => cases hf
  | makeMap t r =>
    simp only [dU] at hf ⊢
    cases r with
    | none =>
      simp only [Option.some.injEq, Prod.mk.injEq] at hf; obtain ⟨rfl, rfl⟩ := hf
      exact gQ (SS hr t)
    | some r => cases hf
  | makeSlice t l c =>
    simp only [dU, Op.operands, List.mem_cons, List.not_mem_nil, or_false, forall_eq_or_imp, forall_eq] at hf cB ⊢
    exact gQ (MZ hr cB.1 cB.2 hf)
  | slice t x lo hi mx =>
    simp only [dU] at hf ⊢; rw [dU] at cB; simp only [Op.operands, Array.toList_append, List.mem_append] at cB; obtain ⟨hg, rfl⟩ := fD hf; clear hf; have hf := hg; refine jH hr (abE hr (cB x (.inl (.inl (.inl (by simp))))) (OR.of_map fun o ho => ?_) (OR.of_map fun o ho => ?_) (OR.of_map fun o ho => ?_) hf)
    . exact cB o (.inl (.inl (.inr (K0 lo ho rfl))))
    . exact cB o (.inl (.inr (K0 hi ho rfl)))
    exact cB o (.inr (K0 mx ho rfl))
  | fieldAddr s x f =>
    simp only [dU, Op.operands, List.mem_cons, List.not_mem_nil, or_false, forall_eq] at hf cB ⊢; obtain ⟨hg, rfl⟩ := fD hf; clear hf; have hf := hg
    exact jH hr (SH cB hf w)
  | field s x f =>
    simp only [dU, Op.operands, List.mem_cons, List.not_mem_nil, or_false, forall_eq] at hf cB ⊢; obtain ⟨hg, rfl⟩ := fD hf; clear hf; have hf := hg
    exact jH hr (abC cB hf w)
  | indexAddr s x ix =>
    simp only [dU, Op.operands, List.mem_cons, List.not_mem_nil, or_false, forall_eq_or_imp, forall_eq] at hf cB ⊢; split at hf
    . rename_i pV; obtain ⟨hg, rfl⟩ := fD hf; clear hf; have hf := hg; rw [cB.2.dN pV]; exact jH hr (SI cB.1 hf w)
    cases hf
  | index s x ix =>
    simp only [dU, Op.operands, List.mem_cons, List.not_mem_nil, or_false, forall_eq_or_imp, forall_eq] at hf cB ⊢; split at hf
    . rename_i pV; obtain ⟨hg, rfl⟩ := fD hf; clear hf; have hf := hg; rw [cB.2.dN pV]; exact jH hr (abD cB.1 hf w)
    cases hf
  | lookup s x ix ok =>
    simp only [dU, Op.operands, List.mem_cons, List.not_mem_nil, or_false, forall_eq_or_imp, forall_eq] at hf cB ⊢; obtain ⟨hg, rfl⟩ := fD hf; clear hf; have hf := hg
    exact jH hr (WO hr cB.1 cB.2 hf)
  | mapUpdate t m k x =>
    simp only [dU, Op.operands, List.mem_cons, List.not_mem_nil, or_false, forall_eq_or_imp, forall_eq] at hf cB ⊢; obtain ⟨h2, h3, h4⟩ := Option.map_eq_some_iff.1 hf; simp only [Prod.mk.injEq] at h4; obtain ⟨rfl, rfl⟩ := h4; obtain ⟨w', h5, h6⟩ := AU hr cB.1 cB.2.1 cB.2.2 h3
    exact JX h5 h6
  | insert t m k x =>
    simp only [dU, Op.operands, List.mem_cons, List.not_mem_nil, or_false, forall_eq_or_imp, forall_eq] at hf cB ⊢; obtain ⟨h2, h3, h4⟩ := Option.map_eq_some_iff.1 hf; simp only [Prod.mk.injEq] at h4; obtain ⟨rfl, rfl⟩ := h4; obtain ⟨w', h5, h6⟩ := AU hr cB.1 cB.2.1 cB.2.2 h3
    exact JX h5 h6
  | range t x =>
    simp only [dU, Op.operands, List.mem_cons, List.not_mem_nil, or_false, forall_eq] at hf cB ⊢
    exact gQ (abG hr cB hf)
  | next it s =>
    simp only [dU, Op.operands, List.mem_cons, List.not_mem_nil, or_false, forall_eq] at hf cB ⊢
    exact gQ (SU hr cB hf)
  | extract t ix =>
    simp only [dU, Op.operands, List.mem_cons, List.not_mem_nil, or_false, forall_eq] at hf cB ⊢
    cases hj : tQ (ev t) with
    | true => rw [hj] at hf; cases hf
    | false =>
      rw [hj] at hf; simp only [cond_false] at hf; obtain ⟨hg, rfl⟩ := fD hf; clear hf; have hf := hg
      exact jH hr (SG cB (ab8 hj) hf w)
  | call c =>
    simp only [dU] at hf ⊢; rw [dU] at cB; simp only [Op.operands, Call.operands, Array.toList_append, List.mem_append] at cB
    cases hc : c.callee with
    | value f => exact absurd hc (o9 c f dU)
    | invoke r n => rw [hc] at hf; cases hf
    | builtin b =>
      rw [hc] at hf cB; simp only [List.not_mem_nil, false_or] at hf cB
      have sT : ∀ w, (resolve kR c o.type).run P w = .ok { target := .builtin b c.argTypes o.type (c.args.map fun | .const _ => true | _ => false), args := c.args.map kR } w := fun w => by
        unfold resolve; rw [hc]; rfl
      have eZ : ((do let d <- resolve kR c o.type; invoke d.target d.args : Sem Next)).run P w = (builtin b c.argTypes o.type (c.args.map fun | .const _ => true | _ => false) (c.args.map kR)).run P w := by
        simp only [Sem.run_bind, sT, Result.andThen_ok]; rfl
      rw [eZ]
      have hl : LR ρ S (c.args.toList.map ev) (c.args.map kR).toList := by
        rw [Array.toList_map]; exact LR.map _ _ _ fun x hx => cB x hx
      have two : ∀ a b, c.args.toList.map ev = [a, b] -> ∃ a' b', c.args.map kR = #[a', b'] /\ VR ρ S a a' /\ VR ρ S b b' := fun a b he => by
        rw [he] at hl; have h1 := hl.1
        match hm : (c.args.map kR).toList, h1 with
        | [a', b'], _ =>
          rw [hm] at hl; exact ⟨a', b', Array.toList_inj.1 hm, hl.2 0 (by simp), hl.2 1 (by simp)⟩
      have one : ∀ a, c.args.toList.map ev = [a] -> ∃ a', c.args.map kR = #[a'] /\ VR ρ S a a' := fun a he => by
        rw [he] at hl; have h1 := hl.1
        match hm : (c.args.map kR).toList, h1 with
        | [a'], _ =>
          rw [hm] at hl; exact ⟨a', Array.toList_inj.1 hm, hl.2 0 (by simp)⟩
      unfold vY at hf; split at hf
      . rename_i s x he; obtain ⟨s', x', h1, h2, h3⟩ := two _ _ he; rw [h1]; exact gQ (WN hr h2 h3 hf)
      . rename_i s x he; obtain ⟨s', x', h1, h2, h3⟩ := two _ _ he; rw [h1]; exact gQ (aeB hr h2 h3 hf)
      . rename_i x he; obtain ⟨x', h1, h2⟩ := one _ he; rw [h1]
        cases sN : C3 P c.argTypes x h with
        | none => rw [sN] at hf; cases hf
        | some I9 =>
          rw [sN] at hf; simp only [Option.map_some, Option.some.injEq, Prod.mk.injEq] at hf; obtain ⟨rfl, rfl⟩ := hf; exact gQ (abF hr h2 sN)
      . rename_i x he; obtain ⟨x', h1, h2⟩ := one _ he; rw [h1]; obtain ⟨hg, rfl⟩ := fD hf; clear hf; have hf := hg; exact jH hr (ahP hr h2 hf)
      . rename_i x he; obtain ⟨x', h1, h2⟩ := one _ he; rw [h1]; obtain ⟨hg, rfl⟩ := fD hf; clear hf; have hf := hg; exact jH hr (ahQ hr h2 hf)
      . rename_i x he; obtain ⟨x', h1, h2⟩ := one _ he; rw [h1]; obtain ⟨hg, rfl⟩ := fD hf; clear hf; have hf := hg; exact jH hr (N3 h2 hf)
      . rename_i p n he; obtain ⟨p', n', h1, h2, h3⟩ := two _ _ he; rw [h1]; exact gQ (N4 hr h2 h3 hf)
      . split at hf
        . rename_i pV; obtain ⟨hg, rfl⟩ := fD hf; clear hf; have hf := hg; have he : c.args.map kR = (c.args.toList.map ev).toArray := Array.toList_inj.1 (hl.dN pV); rw [he]; obtain ⟨h1, h2⟩ := q7 hf w; exact rZ hr h1 (.mH h2)
        cases hf
      . split at hf
        . rename_i pV; obtain ⟨hg, rfl⟩ := fD hf; clear hf; have hf := hg; have he : c.args.map kR = (c.args.toList.map ev).toArray := Array.toList_inj.1 (hl.dN pV); rw [he]; obtain ⟨h1, h2⟩ := q7 hf w; exact rZ hr h1 (.mH h2)
        cases hf
      cases hf
  | _ => simp only [dU] at hf; cases hf
end Go.Fs
namespace Go.Fs
open Go.RowKit (Below)
variable {P : Program} {ρ bY : Ren} {S S' : Nat -> Prop} {B : Nat} {w0 w w' w1 w2 : World} {h h' h1 h2 : U}
def sU (r : Option Nat) : Fence := { Fence.wide with round := r }
def xM (P : Program) (B : Nat) (w0 : World) (ρ : Ren) (S : Nat -> Prop) (h : U) (w : World) (v : Value) (h' : U) : Ending -> World -> Prop
  | .returned v', w' => ∃ bY, aU P B w0 ρ bY S h h' w w' /\ VR bY (Ext S h h') v v'
  | _, _ => False
def Enters (P : Program) (f : FuncId) : Prop := ∃ fn, P.funcs[f]? = some fn /\ fn.body.isNone = false /\ (fn.name == "runtime.NumGoroutine") = false
def cY (P : Program) (B : Nat) (w0 : World) (call : FuncId -> List Value -> U -> Option (Value × U)) : Prop :=
  ∀ f args h v h', call f args h = some (v, h') -> Enters P f /\ ∀ ρ S w args', HR P ρ S B w0 h w -> LR ρ S args args' -> ∀ n, CallsIn Fence.wide n P f args'.toArray w (xM P B w0 ρ S h w v h')
def lG (P : Program) (B : Nat) (w0 : World) (call : FuncId -> List Value -> U -> Option (Value × U)) : Prop :=
  ∀ f args h v h', call f args h = some (v, h') -> (Enters P f /\ ∀ ρ S w args', HR P ρ S B w0 h w -> LR ρ S args args' -> ∀ n, CallsIn Fence.wide n P f args'.toArray w (xM P B w0 ρ S h w v h')) \/
    ∀ ρ S w args', HR P ρ S B w0 h w -> LR ρ S args args' -> ∃ w' v', (callFunc f args'.toArray).run P w = .ok (.value v') w' /\ xM P B w0 ρ S h w v h' (.returned v') w'
def gE (P : Program) (B : Nat) (w0 : World) (yield : Nat -> List Value -> U -> Option (Value × U)) : Prop :=
  ∀ l args h v h', yield l args h = some (v, h') -> ∀ ρ S w args', HR P ρ S B w0 h w -> LR ρ S args args' -> S l -> ∃ f tmps assign body,
    (Instr.yield (ρ l).block args'.toArray).run P w = .ok (.round (ρ l).block f tmps assign body) w /\ ∀ n, RoundIn Fence.wide n P (ρ l).block f tmps assign body w (xM P B w0 ρ S h w v h')
theorem uH {f : FuncId} (hf : Enters P f) (args : Array Value) (w : World) : (callFunc f args).run P w = .ok (.enter f args) w := by
  obtain ⟨fn, h1, h2, h3⟩ := hf; unfold callFunc; simp only [Sem.run_bind, run_program, Result.andThen_ok, h1, h3, h2, Bool.false_eq_true, if_false, Sem.run_pure]
theorem tU {r : Option Nat} {o : Oper} {a : Act} : ∀ f, o.about P w a.eval = some f -> (sU r).fn f := fun _ _ => trivial
theorem semAt_eq {call : FuncId -> List Value -> U -> Option (Value × U)} {yield : Nat -> List Value -> U -> Option (Value × U)} {o : Oper} {ev kR : Operand -> Value} {r : Option Nat} {x : Value × U}
    (hf : cP P call yield o ev h = some x) : o.semAt r kR = execOp kR o := by
  unfold Oper.semAt; unfold cP at hf
  cases dU : o.op with
  | defer c => rw [dU] at hf; cases hf
  | _ => cases r <;> rfl
theorem PS {call : FuncId -> List Value -> U -> Option (Value × U)} {yield : Nat -> List Value -> U -> Option (Value × U)} (iZ : lG P B w0 call) (pW : gE P B w0 yield)
    {o : Oper} {ev : Operand -> Value} {a : Act} {v : Value} {r : Option Nat} {n : Nat} {next : Act -> World -> Prop} {Q : Exit -> Act -> World -> Prop}
    (hr : HR P ρ S B w0 h w) (cB : ∀ x ∈ o.op.operands.toList, VR ρ S (ev x) (a.eval x)) (hf : cP P call yield o ev h = some (v, h'))
    (k : ∀ bY w' v', aU P B w0 ρ bY S h h' w w' -> VR bY (Ext S h h') v v' -> next (a.put o.dst v') w') : o.wpIn (sU r) n P a w next Q := by
  refine ⟨tU, ?_⟩; rw [show (sU r).round = r from rfl, semAt_eq hf]; by_cases o9 : ∀ c f, o.op = .call c -> c.callee ≠ .value f
  . obtain ⟨bY, w', v', h1, h2, h3⟩ := abH hr cB o9 hf; have := k bY w' v' h2 h3; rcases h1 with h1 | ⟨h1, rfl⟩
    . rw [h1]; exact this
    rw [h1]; exact this
  have am3 : ∃ c f, o.op = .call c /\ c.callee = .value f := Classical.byContradiction fun hx => o9 fun c f h1 h2 => hx ⟨c, f, h1, h2⟩; obtain ⟨c, f, dU, hc⟩ := am3; unfold cP at hf; rw [dU] at hf cB; simp only [hc] at hf; simp only [Op.operands, Call.operands, hc, Array.toList_append, List.mem_append, List.mem_cons, List.not_mem_nil, or_false] at cB
  have l7 : LR ρ S (c.args.toList.map ev) (c.args.map a.eval).toList := by
    rw [Array.toList_map]; exact LR.map _ _ _ fun x hx => cB x (.inr hx)
  have SX := cB f (.inl rfl)
  have eZ : ∀ d : Deferred, (Deferred.ofValue (a.eval f) (c.args.map a.eval)).run P w = .ok d w -> (execOp a.eval o).run P w = (invoke d.target d.args).run P w := fun d hd => by
    unfold execOp; rw [dU]; simp only [Sem.run_bind]
    have : (resolve a.eval c o.type).run P w = .ok d w := by
      unfold resolve; rw [hc]; exact hd
    rw [this]; rfl
  have fin : ∀ e w', xM P B w0 ρ S h w v h' e w' -> (match e, w' with
      | .returned v, w'' => next (a.put o.dst v) w''
      | .panicked chain, w'' => Q (.panic chain) a w''
      | .outgrown, _ => LetsOut Q) := fun e w' he => by
    cases e with
    | returned v' => obtain ⟨bY, h1, h2⟩ := he; exact k bY w' v' h1 h2
    | panicked c => exact he.elim
    | outgrown => exact he.elim
  split at hf
  . rename_i g first captured aeN; rw [aeN] at SX; obtain ⟨f1, c1, hef, sS, nQ⟩ := SX.zR; rw [eZ { target := .fn (.func g) c1, args := f1 ++ c.args.map a.eval } (by rw [hef]; rfl)]; rcases iZ _ _ _ _ _ hf with ⟨aeO, EH⟩ | am4
    case inr =>
      obtain ⟨w', v', e1, e2⟩ := am4 ρ S w ((f1 ++ c.args.map a.eval) ++ c1).toList hr (by simpa using (sS.append l7).append nQ); have hinv : (invoke (.fn (.func g) c1) (f1 ++ c.args.map a.eval)).run P w = .ok (.value v') w' := e1; rw [hinv]; exact fin (.returned v') w' e2
    have hinv : (invoke (.fn (.func g) c1) (f1 ++ c.args.map a.eval)).run P w = .ok (.enter g ((f1 ++ c.args.map a.eval) ++ c1)) w := uH aeO _ w; rw [hinv]; refine ⟨fun hd => (by cases hd), ?_⟩; have h3 := EH ρ S w ((f1 ++ c.args.map a.eval) ++ c1).toList hr (by simpa using (sS.append l7).append nQ) (n - 1); have h4 : CallsIn (sU r) (n - 1) P g ((f1 ++ c.args.map a.eval) ++ c1) w (xM P B w0 ρ S h w v h') := h3; exact h4.mono fin
  . rename_i l aeN; have akC : ev f = .func (.yield l) #[] #[] := aeN; rw [akC] at SX; obtain ⟨hs, hef⟩ := SX.JY; obtain ⟨fn, tmps, assign, body, h3, h4⟩ := pW _ _ _ _ _ hf ρ S w _ hr l7 hs; rw [eZ { target := .fn (.yield (ρ l).block) #[], args := #[] ++ c.args.map a.eval } (by rw [hef]; rfl)]
    have hinv : (invoke (.fn (.yield (ρ l).block) #[]) (#[] ++ c.args.map a.eval)).run P w = .ok (.round (ρ l).block fn tmps assign body) w := by
      have h5 : (c.args.map a.eval).toList.toArray = #[] ++ c.args.map a.eval := by rw [Array.toArray_toList]; simp
      rw [h5] at h3; exact h3
    rw [hinv]; refine ⟨fun hd => (by cases hd), ?_⟩; have h6 : RoundIn (sU r) (n - 1) P (ρ l).block fn tmps assign body w (xM P B w0 ρ S h w v h') := h4 (n - 1); exact h6.mono fin
  cases hf
theorem abI {s e : TypeId} {b n : Nat} {e' : TypeId} {cs : List Value} {x' : Value} (hr : HR P ρ S B w0 h w) (hx : VR ρ S (.slice (some ⟨b, 0, none⟩) n 0) x') (hu : P.underlying s = some (.slice e)) (he : P.underlying e = some (.int .u8)) (hg : h.get b = some (.row e' cs true false)) :
    p6 P B w0 ρ S h w (.slice (some ⟨h.next, 0, none⟩) n 0) ((h.drop b).push (.row e' cs true false)) ((convert s s x').run P w) := by
  obtain ⟨A, c, rfl, hnc, _, _, JT⟩ := hx.iY; have jX : b ≠ 0 := (hr.ids b (hr.aA b _ hg).1).2; obtain ⟨hS, rfl, nP⟩ := JT jX; have nP := nP rfl; obtain ⟨_, cur, h1, h2, h3, h4, h5, h6, h7⟩ := hr.aA b _ hg
  have rF : (ρ b).at 0 = ⟨(ρ b).block, 0, none⟩ := by unfold Loc.at; rw [h2]
  have WR : w.shape? (ρ b).block = some (e', cur.length) := by simp [World.shape?, h1]
  let f : Nat × Nat := if (ρ b).fz.1 == (ρ b).fz.2 then (cur.length, cur.length + 1) else (min (ρ b).fz.1 cur.length, max (ρ b).fz.2 (cur.length + 1))
  have hf : f.1 = f.2 \/ cur.length <= f.1 := by
    right; show cur.length <= (if (ρ b).fz.1 == (ρ b).fz.2 then (cur.length, cur.length + 1) else (min (ρ b).fz.1 cur.length, max (ρ b).fz.2 (cur.length + 1))).1; have := (ρ b).hfz; split
    . exact Nat.le_refl _
    rename_i cA
    have cA : ¬ (ρ b).fz.1 = (ρ b).fz.2 := by simpa using cA
    show cur.length <= min (ρ b).fz.1 cur.length; omega
  have hw : ∀ k : Nat, (w.freeze ⟨(ρ b).block, cur.length, none⟩ 1).heap[k]? = if k = (ρ b).block then some (.cells cur.toArray e' f) else w.heap[k]? := fun k => by
    unfold World.freeze; rw [if_neg (by decide)]; simp only [Array.getElem?_modify]; by_cases hk : k = (ρ b).block
    . subst hk; rw [if_pos rfl, if_pos rfl, h1]; rfl
    rw [if_neg (fun e0 => hk e0.symm), if_neg hk]
  refine ⟨ρ.put h.next ⟨(ρ b).block, 0, cur.length, P.cellsOf e', f, hf⟩, w.freeze ⟨(ρ b).block, cur.length, none⟩ 1, .slice (some ⟨(ρ b).block, 0, none⟩) n c, ?_, ?_, ?_⟩
  . rw [rF]; simp [convert, run_underlying hu, run_underlying he, markStringish, WR]
  . refine aU.replace hr hg rfl rfl ⟨(ρ b).block, 0, cur.length, P.cellsOf e', f, hf⟩ (.inl rfl) (hr.base b _ hg rfl) ?_ ?_ ?_ ?_ (fun k _ hk => by rw [hw, if_neg hk]) ⟨cur, by rw [hw]; exact if_pos rfl, rfl, rfl, rfl, h5, h6, fun i hi => (h7 i hi).mono (hr.qQ _ (.row e' cs true false))⟩ ?_
    all_goals (unfold World.freeze; rw [if_neg (by decide)])
    . simp
    exact Nat.le_refl _
  refine q6 hr.pos n c ⟨(ρ b).block, 0, cur.length, P.cellsOf e', f, hf⟩ rfl hnc ?_ _ (Ext.lL (.row e' cs true false)); show c * P.cellsOf e' = cur.length; rw [<- h4, <- h3]; omega
theorem ahS {call : FuncId -> List Value -> U -> Option (Value × U)} {yield : Nat -> List Value -> U -> Option (Value × U)} (iZ : lG P B w0 call) (pW : gE P B w0 yield)
    {o : Oper} {ev : Operand -> Value} {a : Act} {v : Value} {r : Option Nat} {n : Nat} {next : Act -> World -> Prop} {Q : Exit -> Act -> World -> Prop}
    (hr : HR P ρ S B w0 h w) (cB : ∀ x ∈ o.op.operands.toList, VR ρ S (ev x) (a.eval x)) (hf : sM P call yield o ev h = some (v, h'))
    (k : ∀ bY w' v', aU P B w0 ρ bY S h h' w w' -> VR bY (Ext S h h') v v' -> next (a.put o.dst v') w') : o.wpIn (sU r) n P a w next Q := by
  unfold sM at hf; split at hf
  . rename_i x hx; obtain rfl := Option.some.inj hf; exact PS iZ pW hr cB hx k
  rename_i aoD; unfold C5 at hf; split at hf
  . rename_i s d x dU; split at hf
    . rename_i b m am5; split at hf
      . rename_i e hu; split at hf
        . rename_i he; split at hf
          . rename_i e' cs hg; obtain ⟨hc, hq⟩ := aT hf; obtain ⟨hc, _⟩ := aQ hc; obtain ⟨hc, _⟩ := aQ hc; obtain rfl := bV hc; have hq := Prod.mk.inj (Option.some.inj hq); obtain ⟨rfl, rfl⟩ := hq; refine ⟨tU, ?_⟩; rw [show (sU r).round = r from rfl, show o.semAt r a.eval = execOp a.eval o by unfold Oper.semAt; rw [dU]; cases r <;> rfl]; have hx : VR ρ S (ev x) (a.eval x) := cB x (by rw [dU]; simp [Op.operands]); rw [am5] at hx; obtain ⟨bY, w', v', h1, h2, h3⟩ := abI hr hx hu he hg; unfold execOp; rw [dU]; simp only [Sem.run_bind, h1, Result.andThen_ok, Sem.run_pure]; exact k bY w' v' h2 h3
          cases hf
        cases hf
      cases hf
    cases hf
  cases hf
end Go.Fs
namespace Go.Fs
open Go.RowKit (Below)
variable {P : Program} {ρ bY : Ren} {S S' : Nat -> Prop} {B : Nat} {w0 w w' w1 w2 : World} {h h' h1 h2 : U}
theorem Ext.trans' {b : Nat} (n1 : h.next <= h1.next) (n2 : h1.next <= h2.next) (he : Ext (Ext S h h1) h1 h2 b) : Ext S h h2 b := by
  rcases he with (he | he) | he
  . exact .inl he
  . exact .inr (by omega)
  exact .inr (by omega)
theorem put_defers (a : Act) (dst : Option Tmp) (v : Value) : (a.put dst v).defers = a.defers := by
  cases dst <;> rfl
theorem K3 {ops : Array Oper} {t : Tr} {tmps : Array Value} {o : Oper} {b : Bool}
    (hg : ∀ j want d, o.guard = some (j, want) -> (ops[j]?).bind (·.dst) = some d -> VR ρ S (t.get d) (tmps.toList.getD d undef)) (hf : bL ops t o = some b) :
    Region.wanted o (yielded ops tmps) = b := by
  unfold bL at hf; unfold Region.wanted; split at hf
  . rename_i hn; rw [hn]; simpa using hf
  rename_i j want hn; rw [hn]; simp only; unfold yielded; split at hf
  . rename_i hd; rw [hd]; simpa using hf
  rename_i d hd; have hv := hg j want d hn hd; rw [hd]; simp only [Option.bind_some]
  have ht : tmps.toList.getD d undef = (tmps[d]?).getD undef := by
    rw [List.getD_eq_getElem?_getD, Array.getElem?_toList]
  rw [ht] at hv; split at hf
  . rename_i b0 jX; simp only [Option.some.injEq] at hf; subst hf; rw [jX] at hv; have h1 := hv.uU
    cases hx : tmps[d]? with
    | none => rw [hx] at h1; cases h1
    | some v =>
      rw [hx] at h1; simp only [Option.getD_some] at h1; subst h1; cases b0 <;> cases want <;> rfl
  . rename_i jX; simp only [Option.some.injEq] at hf; subst hf; have AK : t.get d = .tuple #[] := jX; rw [AK] at hv; obtain ⟨cs, h1, h2⟩ := hv.JL (by simp [j9])
    have h3 : cs = #[] := by
      have := h2.1; apply Array.toList_inj.1; exact List.eq_nil_of_length_eq_zero (by simpa using this.symm)
    subst h3
    cases hx : tmps[d]? with
    | none => rfl
    | some v =>
      rw [hx] at h1; simp only [Option.getD_some] at h1; subst h1; rfl
  cases hf
theorem PT {step : Oper -> (Operand -> Value) -> U -> Option (Value × U)} {call : FuncId -> List Value -> U -> Option (Value × U)} {yield : Nat -> List Value -> U -> Option (Value × U)}
    (bT : step = sM P call yield) (iZ : lG P B w0 call) (pW : gE P B w0 yield) {ops : Array Oper} {r : Option Nat} {m n : Nat} {Q : Exit -> Act -> World -> Prop} {t' : Tr} :
    ∀ (l : List Oper) (idxs : List Nat) (ρ : Ren) (S : Nat -> Prop) (w : World) (a : Act) (t : Tr) (h : U), idxs.map (ops[·]?) = l.map some -> HR P ρ S B w0 h w -> lE ρ S t m a.tmps ->
      oZ step ops m l t h = some (t', h') ->
      (∀ bY w' a', aU P B w0 ρ bY S h h' w w' -> lE bY (Ext S h h') t' m a'.tmps -> a'.defers = a.defers -> Q .normal a' w') -> wpOpsIn (sU r) n P ops Q idxs a w
  | [], [], ρ, S, w, a, t, h, _, hr, ht, hf, k => by
    simp only [oZ, Option.some.injEq, Prod.mk.injEq] at hf; obtain ⟨rfl, rfl⟩ := hf
    exact k ρ w a (aU.same hr) (ht.mono fun _ hb => ⟨.inl hb, rfl⟩) rfl
  | [], _ :: _, _, _, _, _, _, _, hi, _, _, _, _ => by simp at hi
  | _ :: _, [], _, _, _, _, _, _, hi, _, _, _, _ => by simp at hi
  | o :: l, i :: idxs, ρ, S, w, a, t, h, hi, hr, ht, hf, k => by
    simp only [List.map_cons, List.cons.injEq] at hi; obtain ⟨ho, hi⟩ := hi; simp only [oZ] at hf; have hw : ∀ b, bL ops t o = some b -> Region.wanted o (yielded ops a.tmps) = b := fun b hb => K3 (fun _ _ d _ _ => ht.2.2 d) hb; simp only [wpOpsIn, ho]; split at hf
    . rename_i xV; rw [if_pos (hw _ xV)]; split at hf
      . rename_i v h1 hs; split at hf
        . rename_i t1 hp; subst bT; refine ahS iZ pW hr (fun x _ => ht.eval a.defers x) hs fun cS w1 v1 m1 hv => ?_; have CK : lE cS (Ext S h h1) t1 m (a.put o.dst v1).tmps := lE.put (ht.mono fun b hb => ⟨.inl hb, m1.agree b hb⟩) hp hv a.defers; refine PT rfl iZ pW l idxs cS _ w1 _ t1 h1 hi m1.hr CK hf fun j3 w2 a2 m2 ht2 hd => ?_; exact k j3 w2 a2 (m1.trans m2) (ht2.mono fun b hb => ⟨Ext.trans' m1.next m2.next hb, rfl⟩) (hd.trans (put_defers _ _ _))
        cases hf
      cases hf
    . rename_i xV; rw [if_neg (by rw [hw _ xV]; simp)]; refine ⟨tU, ?_⟩; split at hf
      . rename_i t1 hp; have CK : lE ρ S t1 m (a.put o.dst undef).tmps := lE.put ht hp VR.undef a.defers; refine PT bT iZ pW l idxs ρ _ w _ t1 h hi hr CK hf fun j3 w2 a2 m2 ht2 hd => ?_; exact k j3 w2 a2 m2 ht2 (hd.trans (put_defers _ _ _))
      cases hf
    cases hf
theorem WS {ops : Array Oper} : (List.range ops.size).map (ops[·]?) = ops.toList.map some := by
  refine List.ext_getElem? fun i => ?_; by_cases hi : i < ops.size
  . simp [hi]
  simp [hi]
end Go.Fs
namespace Go.Fs
open Go.RowKit (Below)
variable {P : Program} {ρ bY : Ren} {S S' : Nat -> Prop} {B : Nat} {w0 w w' w1 w2 : World} {h h' h1 h2 : U}
inductive BC (ops : Array Oper) : (Nat -> Bool) -> List Nat -> Prop
  | nil (E : Nat -> Bool) (h : ∀ i, i < ops.size -> E i = true) : BC ops E []
  | cons (E : Nat -> Bool) (i : Nat) (o : Oper) (l : List Nat) (ho : ops[i]? = some o) (hE : E i = false) (he : ∀ e ∈ o.after.toList, Region.binds .any e = true -> E e.on = true)
      (h : BC ops (fun j => E j || j == i) l) : BC ops E (i :: l)
def nR (ops : Array Oper) : Prop := ∀ (i : Nat) (o : Oper), ops[i]? = some o -> ∀ e ∈ o.after.toList, Region.binds .any e = true -> e.on < i
def unl (ops : Array Oper) (listed : Array Bool) : Nat := ((List.range ops.size).filter fun i => !listed.getD i true).length
theorem GS {l : Array Bool} {i j : Nat} (b : Bool) (SY : i ≠ j) : (l.setIfInBounds i true).getD j b = l.getD j b := by
  simp [Array.getD_eq_getD_getElem?, Array.getElem?_setIfInBounds, SY]
theorem BD {l : Array Bool} {i : Nat} (b : Bool) (hi : i < l.size) : (l.setIfInBounds i true).getD i b = true := by
  simp [Array.getD_eq_getD_getElem?, Array.getElem?_setIfInBounds, hi]
theorem filter_lt {α : Type} (p q : α -> Bool) : ∀ (l : List α) (x : α), x ∈ l -> p x = true -> q x = false -> (∀ y, q y = true -> p y = true) -> (l.filter q).length < (l.filter p).length
  | [], _, hx, _, _, _ => by cases hx
  | y :: l, x, hx, hp, hq, hle => by
    have le : ∀ l : List α, (l.filter q).length <= (l.filter p).length := fun l => by
      induction l with
      | nil => simp
      | cons z l ih =>
        simp only [List.filter_cons]
        cases hz : q z with
        | true => simp [hle z hz]; omega
        | false => cases p z <;> simp <;> omega
    rcases List.mem_cons.1 hx with rfl | hx
    . simp [hp, hq]; have := le l; omega
    have ih := filter_lt p q l x hx hp hq hle; simp only [List.filter_cons]
    cases hz : q y with
    | true => simp [hle y hz]; omega
    | false => cases p y <;> simp <;> omega
theorem abJ {ops : Array Oper} (nS : nR ops) : ∀ (fuel t : Nat) (listed : Array Bool), listed.size = ops.size -> unl ops listed <= fuel ->
    BC ops (fun j => listed.getD j false) (Region.linearise.go .any ops fuel t listed []) := by
  have all : ∀ listed : Array Bool, listed.size = ops.size -> Region.ready .any ops listed = [] -> ∀ i, i < ops.size -> listed.getD i false = true := fun listed hs hr i => by
    induction i using Nat.strongRecOn with
    | ind i ih =>
      intro hi
      cases hl : listed.getD i false with
      | true => rfl
      | false =>
        have K4 : i ∈ Region.ready .any ops listed := by
          unfold Region.ready; rw [List.mem_filter]; refine ⟨List.mem_range.2 hi, ?_⟩
          have h1 : listed.getD i true = false := by
            have bO : i < listed.size := by omega
            simp [bO] at hl ⊢; exact hl
          rw [h1]; simp only [Array.getElem?_eq_getElem hi, Option.map_some, Option.getD_some, Bool.not_false, Bool.true_and]; rw [Array.all_eq_true_iff_forall_mem]; intro e he
          cases hb : Region.binds .any e with
          | false => rfl
          | true =>
            have bO := nS i ops[i] (Array.getElem?_eq_getElem hi) e (by simpa using he) hb; simp [ih e.on bO (by omega)]
        rw [hr] at K4; cases K4
  intro fuel
  induction fuel with
  | zero =>
    intro t listed hs hu; refine .nil _ fun i hi => ?_
    have h0 : unl ops listed = 0 := by omega
    unfold unl at h0; have h1 := List.filter_eq_nil_iff.1 (List.eq_nil_of_length_eq_zero h0) i (List.mem_range.2 hi)
    have bO : i < listed.size := by omega
    simp [bO] at h1 ⊢
    exact h1
  | succ fuel ih =>
    intro t listed hs hu; simp only [Region.linearise.go]
    change BC ops _ (match (Region.ready .any ops listed)[t % (Region.ready .any ops listed).length]? with
      | some i => Region.linearise.go .any ops fuel (t / (Region.ready .any ops listed).length) (listed.setIfInBounds i true) [i]
      | none => [].reverse)
    cases hi : (Region.ready .any ops listed)[t % (Region.ready .any ops listed).length]? with
    | none =>
      have SZ : Region.ready .any ops listed = [] := by
        cases hr : Region.ready .any ops listed with
        | nil => rfl
        | cons x xs =>
          rw [hr] at hi; have bO : t % (x :: xs).length < (x :: xs).length := Nat.mod_lt _ (by simp); simp at hi; simp at bO; omega
      exact .nil _ fun i hi => all listed hs SZ i hi
    | some i =>
      simp only []; rw [linearise_go_acc, List.reverse_singleton, List.singleton_append]; have K4 := List.mem_of_getElem? hi; unfold Region.ready at K4; obtain ⟨h1, h2⟩ := List.mem_filter.1 K4; have bO := List.mem_range.1 h1; simp only [Array.getElem?_eq_getElem bO, Option.map_some, Option.getD_some, Bool.and_eq_true, Bool.not_eq_true'] at h2; obtain ⟨h3, h4⟩ := h2
      have ZX : i < listed.size := by omega
      have h5 : listed.getD i false = false := by simp [ZX] at h3 ⊢; exact h3
      have he : (fun j => (listed.setIfInBounds i true).getD j false) = fun j => listed.getD j false || j == i := by
        funext j; by_cases hj : i = j
        . subst hj; rw [BD false ZX]; simp
        rw [GS false hj]
        have : (j == i) = false := by simpa using Ne.symm hj
        rw [this, Bool.or_false]
      refine .cons _ i ops[i] _ (Array.getElem?_eq_getElem bO) h5 (fun e he hb => ?_) ?_
      . have := Array.all_eq_true_iff_forall_mem.1 h4 e (by simpa using he); simpa [hb] using this
      rw [<- he]; refine ih _ _ (by simpa using hs) ?_
      have : unl ops (listed.setIfInBounds i true) < unl ops listed := by
        refine filter_lt _ _ _ i h1 (by rw [h3]; rfl) (by rw [BD true ZX]; rfl) fun y hy => ?_; by_cases hj : i = y
        . subst hj; rw [BD true ZX] at hy; cases hy
        rwa [GS true hj] at hy
      omega
theorem WT {ops : Array Oper} (nS : nR ops) (t : Nat) : BC ops (fun _ => false) (Region.schedule true ops t) := by
  have h1 := abJ nS ops.size t (Array.replicate ops.size false) (by simp) (by
    unfold unl
    exact Nat.le_trans (List.length_filter_le _ _) (by simp))
  have he : (fun j => (Array.replicate ops.size false).getD j false) = fun _ => false := by
    funext j; simp [Array.getD_eq_getD_getElem?, Array.getElem?_replicate]; split <;> rfl
  rw [he] at h1; simpa [Region.schedule, Region.linearise] using h1
structure tV (P : Program) (B : Nat) (w0 : World) (ρ bY : Ren) (S S' : Nat -> Prop) (h h' : U) (L : Nat) (w w' : World) : Prop where
  agree : ∀ b, S b -> bY b = ρ b
  sub : ∀ b, S b -> S' b
  hr : HR P bY S' B w0 h' w'
  frame : Frame ρ h w w'
  aV : ∀ i, S i -> i < L -> h'.get i = h.get i
  old : ∀ i o, h'.get i = some o -> S i -> ∃ o', h.get i = some o' /\ iF o' = iF o
  fresh : ∀ i o, h'.get i = some o -> ¬ S i -> iF o = true /\ (w.heap.size <= (bY i).block \/ ∃ j oj, h.get j = some oj /\ iF oj = true /\ (ρ j).block = (bY i).block /\ L <= j)
theorem tV.trans {S1 S2 : Nat -> Prop} {cS j3 : Ren} {L : Nat} (m : tV P B w0 ρ cS S S1 h h1 L w w1) (k : tV P B w0 cS j3 S1 S2 h1 h2 L w1 w2) : tV P B w0 ρ j3 S S2 h h2 L w w2 where
  agree := fun b hb => (k.agree b (m.sub b hb)).trans (m.agree b hb)
  sub := fun b hb => k.sub b (m.sub b hb)
  hr := k.hr
  frame := by
    refine ⟨k.frame.os.trans m.frame.os, k.frame.tape.trans m.frame.tape, k.frame.output.trans m.frame.output, Nat.le_trans m.frame.size k.frame.size, fun b hb o9 => ?_⟩; rw [k.frame.block b (Nat.lt_of_lt_of_le hb m.frame.size) ?_, m.frame.block b hb o9]; intro i o hi ho he; by_cases hS : S i
    . obtain ⟨o', kQ, oA⟩ := m.old i o hi hS; rw [m.agree i hS] at he; exact o9 i o' kQ (oA.trans ho) he
    obtain ⟨_, hf⟩ := m.fresh i o hi hS; rcases hf with hf | ⟨j, oj, hj, lQ, EK, _⟩
    . omega
    exact o9 j oj hj lQ (EK.trans he)
  aV := fun i hi hl => (k.aV i (m.sub i hi) hl).trans (m.aV i hi hl)
  old := fun i o ho hi => by
    obtain ⟨o1, h1, h2⟩ := k.old i o ho (m.sub i hi); obtain ⟨o2, h3, h4⟩ := m.old i o1 h1 hi; exact ⟨o2, h3, h4.trans h2⟩
  fresh := fun i o ho hi => by
    by_cases PU : S1 i
    . obtain ⟨o1, h3, h4⟩ := k.old i o ho PU; obtain ⟨h5, hf⟩ := m.fresh i o1 h3 hi; refine ⟨h4 ▸ h5, ?_⟩; rw [k.agree i PU]; exact hf
    obtain ⟨h5, hf⟩ := k.fresh i o ho PU; refine ⟨h5, ?_⟩; rcases hf with hf | ⟨j, oj, hj, lQ, EK, hlj⟩
    . exact .inl (Nat.le_trans m.frame.size hf)
    by_cases hjS : S j
    . obtain ⟨o2, h6, h7⟩ := m.old j oj hj hjS; rw [m.agree j hjS] at EK; exact .inr ⟨j, o2, h6, h7.trans lQ, EK, hlj⟩
    obtain ⟨_, WD⟩ := m.fresh j oj hj hjS; rcases WD with WD | ⟨j', oj', PJ, ae6, ae7, aj8⟩
    . exact .inl (by omega)
    exact .inr ⟨j', oj', PJ, ae6, ae7.trans EK, aj8⟩
open Classical in
noncomputable def glue (S : Nat -> Prop) (ρ cS : Ren) : Ren := fun b => if S b then ρ b else cS b
theorem jN {cS : Ren} {b : Nat} (hb : S b) : glue S ρ cS b = ρ b := by unfold glue; rw [if_pos hb]
theorem sF {cS : Ren} {b : Nat} (hb : ¬ S b) : glue S ρ cS b = cS b := by unfold glue; rw [if_neg hb]
theorem CL {S1 S2 : Nat -> Prop} {cS : Ren} {H H2 hm : U} {L : Nat} (hr : HR P ρ S B w0 H w) (CF : ∀ b, S1 b -> S b) (gL : ∀ b o, hm.get b = some o -> H.get b = some o)
    (sV : HR P ρ S1 B w0 hm w) (m : aU P B w0 ρ cS S1 hm h1 w w1) (jB : ∀ b, hm.next <= b -> b < h1.next -> ¬ S b) (N5 : ∀ b, S2 b ↔ S b \/ (hm.next <= b /\ b < h1.next))
    (am6 : ∀ b, S2 b -> b < H2.next) (oM : 0 < H2.next) (hL : ∀ b o, ¬ S b -> H2.get b = some o -> L <= h1.low)
    (ha : ∀ b o, S b -> H2.get b = some o -> (hm.get b ≠ none /\ h1.get b = some o) \/ (hm.get b = none /\ H.get b = some o))
    (hb : ∀ b o, ¬ S b -> H2.get b = some o -> (hm.next <= b /\ b < h1.next) /\ h1.get b = some o) (hc : ∀ b, S b -> b < L -> H2.get b = H.get b) :
    tV P B w0 ρ (glue S ρ cS) S S2 H H2 L w w1 := by
  have gl : ∀ b, Ext S1 hm h1 b -> S2 b /\ glue S ρ cS b = cS b := fun b PW => by
    rcases PW with PW | PW
    . exact ⟨(N5 b).2 (.inl (CF b PW)), by rw [jN (CF b PW), m.agree b PW]⟩
    exact ⟨(N5 b).2 (.inr PW), sF (jB b PW.1 PW.2)⟩
  have ajA : ∀ b, hm.get b ≠ none -> S1 b := fun b hbn => by
    cases hg : hm.get b with
    | none => exact absurd hg hbn
    | some o => exact (sV.aA b o hg).1
  -- an object is one of the part, or lies beside it
  have cls : ∀ b o, H2.get b = some o -> (h1.get b = some o /\ Ext S1 hm h1 b /\ glue S ρ cS b = cS b) \/ (hm.get b = none /\ H.get b = some o /\ S b /\ glue S ρ cS b = ρ b) := fun b o hg => by
    by_cases hS : S b
    . rcases ha b o hS hg with ⟨h3, h4⟩ | ⟨h3, h4⟩
      . have this : Ext S1 hm h1 b := .inl (ajA b h3); exact .inl ⟨h4, this, (gl b this).2⟩
      exact .inr ⟨h3, h4, hS, jN hS⟩
    obtain ⟨h3, h4⟩ := hb b o hS hg; exact .inl ⟨h4, .inr h3, sF hS⟩
  have beside : ∀ b o, hm.get b = none -> H.get b = some o -> w1.heap[(ρ b).block]? = w.heap[(ρ b).block]? := fun b o hn hg => by
    refine m.frame.block _ ?_ fun j oj hj lQ he => ?_
    . by_cases kV : iF o = true
      . exact (hr.aA b o hg).2.lt kV
      have := hr.ro b o hg (by simpa using kV); have := hr.size; omega
    by_cases kV : iF o = true
    . have := hr.inj j b oj o (gL j oj hj) hg lQ kV he; subst this; rw [hj] at hn; cases hn
    have h3 := hr.ro b o hg (by simpa using kV); have h4 := hr.base j oj (gL j oj hj) lQ; omega
  have mixed : ∀ i j oi oj, h1.get i = some oi -> Ext S1 hm h1 i -> iF oi = true -> hm.get j = none -> H.get j = some oj -> iF oj = true -> (cS i).block = (ρ j).block -> False := fun i j oi oj hi hxi uE hn hj lQ he => by
    by_cases bO : i < hm.next
    . obtain ⟨o', h3, h4⟩ := m.old i oi hi bO; have hSi := (sV.aA i o' h3).1; rw [m.agree i hSi] at he; have := hr.inj i j o' oj (gL i o' h3) hj (h4.trans uE) lQ he; subst this; rw [h3] at hn; cases hn
    obtain ⟨_, hf⟩ := m.fresh i oi hi (by omega); have nH := (hr.aA j oj hj).2.lt lQ; rcases hf with hf | ⟨j', oj', h3, h4, h5, _⟩
    . omega
    have := hr.inj j' j oj' oj (gL j' oj' h3) hj h4 lQ (h5.trans he); subst this; rw [h3] at hn; cases hn
  exact {
    agree := fun b uI => jN uI
    sub := fun b uI => (N5 b).2 (.inl uI)
    hr := {
      aA := fun i o hi => by
        rcases cls i o hi with ⟨h3, h4, h5⟩ | ⟨h3, h4, h5, h6⟩
        . refine ⟨(gl i h4).1, ?_⟩; rw [h5]; exact (m.hr.aA i o h3).2.mono gl
        refine ⟨(N5 i).2 (.inl h5), ?_⟩; rw [h6]; exact ((hr.aA i o h4).2.mono fun b uI => ⟨(N5 b).2 (.inl uI), jN uI⟩).world (beside i o h3 h4)
      inj := fun i j oi oj hi hj uE lQ he => by
        rcases cls i oi hi with ⟨h3, h4, h5⟩ | ⟨h3, h4, h5, h6⟩ <;> rcases cls j oj hj with ⟨k3, k4, k5⟩ | ⟨k3, k4, k5, k6⟩
        . rw [h5, k5] at he; exact m.hr.inj i j oi oj h3 k3 uE lQ he
        . rw [h5, k6] at he; exact (mixed i j oi oj h3 h4 uE k3 k4 lQ he).elim
        . rw [h6, k5] at he; exact (mixed j i oj oi k3 k4 lQ h3 h4 uE he.symm).elim
        rw [h6, k6] at he; exact hr.inj i j oi oj h4 k4 uE lQ he
      base := fun i o hi ho => by
        rcases cls i o hi with ⟨h3, h4, h5⟩ | ⟨h3, h4, h5, h6⟩
        . rw [h5]; exact m.hr.base i o h3 ho
        rw [h6]; exact hr.base i o h4 ho
      ro := fun i o hi ho => by
        rcases cls i o hi with ⟨h3, h4, h5⟩ | ⟨h3, h4, h5, h6⟩
        . rw [h5]; exact m.hr.ro i o h3 ho
        rw [h6]; exact hr.ro i o h4 ho
      ids := fun b uI => by
        refine ⟨am6 b uI, ?_⟩; rcases (N5 b).1 uI with h3 | h3
        . exact (hr.ids b h3).2
        have := sV.pos; omega
      pos := oM
      below := m.hr.below
      drawn := m.hr.drawn
      size := m.hr.size }
    frame := ⟨m.frame.os, m.frame.tape, m.frame.output, m.frame.size, fun k hk o9 => m.frame.block k hk fun i o hi ho => o9 i o (gL i o hi) ho⟩
    aV := hc
    old := fun i o hi hS => by
      rcases ha i o hS hi with ⟨h3, h4⟩ | ⟨h3, h4⟩
      . have h5 := ajA i h3; obtain ⟨o', h6, h7⟩ := m.old i o h4 (sV.ids i h5).1; exact ⟨o', gL i o' h6, h7⟩
      exact ⟨o, h4, rfl⟩
    fresh := fun i o hi hS => by
      obtain ⟨h3, h4⟩ := hb i o hS hi; obtain ⟨h5, hf⟩ := m.fresh i o h4 h3.1; refine ⟨h5, ?_⟩; rw [sF hS]; rcases hf with hf | ⟨j, oj, h6, h7, h8, h9, _⟩
      . exact .inl hf
      exact .inr ⟨j, oj, gL j oj h6, h7, h8, Nat.le_trans (hL i o hS hi) h9⟩ }
theorem VR.yI {v v0 v1 : Value} {cS : Ren} {S1 : Nat -> Prop} (h : VR ρ S v v0) (k : VR cS S1 v v1) (fW : ∀ b, S b -> cS b = ρ b) : VR ρ S v v1 := by
  induction h generalizing v1 with
  | lit h => rw [k.gP h]; exact .lit h
  | j9 v => exact .j9 _
  | nan q b hb =>
    obtain ⟨b', rfl, h2⟩ := k.uC (k := q) rfl
    exact .nan q b' (h2 rfl)
  | ptr b o hs =>
    obtain ⟨_, rfl⟩ := k.p7
    rw [fW b hs]; exact .ptr b o hs
  | slice b o n m c A hn hm h0 hb =>
    obtain ⟨A', c', rfl, h1, h2, h3, h4⟩ := k.iY; refine .slice b o n m c' A' h1 h2 h3 fun jX => ?_; obtain ⟨h5, _, _⟩ := hb jX; obtain ⟨_, h6, h7⟩ := h4 jX; rw [fW b h5] at h6 h7
    exact ⟨h5, h6, h7⟩
  | map b hs =>
    obtain ⟨_, rfl⟩ := k.y9
    rw [fW b hs]; exact .map b hs
  | agg cs cs' hl _ ih =>
    obtain ⟨c1, rfl, h1⟩ := k.JK
    exact .agg cs c1 (by simpa using h1.1) fun i hi => ih i hi (h1.2 i (by simpa using hi))
  | tuple cs cs' hl _ ih =>
    cases k with
    | lit h => simp [eD] at h
    | j9 => exact .j9 _
    | tuple _ c1 sS h1 => exact .tuple cs c1 sS fun i hi => ih i hi (h1 i hi)
  | func f a a' c c' ha _ hc _ ihA ihC =>
    obtain ⟨a1, c1, rfl, h1, h2⟩ := k.zR
    exact .func f a a1 c c1 (by simpa using h1.1) (fun i hi => ihA i hi (h1.2 i (by simpa using hi))) (by simpa using h2.1) (fun i hi => ihC i hi (h2.2 i (by simpa using hi)))
  | yield l hs =>
    obtain ⟨_, rfl⟩ := k.JY; rw [fW l hs]; exact .yield l hs
theorem kU.yI {l : Loc} {o : bC} {cS : Ren} {S1 : Nat -> Prop} (h : kU P ρ S l w o) (k : kU P cS S1 l w1 o) (fW : ∀ b, S b -> cS b = ρ b) : kU P ρ S l w1 o := by
  match o, h, k with
  | .row e cs true more, ⟨aoR, _, _, _, _, _, _, g7⟩, ⟨cur, h1, h2, h3, h4, h5, h6, h7⟩ => exact ⟨cur, h1, h2, h3, h4, h5, h6, fun i hi => (g7 i hi).yI (h7 i hi) fW⟩
  | .row e cs false more, hg, hk => exact ⟨hk.1, fun i hi => let ⟨v, h1, h2⟩ := hk.2 i hi; let ⟨v0, _, g2⟩ := hg.2 i hi; ⟨v, h1, g2.yI h2 fW⟩⟩
  | .oI es clock, ⟨es0, g1, g2, g3⟩, ⟨fH, h1, h2, h3⟩ =>
    refine ⟨fH, h1, h2, fun i e e' he lP => ?_⟩; obtain ⟨a, b, c, d⟩ := h3 i e e' he lP
    have bO : i < es0.length := by have := (List.getElem?_eq_some_iff.1 he).1; omega
    exact ⟨a, b, c, (g3 i e es0[i] he (List.getElem?_eq_getElem bO)).2.2.2.yI d fW⟩
  | .iter s pos, _, hk => exact hk
  | .dM st jump tmps n params assign body d, ⟨g0, fn0, t0, g1, g2⟩, ⟨h0, fn, iX, h1, h2⟩ =>
    rw [fW d g0] at h1
    exact ⟨g0, fn, iX, h1, ⟨h2.1.1, h2.1.2.1, fun i => (g2.1.2.2 i).yI (h2.1.2.2 i) fW⟩, h2.2⟩
  | .iP, _, hk => exact hk
end Go.Fs
namespace Go.Fs
variable {P : Program}
section
variable {step : Oper -> (Operand -> Value) -> U -> Option (Value × U)} {ops : Array Oper} {n : Nat}
inductive AL (step : Oper -> (Operand -> Value) -> U -> Option (Value × U)) (ops : Array Oper) (n : Nat) (X : Nat -> bC -> Prop) (o : Oper) (i : Nat) (s s' : dT) : Prop
  | skip (hw : bL ops s.t o = some false) (hp : put n s.t o.dst undef = some s'.t) (hh : s'.h = s.h) (hs : s'.segs = s.segs) (hm : s'.mem = s.mem) (ht : s'.tail = s.tail)
  | calm (hw : bL ops s.t o = some true) (hc : calm o.op = true) (v : Value) (h' : U) (bT : step o (aB s.t) { next := s.h.next, low := s.h.next, aA := [] } = some (v, h')) (hn : h'.next = s.h.next)
      (hp : put n s.t o.dst v = some s'.t) (hh : s'.h = s.h) (hs : s'.segs = s.segs) (hm : s'.mem = s.mem) (ht : s'.tail = s.tail)
  | still (hw : bL ops s.t o = some true) (v : Value) (aA : List (Nat × bC)) (hX : ∀ b ob, look aA b = some ob -> X b ob)
      (bT : step o (aB s.t) { next := s.h.next, low := s.h.next, aA := aA } = some (v, { next := s.h.next, low := s.h.next, aA := aA }))
      (hp : put n s.t o.dst v = some s'.t) (hh : s'.h = s.h) (hs : s'.segs = s.segs) (hm : s'.mem = s.mem) (ht : s'.tail = s.tail)
  | mem (hw : bL ops s.t o = some true) (hc : Fs.calm o.op = false) (v : Value) (h' : U) (ord : Bool) (ho : ord = Nat.beq (s.mem &&& aM s.bs o) s.mem) (lR : s.tail = true -> ord = true)
      (bT : step o (aB s.t) { next := s.h.next, low := s.h.next, aA := bif ord then s.h.aA else mask (aM s.bs o) s.segs s.h.aA } = some (v, h')) (hn : s.h.next <= h'.next)
      (hp : put n s.t o.dst v = some s'.t) (hm : s'.mem = s.mem ||| 2 ^ i) (hs : s'.segs = (i, s.h.next, h'.next) :: s.segs) (gU : s'.h.next = h'.next)
      (hk : (s.h.next <= h'.low /\ s'.h.low = s.h.low /\ s'.h.aA = bI s.h.next h'.next h'.aA ++ s.h.aA /\ s'.tail = s.tail) \/ (ord = true /\ s'.h.low = min s.h.low h'.low /\ s'.h.aA = h'.aA /\ s'.tail = true))
theorem PX {X : Nat -> bC -> Prop} {o : Oper} {i : Nat} {s s' : dT} (hf : gJ step ops n o i s = some s') : s'.bs = s.bs ++ [aM s.bs o] /\ AL step ops n X o i s s' := by
  unfold gJ at hf; simp only at hf; split at hf
  . rename_i hw; obtain ⟨t, h1, h2⟩ := Option.map_eq_some_iff.1 hf; subst h2; exact ⟨rfl, .skip hw h1 rfl rfl rfl rfl⟩
  . cases hf
  rename_i hw; split at hf
  . rename_i hc; split at hf
    . rename_i v h' bT; obtain ⟨h3, h4⟩ := aT hf; obtain ⟨t, h1, h2⟩ := Option.map_eq_some_iff.1 h4; subst h2; exact ⟨rfl, .calm hw hc v h' bT (bV h3) h1 rfl rfl rfl rfl⟩
    cases hf
  rename_i hc
  have hc : calm o.op = false := by simpa using hc
  generalize gR : Nat.beq (s.mem &&& aM s.bs o) s.mem = ord at hf
  cases lO : (s.tail && !ord) with
  | true => rw [lO] at hf; cases hf
  | false =>
    rw [lO] at hf; simp only [cond_false] at hf
    have lR : s.tail = true -> ord = true := fun h => by rw [h] at lO; simpa using lO
    split at hf
    . rename_i v h' bT
      cases bO : Nat.blt h'.next s.h.next with
      | true => rw [bO] at hf; cases hf
      | false =>
        rw [bO] at hf; simp only [cond_false] at hf
        have hn : s.h.next <= h'.next := by have := iG bO; omega
        split at hf
        . rename_i t hp
          cases dW : Nat.ble s.h.next h'.low with
          | true =>
            rw [dW] at hf; simp only [cond_true, Option.some.injEq] at hf; subst hf
            exact ⟨rfl, .mem hw hc v h' ord gR.symm lR bT hn hp rfl rfl rfl (.inl ⟨fY dW, rfl, rfl, rfl⟩)⟩
          | false =>
            rw [dW] at hf; simp only [cond_false] at hf; obtain ⟨h5, h6⟩ := aT hf; simp only [Option.some.injEq] at h6; subst h6; exact ⟨rfl, .mem hw hc v h' ord gR.symm lR bT hn hp rfl rfl rfl (.inr ⟨h5, rfl, rfl, rfl⟩)⟩
        cases hf
    cases hf
theorem CM : ∀ (l : List Oper) (i : Nat) (s s' : dT), kD step ops n l i s = some s' -> ∃ st : Nat -> dT, st i = s /\ st (i + l.length) = s' /\
    ∀ j o, l[j]? = some o -> gJ step ops n o (i + j) (st (i + j)) = some (st (i + j + 1))
  | [], i, s, s', h => by
    simp only [kD, Option.some.injEq] at h; subst h
    exact ⟨fun _ => s, rfl, rfl, fun j o hj => by simp at hj⟩
  | o :: l, i, s, s', h => by
    simp only [kD] at h; split at h
    . rename_i s1 CF; obtain ⟨st, h1, h2, h3⟩ := CM l (i + 1) s1 s' h; refine ⟨fun k => if k = i then s else st k, by simp, ?_, fun j o' hj => ?_⟩
      . simp only [List.length_cons]; rw [if_neg (by omega), <- h2]; congr 1; omega
      cases j with
      | zero =>
        simp at hj; subst hj
        simp [h1, CF]
      | succ j =>
        simp only [List.getElem?_cons_succ] at hj; have := h3 j o' hj; rw [show i + 1 + j = i + (j + 1) by omega] at this; simp only; rw [if_neg (by omega), if_neg (by omega)]; exact this
    cases h
structure Trace (step : Oper -> (Operand -> Value) -> U -> Option (Value × U)) (ops : Array Oper) (n : Nat) (st : Nat -> dT) (t0 : Tr) (h0 : U) : Prop where
  zero : st 0 = ⟨t0, h0, [], [], 0, false⟩
  EP : ∀ i o, ops[i]? = some o -> (st (i + 1)).bs = (st i).bs ++ [aM (st i).bs o] /\ AL step ops n (fun b ob => h0.get b = some ob /\ b < h0.next /\ (b < (st ops.size).h.low \/ ∀ q, q <= ops.size -> (st q).h.get b = some ob)) o i (st i) (st (i + 1))
variable {st : Nat -> dT} {t0 : Tr} {h0 : U}
theorem abK {s : dT} (h : kD step ops n ops.toList 0 ⟨t0, h0, [], [], 0, false⟩ = some s) : ∃ st, Trace step ops n st t0 h0 /\ st ops.size = s := by
  obtain ⟨st, h1, h2, h3⟩ := CM _ _ _ _ h; refine ⟨st, ⟨h1, fun i o ho => ?_⟩, by simpa using h2⟩; have := h3 i o (by simpa using ho); simp only [Nat.zero_add] at this; exact PX this
def IX (P : Program) (h0 : U) (ops : Array Oper) (n : Nat) (o : Oper) (s : dT) : Option (dT × Nat) :=
  match bL ops s.t o, o.op with
  | some true, .load T a =>
    match aB s.t a with
    | .pointer (some p) =>
      match h0.get p.block with
      | some ob =>
        bif Nat.blt p.block h0.next then
          match dD P T (aB s.t a) { next := s.h.next, low := s.h.next, aA := [(p.block, ob)] } with
          | some v => (put n s.t o.dst v).map fun t => ({ s with t, bs := s.bs ++ [aM s.bs o] }, p.block + 1)
          | none => none
        else none
      | none => none
    | _ => none
  | _, _ => none
def q8 (P : Program) (h0 : U) (step : Oper -> (Operand -> Value) -> U -> Option (Value × U)) (ops : Array Oper) (n : Nat) : List Oper -> Nat -> dT -> Nat -> Option (dT × Nat)
  | [], _, s, lim => some (s, lim)
  | o :: r, i, s, lim => match gJ step ops n o i s with
    | some s' => q8 P h0 step ops n r (i + 1) s' lim
    | none => match IX P h0 ops n o s with
      | some (s', b) => q8 P h0 step ops n r (i + 1) s' (max lim b)
      | none => none
def IY (P : Program) (h0 : U) (step : Oper -> (Operand -> Value) -> U -> Option (Value × U)) (ops : Array Oper) (n : Nat) (s : dT) : Option dT :=
  match q8 P h0 step ops n ops.toList 0 s 0 with
  | some (s', lim) => bif Nat.ble lim s'.h.low then some s' else none
  | none => none
theorem abL {call : FuncId -> List Value -> U -> Option (Value × U)} {yield : Nat -> List Value -> U -> Option (Value × U)} {X : Nat -> bC -> Prop} {o : Oper} {i b : Nat} {s s' : dT}
    (hf : IX P h0 ops n o s = some (s', b)) (hX : ∀ c ob, h0.get c = some ob -> c < h0.next -> c + 1 = b -> X c ob) :
    s'.bs = s.bs ++ [aM s.bs o] /\ AL (cP P call yield) ops n X o i s s' := by
  unfold IX at hf; split at hf
  . rename_i T a hw dU; split at hf
    . rename_i p cB; split at hf
      . rename_i ob hg; obtain ⟨h1, h2⟩ := aT hf; split at h2
        . rename_i v hv; obtain ⟨t, h3, h4⟩ := Option.map_eq_some_iff.1 h2; simp only [Prod.mk.injEq] at h4; obtain ⟨h4, h5⟩ := h4; subst h4; refine ⟨rfl, .still hw v [(p.block, ob)] (fun c oc hc => ?_) ?_ h3 rfl rfl rfl rfl⟩
          . simp only [look] at hc
            cases BE : Nat.beq p.block c with
            | true =>
              rw [BE] at hc; simp only [cond_true, Option.some.injEq] at hc; obtain rfl := bV BE; subst hc
              exact hX _ _ hg (jA h1) h5
            | false => rw [BE] at hc; cases hc
          unfold cP; rw [dU]; simp only [hv, Option.map_some]
        cases h2
      cases hf
    cases hf
  cases hf
theorem uJ {call : FuncId -> List Value -> U -> Option (Value × U)} {yield : Nat -> List Value -> U -> Option (Value × U)} : ∀ (l : List Oper) (i : Nat) (s s' : dT) (lim yJ : Nat), q8 P h0 (cP P call yield) ops n l i s lim = some (s', yJ) ->
    lim <= yJ /\ ∃ st : Nat -> dT, st i = s /\ st (i + l.length) = s' /\
    ∀ j o, l[j]? = some o -> ∀ X : Nat -> bC -> Prop, (∀ c ob, h0.get c = some ob -> c < h0.next -> c < yJ -> X c ob) -> (st (i + j + 1)).bs = (st (i + j)).bs ++ [aM (st (i + j)).bs o] /\ AL (cP P call yield) ops n X o (i + j) (st (i + j)) (st (i + j + 1))
  | [], i, s, s', lim, yJ, h => by
    simp only [q8, Option.some.injEq, Prod.mk.injEq] at h; obtain ⟨h, h'⟩ := h; subst h h'
    exact ⟨Nat.le_refl _, fun _ => s, rfl, rfl, fun j o hj => by simp at hj⟩
  | o :: l, i, s, s', lim, yJ, h => by
    simp only [q8] at h
    have key : ∀ s1 ZY, lim <= ZY -> q8 P h0 (cP P call yield) ops n l (i + 1) s1 ZY = some (s', yJ) ->
        (∀ X : Nat -> bC -> Prop, (∀ c ob, h0.get c = some ob -> c < h0.next -> c < yJ -> X c ob) -> s1.bs = s.bs ++ [aM s.bs o] /\ AL (cP P call yield) ops n X o i s s1) ->
      lim <= yJ /\ ∃ st : Nat -> dT, st i = s /\ st (i + (o :: l).length) = s' /\
        ∀ j o', (o :: l)[j]? = some o' -> ∀ X : Nat -> bC -> Prop, (∀ c ob, h0.get c = some ob -> c < h0.next -> c < yJ -> X c ob) -> (st (i + j + 1)).bs = (st (i + j)).bs ++ [aM (st (i + j)).bs o'] /\ AL (cP P call yield) ops n X o' (i + j) (st (i + j)) (st (i + j + 1)) := fun s1 ZY hl hr hd => by
      obtain ⟨hle, st, h1, h2, h3⟩ := uJ l (i + 1) s1 s' ZY yJ hr; refine ⟨Nat.le_trans hl hle, fun k => if k = i then s else st k, by simp, ?_, fun j o' hj X hX => ?_⟩
      . simp only [List.length_cons]; rw [if_neg (by omega), <- h2]; congr 1; omega
      cases j with
      | zero =>
        simp at hj; subst hj
        simpa [h1] using hd X hX
      | succ j =>
        simp only [List.getElem?_cons_succ] at hj; have := h3 j o' hj X hX; rw [show i + 1 + j = i + (j + 1) by omega] at this; simp only; rw [if_neg (by omega), if_neg (by omega)]; exact this
    split at h
    . rename_i s1 CF; exact key s1 lim (Nat.le_refl _) h fun X _ => PX CF
    split at h
    . rename_i s1 b CF; refine key s1 _ (Nat.le_max_left _ _) h fun X hX => abL CF fun c ob hc pA CG => hX c ob hc pA ?_; have := (uJ l (i + 1) s1 s' _ yJ h).1; have := Nat.le_max_right lim b; omega
    cases h
theorem WU {call : FuncId -> List Value -> U -> Option (Value × U)} {yield : Nat -> List Value -> U -> Option (Value × U)} {s : dT} (h : IY P h0 (cP P call yield) ops n ⟨t0, h0, [], [], 0, false⟩ = some s) : ∃ st, Trace (cP P call yield) ops n st t0 h0 /\ st ops.size = s := by
  unfold IY at h; split at h
  . rename_i s' lim hr; obtain ⟨hl, h⟩ := aT h; simp only [Option.some.injEq] at h; subst h; obtain ⟨_, st, h1, h2, h3⟩ := uJ _ _ _ _ _ _ hr
    have I9 : st ops.size = s' := by simpa using h2
    refine ⟨st, ⟨h1, fun i o ho => ?_⟩, I9⟩; have := h3 i o (by simpa using ho) (fun b ob => h0.get b = some ob /\ b < h0.next /\ (b < (st ops.size).h.low \/ ∀ q, q <= ops.size -> (st q).h.get b = some ob)) (fun c ob hc pA CG => ⟨hc, pA, .inl (by rw [I9]; exact Nat.lt_of_lt_of_le CG (fY hl))⟩); simpa only [Nat.zero_add] using this
  cases h
def nT (st : Nat -> dT) (ops : Array Oper) (k : Nat) : Nat := match ops[k]? with
  | some o => aM (st k).bs o
  | none => 0
theorem Trace.bs (T : Trace step ops n st t0 h0) : ∀ i, i <= ops.size -> (st i).bs.length = i /\ ∀ k, k < i -> (st i).bs.getD k 0 = nT st ops k
  | 0, _ => ⟨by rw [T.zero]; rfl, fun k hk => by omega⟩
  | i + 1, hi => by
    obtain ⟨h1, h2⟩ := Trace.bs T i (by omega); have ho : ops[i]? = some ops[i] := Array.getElem?_eq_getElem (by omega); have h3 := (T.EP i _ ho).1; refine ⟨by rw [h3]; simp [h1], fun k hk => ?_⟩; rw [h3, List.getD_eq_getElem?_getD]; by_cases iC : k < i
    . rw [List.getElem?_append_left (by omega)]; have := h2 k iC
      rwa [List.getD_eq_getElem?_getD] at this
    have : k = i := by omega
    subst this; rw [List.getElem?_append_right (by omega), h1, Nat.sub_self]; simp [nT, ho]
theorem CN (bs : List Nat) (m : Nat) : ∀ (es : List Edge) (s : Nat),
    (es.foldl (fun s e => if Region.binds .any e then s ||| 2 ^ e.on ||| bs.getD e.on 0 else s) s).testBit m = true ↔ s.testBit m = true \/ ∃ e ∈ es, Region.binds .any e = true /\ (e.on = m \/ (bs.getD e.on 0).testBit m = true)
  | [], s => by simp
  | e :: es, s => by
    rw [List.foldl_cons, CN bs m es]
    cases hb : Region.binds .any e with
    | false => simp [hb]
    | true =>
      simp only [if_true, Nat.testBit_or, Bool.or_eq_true, Nat.testBit_two_pow, decide_eq_true_eq, List.mem_cons, exists_eq_or_imp, hb, true_and]; constructor
      . rintro (((h | h) | h) | h)
        . exact .inl h
        . exact .inr (.inl (.inl h))
        . exact .inr (.inl (.inr h))
        exact .inr (.inr h)
      rintro (h | (h | h) | h)
      . exact .inl (.inl (.inl h))
      . exact .inl (.inl (.inr h))
      . exact .inl (.inr h)
      exact .inr h
theorem Trace.CO (T : Trace step ops n st t0 h0) (nS : nR ops) {k : Nat} {o : Oper} (ho : ops[k]? = some o) (m : Nat) : (nT st ops k).testBit m = true ↔ ∃ e ∈ o.after.toList, Region.binds .any e = true /\ (e.on = m \/ (nT st ops e.on).testBit m = true) := by
  have hk : k < ops.size := (Array.getElem?_eq_some_iff.1 ho).1
  have h1 : nT st ops k = aM (st k).bs o := by simp [nT, ho]
  rw [h1]; unfold aM; rw [CN]; simp only [Nat.zero_testBit, Bool.false_eq_true, false_or]; constructor
  . rintro ⟨e, he, hb, h⟩; rw [(T.bs k (by omega)).2 e.on (nS k o ho e he hb)] at h; exact ⟨e, he, hb, h⟩
  rintro ⟨e, he, hb, h⟩; rw [<- (T.bs k (by omega)).2 e.on (nS k o ho e he hb)] at h; exact ⟨e, he, hb, h⟩
theorem Trace.PY (T : Trace step ops n st t0 h0) (nS : nR ops) : ∀ (k m : Nat), (nT st ops k).testBit m = true -> m < k := fun k => by
  induction k using Nat.strongRecOn with
  | ind k ih =>
    intro m hm
    cases ho : ops[k]? with
    | none => simp [nT, ho] at hm
    | some o =>
      obtain ⟨e, he, hb, h⟩ := (T.CO nS ho m).1 hm; have h1 := nS k o ho e he hb; rcases h with h | h
      . omega
      have := ih e.on h1 m h; omega
theorem Trace.O8 (T : Trace step ops n st t0 h0) (nS : nR ops) : ∀ (k m l : Nat), (nT st ops k).testBit m = true -> (nT st ops m).testBit l = true -> (nT st ops k).testBit l = true := fun k => by
  induction k using Nat.strongRecOn with
  | ind k ih =>
    intro m l hm hl
    cases ho : ops[k]? with
    | none => simp [nT, ho] at hm
    | some o =>
      obtain ⟨e, he, hb, h⟩ := (T.CO nS ho m).1 hm; have h1 := nS k o ho e he hb; rcases h with h | h
      . subst h; exact (T.CO nS ho l).2 ⟨e, he, hb, .inr hl⟩
      exact (T.CO nS ho l).2 ⟨e, he, hb, .inr (ih e.on h1 m l h hl)⟩
theorem Trace.T0 (T : Trace step ops n st t0 h0) (nS : nR ops) {E : Nat -> Bool} (hE : ∀ k, E k = true -> ∀ m, (nT st ops k).testBit m = true -> E m = true) {k : Nat} {o : Oper} (ho : ops[k]? = some o)
    (he : ∀ e ∈ o.after.toList, Region.binds .any e = true -> E e.on = true) (m : Nat) (hm : (nT st ops k).testBit m = true) : E m = true := by
  obtain ⟨e, h1, h2, h3⟩ := (T.CO nS ho m).1 hm; rcases h3 with h3 | h3
  . subst h3; exact he e h1 h2
  exact hE e.on (he e h1 h2) m h3
def nI (st : Nat -> dT) (ops : Array Oper) (k : Nat) : Prop := k < ops.size /\ (st (k + 1)).segs.length ≠ (st k).segs.length
theorem Trace.wF (T : Trace step ops n st t0 h0) (i : Nat) (o : Oper) (ho : ops[i]? = some o) : (nI st ops i /\ (st (i + 1)).mem = (st i).mem ||| 2 ^ i /\ (st (i + 1)).segs = (i, (st i).h.next, (st (i + 1)).h.next) :: (st i).segs /\ (st i).h.next <= (st (i + 1)).h.next) \/
    (¬ nI st ops i /\ (st (i + 1)).mem = (st i).mem /\ (st (i + 1)).segs = (st i).segs /\ (st (i + 1)).h = (st i).h /\ (st (i + 1)).tail = (st i).tail) := by
  have hi : i < ops.size := (Array.getElem?_eq_some_iff.1 ho).1
  cases (T.EP i o ho).2 with
  | skip hw hp hh hs hm ht => exact .inr ⟨fun h => h.2 (by rw [hs]), hm, hs, hh, ht⟩
  | calm hw hc v h' bT hn hp hh hs hm ht => exact .inr ⟨fun h => h.2 (by rw [hs]), hm, hs, hh, ht⟩
  | still hw v aA hX bT hp hh hs hm ht => exact .inr ⟨fun h => h.2 (by rw [hs]), hm, hs, hh, ht⟩
  | mem hw hc v h' ord oA lR bT hn hp hm hs gU hk =>
    exact .inl ⟨⟨hi, by rw [hs]; simp⟩, hm, by rw [gU]; exact hs, by rw [gU]; exact hn⟩
theorem Trace.akD (T : Trace step ops n st t0 h0) (i : Nat) (hi : i < ops.size) : (st i).h.next <= (st (i + 1)).h.next := by
  rcases T.wF i _ (Array.getElem?_eq_getElem hi) with ⟨_, _, _, h⟩ | ⟨_, _, _, h, _⟩
  . exact h
  rw [h]; exact Nat.le_refl _
theorem Trace.next (T : Trace step ops n st t0 h0) (i j : Nat) (SY : i <= j) (hj : j <= ops.size) : (st i).h.next <= (st j).h.next := by
  induction j with
  | zero =>
    have : i = 0 := by omega
    subst this; exact Nat.le_refl _
  | succ j ih =>
    by_cases h : i = j + 1
    . subst h; exact Nat.le_refl _
    exact Nat.le_trans (ih (by omega) (by omega)) (T.akD j (by omega))
theorem Trace.am7 (T : Trace step ops n st t0 h0) (i : Nat) (hi : i < ops.size) : (st (i + 1)).h.low <= (st i).h.low := by
  have ho : ops[i]? = some ops[i] := Array.getElem?_eq_getElem hi
  cases (T.EP i _ ho).2 with
  | skip hw hp hh hs hm ht => rw [hh]; exact Nat.le_refl _
  | calm hw hc v h' bT hn hp hh hs hm ht => rw [hh]; exact Nat.le_refl _
  | still hw v aA hX bT hp hh hs hm ht => rw [hh]; exact Nat.le_refl _
  | mem hw hc v h' ord oA lR bT hn hp hm hs gU hk =>
    rcases hk with ⟨_, h1, _⟩ | ⟨_, h1, _⟩
    . rw [h1]; exact Nat.le_refl _
    rw [h1]; exact Nat.min_le_left _ _
theorem Trace.low (T : Trace step ops n st t0 h0) (i j : Nat) (SY : i <= j) (hj : j <= ops.size) : (st j).h.low <= (st i).h.low := by
  induction j with
  | zero =>
    have : i = 0 := by omega
    subst this; exact Nat.le_refl _
  | succ j ih =>
    by_cases h : i = j + 1
    . subst h; exact Nat.le_refl _
    exact Nat.le_trans (T.am7 j (by omega)) (ih (by omega) (by omega))
theorem Trace.aeP (T : Trace step ops n st t0 h0) (i : Nat) (hi : i < ops.size) (h : (st i).tail = true) : (st (i + 1)).tail = true := by
  have ho : ops[i]? = some ops[i] := Array.getElem?_eq_getElem hi
  cases (T.EP i _ ho).2 with
  | skip hw hp hh hs hm ht => rw [ht]; exact h
  | calm hw hc v h' bT hn hp hh hs hm ht => rw [ht]; exact h
  | still hw v aA hX bT hp hh hs hm ht => rw [ht]; exact h
  | mem hw hc v h' ord oA lR bT hn hp hm hs gU hk =>
    rcases hk with ⟨_, _, _, h1⟩ | ⟨_, _, _, h1⟩
    . rw [h1]; exact h
    exact h1
theorem Trace.tail (T : Trace step ops n st t0 h0) (i j : Nat) (SY : i <= j) (hj : j <= ops.size) (h : (st i).tail = true) : (st j).tail = true := by
  induction j with
  | zero =>
    have : i = 0 := by omega
    subst this; exact h
  | succ j ih =>
    by_cases h' : i = j + 1
    . subst h'; exact h
    exact T.aeP j (by omega) (ih (by omega) (by omega))
theorem Trace.BF (T : Trace step ops n st t0 h0) : ∀ i, i <= ops.size -> (st i).tail = true -> ∃ k, k < i /\ nI st ops k /\ (st (k + 1)).tail = true
  | 0, _, h => by rw [T.zero] at h; cases h
  | i + 1, hi, h => by
    have ho : ops[i]? = some ops[i] := Array.getElem?_eq_getElem (by omega); rcases T.wF i _ ho with ⟨h1, _⟩ | ⟨_, _, _, _, h1⟩
    . exact ⟨i, by omega, h1, h⟩
    rw [h1] at h; obtain ⟨k, h2, h3⟩ := Trace.BF T i (by omega) h; exact ⟨k, by omega, h3⟩
theorem Trace.ER (T : Trace step ops n st t0 h0) : ∀ i, i <= ops.size -> ∀ k, (st i).mem.testBit k = true ↔ k < i /\ nI st ops k
  | 0, _, k => by rw [T.zero]; simp
  | i + 1, hi, k => by
    have ih := Trace.ER T i (by omega) k; have ho : ops[i]? = some ops[i] := Array.getElem?_eq_getElem (by omega); rcases T.wF i _ ho with ⟨h1, h2, _⟩ | ⟨h1, h2, _⟩
    . rw [h2, Nat.testBit_or, Bool.or_eq_true, ih, Nat.testBit_two_pow, decide_eq_true_eq]; constructor
      . rintro (⟨h3, h4⟩ | rfl)
        . exact ⟨by omega, h4⟩
        exact ⟨by omega, h1⟩
      rintro ⟨h3, h4⟩; by_cases hk : k = i
      . exact .inr hk.symm
      exact .inl ⟨by omega, h4⟩
    rw [h2, ih]; constructor
    . rintro ⟨h3, h4⟩; exact ⟨by omega, h4⟩
    rintro ⟨h3, h4⟩; refine ⟨?_, h4⟩; by_cases hk : k = i
    . subst hk; exact absurd h4 h1
    omega
theorem Trace.ES (T : Trace step ops n st t0 h0) : ∀ i, i <= ops.size -> ∀ k, k < i -> nI st ops k -> (k, (st k).h.next, (st (k + 1)).h.next) ∈ (st i).segs
  | 0, _, k, hk, _ => by omega
  | i + 1, hi, k, hk, hm => by
    have ho : ops[i]? = some ops[i] := Array.getElem?_eq_getElem (by omega); rcases T.wF i _ ho with ⟨h1, _, h2, _⟩ | ⟨h1, _, h2, _⟩
    . rw [h2]; by_cases iC : k = i
      . subst iC; exact List.mem_cons_self
      exact List.mem_cons_of_mem _ (Trace.ES T i (by omega) k (by omega) hm)
    rw [h2]; by_cases iC : k = i
    . subst iC; exact absurd hm h1
    exact Trace.ES T i (by omega) k (by omega) hm
def uK (st : Nat -> dT) (k b : Nat) : Prop := (st k).h.next <= b /\ b < (st (k + 1)).h.next
theorem Trace.cover (T : Trace step ops n st t0 h0) : ∀ i, i <= ops.size -> ∀ b, h0.next <= b -> b < (st i).h.next -> ∃ k, k < i /\ uK st k b
  | 0, _, b, h1, h2 => by rw [T.zero] at h2; exact absurd h2 (by simp; omega)
  | i + 1, hi, b, h1, h2 => by
    by_cases h : b < (st i).h.next
    . obtain ⟨k, hk, hs⟩ := Trace.cover T i (by omega) b h1 h; exact ⟨k, by omega, hs⟩
    exact ⟨i, by omega, by unfold uK; omega⟩
theorem Trace.CP (T : Trace step ops n st t0 h0) {k b : Nat} (hk : k < ops.size) (hs : uK st k b) : nI st ops k := by
  rcases T.wF k _ (Array.getElem?_eq_getElem hk) with ⟨h1, _⟩ | ⟨_, _, _, h1, _⟩
  . exact h1
  unfold uK at hs; rw [h1] at hs; omega
theorem Trace.aeQ (T : Trace step ops n st t0 h0) {k m b : Nat} (hk : k < ops.size) (hm : m < ops.size) (h1 : uK st k b) (h2 : uK st m b) : k = m := by
  unfold uK at h1 h2; rcases Nat.lt_trichotomy k m with h | h | h
  . have := T.next (k + 1) m h (by omega); omega
  . exact h
  have := T.next (m + 1) k h (by omega); omega
theorem Trace.PZ (T : Trace step ops n st t0 h0) {k b : Nat} (hk : k < ops.size) (h1 : uK st k b) : h0.next <= b := by
  have := T.next 0 k (by omega) (by omega); rw [T.zero] at this; exact Nat.le_trans this h1.1
theorem jO (a b : List (Nat × bC)) (i : Nat) : look (a ++ b) i = (look a i).or (look b i) := by
  induction a with
  | nil => rfl
  | cons p a ih =>
    obtain ⟨k, o⟩ := p; cases hb : Nat.beq k i <;> simp [look, hb, ih]
theorem pC (p : Nat × bC -> Bool) (q : Nat -> Bool) (IA : ∀ k o, p (k, o) = q k) : ∀ (l : List (Nat × bC)) (b : Nat) (o : bC), look (l.filter p) b = some o -> look l b = some o /\ q b = true
  | [], b, o, h => by cases h
  | (k, o') :: r, b, o, h => by
    rw [List.filter_cons] at h
    cases hc : p (k, o') with
    | false =>
      rw [hc] at h; obtain ⟨h1, h2⟩ := pC p q IA r b o h
      cases hb : Nat.beq k b with
      | true =>
        have := bV hb; subst this
        rw [<- IA k o', hc] at h2; cases h2
      | false => exact ⟨by simp [look, hb, h1], h2⟩
    | true =>
      rw [hc] at h; simp only [if_true, look] at h
      cases hb : Nat.beq k b with
      | true =>
        rw [hb] at h; have := bV hb; subst this
        exact ⟨by simp [look, hb]; simpa using h, by rw [<- IA k o', hc]⟩
      | false =>
        rw [hb] at h; obtain ⟨h1, h2⟩ := pC p q IA r b o h; exact ⟨by simp [look, hb, h1], h2⟩
theorem fA {lo hi : Nat} (l : List (Nat × bC)) (b : Nat) (o : bC) (h : look (bI lo hi l) b = some o) : (lo <= b /\ b < hi) /\ look l b = some o := by
  unfold bI at h
  cases hb : Nat.beq lo hi with
  | true => rw [hb] at h; cases h
  | false =>
    rw [hb] at h; obtain ⟨h1, h2⟩ := pC (inside lo hi) (fun b => Nat.ble lo b && Nat.blt b hi) (fun _ _ => rfl) l b o h; obtain ⟨h3, h4⟩ := aQ h2; exact ⟨⟨fY h3, jA h4⟩, h1⟩
theorem K5 {bb : Nat} : ∀ (segs : List (Nat × Nat × Nat)) (l : List (Nat × bC)) (b : Nat) (o : bC), look (mask bb segs l) b = some o ->
    look l b = some o /\ ∀ k lo hi, (k, lo, hi) ∈ segs -> lo <= b -> b < hi -> bb.testBit k = true
  | [], l, b, o, h => ⟨h, fun _ _ _ hm => by cases hm⟩
  | (k, lo, hi) :: segs, l, b, o, h => by
    simp only [mask] at h; obtain ⟨h1, h2⟩ := K5 segs _ b o h
    cases hb : bb.testBit k with
    | true =>
      rw [hb] at h1; refine ⟨by simpa using h1, fun k' uG kQ hm h3 h4 => ?_⟩; rcases List.mem_cons.1 hm with he | hm
      . simp only [Prod.mk.injEq] at he; rw [he.1]; exact hb
      exact h2 _ _ _ hm h3 h4
    | false =>
      rw [hb] at h1; simp only [Bool.false_eq_true, if_false] at h1; obtain ⟨h5, h6⟩ := pC (outside lo hi) (fun b => !(decide (lo <= b) && decide (b < hi))) (fun _ _ => rfl) l b o h1; refine ⟨h5, fun k' uG kQ hm h3 h4 => ?_⟩; rcases List.mem_cons.1 hm with he | hm
      . simp only [Prod.mk.injEq] at he; obtain ⟨rfl, rfl, rfl⟩ := he; simp [h3, h4] at h6
      exact h2 _ _ _ hm h3 h4
theorem Trace.Q0 (T : Trace step ops n st t0 h0) (hh : ∀ b o, h0.get b = some o -> b < h0.next) : ∀ i, i <= ops.size -> (st i).tail = false ->
    (∀ b, b < h0.next -> (st i).h.get b = h0.get b) /\ (∀ k, k < i -> ∀ b, uK st k b -> (st i).h.get b = (st (k + 1)).h.get b) /\ ∀ b o, (st i).h.get b = some o -> b < (st i).h.next
  | 0, _, _ => ⟨fun b _ => by rw [T.zero], fun k hk => by omega, fun b o h => by rw [T.zero] at h ⊢; exact hh b o h⟩
  | i + 1, hi, ht => by
    have ht0 : (st i).tail = false := by
      cases h : (st i).tail with
      | false => rfl
      | true => rw [T.aeP i (by omega) h] at ht; cases ht
    obtain ⟨h1, h2, h3⟩ := Trace.Q0 T hh i (by omega) ht0; have ho : ops[i]? = some ops[i] := Array.getElem?_eq_getElem (by omega)
    have same : (st (i + 1)).h = (st i).h -> _ := fun he => (⟨fun b hb => by rw [he]; exact h1 b hb, fun k hk b hs => by
        by_cases iC : k = i
        . subst iC; rfl
        . rw [he]; exact h2 k (by omega) b hs, fun b o hb => by rw [he] at hb ⊢; exact h3 b o hb⟩ :
        (∀ b, b < h0.next -> (st (i + 1)).h.get b = h0.get b) /\ (∀ k, k < i + 1 -> ∀ b, uK st k b -> (st (i + 1)).h.get b = (st (k + 1)).h.get b) /\ ∀ b o, (st (i + 1)).h.get b = some o -> b < (st (i + 1)).h.next)
    cases (T.EP i _ ho).2 with
    | skip hw hp hh' hs hm ht => exact same hh'
    | calm hw hc v h' bT hn hp hh' hs hm ht => exact same hh'
    | still hw v aA hX bT hp hh' hs hm ht => exact same hh'
    | mem hw hc v h' ord oA lR bT hn hp hm hs gU hk =>
      rcases hk with ⟨dW, _, sW, _⟩ | ⟨_, _, _, h⟩
      . have jC : ∀ b, (st (i + 1)).h.get b = (look (bI (st i).h.next h'.next h'.aA) b).or ((st i).h.get b) := fun b => by
          show look (st (i + 1)).h.aA b = _; rw [sW, jO]; rfl
        have hold : ∀ b, b < (st i).h.next -> (st (i + 1)).h.get b = (st i).h.get b := fun b hb => by
          rw [jC]
          cases hl : look (bI (st i).h.next h'.next h'.aA) b with
          | none => rfl
          | some o => have := (fA _ _ _ hl).1; omega
        have Q1 := T.next 0 i (by omega) (by omega); rw [T.zero] at Q1; refine ⟨fun b hb => by rw [hold b (Nat.lt_of_lt_of_le hb Q1)]; exact h1 b hb, fun k hk b hs => ?_, fun b o hb => ?_⟩
        . by_cases iC : k = i
          . subst iC; rfl
          have hs2 := hs.2; have := T.next (k + 1) i (by omega) (by omega); rw [hold b (by omega)]; exact h2 k (by omega) b hs
        rw [gU]; rw [jC] at hb
        cases hl : look (bI (st i).h.next h'.next h'.aA) b with
        | none => rw [hl] at hb; have := h3 b o hb; omega
        | some o => exact (fA _ _ _ hl).1.2
      rw [h] at ht; cases ht
end
end Go.Fs
namespace Go.Fs
open Go.RowKit (Below)
variable {P : Program}
def ET (ops : Array Oper) : Prop := ∀ (i j : Nat) (oi oj : Oper) (d : Tmp), ops[i]? = some oi -> ops[j]? = some oj -> oi.dst = some d -> oj.dst = some d -> i = j
def K6 (st : Nat -> dT) (ops : Array Oper) : Prop := ∀ (i : Nat) (oi : Oper), ops[i]? = some oi -> ∀ x ∈ oi.looksAt ops, ∀ (j : Nat) (oj : Oper), ops[j]? = some oj -> oj.dst = some x ->
  j = i \/ (nT st ops i).testBit j = true \/ (nT st ops j).testBit i = true
def EU (st : Nat -> dT) (ops : Array Oper) (S : Nat -> Prop) (K : Nat -> Prop) (b : Nat) : Prop := S b \/ ∃ m, K m /\ m < ops.size /\ uK st m b
def cl (st : Nat -> dT) (ops : Array Oper) (S : Nat -> Prop) (k : Nat) : Nat -> Prop := EU st ops S fun m => m = k \/ (nT st ops k).testBit m = true
def SB (st : Nat -> dT) (ops : Array Oper) (S : Nat -> Prop) (i : Nat) : Nat -> Prop := EU st ops S fun m => (nT st ops i).testBit m = true
def SE (st : Nat -> dT) (ops : Array Oper) (S : Nat -> Prop) (E : Nat -> Bool) : Nat -> Prop := EU st ops S fun m => E m = true
theorem gZ {st : Nat -> dT} {ops : Array Oper} {S : Nat -> Prop} {K K' : Nat -> Prop} (h : ∀ m, K m -> K' m) (b : Nat) (hb : EU st ops S K b) : EU st ops S K' b := by
  rcases hb with hb | ⟨m, h1, h2⟩
  . exact .inl hb
  exact .inr ⟨m, h m h1, h2⟩
theorem Q2 {st : Nat -> dT} {ops : Array Oper} {S : Nat -> Prop} {E : Nat -> Bool} (EV : ∀ k, E k = true -> ∀ m, (nT st ops k).testBit m = true -> E m = true) {k : Nat} (hk : E k = true) (b : Nat)
    (hb : cl st ops S k b) : SE st ops S E b := by
  refine gZ (fun m hm => ?_) b hb; rcases hm with hm | hm
  . rw [hm]; exact hk
  exact EV k hk m hm
theorem K7 {n : Nat} {t t' : Tr} {dst : Option Tmp} {v : Value} (hn : n <= 4000) (hp : put n t dst v = some t') (x : Nat) : t'.get x = if dst = some x then v else t.get x := by
  unfold put at hp
  cases dst with
  | none => simp only [Option.some.injEq] at hp; subst hp; simp
  | some d =>
    obtain ⟨h1, h2⟩ := aT hp; simp only [Option.some.injEq] at h2; subst h2; have h1 := jA h1; rw [Tr.cX depth t d v x (by have : 2 ^ depth = 8192 := rfl; omega)]; by_cases hx : x = d
    . subst hx; simp
    rw [if_neg hx, if_neg (by simp; exact fun h => hx h.symm)]
theorem ahT {n : Nat} {t t' : Tr} {d : Tmp} {v : Value} (hp : put n t (some d) v = some t') : d < n := by
  unfold put at hp; exact jA (aT hp).1
section
variable {step : Oper -> (Operand -> Value) -> U -> Option (Value × U)} {ops : Array Oper} {n : Nat} {st : Nat -> dT} {t0 : Tr} {h0 : U}
theorem AL.put {X : Nat -> bC -> Prop} {o : Oper} {i : Nat} {s s' : dT} (h : AL step ops n X o i s s') : ∃ v, Fs.put n s.t o.dst v = some s'.t := by
  cases h with
  | skip hw hp hh hs hm ht => exact ⟨_, hp⟩
  | calm hw hc v h' bT hn hp hh hs hm ht => exact ⟨_, hp⟩
  | still hw v aA hX bT hp hh hs hm ht => exact ⟨_, hp⟩
  | mem hw hc v h' ord oA lR bT hn hp hm hs gU hk => exact ⟨_, hp⟩
theorem Trace.CQ (T : Trace step ops n st t0 h0) (hn : n <= 4000) : ∀ i, i <= ops.size -> ∀ x, (∀ j o, j < i -> ops[j]? = some o -> o.dst ≠ some x) -> (st i).t.get x = t0.get x
  | 0, _, x, _ => by rw [T.zero]
  | i + 1, hi, x, hx => by
    have ho : ops[i]? = some ops[i] := Array.getElem?_eq_getElem (by omega); obtain ⟨v, hp⟩ := (T.EP i _ ho).2.put; rw [K7 hn hp, if_neg (hx i _ (by omega) ho)]; exact Trace.CQ T hn i (by omega) x fun j o hj => hx j o (by omega)
theorem Trace.K8 (T : Trace step ops n st t0 h0) (pD : ET ops) (hn : n <= 4000) : ∀ i, i <= ops.size -> ∀ j o x, j < i -> ops[j]? = some o -> o.dst = some x -> (st i).t.get x = (st (j + 1)).t.get x
  | 0, _, j, _, _, hj, _, _ => by omega
  | i + 1, hi, j, o, x, hj, ho, hx => by
    by_cases hji : j = i
    . subst hji; rfl
    have uE : ops[i]? = some ops[i] := Array.getElem?_eq_getElem (by omega); obtain ⟨v, hp⟩ := (T.EP i _ uE).2.put; rw [K7 hn hp, if_neg fun h => hji (pD j i o _ x ho uE hx h)]; exact Trace.K8 T pD hn i (by omega) j o x (by omega) ho hx
end
def CR (st : Nat -> dT) (ops : Array Oper) (n : Nat) (t0 : Tr) (S : Nat -> Prop) (E : Nat -> Bool) (ρ : Ren) (tmps : Array Value) : Prop :=
  tmps.size = n /\ (∀ k o d, E k = true -> ops[k]? = some o -> o.dst = some d -> VR ρ (cl st ops S k) ((st (k + 1)).t.get d) (tmps.toList.getD d undef)) /\
  ∀ d, (∀ k o, E k = true -> ops[k]? = some o -> o.dst ≠ some d) -> VR ρ S (t0.get d) (tmps.toList.getD d undef)
theorem O9 (a : Act) (dst : Option Tmp) (v : Value) (x : Nat) (bO : ∀ d, dst = some d -> d < a.tmps.size) : (a.put dst v).tmps.toList.getD x undef = if dst = some x then v else a.tmps.toList.getD x undef := by
  cases dst with
  | none => simp [Act.put]
  | some d =>
    have hd := bO d rfl; simp only [Act.put, Array.toList_setIfInBounds, List.getD_eq_getElem?_getD, List.getElem?_set]; by_cases e : d = x
    . subst e; simp [hd]
    simp [e]
theorem size_put (a : Act) (dst : Option Tmp) (v : Value) : (a.put dst v).tmps.size = a.tmps.size := by
  cases dst <;> simp [Act.put]
section
variable {step : Oper -> (Operand -> Value) -> U -> Option (Value × U)} {ops : Array Oper} {n : Nat} {st : Nat -> dT} {t0 : Tr} {h0 : U}
variable {S : Nat -> Prop} {E : Nat -> Bool} {ρ j3 : Ren} {a : Act}
theorem CR.put (pD : ET ops) (hn : n <= 4000) (hI : CR st ops n t0 S E ρ a.tmps) (EV : ∀ k, E k = true -> ∀ m, (nT st ops k).testBit m = true -> E m = true) (fW : ∀ b, SE st ops S E b -> j3 b = ρ b)
    {i : Nat} {o : Oper} (ho : ops[i]? = some o) (hE : E i = false) {v v1 : Value} (hp : put n (st i).t o.dst v = some (st (i + 1)).t) (hv : VR j3 (cl st ops S i) v v1) :
    CR st ops n t0 S (fun j => E j || j == i) j3 (a.put o.dst v1).tmps := by
  obtain ⟨h1, h2, h3⟩ := hI
  have bO : ∀ d, o.dst = some d -> d < a.tmps.size := fun d hd => by rw [hd] at hp; rw [h1]; exact ahT hp
  refine ⟨by rw [size_put, h1], fun k ok d hk bZ hd => ?_, fun d hd => ?_⟩
  . rw [O9 a o.dst v1 d bO]; by_cases iC : k = i
    . subst iC; rw [ho] at bZ; injection bZ with bZ; subst bZ; rw [if_pos hd, K7 hn hp, if_pos hd]; exact hv
    have cA : o.dst ≠ some d := fun h => iC (pD k i ok o d bZ ho hd h); rw [if_neg cA]
    have AM : E k = true := by simpa [iC] using hk
    exact (h2 k ok d AM bZ hd).mono fun b hb => ⟨hb, fW b (Q2 EV AM b hb)⟩
  have cA : o.dst ≠ some d := hd i o (by simp) ho; rw [O9 a o.dst v1 d bO, if_neg cA]; exact (h3 d fun k ok hk bZ => hd k ok (by simp [hk]) bZ).mono fun b hb => ⟨hb, fW b (.inl hb)⟩
theorem CR.look (T : Trace step ops n st t0 h0) (nS : nR ops) (pD : ET ops) (hn : n <= 4000) (WV : K6 st ops) (hI : CR st ops n t0 S E ρ a.tmps)
    (EV : ∀ k, E k = true -> ∀ m, (nT st ops k).testBit m = true -> E m = true)
    {i : Nat} {o : Oper} (ho : ops[i]? = some o) (hE : E i = false) (he : ∀ e ∈ o.after.toList, Region.binds .any e = true -> E e.on = true) (x : Tmp) (hx : x ∈ o.looksAt ops) :
    VR ρ (SB st ops S i) ((st i).t.get x) (a.tmps.toList.getD x undef) := by
  obtain ⟨h1, h2, h3⟩ := hI; have hi : i < ops.size := (Array.getElem?_eq_some_iff.1 ho).1; by_cases hw : ∃ (j : Nat) (oj : Oper), ops[j]? = some oj /\ oj.dst = some x
  . obtain ⟨j, oj, hj, IB⟩ := hw
    have old : E j = false -> i <= j -> VR ρ (SB st ops S i) ((st i).t.get x) (a.tmps.toList.getD x undef) := fun hEj SY => by
      rw [T.CQ hn i (by omega) x fun k ok hk bZ K9 => by have := pD k j ok oj x bZ hj K9 IB; omega]; refine (h3 x fun k ok hk bZ K9 => ?_).mono fun b hb => ⟨.inl hb, rfl⟩; have := pD k j ok oj x bZ hj K9 IB; subst this; rw [hEj] at hk; cases hk
    rcases WV i o ho x hx j oj hj IB with hji | hb | hb
    . subst hji; exact old hE (Nat.le_refl _)
    . have bO := T.PY nS i j hb; have hEj := T.T0 nS EV ho he j hb; rw [T.K8 pD hn i (by omega) j oj x bO hj IB]; refine (h2 j oj x hEj hj IB).mono fun b yK => ⟨gZ (fun m hm => ?_) b yK, rfl⟩; rcases hm with rfl | hm
      . exact hb
      exact T.O8 nS i j m hb hm
    have bO := T.PY nS j i hb; refine old ?_ (by omega)
    cases hEj : E j with
    | false => rfl
    | true => rw [EV j hEj i hb] at hE; cases hE
  rw [T.CQ hn i (by omega) x fun k ok _ bZ K9 => hw ⟨k, ok, bZ, K9⟩]; exact (h3 x fun k ok _ bZ K9 => hw ⟨k, ok, bZ, K9⟩).mono fun b hb => ⟨.inl hb, rfl⟩
end
theorem N6 {ρ : Ren} {S : Nat -> Prop} {t : Tr} {a : Act} {ops : Array Oper} {o : Oper} (h : ∀ x ∈ o.looksAt ops, VR ρ S (t.get x) (a.tmps.toList.getD x undef)) :
    ∀ x ∈ o.op.operands.toList, VR ρ S (aB t x) (a.eval x) := fun x hx => by
  cases x with
  | tmp i =>
    have := h i (by
      unfold Oper.looksAt
      refine List.mem_append_left _ (List.mem_filterMap.2 ⟨.tmp i, hx, rfl⟩))
    simpa [aB, Act.eval, Array.getD_eq_getD_getElem?, List.getD_eq_getElem?_getD] using this
  | const v =>
    simp only [aB, Act.eval]; by_cases hv : af v = true
    . rw [if_pos hv]; exact .mH hv
    rw [if_neg hv]; exact .j9 v
  | global g => exact .j9 _
  | func f => exact .func f _ _ _ _ rfl (fun i h => absurd h (by simp)) rfl (fun i h => absurd h (by simp))
end Go.Fs
namespace Go.Fs
open Go.RowKit (Below)
variable {P : Program}
structure EW (P : Program) (st : Nat -> dT) (ops : Array Oper) (h0 : U) (S : Nat -> Prop) (E : Nat -> Bool) (ρ : Ren) (H : U) (w : World) : Prop where
  calm : ∀ k, E k = true -> nI st ops k -> (st (k + 1)).tail = false
  base : ∀ b, b < h0.next -> H.get b = h0.get b
  news : ∀ k, E k = true -> k < ops.size -> ∀ b, uK st k b -> H.get b = (st (k + 1)).h.get b
  aeR : ∀ b o, S b -> H.get b = some o -> kU P ρ S (ρ b) w o
  aeS : ∀ k, E k = true -> k < ops.size -> ∀ b o, uK st k b -> H.get b = some o -> kU P ρ (cl st ops S k) (ρ b) w o
structure akE (st : Nat -> dT) (ops : Array Oper) (E : Nat -> Bool) (H : U) (p : Nat) : Prop where
  le : p <= ops.size
  tail : (st p).tail = true
  get : ∀ b, H.get b = (st p).h.get b
  all : ∀ k, nI st ops k -> (E k = true ↔ k < p)
structure Inv (P : Program) (B : Nat) (w0 : World) (st : Nat -> dT) (ops : Array Oper) (n : Nat) (t0 : Tr) (h0 : U) (S : Nat -> Prop) (ρ0 : Ren) (ws : World) (d0 : List Deferred)
    (E : Nat -> Bool) (ρ : Ren) (H : U) (w : World) (a : Act) : Prop where
  cE : tV P B w0 ρ0 ρ S (SE st ops S E) h0 H (min (st ops.size).h.low h0.next) ws w
  mode : EW P st ops h0 S E ρ H w \/ ∃ p, akE st ops E H p
  tmp : CR st ops n t0 S E ρ a.tmps
  defers : a.defers = d0
  next : H.next = (st ops.size).h.next
  down : ∀ k, E k = true -> ∀ m, (nT st ops k).testBit m = true -> E m = true
section
variable {step : Oper -> (Operand -> Value) -> U -> Option (Value × U)} {ops : Array Oper} {n : Nat} {st : Nat -> dT} {t0 : Tr} {h0 : U}
variable {S : Nat -> Prop} {E : Nat -> Bool} {ρ0 ρ cS j3 : Ren} {a : Act} {B : Nat} {w0 ws w w1 : World} {H H2 hm h1 : U} {d0 : List Deferred}
theorem EW.on {X : Nat -> Prop} {b : Nat} {o : bC} {S2 : Nat -> Prop} (hX : ∀ b, X b -> SE st ops S E b) (SC : kU P ρ X (ρ b) w o) (fW : ∀ b, SE st ops S E b -> j3 b = ρ b) (hb : SE st ops S E b)
    (kG : kU P j3 S2 (j3 b) w1 o) : kU P j3 X (j3 b) w1 o := by
  rw [fW b hb] at kG ⊢; exact (SC.yI kG fun b hb => fW b (hX b hb)).mono fun b hb => ⟨hb, fW b (hX b hb)⟩
theorem Trace.ZZ (T : Trace step ops n st t0 h0) (j4 : ∀ b, S b -> b < h0.next) {K : Nat -> Prop} {i : Nat} (hi : i <= ops.size) (hK : ∀ m, K m -> m < i) (b : Nat) (hb : EU st ops S K b) : b < (st i).h.next := by
  rcases hb with hb | ⟨m, h1, h2, h3⟩
  . have := T.next 0 i (by omega) hi; rw [T.zero] at this; exact Nat.lt_of_lt_of_le (j4 b hb) this
  have := hK m h1; have := T.next (m + 1) i (by omega) hi; exact Nat.lt_of_lt_of_le h3.2 this
theorem Trace.KA (T : Trace step ops n st t0 h0) (j4 : ∀ b, S b -> b < h0.next) {i b : Nat} (hi : i < ops.size) (hE : E i = false) (hs : uK st i b) : ¬ SE st ops S E b := by
  rintro (hb | ⟨m, h1, h2, h3⟩)
  . have := T.PZ hi hs; have := j4 b hb; omega
  have := T.aeQ hi h2 hs h3; subst this; rw [hE] at h1; cases h1
theorem Inv.quiet (I : Inv P B w0 st ops n t0 h0 S ρ0 ws d0 E ρ H w a) {i : Nat} {o : Oper} (ho : ops[i]? = some o) (AJ : ¬ nI st ops i) (hh : (st (i + 1)).h = (st i).h)
    (uL : ∀ m, (nT st ops i).testBit m = true -> E m = true)
    (fW : ∀ b, SE st ops S E b -> j3 b = ρ b) (fR : tV P B w0 ρ j3 (SE st ops S E) (SE st ops S E) H H (min (st ops.size).h.low h0.next) w w1) {a' : Act}
    (KB : CR st ops n t0 S (fun j => E j || j == i) j3 a'.tmps) (hd : a'.defers = a.defers) :
    Inv P B w0 st ops n t0 h0 S ρ0 ws d0 (fun j => E j || j == i) j3 H w1 a' := by
  have hi : i < ops.size := (Array.getElem?_eq_some_iff.1 ho).1
  have WW : ∀ b, ¬ uK st i b := fun b hs => by unfold uK at hs; rw [hh] at hs; omega
  have hSE : ∀ b, SE st ops S E b ↔ SE st ops S (fun j => E j || j == i) b := fun b => by
    constructor
    . exact fun hb => gZ (fun m hm => by simp [hm]) b hb
    rintro (hb | ⟨m, h1, h2, h3⟩)
    . exact .inl hb
    by_cases WX : m = i
    . subst WX; exact absurd h3 (WW b)
    exact .inr ⟨m, by simpa [WX] using h1, h2, h3⟩
  have am8 : SE st ops S E = SE st ops S (fun j => E j || j == i) := funext fun b => propext (hSE b); refine ⟨?_, ?_, KB, hd.trans I.defers, I.next, ?_⟩
  . rw [<- am8]; exact I.cE.trans fR
  . rcases I.mode with A | ⟨p, Bm⟩
    . refine .inl ⟨fun k hk mB => ?_, A.base, fun k hk AN b hs => ?_, fun b o' hb hg => ?_, fun k hk AN b o' hs hg => ?_⟩
      . by_cases iC : k = i
        . subst iC; exact absurd mB AJ
        exact A.calm k (by simpa [iC] using hk) mB
      . by_cases iC : k = i
        . subst iC; exact absurd hs (WW b)
        exact A.news k (by simpa [iC] using hk) AN b hs
      . exact EW.on (fun b hb => .inl hb) (A.aeR b o' hb hg) fW (.inl hb) (fR.hr.aA b o' hg).2
      by_cases iC : k = i
      . subst iC; exact absurd hs (WW b)
      have AM : E k = true := by simpa [iC] using hk
      exact EW.on (Q2 I.down AM) (A.aeS k AM AN b o' hs hg) fW (.inr ⟨k, AM, AN, hs⟩) (fR.hr.aA b o' hg).2
    refine .inr ⟨p, Bm.le, Bm.tail, Bm.get, fun k mB => ?_⟩; have iC : k ≠ i := fun h => AJ (h ▸ mB); rw [<- Bm.all k mB]; simp [iC]
  intro k hk m hm; by_cases iC : k = i
  . subst iC; simp [uL m hm]
  simp [I.down k (by simpa [iC] using hk) m hm]
theorem Inv.aeT (T : Trace step ops n st t0 h0) (nS : nR ops) (j4 : ∀ b, S b -> b < h0.next) (IC : ∀ b o, h0.get b = some o -> S b) (aeU : 0 < h0.next) (I : Inv P B w0 st ops n t0 h0 S ρ0 ws d0 E ρ H w a) {i : Nat} {o : Oper} (ho : ops[i]? = some o) (hE : E i = false) (WX : nI st ops i)
    (uL : ∀ m, (nT st ops i).testBit m = true -> E m = true) {ord : Bool} (gR : ord = Nat.beq ((st i).mem &&& aM (st i).bs o) (st i).mem) (lR : (st i).tail = true -> ord = true)
    {v : Value} {h' : U} (gU : (st (i + 1)).h.next = h'.next) (hnn : (st i).h.next <= h'.next)
    (hk : ((st i).h.next <= h'.low /\ (st (i + 1)).h.low = (st i).h.low /\ (st (i + 1)).h.aA = bI (st i).h.next h'.next h'.aA ++ (st i).h.aA /\ (st (i + 1)).tail = (st i).tail) \/
      (ord = true /\ (st (i + 1)).h.low = min (st i).h.low h'.low /\ (st (i + 1)).h.aA = h'.aA /\ (st (i + 1)).tail = true)) :
    let hm : U := { next := (st i).h.next, low := (st i).h.next, aA := bif ord then (st i).h.aA else mask (aM (st i).bs o) (st i).segs (st i).h.aA }
    HR P ρ (SB st ops S i) B w0 hm w /\ ∀ cS w1 v1 a', aU P B w0 ρ cS (SB st ops S i) hm h' w w1 -> VR cS (Ext (SB st ops S i) hm h') v v1 -> a'.defers = a.defers ->
      (∀ j3, (∀ b, SE st ops S E b -> j3 b = ρ b) -> VR j3 (cl st ops S i) v v1 -> CR st ops n t0 S (fun j => E j || j == i) j3 a'.tmps) ->
      ∃ j3 H2, Inv P B w0 st ops n t0 h0 S ρ0 ws d0 (fun j => E j || j == i) j3 H2 w1 a' := by
  intro hm; have hi : i < ops.size := (Array.getElem?_eq_some_iff.1 ho).1
  have ID : aM (st i).bs o = nT st ops i := by simp [nT, ho]
  have q9 := I.cE.hr
  have Q1 : h0.next <= (st i).h.next := by have := T.next 0 i (by omega) (by omega); rwa [T.zero] at this
  have uW : ord = true -> ∀ k, k < i -> nI st ops k -> (nT st ops i).testBit k = true := fun h k hk mB => by
    rw [gR] at h; have h1 := bV h; have h2 := (T.ER i (by omega) k).2 ⟨hk, mB⟩; rw [<- h1, Nat.testBit_and, Bool.and_eq_true, ID] at h2; exact h2.2
  -- those behind it that look at the heap have not come, if it turns something old
  have later : (st (i + 1)).tail = true -> ∀ k, nI st ops k -> i < k -> E k = true -> False := fun ht k mB hik AM => by
    have AN : k < ops.size := mB.1; have hko : ops[k]? = some ops[k] := Array.getElem?_eq_getElem AN; have htk := T.tail (i + 1) k (by omega) (by omega) ht
    cases (T.EP k _ hko).2 with
    | skip hw hp hh hs hm ht => exact mB.2 (by rw [hs])
    | calm hw hc v h' bT hn hp hh hs hm ht => exact mB.2 (by rw [hs])
    | still hw v aA hX bT hp hh hs hm ht => exact mB.2 (by rw [hs])
    | mem hw hc v h' aoS oA ahU bT hn hp hm hs gU hk =>
      have h4 := ahU htk; rw [oA] at h4; have h5 := bV h4; have h6 := (T.ER k (by omega) i).2 ⟨hik, WX⟩; rw [<- h5, Nat.testBit_and, Bool.and_eq_true] at h6
      have h7 : (nT st ops k).testBit i = true := by simp only [nT, hko]; exact h6.2
      rw [I.down k AM i h7] at hE; cases hE
  have nJ : ∀ b, SB st ops S i b -> SE st ops S E b := fun b hb => gZ uL b hb; have EX : ∀ b, SB st ops S i b -> b < (st i).h.next := T.ZZ j4 (by omega) (T.PY nS i); have KC : ∀ b, hm.next <= b -> b < h'.next -> ¬ SE st ops S E b := fun b h1 h2 => T.KA j4 hi hE ⟨h1, by rw [gU]; exact h2⟩
  have N5 : ∀ b, SE st ops S (fun j => E j || j == i) b ↔ SE st ops S E b \/ (hm.next <= b /\ b < h'.next) := fun b => by
    constructor
    . rintro (hb | ⟨m, h1, h2, h3⟩)
      . exact .inl (.inl hb)
      by_cases ajB : m = i
      . subst ajB; exact .inr ⟨h3.1, by rw [<- gU]; exact h3.2⟩
      exact .inl (.inr ⟨m, by simpa [ajB] using h1, h2, h3⟩)
    rintro (hb | ⟨h1, h2⟩)
    . exact gZ (fun m hm => by simp [hm]) b hb
    exact .inr ⟨i, by simp, hi, h1, by rw [gU]; exact h2⟩
  have WY : ∀ b, SE st ops S (fun j => E j || j == i) b -> b < (st ops.size).h.next := fun b hb => by
    rcases hb with hb | ⟨m, h1, h2, h3⟩
    . have := T.next 0 ops.size (by omega) (by omega); rw [T.zero] at this; exact Nat.lt_of_lt_of_le (j4 b hb) this
    have := T.next (m + 1) ops.size (by omega) (by omega); exact Nat.lt_of_lt_of_le h3.2 this
  have WZ : 0 < (st ops.size).h.next := by have := q9.pos; rwa [I.next] at this
  have Q3 : ∀ k, (fun j => E j || j == i) k = true -> ∀ m, (nT st ops k).testBit m = true -> (fun j => E j || j == i) m = true := fun k Q4 m hm' => by
    by_cases iC : k = i
    . subst iC; simp [uL m hm']
    simp [I.down k (by simpa [iC] using Q4) m hm']
  have sN : ∀ cS : Ren, ∀ b, Ext (SB st ops S i) hm h' b -> cl st ops S i b := fun _ b hb => by
    rcases hb with hb | hb
    . exact gZ (fun m hm => .inr hm) b hb
    exact .inr ⟨i, .inl rfl, hi, hb.1, by rw [gU]; exact hb.2⟩
  have oM : 0 < (st i).h.next := by omega
  have aoE := T.low (i + 1) ops.size (by omega) (Nat.le_refl _); have akF : ∀ b, SE st ops S E b -> b ≠ 0 := fun b hb => (q9.ids b hb).2
  -- the part's relation, out of what is known of its objects
  have ajC : (∀ b o, hm.get b = some o -> H.get b = some o) -> (∀ b o, hm.get b = some o -> SB st ops S i b /\ kU P ρ (SB st ops S i) (ρ b) w o) -> HR P ρ (SB st ops S i) B w0 hm w := fun gL SC => {
    aA := SC
    inj := fun a b oa ob ha hb => q9.inj a b oa ob (gL a oa ha) (gL b ob hb)
    base := fun b o' hb => q9.base b o' (gL b o' hb)
    ro := fun b o' hb => q9.ro b o' (gL b o' hb)
    ids := fun b hb => ⟨EX b hb, akF b (nJ b hb)⟩
    pos := oM
    below := q9.below
    drawn := q9.drawn
    size := q9.size }
  -- what is new, in a heap of new objects ahead of old ones
  have qS : ∀ (aA : List (Nat × bC)) b, look (bI (st i).h.next h'.next h'.aA ++ aA) b = (look (bI (st i).h.next h'.next h'.aA) b).or (look aA b) := fun aA b => jO _ _ _
  have IZ : ∀ b, SE st ops S E b -> look (bI (st i).h.next h'.next h'.aA) b = none := fun b hb => by
    cases hl : look (bI (st i).h.next h'.next h'.aA) b with
    | none => rfl
    | some o' =>
      obtain ⟨⟨h1, h2⟩, _⟩ := fA _ _ _ hl; exact absurd hb (KC b h1 h2)
  have Q5 : ∀ b o', H.get b = some o' -> SE st ops S E b := fun b o' hg => (q9.aA b o' hg).1
  -- behind a step that turns something old
  have OC : (∀ b o, hm.get b = some o -> H.get b = some o) -> HR P ρ (SB st ops S i) B w0 hm w -> ord = true -> (st (i + 1)).h.low = min (st i).h.low h'.low -> (st (i + 1)).h.aA = h'.aA -> (st (i + 1)).tail = true ->
      (∀ b, SE st ops S E b -> b < h0.next -> hm.get b = H.get b) -> ∀ cS w1 v1 a', aU P B w0 ρ cS (SB st ops S i) hm h' w w1 -> VR cS (Ext (SB st ops S i) hm h') v v1 -> a'.defers = a.defers ->
      (∀ j3, (∀ b, SE st ops S E b -> j3 b = ρ b) -> VR j3 (cl st ops S i) v v1 -> CR st ops n t0 S (fun j => E j || j == i) j3 a'.tmps) ->
      ∃ j3 H2, Inv P B w0 st ops n t0 h0 S ρ0 ws d0 (fun j => E j || j == i) j3 H2 w1 a' := by
    intro gL sV N7 dW sW ht l6 cS w1 v1 a' m hv hd KB
    have bO : ∀ b, SE st ops S E b -> b < (st i).h.next := fun b hb => by
      rcases hb with hb | ⟨k, h1, h2, h3⟩
      . have := j4 b hb; omega
      by_cases iC : k < i
      . have := T.next (k + 1) i (by omega) (by omega); exact Nat.lt_of_lt_of_le h3.2 this
      by_cases hke : k = i
      . subst hke; rw [hE] at h1; cases h1
      exact (later ht k (T.CP h2 h3) (by omega) h1).elim
    have hL : min (st ops.size).h.low h0.next <= h'.low := by
      have h1 : (st (i + 1)).h.low <= h'.low := by rw [dW]; exact Nat.min_le_right _ _
      have h2 : min (st ops.size).h.low h0.next <= (st ops.size).h.low := Nat.min_le_left _ _; omega
    have uX := CL (H2 := { next := (st ops.size).h.next, low := 0, aA := h'.aA }) (S2 := SE st ops S (fun j => E j || j == i)) (L := min (st ops.size).h.low h0.next) q9 nJ gL sV m KC N5 WY WZ
      (fun _ _ _ _ => hL)
      (fun b o' hb hg => by
        obtain ⟨o2, h3, _⟩ := m.old b o' hg (bO b hb)
        exact .inl ⟨by rw [h3]; simp, hg⟩)
      (fun b o' hb hg => by
        rcases (m.hr.aA b o' hg).1 with h3 | h3
        . exact absurd (nJ b h3) hb
        exact ⟨h3, hg⟩)
      (fun b hb CS => by
        have h3 : b < h0.next := Nat.lt_of_lt_of_le CS (Nat.min_le_right _ _); have h4 := m.aV b (bO b hb) (by omega)
        exact h4.trans (l6 b hb h3))
    have fW : ∀ b, SE st ops S E b -> glue (SE st ops S E) ρ cS b = ρ b := fun b hb => jN hb; refine ⟨_, _, I.cE.trans uX, .inr ⟨i + 1, by omega, ht, fun b => ?_, fun k mB => ?_⟩, KB _ fW ?_, hd.trans I.defers, rfl, Q3⟩
    . show look h'.aA b = look (st (i + 1)).h.aA b; rw [sW]
    . constructor
      . intro h3; by_cases iC : k = i
        . omega
        have h4 : E k = true := by simpa [iC] using h3
        have h5 : ¬ i < k := fun h5 => later ht k mB h5 h4; omega
      intro h3; by_cases iC : k = i
      . simp [iC]
      simp [uL k (uW N7 k (by omega) mB)]
    refine hv.mono fun b hb => ⟨sN ρ b hb, ?_⟩; rcases hb with hb | hb
    . rw [jN (nJ b hb), m.agree b hb]
    exact sF (KC b hb.1 hb.2)
  rcases I.mode with A | ⟨p, Bm⟩
  . -- nothing old has been turned
    have ht : (st i).tail = false := by
      cases h : (st i).tail with
      | false => rfl
      | true =>
        obtain ⟨k, h1, h2, h3⟩ := T.BF i (by omega) h; rw [A.calm k (uL k (uW (lR h) k h1 h2)) h2] at h3; cases h3
    obtain ⟨sb1, sb2, sb3⟩ := T.Q0 (fun b o' hg => j4 b (IC b o' hg)) i (by omega) ht
    have jC : ∀ b o', hm.get b = some o' -> (st i).h.get b = some o' /\ ∀ k, k < i -> uK st k b -> (nT st ops i).testBit k = true := fun b o' hg => by
      cases hb : ord with
      | true =>
        have gD : (st i).h.get b = some o' := by
          have : look (bif ord then (st i).h.aA else mask (aM (st i).bs o) (st i).segs (st i).h.aA) b = some o' := hg; rw [hb] at this; exact this
        exact ⟨gD, fun k hk hs => uW hb k hk (T.CP (by omega) hs)⟩
      | false =>
        have : look (bif ord then (st i).h.aA else mask (aM (st i).bs o) (st i).segs (st i).h.aA) b = some o' := hg; rw [hb] at this; obtain ⟨h3, h4⟩ := K5 _ _ _ _ this; refine ⟨h3, fun k hk hs => ?_⟩; rw [<- ID]; exact h4 k _ _ (T.ES i (by omega) k hk (T.CP (by omega) hs)) hs.1 hs.2
    have aeV : ∀ b o', hm.get b = some o' -> H.get b = some o' /\ (S b \/ ∃ k, (nT st ops i).testBit k = true /\ k < ops.size /\ uK st k b) := fun b o' hg => by
      obtain ⟨h3, h4⟩ := jC b o' hg; have h5 := sb3 b o' h3; by_cases hb : b < h0.next
      . rw [sb1 b hb] at h3; rw [A.base b hb]; exact ⟨h3, .inl (IC b o' h3)⟩
      obtain ⟨k, h6, h7⟩ := T.cover i (by omega) b (by omega) h5; have h8 := h4 k h6 h7; rw [A.news k (uL k h8) (by omega) b h7, <- sb2 k h6 b h7]; exact ⟨h3, .inr ⟨k, h8, by omega, h7⟩⟩
    have gL : ∀ b o', hm.get b = some o' -> H.get b = some o' := fun b o' hg => (aeV b o' hg).1
    have sV := ajC gL fun b o' hg => by
      obtain ⟨h3, h4⟩ := aeV b o' hg; rcases h4 with h4 | ⟨k, h5, h6, h7⟩
      . exact ⟨.inl h4, (A.aeR b o' h4 h3).mono fun b hb => ⟨.inl hb, rfl⟩⟩
      refine ⟨.inr ⟨k, h5, h6, h7⟩, (A.aeS k (uL k h5) h6 b o' h7 h3).mono fun b hb => ⟨gZ (fun m hm => ?_) b hb, rfl⟩⟩; rcases hm with hm | hm
      . rw [hm]; exact h5
      exact T.O8 nS i k m h5 hm
    refine ⟨sV, ?_⟩; rcases hk with ⟨dW, akG, sW, lO⟩ | ⟨N7, dW, sW, lO⟩
    . intro cS w1 v1 a' m hv hd KB
      have uX := CL (H2 := { next := (st ops.size).h.next, low := 0, aA := bI (st i).h.next h'.next h'.aA ++ H.aA }) (S2 := SE st ops S (fun j => E j || j == i)) (L := min (st ops.size).h.low h0.next) q9 nJ gL sV m KC N5 WY WZ
        (fun _ _ _ _ => by have : min (st ops.size).h.low h0.next <= h0.next := Nat.min_le_right _ _; omega)
        (fun b o' hb hg => by
          have gD : look (bI (st i).h.next h'.next h'.aA ++ H.aA) b = some o' := hg; rw [qS, IZ b hb] at gD; have IE : H.get b = some o' := (show look H.aA b = some o' by simpa using gD)
          cases hq : hm.get b with
          | none => exact .inr ⟨rfl, IE⟩
          | some o2 =>
            have h3 := gL b o2 hq; rw [IE] at h3; injection h3 with h3; subst h3; have h4 : b < hm.next := EX b (sV.aA b o' hq).1; refine .inl ⟨by simp, ?_⟩; rw [m.aV b h4 (Nat.lt_of_lt_of_le h4 dW)]
            exact hq)
        (fun b o' hb hg => by
          have gD : look (bI (st i).h.next h'.next h'.aA ++ H.aA) b = some o' := hg; rw [qS] at gD
          cases hl : look (bI (st i).h.next h'.next h'.aA) b with
          | none =>
            rw [hl] at gD
            exact absurd (Q5 b o' (show look H.aA b = some o' by simpa using gD)) hb
          | some o2 =>
            rw [hl] at gD; simp only [Option.some_or, Option.some.injEq] at gD; subst gD
            exact fA _ _ _ hl)
        (fun b hb _ => by
          show look (bI (st i).h.next h'.next h'.aA ++ H.aA) b = H.get b; rw [qS, IZ b hb]
          rfl)
      have fW : ∀ b, SE st ops S E b -> glue (SE st ops S E) ρ cS b = ρ b := fun b hb => jN hb
      have uY : ∀ b, Ext (SB st ops S i) hm h' b -> cl st ops S i b /\ glue (SE st ops S E) ρ cS b = cS b := fun b hb => by
        refine ⟨sN ρ b hb, ?_⟩; rcases hb with hb | hb
        . rw [jN (nJ b hb), m.agree b hb]
        exact sF (KC b hb.1 hb.2)
      have l6 : ∀ b, SE st ops S E b -> look (bI (st i).h.next h'.next h'.aA ++ H.aA) b = H.get b := fun b hb => by
        rw [qS, IZ b hb]; rfl
      refine ⟨_, _, I.cE.trans uX, .inl ⟨fun k Q4 mB => ?_, fun b hb => ?_, fun k Q4 AN b hs => ?_, fun b o' hb hg => ?_, fun k Q4 AN b o' hs hg => ?_⟩, KB _ fW (hv.mono uY), hd.trans I.defers, rfl, Q3⟩
      . by_cases iC : k = i
        . subst iC; rw [lO]; exact ht
        exact A.calm k (by simpa [iC] using Q4) mB
      . show look (bI (st i).h.next h'.next h'.aA ++ H.aA) b = h0.get b; rw [qS]
        cases hl : look (bI (st i).h.next h'.next h'.aA) b with
        | none => exact A.base b hb
        | some o2 => have := (fA _ _ _ hl).1; omega
      . show look (bI (st i).h.next h'.next h'.aA ++ H.aA) b = look (st (k + 1)).h.aA b; by_cases iC : k = i
        . subst iC; rw [sW, qS, qS]; congr 1
          have KD : look H.aA b = none := by
            cases hq : look H.aA b with
            | none => rfl
            | some o2 => exact absurd (Q5 b o2 hq) (T.KA j4 hi hE hs)
          have s7 : look (st k).h.aA b = none := by
            cases hq : look (st k).h.aA b with
            | none => rfl
            | some o2 => have h3 := sb3 b o2 hq; have h4 := hs.1; omega
          rw [KD, s7]
        have AM : E k = true := by simpa [iC] using Q4
        rw [l6 b (.inr ⟨k, AM, AN, hs⟩)]; exact A.news k AM AN b hs
      . have gD : look (bI (st i).h.next h'.next h'.aA ++ H.aA) b = some o' := hg; rw [l6 b (.inl hb)] at gD; exact EW.on (fun b hb => .inl hb) (A.aeR b o' hb gD) fW (.inl hb) (uX.hr.aA b o' hg).2
      by_cases iC : k = i
      . subst iC; have gD : look (bI (st k).h.next h'.next h'.aA ++ H.aA) b = some o' := hg; rw [qS] at gD
        cases hl : look (bI (st k).h.next h'.next h'.aA) b with
        | none =>
          rw [hl] at gD
          exact absurd (Q5 b o' (show look H.aA b = some o' by simpa using gD)) (T.KA j4 hi hE hs)
        | some o2 =>
          rw [hl] at gD; simp only [Option.some_or, Option.some.injEq] at gD; subst gD; have h3 := (fA _ _ _ hl).2; obtain ⟨h4, h5⟩ := m.hr.aA b o2 h3; rw [(uY b h4).2]; exact h5.mono uY
      have AM : E k = true := by simpa [iC] using Q4
      have gD : look (bI (st i).h.next h'.next h'.aA ++ H.aA) b = some o' := hg; rw [l6 b (.inr ⟨k, AM, AN, hs⟩)] at gD; exact EW.on (Q2 I.down AM) (A.aeS k AM AN b o' hs gD) fW (.inr ⟨k, AM, AN, hs⟩) (uX.hr.aA b o' hg).2
    refine OC gL sV N7 dW sW lO fun b hb CS => ?_; show look (bif ord then (st i).h.aA else mask (aM (st i).bs o) (st i).segs (st i).h.aA) b = H.get b; rw [N7, A.base b CS]; exact sb1 b CS
  -- something old has been turned
  have hpi : p <= i := by
    have h1 := Bm.all i WX; rw [hE] at h1
    have : ¬ i < p := fun h => by have := h1.2 h; cases this
    omega
  have N7 : ord = true := lR (T.tail p i hpi (by omega) Bm.tail)
  have hqh : ∀ q, p <= q -> q <= i -> (st q).h = (st p).h := fun q => by
    induction q with
    | zero => intro h1 _; have : p = 0 := by omega
              subst this; rfl
    | succ q ih =>
      intro h1 h2; by_cases hq : p = q + 1
      . subst hq; rfl
      have Q6 : ops[q]? = some ops[q] := Array.getElem?_eq_getElem (by omega); rcases T.wF q _ Q6 with ⟨h3, _⟩ | ⟨_, _, _, h3, _⟩
      . exfalso; have h4 := uL q (uW N7 q (by omega) h3); have := (Bm.all q h3).1 h4; omega
      rw [h3]; exact ih (by omega) (by omega)
  have hih := hqh i hpi (Nat.le_refl _)
  have Q7 : ∀ b, hm.get b = H.get b := fun b => by
    show look (bif ord then (st i).h.aA else mask (aM (st i).bs o) (st i).segs (st i).h.aA) b = H.get b; rw [N7, Bm.get b, <- hih]; rfl
  have gL : ∀ b o', hm.get b = some o' -> H.get b = some o' := fun b o' hg => by rw [<- Q7]; exact hg
  have hEB : ∀ b, SE st ops S E b -> SB st ops S i b := fun b hb => by
    rcases hb with hb | ⟨k, h1, h2, h3⟩
    . exact .inl hb
    have mB := T.CP h2 h3; have := (Bm.all k mB).1 h1; exact .inr ⟨k, uW N7 k (by omega) mB, h2, h3⟩
  have sV := ajC gL fun b o' hg => by
    obtain ⟨h3, h4⟩ := q9.aA b o' (gL b o' hg); exact ⟨hEB b h3, h4.mono fun b hb => ⟨hEB b hb, rfl⟩⟩
  refine ⟨sV, ?_⟩; rcases hk with ⟨dW, akG, sW, lO⟩ | ⟨_, dW, sW, lO⟩
  . intro cS w1 v1 a' m hv hd KB; have bO : ∀ b, SE st ops S E b -> b < (st i).h.next := fun b hb => EX b (hEB b hb)
    have l6 : ∀ b, SE st ops S E b -> look (bI (st i).h.next h'.next h'.aA ++ (st i).h.aA) b = hm.get b := fun b hb => by
      rw [qS, IZ b hb, Q7, Bm.get b, <- hih]; rfl
    have uX := CL (H2 := { next := (st ops.size).h.next, low := 0, aA := bI (st i).h.next h'.next h'.aA ++ (st i).h.aA }) (S2 := SE st ops S (fun j => E j || j == i)) (L := min (st ops.size).h.low h0.next) q9 nJ gL sV m KC N5 WY WZ
      (fun _ _ _ _ => by have : min (st ops.size).h.low h0.next <= h0.next := Nat.min_le_right _ _; omega)
      (fun b o' hb hg => by
        have gD : look (bI (st i).h.next h'.next h'.aA ++ (st i).h.aA) b = some o' := hg; rw [l6 b hb] at gD; have h4 := bO b hb; refine .inl ⟨by rw [gD]; simp, ?_⟩; rw [m.aV b h4 (Nat.lt_of_lt_of_le h4 dW)]
        exact gD)
      (fun b o' hb hg => by
        have gD : look (bI (st i).h.next h'.next h'.aA ++ (st i).h.aA) b = some o' := hg; rw [qS] at gD
        cases hl : look (bI (st i).h.next h'.next h'.aA) b with
        | none =>
          rw [hl] at gD
          have h3 : H.get b = some o' := by rw [Bm.get b, <- hih]; exact (show look (st i).h.aA b = some o' by simpa using gD)
          exact absurd (Q5 b o' h3) hb
        | some o2 =>
          rw [hl] at gD; simp only [Option.some_or, Option.some.injEq] at gD; subst gD
          exact fA _ _ _ hl)
      (fun b hb _ => by
        show look (bI (st i).h.next h'.next h'.aA ++ (st i).h.aA) b = H.get b
        rw [l6 b hb, Q7])
    have fW : ∀ b, SE st ops S E b -> glue (SE st ops S E) ρ cS b = ρ b := fun b hb => jN hb; refine ⟨_, _, I.cE.trans uX, .inr ⟨i + 1, by omega, ?_, fun b => ?_, fun k mB => ?_⟩, KB _ fW ?_, hd.trans I.defers, rfl, Q3⟩
    . rw [lO]; exact T.tail p i hpi (by omega) Bm.tail
    . show look (bI (st i).h.next h'.next h'.aA ++ (st i).h.aA) b = look (st (i + 1)).h.aA b; rw [sW]
    . by_cases iC : k = i
      . subst iC; simp
      have h3 := Bm.all k mB; simp only [beq_iff_eq, iC, or_false, Bool.or_eq_true]; rw [h3]; constructor
      . intro; omega
      intro h4; refine (Bm.all k mB).1 (uL k (uW N7 k (by omega) mB))
    refine hv.mono fun b hb => ⟨sN ρ b hb, ?_⟩; rcases hb with hb | hb
    . rw [jN (nJ b hb), m.agree b hb]
    exact sF (KC b hb.1 hb.2)
  exact OC gL sV N7 dW sW lO fun b _ _ => Q7 b
end
end Go.Fs
