/- Parts of the proof: an evaluator of the model, what it is sound for, and contracts of functions. No condition. -/
import Derived.Test.YtedakjflddcbbaaGreatDoorP0
import Derived.Lib.UnsafeStr
import Derived.Laws.BytesString
import Derived.Orders
set_option linter.all false
namespace Go.Fs
open Go.RowKit (Below)
variable {P : Program} {ρ bN : Ren} {S S' : Nat -> Prop} {B : Nat} {w0 w w' w1 w2 : World} {h h' h1 h2 : Heap}
def rG (e : TypeId) (size : Nat) (zs : Bool) (base : Option Addr) (n c m : Nat) (x : Value) (app : Sem (Array Value)) : Sem Value := do
  let wT := n + m
  if wT <= c then
    let new <- app
    if let some a := base then storeCells (a.add (n * size)) new.toList
    pure (.slice base wT c)
  else
    if (wT : Int) > IntKind.i64.max /\ (zs \/ (<- typeInfo e).bytes = 0) then runtimePanic (.error "growslice: len out of range")
    if Builtin.nextslicecap wT c * (<- typeInfo e).bytes > 2 ^ 48 then (if zs then runtimePanic (.error "growslice: len out of range") else do
      if !(<- Builtin.mayShare size n m base x) then mark .noRoom
      unsupported (.resourceLimit "append: a slice or a string whose bytes no memory bears"))
    let OH <- choose (.appendCap wT c e)
    askRoom (OH * (<- typeInfo e).bytes)
    let old <- Builtin.firstCells size n (.slice base n c)
    let new <- app
    let rest := Builtin.zeroCells (<- zeroValue e).cells (OH - wT)
    pure (.slice (some (<- newRow e (old ++ new ++ rest))) wT OH)
theorem C8 {argTypes : Array TypeId} {ty st xt e : TypeId} {xd : TypeDesc} {i : TypeInfo} {base : Option Addr} {n c m : Nat} {x : Value}
    (h0 : argTypes[0]? = some st) (h1 : argTypes[1]? = some xt) (cC : P.underlying st = some (.slice e)) (hxt : P.underlying xt = some xd) (hi : P.info? e = some i)
    (hx : isInt xd = false) (hn : (Builtin.lenOf x).run P w = .ok m w) :
    (Builtin.append_ argTypes ty #[.slice base n c, x]).run P w = (rG e i.size false base n c m x (Builtin.firstCells i.size m x)).run P w := by
  unfold Builtin.append_; simp only [h0, h1, List.getElem?_toArray, List.getElem?_cons_zero, List.getElem?_cons_succ, Sem.run_bind, run_underlying cC, run_underlying hxt, Result.andThen_ok, eI e i hi, Sem.run_pure]
  cases xd with
  | int k => cases hx
  | _ =>
    refine Eq.trans (b := Sem.run P (Builtin.lenOf x >>= fun m' => rG e i.size false base n c m' x (Builtin.firstCells i.size m' x)) w) rfl ?_; simp only [Sem.run_bind, hn, Result.andThen_ok]
theorem DP {argTypes : Array TypeId} {ty st xt e : TypeId} {xd : TypeDesc} {i : TypeInfo} {base : Option Addr} {n c k : Nat}
    (h0 : argTypes[0]? = some st) (h1 : argTypes[1]? = some xt) (cC : P.underlying st = some (.slice e)) (hxt : P.underlying xt = some xd) (hi : P.info? e = some i)
    (hx : isInt xd = true) (hk : (k : Int) <= 1099511627776) (hb : k * i.bytes <= 1099511627776) :
    (Builtin.append_ argTypes ty #[.slice base n c, .int .i64 k]).run P w = (rG e i.size true base n c k (.int .i64 k)
      (if k * i.size = 0 then pure #[] else do pure (Builtin.zeroCells (<- zeroValue e).cells k))).run P w := by
  unfold Builtin.append_; simp only [h0, h1, List.getElem?_toArray, List.getElem?_cons_zero, List.getElem?_cons_succ, Sem.run_bind, run_underlying cC, run_underlying hxt, Result.andThen_ok, eI e i hi, Sem.run_pure]
  have n1 : ¬ ((k : Int) < 0) := by omega
  have C7 : ((k : Int) * (i.bytes : Int)) <= 1099511627776 := by
    have : ((k * i.bytes : Nat) : Int) <= 1099511627776 := by omega
    simpa using this
  have n2 : ¬ ((k : Int) * (i.bytes : Int) > 2 ^ 48) := by omega
  cases xd with
  | int kd =>
    refine Eq.trans (b := Sem.run P (do
      let l <- asInt (.int .i64 (k : Int))
      let jp : Nat -> Sem Value := fun m' => rG e i.size true base n c m' (.int .i64 k) (if m' * i.size = 0 then pure #[] else do pure (Builtin.zeroCells (<- zeroValue e).cells m'))
      if IntKind.i64.wrap l < 0 then
        runtimePanic (.error "makeslice: len out of range")
        if IntKind.i64.wrap l * (<- typeInfo e).bytes > 2 ^ 48 then
          let made <- choose (.extern "append.ofMake.carriedOut" 2)
          runtimePanic (.error (if made == 1 then "makeslice: len out of range" else "growslice: len out of range"))
          jp (<- pure (IntKind.i64.wrap l).toNat)
        else jp (<- pure (IntKind.i64.wrap l).toNat)
      else
        if IntKind.i64.wrap l * (<- typeInfo e).bytes > 2 ^ 48 then
          let made <- choose (.extern "append.ofMake.carriedOut" 2)
          runtimePanic (.error (if made == 1 then "makeslice: len out of range" else "growslice: len out of range"))
          jp (<- pure (IntKind.i64.wrap l).toNat)
        else jp (<- pure (IntKind.i64.wrap l).toNat)) w) rfl ?_
    simp only [Sem.run_bind, asInt, asIntOf, Sem.run_pure, Result.andThen_ok, rS (by omega : (0 : Int) <= k) hk, n1, if_false, qN e i hi, n2, Int.toNat_natCast]
  | _ => cases hx
theorem acX : IntKind.i64.max = 9223372036854775807 := rfl
theorem AR {e : TypeId} {i : TypeInfo} {z x : Value} {zs : Bool} {base : Option Addr} {n c m : Nat} {app : Sem (Array Value)} {old new : List Value}
    (hi : P.info? e = some i) (hz : i.zero = some z) (vX : z.cells.size = i.size) (x8 : 0 < i.bytes) (al5 : c < n + m) (hbound : (n + m) * i.bytes <= 274877906944)
    (hold : (Builtin.firstCells i.size n (.slice base n c)).run P w.drew = .ok old.toArray w.drew) (sK : app.run P w.drew = .ok new.toArray w.drew) (ho : old.length = n * i.size) (hn : new.length = m * i.size) :
    ∃ cap rest, n + m <= cap /\ (old ++ new ++ rest).length = cap * i.size /\
      (rG e i.size zs base n c m x app).run P w = .ok (.slice (some ⟨w.heap.size, 0, none⟩) (n + m) cap) (w.drew.alloc (.cells (old ++ new ++ rest).toArray e)) := by
  have hnb : n + m <= 274877906944 := Nat.le_trans (Nat.le_mul_of_pos_right _ x8) hbound; have AS : i.bytes <= 274877906944 := Nat.le_trans (Nat.le_mul_of_pos_left _ (by omega)) hbound; have lG := nextslicecap_le (n + m) c al5
  have apT : Builtin.nextslicecap (n + m) c * i.bytes <= 2 ^ 48 := by
    have h1 : Builtin.nextslicecap (n + m) c * i.bytes <= (2 * (n + m) + 192) * i.bytes := Nat.mul_le_mul_right _ lG
    have h2 : (2 * (n + m) + 192) * i.bytes = 2 * ((n + m) * i.bytes) + 192 * i.bytes := by
      rw [Nat.add_mul, Nat.mul_assoc]
    omega
  have n1 : ¬ (n + m <= c) := by omega
  have n2 : ¬ ((((n + m : Nat) : Int) > IntKind.i64.max) /\ (zs = true \/ i.bytes = 0)) := by
    rw [acX]; omega
  have n3 : ¬ (Builtin.nextslicecap (n + m) c * i.bytes > 2 ^ 48) := by omega
  have hq : (Question.appendCap (n + m) c e).forced = false := rfl; refine ⟨(Question.appendCap (n + m) c e).cut (w.tape w.drawn (Question.appendCap (n + m) c e)), (Builtin.zeroCells z.cells ((Question.appendCap (n + m) c e).cut (w.tape w.drawn (Question.appendCap (n + m) c e)) - (n + m))).toList, ?_, ?_, ?_⟩
  . simp only [Question.cut]; omega
  . have hle : n + m <= (Question.appendCap (n + m) c e).cut (w.tape w.drawn (Question.appendCap (n + m) c e)) := by simp only [Question.cut]; omega
    simp only [List.length_append, ho, hn, Builtin.zeroCells, vX]; simp only [Array.toList_map, List.length_map, Array.length_toList, Array.size_range]; rw [<- Nat.add_mul, <- Nat.add_mul]; congr 1; omega
  unfold rG; simp only [n1, if_false, Sem.run_bind, qN e i hi, Result.andThen_ok, n2, n3, run_choose, hq, Bool.false_eq_true, run_askRoom]; have hd : ({ w with drawn := w.drawn + 1 } : World) = w.drew := rfl; rw [hd]; simp only [Sem.run_bind, hold, sK, Result.andThen_ok, gQ e i z hi hz, newRow, run_newObj, Sem.run_pure]; congr 2; show (w.drew.heap.push _) = _; congr 2; apply Array.toList_inj.1; simp
theorem yY {e : TypeId} {size : Nat} {x : Value} {zs : Bool} {A : Addr} {n c m : Nat} {app : Sem (Array Value)} {new : List Value} (hle : n + m <= c) (sK : app.run P w = .ok new.toArray w)
    (cC : (storeCells (A.add (n * size)) new).run P w = .ok () w') : (rG e size zs (some A) n c m x app).run P w = .ok (.slice (some A) (n + m) c) w' := by
  unfold rG; simp only [hle, if_true, Sem.run_bind, sK, Result.andThen_ok, cC, Sem.run_pure]
structure App (P : Program) (ρ : Ren) (S : Nat -> Prop) (w : World) (app : Sem (Array Value)) (news : List Value) : Prop where
  here : ∃ new, LR ρ S news new /\ app.run P w = .ok new.toArray w
  drew : ∃ new, LR ρ S news new /\ app.run P w.drew = .ok new.toArray w.drew
theorem M5 {e : TypeId} {i : TypeInfo} {n m c : Nat} {olds news old new rest : List Value} (hr : HR P ρ S B w0 h w) (hi : P.info? e = some i)
    (ho : LR ρ S olds old) (hn : LR ρ S news new) (hle : n + m <= c) (hlen : (old ++ new ++ rest).length = c * i.size) :
    oV P B w0 ρ S h w (grown e (n + m) (olds ++ news) h).1 (grown e (n + m) (olds ++ news) h).2 (.ok (.slice (some ⟨w.heap.size, 0, none⟩) (n + m) c) (w.drew.alloc (.cells (old ++ new ++ rest).toArray e))) := by
  have rR : HR P ρ S B w0 h w.drew := hr.drew _; have pX := ho.1; have iT := hn.1
  have hm := vV rR e (cs := olds ++ news) (cur := old ++ new ++ rest) true (by simp; omega) (fun e => by cases e) (fun j hj => by
    have h1 := (ho.append hn).2 j hj; rw [List.getD_eq_getElem?_getD, List.getD_eq_getElem?_getD] at h1 ⊢; rw [List.getElem?_append_left (show j < (old ++ new).length by simp at hj ⊢; omega)]
    exact h1)
  refine ⟨_, _, _, rfl, aO.vW hm, ?_⟩; exact pW hr.pos (n + m) c _ rfl hle (by rw [hlen, j3 hi]) _ (Ext.lP _)
theorem RD {e : TypeId} {i : TypeInfo} {z s s' x v : Value} {zs : Bool} {m : Nat} {news : List Value} {app : Sem (Array Value)} (hr : HR P ρ S B w0 h w) (hi : P.info? e = some i) (hz : i.zero = some z) (vX : z.cells.size = i.size)
    (cX : 0 < i.size) (x8 : 0 < i.bytes) (AT : news.length = m * i.size) (mG : news.all aT = true) (hs : VR ρ S s s') (sK : App P ρ S w app news) (hf : mN e i s m news h = some (v, h')) :
    ∃ base n c, s' = .slice base n c /\ oV P B w0 ρ S h w v h' ((rG e i.size zs base n c m x app).run P w) := by
  obtain ⟨wU, rF, IK⟩ := sK.here; obtain ⟨xR, pX, V2⟩ := sK.drew; have rR : HR P ρ S B w0 h w.drew := hr.drew _; unfold mN at hf; split at hf
  . obtain rfl := hs.iZ; refine ⟨none, 0, 0, rfl, ?_⟩
    cases hm : Nat.beq m 0 with
    | true =>
      rw [hm] at hf; simp only [cond_true, Option.some.injEq, Prod.mk.injEq] at hf; obtain ⟨rfl, rfl⟩ := hf; obtain rfl := bI hm
      have : (rG e i.size zs none 0 0 0 x app).run P w = .ok (.slice none 0 0) w := by
        unfold rG; simp only [Nat.add_zero, Nat.le_refl, if_true, Sem.run_bind, IK, Result.andThen_ok, Sem.run_pure]
      rw [this]
      exact oV.pure hr (.lit rfl)
    | false =>
      rw [hm] at hf; simp only [cond_false] at hf; obtain ⟨hb, cO⟩ := aL hf; clear hf; have hb := dY hb; have hm0 := fS hm; simp only [Option.some.injEq] at cO; obtain ⟨cap, rest, h1, h2, h3⟩ := AR (P := P) (w := w) (e := e) (i := i) (x := x) (zs := zs) (base := none) (n := 0) (c := 0) (m := m) (app := app) (old := []) (new := xR) hi hz vX x8 (by omega) (by simpa using hb) (by simp [Builtin.firstCells]) V2 (by simp) (by rw [<- pX.1, AT]); have h4 := M5 (n := 0) (m := m) hr hi (olds := []) LR.nil pX h1 h2; rw [h3]; simp only [Nat.zero_add, List.nil_append] at h4 cO ⊢; rw [cO] at h4; exact h4
  . rename_i b o n mk; obtain ⟨A, c, rfl, hn, OG, h0, hb⟩ := hs.gF; refine ⟨some A, n, c, rfl, ?_⟩
    cases hq : (Nat.beq m 0 && Nat.beq mk 1) with
    | true =>
      rw [hq] at hf; simp only [cond_true, Option.some.injEq, Prod.mk.injEq] at hf; obtain ⟨rfl, rfl⟩ := hf; obtain ⟨hm, mT⟩ := aY hq; obtain rfl := bI hm; have n6 : wU = [] := List.eq_nil_of_length_eq_zero (by rw [<- rF.1, AT]; simp); subst n6; have hc := OG (bI mT); rw [yY (w' := w) (by omega) IK rfl]
      exact oV.pure hr (by simpa using hs)
    | false =>
      rw [hq] at hf; simp only [cond_false] at hf; split at hf
      . rename_i e' cs own more hg; obtain ⟨uS, cO⟩ := aL hf; clear hf; obtain ⟨mS, hle⟩ := aY uS; obtain ⟨he, hbd⟩ := aY mS; obtain rfl := bI he; have hbd := dY hbd; have hle := dY hle; have kZ := (hr.aA b _ hg).2; have jI : b ≠ 0 := (hr.ids b (hr.aA b _ hg).1).2; obtain ⟨hS, rfl, lG⟩ := hb jI; have FV := kZ.AQ.trans (j3 hi); have nY : ∀ i, i < cs.length -> ∃ v, w.cell? ((ρ b).at i) = some v /\ VR ρ S (cs.getD i undef) v := fun i hi => kZ.cell hi
        -- the old elements, read behind the draw
        obtain ⟨olds, hold, uP⟩ := qO (P := P) (w := w.drew) (l := ρ b) (ρ := ρ) (S := S) (o := o) (n := n * i.size) nY hle
        have OI : olds.length = n * i.size := by rw [<- uP.1]; simp; omega
        have vY : (Builtin.firstCells i.size n (.slice (some ((ρ b).at o)) n c)).run P w.drew = .ok olds.toArray w.drew := hold
        have acY : c < n + m -> oV P B w0 ρ S h w (grown e' (n + m) ((cs.drop o).take (n * i.size) ++ news) h).1 (grown e' (n + m) ((cs.drop o).take (n * i.size) ++ news) h).2
            ((rG e' i.size zs (some ((ρ b).at o)) n c m x app).run P w) := fun b7 => by
          obtain ⟨cap, rest, h1, h2, h3⟩ := AR (P := P) (w := w) (e := e') (i := i) (x := x) (zs := zs) (base := some ((ρ b).at o)) (n := n) (c := c) (m := m) (app := app) (old := olds) (new := xR) hi hz vX x8 b7 hbd vY V2 OI (by rw [<- pX.1, AT]); rw [h3]; exact M5 hr hi uP pX h1 h2
        cases Y6 : Nat.beq mk 1 with
        | true =>
          rw [Y6] at cO; simp only [cond_true, Option.some.injEq] at cO; have hc := OG (bI Y6)
          have hm0 : m ≠ 0 := fun e => by subst e; simp [Y6] at hq
          have := acY (by omega); rw [cO] at this
          exact this
        | false =>
          rw [Y6] at cO; simp only [cond_false] at cO; obtain ⟨zR, oZ⟩ := aL cO; clear cO; obtain ⟨anK, jT⟩ := aY zR; have lG := lG (bI anK); rw [FV] at lG; subst jT; obtain ⟨cur, acZ, Y7, ak1, _, hlc, al6, anL⟩ := kZ
          cases uD : Nat.ble (o + (n + m) * i.size) cs.length with
          | true =>
            rw [uD] at oZ; simp only [cond_true, Option.some.injEq, Prod.mk.injEq] at oZ; obtain ⟨rfl, AU⟩ := oZ; have uD := dY uD
            have zS : n + m <= c := by
              have h1 : (n + m) * i.size <= c * i.size := by omega
              exact Nat.le_of_mul_le_mul_right h1 cX
            have FW : VR ρ S (.slice (some ⟨b, o, none⟩) (n + m) 0) (.slice (some ((ρ b).at o)) (n + m) c) :=
              .slice b o (n + m) 0 c _ zS (fun e => by cases e) (fun e => absurd e jI) (fun _ => ⟨hS, rfl, fun _ => by rw [FV]; exact lG⟩)
            cases hm : Nat.beq m 0 with
            | true =>
              rw [hm] at AU; simp only [cond_true] at AU; subst AU; have hm0 := bI hm; have n6 : wU = [] := List.eq_nil_of_length_eq_zero (by rw [<- rF.1, AT, hm0]; simp); subst n6; rw [yY (w' := w) zS IK rfl]
              exact oV.pure hr FW
            | false =>
              rw [hm] at AU; simp only [cond_false] at AU; subst AU; have anM : (n + m) * i.size = n * i.size + m * i.size := Nat.add_mul _ _ _; obtain ⟨w2, h1, h2⟩ := oX (o := o + n * i.size) hr hg rF mG (by omega); rw [yY (w' := w2) zS IK (by rw [Loc.tP]; exact h1)]
              exact ⟨ρ, w2, _, rfl, h2, FW.mono fun b hb => ⟨.inl hb, rfl⟩⟩
          | false =>
            rw [uD] at oZ; simp only [cond_false] at oZ; have uD := gR uD
            cases hmr : more with
            | false =>
              rw [hmr] at oZ; simp only [Bool.not_false, cond_true, Option.some.injEq] at oZ; have rQ := al6 hmr
              have b7 : c < n + m := by
                have h1 : c * i.size < (n + m) * i.size := by omega
                exact Nat.lt_of_mul_lt_mul_right h1
              have := acY b7; rw [oZ] at this
              exact this
            | true =>
              rw [hmr] at oZ; simp only [Bool.not_true, cond_false] at oZ; obtain ⟨hc4, AU⟩ := aL oZ; clear oZ; obtain ⟨ho0, OJ⟩ := aY hc4; obtain rfl := bI ho0; have OJ := bI OJ; simp only [Option.some.injEq] at AU; have aq3 : iB (.row e' cs true more) = true := rfl; have hB := hr.base b _ hg rfl; have ak2 := (hr.aA b _ hg).2.lt rfl; by_cases zS : n + m <= c
              . -- in place
                have anM : (n + m) * i.size = n * i.size + m * i.size := Nat.add_mul _ _ _; have L5 : (n + m) * i.size <= c * i.size := Nat.mul_le_mul_right _ zS
                have aq4 : wU.length = m * i.size := by rw [<- rF.1, AT]
                have eZ := nZ P (ρ b).block (n * i.size) e' (ρ b).fz wU 0 cur.toArray w acZ (by have := (ρ b).hfz; simpa [ak1] using this) (by simp; omega) (fun v lF => by rw [FT]; exact rF.aT mG v lF); simp only [Nat.add_zero] at eZ
                have rE : (ρ b).at (n * i.size) = ⟨(ρ b).block, n * i.size, none⟩ := by simp [Loc.at, Y7]
                rw [yY zS IK (by rw [Loc.tP, Nat.zero_add, rE]; exact eZ)]
                have hmv := aO.replace hr hg rfl (o' := .row e' (cs ++ news) true true) rfl (ρ b) (.inl rfl) hB (w' := w.setRow (ρ b).block (cur.toArray.toList.take (n * i.size) ++ wU ++ cur.toArray.toList.drop (n * i.size + wU.length)).toArray)
                  rfl rfl rfl (by simp [World.setRow]) (fun k _ hk => setRow_other w _ k _ hk)
                  ⟨cur.take (n * i.size) ++ wU ++ cur.drop (n * i.size + wU.length), by rw [setRow_heap w _ cur.toArray _ e' _ acZ], Y7, by rw [sJ _ _ _ (by omega)]; exact ak1, (hr.aA b _ hg).2.AQ,
                    by rw [sJ _ _ _ (by omega)]; simp; omega, (fun e => by cases e), fun j hj => by
                      have L0 : j < cs.length + news.length := by simpa using hj
                      rw [List.getD_eq_getElem?_getD, List.getD_eq_getElem?_getD, pV cur _ wU (by omega), List.getElem?_append, <- OJ]; by_cases h1 : j < n * i.size
                      . rw [if_pos h1, if_pos h1]; have := (anL j (by omega)).mono (hr.qM (ρ b) (.row e' (cs ++ news) true true)); rw [List.getD_eq_getElem?_getD, List.getD_eq_getElem?_getD] at this; exact this
                      rw [if_neg h1, if_neg h1, if_pos (by omega)]; have := (rF.2 (j - n * i.size) (by omega)).mono (hr.qM (ρ b) (.row e' (cs ++ news) true true)); rw [List.getD_eq_getElem?_getD, List.getD_eq_getElem?_getD] at this
                      exact this⟩
                simp only [grown, Prod.mk.injEq] at AU; obtain ⟨rfl, rfl⟩ := AU; refine ⟨_, _, _, rfl, hmv, ?_⟩; have := pW (ρ := ρ) (S := S) hr.pos (n + m) c (ρ b) Y7 zS (by rw [FV]; omega) ((h.drop b).push (.row e' (cs ++ news) true true)) (.inr ⟨Nat.le_refl _, Nat.lt_succ_self _⟩)
                have h0 : (ρ b).at 0 = ⟨(ρ b).block, 0, none⟩ := by simp [Loc.at, Y7]
                rw [h0]; exact this
              -- a new row
              obtain ⟨cap, rest, h1, h2, h3⟩ := AR (P := P) (w := w) (e := e') (i := i) (x := x) (zs := zs) (base := some ((ρ b).at 0)) (n := n) (c := c) (m := m) (app := app) (old := olds) (new := xR) hi hz vX x8 (by omega) hbd vY V2 OI (by rw [<- pX.1, AT]); rw [h3]
              have iJ : (cs.drop 0).take (n * i.size) = cs := by rw [OJ]; simp
              rw [iJ] at uP; have iT := pX.1; have IL := uP.1
              have hmv := aO.replace (w := w.drew) rR hg rfl (o' := .row e' (cs ++ news) true true) rfl (.clean w.heap.size 0 (olds ++ xR ++ rest).length (P.cellsOf e')) (.inr (Nat.le_refl _)) hr.size
                (w' := w.drew.alloc (.cells (olds ++ xR ++ rest).toArray e')) rfl rfl rfl (by simp) (fun k hk _ => Below.heap_alloc w.drew _ k hk)
                ⟨olds ++ xR ++ rest, heap_alloc_new w.drew _, rfl, rfl, rfl, by simp; omega, (fun e => by cases e), fun j hj => by
                  have h4 := ((uP.append pX).mono (hr.qM (.clean w.heap.size 0 (olds ++ xR ++ rest).length (P.cellsOf e')) (.row e' (cs ++ news) true true))).2 j hj; rw [List.getD_eq_getElem?_getD, List.getD_eq_getElem?_getD] at h4 ⊢; rw [List.getElem?_append_left (show j < (olds ++ xR).length by simp at hj ⊢; omega)]
                  exact h4⟩
              simp only [grown, Prod.mk.injEq] at AU; obtain ⟨rfl, rfl⟩ := AU; refine ⟨_, _, _, rfl, aO.vW hmv, ?_⟩; exact pW hr.pos (n + m) cap _ rfl h1 (by rw [h2, j3 hi]) _ (.inr ⟨Nat.le_refl _, Nat.lt_succ_self _⟩)
      cases hf
  cases hf
theorem V3 {argTypes : Array TypeId} {ty : TypeId} {s x s' x' v : Value} (hr : HR P ρ S B w0 h w) (hs : VR ρ S s s') (hx : VR ρ S x x') (hf : fQ P argTypes s x h = some (v, h')) :
    oV P B w0 ρ S h w v h' ((Builtin.append_ argTypes ty #[s', x']).run P w) := by
  unfold fQ at hf; split at hf
  . rename_i st xt h0 h1; split at hf
    . rename_i e xd cC hxt; split at hf
      . rename_i i hi; split at hf
        . rename_i z hz; split at hf
          . rename_i m news sK; obtain ⟨hc, cO⟩ := aL hf; clear hf; obtain ⟨uS, vX⟩ := aY hc; obtain ⟨mS, mG⟩ := aY uS; obtain ⟨zR, AT⟩ := aY mS; obtain ⟨cX, x8⟩ := aY zR; have cX := jB cX; have x8 := jB x8; have AT := bI AT; have vX := bI vX; obtain ⟨wU, a1, a2, a3⟩ := C6 hi hz vX cX hr hx sK; obtain ⟨xR, b1, b2, b3⟩ := C6 hi hz vX cX (hr.drew (w.drawn + 1)) hx sK
            cases hxi : isInt xd with
            | false =>
              rw [hxi] at a2 a3 b3; simp only [Bool.false_eq_true, if_false, Bool.not_false, if_true] at a2 a3 b3; have ad0 : App P ρ S w (Builtin.firstCells i.size m x') news := ⟨⟨wU, a1, a3⟩, ⟨xR, b1, b3⟩⟩; obtain ⟨base, n, c, rfl, jU⟩ := RD (x := x') (zs := false) hr hi hz vX cX x8 AT mG hs ad0 cO; rw [C8 h0 h1 cC hxt hi hxi a2]
              exact jU
            | true =>
              have RE : ∃ k : Nat, x' = .int .i64 k /\ m = k /\ (k : Int) <= 1099511627776 /\ k * i.bytes <= 1099511627776 := by
                rw [hxi] at sK; unfold j7 at sK; simp only [cond_true] at sK; split at sK
                . rename_i l; obtain ⟨hd, oZ⟩ := aL sK; obtain ⟨DQ, _⟩ := aY hd; obtain ⟨V0, AS⟩ := aY DQ; obtain ⟨rF, pX⟩ := aY V0; have rF := of_decide_eq_true rF; have pX := of_decide_eq_true pX; obtain ⟨k, rfl⟩ := Int.eq_ofNat_of_zero_le rF; simp only [Int.toNat_natCast, Option.some.injEq, Prod.mk.injEq] at oZ AS; exact ⟨k, hx.qV, oZ.1.symm, pX, dY AS⟩
                cases sK
              obtain ⟨k, rfl, rfl, H4, uF⟩ := RE; rw [hxi] at a3 b3; simp only [Bool.not_true, Bool.false_eq_true, if_false] at a3 b3; have ad0 : App P ρ S w (if m * i.size = 0 then pure #[] else do pure (Builtin.zeroCells (<- zeroValue e).cells m)) news := ⟨⟨wU, a1, a3⟩, ⟨xR, b1, b3⟩⟩; obtain ⟨base, n, c, rfl, jU⟩ := RD (x := .int .i64 m) (zs := true) hr hi hz vX cX x8 AT mG hs ad0 cO; rw [DP h0 h1 cC hxt hi hxi H4 uF]; exact jU
          cases hf
        cases hf
      cases hf
    cases hf
  cases hf
end Go.Fs
namespace Go.Fs
open Go.RowKit (Below)
variable {P : Program} {ρ bN : Ren} {S S' : Nat -> Prop} {B : Nat} {w0 w w' w1 w2 : World} {h h' h1 h2 : Heap}
def wV (es eH : List MapEntry) : Prop := es.length = eH.length /\ ∀ (i : Nat) (e e' : MapEntry), es[i]? = some e -> eH[i]? = some e' -> e'.key = e.key
def DR (es eH : List MapEntry) (i : Nat) : Option (Nat × Value) -> Option (Nat × Value) -> Prop
  | none, none => True
  | some (j, v), some (j', v') => j' = j /\ ∃ m e e', j = i + m /\ es[m]? = some e /\ eH[m]? = some e' /\ v = e.val /\ v' = e'.val
  | _, _ => False
theorem DR.step {es eH : List MapEntry} {a a' : MapEntry} {i : Nat} {r r' : Option (Nat × Value)} (h : DR es eH (i + 1) r r') : DR (a :: es) (a' :: eH) i r r' := by
  match r, r', h with
  | none, none, _ => trivial
  | some (j, v), some (j', v'), ⟨h1, m, e, e', h2, h3, h4, h5⟩ => exact ⟨h1, m + 1, e, e', by omega, by simpa using h3, by simpa using h4, h5⟩
theorem wV.tail {es eH : List MapEntry} {a a' : MapEntry} (h : wV (a :: es) (a' :: eH)) : a'.key = a.key /\ wV es eH :=
  ⟨h.2 0 a a' rfl rfl, by simpa using h.1, fun i e e' he lS => h.2 (i + 1) e e' (by simpa using he) (by simpa using lS)⟩
theorem xS {d : TypeDesc} {k : Value} : ∀ (es eH : List MapEntry) (i : Nat), wV es eH ->
    (Instr.findNow d k es i = none -> Instr.findNow d k eH i = none) /\ ∀ r, Instr.findNow d k es i = some r -> ∃ r', Instr.findNow d k eH i = some r' /\ DR es eH i r r'
  | [], [], i, _ => ⟨fun h => h, fun r h => ⟨none, rfl, by simp only [Instr.findNow, Option.some.injEq] at h; subst h; trivial⟩⟩
  | [], _ :: _, _, h => by simp [wV] at h
  | _ :: _, [], _, h => by simp [wV] at h
  | a :: es, a' :: eH, i, h => by
    obtain ⟨hk, ht⟩ := h.tail; obtain ⟨ih1, ih2⟩ := xS (d := d) (k := k) es eH (i + 1) ht; simp only [Instr.findNow, hk]
    cases hs : Instr.sameNow d k a.key with
    | none => exact ⟨fun _ => rfl, fun r hr => by cases hr⟩
    | some b =>
      cases b with
      | true =>
        refine ⟨fun hc => by (cases hc), fun r hr => ?_⟩; simp only [Option.some.injEq] at hr; subst hr
        exact ⟨_, rfl, rfl, 0, a, a', rfl, rfl, rfl, rfl, rfl⟩
      | false =>
        refine ⟨fun hc => ih1 hc, fun r hr => ?_⟩; obtain ⟨r', h1, h2⟩ := ih2 r hr; exact ⟨r', h1, h2.step⟩
theorem xT {t : TypeId} {k : Value} : ∀ (es eH : List MapEntry) (i : Nat) (r : Option (Nat × Value)), wV es eH -> aC P (Instr.findAsking t k es i) = some r ->
    ∃ r', aC P (Instr.findAsking t k eH i) = some r' /\ DR es eH i r r'
  | [], [], i, r, _, h => ⟨none, rfl, by
      have h' : some none = some r := h
      simp only [Option.some.injEq] at h'; subst h'; trivial⟩
  | [], _ :: _, _, _, h, _ => by simp [wV] at h
  | _ :: _, [], _, _, h, _ => by simp [wV] at h
  | a :: es, a' :: eH, i, r, h, hr => by
    obtain ⟨hk, ht⟩ := h.tail; simp only [Instr.findAsking, aE, hk] at hr ⊢
    cases hs : aC P (Op.equal t k a.key) with
    | none => rw [hs] at hr; cases hr
    | some b =>
      rw [hs] at hr; simp only [Option.bind_some] at hr ⊢
      cases b with
      | true =>
        simp only [if_true, aQ, Option.some.injEq] at hr ⊢; subst hr
        exact ⟨_, rfl, rfl, 0, a, a', rfl, rfl, rfl, rfl, rfl⟩
      | false =>
        simp only [Bool.false_eq_true, if_false] at hr ⊢; obtain ⟨r', h1, h2⟩ := xT es eH (i + 1) r ht hr; exact ⟨r', h1, h2.step⟩
theorem C9 {t : TypeId} {k : Value} {es eH : List MapEntry} {r : Option Nat} (hk : wV es eH) (hf : vM P t k es = some r) (w : World) :
    ∃ a a', (Instr.findKey t k eH).run P w = .ok a' w /\ DR es eH 0 a a' /\ r = a.map (·.1) := by
  unfold vM at hf; split at hf
  . rename_i d hd; split at hf
    . rename_i a ha; simp only [Option.some.injEq] at hf; obtain ⟨a', h1, h2⟩ := (xS es eH 0 hk).2 a ha; exact ⟨a, a', by simp [Instr.findKey, run_underlying hd, Result.andThen, h1], h2, hf.symm⟩
    rename_i ha; have h1 := (xS es eH 0 hk).1 ha; obtain ⟨a, h2, h3⟩ := Option.map_eq_some_iff.1 hf; obtain ⟨a', h4, h5⟩ := xT es eH 0 a hk h2; refine ⟨a, a', ?_, h5, h3.symm⟩; simp only [Instr.findKey, Sem.run_bind, run_underlying hd, Result.andThen_ok, h1]; exact bU h4 w
  cases hf
theorem xU {r : Nat} {es : Array MapEntry} {clock : Nat} (hb : w.heap[r]? = some (.map es clock)) : (getObj r).run P w = .ok (.map es clock) w := by
  simp [getObj, Sem.run, hb]
theorem FX {r : Nat} {es : Array MapEntry} {clock : Nat} (o : Obj) (hb : w.heap[r]? = some (.map es clock)) : (setObj r o).run P w = .ok () { w with heap := w.heap.setIfInBounds r o } := by
  simp [setObj, Sem.run, hb]
theorem yZ {r : Nat} {o o' : Obj} (hb : w.heap[r]? = some o) : (w.heap.setIfInBounds r o')[r]? = some o' /\ ∀ r', r' ≠ r -> (w.heap.setIfInBounds r o')[r']? = w.heap[r']? := by
  have b7 : r < w.heap.size := (Array.getElem?_eq_some_iff.1 hb).1; exact ⟨by simp [b7], fun r' cL => by simp [Ne.symm cL]⟩
theorem RF {b : Nat} {es : List MapEntry} {clock : Nat} (hr : HR P ρ S B w0 h w) (hg : h.get b = some (.nG es clock)) :
    ∃ eH : List MapEntry, w.heap[(ρ b).block]? = some (.map eH.toArray clock) /\ es.length = eH.length /\
      ∀ (i : Nat) (e e' : MapEntry), es[i]? = some e -> eH[i]? = some e' -> e'.key = e.key /\ af e.key = true /\ e'.born = e.born /\ VR ρ S e.val e'.val := (hr.aA b _ hg).2
theorem rT {t : TypeId} {k : Value} {em : Bool} (hc : (aC P (Instr.checkKey em 10000 t k)).isSome = true) (w : World) : (Instr.checkKey em 10000 t k).run P w = .ok () w := by
  obtain ⟨u, hu⟩ := Option.isSome_iff_exists.1 hc; exact bU hu w
theorem V4 {t : TypeId} {x x' k k' v : Value} {ok : Bool} (hr : HR P ρ S B w0 h w) (hx : VR ρ S x x') (hk : VR ρ S k k') (hf : fR P t x k ok h = some v) :
    ∃ v', (Instr.lookup t x' k' ok).run P w = .ok v' w /\ VR ρ S v v' := by
  unfold fR at hf; split at hf
  . rename_i key elem hu; split at hf
    . rename_i z hz; simp only at hf; split at hf
      . rename_i es RG; split at hf
        . rename_i hc; obtain ⟨hak, haz, hck⟩ := hc; obtain rfl := hk.dH hak
          -- the map's entries in the world
          have anN : ∃ eH : List MapEntry, (x' = .map none /\ eH = [] \/ ∃ r clock, x' = .map (some r) /\ w.heap[r]? = some (.map eH.toArray clock)) /\ wV es eH /\
              ∀ (i : Nat) (e e' : MapEntry), es[i]? = some e -> eH[i]? = some e' -> VR ρ S e.val e'.val := by
            split at RG
            . simp only [Option.some.injEq] at RG; subst RG; obtain rfl := hx.gE rfl; exact ⟨[], .inl ⟨rfl, rfl⟩, ⟨rfl, fun i e e' he => by simp at he⟩, fun i e e' he => by simp at he⟩
            . rename_i b; obtain ⟨hs, rfl⟩ := hx.xM; split at RG
              . rename_i es2 clock hg; simp only [Option.some.injEq] at RG; subst RG; obtain ⟨eH, h1, h2, h3⟩ := RF hr hg; exact ⟨eH, .inr ⟨_, _, rfl, h1⟩, ⟨h2, fun i e e' he lS => (h3 i e e' he lS).1⟩, fun i e e' he lS => (h3 i e e' he lS).2.2.2⟩
              cases RG
            cases RG
          obtain ⟨eH, h1, h2, h3⟩ := anN
          have hem : eH.toArray.isEmpty = es.isEmpty := by
            have := h2.1; cases es <;> cases eH <;> simp_all
          obtain ⟨i, hi, hiz⟩ := Option.bind_eq_some_iff.1 hz; have L3 := gQ elem i z hi hiz w
          have IM : ∀ a', (Instr.findKey key k' eH).run P w = .ok a' w -> ∀ v0 b0, (match a' with | some (_, v) => v0 = v /\ b0 = true | none => v0 = z /\ b0 = false) ->
              (Instr.lookup t x' k' ok).run P w = .ok (if ok then .tuple #[v0, .bool b0] else v0) w := fun a' oL v0 b0 hvb => by
            unfold Instr.lookup; simp only [Sem.run_bind, run_underlying hu, Result.andThen_ok]; rcases h1 with ⟨rfl, rfl⟩ | ⟨r, clock, rfl, h1⟩
            . have anO : (#[] : Array MapEntry).isEmpty = es.isEmpty := hem; have ha2 : (Instr.findKey key k' (#[] : Array MapEntry).toList).run P w = .ok a' w := oL; simp only [Sem.run_bind, Sem.run_pure, Result.andThen_ok, anO, rT hck, ha2]
              cases a' with
              | none =>
                obtain ⟨rfl, rfl⟩ := hvb
                simp only [Sem.run_bind, L3, Result.andThen_ok, Sem.run_pure]
              | some p =>
                obtain ⟨rfl, rfl⟩ := hvb; simp only [Sem.run_bind, Result.andThen_ok, Sem.run_pure]
            simp only [Sem.run_bind, Sem.run_pure, xU h1, Result.andThen_ok, hem, rT hck, oL]
            cases a' with
            | none =>
              obtain ⟨rfl, rfl⟩ := hvb
              simp only [Sem.run_bind, L3, Result.andThen_ok, Sem.run_pure]
            | some p =>
              obtain ⟨rfl, rfl⟩ := hvb; simp only [Sem.run_bind, Result.andThen_ok, Sem.run_pure]
          have wrap : ∀ v0 v1 b0, VR ρ S v0 v1 -> VR ρ S (if ok = true then .tuple #[v0, .bool b0] else v0) (if ok = true then .tuple #[v1, .bool b0] else v1) := fun v0 v1 b0 hv => by
            cases ok with
            | false => exact hv
            | true => exact VR.tuple' (LR.cons hv (LR.cons (.lit rfl) LR.nil))
          split at hf
          . rename_i j hj; obtain ⟨a, a', h4, h5, h6⟩ := C9 h2 hj w; split at hf
            . rename_i e he; simp only [Option.some.injEq] at hf; subst hf
              match a, a', h5 with
              | some (j1, v1), some (j2, v2), ⟨e1, m, e3, e4, e5, e6, e7, e8, e9⟩ =>
                simp only [Option.map_some, Option.some.injEq] at h6; subst h6
                have : m = j := by omega
                subst this; rw [e6] at he; injection he with he; subst he e9
                exact ⟨_, IM _ h4 e4.val true ⟨rfl, rfl⟩, wrap _ _ _ (h3 _ _ _ e6 e7)⟩
              | none, none, _ => simp at h6
            cases hf
          . rename_i hj; obtain ⟨a, a', h4, h5, h6⟩ := C9 h2 hj w; simp only [Option.some.injEq] at hf; subst hf
            match a, a', h5 with
            | some (j1, v1), some (j2, v2), _ => simp at h6
            | none, none, _ => exact ⟨_, IM _ h4 z false ⟨rfl, rfl⟩, wrap _ _ _ (.mF haz)⟩
          cases hf
        cases hf
      cases hf
    cases hf
  cases hf
theorem A5 {t : TypeId} {m m' k k' x x' : Value} (hr : HR P ρ S B w0 h w) (hm : VR ρ S m m') (hk : VR ρ S k k') (hx : VR ρ S x x') (hf : lA P t m k x h = some h') :
    ∃ w', (Instr.mapUpdate t m' k' x').run P w = .ok () w' /\ aO P B w0 ρ ρ S h h' w w' := by
  unfold lA at hf; split at hf
  . rename_i key elem b hu; obtain ⟨hs, rfl⟩ := hm.xM; split at hf
    . rename_i es clock hg; split at hf
      . rename_i hc; obtain ⟨hak, hck⟩ := hc; obtain rfl := hk.dH hak; obtain ⟨eH, h1, h2, h3⟩ := RF hr hg; have hkr : wV es eH := ⟨h2, fun i e e' he lS => (h3 i e e' he lS).1⟩
        have put : ∀ (es2 RH : List MapEntry) (c2 : Nat), es2.length = RH.length ->
            (∀ (i : Nat) (e e' : MapEntry), es2[i]? = some e -> RH[i]? = some e' -> e'.key = e.key /\ af e.key = true /\ e'.born = e.born /\ VR ρ S e.val e'.val) ->
            aO P B w0 ρ ρ S h (h.set b (.nG es2 c2)) w { w with heap := w.heap.setIfInBounds (ρ b).block (.map RH.toArray c2) } := fun es2 RH c2 hl hv =>
          aO.set hr hg rfl rfl rfl rfl rfl (by simp) (fun k hk => (yZ h1).2 k hk) ⟨RH, (yZ h1).1, hl, hv⟩
        split at hf
        . rename_i j hj; obtain ⟨a, a', h4, h5, h6⟩ := C9 hkr hj w; split at hf
          . rename_i e he; split at hf
            . rename_i gH; simp only [Option.some.injEq] at hf; subst hf
              match a, a', h5 with
              | some (j1, v1), some (j2, v2), ⟨e1, m, e3, e4, e5, e6, e7, e8, e9⟩ =>
                simp only [Option.map_some, Option.some.injEq] at h6
                have q1 : m = j2 := by omega
                have q2 : m = j := by omega
                subst q1 q2; rw [e6] at he; injection he with he; subst he; have anP := (h3 _ _ _ e6 e7).1; refine ⟨_, ?_, put (es.set m { e3 with key := k', val := x }) (eH.set m { e4 with key := k', val := x' }) clock (by simp [h2]) ?_⟩
                . unfold Instr.mapUpdate
                  have hg4 : ((eH.toArray[m]?).map (·.key)).getD k' = e3.key := by simp [e7, anP]
                  simp only [Sem.run_bind, run_underlying hu, Result.andThen_ok, xU h1, rT hck, h4, hg4, Instr.keyThatStays, gH, if_true, Sem.run_pure, FX _ h1]; congr 3; apply congrArg (fun z => Obj.map z clock); apply Array.toList_inj.1; refine List.ext_getElem? fun q => ?_; simp only [Array.toList_modify, List.getElem?_modify, List.getElem?_set]; have b7 := (List.getElem?_eq_some_iff.1 e7).1; by_cases hq : m = q
                  . subst hq
                    have h9 : eH[m] = e4 := by
                      have := List.getElem?_eq_getElem b7; rw [e7] at this; injection this with this; exact this.symm
                    simp [b7, h9]
                  simp [hq]
                intro i e e' he lS; rw [List.getElem?_set] at he lS; split at he
                . rename_i hq; rw [if_pos hq] at lS; split at he
                  . split at lS
                    . injection he with he; injection lS with lS; subst he lS; exact ⟨rfl, hak, (h3 _ _ _ e6 e7).2.2.1, hx⟩
                    cases lS
                  cases he
                rename_i hq; rw [if_neg hq] at lS
                exact h3 i e e' he lS
              | none, none, _ => simp at h6
            cases hf
          cases hf
        . rename_i hj; obtain ⟨a, a', h4, h5, h6⟩ := C9 hkr hj w; simp only [Option.some.injEq] at hf; subst hf
          match a, a', h5 with
          | some (j1, v1), some (j2, v2), _ => simp at h6
          | none, none, _ =>
            refine ⟨_, ?_, put (es ++ [{ key := k', val := x, born := clock }]) (eH ++ [{ key := k', val := x', born := clock }]) (clock + 1) (by simp [h2]) ?_⟩
            . unfold Instr.mapUpdate; simp only [Sem.run_bind, run_underlying hu, Result.andThen_ok, xU h1, rT hck, h4, FX _ h1]; congr 4; simp
            intro i e e' he lS; rw [List.getElem?_append] at he lS; rw [<- h2] at lS; split at he
            . rename_i b7; rw [if_pos b7] at lS; exact h3 i e e' he lS
            rename_i b7; rw [if_neg b7] at lS
            cases hq : i - es.length with
            | zero =>
              rw [hq] at he lS; simp at he lS; subst he lS
              exact ⟨rfl, hak, rfl, hx⟩
            | succ q => rw [hq] at he; simp at he
        cases hf
      cases hf
    cases hf
  cases hf
theorem RI (hr : HR P ρ S B w0 h w) (t : TypeId) :
    oV P B w0 ρ S h w (.map (some h.next)) (h.push (.nG [] 0)) ((Instr.makeMap t none).run P w) := by
  refine ⟨_, _, _, rfl, aO.push hr (.nG [] 0) (.map #[] 0) (.clean w.heap.size 0 0 (0)) rfl rfl ⟨[], heap_alloc_new w _, rfl, fun i e e' he => by simp at he⟩, ?_⟩; have := VR.map (ρ := ρ.put h.next (.clean w.heap.size 0 0 (0))) (S := Ext S h (h.push (.nG [] 0))) h.next (Ext.lP _); rw [Ren.fA] at this; exact this
theorem aaK {t : TypeId} {x x' v : Value} (hr : HR P ρ S B w0 h w) (hx : VR ρ S x x') (hf : xC P t x h = some (v, h')) :
    oV P B w0 ρ S h w v h' ((Instr.range t x').run P w) := by
  unfold xC at hf; split at hf
  . rename_i s hu; simp only [Option.some.injEq, Prod.mk.injEq] at hf; obtain ⟨rfl, rfl⟩ := hf; obtain rfl := hx.mH; refine ⟨ρ.put h.next (.clean w.heap.size 0 0 (0)), w.alloc (.stringIter s 0), .pointer (some ⟨w.heap.size, 0, none⟩), ?_, aO.push hr (.iter s 0) (.stringIter s 0) (.clean w.heap.size 0 0 (0)) rfl rfl ⟨heap_alloc_new w _, rfl⟩, ?_⟩
    . simp only [Instr.range, Sem.run_bind, run_underlying hu, Result.andThen_ok, Sem.run_pure]; rfl
    have := VR.ptr (ρ := ρ.put h.next (.clean w.heap.size 0 0 (0))) (S := Ext S h (h.push (.iter s 0))) h.next 0 (Ext.lP _); rw [Ren.fA] at this; exact this
  cases hf
theorem ad1 {ty : TypeId} {x x' v : Value} {L6 : Bool} (hr : HR P ρ S B w0 h w) (hx : VR ρ S x x') (hf : vN x L6 h = some (v, h')) :
    oV P B w0 ρ S h w v h' ((Instr.next x' L6 ty).run P w) := by
  unfold vN at hf; split at hf
  . rename_i b; obtain ⟨hs, rfl⟩ := hx.oW; split at hf
    . rename_i s pos hg; obtain ⟨h1, h2⟩ := (hr.aA b _ hg).2
      have rE : (ρ b).at 0 = ⟨(ρ b).block, 0, none⟩ := by simp [Loc.at, h2]
      have gB : (getObj (ρ b).block).run P w = .ok (.stringIter s pos) w := by simp [getObj, Sem.run, h1]
      rw [rE]; simp only at hf; split at hf
      . rename_i b7; simp only [Option.some.injEq, Prod.mk.injEq] at hf; obtain ⟨rfl, rfl⟩ := hf
        have xI : ∀ o', (setObj (ρ b).block o').run P w = .ok () { w with heap := w.heap.setIfInBounds (ρ b).block o' } := fun o' => by simp [setObj, Sem.run, h1]
        refine ⟨ρ, { w with heap := w.heap.setIfInBounds (ρ b).block (.stringIter s (pos + (Utf8.decode s pos).2)) }, _, ?_,
          aO.set hr hg rfl rfl rfl rfl rfl (by simp) (fun k hk => (yZ h1).2 k hk) ⟨(yZ h1).1, h2⟩, .mF rfl⟩
        simp only [Instr.next, Sem.run_bind, gB, Result.andThen_ok, b7, if_true, xI, Sem.run_pure, goInt]
      rename_i b7; simp only [Option.some.injEq, Prod.mk.injEq] at hf; obtain ⟨rfl, rfl⟩ := hf
      have : (Instr.next (.pointer (some ⟨(ρ b).block, 0, none⟩)) true ty).run P w = .ok (.tuple #[.bool false]) w := by
        simp only [Instr.next, Sem.run_bind, gB, Result.andThen_ok, b7, if_false, Sem.run_pure]
      rw [this]; exact oV.pure hr (.mF rfl)
    cases hf
  cases hf
end Go.Fs
namespace Go.Fs
open Go.RowKit (Below)
variable {P : Program} {ρ bN : Ren} {S S' : Nat -> Prop} {B : Nat} {w0 w w' w1 w2 : World} {h h' h1 h2 : Heap}
def Nx (P : Program) (B : Nat) (w0 : World) (ρ : Ren) (S : Nat -> Prop) (h : Heap) (w : World) (v : Value) (h' : Heap) (r : Result Next) : Prop :=
  ∃ bN w' v', (r = .ok (Next.value v') w' \/ (r = .ok .skip w' /\ v' = undef)) /\ aO P B w0 ρ bN S h h' w w' /\ VR bN (Ext S h h') v v'
theorem gI {s : Sem Value} {v : Value} (hv : oV P B w0 ρ S h w v h' (s.run P w)) : Nx P B w0 ρ S h w v h' ((do pure (Next.value (<- s)) : Sem Next).run P w) := by
  obtain ⟨bN, w', v', h1, h2, h3⟩ := hv; exact ⟨bN, w', v', .inl (by simp [h1]), h2, h3⟩
theorem rU {s : Sem Value} {v v' : Value} (hr : HR P ρ S B w0 h w) (h1 : s.run P w = .ok v' w) (hv : VR ρ S v v') : Nx P B w0 ρ S h w v h ((do pure (Next.value (<- s)) : Sem Next).run P w) :=
  gI (by rw [h1]; exact oV.pure hr hv)
theorem IN {s : Sem Unit} (h1 : s.run P w = .ok () w') (m : aO P B w0 ρ ρ S h h' w w') : Nx P B w0 ρ S h w undef h' ((do s; pure .skip : Sem Next).run P w) :=
  ⟨ρ, w', undef, .inr ⟨by simp [h1], rfl⟩, m, VR.undef⟩
theorem fB {α : Type} {x : Option α} {h h' : Heap} {v : α} (e : (x.map fun v => (v, h)) = some (v, h')) : x = some v /\ h' = h := by
  obtain ⟨a, h1, h2⟩ := Option.map_eq_some_iff.1 e; simp only [Prod.mk.injEq] at h2; obtain ⟨rfl, rfl⟩ := h2; exact ⟨h1, rfl⟩
theorem pY {s : Sem Value} {v : Value} (hp : fK P s = some v) (w : World) : s.run P w = .ok v w /\ af v = true := by
  unfold fK at hp; obtain ⟨a, h1, h2⟩ := Option.bind_eq_some_iff.1 hp; obtain ⟨h3, h4⟩ := aL (x := some a) (c := af a) (v := v) (by cases ha : af a <;> simp_all); simp only [Option.some.injEq] at h4; subst h4; exact ⟨bU h1 w, h3⟩
theorem VR.z8 {f : FuncId} {a c : Array Value} {v' : Value} (hv : VR ρ S (.func (.func f) a c) v') : ∃ a' c', v' = .func (.func f) a' c' /\ LR ρ S a.toList a'.toList /\ LR ρ S c.toList c'.toList := by
  cases hv with
  | lit h => simp [eN] at h
  | func f a a' c c' ha hA hc hC => exact ⟨a', c', rfl, ⟨by simpa using ha, by simpa using hA⟩, ⟨by simpa using hc, by simpa using hC⟩⟩
theorem VR.IP {l : Nat} {v' : Value} (hv : VR ρ S (.func (.yield l) #[] #[]) v') : S l /\ v' = .func (.yield (ρ l).block) #[] #[] := by
  cases hv with
  | lit h => simp [eN] at h
  | yield l hs => exact ⟨hs, rfl⟩
theorem DS {op : BinOp} {t : TypeId} {x y : Operand} {a' b' : Value} {r : Bool} (he : (Op.equal t a' b').run P w = .ok false w)
    (hg : ∀ q, q = .eql \/ q = .neq -> eqGuard q t x y a' b' = pure ())
    (h1 : binOp .eql t a' b' = (do pure (.bool (<- Op.equal t a' b')))) (h2 : binOp .neq t a' b' = (do pure (.bool (!(<- Op.equal t a' b'))))) (dQ : QX op = some r) :
    (do eqGuard op t x y a' b'; binOp op t a' b' : Sem Value).run P w = .ok (.bool r) w := by
  cases op <;> simp only [QX, Option.some.injEq, reduceCtorEq] at dQ
  . subst dQ; rw [hg _ (.inl rfl), h1]; simp [he]
  subst dQ; rw [hg _ (.inr rfl), h2]; simp [he]
theorem OK {op : BinOp} {t : TypeId} {x y : Operand} {a b a' b' : Value} {r : Bool} (ha : VR ρ S a a') (hb : VR ρ S b b') (hf : O0 P op t a b = some r) (w : World) :
    (do eqGuard op t x y a' b'; binOp op t a' b' : Sem Value).run P w = .ok (.bool r) w := by
  unfold O0 at hf; split at hf
  . rename_i A n c; split at hf
    . rename_i e hu; obtain ⟨b0, o, rfl, hs⟩ := ha.IE; obtain ⟨A', c', rfl, _⟩ := hs.gF; obtain rfl := hb.iZ; refine DS ?_ (fun q hq => by rcases hq with rfl | rfl <;> rfl) rfl rfl hf; show (Op.equalIn 10000 t _ _).run P w = _; unfold Op.equalIn; simp only [Sem.run_bind, run_underlying hu, Result.andThen_ok, Sem.run_pure]
    cases hf
  . rename_i b0; split at hf
    . rename_i k e hu; obtain ⟨_, rfl⟩ := ha.xM; obtain rfl := hb.gE rfl; refine DS ?_ (fun q hq => by rcases hq with rfl | rfl <;> rfl) rfl rfl hf; show (Op.equalIn 10000 t _ _).run P w = _; unfold Op.equalIn; simp only [Sem.run_bind, run_underlying hu, Result.andThen_ok, Sem.run_pure]
    cases hf
  . rename_i f a1 a2; split at hf
    . rename_i p1 p2 p3 hu
      have lB : ∃ f' a1' a2', a' = .func f' a1' a2' := by
        cases ha with
        | lit h => simp [eN] at h
        | func f a a' c c' ha hA hc hC => exact ⟨_, _, _, rfl⟩
        | yield l hs => exact ⟨_, _, _, rfl⟩
      obtain ⟨f', a1', a2', rfl⟩ := lB; obtain rfl := hb.gE rfl; refine DS ?_ (fun q hq => by rcases hq with rfl | rfl <;> rfl) rfl rfl hf; show (Op.equalIn 10000 t _ _).run P w = _; unfold Op.equalIn; simp only [Sem.run_bind, run_underlying hu, Result.andThen_ok, Sem.run_pure]
    cases hf
  cases hf
end Go.Fs
namespace Go.Fs
open Go.RowKit (Below)
variable {P : Program} {ρ bN : Ren} {S S' : Nat -> Prop} {B : Nat} {w0 w w' w1 w2 : World} {h h' h1 h2 : Heap}
theorem L8 {argTypes : Array TypeId} {ty : TypeId} {x x' v : Value} (hx : VR ρ S x x') (hf : oR x = some v) : ∃ v', (Builtin.unsafeSliceData_ argTypes ty #[x']).run P w = .ok v' w /\ VR ρ S v v' := by
  unfold oR at hf; split at hf
  . obtain rfl := hx.iZ; simp only [Option.some.injEq] at hf; subst hf; exact ⟨_, Lib.run_unsafeSliceData_nil _ _ _ _ _, .lit rfl⟩
  . rename_i b o n m; obtain ⟨A, c, rfl, hn, _, h0, hb⟩ := hx.gF
    cases hz : Nat.beq n 0 with
    | true => rw [hz] at hf; cases hf
    | false =>
      rw [hz] at hf; simp only [cond_false, Option.some.injEq] at hf; subst hf; have hn0 := fS hz; have jI : b ≠ 0 := fun e => hn0 (h0 e); obtain ⟨hs, rfl, _⟩ := hb jI; exact ⟨_, Lib.run_unsafeSliceData_row _ _ _ _ _ _ (by omega), .ptr b o hs⟩
  cases hf
theorem AV : ∀ {cs cs' : List Value} {l : List UInt8}, LR ρ S cs cs' -> l9 cs = some l -> cs' = l.map (fun x => Value.int .u8 x.toNat)
  | [], cs', l, hl, hb => by
    simp only [l9, Option.some.injEq] at hb; subst hb
    exact List.eq_nil_of_length_eq_zero hl.1.symm
  | v :: r, [], l, hl, _ => by have := hl.1; simp at this
  | v :: r, v' :: r', l, hl, hb => by
    unfold l9 at hb; split at hb
    . rename_i he; cases he
    . rename_i n r0 he; simp only [List.cons.injEq] at he; obtain ⟨rfl, rfl⟩ := he; obtain ⟨hc, C7⟩ := aL hb; obtain ⟨l0, h1, rfl⟩ := Option.map_eq_some_iff.1 C7; have hv : VR ρ S (.int .u8 (.ofNat n)) v' := hl.2 0 (by simp); have hr : LR ρ S r r' := ⟨by have := hl.1; simpa using this, fun i hi => by have := hl.2 (i + 1) (by simp; omega); simpa using this⟩; have hn := jB hc; rw [hv.qV, AV hr h1]; simp only [List.map_cons, UInt8.toNat_ofNat', Nat.reducePow]; rw [Nat.mod_eq_of_lt hn]; rfl
    cases hb
theorem FY : ∀ {cs : List Value} {l : List UInt8}, l9 cs = some l -> l.length = cs.length
  | [], l, hb => by
    simp only [l9, Option.some.injEq] at hb
    subst hb; rfl
  | v :: r, l, hb => by
    unfold l9 at hb; split at hb
    . rename_i he; cases he
    . rename_i n r0 he; simp only [List.cons.injEq] at he; obtain ⟨rfl, rfl⟩ := he; obtain ⟨hc, C7⟩ := aL hb; obtain ⟨l0, h1, rfl⟩ := Option.map_eq_some_iff.1 C7; rw [List.length_cons, List.length_cons, FY h1]
    cases hb
theorem L9 {argTypes : Array TypeId} {ty : TypeId} {p n p' n' v : Value} (hr : HR P ρ S B w0 h w) (hp : VR ρ S p p') (hn : VR ρ S n n') (hf : iR P argTypes p n h = some (v, h')) :
    oV P B w0 ρ S h w v h' ((Builtin.unsafeString_ argTypes ty #[p', n']).run P w) := by
  unfold iR at hf; split at hf
  . rename_i pt it rE; have ha : argTypes = #[pt, it] := Array.toList_inj.1 rE; subst ha; split at hf
    . rename_i e hu; simp only [Option.some.injEq, Prod.mk.injEq] at hf; obtain ⟨rfl, rfl⟩ := hf; rw [hp.gE rfl, hn.qV, Lib.run_unsafeString_none]; exact oV.pure hr (.lit rfl)
    cases hf
  . rename_i pt it b n rE; have ha : argTypes = #[pt, it] := Array.toList_inj.1 rE; subst ha; split at hf
    . rename_i e e' cs more hu hg; obtain ⟨hc, cO⟩ := aL hf; obtain ⟨hc, hc4⟩ := aY hc; obtain ⟨hc, zR⟩ := aY hc; obtain ⟨uS, mS⟩ := aY hc; obtain rfl := bI uS; have mS := bI mS; have zR := dY zR; have hc4 := dY hc4; split at cO
      . rename_i l hl; simp only [Option.some.injEq, Prod.mk.injEq] at cO; obtain ⟨rfl, rfl⟩ := cO; obtain ⟨hsb, cur, k1, k2, k3, k4, k5, k6, k7⟩ := hr.aA b _ hg
        have hll : l.length = n + 1 := by rw [FY hl, List.length_take]; omega
        have hlr : LR ρ S (cs.take (n + 1)) (cur.take (n + 1)) := ⟨by rw [List.length_take, List.length_take]; omega, fun i hi => by
          rw [List.length_take] at hi; have := k7 i (by omega); rw [List.getD_eq_getElem?_getD, List.getD_eq_getElem?_getD, List.getElem?_take, if_pos (by omega), List.getElem?_take, if_pos (by omega), <- List.getD_eq_getElem?_getD, <- List.getD_eq_getElem?_getD]
          exact this⟩
        have anQ := AV hlr hl
        have anR : p' = .pointer (some ⟨(ρ b).block, 0, none⟩) := by
          rw [hp.oW.2]; unfold Loc.at; rw [k2]
        have hni : n' = .int .i64 (l.length : Int) := by rw [hn.qV, hll]; rfl
        have nY : ∀ j x, l[j]? = some x -> w.cell? ((⟨(ρ b).block, 0, none⟩ : Addr).add j) = some (.int .u8 x.toNat) := fun j x hj => by
          obtain ⟨hj1, IQ⟩ := List.getElem?_eq_some_iff.1 hj
          have h3 : (cur.take (n + 1))[j]? = some (.int .u8 x.toNat) := by rw [anQ, List.getElem?_map, hj]; rfl
          rw [List.getElem?_take, if_pos (by omega)] at h3
          have h4 : ((⟨(ρ b).block, 0, none⟩ : Addr).add j) = ⟨(ρ b).block, j, none⟩ := by
            unfold Addr.add; by_cases hj0 : j = 0
            . subst hj0; rfl
            simp [hj0]
          rw [h4]; simp [World.cell?, k1, h3]
        have eZ := Lib.run_unsafeString_row w pt it ty e' hu mS (ρ b).block cur.length (by simp [World.shape?, k1]) l (by intro e0; rw [e0] at hll; simp at hll) (by omega) (by omega) nY; rw [anR, hni, eZ]; refine ⟨ρ, _, _, rfl, ?_, .lit rfl⟩
        have hfz : (w.freeze ⟨(ρ b).block, 0, none⟩ l.length).os = w.os /\ (w.freeze ⟨(ρ b).block, 0, none⟩ l.length).tape = w.tape /\ (w.freeze ⟨(ρ b).block, 0, none⟩ l.length).output = w.output /\ (w.freeze ⟨(ρ b).block, 0, none⟩ l.length).heap.size = w.heap.size /\ ∀ k, k ≠ (ρ b).block -> (w.freeze ⟨(ρ b).block, 0, none⟩ l.length).heap[k]? = w.heap[k]? := by
          unfold World.freeze; rw [if_neg (by omega)]; refine ⟨rfl, rfl, rfl, by simp, fun k hk => ?_⟩; simp only [Array.getElem?_modify]; rw [if_neg (fun e0 => hk e0.symm)]
        obtain ⟨f1, f2, f3, f4, f5⟩ := hfz; exact aO.gone hr hg rfl f1 f2 f3 f4 f5 (by unfold World.freeze; split <;> exact Nat.le_refl _)
      cases cO
    cases hf
  cases hf
end Go.Fs
namespace Go.Fs
open Go.RowKit (Below)
variable {P : Program} {ρ bN : Ren} {S S' : Nat -> Prop} {B : Nat} {w0 w w' w1 w2 : World} {h h' h1 h2 : Heap}
theorem jO {s : Sem Value} {v : Value} (hr : HR P ρ S B w0 h w) (hx : ∃ v', s.run P w = .ok v' w /\ VR ρ S v v') : Nx P B w0 ρ S h w v h ((do pure (Next.value (<- s)) : Sem Next).run P w) := by
  obtain ⟨v', h1, h2⟩ := hx; exact rU hr h1 h2
theorem IS {x o : Operand} (y : Option Operand) (h : y = some o) (hx : x = o) : x ∈ y.toArray.toList := by
  subst h hx; simp
theorem M6 {f : Ieee.Format} {x : Nat} (h1 : f.infRung < x % f.signWeight) (h2 : f.binade <= f.infRung) : (f.read x).isNaN = true := by
  unfold Ieee.Format.read; dsimp only; rw [if_neg (by omega), if_neg (by omega), if_neg (by omega)]; rfl
theorem ad2 (t : Nat) : ((FloatKind.f32).decode ((t % 2) * 2 ^ 31 + 0x7f800000 + 1 + (t / 2) % (2 ^ 23 - 1))).isNaN = true := by
  refine M6 (f := Ieee.single) ?_ (by decide)
  have e1 : Ieee.single.infRung = 2139095040 := by decide
  have e2 : Ieee.single.signWeight = 2147483648 := by decide
  rw [e1, e2]; have h1 : t / 2 % (2 ^ 23 - 1) < 2 ^ 23 - 1 := Nat.mod_lt _ (by decide); generalize t / 2 % (2 ^ 23 - 1) = r at h1 ⊢; rcases Nat.mod_two_eq_zero_or_one t with h | h <;> rw [h] <;> omega
theorem ad3 (t : Nat) : ((FloatKind.f64).decode ((t % 2) * 2 ^ 63 + 0x7ff0000000000000 + 1 + (t / 2) % (2 ^ 52 - 1))).isNaN = true := by
  refine M6 (f := Ieee.double) ?_ (by decide)
  have e1 : Ieee.double.infRung = 9218868437227405312 := by decide
  have e2 : Ieee.double.signWeight = 9223372036854775808 := by decide
  rw [e1, e2]; have h1 : t / 2 % (2 ^ 52 - 1) < 2 ^ 52 - 1 := Nat.mod_lt _ (by decide); generalize t / 2 % (2 ^ 52 - 1) = r at h1 ⊢; rcases Nat.mod_two_eq_zero_or_one t with h | h <;> rw [h] <;> omega
theorem IT (k : FloatKind) (a b n : Nat) : (k.decode ((Question.nanBits k a b).cut n)).isNaN = true := by
  cases k
  . exact ad2 n
  exact ad3 n
theorem IU (k : FloatKind) (b n : Nat) : (k.decode ((Question.nanConv k b).cut n)).isNaN = true := by
  cases k
  . exact ad2 n
  exact ad3 n
theorem RJ {s : Sem Value} {v v' : Value} (hr : HR P ρ S B w0 h w) (h1 : s.run P w = .ok v' { w with drawn := w.drawn + 1 }) (hv : VR ρ S v v') : Nx P B w0 ρ S h w v h ((do pure (Next.value (<- s)) : Sem Next).run P w) :=
  gI (by rw [h1]; exact ⟨ρ, _, v', rfl, aO.vW (n := w.drawn + 1) (aO.same (hr.drew _)), hv.mono fun _ hb => ⟨.inl hb, rfl⟩⟩)
theorem ad4 {op : BinOp} {t : TypeId} {x y : Operand} {a b v : Value} (hr : HR P ρ S B w0 h w) (hf : O3 op a b = some v) : Nx P B w0 ρ S h w v h ((do pure (Next.value (<- (do eqGuard op t x y a b; binOp op t a b))) : Sem Next).run P w) := by
  unfold O3 at hf; split at hf
  . rename_i k p k' q; obtain ⟨hc, hv⟩ := aL hf; obtain ⟨hk, hn⟩ := aY hc; obtain rfl := of_decide_eq_true hk; obtain rfl := Option.some.inj hv; refine RJ hr (v' := .float k ((Question.nanBits k p q).cut (w.tape w.drawn (Question.nanBits k p q)))) ?_ (.nan k _ (IT k p q _)); have hq : (Question.nanBits k p q).forced = false := rfl; unfold acI at hn; split at hn
    all_goals first | (cases hn; done) | skip
    all_goals
      rw [Option.isNone_iff_eq_none] at hn; simp [eqGuard, binOp, Op.floatArith, hn, run_choose, hq]
  cases hf
theorem VR.xD {v v' : Value} {k : FloatKind} (hv : VR ρ S v v') (hk : xD v = some k) : ∃ b, v' = .float k b /\ (O1 v = true -> (k.decode b).isNaN = true) := by
  unfold Fs.xD at hk; split at hk
  . rename_i k0 b; obtain rfl := Option.some.inj hk; exact ⟨b, hv.gE rfl, fun e => by cases e⟩
  . rename_i k0; obtain rfl := Option.some.inj hk
    cases hv with
    | lit h => simp [eN] at h
    | nan k b hb => exact ⟨b, rfl, fun _ => hb⟩
  cases hk
theorem V5 {k : FloatKind} {a b : Nat} (h : (k.decode a).isNaN = true \/ (k.decode b).isNaN = true) : k.format.order a b = none := by
  unfold Ieee.Format.order; rcases h with h | h
  . have : (k.format.read a).isNaN = true := h; cases hd : k.format.read a <;> rw [hd] at this <;> first | (cases this; done) | rfl
  have : (k.format.read b).isNaN = true := h; cases hd : k.format.read b <;> rw [hd] at this <;> first | (cases this; done) | skip; cases k.format.read a <;> rfl
theorem ad5 {op : BinOp} {t : TypeId} {x y : Operand} {a b a' b' : Value} {r : Bool} (ha : VR ρ S a a') (hb : VR ρ S b b') (hf : O4 op a b = some r) (w : World) : (do eqGuard op t x y a' b'; binOp op t a' b' : Sem Value).run P w = .ok (.bool r) w := by
  unfold O4 at hf; split at hf
  . rename_i k k' h1 h2; obtain ⟨hc, hv⟩ := aL hf; obtain ⟨hk, hn⟩ := aY hc; obtain rfl := of_decide_eq_true hk; obtain ⟨p, rfl, hp⟩ := ha.xD h1; obtain ⟨q, rfl, hq⟩ := hb.xD h2
    have ho : k.format.order p q = none := V5 (by
      rcases Bool.or_eq_true_iff.1 hn with hn | hn
      . exact .inl (hp hn)
      exact .inr (hq hn))
    cases op <;> simp only [Y4, Option.some.injEq, reduceCtorEq] at hv <;> subst hv <;> simp [eqGuard, binOp, Op.floatCmp, ho]
  cases hf
theorem ad6 {s d : TypeId} {a v : Value} (hr : HR P ρ S B w0 h w) (hf : O5 P s d a = some v) : Nx P B w0 ρ S h w v h ((do pure (Next.value (<- convert s d a)) : Sem Next).run P w) := by
  unfold O5 at hf; split at hf
  . rename_i k b u k' hu hd; obtain ⟨hc, hv⟩ := aL hf; obtain ⟨hk, hn⟩ := aY hc; obtain rfl := Option.some.inj hv
    have cL : ¬ k = k' := by simpa using hk
    refine RJ hr (v' := .float k' ((Question.nanConv k' b).cut (w.tape w.drawn (Question.nanConv k' b)))) ?_ (.nan k' _ (IU k' b _)); have hq : (Question.nanConv k' b).forced = false := rfl
    cases he : k.decode b with
    | nan n f => cases u <;> simp [convert, run_underlying hu, run_underlying hd, Conv.floatToFloat, cL, he, run_choose, hq]
    | _ => rw [he] at hn; cases hn
  cases hf
theorem aaL {call : FuncId -> List Value -> Heap -> Option (Value × Heap)} {yield : Nat -> List Value -> Heap -> Option (Value × Heap)} {o : Oper} {ev kW : Operand -> Value} {v : Value}
    (hr : HR P ρ S B w0 h w) (bK : ∀ x ∈ o.op.operands.toList, VR ρ S (ev x) (kW x)) (mR : ∀ c f, o.op = .call c -> c.callee ≠ .value f)
    (hf : cP P call yield o ev h = some (v, h')) : Nx P B w0 ρ S h w v h' ((execOp kW o).run P w) := by
  unfold cP at hf; unfold execOp
  cases dQ : o.op with
  | move x =>
    simp only [dQ, Op.operands, List.mem_cons, List.not_mem_nil, or_false, forall_eq] at hf bK ⊢; simp only [Option.some.injEq, Prod.mk.injEq] at hf; obtain ⟨rfl, rfl⟩ := hf
    exact ⟨ρ, w, _, .inl rfl, aO.same hr, bK.mono fun _ hb => ⟨.inl hb, rfl⟩⟩
  | assign x =>
    simp only [dQ, Op.operands, List.mem_cons, List.not_mem_nil, or_false, forall_eq] at hf bK ⊢; simp only [Option.some.injEq, Prod.mk.injEq] at hf; obtain ⟨rfl, rfl⟩ := hf
    exact ⟨ρ, w, _, .inl rfl, aO.same hr, bK.mono fun _ hb => ⟨.inl hb, rfl⟩⟩
  | pick c a b =>
    simp only [dQ, Op.operands, List.mem_cons, List.not_mem_nil, or_false, forall_eq_or_imp, forall_eq] at hf bK ⊢; obtain ⟨e1, e2, e3⟩ := bK; split at hf
    . rename_i hc; simp only [Option.some.injEq, Prod.mk.injEq] at hf; obtain ⟨rfl, rfl⟩ := hf; rw [hc] at e1; refine ⟨ρ, w, kW a, .inl ?_, aO.same hr, e2.mono fun _ hb => ⟨.inl hb, rfl⟩⟩; simp [e1.uR, asBool]
    . rename_i hc; simp only [Option.some.injEq, Prod.mk.injEq] at hf; obtain ⟨rfl, rfl⟩ := hf; rw [hc] at e1; refine ⟨ρ, w, kW b, .inl ?_, aO.same hr, e3.mono fun _ hb => ⟨.inl hb, rfl⟩⟩; simp [e1.uR, asBool]
    cases hf
  | alloc e =>
    simp only [dQ] at hf ⊢; split at hf
    . rename_i z hz; obtain ⟨i, hi, hiz⟩ := Option.bind_eq_some_iff.1 hz; split at hf
      . rename_i haz; have := M0 hr hf (.mF haz); refine gI ?_
        have he : (Instr.alloc e true (.tuple #[])).run P w = ((do pure (.pointer (some (<- newVar e z))) : Sem Value)).run P w := by
          simp only [Instr.alloc, Sem.run_bind, gQ e i z hi hiz, Result.andThen_ok]
        rw [he]; exact this
      cases hf
    cases hf
  | box e x =>
    simp only [dQ, Op.operands, List.mem_cons, List.not_mem_nil, or_false, forall_eq] at hf bK ⊢
    exact gI (M0 hr hf bK)
  | build t parts =>
    simp only [dQ] at hf ⊢; rw [dQ] at bK; have ad7 : ∀ p ∈ parts.toList, VR ρ S (ev p.2) (kW p.2) := fun p hp => bK p.2 (by simp only [Op.operands]; exact List.mem_map_of_mem hp); obtain ⟨hc, cO⟩ := aL hf; obtain ⟨mG, hz⟩ := aY hc; obtain ⟨oZ, rfl⟩ := fB cO
    cases UZ : (P.info? t).bind (·.zero) with
    | none => rw [UZ] at hz; cases hz
    | some z =>
      rw [UZ] at hz
      have C3 : z.cells.toList.all eN = true := by simpa using hz
      exact jO hr (aaF ad7 mG UZ C3 oZ w)
  | buildSlice t len parts =>
    simp only [dQ] at hf ⊢; rw [dQ] at bK; have ad7 : ∀ p ∈ parts.toList, VR ρ S (ev p.2) (kW p.2) := fun p hp => bK p.2 (by simp only [Op.operands]; exact List.mem_map_of_mem hp)
    exact gI (IG hr ad7 hf)
  | load t a =>
    simp only [dQ, Op.operands, List.mem_cons, List.not_mem_nil, or_false, forall_eq] at hf bK ⊢; obtain ⟨hg, rfl⟩ := fB hf; clear hf; have hf := hg
    exact jO hr (IC hr hf bK)
  | store t a x =>
    simp only [dQ, Op.operands, List.mem_cons, List.not_mem_nil, or_false, forall_eq_or_imp, forall_eq] at hf bK ⊢; obtain ⟨h2, h3, h4⟩ := Option.map_eq_some_iff.1 hf; simp only [Prod.mk.injEq] at h4; obtain ⟨rfl, rfl⟩ := h4; obtain ⟨w', h5, h6⟩ := R5 hr h3 bK.1 bK.2
    exact IN h5 h6
  | nilCheck x =>
    simp only [dQ, Op.operands, List.mem_cons, List.not_mem_nil, or_false, forall_eq] at hf bK ⊢; split at hf
    . rename_i a hx; simp only [Option.some.injEq, Prod.mk.injEq] at hf; obtain ⟨rfl, rfl⟩ := hf; rw [hx] at bK; obtain ⟨b0, o0, rfl, hs, he⟩ := bK.ID; rw [he]; exact ⟨ρ, w, _, .inl rfl, aO.same hr, (VR.ptr b0 o0 hs).mono fun _ hb => ⟨.inl hb, rfl⟩⟩
    . rename_i f a b hx; simp only [Option.some.injEq, Prod.mk.injEq] at hf; obtain ⟨rfl, rfl⟩ := hf; rw [hx] at bK; obtain ⟨a', c', he, _⟩ := bK.z8; rw [he] at bK ⊢; exact ⟨ρ, w, _, .inl rfl, aO.same hr, bK.mono fun _ hb => ⟨.inl hb, rfl⟩⟩
    cases hf
  | binOp op t x y yt =>
    simp only [dQ, Op.operands, List.mem_cons, List.not_mem_nil, or_false, forall_eq_or_imp, forall_eq] at hf bK ⊢; obtain ⟨e1, e2⟩ := bK; split at hf
    . rename_i nJ; obtain ⟨a1, a2⟩ := aY nJ; obtain ⟨hg, rfl⟩ := fB hf; clear hf; have hf := hg; rw [e1.dH a1, e2.dH a2]
      cases hp : fK P (do eqGuard op t x y (ev x) (ev y); binOp op t (ev x) (ev y)) with
      | some u =>
        rw [hp] at hf; obtain rfl := Option.some.inj hf; obtain ⟨h1, h2⟩ := pY hp w
        exact rU hr h1 (.mF h2)
      | none =>
        rw [hp] at hf; exact ad4 hr hf
    obtain ⟨r, h3, h4⟩ := Option.map_eq_some_iff.1 hf; simp only [Prod.mk.injEq] at h4; obtain ⟨rfl, rfl⟩ := h4
    cases hp : O0 P op t (ev x) (ev y) with
    | some u =>
      rw [hp] at h3; obtain rfl := Option.some.inj h3
      exact rU hr (OK e1 e2 hp w) (.mF rfl)
    | none =>
      rw [hp] at h3
      exact rU hr (ad5 e1 e2 h3 w) (.mF rfl)
  | unOp op t x =>
    simp only [dQ, Op.operands, List.mem_cons, List.not_mem_nil, or_false, forall_eq] at hf bK ⊢; split at hf
    . rename_i nJ; obtain ⟨hg, rfl⟩ := fB hf; clear hf; have hf := hg; rw [bK.dH nJ]; obtain ⟨h1, h2⟩ := pY hf w; exact rU hr h1 (.mF h2)
    cases hf
  | convert s d x =>
    simp only [dQ, Op.operands, List.mem_cons, List.not_mem_nil, or_false, forall_eq] at hf bK ⊢; split at hf
    . rename_i nJ; obtain ⟨hg, rfl⟩ := fB hf; clear hf; have hf := hg; rw [bK.dH nJ]
      cases hp : fK P (convert s d (ev x)) with
      | some u =>
        rw [hp] at hf; obtain rfl := Option.some.inj hf; obtain ⟨h1, h2⟩ := pY hp w
        exact rU hr h1 (.mF h2)
      | none =>
        rw [hp] at hf; exact ad6 hr hf
    cases hf
  | makeFunc fn first captured =>
    simp only [dQ] at hf ⊢; rw [dQ] at bK; simp only [Op.operands, Array.toList_append, List.mem_append] at bK
    cases fn with
    | func f =>
      simp only [Option.some.injEq, Prod.mk.injEq] at hf; obtain ⟨rfl, rfl⟩ := hf
      have l1 : LR ρ S (first.map ev).toList (first.map kW).toList := by
        simp only [Array.toList_map]; exact LR.map _ _ _ fun x hx => bK x (.inl hx)
      have l2 : LR ρ S (captured.map ev).toList (captured.map kW).toList := by
        simp only [Array.toList_map]; exact LR.map _ _ _ fun x hx => bK x (.inr hx)
      have hv : VR ρ S (.func (.func f) (first.map ev) (captured.map ev)) (.func (.func f) (first.map kW) (captured.map kW)) :=
        .func f _ _ _ _ (by simp) (by simpa using l1.2) (by simp) (by simpa using l2.2)
      exact rU hr rfl hv
    | _ => cases hf
  | makeMap t r =>
    simp only [dQ] at hf ⊢
    cases r with
    | none =>
      simp only [Option.some.injEq, Prod.mk.injEq] at hf; obtain ⟨rfl, rfl⟩ := hf
      exact gI (RI hr t)
    | some r => cases hf
  | makeSlice t l c =>
    simp only [dQ, Op.operands, List.mem_cons, List.not_mem_nil, or_false, forall_eq_or_imp, forall_eq] at hf bK ⊢
    exact gI (L4 hr bK.1 bK.2 hf)
  | slice t x lo hi mx =>
    simp only [dQ] at hf ⊢; rw [dQ] at bK; simp only [Op.operands, Array.toList_append, List.mem_append] at bK; obtain ⟨hg, rfl⟩ := fB hf; clear hf; have hf := hg; refine jO hr (aaI hr (bK x (.inl (.inl (.inl (by simp))))) (OR.of_map fun o ho => ?_) (OR.of_map fun o ho => ?_) (OR.of_map fun o ho => ?_) hf)
    . exact bK o (.inl (.inl (.inr (IS lo ho rfl))))
    . exact bK o (.inl (.inr (IS hi ho rfl)))
    exact bK o (.inr (IS mx ho rfl))
  | fieldAddr s x f =>
    simp only [dQ, Op.operands, List.mem_cons, List.not_mem_nil, or_false, forall_eq] at hf bK ⊢; obtain ⟨hg, rfl⟩ := fB hf; clear hf; have hf := hg
    exact jO hr (R8 bK hf w)
  | field s x f =>
    simp only [dQ, Op.operands, List.mem_cons, List.not_mem_nil, or_false, forall_eq] at hf bK ⊢; obtain ⟨hg, rfl⟩ := fB hf; clear hf; have hf := hg
    exact jO hr (aaG bK hf w)
  | indexAddr s x ix =>
    simp only [dQ, Op.operands, List.mem_cons, List.not_mem_nil, or_false, forall_eq_or_imp, forall_eq] at hf bK ⊢; split at hf
    . rename_i nJ; obtain ⟨hg, rfl⟩ := fB hf; clear hf; have hf := hg; rw [bK.2.dH nJ]; exact jO hr (R9 bK.1 hf w)
    cases hf
  | index s x ix =>
    simp only [dQ, Op.operands, List.mem_cons, List.not_mem_nil, or_false, forall_eq_or_imp, forall_eq] at hf bK ⊢; split at hf
    . rename_i nJ; obtain ⟨hg, rfl⟩ := fB hf; clear hf; have hf := hg; rw [bK.2.dH nJ]; exact jO hr (aaH bK.1 hf w)
    cases hf
  | lookup s x ix ok =>
    simp only [dQ, Op.operands, List.mem_cons, List.not_mem_nil, or_false, forall_eq_or_imp, forall_eq] at hf bK ⊢; obtain ⟨hg, rfl⟩ := fB hf; clear hf; have hf := hg
    exact jO hr (V4 hr bK.1 bK.2 hf)
  | mapUpdate t m k x =>
    simp only [dQ, Op.operands, List.mem_cons, List.not_mem_nil, or_false, forall_eq_or_imp, forall_eq] at hf bK ⊢; obtain ⟨h2, h3, h4⟩ := Option.map_eq_some_iff.1 hf; simp only [Prod.mk.injEq] at h4; obtain ⟨rfl, rfl⟩ := h4; obtain ⟨w', h5, h6⟩ := A5 hr bK.1 bK.2.1 bK.2.2 h3
    exact IN h5 h6
  | insert t m k x =>
    simp only [dQ, Op.operands, List.mem_cons, List.not_mem_nil, or_false, forall_eq_or_imp, forall_eq] at hf bK ⊢; obtain ⟨h2, h3, h4⟩ := Option.map_eq_some_iff.1 hf; simp only [Prod.mk.injEq] at h4; obtain ⟨rfl, rfl⟩ := h4; obtain ⟨w', h5, h6⟩ := A5 hr bK.1 bK.2.1 bK.2.2 h3
    exact IN h5 h6
  | range t x =>
    simp only [dQ, Op.operands, List.mem_cons, List.not_mem_nil, or_false, forall_eq] at hf bK ⊢
    exact gI (aaK hr bK hf)
  | next it s =>
    simp only [dQ, Op.operands, List.mem_cons, List.not_mem_nil, or_false, forall_eq] at hf bK ⊢
    exact gI (ad1 hr bK hf)
  | extract t ix =>
    simp only [dQ, Op.operands, List.mem_cons, List.not_mem_nil, or_false, forall_eq] at hf bK ⊢
    cases hj : tN (ev t) with
    | true => rw [hj] at hf; cases hf
    | false =>
      rw [hj] at hf; simp only [cond_false] at hf; obtain ⟨hg, rfl⟩ := fB hf; clear hf; have hf := hg
      exact jO hr (R7 bK (aaC hj) hf w)
  | call c =>
    simp only [dQ] at hf ⊢; rw [dQ] at bK; simp only [Op.operands, Call.operands, Array.toList_append, List.mem_append] at bK
    cases hc : c.callee with
    | value f => exact absurd hc (mR c f dQ)
    | invoke r n => rw [hc] at hf; cases hf
    | builtin b =>
      rw [hc] at hf bK; simp only [List.not_mem_nil, false_or] at hf bK
      have FW : ∀ w, (resolve kW c o.type).run P w = .ok { target := .builtin b c.argTypes o.type (c.args.map fun | .const _ => true | _ => false), args := c.args.map kW } w := fun w => by
        unfold resolve; rw [hc]; rfl
      have eZ : ((do let d <- resolve kW c o.type; invoke d.target d.args : Sem Next)).run P w = (builtin b c.argTypes o.type (c.args.map fun | .const _ => true | _ => false) (c.args.map kW)).run P w := by
        simp only [Sem.run_bind, FW, Result.andThen_ok]; rfl
      rw [eZ]
      have hl : LR ρ S (c.args.toList.map ev) (c.args.map kW).toList := by
        rw [Array.toList_map]; exact LR.map _ _ _ fun x hx => bK x hx
      have two : ∀ a b, c.args.toList.map ev = [a, b] -> ∃ a' b', c.args.map kW = #[a', b'] /\ VR ρ S a a' /\ VR ρ S b b' := fun a b he => by
        rw [he] at hl; have h1 := hl.1
        match hm : (c.args.map kW).toList, h1 with
        | [a', b'], _ =>
          rw [hm] at hl; exact ⟨a', b', Array.toList_inj.1 hm, hl.2 0 (by simp), hl.2 1 (by simp)⟩
      have one : ∀ a, c.args.toList.map ev = [a] -> ∃ a', c.args.map kW = #[a'] /\ VR ρ S a a' := fun a he => by
        rw [he] at hl; have h1 := hl.1
        match hm : (c.args.map kW).toList, h1 with
        | [a'], _ =>
          rw [hm] at hl; exact ⟨a', Array.toList_inj.1 hm, hl.2 0 (by simp)⟩
      unfold vL at hf; split at hf
      . rename_i s x he; obtain ⟨s', x', h1, h2, h3⟩ := two _ _ he; rw [h1]; exact gI (V3 hr h2 h3 hf)
      . rename_i s x he; obtain ⟨s', x', h1, h2, h3⟩ := two _ _ he; rw [h1]; exact gI (acV hr h2 h3 hf)
      . rename_i x he; obtain ⟨x', h1, h2⟩ := one _ he; rw [h1]
        cases rQ : BR P c.argTypes x h with
        | none => rw [rQ] at hf; cases hf
        | some CA =>
          rw [rQ] at hf; simp only [Option.map_some, Option.some.injEq, Prod.mk.injEq] at hf; obtain ⟨rfl, rfl⟩ := hf; exact gI (aaJ hr h2 rQ)
      . rename_i x he; obtain ⟨x', h1, h2⟩ := one _ he; rw [h1]; obtain ⟨hg, rfl⟩ := fB hf; clear hf; have hf := hg; exact jO hr (aiQ hr h2 hf)
      . rename_i x he; obtain ⟨x', h1, h2⟩ := one _ he; rw [h1]; obtain ⟨hg, rfl⟩ := fB hf; clear hf; have hf := hg; exact jO hr (aiR hr h2 hf)
      . rename_i x he; obtain ⟨x', h1, h2⟩ := one _ he; rw [h1]; obtain ⟨hg, rfl⟩ := fB hf; clear hf; have hf := hg; exact jO hr (L8 h2 hf)
      . rename_i p n he; obtain ⟨p', n', h1, h2, h3⟩ := two _ _ he; rw [h1]; exact gI (L9 hr h2 h3 hf)
      . split at hf
        . rename_i nJ; obtain ⟨hg, rfl⟩ := fB hf; clear hf; have hf := hg; have he : c.args.map kW = (c.args.toList.map ev).toArray := Array.toList_inj.1 (hl.dH nJ); rw [he]; obtain ⟨h1, h2⟩ := pY hf w; exact rU hr h1 (.mF h2)
        cases hf
      . split at hf
        . rename_i nJ; obtain ⟨hg, rfl⟩ := fB hf; clear hf; have hf := hg; have he : c.args.map kW = (c.args.toList.map ev).toArray := Array.toList_inj.1 (hl.dH nJ); rw [he]; obtain ⟨h1, h2⟩ := pY hf w; exact rU hr h1 (.mF h2)
        cases hf
      cases hf
  | _ => simp only [dQ] at hf; cases hf
end Go.Fs
namespace Go.Fs
variable {P : Program} {ρ : Ren} {S : Nat -> Prop} {B : Nat} {w0 w : World} {h : Heap}
theorem fold_push : ∀ (l : List UInt8) (acc : ByteArray), (l.map fun x => ((x.toNat : Nat) : Int)).foldl (fun r n => r.push (UInt8.ofNat n.toNat)) acc = ⟨acc.data ++ l.toArray⟩
  | [], acc => by simp
  | x :: r, acc => by
    rw [List.map_cons, List.foldl_cons, fold_push r]; congr 1; show (acc.push (UInt8.ofNat ((x.toNat : Nat) : Int).toNat)).data ++ r.toArray = _; rw [Int.toNat_natCast, UInt8.ofNat_toNat]; show acc.data.push x ++ r.toArray = _; simp
theorem V6 {s d e : TypeId} {b n m : Nat} {e' : TypeId} {cs : List Value} {more : Bool} {x' : Value} {l : List UInt8} (hr : HR P ρ S B w0 h w) (hx : VR ρ S (.slice (some ⟨b, 0, none⟩) n m) x') (hu : P.underlying s = some (.slice e)) (he : P.underlying e = some (.int .u8)) (hd : P.underlying d = some .string)
    (hg : h.get b = some (.row e' cs true more)) (hn : n <= cs.length) (hl : l9 (cs.take n) = some l) : (convert s d x').run P w = .ok (.string ⟨l.toArray⟩) w := by
  obtain ⟨A, c, rfl, hnc, _, _, AS⟩ := hx.gF; have jI : b ≠ 0 := (hr.ids b (hr.aA b _ hg).1).2; obtain ⟨_, rfl, _⟩ := AS jI; obtain ⟨_, cur, h1, h2, h3, h4, h5, h6, h7⟩ := hr.aA b _ hg
  have hc : ∀ i, i < cs.length -> ∃ v, w.cell? ((ρ b).at i) = some v /\ VR ρ S (cs.getD i undef) v := fun i hi => ⟨cur.getD i undef, by
    have : i < cur.length := by omega
    simp [World.cell?, Loc.at, h1, h2, List.getD, this], h7 i hi⟩
  obtain ⟨vs, k1, k2⟩ := qO hc (o := 0) (n := n) (by omega); rw [List.drop_zero] at k2; have k3 := AV k2 hl; rw [run_convert_bytes_string w s d e _ _ _ hu he hd, run_bytesToString w _ n c (l.map fun x => ((x.toNat : Nat) : Int)) (by rw [k1, k3, List.map_map]; rfl), fold_push]; simp
end Go.Fs
namespace Go.Fs
open Go.RowKit (Below)
variable {P : Program} {ρ bN : Ren} {S S' : Nat -> Prop} {B : Nat} {w0 w w' w1 w2 : World} {h h' h1 h2 : Heap}
def mI (r : Option Nat) : Fence := { Fence.wide with round := r }
def wW (P : Program) (B : Nat) (w0 : World) (ρ : Ren) (S : Nat -> Prop) (h : Heap) (w : World) (v : Value) (h' : Heap) : Ending -> World -> Prop
  | .returned v', w' => ∃ bN, aO P B w0 ρ bN S h h' w w' /\ VR bN (Ext S h h') v v'
  | _, _ => False
def Enters (P : Program) (f : FuncId) : Prop := ∃ fn, P.funcs[f]? = some fn /\ fn.body.isNone = false /\ (fn.name == "runtime.NumGoroutine") = false
def bX (P : Program) (B : Nat) (w0 : World) (call : FuncId -> List Value -> Heap -> Option (Value × Heap)) : Prop :=
  ∀ f args h v h', call f args h = some (v, h') -> Enters P f /\ ∀ ρ S w args', HR P ρ S B w0 h w -> LR ρ S args args' -> ∀ n, CallsIn Fence.wide n P f args'.toArray w (wW P B w0 ρ S h w v h')
def lH (P : Program) (B : Nat) (w0 : World) (call : FuncId -> List Value -> Heap -> Option (Value × Heap)) : Prop :=
  ∀ f args h v h', call f args h = some (v, h') -> (Enters P f /\ ∀ ρ S w args', HR P ρ S B w0 h w -> LR ρ S args args' -> ∀ n, CallsIn Fence.wide n P f args'.toArray w (wW P B w0 ρ S h w v h')) \/
    ∀ ρ S w args', HR P ρ S B w0 h w -> LR ρ S args args' -> ∃ w' v', (callFunc f args'.toArray).run P w = .ok (.value v') w' /\ wW P B w0 ρ S h w v h' (.returned v') w'
def fT (P : Program) (B : Nat) (w0 : World) (yield : Nat -> List Value -> Heap -> Option (Value × Heap)) : Prop :=
  ∀ l args h v h', yield l args h = some (v, h') -> ∀ ρ S w args', HR P ρ S B w0 h w -> LR ρ S args args' -> S l -> ∃ f tmps assign body,
    (Instr.yield (ρ l).block args'.toArray).run P w = .ok (.round (ρ l).block f tmps assign body) w /\ ∀ n, RoundIn Fence.wide n P (ρ l).block f tmps assign body w (wW P B w0 ρ S h w v h')
theorem uG {f : FuncId} (hf : Enters P f) (args : Array Value) (w : World) : (callFunc f args).run P w = .ok (.enter f args) w := by
  obtain ⟨fn, h1, h2, h3⟩ := hf; unfold callFunc; simp only [Sem.run_bind, run_program, Result.andThen_ok, h1, h3, h2, Bool.false_eq_true, if_false, Sem.run_pure]
theorem qW {r : Option Nat} {o : Oper} {a : Act} : ∀ f, o.about P w a.eval = some f -> (mI r).fn f := fun _ _ => trivial
theorem semAt_eq {call : FuncId -> List Value -> Heap -> Option (Value × Heap)} {yield : Nat -> List Value -> Heap -> Option (Value × Heap)} {o : Oper} {ev kW : Operand -> Value} {r : Option Nat} {x : Value × Heap}
    (hf : cP P call yield o ev h = some x) : o.semAt r kW = execOp kW o := by
  unfold Oper.semAt; unfold cP at hf
  cases dQ : o.op with
  | defer c => rw [dQ] at hf; cases hf
  | _ => cases r <;> rfl
theorem IV {call : FuncId -> List Value -> Heap -> Option (Value × Heap)} {yield : Nat -> List Value -> Heap -> Option (Value × Heap)} (iJ : lH P B w0 call) (oM : fT P B w0 yield)
    {o : Oper} {ev : Operand -> Value} {a : Act} {v : Value} {r : Option Nat} {n : Nat} {next : Act -> World -> Prop} {Q : Exit -> Act -> World -> Prop}
    (hr : HR P ρ S B w0 h w) (bK : ∀ x ∈ o.op.operands.toList, VR ρ S (ev x) (a.eval x)) (hf : cP P call yield o ev h = some (v, h'))
    (k : ∀ bN w' v', aO P B w0 ρ bN S h h' w w' -> VR bN (Ext S h h') v v' -> next (a.put o.dst v') w') : o.wpIn (mI r) n P a w next Q := by
  refine ⟨qW, ?_⟩; rw [show (mI r).round = r from rfl, semAt_eq hf]; by_cases mR : ∀ c f, o.op = .call c -> c.callee ≠ .value f
  . obtain ⟨bN, w', v', h1, h2, h3⟩ := aaL hr bK mR hf; have := k bN w' v' h2 h3; rcases h1 with h1 | ⟨h1, rfl⟩
    . rw [h1]; exact this
    rw [h1]; exact this
  have anS : ∃ c f, o.op = .call c /\ c.callee = .value f := Classical.byContradiction fun hx => mR fun c f h1 h2 => hx ⟨c, f, h1, h2⟩; obtain ⟨c, f, dQ, hc⟩ := anS; unfold cP at hf; rw [dQ] at hf bK; simp only [hc] at hf; simp only [Op.operands, Call.operands, hc, Array.toList_append, List.mem_append, List.mem_cons, List.not_mem_nil, or_false] at bK
  have lU : LR ρ S (c.args.toList.map ev) (c.args.map a.eval).toList := by
    rw [Array.toList_map]; exact LR.map _ _ _ fun x hx => bK x (.inr hx)
  have hfv := bK f (.inl rfl)
  have eZ : ∀ d : Deferred, (Deferred.ofValue (a.eval f) (c.args.map a.eval)).run P w = .ok d w -> (execOp a.eval o).run P w = (invoke d.target d.args).run P w := fun d hd => by
    unfold execOp; rw [dQ]; simp only [Sem.run_bind]
    have : (resolve a.eval c o.type).run P w = .ok d w := by
      unfold resolve; rw [hc]; exact hd
    rw [this]; rfl
  have fin : ∀ e w', wW P B w0 ρ S h w v h' e w' -> (match e, w' with
      | .returned v, w'' => next (a.put o.dst v) w''
      | .panicked chain, w'' => Q (.panic chain) a w''
      | .outgrown, _ => LetsOut Q) := fun e w' he => by
    cases e with
    | returned v' => obtain ⟨bN, h1, h2⟩ := he; exact k bN w' v' h1 h2
    | panicked c => exact he.elim
    | outgrown => exact he.elim
  split at hf
  . rename_i g first captured ad8; rw [ad8] at hfv; obtain ⟨f1, c1, hef, pX, iT⟩ := hfv.z8; rw [eZ { target := .fn (.func g) c1, args := f1 ++ c.args.map a.eval } (by rw [hef]; rfl)]; rcases iJ _ _ _ _ _ hf with ⟨ad9, DK⟩ | anT
    case inr =>
      obtain ⟨w', v', e1, e2⟩ := anT ρ S w ((f1 ++ c.args.map a.eval) ++ c1).toList hr (by simpa using (pX.append lU).append iT); have hinv : (invoke (.fn (.func g) c1) (f1 ++ c.args.map a.eval)).run P w = .ok (.value v') w' := e1; rw [hinv]; exact fin (.returned v') w' e2
    have hinv : (invoke (.fn (.func g) c1) (f1 ++ c.args.map a.eval)).run P w = .ok (.enter g ((f1 ++ c.args.map a.eval) ++ c1)) w := uG ad9 _ w; rw [hinv]; refine ⟨fun hd => (by cases hd), ?_⟩; have h3 := DK ρ S w ((f1 ++ c.args.map a.eval) ++ c1).toList hr (by simpa using (pX.append lU).append iT) (n - 1); have h4 : CallsIn (mI r) (n - 1) P g ((f1 ++ c.args.map a.eval) ++ c1) w (wW P B w0 ρ S h w v h') := h3; exact h4.mono fin
  . rename_i l ad8; have al7 : ev f = .func (.yield l) #[] #[] := ad8; rw [al7] at hfv; obtain ⟨hs, hef⟩ := hfv.IP; obtain ⟨fn, tmps, assign, body, h3, h4⟩ := oM _ _ _ _ _ hf ρ S w _ hr lU hs; rw [eZ { target := .fn (.yield (ρ l).block) #[], args := #[] ++ c.args.map a.eval } (by rw [hef]; rfl)]
    have hinv : (invoke (.fn (.yield (ρ l).block) #[]) (#[] ++ c.args.map a.eval)).run P w = .ok (.round (ρ l).block fn tmps assign body) w := by
      have h5 : (c.args.map a.eval).toList.toArray = #[] ++ c.args.map a.eval := by rw [Array.toArray_toList]; simp
      rw [h5] at h3; exact h3
    rw [hinv]; refine ⟨fun hd => (by cases hd), ?_⟩; have h6 : RoundIn (mI r) (n - 1) P (ρ l).block fn tmps assign body w (wW P B w0 ρ S h w v h') := h4 (n - 1); exact h6.mono fin
  cases hf
theorem aaM {s e : TypeId} {b n : Nat} {e' : TypeId} {cs : List Value} {x' : Value} (hr : HR P ρ S B w0 h w) (hx : VR ρ S (.slice (some ⟨b, 0, none⟩) n 0) x') (hu : P.underlying s = some (.slice e)) (he : P.underlying e = some (.int .u8)) (hg : h.get b = some (.row e' cs true false)) :
    oV P B w0 ρ S h w (.slice (some ⟨h.next, 0, none⟩) n 0) ((h.drop b).push (.row e' cs true false)) ((convert s s x').run P w) := by
  obtain ⟨A, c, rfl, hnc, _, _, AS⟩ := hx.gF; have jI : b ≠ 0 := (hr.ids b (hr.aA b _ hg).1).2; obtain ⟨hS, rfl, lG⟩ := AS jI; have lG := lG rfl; obtain ⟨_, cur, h1, h2, h3, h4, h5, h6, h7⟩ := hr.aA b _ hg
  have rE : (ρ b).at 0 = ⟨(ρ b).block, 0, none⟩ := by unfold Loc.at; rw [h2]
  have hsh : w.shape? (ρ b).block = some (e', cur.length) := by simp [World.shape?, h1]
  let f : Nat × Nat := if (ρ b).fz.1 == (ρ b).fz.2 then (cur.length, cur.length + 1) else (min (ρ b).fz.1 cur.length, max (ρ b).fz.2 (cur.length + 1))
  have hf : f.1 = f.2 \/ cur.length <= f.1 := by
    right; show cur.length <= (if (ρ b).fz.1 == (ρ b).fz.2 then (cur.length, cur.length + 1) else (min (ρ b).fz.1 cur.length, max (ρ b).fz.2 (cur.length + 1))).1; have := (ρ b).hfz; split
    . exact Nat.le_refl _
    rename_i cL
    have cL : ¬ (ρ b).fz.1 = (ρ b).fz.2 := by simpa using cL
    show cur.length <= min (ρ b).fz.1 cur.length; omega
  have hw : ∀ k : Nat, (w.freeze ⟨(ρ b).block, cur.length, none⟩ 1).heap[k]? = if k = (ρ b).block then some (.cells cur.toArray e' f) else w.heap[k]? := fun k => by
    unfold World.freeze; rw [if_neg (by decide)]; simp only [Array.getElem?_modify]; by_cases hk : k = (ρ b).block
    . subst hk; rw [if_pos rfl, if_pos rfl, h1]; rfl
    rw [if_neg (fun e0 => hk e0.symm), if_neg hk]
  refine ⟨ρ.put h.next ⟨(ρ b).block, 0, cur.length, P.cellsOf e', f, hf⟩, w.freeze ⟨(ρ b).block, cur.length, none⟩ 1, .slice (some ⟨(ρ b).block, 0, none⟩) n c, ?_, ?_, ?_⟩
  . rw [rE]; simp [convert, run_underlying hu, run_underlying he, markStringish, hsh]
  . refine aO.replace hr hg rfl rfl ⟨(ρ b).block, 0, cur.length, P.cellsOf e', f, hf⟩ (.inl rfl) (hr.base b _ hg rfl) ?_ ?_ ?_ ?_ (fun k _ hk => by rw [hw, if_neg hk]) ⟨cur, by rw [hw]; exact if_pos rfl, rfl, rfl, rfl, h5, h6, fun i hi => (h7 i hi).mono (hr.qM _ (.row e' cs true false))⟩ ?_
    all_goals (unfold World.freeze; rw [if_neg (by decide)])
    . simp
    exact Nat.le_refl _
  refine pW hr.pos n c ⟨(ρ b).block, 0, cur.length, P.cellsOf e', f, hf⟩ rfl hnc ?_ _ (Ext.lP (.row e' cs true false)); show c * P.cellsOf e' = cur.length; rw [<- h4, <- h3]; omega
theorem aaN 
    {o : Oper} {ev : Operand -> Value} {a : Act} {v : Value} {r : Option Nat} {n : Nat} {next : Act -> World -> Prop} {Q : Exit -> Act -> World -> Prop}
    (hr : HR P ρ S B w0 h w) (bK : ∀ x ∈ o.op.operands.toList, VR ρ S (ev x) (a.eval x)) (hf : sG P o ev h = some (v, h'))
    (k : ∀ bN w' v', aO P B w0 ρ bN S h h' w w' -> VR bN (Ext S h h') v v' -> next (a.put o.dst v') w') : o.wpIn (mI r) n P a w next Q := by
  unfold sG at hf; split at hf
  . rename_i s d x dQ; split at hf
    . rename_i b m adA; split at hf
      . rename_i e hu; split at hf
        . rename_i he; split at hf
          . rename_i e' cs hg; obtain ⟨hc, hq⟩ := aL hf; obtain ⟨hc, _⟩ := aY hc; obtain ⟨hc, _⟩ := aY hc; obtain rfl := bI hc; have hq := Prod.mk.inj (Option.some.inj hq); obtain ⟨rfl, rfl⟩ := hq; refine ⟨qW, ?_⟩; rw [show (mI r).round = r from rfl, show o.semAt r a.eval = execOp a.eval o by unfold Oper.semAt; rw [dQ]; cases r <;> rfl]; have hx : VR ρ S (ev x) (a.eval x) := bK x (by rw [dQ]; simp [Op.operands]); rw [adA] at hx; obtain ⟨bN, w', v', h1, h2, h3⟩ := aaM hr hx hu he hg; unfold execOp; rw [dQ]; simp only [Sem.run_bind, h1, Result.andThen_ok, Sem.run_pure]; exact k bN w' v' h2 h3
          cases hf
        cases hf
      cases hf
    cases hf
  cases hf
theorem aaO 
    {o : Oper} {ev : Operand -> Value} {a : Act} {v : Value} {r : Option Nat} {n : Nat} {next : Act -> World -> Prop} {Q : Exit -> Act -> World -> Prop}
    (hr : HR P ρ S B w0 h w) (bK : ∀ x ∈ o.op.operands.toList, VR ρ S (ev x) (a.eval x)) (hf : sH P o ev h = some (v, h'))
    (k : ∀ bN w' v', aO P B w0 ρ bN S h h' w w' -> VR bN (Ext S h h') v v' -> next (a.put o.dst v') w') : o.wpIn (mI r) n P a w next Q := by
  unfold sH at hf; split at hf
  . rename_i s d x dQ; split at hf
    . rename_i b m mk adA; split at hf
      . rename_i e hu; split at hf
        . rename_i he; split at hf
          . rename_i hd; split at hf
            . rename_i e' cs more hg; obtain ⟨hc, hq⟩ := aL hf; obtain ⟨l, hl, hq⟩ := Option.map_eq_some_iff.1 hq; have hq := Prod.mk.inj hq; obtain ⟨rfl, rfl⟩ := hq; refine ⟨qW, ?_⟩; rw [show (mI r).round = r from rfl, show o.semAt r a.eval = execOp a.eval o by unfold Oper.semAt; rw [dQ]; cases r <;> rfl]; have hx : VR ρ S (ev x) (a.eval x) := bK x (by rw [dQ]; simp [Op.operands]); rw [adA] at hx; have h1 := V6 hr hx hu he hd hg (dY hc) hl; unfold execOp; rw [dQ]; simp only [Sem.run_bind, h1, Result.andThen_ok, Sem.run_pure]; exact k ρ w _ (aO.same hr) (.lit rfl)
            cases hf
          cases hf
        cases hf
      cases hf
    cases hf
  cases hf
theorem aiS {ev : Operand -> Value} {a : Act} (hr : HR P ρ S B w0 h w) {xs : List Operand} (bK : ∀ x ∈ xs, VR ρ S (ev x) (a.eval x)) : ∀ x ∈ xs, VR ρ S (evG P h ev x) (a.eval x) := fun x hx => by
  cases x with
  | global g =>
    show VR ρ S (acJ P h g) (.pointer (some ⟨g, 0, none⟩)); unfold acJ; split
    . rename_i e cs gl hg hgl
      cases hb : Nat.beq gl.type e with
      | false => exact .hD _
      | true =>
        obtain ⟨h1, h2⟩ := hr.aA _ _ hg; obtain ⟨h3, h4⟩ := h2.2.2 rfl g gl hgl (bI hb); have := VR.ptr (ρ := ρ) (S := S) (g + 1) 0 h1; unfold Loc.at at this; rw [h3, h4] at this; exact this
    exact .hD _
  | _ => exact bK _ hx
theorem aiT {call : FuncId -> List Value -> Heap -> Option (Value × Heap)} {yield : Nat -> List Value -> Heap -> Option (Value × Heap)} (iJ : lH P B w0 call) (oM : fT P B w0 yield)
    {o : Oper} {ev : Operand -> Value} {a : Act} {v : Value} {r : Option Nat} {n : Nat} {next : Act -> World -> Prop} {Q : Exit -> Act -> World -> Prop}
    (hr : HR P ρ S B w0 h w) (bK : ∀ x ∈ o.op.operands.toList, VR ρ S (ev x) (a.eval x)) (hf : rC P call yield o ev h = some (v, h'))
    (k : ∀ bN w' v', aO P B w0 ρ bN S h h' w w' -> VR bN (Ext S h h') v v' -> next (a.put o.dst v') w') : o.wpIn (mI r) n P a w next Q := by
  unfold rC at hf; split at hf
  . rename_i x hx; obtain rfl := Option.some.inj hf; exact IV iJ oM hr bK hx k
  unfold xE at hf; split at hf
  . rename_i r1 hx; obtain rfl := Option.some.inj hf; exact aaN hr bK hx k
  split at hf
  . rename_i r2 RE; obtain rfl := Option.some.inj hf; exact aaO hr bK RE k
  obtain ⟨_, hf⟩ := aL hf; exact IV (call := fun _ _ _ => none) (yield := fun _ _ _ => none) (fun _ _ _ _ _ hx => by cases hx) (fun _ _ _ _ _ hx => by cases hx) hr (aiS hr bK) hf k
end Go.Fs
namespace Go.Fs
open Go.RowKit (Below)
variable {P : Program} {ρ bN : Ren} {S S' : Nat -> Prop} {B : Nat} {w0 w w' w1 w2 : World} {h h' h1 h2 : Heap}
theorem Ext.trans' {b : Nat} (n1 : h.next <= h1.next) (n2 : h1.next <= h2.next) (he : Ext (Ext S h h1) h1 h2 b) : Ext S h h2 b := by
  rcases he with (he | he) | he
  . exact .inl he
  . exact .inr (by omega)
  exact .inr (by omega)
theorem put_defers (a : Act) (dst : Option Tmp) (v : Value) : (a.put dst v).defers = a.defers := by
  cases dst <;> rfl
theorem IW {ops : Array Oper} {t : Tr} {tmps : Array Value} {o : Oper} {b : Bool}
    (hg : ∀ j want d, o.guard = some (j, want) -> (ops[j]?).bind (·.dst) = some d -> VR ρ S (t.get d) (tmps.toList.getD d undef)) (hf : bR ops t o = some b) :
    Region.wanted o (yielded ops tmps) = b := by
  unfold bR at hf; unfold Region.wanted; split at hf
  . rename_i hn; rw [hn]; simpa using hf
  rename_i j want hn; rw [hn]; simp only; unfold yielded; split at hf
  . rename_i hd; rw [hd]; simpa using hf
  rename_i d hd; have hv := hg j want d hn hd; rw [hd]; simp only [Option.bind_some]
  have ht : tmps.toList.getD d undef = (tmps[d]?).getD undef := by
    rw [List.getD_eq_getElem?_getD, Array.getElem?_toList]
  rw [ht] at hv; split at hf
  . rename_i b0 jI; simp only [Option.some.injEq] at hf; subst hf; rw [jI] at hv; have h1 := hv.uR
    cases hx : tmps[d]? with
    | none => rw [hx] at h1; cases h1
    | some v =>
      rw [hx] at h1; simp only [Option.getD_some] at h1; subst h1; cases b0 <;> cases want <;> rfl
  . rename_i jI; simp only [Option.some.injEq] at hf; subst hf; have H5 : t.get d = .tuple #[] := jI; rw [H5] at hv; obtain ⟨cs, h1, h2⟩ := hv.IB (by simp [hD])
    have h3 : cs = #[] := by
      have := h2.1; apply Array.toList_inj.1; exact List.eq_nil_of_length_eq_zero (by simpa using this.symm)
    subst h3
    cases hx : tmps[d]? with
    | none => rfl
    | some v =>
      rw [hx] at h1; simp only [Option.getD_some] at h1; subst h1; rfl
  cases hf
theorem OL {step : Oper -> (Operand -> Value) -> Heap -> Option (Value × Heap)} {call : FuncId -> List Value -> Heap -> Option (Value × Heap)} {yield : Nat -> List Value -> Heap -> Option (Value × Heap)}
    (cC : step = rC P call yield) (iJ : lH P B w0 call) (oM : fT P B w0 yield) {ops : Array Oper} {r : Option Nat} {m n : Nat} {Q : Exit -> Act -> World -> Prop} {t' : Tr} :
    ∀ (l : List Oper) (idxs : List Nat) (ρ : Ren) (S : Nat -> Prop) (w : World) (a : Act) (t : Tr) (h : Heap), idxs.map (ops[·]?) = l.map some -> HR P ρ S B w0 h w -> kV ρ S t m a.tmps ->
      nV step ops m l t h = some (t', h') ->
      (∀ bN w' a', aO P B w0 ρ bN S h h' w w' -> kV bN (Ext S h h') t' m a'.tmps -> a'.defers = a.defers -> Q .normal a' w') -> wpOpsIn (mI r) n P ops Q idxs a w
  | [], [], ρ, S, w, a, t, h, _, hr, ht, hf, k => by
    simp only [nV, Option.some.injEq, Prod.mk.injEq] at hf; obtain ⟨rfl, rfl⟩ := hf
    exact k ρ w a (aO.same hr) (ht.mono fun _ hb => ⟨.inl hb, rfl⟩) rfl
  | [], _ :: _, _, _, _, _, _, _, hi, _, _, _, _ => by simp at hi
  | _ :: _, [], _, _, _, _, _, _, hi, _, _, _, _ => by simp at hi
  | o :: l, i :: idxs, ρ, S, w, a, t, h, hi, hr, ht, hf, k => by
    simp only [List.map_cons, List.cons.injEq] at hi; obtain ⟨ho, hi⟩ := hi; simp only [nV] at hf; have hw : ∀ b, bR ops t o = some b -> Region.wanted o (yielded ops a.tmps) = b := fun b hb => IW (fun _ _ d _ _ => ht.2.2 d) hb; simp only [wpOpsIn, ho]; split at hf
    . rename_i IX; rw [if_pos (hw _ IX)]; split at hf
      . rename_i v h1 hs; split at hf
        . rename_i t1 hp; subst cC; refine aiT iJ oM hr (fun x _ => ht.eval a.defers x) hs fun cQ w1 v1 m1 hv => ?_; have CB : kV cQ (Ext S h h1) t1 m (a.put o.dst v1).tmps := kV.put (ht.mono fun b hb => ⟨.inl hb, m1.agree b hb⟩) hp hv a.defers; refine OL rfl iJ oM l idxs cQ _ w1 _ t1 h1 hi m1.hr CB hf fun j8 w2 a2 m2 ht2 hd => ?_; exact k j8 w2 a2 (m1.trans m2) (ht2.mono fun b hb => ⟨Ext.trans' m1.next m2.next hb, rfl⟩) (hd.trans (put_defers _ _ _))
        cases hf
      cases hf
    . rename_i IX; rw [if_neg (by rw [hw _ IX]; simp)]; refine ⟨qW, ?_⟩; split at hf
      . rename_i t1 hp; have CB : kV ρ S t1 m (a.put o.dst undef).tmps := kV.put ht hp VR.undef a.defers; refine OL cC iJ oM l idxs ρ _ w _ t1 h hi hr CB hf fun j8 w2 a2 m2 ht2 hd => ?_; exact k j8 w2 a2 m2 ht2 (hd.trans (put_defers _ _ _))
      cases hf
    cases hf
theorem V7 {ops : Array Oper} : (List.range ops.size).map (ops[·]?) = ops.toList.map some := by
  refine List.ext_getElem? fun i => ?_; by_cases hi : i < ops.size
  . simp [hi]
  simp [hi]
end Go.Fs
namespace Go.Fs
open Go.RowKit (Below)
variable {P : Program} {ρ bN : Ren} {S S' : Nat -> Prop} {B : Nat} {w0 w w' w1 w2 : World} {h h' h1 h2 : Heap}
inductive AW (ops : Array Oper) : (Nat -> Bool) -> List Nat -> Prop
  | nil (E : Nat -> Bool) (h : ∀ i, i < ops.size -> E i = true) : AW ops E []
  | cons (E : Nat -> Bool) (i : Nat) (o : Oper) (l : List Nat) (ho : ops[i]? = some o) (hE : E i = false) (he : ∀ e ∈ o.after.toList, Region.binds .any e = true -> E e.on = true)
      (h : AW ops (fun j => E j || j == i) l) : AW ops E (i :: l)
def nK (ops : Array Oper) : Prop := ∀ (i : Nat) (o : Oper), ops[i]? = some o -> ∀ e ∈ o.after.toList, Region.binds .any e = true -> e.on < i
def unl (ops : Array Oper) (listed : Array Bool) : Nat := ((List.range ops.size).filter fun i => !listed.getD i true).length
theorem FZ {l : Array Bool} {i j : Nat} (b : Bool) (RL : i ≠ j) : (l.setIfInBounds i true).getD j b = l.getD j b := by
  simp [Array.getD_eq_getD_getElem?, Array.getElem?_setIfInBounds, RL]
theorem AX {l : Array Bool} {i : Nat} (b : Bool) (hi : i < l.size) : (l.setIfInBounds i true).getD i b = true := by
  simp [Array.getD_eq_getD_getElem?, Array.getElem?_setIfInBounds, hi]
theorem filter_lt {α : Type} (p q : α -> Bool) : ∀ (l : List α) (x : α), x ∈ l -> p x = true -> q x = false -> (∀ y, q y = true -> p y = true) -> (l.filter q).length < (l.filter p).length
  | [], _, hx, _, _, _ => by cases hx
  | y :: l, x, hx, hp, hq, hle => by
    have le : ∀ l : List α, (l.filter q).length <= (l.filter p).length := fun l => by
      induction l with
      | nil => simp
      | cons z l ih =>
        simp only [List.filter_cons]
        cases hz : q z with
        | true => simp [hle z hz]; omega
        | false => cases p z <;> simp <;> omega
    rcases List.mem_cons.1 hx with rfl | hx
    . simp [hp, hq]; have := le l; omega
    have ih := filter_lt p q l x hx hp hq hle; simp only [List.filter_cons]
    cases hz : q y with
    | true => simp [hle y hz]; omega
    | false => cases p y <;> simp <;> omega
theorem aaP {ops : Array Oper} (nL : nK ops) : ∀ (fuel t : Nat) (listed : Array Bool), listed.size = ops.size -> unl ops listed <= fuel ->
    AW ops (fun j => listed.getD j false) (Region.linearise.go .any ops fuel t listed []) := by
  have all : ∀ listed : Array Bool, listed.size = ops.size -> Region.ready .any ops listed = [] -> ∀ i, i < ops.size -> listed.getD i false = true := fun listed hs hr i => by
    induction i using Nat.strongRecOn with
    | ind i ih =>
      intro hi
      cases hl : listed.getD i false with
      | true => rfl
      | false =>
        have IY : i ∈ Region.ready .any ops listed := by
          unfold Region.ready; rw [List.mem_filter]; refine ⟨List.mem_range.2 hi, ?_⟩
          have h1 : listed.getD i true = false := by
            have b7 : i < listed.size := by omega
            simp [b7] at hl ⊢; exact hl
          rw [h1]; simp only [Array.getElem?_eq_getElem hi, Option.map_some, Option.getD_some, Bool.not_false, Bool.true_and]; rw [Array.all_eq_true_iff_forall_mem]; intro e he
          cases hb : Region.binds .any e with
          | false => rfl
          | true =>
            have b7 := nL i ops[i] (Array.getElem?_eq_getElem hi) e (by simpa using he) hb; simp [ih e.on b7 (by omega)]
        rw [hr] at IY; cases IY
  intro fuel
  induction fuel with
  | zero =>
    intro t listed hs hu; refine .nil _ fun i hi => ?_
    have h0 : unl ops listed = 0 := by omega
    unfold unl at h0; have h1 := List.filter_eq_nil_iff.1 (List.eq_nil_of_length_eq_zero h0) i (List.mem_range.2 hi)
    have b7 : i < listed.size := by omega
    simp [b7] at h1 ⊢
    exact h1
  | succ fuel ih =>
    intro t listed hs hu; simp only [Region.linearise.go]
    change AW ops _ (match (Region.ready .any ops listed)[t % (Region.ready .any ops listed).length]? with
      | some i => Region.linearise.go .any ops fuel (t / (Region.ready .any ops listed).length) (listed.setIfInBounds i true) [i]
      | none => [].reverse)
    cases hi : (Region.ready .any ops listed)[t % (Region.ready .any ops listed).length]? with
    | none =>
      have anU : Region.ready .any ops listed = [] := by
        cases hr : Region.ready .any ops listed with
        | nil => rfl
        | cons x xs =>
          rw [hr] at hi; have b7 : t % (x :: xs).length < (x :: xs).length := Nat.mod_lt _ (by simp); simp at hi; simp at b7; omega
      exact .nil _ fun i hi => all listed hs anU i hi
    | some i =>
      simp only []; rw [linearise_go_acc, List.reverse_singleton, List.singleton_append]; have IY := List.mem_of_getElem? hi; unfold Region.ready at IY; obtain ⟨h1, h2⟩ := List.mem_filter.1 IY; have b7 := List.mem_range.1 h1; simp only [Array.getElem?_eq_getElem b7, Option.map_some, Option.getD_some, Bool.and_eq_true, Bool.not_eq_true'] at h2; obtain ⟨h3, h4⟩ := h2
      have Y8 : i < listed.size := by omega
      have h5 : listed.getD i false = false := by simp [Y8] at h3 ⊢; exact h3
      have he : (fun j => (listed.setIfInBounds i true).getD j false) = fun j => listed.getD j false || j == i := by
        funext j; by_cases hj : i = j
        . subst hj; rw [AX false Y8]; simp
        rw [FZ false hj]
        have : (j == i) = false := by simpa using Ne.symm hj
        rw [this, Bool.or_false]
      refine .cons _ i ops[i] _ (Array.getElem?_eq_getElem b7) h5 (fun e he hb => ?_) ?_
      . have := Array.all_eq_true_iff_forall_mem.1 h4 e (by simpa using he); simpa [hb] using this
      rw [<- he]; refine ih _ _ (by simpa using hs) ?_
      have : unl ops (listed.setIfInBounds i true) < unl ops listed := by
        refine filter_lt _ _ _ i h1 (by rw [h3]; rfl) (by rw [AX true Y8]; rfl) fun y hy => ?_; by_cases hj : i = y
        . subst hj; rw [AX true Y8] at hy; cases hy
        rwa [FZ true hj] at hy
      omega
theorem V8 {ops : Array Oper} (nL : nK ops) (t : Nat) : AW ops (fun _ => false) (Region.schedule true ops t) := by
  have h1 := aaP nL ops.size t (Array.replicate ops.size false) (by simp) (by
    unfold unl
    exact Nat.le_trans (List.length_filter_le _ _) (by simp))
  have he : (fun j => (Array.replicate ops.size false).getD j false) = fun _ => false := by
    funext j; simp [Array.getD_eq_getD_getElem?, Array.getElem?_replicate]; split <;> rfl
  rw [he] at h1; simpa [Region.schedule, Region.linearise] using h1
structure tQ (P : Program) (B : Nat) (w0 : World) (ρ bN : Ren) (S S' : Nat -> Prop) (h h' : Heap) (L : Nat) (w w' : World) : Prop where
  agree : ∀ b, S b -> bN b = ρ b
  sub : ∀ b, S b -> S' b
  hr : HR P bN S' B w0 h' w'
  frame : Frame ρ h w w'
  keep : ∀ i, S i -> i < L -> h'.get i = h.get i
  old : ∀ i o, h'.get i = some o -> S i -> ∃ o', h.get i = some o' /\ iB o' = iB o
  fresh : ∀ i o, h'.get i = some o -> ¬ S i -> iB o = true /\ (w.heap.size <= (bN i).block \/ ∃ j oj, h.get j = some oj /\ iB oj = true /\ (ρ j).block = (bN i).block /\ L <= j)
theorem tQ.trans {S1 S2 : Nat -> Prop} {cQ j8 : Ren} {L : Nat} (m : tQ P B w0 ρ cQ S S1 h h1 L w w1) (k : tQ P B w0 cQ j8 S1 S2 h1 h2 L w1 w2) : tQ P B w0 ρ j8 S S2 h h2 L w w2 where
  agree := fun b hb => (k.agree b (m.sub b hb)).trans (m.agree b hb)
  sub := fun b hb => k.sub b (m.sub b hb)
  hr := k.hr
  frame := by
    refine ⟨k.frame.os.trans m.frame.os, k.frame.tape.trans m.frame.tape, k.frame.output.trans m.frame.output, Nat.le_trans m.frame.size k.frame.size, fun b hb mR => ?_⟩; rw [k.frame.block b (Nat.lt_of_lt_of_le hb m.frame.size) ?_, m.frame.block b hb mR]; intro i o hi ho he; by_cases hS : S i
    . obtain ⟨o', qU, pU⟩ := m.old i o hi hS; rw [m.agree i hS] at he; exact mR i o' qU (pU.trans ho) he
    obtain ⟨_, hf⟩ := m.fresh i o hi hS; rcases hf with hf | ⟨j, oj, hj, lT, DN, _⟩
    . omega
    exact mR j oj hj lT (DN.trans he)
  keep := fun i hi hl => (k.keep i (m.sub i hi) hl).trans (m.keep i hi hl)
  old := fun i o ho hi => by
    obtain ⟨o1, h1, h2⟩ := k.old i o ho (m.sub i hi); obtain ⟨o2, h3, h4⟩ := m.old i o1 h1 hi; exact ⟨o2, h3, h4.trans h2⟩
  fresh := fun i o ho hi => by
    by_cases OM : S1 i
    . obtain ⟨o1, h3, h4⟩ := k.old i o ho OM; obtain ⟨h5, hf⟩ := m.fresh i o1 h3 hi; refine ⟨h4 ▸ h5, ?_⟩; rw [k.agree i OM]; exact hf
    obtain ⟨h5, hf⟩ := k.fresh i o ho OM; refine ⟨h5, ?_⟩; rcases hf with hf | ⟨j, oj, hj, lT, DN, hlj⟩
    . exact .inl (Nat.le_trans m.frame.size hf)
    by_cases hjS : S j
    . obtain ⟨o2, h6, h7⟩ := m.old j oj hj hjS; rw [m.agree j hjS] at DN; exact .inr ⟨j, o2, h6, h7.trans lT, DN, hlj⟩
    obtain ⟨_, US⟩ := m.fresh j oj hj hjS; rcases US with US | ⟨j', oj', OE, acP, acQ, ajZ⟩
    . exact .inl (by omega)
    exact .inr ⟨j', oj', OE, acP, acQ.trans DN, ajZ⟩
open Classical in
noncomputable def glue (S : Nat -> Prop) (ρ cQ : Ren) : Ren := fun b => if S b then ρ b else cQ b
theorem jV {cQ : Ren} {b : Nat} (hb : S b) : glue S ρ cQ b = ρ b := by unfold glue; rw [if_pos hb]
theorem s9 {cQ : Ren} {b : Nat} (hb : ¬ S b) : glue S ρ cQ b = cQ b := by unfold glue; rw [if_neg hb]
theorem CC {S1 S2 : Nat -> Prop} {cQ : Ren} {H H2 hm : Heap} {L : Nat} (hr : HR P ρ S B w0 H w) (xO : ∀ b, S1 b -> S b) (jW : ∀ b o, hm.get b = some o -> H.get b = some o)
    (sL : HR P ρ S1 B w0 hm w) (m : aO P B w0 ρ cQ S1 hm h1 w w1) (n6 : ∀ b, hm.next <= b -> b < h1.next -> ¬ S b) (uT : ∀ b, S2 b ↔ S b \/ (hm.next <= b /\ b < h1.next))
    (anV : ∀ b, S2 b -> b < H2.next) (wX : 0 < H2.next) (hL : ∀ b o, ¬ S b -> H2.get b = some o -> L <= h1.low)
    (ha : ∀ b o, S b -> H2.get b = some o -> (hm.get b ≠ none /\ h1.get b = some o) \/ (hm.get b = none /\ H.get b = some o))
    (hb : ∀ b o, ¬ S b -> H2.get b = some o -> (hm.next <= b /\ b < h1.next) /\ h1.get b = some o) (hc : ∀ b, S b -> b < L -> H2.get b = H.get b) :
    tQ P B w0 ρ (glue S ρ cQ) S S2 H H2 L w w1 := by
  have gl : ∀ b, Ext S1 hm h1 b -> S2 b /\ glue S ρ cQ b = cQ b := fun b ON => by
    rcases ON with ON | ON
    . exact ⟨(uT b).2 (.inl (xO b ON)), by rw [jV (xO b ON), m.agree b ON]⟩
    exact ⟨(uT b).2 (.inr ON), s9 (n6 b ON.1 ON.2)⟩
  have ak3 : ∀ b, hm.get b ≠ none -> S1 b := fun b hbn => by
    cases hg : hm.get b with
    | none => exact absurd hg hbn
    | some o => exact (sL.aA b o hg).1
  -- an object is one of the part, or lies beside it
  have cls : ∀ b o, H2.get b = some o -> (h1.get b = some o /\ Ext S1 hm h1 b /\ glue S ρ cQ b = cQ b) \/ (hm.get b = none /\ H.get b = some o /\ S b /\ glue S ρ cQ b = ρ b) := fun b o hg => by
    by_cases hS : S b
    . rcases ha b o hS hg with ⟨h3, h4⟩ | ⟨h3, h4⟩
      . have this : Ext S1 hm h1 b := .inl (ak3 b h3); exact .inl ⟨h4, this, (gl b this).2⟩
      exact .inr ⟨h3, h4, hS, jV hS⟩
    obtain ⟨h3, h4⟩ := hb b o hS hg; exact .inl ⟨h4, .inr h3, s9 hS⟩
  have beside : ∀ b o, hm.get b = none -> H.get b = some o -> w1.heap[(ρ b).block]? = w.heap[(ρ b).block]? := fun b o hn hg => by
    refine m.frame.block _ ?_ fun j oj hj lT he => ?_
    . by_cases jT : iB o = true
      . exact (hr.aA b o hg).2.lt jT
      have := hr.ro b o hg (by simpa using jT); have := hr.size; omega
    by_cases jT : iB o = true
    . have := hr.inj j b oj o (jW j oj hj) hg lT jT he; subst this; rw [hj] at hn; cases hn
    have h3 := hr.ro b o hg (by simpa using jT); have h4 := hr.base j oj (jW j oj hj) lT; omega
  have mixed : ∀ i j oi oj, h1.get i = some oi -> Ext S1 hm h1 i -> iB oi = true -> hm.get j = none -> H.get j = some oj -> iB oj = true -> (cQ i).block = (ρ j).block -> False := fun i j oi oj hi hxi uC hn hj lT he => by
    by_cases b7 : i < hm.next
    . obtain ⟨o', h3, h4⟩ := m.old i oi hi b7; have hSi := (sL.aA i o' h3).1; rw [m.agree i hSi] at he; have := hr.inj i j o' oj (jW i o' h3) hj (h4.trans uC) lT he; subst this; rw [h3] at hn; cases hn
    obtain ⟨_, hf⟩ := m.fresh i oi hi (by omega); have hjl := (hr.aA j oj hj).2.lt lT; rcases hf with hf | ⟨j', oj', h3, h4, h5, _⟩
    . omega
    have := hr.inj j' j oj' oj (jW j' oj' h3) hj h4 lT (h5.trans he); subst this; rw [h3] at hn; cases hn
  exact {
    agree := fun b pZ => jV pZ
    sub := fun b pZ => (uT b).2 (.inl pZ)
    hr := {
      aA := fun i o hi => by
        rcases cls i o hi with ⟨h3, h4, h5⟩ | ⟨h3, h4, h5, h6⟩
        . refine ⟨(gl i h4).1, ?_⟩; rw [h5]; exact (m.hr.aA i o h3).2.mono gl
        refine ⟨(uT i).2 (.inl h5), ?_⟩; rw [h6]; exact ((hr.aA i o h4).2.mono fun b pZ => ⟨(uT b).2 (.inl pZ), jV pZ⟩).world (beside i o h3 h4)
      inj := fun i j oi oj hi hj uC lT he => by
        rcases cls i oi hi with ⟨h3, h4, h5⟩ | ⟨h3, h4, h5, h6⟩ <;> rcases cls j oj hj with ⟨k3, k4, k5⟩ | ⟨k3, k4, k5, k6⟩
        . rw [h5, k5] at he; exact m.hr.inj i j oi oj h3 k3 uC lT he
        . rw [h5, k6] at he; exact (mixed i j oi oj h3 h4 uC k3 k4 lT he).elim
        . rw [h6, k5] at he; exact (mixed j i oj oi k3 k4 lT h3 h4 uC he.symm).elim
        rw [h6, k6] at he; exact hr.inj i j oi oj h4 k4 uC lT he
      base := fun i o hi ho => by
        rcases cls i o hi with ⟨h3, h4, h5⟩ | ⟨h3, h4, h5, h6⟩
        . rw [h5]; exact m.hr.base i o h3 ho
        rw [h6]; exact hr.base i o h4 ho
      ro := fun i o hi ho => by
        rcases cls i o hi with ⟨h3, h4, h5⟩ | ⟨h3, h4, h5, h6⟩
        . rw [h5]; exact m.hr.ro i o h3 ho
        rw [h6]; exact hr.ro i o h4 ho
      ids := fun b pZ => by
        refine ⟨anV b pZ, ?_⟩; rcases (uT b).1 pZ with h3 | h3
        . exact (hr.ids b h3).2
        have := sL.pos; omega
      pos := wX
      below := m.hr.below
      drawn := m.hr.drawn
      size := m.hr.size }
    frame := ⟨m.frame.os, m.frame.tape, m.frame.output, m.frame.size, fun k hk mR => m.frame.block k hk fun i o hi ho => mR i o (jW i o hi) ho⟩
    keep := hc
    old := fun i o hi hS => by
      rcases ha i o hS hi with ⟨h3, h4⟩ | ⟨h3, h4⟩
      . have h5 := ak3 i h3; obtain ⟨o', h6, h7⟩ := m.old i o h4 (sL.ids i h5).1; exact ⟨o', jW i o' h6, h7⟩
      exact ⟨o, h4, rfl⟩
    fresh := fun i o hi hS => by
      obtain ⟨h3, h4⟩ := hb i o hS hi; obtain ⟨h5, hf⟩ := m.fresh i o h4 h3.1; refine ⟨h5, ?_⟩; rw [s9 hS]; rcases hf with hf | ⟨j, oj, h6, h7, h8, h9, _⟩
      . exact .inl hf
      exact .inr ⟨j, oj, jW j oj h6, h7, h8, Nat.le_trans (hL i o hS hi) h9⟩ }
theorem VR.xV {v v0 v1 : Value} {cQ : Ren} {S1 : Nat -> Prop} (h : VR ρ S v v0) (k : VR cQ S1 v v1) (fC : ∀ b, S b -> cQ b = ρ b) : VR ρ S v v1 := by
  induction h generalizing v1 with
  | lit h => rw [k.gE h]; exact .lit h
  | hD v => exact .hD _
  | nan q b hb =>
    obtain ⟨b', rfl, h2⟩ := k.xD (k := q) rfl
    exact .nan q b' (h2 rfl)
  | ptr b o hs =>
    obtain ⟨_, rfl⟩ := k.oW
    rw [fC b hs]; exact .ptr b o hs
  | slice b o n m c A hn hm h0 hb =>
    obtain ⟨A', c', rfl, h1, h2, h3, h4⟩ := k.gF; refine .slice b o n m c' A' h1 h2 h3 fun jI => ?_; obtain ⟨h5, _, _⟩ := hb jI; obtain ⟨_, h6, h7⟩ := h4 jI; rw [fC b h5] at h6 h7
    exact ⟨h5, h6, h7⟩
  | map b hs =>
    obtain ⟨_, rfl⟩ := k.xM
    rw [fC b hs]; exact .map b hs
  | agg cs cs' hl _ ih =>
    obtain ⟨c1, rfl, h1⟩ := k.IA
    exact .agg cs c1 (by simpa using h1.1) fun i hi => ih i hi (h1.2 i (by simpa using hi))
  | tuple cs cs' hl _ ih =>
    cases k with
    | lit h => simp [eN] at h
    | hD => exact .hD _
    | tuple _ c1 pX h1 => exact .tuple cs c1 pX fun i hi => ih i hi (h1 i hi)
  | func f a a' c c' ha _ hc _ ihA ihC =>
    obtain ⟨a1, c1, rfl, h1, h2⟩ := k.z8
    exact .func f a a1 c c1 (by simpa using h1.1) (fun i hi => ihA i hi (h1.2 i (by simpa using hi))) (by simpa using h2.1) (fun i hi => ihC i hi (h2.2 i (by simpa using hi)))
  | yield l hs =>
    obtain ⟨_, rfl⟩ := k.IP; rw [fC l hs]; exact .yield l hs
theorem kY.xV {l : Loc} {o : aX} {cQ : Ren} {S1 : Nat -> Prop} (h : kY P ρ S l w o) (k : kY P cQ S1 l w1 o) (fC : ∀ b, S b -> cQ b = ρ b) : kY P ρ S l w1 o := by
  match o, h, k with
  | .row e cs true more, ⟨aq5, _, _, _, _, _, _, g7⟩, ⟨cur, h1, h2, h3, h4, h5, h6, h7⟩ => exact ⟨cur, h1, h2, h3, h4, h5, h6, fun i hi => (g7 i hi).xV (h7 i hi) fC⟩
  | .row e cs false more, hg, hk => exact ⟨hk.1, fun i hi => let ⟨v, h1, h2⟩ := hk.2.1 i hi; let ⟨v0, _, g2⟩ := hg.2.1 i hi; ⟨v, h1, g2.xV h2 fC⟩, hk.2.2⟩
  | .nG es clock, ⟨es0, g1, g2, g3⟩, ⟨eH, h1, h2, h3⟩ =>
    refine ⟨eH, h1, h2, fun i e e' he lS => ?_⟩; obtain ⟨a, b, c, d⟩ := h3 i e e' he lS
    have b7 : i < es0.length := by have := (List.getElem?_eq_some_iff.1 he).1; omega
    exact ⟨a, b, c, (g3 i e es0[i] he (List.getElem?_eq_getElem b7)).2.2.2.xV d fC⟩
  | .iter s pos, _, hk => exact hk
  | .dJ st jump tmps n params assign body d, ⟨g0, fn0, t0, g1, g2⟩, ⟨h0, fn, jA, h1, h2⟩ =>
    rw [fC d g0] at h1
    exact ⟨g0, fn, jA, h1, ⟨h2.1.1, h2.1.2.1, fun i => (g2.1.2.2 i).xV (h2.1.2.2 i) fC⟩, h2.2⟩
  | .iX, _, hk => exact hk
end Go.Fs
namespace Go.Fs
variable {P : Program}
section
variable {step : Oper -> (Operand -> Value) -> Heap -> Option (Value × Heap)} {ops : Array Oper} {n : Nat}
inductive zT (step : Oper -> (Operand -> Value) -> Heap -> Option (Value × Heap)) (ops : Array Oper) (n : Nat) (X : Nat -> aX -> Prop) (o : Oper) (i : Nat) (s s' : dO) : Prop
  | skip (hw : bR ops s.t o = some false) (hp : put n s.t o.dst undef = some s'.t) (hh : s'.h = s.h) (hs : s'.segs = s.segs) (hm : s'.mem = s.mem) (ht : s'.tail = s.tail)
  | calm (hw : bR ops s.t o = some true) (hc : calm o.op = true) (v : Value) (h' : Heap) (cC : step o (aB s.t) { next := s.h.next, low := s.h.next, aA := [] } = some (v, h')) (hn : h'.next = s.h.next)
      (hp : put n s.t o.dst v = some s'.t) (hh : s'.h = s.h) (hs : s'.segs = s.segs) (hm : s'.mem = s.mem) (ht : s'.tail = s.tail)
  | still (hw : bR ops s.t o = some true) (v : Value) (aA : List (Nat × aX)) (hX : ∀ b ob, look aA b = some ob -> X b ob)
      (cC : step o (aB s.t) { next := s.h.next, low := s.h.next, aA := aA } = some (v, { next := s.h.next, low := s.h.next, aA := aA }))
      (hp : put n s.t o.dst v = some s'.t) (hh : s'.h = s.h) (hs : s'.segs = s.segs) (hm : s'.mem = s.mem) (ht : s'.tail = s.tail)
  | mem (hw : bR ops s.t o = some true) (hc : Fs.calm o.op = false) (v : Value) (h' : Heap) (ord : Bool) (ho : ord = Nat.beq (s.mem &&& aP s.bs o) s.mem) (lV : s.tail = true -> ord = true)
      (cC : step o (aB s.t) { next := s.h.next, low := s.h.next, aA := bif ord then s.h.aA else mask (aP s.bs o) s.segs s.h.aA } = some (v, h')) (hn : s.h.next <= h'.next)
      (hp : put n s.t o.dst v = some s'.t) (hm : s'.mem = s.mem ||| 2 ^ i) (hs : s'.segs = (i, s.h.next, h'.next) :: s.segs) (gA : s'.h.next = h'.next)
      (hk : (s.h.next <= h'.low /\ s'.h.low = s.h.low /\ s'.h.aA = bM s.h.next h'.next h'.aA ++ s.h.aA /\ s'.tail = s.tail) \/ (ord = true /\ s'.h.low = min s.h.low h'.low /\ s'.h.aA = h'.aA /\ s'.tail = true))
theorem OO {X : Nat -> aX -> Prop} {o : Oper} {i : Nat} {s s' : dO} (hf : fY step ops n o i s = some s') : s'.bs = s.bs ++ [aP s.bs o] /\ zT step ops n X o i s s' := by
  unfold fY at hf; simp only at hf; split at hf
  . rename_i hw; obtain ⟨t, h1, h2⟩ := Option.map_eq_some_iff.1 hf; subst h2; exact ⟨rfl, .skip hw h1 rfl rfl rfl rfl⟩
  . cases hf
  rename_i hw; split at hf
  . rename_i hc; split at hf
    . rename_i v h' cC; obtain ⟨h3, h4⟩ := aL hf; obtain ⟨t, h1, h2⟩ := Option.map_eq_some_iff.1 h4; subst h2; exact ⟨rfl, .calm hw hc v h' cC (bI h3) h1 rfl rfl rfl rfl⟩
    cases hf
  rename_i hc
  have hc : calm o.op = false := by simpa using hc
  generalize iM : Nat.beq (s.mem &&& aP s.bs o) s.mem = ord at hf
  cases nW : (s.tail && !ord) with
  | true => rw [nW] at hf; cases hf
  | false =>
    rw [nW] at hf; simp only [cond_false] at hf
    have lV : s.tail = true -> ord = true := fun h => by rw [h] at nW; simpa using nW
    split at hf
    . rename_i v h' cC
      cases b7 : Nat.blt h'.next s.h.next with
      | true => rw [b7] at hf; cases hf
      | false =>
        rw [b7] at hf; simp only [cond_false] at hf
        have hn : s.h.next <= h'.next := by have := gR b7; omega
        split at hf
        . rename_i t hp
          cases dK : Nat.ble s.h.next h'.low with
          | true =>
            rw [dK] at hf; simp only [cond_true, Option.some.injEq] at hf; subst hf
            exact ⟨rfl, .mem hw hc v h' ord iM.symm lV cC hn hp rfl rfl rfl (.inl ⟨dY dK, rfl, rfl, rfl⟩)⟩
          | false =>
            rw [dK] at hf; simp only [cond_false] at hf; obtain ⟨h5, h6⟩ := aL hf; simp only [Option.some.injEq] at h6; subst h6; exact ⟨rfl, .mem hw hc v h' ord iM.symm lV cC hn hp rfl rfl rfl (.inr ⟨h5, rfl, rfl, rfl⟩)⟩
        cases hf
    cases hf
theorem CD : ∀ (l : List Oper) (i : Nat) (s s' : dO), kM step ops n l i s = some s' -> ∃ st : Nat -> dO, st i = s /\ st (i + l.length) = s' /\
    ∀ j o, l[j]? = some o -> fY step ops n o (i + j) (st (i + j)) = some (st (i + j + 1))
  | [], i, s, s', h => by
    simp only [kM, Option.some.injEq] at h; subst h
    exact ⟨fun _ => s, rfl, rfl, fun j o hj => by simp at hj⟩
  | o :: l, i, s, s', h => by
    simp only [kM] at h; split at h
    . rename_i s1 xO; obtain ⟨st, h1, h2, h3⟩ := CD l (i + 1) s1 s' h; refine ⟨fun k => if k = i then s else st k, by simp, ?_, fun j o' hj => ?_⟩
      . simp only [List.length_cons]; rw [if_neg (by omega), <- h2]; congr 1; omega
      cases j with
      | zero =>
        simp at hj; subst hj
        simp [h1, xO]
      | succ j =>
        simp only [List.getElem?_cons_succ] at hj; have := h3 j o' hj; rw [show i + 1 + j = i + (j + 1) by omega] at this; simp only; rw [if_neg (by omega), if_neg (by omega)]; exact this
    cases h
structure Trace (step : Oper -> (Operand -> Value) -> Heap -> Option (Value × Heap)) (ops : Array Oper) (n : Nat) (st : Nat -> dO) (t0 : Tr) (h0 : Heap) : Prop where
  zero : st 0 = ⟨t0, h0, [], [], 0, false⟩
  DT : ∀ i o, ops[i]? = some o -> (st (i + 1)).bs = (st i).bs ++ [aP (st i).bs o] /\ zT step ops n (fun b ob => h0.get b = some ob /\ b < h0.next /\ (b < (st ops.size).h.low \/ ∀ q, q <= ops.size -> (st q).h.get b = some ob)) o i (st i) (st (i + 1))
variable {st : Nat -> dO} {t0 : Tr} {h0 : Heap}
theorem aaQ {s : dO} (h : kM step ops n ops.toList 0 ⟨t0, h0, [], [], 0, false⟩ = some s) : ∃ st, Trace step ops n st t0 h0 /\ st ops.size = s := by
  obtain ⟨st, h1, h2, h3⟩ := CD _ _ _ _ h; refine ⟨st, ⟨h1, fun i o ho => ?_⟩, by simpa using h2⟩; have := h3 i o (by simpa using ho); simp only [Nat.zero_add] at this; exact OO this
def HP (P : Program) (h0 : Heap) (ops : Array Oper) (n : Nat) (o : Oper) (s : dO) : Option (dO × Nat) :=
  match bR ops s.t o, o.op with
  | some true, .load T a =>
    match aB s.t a with
    | .pointer (some p) =>
      match h0.get p.block with
      | some ob =>
        bif Nat.blt p.block h0.next then
          match eO P T (aB s.t a) { next := s.h.next, low := s.h.next, aA := [(p.block, ob)] } with
          | some v => (put n s.t o.dst v).map fun t => ({ s with t, bs := s.bs ++ [aP s.bs o] }, p.block + 1)
          | none => none
        else none
      | none => none
    | _ => none
  | _, _ => none
def q4 (P : Program) (h0 : Heap) (step : Oper -> (Operand -> Value) -> Heap -> Option (Value × Heap)) (ops : Array Oper) (n : Nat) : List Oper -> Nat -> dO -> Nat -> Option (dO × Nat)
  | [], _, s, lim => some (s, lim)
  | o :: r, i, s, lim => match fY step ops n o i s with
    | some s' => q4 P h0 step ops n r (i + 1) s' lim
    | none => match HP P h0 ops n o s with
      | some (s', b) => q4 P h0 step ops n r (i + 1) s' (max lim b)
      | none => none
def HQ (P : Program) (h0 : Heap) (step : Oper -> (Operand -> Value) -> Heap -> Option (Value × Heap)) (ops : Array Oper) (n : Nat) (s : dO) : Option dO :=
  match q4 P h0 step ops n ops.toList 0 s 0 with
  | some (s', lim) => bif Nat.ble lim s'.h.low then some s' else none
  | none => none
theorem aaR {call : FuncId -> List Value -> Heap -> Option (Value × Heap)} {yield : Nat -> List Value -> Heap -> Option (Value × Heap)} {X : Nat -> aX -> Prop} {o : Oper} {i b : Nat} {s s' : dO}
    (hf : HP P h0 ops n o s = some (s', b)) (hX : ∀ c ob, h0.get c = some ob -> c < h0.next -> c + 1 = b -> X c ob) :
    s'.bs = s.bs ++ [aP s.bs o] /\ zT (cP P call yield) ops n X o i s s' := by
  unfold HP at hf; split at hf
  . rename_i T a hw dQ; split at hf
    . rename_i p bK; split at hf
      . rename_i ob hg; obtain ⟨h1, h2⟩ := aL hf; split at h2
        . rename_i v hv; obtain ⟨t, h3, h4⟩ := Option.map_eq_some_iff.1 h2; simp only [Prod.mk.injEq] at h4; obtain ⟨h4, h5⟩ := h4; subst h4; refine ⟨rfl, .still hw v [(p.block, ob)] (fun c oc hc => ?_) ?_ h3 rfl rfl rfl rfl⟩
          . simp only [look] at hc
            cases AY : Nat.beq p.block c with
            | true =>
              rw [AY] at hc; simp only [cond_true, Option.some.injEq] at hc; obtain rfl := bI AY; subst hc
              exact hX _ _ hg (jB h1) h5
            | false => rw [AY] at hc; cases hc
          unfold cP; rw [dQ]; simp only [hv, Option.map_some]
        cases h2
      cases hf
    cases hf
  cases hf
theorem uH {call : FuncId -> List Value -> Heap -> Option (Value × Heap)} {yield : Nat -> List Value -> Heap -> Option (Value × Heap)} : ∀ (l : List Oper) (i : Nat) (s s' : dO) (lim xW : Nat), q4 P h0 (cP P call yield) ops n l i s lim = some (s', xW) ->
    lim <= xW /\ ∃ st : Nat -> dO, st i = s /\ st (i + l.length) = s' /\
    ∀ j o, l[j]? = some o -> ∀ X : Nat -> aX -> Prop, (∀ c ob, h0.get c = some ob -> c < h0.next -> c < xW -> X c ob) -> (st (i + j + 1)).bs = (st (i + j)).bs ++ [aP (st (i + j)).bs o] /\ zT (cP P call yield) ops n X o (i + j) (st (i + j)) (st (i + j + 1))
  | [], i, s, s', lim, xW, h => by
    simp only [q4, Option.some.injEq, Prod.mk.injEq] at h; obtain ⟨h, h'⟩ := h; subst h h'
    exact ⟨Nat.le_refl _, fun _ => s, rfl, rfl, fun j o hj => by simp at hj⟩
  | o :: l, i, s, s', lim, xW, h => by
    simp only [q4] at h
    have key : ∀ s1 Y9, lim <= Y9 -> q4 P h0 (cP P call yield) ops n l (i + 1) s1 Y9 = some (s', xW) ->
        (∀ X : Nat -> aX -> Prop, (∀ c ob, h0.get c = some ob -> c < h0.next -> c < xW -> X c ob) -> s1.bs = s.bs ++ [aP s.bs o] /\ zT (cP P call yield) ops n X o i s s1) ->
      lim <= xW /\ ∃ st : Nat -> dO, st i = s /\ st (i + (o :: l).length) = s' /\
        ∀ j o', (o :: l)[j]? = some o' -> ∀ X : Nat -> aX -> Prop, (∀ c ob, h0.get c = some ob -> c < h0.next -> c < xW -> X c ob) -> (st (i + j + 1)).bs = (st (i + j)).bs ++ [aP (st (i + j)).bs o'] /\ zT (cP P call yield) ops n X o' (i + j) (st (i + j)) (st (i + j + 1)) := fun s1 Y9 hl hr hd => by
      obtain ⟨hle, st, h1, h2, h3⟩ := uH l (i + 1) s1 s' Y9 xW hr; refine ⟨Nat.le_trans hl hle, fun k => if k = i then s else st k, by simp, ?_, fun j o' hj X hX => ?_⟩
      . simp only [List.length_cons]; rw [if_neg (by omega), <- h2]; congr 1; omega
      cases j with
      | zero =>
        simp at hj; subst hj
        simpa [h1] using hd X hX
      | succ j =>
        simp only [List.getElem?_cons_succ] at hj; have := h3 j o' hj X hX; rw [show i + 1 + j = i + (j + 1) by omega] at this; simp only; rw [if_neg (by omega), if_neg (by omega)]; exact this
    split at h
    . rename_i s1 xO; exact key s1 lim (Nat.le_refl _) h fun X _ => OO xO
    split at h
    . rename_i s1 b xO; refine key s1 _ (Nat.le_max_left _ _) h fun X hX => aaR xO fun c ob hc mS zR => hX c ob hc mS ?_; have := (uH l (i + 1) s1 s' _ xW h).1; have := Nat.le_max_right lim b; omega
    cases h
theorem V9 {call : FuncId -> List Value -> Heap -> Option (Value × Heap)} {yield : Nat -> List Value -> Heap -> Option (Value × Heap)} {s : dO} (h : HQ P h0 (cP P call yield) ops n ⟨t0, h0, [], [], 0, false⟩ = some s) : ∃ st, Trace (cP P call yield) ops n st t0 h0 /\ st ops.size = s := by
  unfold HQ at h; split at h
  . rename_i s' lim hr; obtain ⟨hl, h⟩ := aL h; simp only [Option.some.injEq] at h; subst h; obtain ⟨_, st, h1, h2, h3⟩ := uH _ _ _ _ _ _ hr
    have CA : st ops.size = s' := by simpa using h2
    refine ⟨st, ⟨h1, fun i o ho => ?_⟩, CA⟩; have := h3 i o (by simpa using ho) (fun b ob => h0.get b = some ob /\ b < h0.next /\ (b < (st ops.size).h.low \/ ∀ q, q <= ops.size -> (st q).h.get b = some ob)) (fun c ob hc mS zR => ⟨hc, mS, .inl (by rw [CA]; exact Nat.lt_of_lt_of_le zR (dY hl))⟩); simpa only [Nat.zero_add] using this
  cases h
def nM (st : Nat -> dO) (ops : Array Oper) (k : Nat) : Nat := match ops[k]? with
  | some o => aP (st k).bs o
  | none => 0
theorem Trace.bs (T : Trace step ops n st t0 h0) : ∀ i, i <= ops.size -> (st i).bs.length = i /\ ∀ k, k < i -> (st i).bs.getD k 0 = nM st ops k
  | 0, _ => ⟨by rw [T.zero]; rfl, fun k hk => by omega⟩
  | i + 1, hi => by
    obtain ⟨h1, h2⟩ := Trace.bs T i (by omega); have ho : ops[i]? = some ops[i] := Array.getElem?_eq_getElem (by omega); have h3 := (T.DT i _ ho).1; refine ⟨by rw [h3]; simp [h1], fun k hk => ?_⟩; rw [h3, List.getD_eq_getElem?_getD]; by_cases iK : k < i
    . rw [List.getElem?_append_left (by omega)]; have := h2 k iK
      rwa [List.getD_eq_getElem?_getD] at this
    have : k = i := by omega
    subst this; rw [List.getElem?_append_right (by omega), h1, Nat.sub_self]; simp [nM, ho]
theorem CE (bs : List Nat) (m : Nat) : ∀ (es : List Edge) (s : Nat),
    (es.foldl (fun s e => if Region.binds .any e then s ||| 2 ^ e.on ||| bs.getD e.on 0 else s) s).testBit m = true ↔ s.testBit m = true \/ ∃ e ∈ es, Region.binds .any e = true /\ (e.on = m \/ (bs.getD e.on 0).testBit m = true)
  | [], s => by simp
  | e :: es, s => by
    rw [List.foldl_cons, CE bs m es]
    cases hb : Region.binds .any e with
    | false => simp [hb]
    | true =>
      simp only [if_true, Nat.testBit_or, Bool.or_eq_true, Nat.testBit_two_pow, decide_eq_true_eq, List.mem_cons, exists_eq_or_imp, hb, true_and]; constructor
      . rintro (((h | h) | h) | h)
        . exact .inl h
        . exact .inr (.inl (.inl h))
        . exact .inr (.inl (.inr h))
        exact .inr (.inr h)
      rintro (h | (h | h) | h)
      . exact .inl (.inl (.inl h))
      . exact .inl (.inl (.inr h))
      . exact .inl (.inr h)
      exact .inr h
theorem Trace.CF (T : Trace step ops n st t0 h0) (nL : nK ops) {k : Nat} {o : Oper} (ho : ops[k]? = some o) (m : Nat) : (nM st ops k).testBit m = true ↔ ∃ e ∈ o.after.toList, Region.binds .any e = true /\ (e.on = m \/ (nM st ops e.on).testBit m = true) := by
  have hk : k < ops.size := (Array.getElem?_eq_some_iff.1 ho).1
  have h1 : nM st ops k = aP (st k).bs o := by simp [nM, ho]
  rw [h1]; unfold aP; rw [CE]; simp only [Nat.zero_testBit, Bool.false_eq_true, false_or]; constructor
  . rintro ⟨e, he, hb, h⟩; rw [(T.bs k (by omega)).2 e.on (nL k o ho e he hb)] at h; exact ⟨e, he, hb, h⟩
  rintro ⟨e, he, hb, h⟩; rw [<- (T.bs k (by omega)).2 e.on (nL k o ho e he hb)] at h; exact ⟨e, he, hb, h⟩
theorem Trace.OP (T : Trace step ops n st t0 h0) (nL : nK ops) : ∀ (k m : Nat), (nM st ops k).testBit m = true -> m < k := fun k => by
  induction k using Nat.strongRecOn with
  | ind k ih =>
    intro m hm
    cases ho : ops[k]? with
    | none => simp [nM, ho] at hm
    | some o =>
      obtain ⟨e, he, hb, h⟩ := (T.CF nL ho m).1 hm; have h1 := nL k o ho e he hb; rcases h with h | h
      . omega
      have := ih e.on h1 m h; omega
theorem Trace.M7 (T : Trace step ops n st t0 h0) (nL : nK ops) : ∀ (k m l : Nat), (nM st ops k).testBit m = true -> (nM st ops m).testBit l = true -> (nM st ops k).testBit l = true := fun k => by
  induction k using Nat.strongRecOn with
  | ind k ih =>
    intro m l hm hl
    cases ho : ops[k]? with
    | none => simp [nM, ho] at hm
    | some o =>
      obtain ⟨e, he, hb, h⟩ := (T.CF nL ho m).1 hm; have h1 := nL k o ho e he hb; rcases h with h | h
      . subst h; exact (T.CF nL ho l).2 ⟨e, he, hb, .inr hl⟩
      exact (T.CF nL ho l).2 ⟨e, he, hb, .inr (ih e.on h1 m l h hl)⟩
theorem Trace.RM (T : Trace step ops n st t0 h0) (nL : nK ops) {E : Nat -> Bool} (hE : ∀ k, E k = true -> ∀ m, (nM st ops k).testBit m = true -> E m = true) {k : Nat} {o : Oper} (ho : ops[k]? = some o)
    (he : ∀ e ∈ o.after.toList, Region.binds .any e = true -> E e.on = true) (m : Nat) (hm : (nM st ops k).testBit m = true) : E m = true := by
  obtain ⟨e, h1, h2, h3⟩ := (T.CF nL ho m).1 hm; rcases h3 with h3 | h3
  . subst h3; exact he e h1 h2
  exact hE e.on (he e h1 h2) m h3
def nB (st : Nat -> dO) (ops : Array Oper) (k : Nat) : Prop := k < ops.size /\ (st (k + 1)).segs.length ≠ (st k).segs.length
theorem Trace.vZ (T : Trace step ops n st t0 h0) (i : Nat) (o : Oper) (ho : ops[i]? = some o) : (nB st ops i /\ (st (i + 1)).mem = (st i).mem ||| 2 ^ i /\ (st (i + 1)).segs = (i, (st i).h.next, (st (i + 1)).h.next) :: (st i).segs /\ (st i).h.next <= (st (i + 1)).h.next) \/
    (¬ nB st ops i /\ (st (i + 1)).mem = (st i).mem /\ (st (i + 1)).segs = (st i).segs /\ (st (i + 1)).h = (st i).h /\ (st (i + 1)).tail = (st i).tail) := by
  have hi : i < ops.size := (Array.getElem?_eq_some_iff.1 ho).1
  cases (T.DT i o ho).2 with
  | skip hw hp hh hs hm ht => exact .inr ⟨fun h => h.2 (by rw [hs]), hm, hs, hh, ht⟩
  | calm hw hc v h' cC hn hp hh hs hm ht => exact .inr ⟨fun h => h.2 (by rw [hs]), hm, hs, hh, ht⟩
  | still hw v aA hX cC hp hh hs hm ht => exact .inr ⟨fun h => h.2 (by rw [hs]), hm, hs, hh, ht⟩
  | mem hw hc v h' ord pU lV cC hn hp hm hs gA hk =>
    exact .inl ⟨⟨hi, by rw [hs]; simp⟩, hm, by rw [gA]; exact hs, by rw [gA]; exact hn⟩
theorem Trace.al8 (T : Trace step ops n st t0 h0) (i : Nat) (hi : i < ops.size) : (st i).h.next <= (st (i + 1)).h.next := by
  rcases T.vZ i _ (Array.getElem?_eq_getElem hi) with ⟨_, _, _, h⟩ | ⟨_, _, _, h, _⟩
  . exact h
  rw [h]; exact Nat.le_refl _
theorem Trace.next (T : Trace step ops n st t0 h0) (i j : Nat) (RL : i <= j) (hj : j <= ops.size) : (st i).h.next <= (st j).h.next := by
  induction j with
  | zero =>
    have : i = 0 := by omega
    subst this; exact Nat.le_refl _
  | succ j ih =>
    by_cases h : i = j + 1
    . subst h; exact Nat.le_refl _
    exact Nat.le_trans (ih (by omega) (by omega)) (T.al8 j (by omega))
theorem Trace.anW (T : Trace step ops n st t0 h0) (i : Nat) (hi : i < ops.size) : (st (i + 1)).h.low <= (st i).h.low := by
  have ho : ops[i]? = some ops[i] := Array.getElem?_eq_getElem hi
  cases (T.DT i _ ho).2 with
  | skip hw hp hh hs hm ht => rw [hh]; exact Nat.le_refl _
  | calm hw hc v h' cC hn hp hh hs hm ht => rw [hh]; exact Nat.le_refl _
  | still hw v aA hX cC hp hh hs hm ht => rw [hh]; exact Nat.le_refl _
  | mem hw hc v h' ord pU lV cC hn hp hm hs gA hk =>
    rcases hk with ⟨_, h1, _⟩ | ⟨_, h1, _⟩
    . rw [h1]; exact Nat.le_refl _
    rw [h1]; exact Nat.min_le_left _ _
theorem Trace.low (T : Trace step ops n st t0 h0) (i j : Nat) (RL : i <= j) (hj : j <= ops.size) : (st j).h.low <= (st i).h.low := by
  induction j with
  | zero =>
    have : i = 0 := by omega
    subst this; exact Nat.le_refl _
  | succ j ih =>
    by_cases h : i = j + 1
    . subst h; exact Nat.le_refl _
    exact Nat.le_trans (T.anW j (by omega)) (ih (by omega) (by omega))
theorem Trace.adB (T : Trace step ops n st t0 h0) (i : Nat) (hi : i < ops.size) (h : (st i).tail = true) : (st (i + 1)).tail = true := by
  have ho : ops[i]? = some ops[i] := Array.getElem?_eq_getElem hi
  cases (T.DT i _ ho).2 with
  | skip hw hp hh hs hm ht => rw [ht]; exact h
  | calm hw hc v h' cC hn hp hh hs hm ht => rw [ht]; exact h
  | still hw v aA hX cC hp hh hs hm ht => rw [ht]; exact h
  | mem hw hc v h' ord pU lV cC hn hp hm hs gA hk =>
    rcases hk with ⟨_, _, _, h1⟩ | ⟨_, _, _, h1⟩
    . rw [h1]; exact h
    exact h1
theorem Trace.tail (T : Trace step ops n st t0 h0) (i j : Nat) (RL : i <= j) (hj : j <= ops.size) (h : (st i).tail = true) : (st j).tail = true := by
  induction j with
  | zero =>
    have : i = 0 := by omega
    subst this; exact h
  | succ j ih =>
    by_cases h' : i = j + 1
    . subst h'; exact h
    exact T.adB j (by omega) (ih (by omega) (by omega))
theorem Trace.AZ (T : Trace step ops n st t0 h0) : ∀ i, i <= ops.size -> (st i).tail = true -> ∃ k, k < i /\ nB st ops k /\ (st (k + 1)).tail = true
  | 0, _, h => by rw [T.zero] at h; cases h
  | i + 1, hi, h => by
    have ho : ops[i]? = some ops[i] := Array.getElem?_eq_getElem (by omega); rcases T.vZ i _ ho with ⟨h1, _⟩ | ⟨_, _, _, _, h1⟩
    . exact ⟨i, by omega, h1, h⟩
    rw [h1] at h; obtain ⟨k, h2, h3⟩ := Trace.AZ T i (by omega) h; exact ⟨k, by omega, h3⟩
theorem Trace.DU (T : Trace step ops n st t0 h0) : ∀ i, i <= ops.size -> ∀ k, (st i).mem.testBit k = true ↔ k < i /\ nB st ops k
  | 0, _, k => by rw [T.zero]; simp
  | i + 1, hi, k => by
    have ih := Trace.DU T i (by omega) k; have ho : ops[i]? = some ops[i] := Array.getElem?_eq_getElem (by omega); rcases T.vZ i _ ho with ⟨h1, h2, _⟩ | ⟨h1, h2, _⟩
    . rw [h2, Nat.testBit_or, Bool.or_eq_true, ih, Nat.testBit_two_pow, decide_eq_true_eq]; constructor
      . rintro (⟨h3, h4⟩ | rfl)
        . exact ⟨by omega, h4⟩
        exact ⟨by omega, h1⟩
      rintro ⟨h3, h4⟩; by_cases hk : k = i
      . exact .inr hk.symm
      exact .inl ⟨by omega, h4⟩
    rw [h2, ih]; constructor
    . rintro ⟨h3, h4⟩; exact ⟨by omega, h4⟩
    rintro ⟨h3, h4⟩; refine ⟨?_, h4⟩; by_cases hk : k = i
    . subst hk; exact absurd h4 h1
    omega
theorem Trace.DV (T : Trace step ops n st t0 h0) : ∀ i, i <= ops.size -> ∀ k, k < i -> nB st ops k -> (k, (st k).h.next, (st (k + 1)).h.next) ∈ (st i).segs
  | 0, _, k, hk, _ => by omega
  | i + 1, hi, k, hk, hm => by
    have ho : ops[i]? = some ops[i] := Array.getElem?_eq_getElem (by omega); rcases T.vZ i _ ho with ⟨h1, _, h2, _⟩ | ⟨h1, _, h2, _⟩
    . rw [h2]; by_cases iK : k = i
      . subst iK; exact List.mem_cons_self
      exact List.mem_cons_of_mem _ (Trace.DV T i (by omega) k (by omega) hm)
    rw [h2]; by_cases iK : k = i
    . subst iK; exact absurd hm h1
    exact Trace.DV T i (by omega) k (by omega) hm
def uI (st : Nat -> dO) (k b : Nat) : Prop := (st k).h.next <= b /\ b < (st (k + 1)).h.next
theorem Trace.cover (T : Trace step ops n st t0 h0) : ∀ i, i <= ops.size -> ∀ b, h0.next <= b -> b < (st i).h.next -> ∃ k, k < i /\ uI st k b
  | 0, _, b, h1, h2 => by rw [T.zero] at h2; exact absurd h2 (by simp; omega)
  | i + 1, hi, b, h1, h2 => by
    by_cases h : b < (st i).h.next
    . obtain ⟨k, hk, hs⟩ := Trace.cover T i (by omega) b h1 h; exact ⟨k, by omega, hs⟩
    exact ⟨i, by omega, by unfold uI; omega⟩
theorem Trace.CG (T : Trace step ops n st t0 h0) {k b : Nat} (hk : k < ops.size) (hs : uI st k b) : nB st ops k := by
  rcases T.vZ k _ (Array.getElem?_eq_getElem hk) with ⟨h1, _⟩ | ⟨_, _, _, h1, _⟩
  . exact h1
  unfold uI at hs; rw [h1] at hs; omega
theorem Trace.adC (T : Trace step ops n st t0 h0) {k m b : Nat} (hk : k < ops.size) (hm : m < ops.size) (h1 : uI st k b) (h2 : uI st m b) : k = m := by
  unfold uI at h1 h2; rcases Nat.lt_trichotomy k m with h | h | h
  . have := T.next (k + 1) m h (by omega); omega
  . exact h
  have := T.next (m + 1) k h (by omega); omega
theorem Trace.OQ (T : Trace step ops n st t0 h0) {k b : Nat} (hk : k < ops.size) (h1 : uI st k b) : h0.next <= b := by
  have := T.next 0 k (by omega) (by omega); rw [T.zero] at this; exact Nat.le_trans this h1.1
theorem iU (a b : List (Nat × aX)) (i : Nat) : look (a ++ b) i = (look a i).or (look b i) := by
  induction a with
  | nil => rfl
  | cons p a ih =>
    obtain ⟨k, o⟩ := p; cases hb : Nat.beq k i <;> simp [look, hb, ih]
theorem p4 (p : Nat × aX -> Bool) (q : Nat -> Bool) (hpq : ∀ k o, p (k, o) = q k) : ∀ (l : List (Nat × aX)) (b : Nat) (o : aX), look (l.filter p) b = some o -> look l b = some o /\ q b = true
  | [], b, o, h => by cases h
  | (k, o') :: r, b, o, h => by
    rw [List.filter_cons] at h
    cases hc : p (k, o') with
    | false =>
      rw [hc] at h; obtain ⟨h1, h2⟩ := p4 p q hpq r b o h
      cases hb : Nat.beq k b with
      | true =>
        have := bI hb; subst this
        rw [<- hpq k o', hc] at h2; cases h2
      | false => exact ⟨by simp [look, hb, h1], h2⟩
    | true =>
      rw [hc] at h; simp only [if_true, look] at h
      cases hb : Nat.beq k b with
      | true =>
        rw [hb] at h; have := bI hb; subst this
        exact ⟨by simp [look, hb]; simpa using h, by rw [<- hpq k o', hc]⟩
      | false =>
        rw [hb] at h; obtain ⟨h1, h2⟩ := p4 p q hpq r b o h; exact ⟨by simp [look, hb, h1], h2⟩
theorem dT {lo hi : Nat} (l : List (Nat × aX)) (b : Nat) (o : aX) (h : look (bM lo hi l) b = some o) : (lo <= b /\ b < hi) /\ look l b = some o := by
  unfold bM at h
  cases hb : Nat.beq lo hi with
  | true => rw [hb] at h; cases h
  | false =>
    rw [hb] at h; obtain ⟨h1, h2⟩ := p4 (inside lo hi) (fun b => Nat.ble lo b && Nat.blt b hi) (fun _ _ => rfl) l b o h; obtain ⟨h3, h4⟩ := aY h2; exact ⟨⟨dY h3, jB h4⟩, h1⟩
theorem IZ {bb : Nat} : ∀ (segs : List (Nat × Nat × Nat)) (l : List (Nat × aX)) (b : Nat) (o : aX), look (mask bb segs l) b = some o ->
    look l b = some o /\ ∀ k lo hi, (k, lo, hi) ∈ segs -> lo <= b -> b < hi -> bb.testBit k = true
  | [], l, b, o, h => ⟨h, fun _ _ _ hm => by cases hm⟩
  | (k, lo, hi) :: segs, l, b, o, h => by
    simp only [mask] at h; obtain ⟨h1, h2⟩ := IZ segs _ b o h
    cases hb : bb.testBit k with
    | true =>
      rw [hb] at h1; refine ⟨by simpa using h1, fun k' uE qU hm h3 h4 => ?_⟩; rcases List.mem_cons.1 hm with he | hm
      . simp only [Prod.mk.injEq] at he; rw [he.1]; exact hb
      exact h2 _ _ _ hm h3 h4
    | false =>
      rw [hb] at h1; simp only [Bool.false_eq_true, if_false] at h1; obtain ⟨h5, h6⟩ := p4 (outside lo hi) (fun b => !(decide (lo <= b) && decide (b < hi))) (fun _ _ => rfl) l b o h1; refine ⟨h5, fun k' uE qU hm h3 h4 => ?_⟩; rcases List.mem_cons.1 hm with he | hm
      . simp only [Prod.mk.injEq] at he; obtain ⟨rfl, rfl, rfl⟩ := he; simp [h3, h4] at h6
      exact h2 _ _ _ hm h3 h4
theorem Trace.OS (T : Trace step ops n st t0 h0) (hh : ∀ b o, h0.get b = some o -> b < h0.next) : ∀ i, i <= ops.size -> (st i).tail = false ->
    (∀ b, b < h0.next -> (st i).h.get b = h0.get b) /\ (∀ k, k < i -> ∀ b, uI st k b -> (st i).h.get b = (st (k + 1)).h.get b) /\ ∀ b o, (st i).h.get b = some o -> b < (st i).h.next
  | 0, _, _ => ⟨fun b _ => by rw [T.zero], fun k hk => by omega, fun b o h => by rw [T.zero] at h ⊢; exact hh b o h⟩
  | i + 1, hi, ht => by
    have ht0 : (st i).tail = false := by
      cases h : (st i).tail with
      | false => rfl
      | true => rw [T.adB i (by omega) h] at ht; cases ht
    obtain ⟨h1, h2, h3⟩ := Trace.OS T hh i (by omega) ht0; have ho : ops[i]? = some ops[i] := Array.getElem?_eq_getElem (by omega)
    have same : (st (i + 1)).h = (st i).h -> _ := fun he => (⟨fun b hb => by rw [he]; exact h1 b hb, fun k hk b hs => by
        by_cases iK : k = i
        . subst iK; rfl
        . rw [he]; exact h2 k (by omega) b hs, fun b o hb => by rw [he] at hb ⊢; exact h3 b o hb⟩ :
        (∀ b, b < h0.next -> (st (i + 1)).h.get b = h0.get b) /\ (∀ k, k < i + 1 -> ∀ b, uI st k b -> (st (i + 1)).h.get b = (st (k + 1)).h.get b) /\ ∀ b o, (st (i + 1)).h.get b = some o -> b < (st (i + 1)).h.next)
    cases (T.DT i _ ho).2 with
    | skip hw hp hh' hs hm ht => exact same hh'
    | calm hw hc v h' cC hn hp hh' hs hm ht => exact same hh'
    | still hw v aA hX cC hp hh' hs hm ht => exact same hh'
    | mem hw hc v h' ord pU lV cC hn hp hm hs gA hk =>
      rcases hk with ⟨dK, _, sM, _⟩ | ⟨_, _, _, h⟩
      . have gB : ∀ b, (st (i + 1)).h.get b = (look (bM (st i).h.next h'.next h'.aA) b).or ((st i).h.get b) := fun b => by
          show look (st (i + 1)).h.aA b = _; rw [sM, iU]; rfl
        have hold : ∀ b, b < (st i).h.next -> (st (i + 1)).h.get b = (st i).h.get b := fun b hb => by
          rw [gB]
          cases hl : look (bM (st i).h.next h'.next h'.aA) b with
          | none => rfl
          | some o => have := (dT _ _ _ hl).1; omega
        have OT := T.next 0 i (by omega) (by omega); rw [T.zero] at OT; refine ⟨fun b hb => by rw [hold b (Nat.lt_of_lt_of_le hb OT)]; exact h1 b hb, fun k hk b hs => ?_, fun b o hb => ?_⟩
        . by_cases iK : k = i
          . subst iK; rfl
          have hs2 := hs.2; have := T.next (k + 1) i (by omega) (by omega); rw [hold b (by omega)]; exact h2 k (by omega) b hs
        rw [gA]; rw [gB] at hb
        cases hl : look (bM (st i).h.next h'.next h'.aA) b with
        | none => rw [hl] at hb; have := h3 b o hb; omega
        | some o => exact (dT _ _ _ hl).1.2
      rw [h] at ht; cases ht
end
end Go.Fs
namespace Go.Fs
open Go.RowKit (Below)
variable {P : Program}
def DW (ops : Array Oper) : Prop := ∀ (i j : Nat) (oi oj : Oper) (d : Tmp), ops[i]? = some oi -> ops[j]? = some oj -> oi.dst = some d -> oj.dst = some d -> i = j
def J0 (st : Nat -> dO) (ops : Array Oper) : Prop := ∀ (i : Nat) (oi : Oper), ops[i]? = some oi -> ∀ x ∈ oi.looksAt ops, ∀ (j : Nat) (oj : Oper), ops[j]? = some oj -> oj.dst = some x ->
  j = i \/ (nM st ops i).testBit j = true \/ (nM st ops j).testBit i = true
def DX (st : Nat -> dO) (ops : Array Oper) (S : Nat -> Prop) (K : Nat -> Prop) (b : Nat) : Prop := S b \/ ∃ m, K m /\ m < ops.size /\ uI st m b
def cl (st : Nat -> dO) (ops : Array Oper) (S : Nat -> Prop) (k : Nat) : Nat -> Prop := DX st ops S fun m => m = k \/ (nM st ops k).testBit m = true
def SB (st : Nat -> dO) (ops : Array Oper) (S : Nat -> Prop) (i : Nat) : Nat -> Prop := DX st ops S fun m => (nM st ops i).testBit m = true
def SE (st : Nat -> dO) (ops : Array Oper) (S : Nat -> Prop) (E : Nat -> Bool) : Nat -> Prop := DX st ops S fun m => E m = true
theorem gS {st : Nat -> dO} {ops : Array Oper} {S : Nat -> Prop} {K K' : Nat -> Prop} (h : ∀ m, K m -> K' m) (b : Nat) (hb : DX st ops S K b) : DX st ops S K' b := by
  rcases hb with hb | ⟨m, h1, h2⟩
  . exact .inl hb
  exact .inr ⟨m, h m h1, h2⟩
theorem OU {st : Nat -> dO} {ops : Array Oper} {S : Nat -> Prop} {E : Nat -> Bool} (DY : ∀ k, E k = true -> ∀ m, (nM st ops k).testBit m = true -> E m = true) {k : Nat} (hk : E k = true) (b : Nat)
    (hb : cl st ops S k b) : SE st ops S E b := by
  refine gS (fun m hm => ?_) b hb; rcases hm with hm | hm
  . rw [hm]; exact hk
  exact DY k hk m hm
theorem J1 {n : Nat} {t t' : Tr} {dst : Option Tmp} {v : Value} (hn : n <= 4000) (hp : put n t dst v = some t') (x : Nat) : t'.get x = if dst = some x then v else t.get x := by
  unfold put at hp
  cases dst with
  | none => simp only [Option.some.injEq] at hp; subst hp; simp
  | some d =>
    obtain ⟨h1, h2⟩ := aL hp; simp only [Option.some.injEq] at h2; subst h2; have h1 := jB h1; rw [Tr.dB depth t d v x (by have : 2 ^ depth = 8192 := rfl; omega)]; by_cases hx : x = d
    . subst hx; simp
    rw [if_neg hx, if_neg (by simp; exact fun h => hx h.symm)]
theorem aiU {n : Nat} {t t' : Tr} {d : Tmp} {v : Value} (hp : put n t (some d) v = some t') : d < n := by
  unfold put at hp; exact jB (aL hp).1
section
variable {step : Oper -> (Operand -> Value) -> Heap -> Option (Value × Heap)} {ops : Array Oper} {n : Nat} {st : Nat -> dO} {t0 : Tr} {h0 : Heap}
theorem zT.put {X : Nat -> aX -> Prop} {o : Oper} {i : Nat} {s s' : dO} (h : zT step ops n X o i s s') : ∃ v, Fs.put n s.t o.dst v = some s'.t := by
  cases h with
  | skip hw hp hh hs hm ht => exact ⟨_, hp⟩
  | calm hw hc v h' cC hn hp hh hs hm ht => exact ⟨_, hp⟩
  | still hw v aA hX cC hp hh hs hm ht => exact ⟨_, hp⟩
  | mem hw hc v h' ord pU lV cC hn hp hm hs gA hk => exact ⟨_, hp⟩
theorem Trace.CH (T : Trace step ops n st t0 h0) (hn : n <= 4000) : ∀ i, i <= ops.size -> ∀ x, (∀ j o, j < i -> ops[j]? = some o -> o.dst ≠ some x) -> (st i).t.get x = t0.get x
  | 0, _, x, _ => by rw [T.zero]
  | i + 1, hi, x, hx => by
    have ho : ops[i]? = some ops[i] := Array.getElem?_eq_getElem (by omega); obtain ⟨v, hp⟩ := (T.DT i _ ho).2.put; rw [J1 hn hp, if_neg (hx i _ (by omega) ho)]; exact Trace.CH T hn i (by omega) x fun j o hj => hx j o (by omega)
theorem Trace.J2 (T : Trace step ops n st t0 h0) (p5 : DW ops) (hn : n <= 4000) : ∀ i, i <= ops.size -> ∀ j o x, j < i -> ops[j]? = some o -> o.dst = some x -> (st i).t.get x = (st (j + 1)).t.get x
  | 0, _, j, _, _, hj, _, _ => by omega
  | i + 1, hi, j, o, x, hj, ho, hx => by
    by_cases hji : j = i
    . subst hji; rfl
    have uC : ops[i]? = some ops[i] := Array.getElem?_eq_getElem (by omega); obtain ⟨v, hp⟩ := (T.DT i _ uC).2.put; rw [J1 hn hp, if_neg fun h => hji (p5 j i o _ x ho uC hx h)]; exact Trace.J2 T p5 hn i (by omega) j o x (by omega) ho hx
end
def CI (st : Nat -> dO) (ops : Array Oper) (n : Nat) (t0 : Tr) (S : Nat -> Prop) (E : Nat -> Bool) (ρ : Ren) (tmps : Array Value) : Prop :=
  tmps.size = n /\ (∀ k o d, E k = true -> ops[k]? = some o -> o.dst = some d -> VR ρ (cl st ops S k) ((st (k + 1)).t.get d) (tmps.toList.getD d undef)) /\
  ∀ d, (∀ k o, E k = true -> ops[k]? = some o -> o.dst ≠ some d) -> VR ρ S (t0.get d) (tmps.toList.getD d undef)
theorem M8 (a : Act) (dst : Option Tmp) (v : Value) (x : Nat) (b7 : ∀ d, dst = some d -> d < a.tmps.size) : (a.put dst v).tmps.toList.getD x undef = if dst = some x then v else a.tmps.toList.getD x undef := by
  cases dst with
  | none => simp [Act.put]
  | some d =>
    have hd := b7 d rfl; simp only [Act.put, Array.toList_setIfInBounds, List.getD_eq_getElem?_getD, List.getElem?_set]; by_cases e : d = x
    . subst e; simp [hd]
    simp [e]
theorem size_put (a : Act) (dst : Option Tmp) (v : Value) : (a.put dst v).tmps.size = a.tmps.size := by
  cases dst <;> simp [Act.put]
section
variable {step : Oper -> (Operand -> Value) -> Heap -> Option (Value × Heap)} {ops : Array Oper} {n : Nat} {st : Nat -> dO} {t0 : Tr} {h0 : Heap}
variable {S : Nat -> Prop} {E : Nat -> Bool} {ρ j8 : Ren} {a : Act}
theorem CI.put (p5 : DW ops) (hn : n <= 4000) (hI : CI st ops n t0 S E ρ a.tmps) (DY : ∀ k, E k = true -> ∀ m, (nM st ops k).testBit m = true -> E m = true) (fC : ∀ b, SE st ops S E b -> j8 b = ρ b)
    {i : Nat} {o : Oper} (ho : ops[i]? = some o) (hE : E i = false) {v v1 : Value} (hp : put n (st i).t o.dst v = some (st (i + 1)).t) (hv : VR j8 (cl st ops S i) v v1) :
    CI st ops n t0 S (fun j => E j || j == i) j8 (a.put o.dst v1).tmps := by
  obtain ⟨h1, h2, h3⟩ := hI
  have b7 : ∀ d, o.dst = some d -> d < a.tmps.size := fun d hd => by rw [hd] at hp; rw [h1]; exact aiU hp
  refine ⟨by rw [size_put, h1], fun k ok d hk bD hd => ?_, fun d hd => ?_⟩
  . rw [M8 a o.dst v1 d b7]; by_cases iK : k = i
    . subst iK; rw [ho] at bD; injection bD with bD; subst bD; rw [if_pos hd, J1 hn hp, if_pos hd]; exact hv
    have cL : o.dst ≠ some d := fun h => iK (p5 k i ok o d bD ho hd h); rw [if_neg cL]
    have zU : E k = true := by simpa [iK] using hk
    exact (h2 k ok d zU bD hd).mono fun b hb => ⟨hb, fC b (OU DY zU b hb)⟩
  have cL : o.dst ≠ some d := hd i o (by simp) ho; rw [M8 a o.dst v1 d b7, if_neg cL]; exact (h3 d fun k ok hk bD => hd k ok (by simp [hk]) bD).mono fun b hb => ⟨hb, fC b (.inl hb)⟩
theorem CI.look (T : Trace step ops n st t0 h0) (nL : nK ops) (p5 : DW ops) (hn : n <= 4000) (pN : J0 st ops) (hI : CI st ops n t0 S E ρ a.tmps)
    (DY : ∀ k, E k = true -> ∀ m, (nM st ops k).testBit m = true -> E m = true)
    {i : Nat} {o : Oper} (ho : ops[i]? = some o) (hE : E i = false) (he : ∀ e ∈ o.after.toList, Region.binds .any e = true -> E e.on = true) (x : Tmp) (hx : x ∈ o.looksAt ops) :
    VR ρ (SB st ops S i) ((st i).t.get x) (a.tmps.toList.getD x undef) := by
  obtain ⟨h1, h2, h3⟩ := hI; have hi : i < ops.size := (Array.getElem?_eq_some_iff.1 ho).1; by_cases hw : ∃ (j : Nat) (oj : Oper), ops[j]? = some oj /\ oj.dst = some x
  . obtain ⟨j, oj, hj, B0⟩ := hw
    have old : E j = false -> i <= j -> VR ρ (SB st ops S i) ((st i).t.get x) (a.tmps.toList.getD x undef) := fun hEj RL => by
      rw [T.CH hn i (by omega) x fun k ok hk bD J3 => by have := p5 k j ok oj x bD hj J3 B0; omega]; refine (h3 x fun k ok hk bD J3 => ?_).mono fun b hb => ⟨.inl hb, rfl⟩; have := p5 k j ok oj x bD hj J3 B0; subst this; rw [hEj] at hk; cases hk
    rcases pN i o ho x hx j oj hj B0 with hji | hb | hb
    . subst hji; exact old hE (Nat.le_refl _)
    . have b7 := T.OP nL i j hb; have hEj := T.RM nL DY ho he j hb; rw [T.J2 p5 hn i (by omega) j oj x b7 hj B0]; refine (h2 j oj x hEj hj B0).mono fun b w6 => ⟨gS (fun m hm => ?_) b w6, rfl⟩; rcases hm with rfl | hm
      . exact hb
      exact T.M7 nL i j m hb hm
    have b7 := T.OP nL j i hb; refine old ?_ (by omega)
    cases hEj : E j with
    | false => rfl
    | true => rw [DY j hEj i hb] at hE; cases hE
  rw [T.CH hn i (by omega) x fun k ok _ bD J3 => hw ⟨k, ok, bD, J3⟩]; exact (h3 x fun k ok _ bD J3 => hw ⟨k, ok, bD, J3⟩).mono fun b hb => ⟨.inl hb, rfl⟩
end
theorem LA {ρ : Ren} {S : Nat -> Prop} {t : Tr} {a : Act} {ops : Array Oper} {o : Oper} (h : ∀ x ∈ o.looksAt ops, VR ρ S (t.get x) (a.tmps.toList.getD x undef)) :
    ∀ x ∈ o.op.operands.toList, VR ρ S (aB t x) (a.eval x) := fun x hx => by
  cases x with
  | tmp i =>
    have := h i (by
      unfold Oper.looksAt
      refine List.mem_append_left _ (List.mem_filterMap.2 ⟨.tmp i, hx, rfl⟩))
    simpa [aB, Act.eval, Array.getD_eq_getD_getElem?, List.getD_eq_getElem?_getD] using this
  | const v =>
    simp only [aB, Act.eval]; by_cases hv : af v = true
    . rw [if_pos hv]; exact .mF hv
    rw [if_neg hv]; exact .hD v
  | global g => exact .hD _
  | func f => exact .func f _ _ _ _ rfl (fun i h => absurd h (by simp)) rfl (fun i h => absurd h (by simp))
end Go.Fs
namespace Go.Fs
open Go.RowKit (Below)
variable {P : Program}
structure DZ (P : Program) (st : Nat -> dO) (ops : Array Oper) (h0 : Heap) (S : Nat -> Prop) (E : Nat -> Bool) (ρ : Ren) (H : Heap) (w : World) : Prop where
  calm : ∀ k, E k = true -> nB st ops k -> (st (k + 1)).tail = false
  base : ∀ b, b < h0.next -> H.get b = h0.get b
  news : ∀ k, E k = true -> k < ops.size -> ∀ b, uI st k b -> H.get b = (st (k + 1)).h.get b
  adD : ∀ b o, S b -> H.get b = some o -> kY P ρ S (ρ b) w o
  adE : ∀ k, E k = true -> k < ops.size -> ∀ b o, uI st k b -> H.get b = some o -> kY P ρ (cl st ops S k) (ρ b) w o
structure al9 (st : Nat -> dO) (ops : Array Oper) (E : Nat -> Bool) (H : Heap) (p : Nat) : Prop where
  le : p <= ops.size
  tail : (st p).tail = true
  get : ∀ b, H.get b = (st p).h.get b
  all : ∀ k, nB st ops k -> (E k = true ↔ k < p)
structure Inv (P : Program) (B : Nat) (w0 : World) (st : Nat -> dO) (ops : Array Oper) (n : Nat) (t0 : Tr) (h0 : Heap) (S : Nat -> Prop) (ρ0 : Ren) (ws : World) (d0 : List Deferred)
    (E : Nat -> Bool) (ρ : Ren) (H : Heap) (w : World) (a : Act) : Prop where
  bY : tQ P B w0 ρ0 ρ S (SE st ops S E) h0 H (min (st ops.size).h.low h0.next) ws w
  mode : DZ P st ops h0 S E ρ H w \/ ∃ p, al9 st ops E H p
  tmp : CI st ops n t0 S E ρ a.tmps
  defers : a.defers = d0
  next : H.next = (st ops.size).h.next
  down : ∀ k, E k = true -> ∀ m, (nM st ops k).testBit m = true -> E m = true
section
variable {step : Oper -> (Operand -> Value) -> Heap -> Option (Value × Heap)} {ops : Array Oper} {n : Nat} {st : Nat -> dO} {t0 : Tr} {h0 : Heap}
variable {S : Nat -> Prop} {E : Nat -> Bool} {ρ0 ρ cQ j8 : Ren} {a : Act} {B : Nat} {w0 ws w w1 : World} {H H2 hm h1 : Heap} {d0 : List Deferred}
theorem DZ.on {X : Nat -> Prop} {b : Nat} {o : aX} {S2 : Nat -> Prop} (hX : ∀ b, X b -> SE st ops S E b) (R3 : kY P ρ X (ρ b) w o) (fC : ∀ b, SE st ops S E b -> j8 b = ρ b) (hb : SE st ops S E b)
    (rR : kY P j8 S2 (j8 b) w1 o) : kY P j8 X (j8 b) w1 o := by
  rw [fC b hb] at rR ⊢; exact (R3.xV rR fun b hb => fC b (hX b hb)).mono fun b hb => ⟨hb, fC b (hX b hb)⟩
theorem Trace.YA (T : Trace step ops n st t0 h0) (jC : ∀ b, S b -> b < h0.next) {K : Nat -> Prop} {i : Nat} (hi : i <= ops.size) (hK : ∀ m, K m -> m < i) (b : Nat) (hb : DX st ops S K b) : b < (st i).h.next := by
  rcases hb with hb | ⟨m, h1, h2, h3⟩
  . have := T.next 0 i (by omega) hi; rw [T.zero] at this; exact Nat.lt_of_lt_of_le (jC b hb) this
  have := hK m h1; have := T.next (m + 1) i (by omega) hi; exact Nat.lt_of_lt_of_le h3.2 this
theorem Trace.J4 (T : Trace step ops n st t0 h0) (jC : ∀ b, S b -> b < h0.next) {i b : Nat} (hi : i < ops.size) (hE : E i = false) (hs : uI st i b) : ¬ SE st ops S E b := by
  rintro (hb | ⟨m, h1, h2, h3⟩)
  . have := T.OQ hi hs; have := jC b hb; omega
  have := T.adC hi h2 hs h3; subst this; rw [hE] at h1; cases h1
theorem Inv.quiet (I : Inv P B w0 st ops n t0 h0 S ρ0 ws d0 E ρ H w a) {i : Nat} {o : Oper} (ho : ops[i]? = some o) (zS : ¬ nB st ops i) (hh : (st (i + 1)).h = (st i).h)
    (xX : ∀ m, (nM st ops i).testBit m = true -> E m = true)
    (fC : ∀ b, SE st ops S E b -> j8 b = ρ b) (gG : tQ P B w0 ρ j8 (SE st ops S E) (SE st ops S E) H H (min (st ops.size).h.low h0.next) w w1) {a' : Act}
    (J5 : CI st ops n t0 S (fun j => E j || j == i) j8 a'.tmps) (hd : a'.defers = a.defers) :
    Inv P B w0 st ops n t0 h0 S ρ0 ws d0 (fun j => E j || j == i) j8 H w1 a' := by
  have hi : i < ops.size := (Array.getElem?_eq_some_iff.1 ho).1
  have VA : ∀ b, ¬ uI st i b := fun b hs => by unfold uI at hs; rw [hh] at hs; omega
  have hSE : ∀ b, SE st ops S E b ↔ SE st ops S (fun j => E j || j == i) b := fun b => by
    constructor
    . exact fun hb => gS (fun m hm => by simp [hm]) b hb
    rintro (hb | ⟨m, h1, h2, h3⟩)
    . exact .inl hb
    by_cases VB : m = i
    . subst VB; exact absurd h3 (VA b)
    exact .inr ⟨m, by simpa [VB] using h1, h2, h3⟩
  have anX : SE st ops S E = SE st ops S (fun j => E j || j == i) := funext fun b => propext (hSE b); refine ⟨?_, ?_, J5, hd.trans I.defers, I.next, ?_⟩
  . rw [<- anX]; exact I.bY.trans gG
  . rcases I.mode with A | ⟨p, Bm⟩
    . refine .inl ⟨fun k hk mT => ?_, A.base, fun k hk zV b hs => ?_, fun b o' hb hg => ?_, fun k hk zV b o' hs hg => ?_⟩
      . by_cases iK : k = i
        . subst iK; exact absurd mT zS
        exact A.calm k (by simpa [iK] using hk) mT
      . by_cases iK : k = i
        . subst iK; exact absurd hs (VA b)
        exact A.news k (by simpa [iK] using hk) zV b hs
      . exact DZ.on (fun b hb => .inl hb) (A.adD b o' hb hg) fC (.inl hb) (gG.hr.aA b o' hg).2
      by_cases iK : k = i
      . subst iK; exact absurd hs (VA b)
      have zU : E k = true := by simpa [iK] using hk
      exact DZ.on (OU I.down zU) (A.adE k zU zV b o' hs hg) fC (.inr ⟨k, zU, zV, hs⟩) (gG.hr.aA b o' hg).2
    refine .inr ⟨p, Bm.le, Bm.tail, Bm.get, fun k mT => ?_⟩; have iK : k ≠ i := fun h => zS (h ▸ mT); rw [<- Bm.all k mT]; simp [iK]
  intro k hk m hm; by_cases iK : k = i
  . subst iK; simp [xX m hm]
  simp [I.down k (by simpa [iK] using hk) m hm]
theorem Inv.adF (T : Trace step ops n st t0 h0) (nL : nK ops) (jC : ∀ b, S b -> b < h0.next) (H6 : ∀ b o, h0.get b = some o -> S b) (adG : 0 < h0.next) (I : Inv P B w0 st ops n t0 h0 S ρ0 ws d0 E ρ H w a) {i : Nat} {o : Oper} (ho : ops[i]? = some o) (hE : E i = false) (VB : nB st ops i)
    (xX : ∀ m, (nM st ops i).testBit m = true -> E m = true) {ord : Bool} (iM : ord = Nat.beq ((st i).mem &&& aP (st i).bs o) (st i).mem) (lV : (st i).tail = true -> ord = true)
    {v : Value} {h' : Heap} (gA : (st (i + 1)).h.next = h'.next) (hnn : (st i).h.next <= h'.next)
    (hk : ((st i).h.next <= h'.low /\ (st (i + 1)).h.low = (st i).h.low /\ (st (i + 1)).h.aA = bM (st i).h.next h'.next h'.aA ++ (st i).h.aA /\ (st (i + 1)).tail = (st i).tail) \/
      (ord = true /\ (st (i + 1)).h.low = min (st i).h.low h'.low /\ (st (i + 1)).h.aA = h'.aA /\ (st (i + 1)).tail = true)) :
    let hm : Heap := { next := (st i).h.next, low := (st i).h.next, aA := bif ord then (st i).h.aA else mask (aP (st i).bs o) (st i).segs (st i).h.aA }
    HR P ρ (SB st ops S i) B w0 hm w /\ ∀ cQ w1 v1 a', aO P B w0 ρ cQ (SB st ops S i) hm h' w w1 -> VR cQ (Ext (SB st ops S i) hm h') v v1 -> a'.defers = a.defers ->
      (∀ j8, (∀ b, SE st ops S E b -> j8 b = ρ b) -> VR j8 (cl st ops S i) v v1 -> CI st ops n t0 S (fun j => E j || j == i) j8 a'.tmps) ->
      ∃ j8 H2, Inv P B w0 st ops n t0 h0 S ρ0 ws d0 (fun j => E j || j == i) j8 H2 w1 a' := by
  intro hm; have hi : i < ops.size := (Array.getElem?_eq_some_iff.1 ho).1
  have x9 : aP (st i).bs o = nM st ops i := by simp [nM, ho]
  have q5 := I.bY.hr
  have OT : h0.next <= (st i).h.next := by have := T.next 0 i (by omega) (by omega); rwa [T.zero] at this
  have uU : ord = true -> ∀ k, k < i -> nB st ops k -> (nM st ops i).testBit k = true := fun h k hk mT => by
    rw [iM] at h; have h1 := bI h; have h2 := (T.DU i (by omega) k).2 ⟨hk, mT⟩; rw [<- h1, Nat.testBit_and, Bool.and_eq_true, x9] at h2; exact h2.2
  -- those behind it that look at the heap have not come, if it turns something old
  have later : (st (i + 1)).tail = true -> ∀ k, nB st ops k -> i < k -> E k = true -> False := fun ht k mT hik zU => by
    have zV : k < ops.size := mT.1; have hko : ops[k]? = some ops[k] := Array.getElem?_eq_getElem zV; have VE := T.tail (i + 1) k (by omega) (by omega) ht
    cases (T.DT k _ hko).2 with
    | skip hw hp hh hs hm ht => exact mT.2 (by rw [hs])
    | calm hw hc v h' cC hn hp hh hs hm ht => exact mT.2 (by rw [hs])
    | still hw v aA hX cC hp hh hs hm ht => exact mT.2 (by rw [hs])
    | mem hw hc v h' aq6 pU aiV cC hn hp hm hs gA hk =>
      have h4 := aiV VE; rw [pU] at h4; have h5 := bI h4; have h6 := (T.DU k (by omega) i).2 ⟨hik, VB⟩; rw [<- h5, Nat.testBit_and, Bool.and_eq_true] at h6
      have h7 : (nM st ops k).testBit i = true := by simp only [nM, hko]; exact h6.2
      rw [I.down k zU i h7] at hE; cases hE
  have nD : ∀ b, SB st ops S i b -> SE st ops S E b := fun b hb => gS xX b hb; have E0 : ∀ b, SB st ops S i b -> b < (st i).h.next := T.YA jC (by omega) (T.OP nL i); have J6 : ∀ b, hm.next <= b -> b < h'.next -> ¬ SE st ops S E b := fun b h1 h2 => T.J4 jC hi hE ⟨h1, by rw [gA]; exact h2⟩
  have uT : ∀ b, SE st ops S (fun j => E j || j == i) b ↔ SE st ops S E b \/ (hm.next <= b /\ b < h'.next) := fun b => by
    constructor
    . rintro (hb | ⟨m, h1, h2, h3⟩)
      . exact .inl (.inl hb)
      by_cases ak4 : m = i
      . subst ak4; exact .inr ⟨h3.1, by rw [<- gA]; exact h3.2⟩
      exact .inl (.inr ⟨m, by simpa [ak4] using h1, h2, h3⟩)
    rintro (hb | ⟨h1, h2⟩)
    . exact gS (fun m hm => by simp [hm]) b hb
    exact .inr ⟨i, by simp, hi, h1, by rw [gA]; exact h2⟩
  have VG : ∀ b, SE st ops S (fun j => E j || j == i) b -> b < (st ops.size).h.next := fun b hb => by
    rcases hb with hb | ⟨m, h1, h2, h3⟩
    . have := T.next 0 ops.size (by omega) (by omega); rw [T.zero] at this; exact Nat.lt_of_lt_of_le (jC b hb) this
    have := T.next (m + 1) ops.size (by omega) (by omega); exact Nat.lt_of_lt_of_le h3.2 this
  have VH : 0 < (st ops.size).h.next := by have := q5.pos; rwa [I.next] at this
  have OV : ∀ k, (fun j => E j || j == i) k = true -> ∀ m, (nM st ops k).testBit m = true -> (fun j => E j || j == i) m = true := fun k E1 m hm' => by
    by_cases iK : k = i
    . subst iK; simp [xX m hm']
    simp [I.down k (by simpa [iK] using E1) m hm']
  have rQ : ∀ cQ : Ren, ∀ b, Ext (SB st ops S i) hm h' b -> cl st ops S i b := fun _ b hb => by
    rcases hb with hb | hb
    . exact gS (fun m hm => .inr hm) b hb
    exact .inr ⟨i, .inl rfl, hi, hb.1, by rw [gA]; exact hb.2⟩
  have wX : 0 < (st i).h.next := by omega
  have apU := T.low (i + 1) ops.size (by omega) (Nat.le_refl _); have alA : ∀ b, SE st ops S E b -> b ≠ 0 := fun b hb => (q5.ids b hb).2
  -- the part's relation, out of what is known of its objects
  have ak5 : (∀ b o, hm.get b = some o -> H.get b = some o) -> (∀ b o, hm.get b = some o -> SB st ops S i b /\ kY P ρ (SB st ops S i) (ρ b) w o) -> HR P ρ (SB st ops S i) B w0 hm w := fun jW R3 => {
    aA := R3
    inj := fun a b oa ob ha hb => q5.inj a b oa ob (jW a oa ha) (jW b ob hb)
    base := fun b o' hb => q5.base b o' (jW b o' hb)
    ro := fun b o' hb => q5.ro b o' (jW b o' hb)
    ids := fun b hb => ⟨E0 b hb, alA b (nD b hb)⟩
    pos := wX
    below := q5.below
    drawn := q5.drawn
    size := q5.size }
  -- what is new, in a heap of new objects ahead of old ones
  have qP : ∀ (aA : List (Nat × aX)) b, look (bM (st i).h.next h'.next h'.aA ++ aA) b = (look (bM (st i).h.next h'.next h'.aA) b).or (look aA b) := fun aA b => iU _ _ _
  have HS : ∀ b, SE st ops S E b -> look (bM (st i).h.next h'.next h'.aA) b = none := fun b hb => by
    cases hl : look (bM (st i).h.next h'.next h'.aA) b with
    | none => rfl
    | some o' =>
      obtain ⟨⟨h1, h2⟩, _⟩ := dT _ _ _ hl; exact absurd hb (J6 b h1 h2)
  have OW : ∀ b o', H.get b = some o' -> SE st ops S E b := fun b o' hg => (q5.aA b o' hg).1
  -- behind a step that turns something old
  have M9 : (∀ b o, hm.get b = some o -> H.get b = some o) -> HR P ρ (SB st ops S i) B w0 hm w -> ord = true -> (st (i + 1)).h.low = min (st i).h.low h'.low -> (st (i + 1)).h.aA = h'.aA -> (st (i + 1)).tail = true ->
      (∀ b, SE st ops S E b -> b < h0.next -> hm.get b = H.get b) -> ∀ cQ w1 v1 a', aO P B w0 ρ cQ (SB st ops S i) hm h' w w1 -> VR cQ (Ext (SB st ops S i) hm h') v v1 -> a'.defers = a.defers ->
      (∀ j8, (∀ b, SE st ops S E b -> j8 b = ρ b) -> VR j8 (cl st ops S i) v v1 -> CI st ops n t0 S (fun j => E j || j == i) j8 a'.tmps) ->
      ∃ j8 H2, Inv P B w0 st ops n t0 h0 S ρ0 ws d0 (fun j => E j || j == i) j8 H2 w1 a' := by
    intro jW sL LB dK sM ht gH cQ w1 v1 a' m hv hd J5
    have b7 : ∀ b, SE st ops S E b -> b < (st i).h.next := fun b hb => by
      rcases hb with hb | ⟨k, h1, h2, h3⟩
      . have := jC b hb; omega
      by_cases iK : k < i
      . have := T.next (k + 1) i (by omega) (by omega); exact Nat.lt_of_lt_of_le h3.2 this
      by_cases UT : k = i
      . subst UT; rw [hE] at h1; cases h1
      exact (later ht k (T.CG h2 h3) (by omega) h1).elim
    have hL : min (st ops.size).h.low h0.next <= h'.low := by
      have h1 : (st (i + 1)).h.low <= h'.low := by rw [dK]; exact Nat.min_le_right _ _
      have h2 : min (st ops.size).h.low h0.next <= (st ops.size).h.low := Nat.min_le_left _ _; omega
    have E2 := CC (H2 := { next := (st ops.size).h.next, low := 0, aA := h'.aA }) (S2 := SE st ops S (fun j => E j || j == i)) (L := min (st ops.size).h.low h0.next) q5 nD jW sL m J6 uT VG VH
      (fun _ _ _ _ => hL)
      (fun b o' hb hg => by
        obtain ⟨o2, h3, _⟩ := m.old b o' hg (b7 b hb)
        exact .inl ⟨by rw [h3]; simp, hg⟩)
      (fun b o' hb hg => by
        rcases (m.hr.aA b o' hg).1 with h3 | h3
        . exact absurd (nD b h3) hb
        exact ⟨h3, hg⟩)
      (fun b hb H7 => by
        have h3 : b < h0.next := Nat.lt_of_lt_of_le H7 (Nat.min_le_right _ _); have h4 := m.keep b (b7 b hb) (by omega)
        exact h4.trans (gH b hb h3))
    have fC : ∀ b, SE st ops S E b -> glue (SE st ops S E) ρ cQ b = ρ b := fun b hb => jV hb; refine ⟨_, _, I.bY.trans E2, .inr ⟨i + 1, by omega, ht, fun b => ?_, fun k mT => ?_⟩, J5 _ fC ?_, hd.trans I.defers, rfl, OV⟩
    . show look h'.aA b = look (st (i + 1)).h.aA b; rw [sM]
    . constructor
      . intro h3; by_cases iK : k = i
        . omega
        have h4 : E k = true := by simpa [iK] using h3
        have h5 : ¬ i < k := fun h5 => later ht k mT h5 h4; omega
      intro h3; by_cases iK : k = i
      . simp [iK]
      simp [xX k (uU LB k (by omega) mT)]
    refine hv.mono fun b hb => ⟨rQ ρ b hb, ?_⟩; rcases hb with hb | hb
    . rw [jV (nD b hb), m.agree b hb]
    exact s9 (J6 b hb.1 hb.2)
  rcases I.mode with A | ⟨p, Bm⟩
  . -- nothing old has been turned
    have ht : (st i).tail = false := by
      cases h : (st i).tail with
      | false => rfl
      | true =>
        obtain ⟨k, h1, h2, h3⟩ := T.AZ i (by omega) h; rw [A.calm k (xX k (uU (lV h) k h1 h2)) h2] at h3; cases h3
    obtain ⟨sb1, sb2, sb3⟩ := T.OS (fun b o' hg => jC b (H6 b o' hg)) i (by omega) ht
    have gB : ∀ b o', hm.get b = some o' -> (st i).h.get b = some o' /\ ∀ k, k < i -> uI st k b -> (nM st ops i).testBit k = true := fun b o' hg => by
      cases hb : ord with
      | true =>
        have iN : (st i).h.get b = some o' := by
          have : look (bif ord then (st i).h.aA else mask (aP (st i).bs o) (st i).segs (st i).h.aA) b = some o' := hg; rw [hb] at this; exact this
        exact ⟨iN, fun k hk hs => uU hb k hk (T.CG (by omega) hs)⟩
      | false =>
        have : look (bif ord then (st i).h.aA else mask (aP (st i).bs o) (st i).segs (st i).h.aA) b = some o' := hg; rw [hb] at this; obtain ⟨h3, h4⟩ := IZ _ _ _ _ this; refine ⟨h3, fun k hk hs => ?_⟩; rw [<- x9]; exact h4 k _ _ (T.DV i (by omega) k hk (T.CG (by omega) hs)) hs.1 hs.2
    have adH : ∀ b o', hm.get b = some o' -> H.get b = some o' /\ (S b \/ ∃ k, (nM st ops i).testBit k = true /\ k < ops.size /\ uI st k b) := fun b o' hg => by
      obtain ⟨h3, h4⟩ := gB b o' hg; have h5 := sb3 b o' h3; by_cases hb : b < h0.next
      . rw [sb1 b hb] at h3; rw [A.base b hb]; exact ⟨h3, .inl (H6 b o' h3)⟩
      obtain ⟨k, h6, h7⟩ := T.cover i (by omega) b (by omega) h5; have h8 := h4 k h6 h7; rw [A.news k (xX k h8) (by omega) b h7, <- sb2 k h6 b h7]; exact ⟨h3, .inr ⟨k, h8, by omega, h7⟩⟩
    have jW : ∀ b o', hm.get b = some o' -> H.get b = some o' := fun b o' hg => (adH b o' hg).1
    have sL := ak5 jW fun b o' hg => by
      obtain ⟨h3, h4⟩ := adH b o' hg; rcases h4 with h4 | ⟨k, h5, h6, h7⟩
      . exact ⟨.inl h4, (A.adD b o' h4 h3).mono fun b hb => ⟨.inl hb, rfl⟩⟩
      refine ⟨.inr ⟨k, h5, h6, h7⟩, (A.adE k (xX k h5) h6 b o' h7 h3).mono fun b hb => ⟨gS (fun m hm => ?_) b hb, rfl⟩⟩; rcases hm with hm | hm
      . rw [hm]; exact h5
      exact T.M7 nL i k m h5 hm
    refine ⟨sL, ?_⟩; rcases hk with ⟨dK, alB, sM, nW⟩ | ⟨LB, dK, sM, nW⟩
    . intro cQ w1 v1 a' m hv hd J5
      have E2 := CC (H2 := { next := (st ops.size).h.next, low := 0, aA := bM (st i).h.next h'.next h'.aA ++ H.aA }) (S2 := SE st ops S (fun j => E j || j == i)) (L := min (st ops.size).h.low h0.next) q5 nD jW sL m J6 uT VG VH
        (fun _ _ _ _ => by have : min (st ops.size).h.low h0.next <= h0.next := Nat.min_le_right _ _; omega)
        (fun b o' hb hg => by
          have iN : look (bM (st i).h.next h'.next h'.aA ++ H.aA) b = some o' := hg; rw [qP, HS b hb] at iN; have H8 : H.get b = some o' := (show look H.aA b = some o' by simpa using iN)
          cases hq : hm.get b with
          | none => exact .inr ⟨rfl, H8⟩
          | some o2 =>
            have h3 := jW b o2 hq; rw [H8] at h3; injection h3 with h3; subst h3; have h4 : b < hm.next := E0 b (sL.aA b o' hq).1; refine .inl ⟨by simp, ?_⟩; rw [m.keep b h4 (Nat.lt_of_lt_of_le h4 dK)]
            exact hq)
        (fun b o' hb hg => by
          have iN : look (bM (st i).h.next h'.next h'.aA ++ H.aA) b = some o' := hg; rw [qP] at iN
          cases hl : look (bM (st i).h.next h'.next h'.aA) b with
          | none =>
            rw [hl] at iN
            exact absurd (OW b o' (show look H.aA b = some o' by simpa using iN)) hb
          | some o2 =>
            rw [hl] at iN; simp only [Option.some_or, Option.some.injEq] at iN; subst iN
            exact dT _ _ _ hl)
        (fun b hb _ => by
          show look (bM (st i).h.next h'.next h'.aA ++ H.aA) b = H.get b; rw [qP, HS b hb]
          rfl)
      have fC : ∀ b, SE st ops S E b -> glue (SE st ops S E) ρ cQ b = ρ b := fun b hb => jV hb
      have hgl : ∀ b, Ext (SB st ops S i) hm h' b -> cl st ops S i b /\ glue (SE st ops S E) ρ cQ b = cQ b := fun b hb => by
        refine ⟨rQ ρ b hb, ?_⟩; rcases hb with hb | hb
        . rw [jV (nD b hb), m.agree b hb]
        exact s9 (J6 b hb.1 hb.2)
      have gH : ∀ b, SE st ops S E b -> look (bM (st i).h.next h'.next h'.aA ++ H.aA) b = H.get b := fun b hb => by
        rw [qP, HS b hb]; rfl
      refine ⟨_, _, I.bY.trans E2, .inl ⟨fun k E1 mT => ?_, fun b hb => ?_, fun k E1 zV b hs => ?_, fun b o' hb hg => ?_, fun k E1 zV b o' hs hg => ?_⟩, J5 _ fC (hv.mono hgl), hd.trans I.defers, rfl, OV⟩
      . by_cases iK : k = i
        . subst iK; rw [nW]; exact ht
        exact A.calm k (by simpa [iK] using E1) mT
      . show look (bM (st i).h.next h'.next h'.aA ++ H.aA) b = h0.get b; rw [qP]
        cases hl : look (bM (st i).h.next h'.next h'.aA) b with
        | none => exact A.base b hb
        | some o2 => have := (dT _ _ _ hl).1; omega
      . show look (bM (st i).h.next h'.next h'.aA ++ H.aA) b = look (st (k + 1)).h.aA b; by_cases iK : k = i
        . subst iK; rw [sM, qP, qP]; congr 1
          have RN : look H.aA b = none := by
            cases hq : look H.aA b with
            | none => rfl
            | some o2 => exact absurd (OW b o2 hq) (T.J4 jC hi hE hs)
          have pO : look (st k).h.aA b = none := by
            cases hq : look (st k).h.aA b with
            | none => rfl
            | some o2 => have h3 := sb3 b o2 hq; have h4 := hs.1; omega
          rw [RN, pO]
        have zU : E k = true := by simpa [iK] using E1
        rw [gH b (.inr ⟨k, zU, zV, hs⟩)]; exact A.news k zU zV b hs
      . have iN : look (bM (st i).h.next h'.next h'.aA ++ H.aA) b = some o' := hg; rw [gH b (.inl hb)] at iN; exact DZ.on (fun b hb => .inl hb) (A.adD b o' hb iN) fC (.inl hb) (E2.hr.aA b o' hg).2
      by_cases iK : k = i
      . subst iK; have iN : look (bM (st k).h.next h'.next h'.aA ++ H.aA) b = some o' := hg; rw [qP] at iN
        cases hl : look (bM (st k).h.next h'.next h'.aA) b with
        | none =>
          rw [hl] at iN
          exact absurd (OW b o' (show look H.aA b = some o' by simpa using iN)) (T.J4 jC hi hE hs)
        | some o2 =>
          rw [hl] at iN; simp only [Option.some_or, Option.some.injEq] at iN; subst iN; have h3 := (dT _ _ _ hl).2; obtain ⟨h4, h5⟩ := m.hr.aA b o2 h3; rw [(hgl b h4).2]; exact h5.mono hgl
      have zU : E k = true := by simpa [iK] using E1
      have iN : look (bM (st i).h.next h'.next h'.aA ++ H.aA) b = some o' := hg; rw [gH b (.inr ⟨k, zU, zV, hs⟩)] at iN; exact DZ.on (OU I.down zU) (A.adE k zU zV b o' hs iN) fC (.inr ⟨k, zU, zV, hs⟩) (E2.hr.aA b o' hg).2
    refine M9 jW sL LB dK sM nW fun b hb H7 => ?_; show look (bif ord then (st i).h.aA else mask (aP (st i).bs o) (st i).segs (st i).h.aA) b = H.get b; rw [LB, A.base b H7]; exact sb1 b H7
  -- something old has been turned
  have hpi : p <= i := by
    have h1 := Bm.all i VB; rw [hE] at h1
    have : ¬ i < p := fun h => by have := h1.2 h; cases this
    omega
  have LB : ord = true := lV (T.tail p i hpi (by omega) Bm.tail)
  have hqh : ∀ q, p <= q -> q <= i -> (st q).h = (st p).h := fun q => by
    induction q with
    | zero => intro h1 _; have : p = 0 := by omega
              subst this; rfl
    | succ q ih =>
      intro h1 h2; by_cases hq : p = q + 1
      . subst hq; rfl
      have hqo : ops[q]? = some ops[q] := Array.getElem?_eq_getElem (by omega); rcases T.vZ q _ hqo with ⟨h3, _⟩ | ⟨_, _, _, h3, _⟩
      . exfalso; have h4 := xX q (uU LB q (by omega) h3); have := (Bm.all q h3).1 h4; omega
      rw [h3]; exact ih (by omega) (by omega)
  have hih := hqh i hpi (Nat.le_refl _)
  have OX : ∀ b, hm.get b = H.get b := fun b => by
    show look (bif ord then (st i).h.aA else mask (aP (st i).bs o) (st i).segs (st i).h.aA) b = H.get b; rw [LB, Bm.get b, <- hih]; rfl
  have jW : ∀ b o', hm.get b = some o' -> H.get b = some o' := fun b o' hg => by rw [<- OX]; exact hg
  have hEB : ∀ b, SE st ops S E b -> SB st ops S i b := fun b hb => by
    rcases hb with hb | ⟨k, h1, h2, h3⟩
    . exact .inl hb
    have mT := T.CG h2 h3; have := (Bm.all k mT).1 h1; exact .inr ⟨k, uU LB k (by omega) mT, h2, h3⟩
  have sL := ak5 jW fun b o' hg => by
    obtain ⟨h3, h4⟩ := q5.aA b o' (jW b o' hg); exact ⟨hEB b h3, h4.mono fun b hb => ⟨hEB b hb, rfl⟩⟩
  refine ⟨sL, ?_⟩; rcases hk with ⟨dK, alB, sM, nW⟩ | ⟨_, dK, sM, nW⟩
  . intro cQ w1 v1 a' m hv hd J5; have b7 : ∀ b, SE st ops S E b -> b < (st i).h.next := fun b hb => E0 b (hEB b hb)
    have gH : ∀ b, SE st ops S E b -> look (bM (st i).h.next h'.next h'.aA ++ (st i).h.aA) b = hm.get b := fun b hb => by
      rw [qP, HS b hb, OX, Bm.get b, <- hih]; rfl
    have E2 := CC (H2 := { next := (st ops.size).h.next, low := 0, aA := bM (st i).h.next h'.next h'.aA ++ (st i).h.aA }) (S2 := SE st ops S (fun j => E j || j == i)) (L := min (st ops.size).h.low h0.next) q5 nD jW sL m J6 uT VG VH
      (fun _ _ _ _ => by have : min (st ops.size).h.low h0.next <= h0.next := Nat.min_le_right _ _; omega)
      (fun b o' hb hg => by
        have iN : look (bM (st i).h.next h'.next h'.aA ++ (st i).h.aA) b = some o' := hg; rw [gH b hb] at iN; have h4 := b7 b hb; refine .inl ⟨by rw [iN]; simp, ?_⟩; rw [m.keep b h4 (Nat.lt_of_lt_of_le h4 dK)]
        exact iN)
      (fun b o' hb hg => by
        have iN : look (bM (st i).h.next h'.next h'.aA ++ (st i).h.aA) b = some o' := hg; rw [qP] at iN
        cases hl : look (bM (st i).h.next h'.next h'.aA) b with
        | none =>
          rw [hl] at iN
          have h3 : H.get b = some o' := by rw [Bm.get b, <- hih]; exact (show look (st i).h.aA b = some o' by simpa using iN)
          exact absurd (OW b o' h3) hb
        | some o2 =>
          rw [hl] at iN; simp only [Option.some_or, Option.some.injEq] at iN; subst iN
          exact dT _ _ _ hl)
      (fun b hb _ => by
        show look (bM (st i).h.next h'.next h'.aA ++ (st i).h.aA) b = H.get b
        rw [gH b hb, OX])
    have fC : ∀ b, SE st ops S E b -> glue (SE st ops S E) ρ cQ b = ρ b := fun b hb => jV hb; refine ⟨_, _, I.bY.trans E2, .inr ⟨i + 1, by omega, ?_, fun b => ?_, fun k mT => ?_⟩, J5 _ fC ?_, hd.trans I.defers, rfl, OV⟩
    . rw [nW]; exact T.tail p i hpi (by omega) Bm.tail
    . show look (bM (st i).h.next h'.next h'.aA ++ (st i).h.aA) b = look (st (i + 1)).h.aA b; rw [sM]
    . by_cases iK : k = i
      . subst iK; simp
      have h3 := Bm.all k mT; simp only [beq_iff_eq, iK, or_false, Bool.or_eq_true]; rw [h3]; constructor
      . intro; omega
      intro h4; refine (Bm.all k mT).1 (xX k (uU LB k (by omega) mT))
    refine hv.mono fun b hb => ⟨rQ ρ b hb, ?_⟩; rcases hb with hb | hb
    . rw [jV (nD b hb), m.agree b hb]
    exact s9 (J6 b hb.1 hb.2)
  exact M9 jW sL LB dK sM nW fun b _ _ => OX b
end
end Go.Fs
