/- Parts of the proof: an evaluator of the model, what it is sound for, and contracts of functions. No condition. -/
import Derived.Test.YteooaaiacpcfoaaGreatDoorP0
import Derived.Lib.UnsafeStr
import Derived.Laws.BytesString
import Derived.Lib.ConvBytes
import Derived.Orders
set_option linter.all false
namespace Go.Fs
open Go.RowKit (Below)
variable {P : Program} {ρ bG : Ren} {S S' : Nat -> Prop} {B : Nat} {w0 w w' w1 w2 : World} {h h' h1 h2 : Heap}
def rR (e : TypeId) (size : Nat) (zs : Bool) (base : Option Addr) (n c m : Nat) (x : Value) (app : Sem (Array Value)) : Sem Value := do
  let xH := n + m
  if xH <= c then
    let new <- app
    if let some a := base then storeCells (a.add (n * size)) new.toList
    pure (.slice base xH c)
  else
    if (xH : Int) > IntKind.i64.max /\ (zs \/ (<- typeInfo e).bytes = 0) then runtimePanic (.error "growslice: len out of range")
    if Builtin.nextslicecap xH c * (<- typeInfo e).bytes > 2 ^ 48 then (if zs then runtimePanic (.error "growslice: len out of range") else do
      if !(<- Builtin.mayShare size n m base x) then mark .noRoom
      unsupported (.resourceLimit "append: a slice or a string whose bytes no memory bears"))
    let QE <- choose (.appendCap xH c e)
    askRoom (QE * (<- typeInfo e).bytes)
    let old <- Builtin.firstCells size n (.slice base n c)
    let new <- app
    let rest := Builtin.zeroCells (<- zeroValue e).cells (QE - xH)
    pure (.slice (some (<- newRow e (old ++ new ++ rest))) xH QE)
theorem CE {argTypes : Array TypeId} {ty st xt e : TypeId} {xd : TypeDesc} {i : TypeInfo} {base : Option Addr} {n c m : Nat} {x : Value}
    (h0 : argTypes[0]? = some st) (h1 : argTypes[1]? = some xt) (cO : P.underlying st = some (.slice e)) (hxt : P.underlying xt = some xd) (hi : P.info? e = some i)
    (hx : isInt xd = false) (hn : (Builtin.lenOf x).run P w = .ok m w) :
    (Builtin.append_ argTypes ty #[.slice base n c, x]).run P w = (rR e i.size false base n c m x (Builtin.firstCells i.size m x)).run P w := by
  unfold Builtin.append_; simp only [h0, h1, List.getElem?_toArray, List.getElem?_cons_zero, List.getElem?_cons_succ, Sem.run_bind, run_underlying cO, run_underlying hxt, Result.andThen_ok, eH e i hi, Sem.run_pure]
  cases xd with
  | int k => cases hx
  | _ =>
    refine Eq.trans (b := Sem.run P (Builtin.lenOf x >>= fun m' => rR e i.size false base n c m' x (Builtin.firstCells i.size m' x)) w) rfl ?_; simp only [Sem.run_bind, hn, Result.andThen_ok]
theorem EC {argTypes : Array TypeId} {ty st xt e : TypeId} {xd : TypeDesc} {i : TypeInfo} {base : Option Addr} {n c k : Nat}
    (h0 : argTypes[0]? = some st) (h1 : argTypes[1]? = some xt) (cO : P.underlying st = some (.slice e)) (hxt : P.underlying xt = some xd) (hi : P.info? e = some i)
    (hx : isInt xd = true) (hk : (k : Int) <= 1099511627776) (hb : k * i.bytes <= 1099511627776) :
    (Builtin.append_ argTypes ty #[.slice base n c, .int .i64 k]).run P w = (rR e i.size true base n c k (.int .i64 k)
      (if k * i.size = 0 then pure #[] else do pure (Builtin.zeroCells (<- zeroValue e).cells k))).run P w := by
  unfold Builtin.append_; simp only [h0, h1, List.getElem?_toArray, List.getElem?_cons_zero, List.getElem?_cons_succ, Sem.run_bind, run_underlying cO, run_underlying hxt, Result.andThen_ok, eH e i hi, Sem.run_pure]
  have n1 : ¬ ((k : Int) < 0) := by omega
  have sX : ((k : Int) * (i.bytes : Int)) <= 1099511627776 := by
    have : ((k * i.bytes : Nat) : Int) <= 1099511627776 := by omega
    simpa using this
  have n2 : ¬ ((k : Int) * (i.bytes : Int) > 2 ^ 48) := by omega
  cases xd with
  | int kd =>
    refine Eq.trans (b := Sem.run P (do
      let l <- asInt (.int .i64 (k : Int))
      let jp : Nat -> Sem Value := fun m' => rR e i.size true base n c m' (.int .i64 k) (if m' * i.size = 0 then pure #[] else do pure (Builtin.zeroCells (<- zeroValue e).cells m'))
      if IntKind.i64.wrap l < 0 then
        runtimePanic (.error "makeslice: len out of range")
        if IntKind.i64.wrap l * (<- typeInfo e).bytes > 2 ^ 48 then
          let made <- choose (.extern "append.ofMake.carriedOut" 2)
          runtimePanic (.error (if made == 1 then "makeslice: len out of range" else "growslice: len out of range"))
          jp (<- pure (IntKind.i64.wrap l).toNat)
        else jp (<- pure (IntKind.i64.wrap l).toNat)
      else
        if IntKind.i64.wrap l * (<- typeInfo e).bytes > 2 ^ 48 then
          let made <- choose (.extern "append.ofMake.carriedOut" 2)
          runtimePanic (.error (if made == 1 then "makeslice: len out of range" else "growslice: len out of range"))
          jp (<- pure (IntKind.i64.wrap l).toNat)
        else jp (<- pure (IntKind.i64.wrap l).toNat)) w) rfl ?_
    simp only [Sem.run_bind, asInt, asIntOf, Sem.run_pure, Result.andThen_ok, sH (by omega : (0 : Int) <= k) hk, n1, if_false, r8 e i hi, n2, Int.toNat_natCast]
  | _ => cases hx
theorem afB : IntKind.i64.max = 9223372036854775807 := rfl
theorem B5 {e : TypeId} {i : TypeInfo} {z x : Value} {zs : Bool} {base : Option Addr} {n c m : Nat} {app : Sem (Array Value)} {old new : List Value}
    (hi : P.info? e = some i) (hz : i.zero = some z) (wO : z.cells.size = i.size) (xP : 0 < i.bytes) (anE : c < n + m) (hbound : (n + m) * i.bytes <= 274877906944)
    (hold : (Builtin.firstCells i.size n (.slice base n c)).run P w.drew = .ok old.toArray w.drew) (sY : app.run P w.drew = .ok new.toArray w.drew) (ho : old.length = n * i.size) (hn : new.length = m * i.size) :
    ∃ cap rest, n + m <= cap /\ (old ++ new ++ rest).length = cap * i.size /\
      (rR e i.size zs base n c m x app).run P w = .ok (.slice (some ⟨w.heap.size, 0, none⟩) (n + m) cap) (w.drew.alloc (.cells (old ++ new ++ rest).toArray e)) := by
  have hnb : n + m <= 274877906944 := Nat.le_trans (Nat.le_mul_of_pos_right _ xP) hbound; have wP : i.bytes <= 274877906944 := Nat.le_trans (Nat.le_mul_of_pos_left _ (by omega)) hbound; have nT := nextslicecap_le (n + m) c anE
  have at1 : Builtin.nextslicecap (n + m) c * i.bytes <= 2 ^ 48 := by
    have h1 : Builtin.nextslicecap (n + m) c * i.bytes <= (2 * (n + m) + 192) * i.bytes := Nat.mul_le_mul_right _ nT
    have h2 : (2 * (n + m) + 192) * i.bytes = 2 * ((n + m) * i.bytes) + 192 * i.bytes := by
      rw [Nat.add_mul, Nat.mul_assoc]
    omega
  have n1 : ¬ (n + m <= c) := by omega
  have n2 : ¬ ((((n + m : Nat) : Int) > IntKind.i64.max) /\ (zs = true \/ i.bytes = 0)) := by
    rw [afB]; omega
  have n3 : ¬ (Builtin.nextslicecap (n + m) c * i.bytes > 2 ^ 48) := by omega
  have hq : (Question.appendCap (n + m) c e).forced = false := rfl; refine ⟨(Question.appendCap (n + m) c e).cut (w.tape w.drawn (Question.appendCap (n + m) c e)), (Builtin.zeroCells z.cells ((Question.appendCap (n + m) c e).cut (w.tape w.drawn (Question.appendCap (n + m) c e)) - (n + m))).toList, ?_, ?_, ?_⟩
  . simp only [Question.cut]; omega
  . have hle : n + m <= (Question.appendCap (n + m) c e).cut (w.tape w.drawn (Question.appendCap (n + m) c e)) := by simp only [Question.cut]; omega
    simp only [List.length_append, ho, hn, Builtin.zeroCells, wO]; simp only [Array.toList_map, List.length_map, Array.length_toList, Array.size_range]; rw [<- Nat.add_mul, <- Nat.add_mul]; congr 1; omega
  unfold rR; simp only [n1, if_false, Sem.run_bind, r8 e i hi, Result.andThen_ok, n2, n3, run_choose, hq, Bool.false_eq_true, run_askRoom]; have hd : ({ w with drawn := w.drawn + 1 } : World) = w.drew := rfl; rw [hd]; simp only [Sem.run_bind, hold, sY, Result.andThen_ok, gH e i z hi hz, newRow, run_newObj, Sem.run_pure]; congr 2; show (w.drew.heap.push _) = _; congr 2; apply Array.toList_inj.1; simp
theorem zM {e : TypeId} {size : Nat} {x : Value} {zs : Bool} {A : Addr} {n c m : Nat} {app : Sem (Array Value)} {new : List Value} (hle : n + m <= c) (sY : app.run P w = .ok new.toArray w)
    (cO : (storeCells (A.add (n * size)) new).run P w = .ok () w') : (rR e size zs (some A) n c m x app).run P w = .ok (.slice (some A) (n + m) c) w' := by
  unfold rR; simp only [hle, if_true, Sem.run_bind, sY, Result.andThen_ok, cO, Sem.run_pure]
structure App (P : Program) (ρ : Ren) (S : Nat -> Prop) (w : World) (app : Sem (Array Value)) (news : List Value) : Prop where
  here : ∃ new, LR ρ S news new /\ app.run P w = .ok new.toArray w
  drew : ∃ new, LR ρ S news new /\ app.run P w.drew = .ok new.toArray w.drew
theorem OH {e : TypeId} {i : TypeInfo} {n m c : Nat} {olds news old new rest : List Value} (hr : HR P ρ S B w0 h w) (hi : P.info? e = some i)
    (ho : LR ρ S olds old) (hn : LR ρ S news new) (hle : n + m <= c) (hlen : (old ++ new ++ rest).length = c * i.size) :
    p6 P B w0 ρ S h w (grown e (n + m) (olds ++ news) h).1 (grown e (n + m) (olds ++ news) h).2 (.ok (.slice (some ⟨w.heap.size, 0, none⟩) (n + m) c) (w.drew.alloc (.cells (old ++ new ++ rest).toArray e))) := by
  have l3 : HR P ρ S B w0 h w.drew := hr.drew _; have qJ := ho.1; have iR := hn.1
  have hm := wM l3 e (cs := olds ++ news) (cur := old ++ new ++ rest) true (by simp; omega) (fun e => by cases e) (fun j hj => by
    have h1 := (ho.append hn).2 j hj; rw [List.getD_eq_getElem?_getD, List.getD_eq_getElem?_getD] at h1 ⊢; rw [List.getElem?_append_left (show j < (old ++ new).length by simp at hj ⊢; omega)]
    exact h1)
  refine ⟨_, _, _, rfl, aO.tX hm, ?_⟩; exact oJ hr.pos (n + m) c _ rfl hle (by rw [hlen, iI hi]) _ (Ext.kD _)
theorem TA {e : TypeId} {i : TypeInfo} {z s s' x v : Value} {zs : Bool} {m : Nat} {news : List Value} {app : Sem (Array Value)} (hr : HR P ρ S B w0 h w) (hi : P.info? e = some i) (hz : i.zero = some z) (wO : z.cells.size = i.size)
    (cY : 0 < i.size) (xP : 0 < i.bytes) (yA : news.length = m * i.size) (mP : news.all aN = true) (hs : VR ρ S s s') (sY : App P ρ S w app news) (hf : n7 e i s m news h = some (v, h')) :
    ∃ base n c, s' = .slice base n c /\ p6 P B w0 ρ S h w v h' ((rR e i.size zs base n c m x app).run P w) := by
  obtain ⟨xI, pK, J7⟩ := sY.here; obtain ⟨yB, qJ, XR⟩ := sY.drew; have l3 : HR P ρ S B w0 h w.drew := hr.drew _; unfold n7 at hf; split at hf
  . obtain rfl := hs.iG; refine ⟨none, 0, 0, rfl, ?_⟩
    cases hm : Nat.beq m 0 with
    | true =>
      rw [hm] at hf; simp only [cond_true, Option.some.injEq, Prod.mk.injEq] at hf; obtain ⟨rfl, rfl⟩ := hf; obtain rfl := bD hm
      have : (rR e i.size zs none 0 0 0 x app).run P w = .ok (.slice none 0 0) w := by
        unfold rR; simp only [Nat.add_zero, Nat.le_refl, if_true, Sem.run_bind, J7, Result.andThen_ok, Sem.run_pure]
      rw [this]
      exact p6.pure hr (.lit rfl)
    | false =>
      rw [hm] at hf; simp only [cond_false] at hf; obtain ⟨hb, cT⟩ := aL hf; clear hf; have hb := eP hb; have hm0 := fP hm; simp only [Option.some.injEq] at cT; obtain ⟨cap, rest, h1, h2, h3⟩ := B5 (P := P) (w := w) (e := e) (i := i) (x := x) (zs := zs) (base := none) (n := 0) (c := 0) (m := m) (app := app) (old := []) (new := yB) hi hz wO xP (by omega) (by simpa using hb) (by simp [Builtin.firstCells]) XR (by simp) (by rw [<- qJ.1, yA]); have h4 := OH (n := 0) (m := m) hr hi (olds := []) LR.nil qJ h1 h2; rw [h3]; simp only [Nat.zero_add, List.nil_append] at h4 cT ⊢; rw [cT] at h4; exact h4
  . rename_i b o n mk; obtain ⟨A, c, rfl, hn, QA, h0, hb⟩ := hs.fZ; refine ⟨some A, n, c, rfl, ?_⟩
    cases hq : (Nat.beq m 0 && Nat.beq mk 1) with
    | true =>
      rw [hq] at hf; simp only [cond_true, Option.some.injEq, Prod.mk.injEq] at hf; obtain ⟨rfl, rfl⟩ := hf; obtain ⟨hm, mK⟩ := aT hq; obtain rfl := bD hm; have lD : xI = [] := List.eq_nil_of_length_eq_zero (by rw [<- pK.1, yA]; simp); subst lD; have hc := QA (bD mK); rw [zM (w' := w) (by omega) J7 rfl]
      exact p6.pure hr (by simpa using hs)
    | false =>
      rw [hq] at hf; simp only [cond_false] at hf; split at hf
      . rename_i e' cs own more hg; obtain ⟨vC, cT⟩ := aL hf; clear hf; obtain ⟨jZ, hle⟩ := aT vC; obtain ⟨he, hbd⟩ := aT jZ; obtain rfl := bD he; have hbd := eP hbd; have hle := eP hle; have mB := (hr.aB b _ hg).2; have iQ : b ≠ 0 := (hr.ids b (hr.aB b _ hg).1).2; obtain ⟨hS, rfl, nT⟩ := hb iQ; have G4 := mB.B3.trans (iI hi); have oH : ∀ i, i < cs.length -> ∃ v, w.cell? ((ρ b).at i) = some v /\ VR ρ S (cs.getD i undef) v := fun i hi => mB.cell hi
        -- the old elements, read behind the draw
        obtain ⟨olds, hold, oZ⟩ := nR (P := P) (w := w.drew) (l := ρ b) (ρ := ρ) (S := S) (o := o) (n := n * i.size) oH hle
        have hol : olds.length = n * i.size := by rw [<- oZ.1]; simp; omega
        have wQ : (Builtin.firstCells i.size n (.slice (some ((ρ b).at o)) n c)).run P w.drew = .ok olds.toArray w.drew := hold
        have afC : c < n + m -> p6 P B w0 ρ S h w (grown e' (n + m) ((cs.drop o).take (n * i.size) ++ news) h).1 (grown e' (n + m) ((cs.drop o).take (n * i.size) ++ news) h).2
            ((rR e' i.size zs (some ((ρ b).at o)) n c m x app).run P w) := fun bX => by
          obtain ⟨cap, rest, h1, h2, h3⟩ := B5 (P := P) (w := w) (e := e') (i := i) (x := x) (zs := zs) (base := some ((ρ b).at o)) (n := n) (c := c) (m := m) (app := app) (old := olds) (new := yB) hi hz wO xP bX hbd wQ XR hol (by rw [<- qJ.1, yA]); rw [h3]; exact OH hr hi oZ qJ h1 h2
        cases aaX : Nat.beq mk 1 with
        | true =>
          rw [aaX] at cT; simp only [cond_true, Option.some.injEq] at cT; have hc := QA (bD aaX)
          have hm0 : m ≠ 0 := fun e => by subst e; simp [aaX] at hq
          have := afC (by omega); rw [cT] at this
          exact this
        | false =>
          rw [aaX] at cT; simp only [cond_false] at cT; obtain ⟨y8, rQ⟩ := aL cT; clear cT; obtain ⟨aqC, kR⟩ := aT y8; have nT := nT (bD aqC); rw [G4] at nT; subst kR; obtain ⟨cur, afD, aaY, am6, _, hlc, anF, aqD⟩ := mB
          cases nS : Nat.ble (o + (n + m) * i.size) cs.length with
          | true =>
            rw [nS] at rQ; simp only [cond_true, Option.some.injEq, Prod.mk.injEq] at rQ; obtain ⟨rfl, HT⟩ := rQ; have nS := eP nS
            have wR : n + m <= c := by
              have h1 : (n + m) * i.size <= c * i.size := by omega
              exact Nat.le_of_mul_le_mul_right h1 cY
            have G5 : VR ρ S (.slice (some ⟨b, o, none⟩) (n + m) 0) (.slice (some ((ρ b).at o)) (n + m) c) :=
              .slice b o (n + m) 0 c _ wR (fun e => by cases e) (fun e => absurd e iQ) (fun _ => ⟨hS, rfl, fun _ => by rw [G4]; exact nT⟩)
            cases hm : Nat.beq m 0 with
            | true =>
              rw [hm] at HT; simp only [cond_true] at HT; subst HT; have hm0 := bD hm; have lD : xI = [] := List.eq_nil_of_length_eq_zero (by rw [<- pK.1, yA, hm0]; simp); subst lD; rw [zM (w' := w) wR J7 rfl]
              exact p6.pure hr G5
            | false =>
              rw [hm] at HT; simp only [cond_false] at HT; subst HT; have aqE : (n + m) * i.size = n * i.size + m * i.size := Nat.add_mul _ _ _; obtain ⟨w2, h1, h2⟩ := pI (o := o + n * i.size) hr hg pK mP (by omega); rw [zM (w' := w2) wR J7 (by rw [Loc.tV]; exact h1)]
              exact ⟨ρ, w2, _, rfl, h2, G5.mono fun b hb => ⟨.inl hb, rfl⟩⟩
          | false =>
            rw [nS] at rQ; simp only [cond_false] at rQ; have nS := gI nS
            cases hmr : more with
            | false =>
              rw [hmr] at rQ; simp only [Bool.not_false, cond_true, Option.some.injEq] at rQ; have sE := anF hmr
              have bX : c < n + m := by
                have h1 : c * i.size < (n + m) * i.size := by omega
                exact Nat.lt_of_mul_lt_mul_right h1
              have := afC bX; rw [rQ] at this
              exact this
            | true =>
              rw [hmr] at rQ; simp only [Bool.not_true, cond_false] at rQ; obtain ⟨hc4, HT⟩ := aL rQ; clear rQ; obtain ⟨ho0, QG⟩ := aT hc4; obtain rfl := bD ho0; have QG := bD QG; simp only [Option.some.injEq] at HT; have atF : gW (.row e' cs true more) = true := rfl; have hB := hr.base b _ hg rfl; have am7 := (hr.aB b _ hg).2.lt rfl; by_cases wR : n + m <= c
              . -- in place
                have aqE : (n + m) * i.size = n * i.size + m * i.size := Nat.add_mul _ _ _; have N8 : (n + m) * i.size <= c * i.size := Nat.mul_le_mul_right _ wR
                have atG : xI.length = m * i.size := by rw [<- pK.1, yA]
                have eD := oI P (ρ b).block (n * i.size) e' (ρ b).fz xI 0 cur.toArray w afD (by have := (ρ b).hfz; simpa [am6] using this) (by simp; omega) (fun v nH => by rw [G2]; exact pK.aN mP v nH); simp only [Nat.add_zero] at eD
                have sW : (ρ b).at (n * i.size) = ⟨(ρ b).block, n * i.size, none⟩ := by simp [Loc.at, aaY]
                rw [zM wR J7 (by rw [Loc.tV, Nat.zero_add, sW]; exact eD)]
                have hmv := aO.replace hr hg rfl (o' := .row e' (cs ++ news) true true) rfl (ρ b) (.inl rfl) hB (w' := w.setRow (ρ b).block (cur.toArray.toList.take (n * i.size) ++ xI ++ cur.toArray.toList.drop (n * i.size + xI.length)).toArray)
                  rfl rfl rfl (by simp [World.setRow]) (fun k _ hk => setRow_other w _ k _ hk)
                  ⟨cur.take (n * i.size) ++ xI ++ cur.drop (n * i.size + xI.length), by rw [setRow_heap w _ cur.toArray _ e' _ afD], aaY, by rw [sV _ _ _ (by omega)]; exact am6, (hr.aB b _ hg).2.B3,
                    by rw [sV _ _ _ (by omega)]; simp; omega, (fun e => by cases e), fun j hj => by
                      have T3 : j < cs.length + news.length := by simpa using hj
                      rw [List.getD_eq_getElem?_getD, List.getD_eq_getElem?_getD, qI cur _ xI (by omega), List.getElem?_append, <- QG]; by_cases h1 : j < n * i.size
                      . rw [if_pos h1, if_pos h1]; have := (aqD j (by omega)).mono (hr.r7 (ρ b) (.row e' (cs ++ news) true true)); rw [List.getD_eq_getElem?_getD, List.getD_eq_getElem?_getD] at this; exact this
                      rw [if_neg h1, if_neg h1, if_pos (by omega)]; have := (pK.2 (j - n * i.size) (by omega)).mono (hr.r7 (ρ b) (.row e' (cs ++ news) true true)); rw [List.getD_eq_getElem?_getD, List.getD_eq_getElem?_getD] at this
                      exact this⟩
                simp only [grown, Prod.mk.injEq] at HT; obtain ⟨rfl, rfl⟩ := HT; refine ⟨_, _, _, rfl, hmv, ?_⟩; have := oJ (ρ := ρ) (S := S) hr.pos (n + m) c (ρ b) aaY wR (by rw [G4]; omega) ((h.drop b).push (.row e' (cs ++ news) true true)) (.inr ⟨Nat.le_refl _, Nat.lt_succ_self _⟩)
                have h0 : (ρ b).at 0 = ⟨(ρ b).block, 0, none⟩ := by simp [Loc.at, aaY]
                rw [h0]; exact this
              -- a new row
              obtain ⟨cap, rest, h1, h2, h3⟩ := B5 (P := P) (w := w) (e := e') (i := i) (x := x) (zs := zs) (base := some ((ρ b).at 0)) (n := n) (c := c) (m := m) (app := app) (old := olds) (new := yB) hi hz wO xP (by omega) hbd wQ XR hol (by rw [<- qJ.1, yA]); rw [h3]
              have gX : (cs.drop 0).take (n * i.size) = cs := by rw [QG]; simp
              rw [gX] at oZ; have iR := qJ.1; have hl3 := oZ.1
              have hmv := aO.replace (w := w.drew) l3 hg rfl (o' := .row e' (cs ++ news) true true) rfl (.clean w.heap.size 0 (olds ++ yB ++ rest).length (P.cellsOf e')) (.inr (Nat.le_refl _)) hr.size
                (w' := w.drew.alloc (.cells (olds ++ yB ++ rest).toArray e')) rfl rfl rfl (by simp) (fun k hk _ => Below.heap_alloc w.drew _ k hk)
                ⟨olds ++ yB ++ rest, heap_alloc_new w.drew _, rfl, rfl, rfl, by simp; omega, (fun e => by cases e), fun j hj => by
                  have h4 := ((oZ.append qJ).mono (hr.r7 (.clean w.heap.size 0 (olds ++ yB ++ rest).length (P.cellsOf e')) (.row e' (cs ++ news) true true))).2 j hj; rw [List.getD_eq_getElem?_getD, List.getD_eq_getElem?_getD] at h4 ⊢; rw [List.getElem?_append_left (show j < (olds ++ yB).length by simp at hj ⊢; omega)]
                  exact h4⟩
              simp only [grown, Prod.mk.injEq] at HT; obtain ⟨rfl, rfl⟩ := HT; refine ⟨_, _, _, rfl, aO.tX hmv, ?_⟩; exact oJ hr.pos (n + m) cap _ rfl h1 (by rw [h2, iI hi]) _ (.inr ⟨Nat.le_refl _, Nat.lt_succ_self _⟩)
      cases hf
  cases hf
theorem XS {argTypes : Array TypeId} {ty : TypeId} {s x s' x' v : Value} (hr : HR P ρ S B w0 h w) (hs : VR ρ S s s') (hx : VR ρ S x x') (hf : dR P argTypes s x h = some (v, h')) :
    p6 P B w0 ρ S h w v h' ((Builtin.append_ argTypes ty #[s', x']).run P w) := by
  unfold dR at hf; split at hf
  . rename_i st xt h0 h1; split at hf
    . rename_i e xd cO hxt; split at hf
      . rename_i i hi; split at hf
        . rename_i z hz; split at hf
          . rename_i m news sY; obtain ⟨hc, cT⟩ := aL hf; clear hf; obtain ⟨vC, wO⟩ := aT hc; obtain ⟨jZ, mP⟩ := aT vC; obtain ⟨y8, yA⟩ := aT jZ; obtain ⟨cY, xP⟩ := aT y8; have cY := iH cY; have xP := iH xP; have yA := bD yA; have wO := bD wO; obtain ⟨xI, a1, a2, a3⟩ := CD hi hz wO cY hr hx sY; obtain ⟨yB, b1, b2, b3⟩ := CD hi hz wO cY (hr.drew (w.drawn + 1)) hx sY
            cases hxi : isInt xd with
            | false =>
              rw [hxi] at a2 a3 b3; simp only [Bool.false_eq_true, if_false, Bool.not_false, if_true] at a2 a3 b3; have afE : App P ρ S w (Builtin.firstCells i.size m x') news := ⟨⟨xI, a1, a3⟩, ⟨yB, b1, b3⟩⟩; obtain ⟨base, n, c, rfl, iK⟩ := TA (x := x') (zs := false) hr hi hz wO cY xP yA mP hs afE cT; rw [CE h0 h1 cO hxt hi hxi a2]
              exact iK
            | true =>
              have TB : ∃ k : Nat, x' = .int .i64 k /\ m = k /\ (k : Int) <= 1099511627776 /\ k * i.bytes <= 1099511627776 := by
                rw [hxi] at sY; unfold iN at sY; simp only [cond_true] at sY; split at sY
                . rename_i l; obtain ⟨hd, rQ⟩ := aL sY; obtain ⟨CF, _⟩ := aT hd; obtain ⟨N6, wP⟩ := aT CF; obtain ⟨pK, qJ⟩ := aT N6; have pK := of_decide_eq_true pK; have qJ := of_decide_eq_true qJ; obtain ⟨k, rfl⟩ := Int.eq_ofNat_of_zero_le pK; simp only [Int.toNat_natCast, Option.some.injEq, Prod.mk.injEq] at rQ wP; exact ⟨k, hx.rE, rQ.1.symm, qJ, eP wP⟩
                cases sY
              obtain ⟨k, rfl, rfl, hk1, ED⟩ := TB; rw [hxi] at a3 b3; simp only [Bool.not_true, Bool.false_eq_true, if_false] at a3 b3; have afE : App P ρ S w (if m * i.size = 0 then pure #[] else do pure (Builtin.zeroCells (<- zeroValue e).cells m)) news := ⟨⟨xI, a1, a3⟩, ⟨yB, b1, b3⟩⟩; obtain ⟨base, n, c, rfl, iK⟩ := TA (x := .int .i64 m) (zs := true) hr hi hz wO cY xP yA mP hs afE cT; rw [EC h0 h1 cO hxt hi hxi hk1 ED]; exact iK
          cases hf
        cases hf
      cases hf
    cases hf
  cases hf
end Go.Fs
namespace Go.Fs
open Go.RowKit (Below)
variable {P : Program} {ρ bG : Ren} {S S' : Nat -> Prop} {B : Nat} {w0 w w' w1 w2 : World} {h h' h1 h2 : Heap}
def xJ (es eW : List MapEntry) : Prop := es.length = eW.length /\ ∀ (i : Nat) (e e' : MapEntry), es[i]? = some e -> eW[i]? = some e' -> e'.key = e.key
def EE (es eW : List MapEntry) (i : Nat) : Option (Nat × Value) -> Option (Nat × Value) -> Prop
  | none, none => True
  | some (j, v), some (j', v') => j' = j /\ ∃ m e e', j = i + m /\ es[m]? = some e /\ eW[m]? = some e' /\ v = e.val /\ v' = e'.val
  | _, _ => False
theorem EE.step {es eW : List MapEntry} {a a' : MapEntry} {i : Nat} {r r' : Option (Nat × Value)} (h : EE es eW (i + 1) r r') : EE (a :: es) (a' :: eW) i r r' := by
  match r, r', h with
  | none, none, _ => trivial
  | some (j, v), some (j', v'), ⟨h1, m, e, e', h2, h3, h4, h5⟩ => exact ⟨h1, m + 1, e, e', by omega, by simpa using h3, by simpa using h4, h5⟩
theorem xJ.tail {es eW : List MapEntry} {a a' : MapEntry} (h : xJ (a :: es) (a' :: eW)) : a'.key = a.key /\ xJ es eW :=
  ⟨h.2 0 a a' rfl rfl, by simpa using h.1, fun i e e' he lT => h.2 (i + 1) e e' (by simpa using he) (by simpa using lT)⟩
theorem yC {d : TypeDesc} {k : Value} : ∀ (es eW : List MapEntry) (i : Nat), xJ es eW ->
    (Instr.findNow d k es i = none -> Instr.findNow d k eW i = none) /\ ∀ r, Instr.findNow d k es i = some r -> ∃ r', Instr.findNow d k eW i = some r' /\ EE es eW i r r'
  | [], [], i, _ => ⟨fun h => h, fun r h => ⟨none, rfl, by simp only [Instr.findNow, Option.some.injEq] at h; subst h; trivial⟩⟩
  | [], _ :: _, _, h => by simp [xJ] at h
  | _ :: _, [], _, h => by simp [xJ] at h
  | a :: es, a' :: eW, i, h => by
    obtain ⟨hk, ht⟩ := h.tail; obtain ⟨ih1, ih2⟩ := yC (d := d) (k := k) es eW (i + 1) ht; simp only [Instr.findNow, hk]
    cases hs : Instr.sameNow d k a.key with
    | none => exact ⟨fun _ => rfl, fun r hr => by cases hr⟩
    | some b =>
      cases b with
      | true =>
        refine ⟨fun hc => by (cases hc), fun r hr => ?_⟩; simp only [Option.some.injEq] at hr; subst hr
        exact ⟨_, rfl, rfl, 0, a, a', rfl, rfl, rfl, rfl, rfl⟩
      | false =>
        refine ⟨fun hc => ih1 hc, fun r hr => ?_⟩; obtain ⟨r', h1, h2⟩ := ih2 r hr; exact ⟨r', h1, h2.step⟩
theorem yD {t : TypeId} {k : Value} : ∀ (es eW : List MapEntry) (i : Nat) (r : Option (Nat × Value)), xJ es eW -> aC P (Instr.findAsking t k es i) = some r ->
    ∃ r', aC P (Instr.findAsking t k eW i) = some r' /\ EE es eW i r r'
  | [], [], i, r, _, h => ⟨none, rfl, by
      have h' : some none = some r := h
      simp only [Option.some.injEq] at h'; subst h'; trivial⟩
  | [], _ :: _, _, _, h, _ => by simp [xJ] at h
  | _ :: _, [], _, _, h, _ => by simp [xJ] at h
  | a :: es, a' :: eW, i, r, h, hr => by
    obtain ⟨hk, ht⟩ := h.tail; simp only [Instr.findAsking, aD, hk] at hr ⊢
    cases hs : aC P (Op.equal t k a.key) with
    | none => rw [hs] at hr; cases hr
    | some b =>
      rw [hs] at hr; simp only [Option.bind_some] at hr ⊢
      cases b with
      | true =>
        simp only [if_true, aK, Option.some.injEq] at hr ⊢; subst hr
        exact ⟨_, rfl, rfl, 0, a, a', rfl, rfl, rfl, rfl, rfl⟩
      | false =>
        simp only [Bool.false_eq_true, if_false] at hr ⊢; obtain ⟨r', h1, h2⟩ := yD es eW (i + 1) r ht hr; exact ⟨r', h1, h2.step⟩
theorem CG {t : TypeId} {k : Value} {es eW : List MapEntry} {r : Option Nat} (hk : xJ es eW) (hf : I1 P t k es = some r) (w : World) :
    ∃ a a', (Instr.findKey t k eW).run P w = .ok a' w /\ EE es eW 0 a a' /\ r = a.map (·.1) := by
  unfold I1 at hf; split at hf
  . rename_i d hd; split at hf
    . rename_i a ha; simp only [Option.some.injEq] at hf; obtain ⟨a', h1, h2⟩ := (yC es eW 0 hk).2 a ha; exact ⟨a, a', by simp [Instr.findKey, run_underlying hd, Result.andThen, h1], h2, hf.symm⟩
    rename_i ha; have h1 := (yC es eW 0 hk).1 ha; obtain ⟨a, h2, h3⟩ := Option.map_eq_some_iff.1 hf; obtain ⟨a', h4, h5⟩ := yD es eW 0 a hk h2; refine ⟨a, a', ?_, h5, h3.symm⟩; simp only [Instr.findKey, Sem.run_bind, run_underlying hd, Result.andThen_ok, h1]; exact bZ h4 w
  cases hf
theorem yE {r : Nat} {es : Array MapEntry} {clock : Nat} (hb : w.heap[r]? = some (.map es clock)) : (getObj r).run P w = .ok (.map es clock) w := by
  simp [getObj, Sem.run, hb]
theorem G6 {r : Nat} {es : Array MapEntry} {clock : Nat} (o : Obj) (hb : w.heap[r]? = some (.map es clock)) : (setObj r o).run P w = .ok () { w with heap := w.heap.setIfInBounds r o } := by
  simp [setObj, Sem.run, hb]
theorem zN {r : Nat} {o o' : Obj} (hb : w.heap[r]? = some o) : (w.heap.setIfInBounds r o')[r]? = some o' /\ ∀ r', r' ≠ r -> (w.heap.setIfInBounds r o')[r']? = w.heap[r']? := by
  have bX : r < w.heap.size := (Array.getElem?_eq_some_iff.1 hb).1; exact ⟨by simp [bX], fun r' cA => by simp [Ne.symm cA]⟩
theorem TC {b : Nat} {es : List MapEntry} {clock : Nat} (hr : HR P ρ S B w0 h w) (hg : h.get b = some (.qA es clock)) :
    ∃ eW : List MapEntry, w.heap[(ρ b).block]? = some (.map eW.toArray clock) /\ es.length = eW.length /\
      ∀ (i : Nat) (e e' : MapEntry), es[i]? = some e -> eW[i]? = some e' -> e'.key = e.key /\ af e.key = true /\ e'.born = e.born /\ VR ρ S e.val e'.val := (hr.aB b _ hg).2
theorem sI {t : TypeId} {k : Value} {em : Bool} (hc : (aC P (Instr.checkKey em 10000 t k)).isSome = true) (w : World) : (Instr.checkKey em 10000 t k).run P w = .ok () w := by
  obtain ⟨u, hu⟩ := Option.isSome_iff_exists.1 hc; exact bZ hu w
theorem XT {t : TypeId} {x x' k k' v : Value} {ok : Bool} (hr : HR P ρ S B w0 h w) (hx : VR ρ S x x') (hk : VR ρ S k k') (hf : E2 P t x k ok h = some v) :
    ∃ v', (Instr.lookup t x' k' ok).run P w = .ok v' w /\ VR ρ S v v' := by
  unfold E2 at hf; split at hf
  . rename_i key elem hu; split at hf
    . rename_i z hz; simp only at hf; split at hf
      . rename_i es TD; split at hf
        . rename_i hc; obtain ⟨hak, haz, hck⟩ := hc; obtain rfl := hk.dD hak
          -- the map's entries in the world
          have aqF : ∃ eW : List MapEntry, (x' = .map none /\ eW = [] \/ ∃ r clock, x' = .map (some r) /\ w.heap[r]? = some (.map eW.toArray clock)) /\ xJ es eW /\
              ∀ (i : Nat) (e e' : MapEntry), es[i]? = some e -> eW[i]? = some e' -> VR ρ S e.val e'.val := by
            split at TD
            . simp only [Option.some.injEq] at TD; subst TD; obtain rfl := hx.fY rfl; exact ⟨[], .inl ⟨rfl, rfl⟩, ⟨rfl, fun i e e' he => by simp at he⟩, fun i e e' he => by simp at he⟩
            . rename_i b; obtain ⟨hs, rfl⟩ := hx.y5; split at TD
              . rename_i es2 clock hg; simp only [Option.some.injEq] at TD; subst TD; obtain ⟨eW, h1, h2, h3⟩ := TC hr hg; exact ⟨eW, .inr ⟨_, _, rfl, h1⟩, ⟨h2, fun i e e' he lT => (h3 i e e' he lT).1⟩, fun i e e' he lT => (h3 i e e' he lT).2.2.2⟩
              cases TD
            cases TD
          obtain ⟨eW, h1, h2, h3⟩ := aqF
          have hem : eW.toArray.isEmpty = es.isEmpty := by
            have := h2.1; cases es <;> cases eW <;> simp_all
          obtain ⟨i, hi, hiz⟩ := Option.bind_eq_some_iff.1 hz; have hzr := gH elem i z hi hiz w
          have J8 : ∀ a', (Instr.findKey key k' eW).run P w = .ok a' w -> ∀ v0 b0, (match a' with | some (_, v) => v0 = v /\ b0 = true | none => v0 = z /\ b0 = false) ->
              (Instr.lookup t x' k' ok).run P w = .ok (if ok then .tuple #[v0, .bool b0] else v0) w := fun a' p5 v0 b0 hvb => by
            unfold Instr.lookup; simp only [Sem.run_bind, run_underlying hu, Result.andThen_ok]; rcases h1 with ⟨rfl, rfl⟩ | ⟨r, clock, rfl, h1⟩
            . have aqG : (#[] : Array MapEntry).isEmpty = es.isEmpty := hem; have TE : (Instr.findKey key k' (#[] : Array MapEntry).toList).run P w = .ok a' w := p5; simp only [Sem.run_bind, Sem.run_pure, Result.andThen_ok, aqG, sI hck, TE]
              cases a' with
              | none =>
                obtain ⟨rfl, rfl⟩ := hvb
                simp only [Sem.run_bind, hzr, Result.andThen_ok, Sem.run_pure]
              | some p =>
                obtain ⟨rfl, rfl⟩ := hvb; simp only [Sem.run_bind, Result.andThen_ok, Sem.run_pure]
            simp only [Sem.run_bind, Sem.run_pure, yE h1, Result.andThen_ok, hem, sI hck, p5]
            cases a' with
            | none =>
              obtain ⟨rfl, rfl⟩ := hvb
              simp only [Sem.run_bind, hzr, Result.andThen_ok, Sem.run_pure]
            | some p =>
              obtain ⟨rfl, rfl⟩ := hvb; simp only [Sem.run_bind, Result.andThen_ok, Sem.run_pure]
          have wrap : ∀ v0 v1 b0, VR ρ S v0 v1 -> VR ρ S (if ok = true then .tuple #[v0, .bool b0] else v0) (if ok = true then .tuple #[v1, .bool b0] else v1) := fun v0 v1 b0 hv => by
            cases ok with
            | false => exact hv
            | true => exact VR.tuple' (LR.cons hv (LR.cons (.lit rfl) LR.nil))
          split at hf
          . rename_i j hj; obtain ⟨a, a', h4, h5, h6⟩ := CG h2 hj w; split at hf
            . rename_i e he; simp only [Option.some.injEq] at hf; subst hf
              match a, a', h5 with
              | some (j1, v1), some (j2, v2), ⟨e1, m, e3, e4, e5, e6, e7, e8, e9⟩ =>
                simp only [Option.map_some, Option.some.injEq] at h6; subst h6
                have : m = j := by omega
                subst this; rw [e6] at he; injection he with he; subst he e9
                exact ⟨_, J8 _ h4 e4.val true ⟨rfl, rfl⟩, wrap _ _ _ (h3 _ _ _ e6 e7)⟩
              | none, none, _ => simp at h6
            cases hf
          . rename_i hj; obtain ⟨a, a', h4, h5, h6⟩ := CG h2 hj w; simp only [Option.some.injEq] at hf; subst hf
            match a, a', h5 with
            | some (j1, v1), some (j2, v2), _ => simp at h6
            | none, none, _ => exact ⟨_, J8 _ h4 z false ⟨rfl, rfl⟩, wrap _ _ _ (.lS haz)⟩
          cases hf
        cases hf
      cases hf
    cases hf
  cases hf
theorem AP {t : TypeId} {m m' k k' x x' : Value} (hr : HR P ρ S B w0 h w) (hm : VR ρ S m m') (hk : VR ρ S k k') (hx : VR ρ S x x') (hf : wE P t m k x h = some h') :
    ∃ w', (Instr.mapUpdate t m' k' x').run P w = .ok () w' /\ aO P B w0 ρ ρ S h h' w w' := by
  unfold wE at hf; split at hf
  . rename_i key elem b hu; obtain ⟨hs, rfl⟩ := hm.y5; split at hf
    . rename_i es clock hg; split at hf
      . rename_i hc; obtain ⟨hak, hck⟩ := hc; obtain rfl := hk.dD hak; obtain ⟨eW, h1, h2, h3⟩ := TC hr hg; have hkr : xJ es eW := ⟨h2, fun i e e' he lT => (h3 i e e' he lT).1⟩
        have put : ∀ (es2 TF : List MapEntry) (c2 : Nat), es2.length = TF.length ->
            (∀ (i : Nat) (e e' : MapEntry), es2[i]? = some e -> TF[i]? = some e' -> e'.key = e.key /\ af e.key = true /\ e'.born = e.born /\ VR ρ S e.val e'.val) ->
            aO P B w0 ρ ρ S h (h.set b (.qA es2 c2)) w { w with heap := w.heap.setIfInBounds (ρ b).block (.map TF.toArray c2) } := fun es2 TF c2 hl hv =>
          aO.set hr hg rfl rfl rfl rfl rfl (by simp) (fun k hk => (zN h1).2 k hk) ⟨TF, (zN h1).1, hl, hv⟩
        split at hf
        . rename_i j hj; obtain ⟨a, a', h4, h5, h6⟩ := CG hkr hj w; split at hf
          . rename_i e he; split at hf
            . rename_i gA; simp only [Option.some.injEq] at hf; subst hf
              match a, a', h5 with
              | some (j1, v1), some (j2, v2), ⟨e1, m, e3, e4, e5, e6, e7, e8, e9⟩ =>
                simp only [Option.map_some, Option.some.injEq] at h6
                have q1 : m = j2 := by omega
                have q2 : m = j := by omega
                subst q1 q2; rw [e6] at he; injection he with he; subst he; have aqH := (h3 _ _ _ e6 e7).1; refine ⟨_, ?_, put (es.set m { e3 with key := k', val := x }) (eW.set m { e4 with key := k', val := x' }) clock (by simp [h2]) ?_⟩
                . unfold Instr.mapUpdate
                  have hg4 : ((eW.toArray[m]?).map (·.key)).getD k' = e3.key := by simp [e7, aqH]
                  simp only [Sem.run_bind, run_underlying hu, Result.andThen_ok, yE h1, sI hck, h4, hg4, Instr.keyThatStays, gA, if_true, Sem.run_pure, G6 _ h1]; congr 3; apply congrArg (fun z => Obj.map z clock); apply Array.toList_inj.1; refine List.ext_getElem? fun q => ?_; simp only [Array.toList_modify, List.getElem?_modify, List.getElem?_set]; have bX := (List.getElem?_eq_some_iff.1 e7).1; by_cases hq : m = q
                  . subst hq
                    have h9 : eW[m] = e4 := by
                      have := List.getElem?_eq_getElem bX; rw [e7] at this; injection this with this; exact this.symm
                    simp [bX, h9]
                  simp [hq]
                intro i e e' he lT; rw [List.getElem?_set] at he lT; split at he
                . rename_i hq; rw [if_pos hq] at lT; split at he
                  . split at lT
                    . injection he with he; injection lT with lT; subst he lT; exact ⟨rfl, hak, (h3 _ _ _ e6 e7).2.2.1, hx⟩
                    cases lT
                  cases he
                rename_i hq; rw [if_neg hq] at lT
                exact h3 i e e' he lT
              | none, none, _ => simp at h6
            cases hf
          cases hf
        . rename_i hj; obtain ⟨a, a', h4, h5, h6⟩ := CG hkr hj w; simp only [Option.some.injEq] at hf; subst hf
          match a, a', h5 with
          | some (j1, v1), some (j2, v2), _ => simp at h6
          | none, none, _ =>
            refine ⟨_, ?_, put (es ++ [{ key := k', val := x, born := clock }]) (eW ++ [{ key := k', val := x', born := clock }]) (clock + 1) (by simp [h2]) ?_⟩
            . unfold Instr.mapUpdate; simp only [Sem.run_bind, run_underlying hu, Result.andThen_ok, yE h1, sI hck, h4, G6 _ h1]; congr 4; simp
            intro i e e' he lT; rw [List.getElem?_append] at he lT; rw [<- h2] at lT; split at he
            . rename_i bX; rw [if_pos bX] at lT; exact h3 i e e' he lT
            rename_i bX; rw [if_neg bX] at lT
            cases hq : i - es.length with
            | zero =>
              rw [hq] at he lT; simp at he lT; subst he lT
              exact ⟨rfl, hak, rfl, hx⟩
            | succ q => rw [hq] at he; simp at he
        cases hf
      cases hf
    cases hf
  cases hf
theorem TG (hr : HR P ρ S B w0 h w) (t : TypeId) :
    p6 P B w0 ρ S h w (.map (some h.next)) (h.push (.qA [] 0)) ((Instr.makeMap t none).run P w) := by
  refine ⟨_, _, _, rfl, aO.push hr (.qA [] 0) (.map #[] 0) (.clean w.heap.size 0 0 (0)) rfl rfl ⟨[], heap_alloc_new w _, rfl, fun i e e' he => by simp at he⟩, ?_⟩; have := VR.map (ρ := ρ.put h.next (.clean w.heap.size 0 0 (0))) (S := Ext S h (h.push (.qA [] 0))) h.next (Ext.kD _); rw [Ren.eV] at this; exact this
theorem ac3 {t : TypeId} {x x' v : Value} (hr : HR P ρ S B w0 h w) (hx : VR ρ S x x') (hf : xS P t x h = some (v, h')) :
    p6 P B w0 ρ S h w v h' ((Instr.range t x').run P w) := by
  unfold xS at hf; split at hf
  . rename_i s hu; simp only [Option.some.injEq, Prod.mk.injEq] at hf; obtain ⟨rfl, rfl⟩ := hf; obtain rfl := hx.oR; refine ⟨ρ.put h.next (.clean w.heap.size 0 0 (0)), w.alloc (.stringIter s 0), .pointer (some ⟨w.heap.size, 0, none⟩), ?_, aO.push hr (.iter s 0) (.stringIter s 0) (.clean w.heap.size 0 0 (0)) rfl rfl ⟨heap_alloc_new w _, rfl⟩, ?_⟩
    . simp only [Instr.range, Sem.run_bind, run_underlying hu, Result.andThen_ok, Sem.run_pure]; rfl
    have := VR.ptr (ρ := ρ.put h.next (.clean w.heap.size 0 0 (0))) (S := Ext S h (h.push (.iter s 0))) h.next 0 (Ext.kD _); rw [Ren.eV] at this; exact this
  cases hf
theorem afF {ty : TypeId} {x x' v : Value} {N9 : Bool} (hr : HR P ρ S B w0 h w) (hx : VR ρ S x x') (hf : wF x N9 h = some (v, h')) :
    p6 P B w0 ρ S h w v h' ((Instr.next x' N9 ty).run P w) := by
  unfold wF at hf; split at hf
  . rename_i b; obtain ⟨hs, rfl⟩ := hx.pH; split at hf
    . rename_i s pos hg; obtain ⟨h1, h2⟩ := (hr.aB b _ hg).2
      have sW : (ρ b).at 0 = ⟨(ρ b).block, 0, none⟩ := by simp [Loc.at, h2]
      have fK : (getObj (ρ b).block).run P w = .ok (.stringIter s pos) w := by simp [getObj, Sem.run, h1]
      rw [sW]; simp only at hf; split at hf
      . rename_i bX; simp only [Option.some.injEq, Prod.mk.injEq] at hf; obtain ⟨rfl, rfl⟩ := hf
        have C8 : ∀ o', (setObj (ρ b).block o').run P w = .ok () { w with heap := w.heap.setIfInBounds (ρ b).block o' } := fun o' => by simp [setObj, Sem.run, h1]
        refine ⟨ρ, { w with heap := w.heap.setIfInBounds (ρ b).block (.stringIter s (pos + (Utf8.decode s pos).2)) }, _, ?_,
          aO.set hr hg rfl rfl rfl rfl rfl (by simp) (fun k hk => (zN h1).2 k hk) ⟨(zN h1).1, h2⟩, .lS rfl⟩
        simp only [Instr.next, Sem.run_bind, fK, Result.andThen_ok, bX, if_true, C8, Sem.run_pure, goInt]
      rename_i bX; simp only [Option.some.injEq, Prod.mk.injEq] at hf; obtain ⟨rfl, rfl⟩ := hf
      have : (Instr.next (.pointer (some ⟨(ρ b).block, 0, none⟩)) true ty).run P w = .ok (.tuple #[.bool false]) w := by
        simp only [Instr.next, Sem.run_bind, fK, Result.andThen_ok, bX, if_false, Sem.run_pure]
      rw [this]; exact p6.pure hr (.lS rfl)
    cases hf
  cases hf
end Go.Fs
namespace Go.Fs
open Go.RowKit (Below)
variable {P : Program} {ρ bG : Ren} {S S' : Nat -> Prop} {B : Nat} {w0 w w' w1 w2 : World} {h h' h1 h2 : Heap}
def Nx (P : Program) (B : Nat) (w0 : World) (ρ : Ren) (S : Nat -> Prop) (h : Heap) (w : World) (v : Value) (h' : Heap) (r : Result Next) : Prop :=
  ∃ bG w' v', (r = .ok (Next.value v') w' \/ (r = .ok .skip w' /\ v' = undef)) /\ aO P B w0 ρ bG S h h' w w' /\ VR bG (Ext S h h') v v'
theorem gB {s : Sem Value} {v : Value} (hv : p6 P B w0 ρ S h w v h' (s.run P w)) : Nx P B w0 ρ S h w v h' ((do pure (Next.value (<- s)) : Sem Next).run P w) := by
  obtain ⟨bG, w', v', h1, h2, h3⟩ := hv; exact ⟨bG, w', v', .inl (by simp [h1]), h2, h3⟩
theorem r9 {s : Sem Value} {v v' : Value} (hr : HR P ρ S B w0 h w) (h1 : s.run P w = .ok v' w) (hv : VR ρ S v v') : Nx P B w0 ρ S h w v h ((do pure (Next.value (<- s)) : Sem Next).run P w) :=
  gB (by rw [h1]; exact p6.pure hr hv)
theorem J9 {s : Sem Unit} (h1 : s.run P w = .ok () w') (m : aO P B w0 ρ ρ S h h' w w') : Nx P B w0 ρ S h w undef h' ((do s; pure .skip : Sem Next).run P w) :=
  ⟨ρ, w', undef, .inr ⟨by simp [h1], rfl⟩, m, VR.undef⟩
theorem eM {α : Type} {x : Option α} {h h' : Heap} {v : α} (e : (x.map fun v => (v, h)) = some (v, h')) : x = some v /\ h' = h := by
  obtain ⟨a, h1, h2⟩ := Option.map_eq_some_iff.1 e; simp only [Prod.mk.injEq] at h2; obtain ⟨rfl, rfl⟩ := h2; exact ⟨h1, rfl⟩
theorem qK {s : Sem Value} {v : Value} (hp : bU P s = some v) (w : World) : s.run P w = .ok v w /\ af v = true := by
  unfold bU at hp; obtain ⟨a, h1, h2⟩ := Option.bind_eq_some_iff.1 hp; obtain ⟨h3, h4⟩ := aL (x := some a) (c := af a) (v := v) (by cases ha : af a <;> simp_all); simp only [Option.some.injEq] at h4; subst h4; exact ⟨bZ h1 w, h3⟩
theorem VR.zO {f : FuncId} {a c : Array Value} {v' : Value} (hv : VR ρ S (.func (.func f) a c) v') : ∃ a' c', v' = .func (.func f) a' c' /\ LR ρ S a.toList a'.toList /\ LR ρ S c.toList c'.toList := by
  cases hv with
  | lit h => simp [dQ] at h
  | func f a a' c c' ha hA hc hC => exact ⟨a', c', rfl, ⟨by simpa using ha, by simpa using hA⟩, ⟨by simpa using hc, by simpa using hC⟩⟩
theorem VR.JA {l : Nat} {v' : Value} (hv : VR ρ S (.func (.yield l) #[] #[]) v') : S l /\ v' = .func (.yield (ρ l).block) #[] #[] := by
  cases hv with
  | lit h => simp [dQ] at h
  | yield l hs => exact ⟨hs, rfl⟩
theorem EF {op : BinOp} {t : TypeId} {x y : Operand} {a' b' : Value} {r : Bool} (he : (Op.equal t a' b').run P w = .ok false w)
    (hg : ∀ q, q = .eql \/ q = .neq -> eqGuard q t x y a' b' = pure ())
    (h1 : binOp .eql t a' b' = (do pure (.bool (<- Op.equal t a' b')))) (h2 : binOp .neq t a' b' = (do pure (.bool (!(<- Op.equal t a' b'))))) (cU : SV op = some r) :
    (do eqGuard op t x y a' b'; binOp op t a' b' : Sem Value).run P w = .ok (.bool r) w := by
  cases op <;> simp only [SV, Option.some.injEq, reduceCtorEq] at cU
  . subst cU; rw [hg _ (.inl rfl), h1]; simp [he]
  subst cU; rw [hg _ (.inr rfl), h2]; simp [he]
theorem akD {op : BinOp} {t : TypeId} {x y : Operand} {a b a' b' : Value} {r : Bool} (ha : VR ρ S a a') (hb : VR ρ S b b') (hf : E3 P op t a b = some r) (w : World) :
    (do eqGuard op t x y a' b'; binOp op t a' b' : Sem Value).run P w = .ok (.bool r) w := by
  unfold E3 at hf; split at hf
  . rename_i A n c; split at hf
    . rename_i e hu; obtain ⟨b0, o, rfl, hs⟩ := ha.J2; obtain ⟨A', c', rfl, _⟩ := hs.fZ; obtain rfl := hb.iG; refine EF ?_ (fun q hq => by rcases hq with rfl | rfl <;> rfl) rfl rfl hf; show (Op.equalIn 10000 t _ _).run P w = _; unfold Op.equalIn; simp only [Sem.run_bind, run_underlying hu, Result.andThen_ok, Sem.run_pure]
    cases hf
  . rename_i b0; split at hf
    . rename_i k e hu; obtain ⟨_, rfl⟩ := ha.y5; obtain rfl := hb.fY rfl; refine EF ?_ (fun q hq => by rcases hq with rfl | rfl <;> rfl) rfl rfl hf; show (Op.equalIn 10000 t _ _).run P w = _; unfold Op.equalIn; simp only [Sem.run_bind, run_underlying hu, Result.andThen_ok, Sem.run_pure]
    cases hf
  . rename_i f a1 a2; split at hf
    . rename_i p1 p2 p3 hu
      have kX : ∃ f' a1' a2', a' = .func f' a1' a2' := by
        cases ha with
        | lit h => simp [dQ] at h
        | func f a a' c c' ha hA hc hC => exact ⟨_, _, _, rfl⟩
        | yield l hs => exact ⟨_, _, _, rfl⟩
      obtain ⟨f', a1', a2', rfl⟩ := kX; obtain rfl := hb.fY rfl; refine EF ?_ (fun q hq => by rcases hq with rfl | rfl <;> rfl) rfl rfl hf; show (Op.equalIn 10000 t _ _).run P w = _; unfold Op.equalIn; simp only [Sem.run_bind, run_underlying hu, Result.andThen_ok, Sem.run_pure]
    cases hf
  cases hf
end Go.Fs
namespace Go.Fs
open Go.RowKit (Below)
variable {P : Program} {ρ bG : Ren} {S S' : Nat -> Prop} {B : Nat} {w0 w w' w1 w2 : World} {h h' h1 h2 : Heap}
theorem NB {argTypes : Array TypeId} {ty : TypeId} {x x' v : Value} (hx : VR ρ S x x') (hf : pD x = some v) : ∃ v', (Builtin.unsafeSliceData_ argTypes ty #[x']).run P w = .ok v' w /\ VR ρ S v v' := by
  unfold pD at hf; split at hf
  . obtain rfl := hx.iG; simp only [Option.some.injEq] at hf; subst hf; exact ⟨_, Lib.run_unsafeSliceData_nil _ _ _ _ _, .lit rfl⟩
  . rename_i b o n m; obtain ⟨A, c, rfl, hn, _, h0, hb⟩ := hx.fZ
    cases hz : Nat.beq n 0 with
    | true => rw [hz] at hf; cases hf
    | false =>
      rw [hz] at hf; simp only [cond_false, Option.some.injEq] at hf; subst hf; have HS := fP hz; have iQ : b ≠ 0 := fun e => HS (h0 e); obtain ⟨hs, rfl, _⟩ := hb iQ; exact ⟨_, Lib.run_unsafeSliceData_row _ _ _ _ _ _ (by omega), .ptr b o hs⟩
  cases hf
theorem wS : ∀ {cs cs' : List Value} {l : List UInt8}, LR ρ S cs cs' -> kV cs = some l -> cs' = l.map (fun x => Value.int .u8 x.toNat)
  | [], cs', l, hl, hb => by
    simp only [kV, Option.some.injEq] at hb; subst hb
    exact List.eq_nil_of_length_eq_zero hl.1.symm
  | v :: r, [], l, hl, _ => by have := hl.1; simp at this
  | v :: r, v' :: r', l, hl, hb => by
    unfold kV at hb; split at hb
    . rename_i he; cases he
    . rename_i n r0 he; simp only [List.cons.injEq] at he; obtain ⟨rfl, rfl⟩ := he; obtain ⟨hc, sX⟩ := aL hb; obtain ⟨l0, h1, rfl⟩ := Option.map_eq_some_iff.1 sX; have hv : VR ρ S (.int .u8 (.ofNat n)) v' := hl.2 0 (by simp); have hr : LR ρ S r r' := ⟨by have := hl.1; simpa using this, fun i hi => by have := hl.2 (i + 1) (by simp; omega); simpa using this⟩; have hn := iH hc; rw [hv.rE, wS hr h1]; simp only [List.map_cons, UInt8.toNat_ofNat', Nat.reducePow]; rw [Nat.mod_eq_of_lt hn]; rfl
    cases hb
theorem G7 : ∀ {cs : List Value} {l : List UInt8}, kV cs = some l -> l.length = cs.length
  | [], l, hb => by
    simp only [kV, Option.some.injEq] at hb
    subst hb; rfl
  | v :: r, l, hb => by
    unfold kV at hb; split at hb
    . rename_i he; cases he
    . rename_i n r0 he; simp only [List.cons.injEq] at he; obtain ⟨rfl, rfl⟩ := he; obtain ⟨hc, sX⟩ := aL hb; obtain ⟨l0, h1, rfl⟩ := Option.map_eq_some_iff.1 sX; rw [List.length_cons, List.length_cons, G7 h1]
    cases hb
theorem NC {argTypes : Array TypeId} {ty : TypeId} {p n p' n' v : Value} (hr : HR P ρ S B w0 h w) (hp : VR ρ S p p') (hn : VR ρ S n n') (hf : iA P argTypes p n h = some (v, h')) :
    p6 P B w0 ρ S h w v h' ((Builtin.unsafeString_ argTypes ty #[p', n']).run P w) := by
  unfold iA at hf; split at hf
  . rename_i pt it sW; have ha : argTypes = #[pt, it] := Array.toList_inj.1 sW; subst ha; split at hf
    . rename_i e hu; simp only [Option.some.injEq, Prod.mk.injEq] at hf; obtain ⟨rfl, rfl⟩ := hf; rw [hp.fY rfl, hn.rE, Lib.run_unsafeString_none]; exact p6.pure hr (.lit rfl)
    cases hf
  . rename_i pt it b n sW; have ha : argTypes = #[pt, it] := Array.toList_inj.1 sW; subst ha; split at hf
    . rename_i e e' cs more hu hg; obtain ⟨hc, cT⟩ := aL hf; obtain ⟨hc, hc4⟩ := aT hc; obtain ⟨hc, y8⟩ := aT hc; obtain ⟨vC, jZ⟩ := aT hc; obtain rfl := bD vC; have jZ := bD jZ; have y8 := eP y8; have hc4 := eP hc4; split at cT
      . rename_i l hl; simp only [Option.some.injEq, Prod.mk.injEq] at cT; obtain ⟨rfl, rfl⟩ := cT; obtain ⟨hsb, cur, k1, k2, k3, k4, k5, k6, k7⟩ := hr.aB b _ hg
        have hll : l.length = n + 1 := by rw [G7 hl, List.length_take]; omega
        have QB : LR ρ S (cs.take (n + 1)) (cur.take (n + 1)) := ⟨by rw [List.length_take, List.length_take]; omega, fun i hi => by
          rw [List.length_take] at hi; have := k7 i (by omega); rw [List.getD_eq_getElem?_getD, List.getD_eq_getElem?_getD, List.getElem?_take, if_pos (by omega), List.getElem?_take, if_pos (by omega), <- List.getD_eq_getElem?_getD, <- List.getD_eq_getElem?_getD]
          exact this⟩
        have aqI := wS QB hl
        have aqJ : p' = .pointer (some ⟨(ρ b).block, 0, none⟩) := by
          rw [hp.pH.2]; unfold Loc.at; rw [k2]
        have hni : n' = .int .i64 (l.length : Int) := by rw [hn.rE, hll]; rfl
        have oH : ∀ j x, l[j]? = some x -> w.cell? ((⟨(ρ b).block, 0, none⟩ : Addr).add j) = some (.int .u8 x.toNat) := fun j x hj => by
          obtain ⟨hj1, hj2⟩ := List.getElem?_eq_some_iff.1 hj
          have h3 : (cur.take (n + 1))[j]? = some (.int .u8 x.toNat) := by rw [aqI, List.getElem?_map, hj]; rfl
          rw [List.getElem?_take, if_pos (by omega)] at h3
          have h4 : ((⟨(ρ b).block, 0, none⟩ : Addr).add j) = ⟨(ρ b).block, j, none⟩ := by
            unfold Addr.add; by_cases hj0 : j = 0
            . subst hj0; rfl
            simp [hj0]
          rw [h4]; simp [World.cell?, k1, h3]
        have eD := Lib.run_unsafeString_row w pt it ty e' hu jZ (ρ b).block cur.length (by simp [World.shape?, k1]) l (by intro e0; rw [e0] at hll; simp at hll) (by omega) (by omega) oH; rw [aqJ, hni, eD]; refine ⟨ρ, _, _, rfl, ?_, .lit rfl⟩
        have hfz : (w.freeze ⟨(ρ b).block, 0, none⟩ l.length).os = w.os /\ (w.freeze ⟨(ρ b).block, 0, none⟩ l.length).tape = w.tape /\ (w.freeze ⟨(ρ b).block, 0, none⟩ l.length).output = w.output /\ (w.freeze ⟨(ρ b).block, 0, none⟩ l.length).heap.size = w.heap.size /\ ∀ k, k ≠ (ρ b).block -> (w.freeze ⟨(ρ b).block, 0, none⟩ l.length).heap[k]? = w.heap[k]? := by
          unfold World.freeze; rw [if_neg (by omega)]; refine ⟨rfl, rfl, rfl, by simp, fun k hk => ?_⟩; simp only [Array.getElem?_modify]; rw [if_neg (fun e0 => hk e0.symm)]
        obtain ⟨f1, f2, f3, f4, f5⟩ := hfz; exact aO.gone hr hg rfl f1 f2 f3 f4 f5 (by unfold World.freeze; split <;> exact Nat.le_refl _)
      cases cT
    cases hf
  cases hf
end Go.Fs
namespace Go.Fs
variable {P : Program} {ρ : Ren} {S : Nat -> Prop} {B : Nat} {w0 w : World} {h : Heap}
theorem fold_push : ∀ (l : List UInt8) (acc : ByteArray), (l.map fun x => ((x.toNat : Nat) : Int)).foldl (fun r n => r.push (UInt8.ofNat n.toNat)) acc = ⟨acc.data ++ l.toArray⟩
  | [], acc => by simp
  | x :: r, acc => by
    rw [List.map_cons, List.foldl_cons, fold_push r]; congr 1; show (acc.push (UInt8.ofNat ((x.toNat : Nat) : Int).toNat)).data ++ r.toArray = _; rw [Int.toNat_natCast, UInt8.ofNat_toNat]; show acc.data.push x ++ r.toArray = _; simp
theorem XU {s d : TypeId} {x x' v : Value} (hr : HR P ρ S B w0 h w) (hx : VR ρ S x x') (hf : gG P s d x h = some v) : (convert s d x').run P w = .ok v w /\ VR ρ S v v := by
  unfold gG at hf; split at hf
  . rename_i a n mk; split at hf
    . rename_i e hu; split at hf
      . rename_i he; split at hf
        . rename_i hd; split at hf
          . rename_i cs hc; obtain ⟨l, hl, rfl⟩ := Option.map_eq_some_iff.1 hf; refine ⟨?_, .lit rfl⟩; unfold cellsOf at hc; split at hc
            . rename_i hq; cases hq
            . rename_i b o k mk' hq; injection hq with hq1 xO hq3; injection hq1 with hq1; subst hq1 xO hq3; obtain ⟨A, c, rfl, hn, hm, h0, hb⟩ := hx.fZ; obtain ⟨_, jZ⟩ := aL hc
              have key : ∀ fQ : List Value, (loadCells A n).run P w = .ok fQ.toArray w -> LR ρ S cs fQ -> (convert s d (.slice (some A) n c)).run P w = .ok (.string ⟨l.toArray⟩) w := fun fQ k1 k2 => by
                have k3 := wS k2 hl; rw [run_convert_bytes_string w s d e _ _ _ hu he hd, run_bytesToString w _ n c (l.map fun x => ((x.toNat : Nat) : Int)) (by rw [k1, k3, List.map_map]; rfl), fold_push]; simp
              cases hz : Nat.beq (n * 1) 0 with
              | true =>
                rw [hz] at jZ; simp only [cond_true, Option.some.injEq] at jZ; subst jZ
                have HS : n = 0 := by have := bD hz; omega
                subst HS; refine key [] ?_ LR.nil
                simp [loadCells, loadCellsFrom, Sem.run_pure]
              | false =>
                rw [hz] at jZ; simp only [cond_false] at jZ; split at jZ
                . rename_i e' cs' own more hg; obtain ⟨hle, y8⟩ := aL jZ; have hle := eP hle; simp only [Option.some.injEq] at y8; subst y8; have mB := (hr.aB b _ hg).2; have iQ : b ≠ 0 := (hr.ids b (hr.aB b _ hg).1).2; obtain ⟨_, rfl, _⟩ := hb iQ; obtain ⟨fQ, k1, k2⟩ := nR (fun i hi => mB.cell hi) hle; rw [Nat.mul_one] at k1 k2; exact key fQ k1 (by simpa using k2)
                cases jZ
            . rename_i hq; cases hq
            cases hc
          cases hf
        cases hf
      cases hf
    cases hf
  cases hf
end Go.Fs
namespace Go.Fs
open Go.RowKit (Below)
variable {P : Program} {ρ bG : Ren} {S S' : Nat -> Prop} {B : Nat} {w0 w w' w1 w2 : World} {h h' h1 h2 : Heap}
theorem jF {s : Sem Value} {v : Value} (hr : HR P ρ S B w0 h w) (hx : ∃ v', s.run P w = .ok v' w /\ VR ρ S v v') : Nx P B w0 ρ S h w v h ((do pure (Next.value (<- s)) : Sem Next).run P w) := by
  obtain ⟨v', h1, h2⟩ := hx; exact r9 hr h1 h2
theorem JB {x o : Operand} (y : Option Operand) (h : y = some o) (hx : x = o) : x ∈ y.toArray.toList := by
  subst h hx; simp
theorem OI {f : Ieee.Format} {x : Nat} (h1 : f.infRung < x % f.signWeight) (h2 : f.binade <= f.infRung) : (f.read x).isNaN = true := by
  unfold Ieee.Format.read; dsimp only; rw [if_neg (by omega), if_neg (by omega), if_neg (by omega)]; rfl
theorem afG (t : Nat) : ((FloatKind.f32).decode ((t % 2) * 2 ^ 31 + 0x7f800000 + 1 + (t / 2) % (2 ^ 23 - 1))).isNaN = true := by
  refine OI (f := Ieee.single) ?_ (by decide)
  have e1 : Ieee.single.infRung = 2139095040 := by decide
  have e2 : Ieee.single.signWeight = 2147483648 := by decide
  rw [e1, e2]; have h1 : t / 2 % (2 ^ 23 - 1) < 2 ^ 23 - 1 := Nat.mod_lt _ (by decide); generalize t / 2 % (2 ^ 23 - 1) = r at h1 ⊢; rcases Nat.mod_two_eq_zero_or_one t with h | h <;> rw [h] <;> omega
theorem afH (t : Nat) : ((FloatKind.f64).decode ((t % 2) * 2 ^ 63 + 0x7ff0000000000000 + 1 + (t / 2) % (2 ^ 52 - 1))).isNaN = true := by
  refine OI (f := Ieee.double) ?_ (by decide)
  have e1 : Ieee.double.infRung = 9218868437227405312 := by decide
  have e2 : Ieee.double.signWeight = 9223372036854775808 := by decide
  rw [e1, e2]; have h1 : t / 2 % (2 ^ 52 - 1) < 2 ^ 52 - 1 := Nat.mod_lt _ (by decide); generalize t / 2 % (2 ^ 52 - 1) = r at h1 ⊢; rcases Nat.mod_two_eq_zero_or_one t with h | h <;> rw [h] <;> omega
theorem JC (k : FloatKind) (a b n : Nat) : (k.decode ((Question.nanBits k a b).cut n)).isNaN = true := by
  cases k
  . exact afG n
  exact afH n
theorem JD (k : FloatKind) (b n : Nat) : (k.decode ((Question.nanConv k b).cut n)).isNaN = true := by
  cases k
  . exact afG n
  exact afH n
theorem TH {s : Sem Value} {v v' : Value} (hr : HR P ρ S B w0 h w) (h1 : s.run P w = .ok v' { w with drawn := w.drawn + 1 }) (hv : VR ρ S v v') : Nx P B w0 ρ S h w v h ((do pure (Next.value (<- s)) : Sem Next).run P w) :=
  gB (by rw [h1]; exact ⟨ρ, _, v', rfl, aO.tX (n := w.drawn + 1) (aO.same (hr.drew _)), hv.mono fun _ hb => ⟨.inl hb, rfl⟩⟩)
theorem afI {op : BinOp} {t : TypeId} {x y : Operand} {a b v : Value} (hr : HR P ρ S B w0 h w) (hf : zI op a b = some v) : Nx P B w0 ρ S h w v h ((do pure (Next.value (<- (do eqGuard op t x y a b; binOp op t a b))) : Sem Next).run P w) := by
  unfold zI at hf; split at hf
  . rename_i k p k' q; obtain ⟨hc, hv⟩ := aL hf; obtain ⟨hk, hn⟩ := aT hc; obtain rfl := of_decide_eq_true hk; obtain rfl := Option.some.inj hv; refine TH hr (v' := .float k ((Question.nanBits k p q).cut (w.tape w.drawn (Question.nanBits k p q)))) ?_ (.nan k _ (JC k p q _)); have hq : (Question.nanBits k p q).forced = false := rfl; unfold IN at hn; split at hn
    all_goals first | (cases hn; done) | skip
    all_goals
      rw [Option.isNone_iff_eq_none] at hn; simp [eqGuard, binOp, Op.floatArith, hn, run_choose, hq]
  cases hf
theorem VR.uK {v v' : Value} {k : FloatKind} (hv : VR ρ S v v') (hk : uK v = some k) : ∃ b, v' = .float k b /\ (C2 v = true -> (k.decode b).isNaN = true) := by
  unfold Fs.uK at hk; split at hk
  . rename_i k0 b; obtain rfl := Option.some.inj hk; exact ⟨b, hv.fY rfl, fun e => by cases e⟩
  . rename_i k0; obtain rfl := Option.some.inj hk
    cases hv with
    | lit h => simp [dQ] at h
    | nan k b hb => exact ⟨b, rfl, fun _ => hb⟩
  cases hk
theorem XV {k : FloatKind} {a b : Nat} (h : (k.decode a).isNaN = true \/ (k.decode b).isNaN = true) : k.format.order a b = none := by
  unfold Ieee.Format.order; rcases h with h | h
  . have : (k.format.read a).isNaN = true := h; cases hd : k.format.read a <;> rw [hd] at this <;> first | (cases this; done) | rfl
  have : (k.format.read b).isNaN = true := h; cases hd : k.format.read b <;> rw [hd] at this <;> first | (cases this; done) | skip; cases k.format.read a <;> rfl
theorem afJ {op : BinOp} {t : TypeId} {x y : Operand} {a b a' b' : Value} {r : Bool} (ha : VR ρ S a a') (hb : VR ρ S b b') (hf : sA op a b = some r) (w : World) : (do eqGuard op t x y a' b'; binOp op t a' b' : Sem Value).run P w = .ok (.bool r) w := by
  unfold sA at hf; split at hf
  . rename_i k k' h1 h2; obtain ⟨hc, hv⟩ := aL hf; obtain ⟨hk, hn⟩ := aT hc; obtain rfl := of_decide_eq_true hk; obtain ⟨p, rfl, hp⟩ := ha.uK h1; obtain ⟨q, rfl, hq⟩ := hb.uK h2
    have ho : k.format.order p q = none := XV (by
      rcases Bool.or_eq_true_iff.1 hn with hn | hn
      . exact .inl (hp hn)
      exact .inr (hq hn))
    cases op <;> simp only [I3, Option.some.injEq, reduceCtorEq] at hv <;> subst hv <;> simp [eqGuard, binOp, Op.floatCmp, ho]
  cases hf
theorem afK {s d : TypeId} {a v : Value} (hr : HR P ρ S B w0 h w) (hf : tT P s d a = some v) : Nx P B w0 ρ S h w v h ((do pure (Next.value (<- convert s d a)) : Sem Next).run P w) := by
  unfold tT at hf; split at hf
  . rename_i k b u k' hu hd; obtain ⟨hc, hv⟩ := aL hf; obtain ⟨hk, hn⟩ := aT hc; obtain rfl := Option.some.inj hv
    have cA : ¬ k = k' := by simpa using hk
    refine TH hr (v' := .float k' ((Question.nanConv k' b).cut (w.tape w.drawn (Question.nanConv k' b)))) ?_ (.nan k' _ (JD k' b _)); have hq : (Question.nanConv k' b).forced = false := rfl
    cases he : k.decode b with
    | nan n f => cases u <;> simp [convert, run_underlying hu, run_underlying hd, Conv.floatToFloat, cA, he, run_choose, hq]
    | _ => rw [he] at hn; cases hn
  cases hf
theorem ac4 {call : FuncId -> List Value -> Heap -> Option (Value × Heap)} {yield : Nat -> List Value -> Heap -> Option (Value × Heap)} {o : Oper} {ev kM : Operand -> Value} {v : Value}
    (hr : HR P ρ S B w0 h w) (bI : ∀ x ∈ o.op.operands.toList, VR ρ S (ev x) (kM x)) (mO : ∀ c f, o.op = .call c -> c.callee ≠ .value f)
    (hf : bQ P call yield o ev h = some (v, h')) : Nx P B w0 ρ S h w v h' ((execOp kM o).run P w) := by
  unfold bQ at hf; unfold execOp
  cases cU : o.op with
  | move x =>
    simp only [cU, Op.operands, List.mem_cons, List.not_mem_nil, or_false, forall_eq] at hf bI ⊢; simp only [Option.some.injEq, Prod.mk.injEq] at hf; obtain ⟨rfl, rfl⟩ := hf
    exact ⟨ρ, w, _, .inl rfl, aO.same hr, bI.mono fun _ hb => ⟨.inl hb, rfl⟩⟩
  | assign x =>
    simp only [cU, Op.operands, List.mem_cons, List.not_mem_nil, or_false, forall_eq] at hf bI ⊢; simp only [Option.some.injEq, Prod.mk.injEq] at hf; obtain ⟨rfl, rfl⟩ := hf
    exact ⟨ρ, w, _, .inl rfl, aO.same hr, bI.mono fun _ hb => ⟨.inl hb, rfl⟩⟩
  | pick c a b =>
    simp only [cU, Op.operands, List.mem_cons, List.not_mem_nil, or_false, forall_eq_or_imp, forall_eq] at hf bI ⊢; obtain ⟨e1, e2, e3⟩ := bI; split at hf
    . rename_i hc; simp only [Option.some.injEq, Prod.mk.injEq] at hf; obtain ⟨rfl, rfl⟩ := hf; rw [hc] at e1; refine ⟨ρ, w, kM a, .inl ?_, aO.same hr, e2.mono fun _ hb => ⟨.inl hb, rfl⟩⟩; simp [e1.vB, asBool]
    . rename_i hc; simp only [Option.some.injEq, Prod.mk.injEq] at hf; obtain ⟨rfl, rfl⟩ := hf; rw [hc] at e1; refine ⟨ρ, w, kM b, .inl ?_, aO.same hr, e3.mono fun _ hb => ⟨.inl hb, rfl⟩⟩; simp [e1.vB, asBool]
    cases hf
  | alloc e =>
    simp only [cU] at hf ⊢; split at hf
    . rename_i z hz; obtain ⟨i, hi, hiz⟩ := Option.bind_eq_some_iff.1 hz; split at hf
      . rename_i haz; have := OD hr hf (.lS haz); refine gB ?_
        have he : (Instr.alloc e true (.tuple #[])).run P w = ((do pure (.pointer (some (<- newVar e z))) : Sem Value)).run P w := by
          simp only [Instr.alloc, Sem.run_bind, gH e i z hi hiz, Result.andThen_ok]
        rw [he]; exact this
      cases hf
    cases hf
  | box e x =>
    simp only [cU, Op.operands, List.mem_cons, List.not_mem_nil, or_false, forall_eq] at hf bI ⊢
    exact gB (OD hr hf bI)
  | build t parts =>
    simp only [cU] at hf ⊢; rw [cU] at bI; have afL : ∀ p ∈ parts.toList, VR ρ S (ev p.2) (kM p.2) := fun p hp => bI p.2 (by simp only [Op.operands]; exact List.mem_map_of_mem hp); obtain ⟨hc, cT⟩ := aL hf; obtain ⟨mP, hz⟩ := aT hc; obtain ⟨rQ, rfl⟩ := eM cT
    cases hz2 : (P.info? t).bind (·.zero) with
    | none => rw [hz2] at hz; cases hz
    | some z =>
      rw [hz2] at hz
      have N5 : z.cells.toList.all dQ = true := by simpa using hz
      exact jF hr (abY afL mP hz2 N5 rQ w)
  | buildSlice t len parts =>
    simp only [cU] at hf ⊢; rw [cU] at bI; have afL : ∀ p ∈ parts.toList, VR ρ S (ev p.2) (kM p.2) := fun p hp => bI p.2 (by simp only [Op.operands]; exact List.mem_map_of_mem hp)
    exact gB (J4 hr afL hf)
  | load t a =>
    simp only [cU, Op.operands, List.mem_cons, List.not_mem_nil, or_false, forall_eq] at hf bI ⊢; obtain ⟨hg, rfl⟩ := eM hf; clear hf; have hf := hg
    exact jF hr (J0 hr hf bI)
  | store t a x =>
    simp only [cU, Op.operands, List.mem_cons, List.not_mem_nil, or_false, forall_eq_or_imp, forall_eq] at hf bI ⊢; obtain ⟨h2, h3, h4⟩ := Option.map_eq_some_iff.1 hf; simp only [Prod.mk.injEq] at h4; obtain ⟨rfl, rfl⟩ := h4; obtain ⟨w', h5, h6⟩ := T4 hr h3 bI.1 bI.2
    exact J9 h5 h6
  | nilCheck x =>
    simp only [cU, Op.operands, List.mem_cons, List.not_mem_nil, or_false, forall_eq] at hf bI ⊢; split at hf
    . rename_i a hx; simp only [Option.some.injEq, Prod.mk.injEq] at hf; obtain ⟨rfl, rfl⟩ := hf; rw [hx] at bI; obtain ⟨b0, o0, rfl, hs, he⟩ := bI.J1; rw [he]; exact ⟨ρ, w, _, .inl rfl, aO.same hr, (VR.ptr b0 o0 hs).mono fun _ hb => ⟨.inl hb, rfl⟩⟩
    . rename_i f a b hx; simp only [Option.some.injEq, Prod.mk.injEq] at hf; obtain ⟨rfl, rfl⟩ := hf; rw [hx] at bI; obtain ⟨a', c', he, _⟩ := bI.zO; rw [he] at bI ⊢; exact ⟨ρ, w, _, .inl rfl, aO.same hr, bI.mono fun _ hb => ⟨.inl hb, rfl⟩⟩
    cases hf
  | binOp op t x y yt =>
    simp only [cU, Op.operands, List.mem_cons, List.not_mem_nil, or_false, forall_eq_or_imp, forall_eq] at hf bI ⊢; obtain ⟨e1, e2⟩ := bI; split at hf
    . rename_i lV; obtain ⟨a1, a2⟩ := aT lV; obtain ⟨hg, rfl⟩ := eM hf; clear hf; have hf := hg; rw [e1.dD a1, e2.dD a2]
      cases hp : bU P (do eqGuard op t x y (ev x) (ev y); binOp op t (ev x) (ev y)) with
      | some u =>
        rw [hp] at hf; obtain rfl := Option.some.inj hf; obtain ⟨h1, h2⟩ := qK hp w
        exact r9 hr h1 (.lS h2)
      | none =>
        rw [hp] at hf; exact afI hr hf
    obtain ⟨r, h3, h4⟩ := Option.map_eq_some_iff.1 hf; simp only [Prod.mk.injEq] at h4; obtain ⟨rfl, rfl⟩ := h4
    cases hp : E3 P op t (ev x) (ev y) with
    | some u =>
      rw [hp] at h3; obtain rfl := Option.some.inj h3
      exact r9 hr (akD e1 e2 hp w) (.lS rfl)
    | none =>
      rw [hp] at h3
      exact r9 hr (afJ e1 e2 h3 w) (.lS rfl)
  | unOp op t x =>
    simp only [cU, Op.operands, List.mem_cons, List.not_mem_nil, or_false, forall_eq] at hf bI ⊢; split at hf
    . rename_i lV; obtain ⟨hg, rfl⟩ := eM hf; clear hf; have hf := hg; rw [bI.dD lV]; obtain ⟨h1, h2⟩ := qK hf w; exact r9 hr h1 (.lS h2)
    cases hf
  | convert s d x =>
    simp only [cU, Op.operands, List.mem_cons, List.not_mem_nil, or_false, forall_eq] at hf bI ⊢; split at hf
    . rename_i lV; obtain ⟨hg, rfl⟩ := eM hf; clear hf; have hf := hg; rw [bI.dD lV]
      cases hp : bU P (convert s d (ev x)) with
      | some u =>
        rw [hp] at hf; obtain rfl := Option.some.inj hf; obtain ⟨h1, h2⟩ := qK hp w
        exact r9 hr h1 (.lS h2)
      | none =>
        rw [hp] at hf; exact afK hr hf
    obtain ⟨hg, rfl⟩ := eM hf; obtain ⟨h1, h2⟩ := XU hr bI hg
    exact r9 hr h1 h2
  | makeFunc fn first captured =>
    simp only [cU] at hf ⊢; rw [cU] at bI; simp only [Op.operands, Array.toList_append, List.mem_append] at bI
    cases fn with
    | func f =>
      simp only [Option.some.injEq, Prod.mk.injEq] at hf; obtain ⟨rfl, rfl⟩ := hf
      have l1 : LR ρ S (first.map ev).toList (first.map kM).toList := by
        simp only [Array.toList_map]; exact LR.map _ _ _ fun x hx => bI x (.inl hx)
      have l2 : LR ρ S (captured.map ev).toList (captured.map kM).toList := by
        simp only [Array.toList_map]; exact LR.map _ _ _ fun x hx => bI x (.inr hx)
      have hv : VR ρ S (.func (.func f) (first.map ev) (captured.map ev)) (.func (.func f) (first.map kM) (captured.map kM)) :=
        .func f _ _ _ _ (by simp) (by simpa using l1.2) (by simp) (by simpa using l2.2)
      exact r9 hr rfl hv
    | _ => cases hf
  | makeMap t r =>
    simp only [cU] at hf ⊢
    cases r with
    | none =>
      simp only [Option.some.injEq, Prod.mk.injEq] at hf; obtain ⟨rfl, rfl⟩ := hf
      exact gB (TG hr t)
    | some r => cases hf
  | makeSlice t l c =>
    simp only [cU, Op.operands, List.mem_cons, List.not_mem_nil, or_false, forall_eq_or_imp, forall_eq] at hf bI ⊢
    exact gB (N7 hr bI.1 bI.2 hf)
  | slice t x lo hi mx =>
    simp only [cU] at hf ⊢; rw [cU] at bI; simp only [Op.operands, Array.toList_append, List.mem_append] at bI; obtain ⟨hg, rfl⟩ := eM hf; clear hf; have hf := hg; refine jF hr (ac1 hr (bI x (.inl (.inl (.inl (by simp))))) (OR.of_map fun o ho => ?_) (OR.of_map fun o ho => ?_) (OR.of_map fun o ho => ?_) hf)
    . exact bI o (.inl (.inl (.inr (JB lo ho rfl))))
    . exact bI o (.inl (.inr (JB hi ho rfl)))
    exact bI o (.inr (JB mx ho rfl))
  | fieldAddr s x f =>
    simp only [cU, Op.operands, List.mem_cons, List.not_mem_nil, or_false, forall_eq] at hf bI ⊢; obtain ⟨hg, rfl⟩ := eM hf; clear hf; have hf := hg
    exact jF hr (T7 bI hf w)
  | field s x f =>
    simp only [cU, Op.operands, List.mem_cons, List.not_mem_nil, or_false, forall_eq] at hf bI ⊢; obtain ⟨hg, rfl⟩ := eM hf; clear hf; have hf := hg
    exact jF hr (abZ bI hf w)
  | indexAddr s x ix =>
    simp only [cU, Op.operands, List.mem_cons, List.not_mem_nil, or_false, forall_eq_or_imp, forall_eq] at hf bI ⊢; split at hf
    . rename_i lV; obtain ⟨hg, rfl⟩ := eM hf; clear hf; have hf := hg; rw [bI.2.dD lV]; exact jF hr (T8 bI.1 hf w)
    cases hf
  | index s x ix =>
    simp only [cU, Op.operands, List.mem_cons, List.not_mem_nil, or_false, forall_eq_or_imp, forall_eq] at hf bI ⊢; split at hf
    . rename_i lV; obtain ⟨hg, rfl⟩ := eM hf; clear hf; have hf := hg; rw [bI.2.dD lV]; exact jF hr (ac0 bI.1 hf w)
    cases hf
  | lookup s x ix ok =>
    simp only [cU, Op.operands, List.mem_cons, List.not_mem_nil, or_false, forall_eq_or_imp, forall_eq] at hf bI ⊢; obtain ⟨hg, rfl⟩ := eM hf; clear hf; have hf := hg
    exact jF hr (XT hr bI.1 bI.2 hf)
  | mapUpdate t m k x =>
    simp only [cU, Op.operands, List.mem_cons, List.not_mem_nil, or_false, forall_eq_or_imp, forall_eq] at hf bI ⊢; obtain ⟨h2, h3, h4⟩ := Option.map_eq_some_iff.1 hf; simp only [Prod.mk.injEq] at h4; obtain ⟨rfl, rfl⟩ := h4; obtain ⟨w', h5, h6⟩ := AP hr bI.1 bI.2.1 bI.2.2 h3
    exact J9 h5 h6
  | insert t m k x =>
    simp only [cU, Op.operands, List.mem_cons, List.not_mem_nil, or_false, forall_eq_or_imp, forall_eq] at hf bI ⊢; obtain ⟨h2, h3, h4⟩ := Option.map_eq_some_iff.1 hf; simp only [Prod.mk.injEq] at h4; obtain ⟨rfl, rfl⟩ := h4; obtain ⟨w', h5, h6⟩ := AP hr bI.1 bI.2.1 bI.2.2 h3
    exact J9 h5 h6
  | range t x =>
    simp only [cU, Op.operands, List.mem_cons, List.not_mem_nil, or_false, forall_eq] at hf bI ⊢
    exact gB (ac3 hr bI hf)
  | next it s =>
    simp only [cU, Op.operands, List.mem_cons, List.not_mem_nil, or_false, forall_eq] at hf bI ⊢
    exact gB (afF hr bI hf)
  | extract t ix =>
    simp only [cU, Op.operands, List.mem_cons, List.not_mem_nil, or_false, forall_eq] at hf bI ⊢
    cases hj : tS (ev t) with
    | true => rw [hj] at hf; cases hf
    | false =>
      rw [hj] at hf; simp only [cond_false] at hf; obtain ⟨hg, rfl⟩ := eM hf; clear hf; have hf := hg
      exact jF hr (T6 bI (abV hj) hf w)
  | call c =>
    simp only [cU] at hf ⊢; rw [cU] at bI; simp only [Op.operands, Call.operands, Array.toList_append, List.mem_append] at bI
    cases hc : c.callee with
    | value f => exact absurd hc (mO c f cU)
    | invoke r n => rw [hc] at hf; cases hf
    | builtin b =>
      rw [hc] at hf bI; simp only [List.not_mem_nil, false_or] at hf bI
      have G5 : ∀ w, (resolve kM c o.type).run P w = .ok { target := .builtin b c.argTypes o.type (c.args.map fun | .const _ => true | _ => false), args := c.args.map kM } w := fun w => by
        unfold resolve; rw [hc]; rfl
      have eD : ((do let d <- resolve kM c o.type; invoke d.target d.args : Sem Next)).run P w = (builtin b c.argTypes o.type (c.args.map fun | .const _ => true | _ => false) (c.args.map kM)).run P w := by
        simp only [Sem.run_bind, G5, Result.andThen_ok]; rfl
      rw [eD]
      have hl : LR ρ S (c.args.toList.map ev) (c.args.map kM).toList := by
        rw [Array.toList_map]; exact LR.map _ _ _ fun x hx => bI x hx
      have two : ∀ a b, c.args.toList.map ev = [a, b] -> ∃ a' b', c.args.map kM = #[a', b'] /\ VR ρ S a a' /\ VR ρ S b b' := fun a b he => by
        rw [he] at hl; have h1 := hl.1
        match hm : (c.args.map kM).toList, h1 with
        | [a', b'], _ =>
          rw [hm] at hl; exact ⟨a', b', Array.toList_inj.1 hm, hl.2 0 (by simp), hl.2 1 (by simp)⟩
      have one : ∀ a, c.args.toList.map ev = [a] -> ∃ a', c.args.map kM = #[a'] /\ VR ρ S a a' := fun a he => by
        rw [he] at hl; have h1 := hl.1
        match hm : (c.args.map kM).toList, h1 with
        | [a'], _ =>
          rw [hm] at hl; exact ⟨a', Array.toList_inj.1 hm, hl.2 0 (by simp)⟩
      unfold wD at hf; split at hf
      . rename_i s x he; obtain ⟨s', x', h1, h2, h3⟩ := two _ _ he; rw [h1]; exact gB (XS hr h2 h3 hf)
      . rename_i s x he; obtain ⟨s', x', h1, h2, h3⟩ := two _ _ he; rw [h1]; exact gB (af9 hr h2 h3 hf)
      . rename_i x he; obtain ⟨x', h1, h2⟩ := one _ he; rw [h1]
        cases sE : C1 P c.argTypes x h with
        | none => rw [sE] at hf; cases hf
        | some wT =>
          rw [sE] at hf; simp only [Option.map_some, Option.some.injEq, Prod.mk.injEq] at hf; obtain ⟨rfl, rfl⟩ := hf; exact gB (ac2 hr h2 sE)
      . rename_i x he; obtain ⟨x', h1, h2⟩ := one _ he; rw [h1]; obtain ⟨hg, rfl⟩ := eM hf; clear hf; have hf := hg; exact jF hr (akB hr h2 hf)
      . rename_i x he; obtain ⟨x', h1, h2⟩ := one _ he; rw [h1]; obtain ⟨hg, rfl⟩ := eM hf; clear hf; have hf := hg; exact jF hr (akC hr h2 hf)
      . rename_i x he; obtain ⟨x', h1, h2⟩ := one _ he; rw [h1]; obtain ⟨hg, rfl⟩ := eM hf; clear hf; have hf := hg; exact jF hr (NB h2 hf)
      . rename_i p n he; obtain ⟨p', n', h1, h2, h3⟩ := two _ _ he; rw [h1]; exact gB (NC hr h2 h3 hf)
      . split at hf
        . rename_i lV; obtain ⟨hg, rfl⟩ := eM hf; clear hf; have hf := hg; have he : c.args.map kM = (c.args.toList.map ev).toArray := Array.toList_inj.1 (hl.dD lV); rw [he]; obtain ⟨h1, h2⟩ := qK hf w; exact r9 hr h1 (.lS h2)
        cases hf
      . split at hf
        . rename_i lV; obtain ⟨hg, rfl⟩ := eM hf; clear hf; have hf := hg; have he : c.args.map kM = (c.args.toList.map ev).toArray := Array.toList_inj.1 (hl.dD lV); rw [he]; obtain ⟨h1, h2⟩ := qK hf w; exact r9 hr h1 (.lS h2)
        cases hf
      cases hf
  | _ => simp only [cU] at hf; cases hf
end Go.Fs
namespace Go.Fs
variable {P : Program} {ρ : Ren} {S : Nat -> Prop} {B : Nat} {w0 w : World} {h : Heap}
theorem XW {s d e : TypeId} {b n m : Nat} {e' : TypeId} {cs : List Value} {more : Bool} {x' : Value} {l : List UInt8} (hr : HR P ρ S B w0 h w) (hx : VR ρ S (.slice (some ⟨b, 0, none⟩) n m) x') (hu : P.underlying s = some (.slice e)) (he : P.underlying e = some (.int .u8)) (hd : P.underlying d = some .string)
    (hg : h.get b = some (.row e' cs true more)) (hn : n <= cs.length) (hl : kV (cs.take n) = some l) : (convert s d x').run P w = .ok (.string ⟨l.toArray⟩) w := by
  obtain ⟨A, c, rfl, hnc, _, _, wP⟩ := hx.fZ; have iQ : b ≠ 0 := (hr.ids b (hr.aB b _ hg).1).2; obtain ⟨_, rfl, _⟩ := wP iQ; obtain ⟨_, cur, h1, h2, h3, h4, h5, h6, h7⟩ := hr.aB b _ hg
  have hc : ∀ i, i < cs.length -> ∃ v, w.cell? ((ρ b).at i) = some v /\ VR ρ S (cs.getD i undef) v := fun i hi => ⟨cur.getD i undef, by
    have : i < cur.length := by omega
    simp [World.cell?, Loc.at, h1, h2, List.getD, this], h7 i hi⟩
  obtain ⟨vs, k1, k2⟩ := nR hc (o := 0) (n := n) (by omega); rw [List.drop_zero] at k2; have k3 := wS k2 hl; rw [run_convert_bytes_string w s d e _ _ _ hu he hd, run_bytesToString w _ n c (l.map fun x => ((x.toNat : Nat) : Int)) (by rw [k1, k3, List.map_map]; rfl), fold_push]; simp
end Go.Fs
namespace Go.Fs
open Go.RowKit (Below)
variable {P : Program} {ρ bG : Ren} {S S' : Nat -> Prop} {B : Nat} {w0 w w' w1 w2 : World} {h h' h1 h2 : Heap}
def lE (r : Option Nat) : Fence := { Fence.wide with round := r }
def xK (P : Program) (B : Nat) (w0 : World) (ρ : Ren) (S : Nat -> Prop) (h : Heap) (w : World) (v : Value) (h' : Heap) : Ending -> World -> Prop
  | .returned v', w' => ∃ bG, aO P B w0 ρ bG S h h' w w' /\ VR bG (Ext S h h') v v'
  | _, _ => False
def Enters (P : Program) (f : FuncId) : Prop := ∃ fn, P.funcs[f]? = some fn /\ fn.body.isNone = false /\ (fn.name == "runtime.NumGoroutine") = false
def cB (P : Program) (B : Nat) (w0 : World) (call : FuncId -> List Value -> Heap -> Option (Value × Heap)) : Prop :=
  ∀ f args h v h', call f args h = some (v, h') -> Enters P f /\ ∀ ρ S w args', HR P ρ S B w0 h w -> LR ρ S args args' -> ∀ n, CallsIn Fence.wide n P f args'.toArray w (xK P B w0 ρ S h w v h')
def lF (P : Program) (B : Nat) (w0 : World) (call : FuncId -> List Value -> Heap -> Option (Value × Heap)) : Prop :=
  ∀ f args h v h', call f args h = some (v, h') -> (Enters P f /\ ∀ ρ S w args', HR P ρ S B w0 h w -> LR ρ S args args' -> ∀ n, CallsIn Fence.wide n P f args'.toArray w (xK P B w0 ρ S h w v h')) \/
    ∀ ρ S w args', HR P ρ S B w0 h w -> LR ρ S args args' -> ∃ w' v', (callFunc f args'.toArray).run P w = .ok (.value v') w' /\ xK P B w0 ρ S h w v h' (.returned v') w'
def fT (P : Program) (B : Nat) (w0 : World) (yield : Nat -> List Value -> Heap -> Option (Value × Heap)) : Prop :=
  ∀ l args h v h', yield l args h = some (v, h') -> ∀ ρ S w args', HR P ρ S B w0 h w -> LR ρ S args args' -> S l -> ∃ f tmps assign body,
    (Instr.yield (ρ l).block args'.toArray).run P w = .ok (.round (ρ l).block f tmps assign body) w /\ ∀ n, RoundIn Fence.wide n P (ρ l).block f tmps assign body w (xK P B w0 ρ S h w v h')
theorem uP {f : FuncId} (hf : Enters P f) (args : Array Value) (w : World) : (callFunc f args).run P w = .ok (.enter f args) w := by
  obtain ⟨fn, h1, h2, h3⟩ := hf; unfold callFunc; simp only [Sem.run_bind, run_program, Result.andThen_ok, h1, h3, h2, Bool.false_eq_true, if_false, Sem.run_pure]
theorem oS {r : Option Nat} {o : Oper} {a : Act} : ∀ f, o.about P w a.eval = some f -> (lE r).fn f := fun _ _ => trivial
theorem semAt_eq {call : FuncId -> List Value -> Heap -> Option (Value × Heap)} {yield : Nat -> List Value -> Heap -> Option (Value × Heap)} {o : Oper} {ev kM : Operand -> Value} {r : Option Nat} {x : Value × Heap}
    (hf : bQ P call yield o ev h = some x) : o.semAt r kM = execOp kM o := by
  unfold Oper.semAt; unfold bQ at hf
  cases cU : o.op with
  | defer c => rw [cU] at hf; cases hf
  | _ => cases r <;> rfl
theorem JE {call : FuncId -> List Value -> Heap -> Option (Value × Heap)} {yield : Nat -> List Value -> Heap -> Option (Value × Heap)} (gX : lF P B w0 call) (p7 : fT P B w0 yield)
    {o : Oper} {ev : Operand -> Value} {a : Act} {v : Value} {r : Option Nat} {n : Nat} {next : Act -> World -> Prop} {Q : Exit -> Act -> World -> Prop}
    (hr : HR P ρ S B w0 h w) (bI : ∀ x ∈ o.op.operands.toList, VR ρ S (ev x) (a.eval x)) (hf : bQ P call yield o ev h = some (v, h'))
    (k : ∀ bG w' v', aO P B w0 ρ bG S h h' w w' -> VR bG (Ext S h h') v v' -> next (a.put o.dst v') w') : o.wpIn (lE r) n P a w next Q := by
  refine ⟨oS, ?_⟩; rw [show (lE r).round = r from rfl, semAt_eq hf]; by_cases mO : ∀ c f, o.op = .call c -> c.callee ≠ .value f
  . obtain ⟨bG, w', v', h1, h2, h3⟩ := ac4 hr bI mO hf; have := k bG w' v' h2 h3; rcases h1 with h1 | ⟨h1, rfl⟩
    . rw [h1]; exact this
    rw [h1]; exact this
  have aqK : ∃ c f, o.op = .call c /\ c.callee = .value f := Classical.byContradiction fun hx => mO fun c f h1 h2 => hx ⟨c, f, h1, h2⟩; obtain ⟨c, f, cU, hc⟩ := aqK; unfold bQ at hf; rw [cU] at hf bI; simp only [hc] at hf; simp only [Op.operands, Call.operands, hc, Array.toList_append, List.mem_append, List.mem_cons, List.not_mem_nil, or_false] at bI
  have lW : LR ρ S (c.args.toList.map ev) (c.args.map a.eval).toList := by
    rw [Array.toList_map]; exact LR.map _ _ _ fun x hx => bI x (.inr hx)
  have hfv := bI f (.inl rfl)
  have eD : ∀ d : Deferred, (Deferred.ofValue (a.eval f) (c.args.map a.eval)).run P w = .ok d w -> (execOp a.eval o).run P w = (invoke d.target d.args).run P w := fun d hd => by
    unfold execOp; rw [cU]; simp only [Sem.run_bind]
    have : (resolve a.eval c o.type).run P w = .ok d w := by
      unfold resolve; rw [hc]; exact hd
    rw [this]; rfl
  have fin : ∀ e w', xK P B w0 ρ S h w v h' e w' -> (match e, w' with
      | .returned v, w'' => next (a.put o.dst v) w''
      | .panicked chain, w'' => Q (.panic chain) a w''
      | .outgrown, _ => LetsOut Q) := fun e w' he => by
    cases e with
    | returned v' => obtain ⟨bG, h1, h2⟩ := he; exact k bG w' v' h1 h2
    | panicked c => exact he.elim
    | outgrown => exact he.elim
  split at hf
  . rename_i g first captured afM; rw [afM] at hfv; obtain ⟨f1, c1, hef, qJ, iR⟩ := hfv.zO; rw [eD { target := .fn (.func g) c1, args := f1 ++ c.args.map a.eval } (by rw [hef]; rfl)]; rcases gX _ _ _ _ _ hf with ⟨afN, E8⟩ | aqL
    case inr =>
      obtain ⟨w', v', e1, e2⟩ := aqL ρ S w ((f1 ++ c.args.map a.eval) ++ c1).toList hr (by simpa using (qJ.append lW).append iR); have hinv : (invoke (.fn (.func g) c1) (f1 ++ c.args.map a.eval)).run P w = .ok (.value v') w' := e1; rw [hinv]; exact fin (.returned v') w' e2
    have hinv : (invoke (.fn (.func g) c1) (f1 ++ c.args.map a.eval)).run P w = .ok (.enter g ((f1 ++ c.args.map a.eval) ++ c1)) w := uP afN _ w; rw [hinv]; refine ⟨fun hd => (by cases hd), ?_⟩; have h3 := E8 ρ S w ((f1 ++ c.args.map a.eval) ++ c1).toList hr (by simpa using (qJ.append lW).append iR) (n - 1); have h4 : CallsIn (lE r) (n - 1) P g ((f1 ++ c.args.map a.eval) ++ c1) w (xK P B w0 ρ S h w v h') := h3; exact h4.mono fin
  . rename_i l afM; have anG : ev f = .func (.yield l) #[] #[] := afM; rw [anG] at hfv; obtain ⟨hs, hef⟩ := hfv.JA; obtain ⟨fn, tmps, assign, body, h3, h4⟩ := p7 _ _ _ _ _ hf ρ S w _ hr lW hs; rw [eD { target := .fn (.yield (ρ l).block) #[], args := #[] ++ c.args.map a.eval } (by rw [hef]; rfl)]
    have hinv : (invoke (.fn (.yield (ρ l).block) #[]) (#[] ++ c.args.map a.eval)).run P w = .ok (.round (ρ l).block fn tmps assign body) w := by
      have h5 : (c.args.map a.eval).toList.toArray = #[] ++ c.args.map a.eval := by rw [Array.toArray_toList]; simp
      rw [h5] at h3; exact h3
    rw [hinv]; refine ⟨fun hd => (by cases hd), ?_⟩; have h6 : RoundIn (lE r) (n - 1) P (ρ l).block fn tmps assign body w (xK P B w0 ρ S h w v h') := h4 (n - 1); exact h6.mono fin
  cases hf
theorem ac5 {s e : TypeId} {b n : Nat} {e' : TypeId} {cs : List Value} {x' : Value} (hr : HR P ρ S B w0 h w) (hx : VR ρ S (.slice (some ⟨b, 0, none⟩) n 0) x') (hu : P.underlying s = some (.slice e)) (he : P.underlying e = some (.int .u8)) (hg : h.get b = some (.row e' cs true false)) :
    p6 P B w0 ρ S h w (.slice (some ⟨h.next, 0, none⟩) n 0) ((h.drop b).push (.row e' cs true false)) ((convert s s x').run P w) := by
  obtain ⟨A, c, rfl, hnc, _, _, wP⟩ := hx.fZ; have iQ : b ≠ 0 := (hr.ids b (hr.aB b _ hg).1).2; obtain ⟨hS, rfl, nT⟩ := wP iQ; have nT := nT rfl; obtain ⟨_, cur, h1, h2, h3, h4, h5, h6, h7⟩ := hr.aB b _ hg
  have sW : (ρ b).at 0 = ⟨(ρ b).block, 0, none⟩ := by unfold Loc.at; rw [h2]
  have hsh : w.shape? (ρ b).block = some (e', cur.length) := by simp [World.shape?, h1]
  let f : Nat × Nat := if (ρ b).fz.1 == (ρ b).fz.2 then (cur.length, cur.length + 1) else (min (ρ b).fz.1 cur.length, max (ρ b).fz.2 (cur.length + 1))
  have hf : f.1 = f.2 \/ cur.length <= f.1 := by
    right; show cur.length <= (if (ρ b).fz.1 == (ρ b).fz.2 then (cur.length, cur.length + 1) else (min (ρ b).fz.1 cur.length, max (ρ b).fz.2 (cur.length + 1))).1; have := (ρ b).hfz; split
    . exact Nat.le_refl _
    rename_i cA
    have cA : ¬ (ρ b).fz.1 = (ρ b).fz.2 := by simpa using cA
    show cur.length <= min (ρ b).fz.1 cur.length; omega
  have hw : ∀ k : Nat, (w.freeze ⟨(ρ b).block, cur.length, none⟩ 1).heap[k]? = if k = (ρ b).block then some (.cells cur.toArray e' f) else w.heap[k]? := fun k => by
    unfold World.freeze; rw [if_neg (by decide)]; simp only [Array.getElem?_modify]; by_cases hk : k = (ρ b).block
    . subst hk; rw [if_pos rfl, if_pos rfl, h1]; rfl
    rw [if_neg (fun e0 => hk e0.symm), if_neg hk]
  refine ⟨ρ.put h.next ⟨(ρ b).block, 0, cur.length, P.cellsOf e', f, hf⟩, w.freeze ⟨(ρ b).block, cur.length, none⟩ 1, .slice (some ⟨(ρ b).block, 0, none⟩) n c, ?_, ?_, ?_⟩
  . rw [sW]; simp [convert, run_underlying hu, run_underlying he, markStringish, hsh]
  . refine aO.replace hr hg rfl rfl ⟨(ρ b).block, 0, cur.length, P.cellsOf e', f, hf⟩ (.inl rfl) (hr.base b _ hg rfl) ?_ ?_ ?_ ?_ (fun k _ hk => by rw [hw, if_neg hk]) ⟨cur, by rw [hw]; exact if_pos rfl, rfl, rfl, rfl, h5, h6, fun i hi => (h7 i hi).mono (hr.r7 _ (.row e' cs true false))⟩ ?_
    all_goals (unfold World.freeze; rw [if_neg (by decide)])
    . simp
    exact Nat.le_refl _
  refine oJ hr.pos n c ⟨(ρ b).block, 0, cur.length, P.cellsOf e', f, hf⟩ rfl hnc ?_ _ (Ext.kD (.row e' cs true false)); show c * P.cellsOf e' = cur.length; rw [<- h4, <- h3]; omega
theorem ac6 
    {o : Oper} {ev : Operand -> Value} {a : Act} {v : Value} {r : Option Nat} {n : Nat} {next : Act -> World -> Prop} {Q : Exit -> Act -> World -> Prop}
    (hr : HR P ρ S B w0 h w) (bI : ∀ x ∈ o.op.operands.toList, VR ρ S (ev x) (a.eval x)) (hf : uY P o ev h = some (v, h'))
    (k : ∀ bG w' v', aO P B w0 ρ bG S h h' w w' -> VR bG (Ext S h h') v v' -> next (a.put o.dst v') w') : o.wpIn (lE r) n P a w next Q := by
  unfold uY at hf; split at hf
  . rename_i s d x cU; split at hf
    . rename_i b m TI; split at hf
      . rename_i e hu; split at hf
        . rename_i he; split at hf
          . rename_i e' cs hg; obtain ⟨hc, hq⟩ := aL hf; obtain ⟨hc, _⟩ := aT hc; obtain ⟨hc, _⟩ := aT hc; obtain rfl := bD hc; have hq := Prod.mk.inj (Option.some.inj hq); obtain ⟨rfl, rfl⟩ := hq; refine ⟨oS, ?_⟩; rw [show (lE r).round = r from rfl, show o.semAt r a.eval = execOp a.eval o by unfold Oper.semAt; rw [cU]; cases r <;> rfl]; have hx : VR ρ S (ev x) (a.eval x) := bI x (by rw [cU]; simp [Op.operands]); rw [TI] at hx; obtain ⟨bG, w', v', h1, h2, h3⟩ := ac5 hr hx hu he hg; unfold execOp; rw [cU]; simp only [Sem.run_bind, h1, Result.andThen_ok, Sem.run_pure]; exact k bG w' v' h2 h3
          cases hf
        cases hf
      cases hf
    cases hf
  cases hf
theorem ac7 
    {o : Oper} {ev : Operand -> Value} {a : Act} {v : Value} {r : Option Nat} {n : Nat} {next : Act -> World -> Prop} {Q : Exit -> Act -> World -> Prop}
    (hr : HR P ρ S B w0 h w) (bI : ∀ x ∈ o.op.operands.toList, VR ρ S (ev x) (a.eval x)) (hf : C3 P o ev h = some (v, h'))
    (k : ∀ bG w' v', aO P B w0 ρ bG S h h' w w' -> VR bG (Ext S h h') v v' -> next (a.put o.dst v') w') : o.wpIn (lE r) n P a w next Q := by
  unfold C3 at hf; split at hf
  . rename_i s d x cU; split at hf
    . rename_i b m mk TI; split at hf
      . rename_i e hu; split at hf
        . rename_i he; split at hf
          . rename_i hd; split at hf
            . rename_i e' cs more hg; obtain ⟨hc, hq⟩ := aL hf; obtain ⟨l, hl, hq⟩ := Option.map_eq_some_iff.1 hq; have hq := Prod.mk.inj hq; obtain ⟨rfl, rfl⟩ := hq; refine ⟨oS, ?_⟩; rw [show (lE r).round = r from rfl, show o.semAt r a.eval = execOp a.eval o by unfold Oper.semAt; rw [cU]; cases r <;> rfl]; have hx : VR ρ S (ev x) (a.eval x) := bI x (by rw [cU]; simp [Op.operands]); rw [TI] at hx; have h1 := XW hr hx hu he hd hg (eP hc) hl; unfold execOp; rw [cU]; simp only [Sem.run_bind, h1, Result.andThen_ok, Sem.run_pure]; exact k ρ w _ (aO.same hr) (.lit rfl)
            cases hf
          cases hf
        cases hf
      cases hf
    cases hf
  cases hf
theorem ND (w : World) (c : Array Value) (e : TypeId) (z : Nat) (hz : z = w.heap.size) : (w.alloc (.cells c e)).freeze ⟨z, c.size, none⟩ 1 = w.alloc (.cells c e (c.size, c.size + 1)) := by
  subst hz; unfold World.freeze; rw [if_neg (by decide)]
  have hh : ∀ f : Obj -> Obj, f (.cells c e) = .cells c e (c.size, c.size + 1) -> (w.heap.push (Obj.cells c e)).modify w.heap.size f = w.heap.push (.cells c e (c.size, c.size + 1)) := fun f hf => by
    refine Array.ext_getElem? fun k => ?_; simp only [Array.getElem?_modify, Array.getElem?_push]; by_cases hk : w.heap.size = k
    . subst hk; simp [hf]
    rw [if_neg hk]; by_cases h2 : k = w.heap.size
    . exact absurd h2.symm hk
    simp [h2]
  have h2 : ∀ (x y : Array Obj), x = y -> ({ (w.alloc (.cells c e)) with heap := x } : World) = { (w.alloc (.cells c e (c.size, c.size + 1))) with heap := y } := fun x y hxy => by subst hxy; rfl
  exact h2 _ _ (hh _ rfl)
theorem ac8 {s d e : TypeId} {u : TypeDesc} {t : ByteArray} (hr : HR P ρ S B w0 h w) (hs : P.underlying s = some u) (hu : P.underlying d = some (.slice e)) (he : P.underlying e = some (.int .u8)) (h1 : P.cellsOf e = 1) :
    p6 P B w0 ρ S h w (.slice (some ⟨h.next, 0, none⟩) t.size 0) (h.push (.row e (t.data.map fun b => Value.int .u8 b.toNat).toList true true)) ((convert s d (.string t)).run P w) := by
  have l3 : HR P ρ S B w0 h w.drew := hr.drew _
  have hle : t.size <= grownCap w t.size 0 e := by exact grownCap_ge w t.size 0 e
  have cY : (Lib.bytesCells w e t).size = grownCap w t.size 0 e := by
    unfold Lib.bytesCells; simp; omega
  let l : Loc := ⟨w.heap.size, 0, (Lib.bytesCells w e t).size, 1, ((Lib.bytesCells w e t).size, (Lib.bytesCells w e t).size + 1), .inr (Nat.le_refl _)⟩
  have hm := aO.push l3 (.row e (t.data.map fun b => Value.int .u8 b.toNat).toList true true) (.cells (Lib.bytesCells w e t) e ((Lib.bytesCells w e t).size, (Lib.bytesCells w e t).size + 1)) l rfl rfl
    ⟨(Lib.bytesCells w e t).toList, by show (w.drew.heap.push _)[w.drew.heap.size]? = _; rw [Array.getElem?_push_size], rfl, by simp [l], h1.symm, by simp [Lib.bytesCells], (fun e => by cases e), fun i hi => by
      have nA : i < t.size := by simpa using hi
      have e1 : (Lib.bytesCells w e t).toList.getD i undef = .int .u8 ((t.data.toList.getD i 0).toNat : Int) := by
        unfold Lib.bytesCells; rw [Array.toList_append, List.getD_eq_getElem?_getD, List.getElem?_append_left (by simpa using hi)]; simp [List.getD, nA]
      have e2 : (t.data.map fun b => Value.int .u8 b.toNat).toList.getD i undef = .int .u8 ((t.data.toList.getD i 0).toNat : Int) := by
        simp [List.getD, nA]
      rw [e1, e2]
      exact .lit rfl⟩
  refine ⟨ρ.put h.next l, _, _, Lib.run_convert_string_bytes w s d e t hs hu he, ?_, oJ hr.pos t.size (grownCap w t.size 0 e) l rfl hle ?_ _ (Ext.kD _)⟩
  . rw [show Lib.bytesWorld w e t = w.drew.alloc (.cells (Lib.bytesCells w e t) e ((Lib.bytesCells w e t).size, (Lib.bytesCells w e t).size + 1)) from ND w.drew _ e _ rfl]; exact aO.tX hm
  show grownCap w t.size 0 e * 1 = (Lib.bytesCells w e t).size; omega
theorem ac9 
    {o : Oper} {ev : Operand -> Value} {a : Act} {v : Value} {r : Option Nat} {n : Nat} {next : Act -> World -> Prop} {Q : Exit -> Act -> World -> Prop}
    (hr : HR P ρ S B w0 h w) (bI : ∀ x ∈ o.op.operands.toList, VR ρ S (ev x) (a.eval x)) (hf : C4 P o ev h = some (v, h'))
    (k : ∀ bG w' v', aO P B w0 ρ bG S h h' w w' -> VR bG (Ext S h h') v v' -> next (a.put o.dst v') w') : o.wpIn (lE r) n P a w next Q := by
  unfold C4 at hf; split at hf
  . rename_i s d x cU; split at hf
    . rename_i t TI; split at hf
      . rename_i u e hs hu; split at hf
        . rename_i he; obtain ⟨hc, hq⟩ := aL hf; obtain ⟨hc, _⟩ := aT hc; have hq := Prod.mk.inj (Option.some.inj hq); obtain ⟨rfl, rfl⟩ := hq; refine ⟨oS, ?_⟩; rw [show (lE r).round = r from rfl, show o.semAt r a.eval = execOp a.eval o by unfold Oper.semAt; rw [cU]; cases r <;> rfl]; have hx : VR ρ S (ev x) (a.eval x) := bI x (by rw [cU]; simp [Op.operands]); rw [TI] at hx; obtain ⟨bG, w', v', h1, h2, h3⟩ := ac8 (t := t) hr hs hu he (bD hc); unfold execOp; rw [cU]; simp only [Sem.run_bind]; rw [hx.oR]; simp only [h1, Result.andThen_ok, Sem.run_pure]; exact k bG w' v' h2 h3
        cases hf
      cases hf
    cases hf
  cases hf
theorem akE {ev : Operand -> Value} {a : Act} (hr : HR P ρ S B w0 h w) {xs : List Operand} (bI : ∀ x ∈ xs, VR ρ S (ev x) (a.eval x)) : ∀ x ∈ xs, VR ρ S (evG P h ev x) (a.eval x) := fun x hx => by
  cases x with
  | global g =>
    show VR ρ S (aeU P h g) (.pointer (some ⟨g, 0, none⟩)); unfold aeU; split
    . rename_i e cs gl hg hgl
      cases hb : Nat.beq gl.type e with
      | false => exact .gP _
      | true =>
        obtain ⟨h1, h2⟩ := hr.aB _ _ hg; obtain ⟨h3, h4⟩ := h2.2.2 rfl g gl hgl (bD hb); have := VR.ptr (ρ := ρ) (S := S) (g + 1) 0 h1; unfold Loc.at at this; rw [h3, h4] at this; exact this
    exact .gP _
  | _ => exact bI _ hx
theorem akF {call : FuncId -> List Value -> Heap -> Option (Value × Heap)} {yield : Nat -> List Value -> Heap -> Option (Value × Heap)} (gX : lF P B w0 call) (p7 : fT P B w0 yield)
    {o : Oper} {ev : Operand -> Value} {a : Act} {v : Value} {r : Option Nat} {n : Nat} {next : Act -> World -> Prop} {Q : Exit -> Act -> World -> Prop}
    (hr : HR P ρ S B w0 h w) (bI : ∀ x ∈ o.op.operands.toList, VR ρ S (ev x) (a.eval x)) (hf : pF P call yield o ev h = some (v, h'))
    (k : ∀ bG w' v', aO P B w0 ρ bG S h h' w w' -> VR bG (Ext S h h') v v' -> next (a.put o.dst v') w') : o.wpIn (lE r) n P a w next Q := by
  unfold pF at hf; split at hf
  . rename_i x hx; obtain rfl := Option.some.inj hf; exact JE gX p7 hr bI hx k
  unfold xT at hf; split at hf
  . rename_i r1 hx; obtain rfl := Option.some.inj hf; exact ac6 hr bI hx k
  split at hf
  . rename_i r2 TB; obtain rfl := Option.some.inj hf; exact ac7 hr bI TB k
  split at hf
  . rename_i r2 TB; obtain rfl := Option.some.inj hf; exact ac9 hr bI TB k
  obtain ⟨_, hf⟩ := aL hf; exact JE (call := fun _ _ _ => none) (yield := fun _ _ _ => none) (fun _ _ _ _ _ hx => by cases hx) (fun _ _ _ _ _ hx => by cases hx) hr (akE hr bI) hf k
end Go.Fs
namespace Go.Fs
open Go.RowKit (Below)
variable {P : Program} {ρ bG : Ren} {S S' : Nat -> Prop} {B : Nat} {w0 w w' w1 w2 : World} {h h' h1 h2 : Heap}
theorem Ext.trans' {b : Nat} (n1 : h.next <= h1.next) (n2 : h1.next <= h2.next) (he : Ext (Ext S h h1) h1 h2 b) : Ext S h h2 b := by
  rcases he with (he | he) | he
  . exact .inl he
  . exact .inr (by omega)
  exact .inr (by omega)
theorem put_defers (a : Act) (dst : Option Tmp) (v : Value) : (a.put dst v).defers = a.defers := by
  cases dst <;> rfl
theorem JF {ops : Array Oper} {t : Tr} {tmps : Array Value} {o : Oper} {b : Bool}
    (hg : ∀ j want d, o.guard = some (j, want) -> (ops[j]?).bind (·.dst) = some d -> VR ρ S (t.get d) (tmps.toList.getD d undef)) (hf : b9 ops t o = some b) :
    Region.wanted o (yielded ops tmps) = b := by
  unfold b9 at hf; unfold Region.wanted; split at hf
  . rename_i hn; rw [hn]; simpa using hf
  rename_i j want hn; rw [hn]; simp only; unfold yielded; split at hf
  . rename_i hd; rw [hd]; simpa using hf
  rename_i d hd; have hv := hg j want d hn hd; rw [hd]; simp only [Option.bind_some]
  have ht : tmps.toList.getD d undef = (tmps[d]?).getD undef := by
    rw [List.getD_eq_getElem?_getD, Array.getElem?_toList]
  rw [ht] at hv; split at hf
  . rename_i b0 iQ; simp only [Option.some.injEq] at hf; subst hf; rw [iQ] at hv; have h1 := hv.vB
    cases hx : tmps[d]? with
    | none => rw [hx] at h1; cases h1
    | some v =>
      rw [hx] at h1; simp only [Option.getD_some] at h1; subst h1; cases b0 <;> cases want <;> rfl
  . rename_i iQ; simp only [Option.some.injEq] at hf; subst hf; have AB : t.get d = .tuple #[] := iQ; rw [AB] at hv; obtain ⟨cs, h1, h2⟩ := hv.IZ (by simp [gP])
    have h3 : cs = #[] := by
      have := h2.1; apply Array.toList_inj.1; exact List.eq_nil_of_length_eq_zero (by simpa using this.symm)
    subst h3
    cases hx : tmps[d]? with
    | none => rfl
    | some v =>
      rw [hx] at h1; simp only [Option.getD_some] at h1; subst h1; rfl
  cases hf
theorem QH {step : Oper -> (Operand -> Value) -> Heap -> Option (Value × Heap)} {call : FuncId -> List Value -> Heap -> Option (Value × Heap)} {yield : Nat -> List Value -> Heap -> Option (Value × Heap)}
    (cO : step = pF P call yield) (gX : lF P B w0 call) (p7 : fT P B w0 yield) {ops : Array Oper} {r : Option Nat} {m n : Nat} {Q : Exit -> Act -> World -> Prop} {t' : Tr} :
    ∀ (l : List Oper) (idxs : List Nat) (ρ : Ren) (S : Nat -> Prop) (w : World) (a : Act) (t : Tr) (h : Heap), idxs.map (ops[·]?) = l.map some -> HR P ρ S B w0 h w -> kL ρ S t m a.tmps ->
      oG step ops m l t h = some (t', h') ->
      (∀ bG w' a', aO P B w0 ρ bG S h h' w w' -> kL bG (Ext S h h') t' m a'.tmps -> a'.defers = a.defers -> Q .normal a' w') -> wpOpsIn (lE r) n P ops Q idxs a w
  | [], [], ρ, S, w, a, t, h, _, hr, ht, hf, k => by
    simp only [oG, Option.some.injEq, Prod.mk.injEq] at hf; obtain ⟨rfl, rfl⟩ := hf
    exact k ρ w a (aO.same hr) (ht.mono fun _ hb => ⟨.inl hb, rfl⟩) rfl
  | [], _ :: _, _, _, _, _, _, _, hi, _, _, _, _ => by simp at hi
  | _ :: _, [], _, _, _, _, _, _, hi, _, _, _, _ => by simp at hi
  | o :: l, i :: idxs, ρ, S, w, a, t, h, hi, hr, ht, hf, k => by
    simp only [List.map_cons, List.cons.injEq] at hi; obtain ⟨ho, hi⟩ := hi; simp only [oG] at hf; have hw : ∀ b, b9 ops t o = some b -> Region.wanted o (yielded ops a.tmps) = b := fun b hb => JF (fun _ _ d _ _ => ht.2.2 d) hb; simp only [wpOpsIn, ho]; split at hf
    . rename_i sJ; rw [if_pos (hw _ sJ)]; split at hf
      . rename_i v h1 hs; split at hf
        . rename_i t1 hp; subst cO; refine akF gX p7 hr (fun x _ => ht.eval a.defers x) hs fun cP w1 v1 m1 hv => ?_; have CH : kL cP (Ext S h h1) t1 m (a.put o.dst v1).tmps := kL.put (ht.mono fun b hb => ⟨.inl hb, m1.agree b hb⟩) hp hv a.defers; refine QH rfl gX p7 l idxs cP _ w1 _ t1 h1 hi m1.hr CH hf fun iS w2 a2 m2 ht2 hd => ?_; exact k iS w2 a2 (m1.trans m2) (ht2.mono fun b hb => ⟨Ext.trans' m1.next m2.next hb, rfl⟩) (hd.trans (put_defers _ _ _))
        cases hf
      cases hf
    . rename_i sJ; rw [if_neg (by rw [hw _ sJ]; simp)]; refine ⟨oS, ?_⟩; split at hf
      . rename_i t1 hp; have CH : kL ρ S t1 m (a.put o.dst undef).tmps := kL.put ht hp VR.undef a.defers; refine QH cO gX p7 l idxs ρ _ w _ t1 h hi hr CH hf fun iS w2 a2 m2 ht2 hd => ?_; exact k iS w2 a2 m2 ht2 (hd.trans (put_defers _ _ _))
      cases hf
    cases hf
theorem XX {ops : Array Oper} : (List.range ops.size).map (ops[·]?) = ops.toList.map some := by
  refine List.ext_getElem? fun i => ?_; by_cases hi : i < ops.size
  . simp [hi]
  simp [hi]
end Go.Fs
namespace Go.Fs
open Go.RowKit (Below)
variable {P : Program} {ρ bG : Ren} {S S' : Nat -> Prop} {B : Nat} {w0 w w' w1 w2 : World} {h h' h1 h2 : Heap}
inductive B6 (ops : Array Oper) : (Nat -> Bool) -> List Nat -> Prop
  | nil (E : Nat -> Bool) (h : ∀ i, i < ops.size -> E i = true) : B6 ops E []
  | cons (E : Nat -> Bool) (i : Nat) (o : Oper) (l : List Nat) (ho : ops[i]? = some o) (hE : E i = false) (he : ∀ e ∈ o.after.toList, Region.binds .any e = true -> E e.on = true)
      (h : B6 ops (fun j => E j || j == i) l) : B6 ops E (i :: l)
def nU (ops : Array Oper) : Prop := ∀ (i : Nat) (o : Oper), ops[i]? = some o -> ∀ e ∈ o.after.toList, Region.binds .any e = true -> e.on < i
def unl (ops : Array Oper) (listed : Array Bool) : Nat := ((List.range ops.size).filter fun i => !listed.getD i true).length
theorem G8 {l : Array Bool} {i j : Nat} (b : Bool) (hij : i ≠ j) : (l.setIfInBounds i true).getD j b = l.getD j b := by
  simp [Array.getD_eq_getD_getElem?, Array.getElem?_setIfInBounds, hij]
theorem B7 {l : Array Bool} {i : Nat} (b : Bool) (hi : i < l.size) : (l.setIfInBounds i true).getD i b = true := by
  simp [Array.getD_eq_getD_getElem?, Array.getElem?_setIfInBounds, hi]
theorem filter_lt {α : Type} (p q : α -> Bool) : ∀ (l : List α) (x : α), x ∈ l -> p x = true -> q x = false -> (∀ y, q y = true -> p y = true) -> (l.filter q).length < (l.filter p).length
  | [], _, hx, _, _, _ => by cases hx
  | y :: l, x, hx, hp, hq, hle => by
    have le : ∀ l : List α, (l.filter q).length <= (l.filter p).length := fun l => by
      induction l with
      | nil => simp
      | cons z l ih =>
        simp only [List.filter_cons]
        cases hz : q z with
        | true => simp [hle z hz]; omega
        | false => cases p z <;> simp <;> omega
    rcases List.mem_cons.1 hx with rfl | hx
    . simp [hp, hq]; have := le l; omega
    have ih := filter_lt p q l x hx hp hq hle; simp only [List.filter_cons]
    cases hz : q y with
    | true => simp [hle y hz]; omega
    | false => cases p y <;> simp <;> omega
theorem acA {ops : Array Oper} (nV : nU ops) : ∀ (fuel t : Nat) (listed : Array Bool), listed.size = ops.size -> unl ops listed <= fuel ->
    B6 ops (fun j => listed.getD j false) (Region.linearise.go .any ops fuel t listed []) := by
  have all : ∀ listed : Array Bool, listed.size = ops.size -> Region.ready .any ops listed = [] -> ∀ i, i < ops.size -> listed.getD i false = true := fun listed hs hr i => by
    induction i using Nat.strongRecOn with
    | ind i ih =>
      intro hi
      cases hl : listed.getD i false with
      | true => rfl
      | false =>
        have G9 : i ∈ Region.ready .any ops listed := by
          unfold Region.ready; rw [List.mem_filter]; refine ⟨List.mem_range.2 hi, ?_⟩
          have h1 : listed.getD i true = false := by
            have bX : i < listed.size := by omega
            simp [bX] at hl ⊢; exact hl
          rw [h1]; simp only [Array.getElem?_eq_getElem hi, Option.map_some, Option.getD_some, Bool.not_false, Bool.true_and]; rw [Array.all_eq_true_iff_forall_mem]; intro e he
          cases hb : Region.binds .any e with
          | false => rfl
          | true =>
            have bX := nV i ops[i] (Array.getElem?_eq_getElem hi) e (by simpa using he) hb; simp [ih e.on bX (by omega)]
        rw [hr] at G9; cases G9
  intro fuel
  induction fuel with
  | zero =>
    intro t listed hs hu; refine .nil _ fun i hi => ?_
    have h0 : unl ops listed = 0 := by omega
    unfold unl at h0; have h1 := List.filter_eq_nil_iff.1 (List.eq_nil_of_length_eq_zero h0) i (List.mem_range.2 hi)
    have bX : i < listed.size := by omega
    simp [bX] at h1 ⊢
    exact h1
  | succ fuel ih =>
    intro t listed hs hu; simp only [Region.linearise.go]
    change B6 ops _ (match (Region.ready .any ops listed)[t % (Region.ready .any ops listed).length]? with
      | some i => Region.linearise.go .any ops fuel (t / (Region.ready .any ops listed).length) (listed.setIfInBounds i true) [i]
      | none => [].reverse)
    cases hi : (Region.ready .any ops listed)[t % (Region.ready .any ops listed).length]? with
    | none =>
      have TJ : Region.ready .any ops listed = [] := by
        cases hr : Region.ready .any ops listed with
        | nil => rfl
        | cons x xs =>
          rw [hr] at hi; have bX : t % (x :: xs).length < (x :: xs).length := Nat.mod_lt _ (by simp); simp at hi; simp at bX; omega
      exact .nil _ fun i hi => all listed hs TJ i hi
    | some i =>
      simp only []; rw [linearise_go_acc, List.reverse_singleton, List.singleton_append]; have G9 := List.mem_of_getElem? hi; unfold Region.ready at G9; obtain ⟨h1, h2⟩ := List.mem_filter.1 G9; have bX := List.mem_range.1 h1; simp only [Array.getElem?_eq_getElem bX, Option.map_some, Option.getD_some, Bool.and_eq_true, Bool.not_eq_true'] at h2; obtain ⟨h3, h4⟩ := h2
      have aaZ : i < listed.size := by omega
      have h5 : listed.getD i false = false := by simp [aaZ] at h3 ⊢; exact h3
      have he : (fun j => (listed.setIfInBounds i true).getD j false) = fun j => listed.getD j false || j == i := by
        funext j; by_cases hj : i = j
        . subst hj; rw [B7 false aaZ]; simp
        rw [G8 false hj]
        have : (j == i) = false := by simpa using Ne.symm hj
        rw [this, Bool.or_false]
      refine .cons _ i ops[i] _ (Array.getElem?_eq_getElem bX) h5 (fun e he hb => ?_) ?_
      . have := Array.all_eq_true_iff_forall_mem.1 h4 e (by simpa using he); simpa [hb] using this
      rw [<- he]; refine ih _ _ (by simpa using hs) ?_
      have : unl ops (listed.setIfInBounds i true) < unl ops listed := by
        refine filter_lt _ _ _ i h1 (by rw [h3]; rfl) (by rw [B7 true aaZ]; rfl) fun y hy => ?_; by_cases hj : i = y
        . subst hj; rw [B7 true aaZ] at hy; cases hy
        rwa [G8 true hj] at hy
      omega
theorem XY {ops : Array Oper} (nV : nU ops) (t : Nat) : B6 ops (fun _ => false) (Region.schedule true ops t) := by
  have h1 := acA nV ops.size t (Array.replicate ops.size false) (by simp) (by
    unfold unl
    exact Nat.le_trans (List.length_filter_le _ _) (by simp))
  have he : (fun j => (Array.replicate ops.size false).getD j false) = fun _ => false := by
    funext j; simp [Array.getD_eq_getD_getElem?, Array.getElem?_replicate]; split <;> rfl
  rw [he] at h1; simpa [Region.schedule, Region.linearise] using h1
structure tY (P : Program) (B : Nat) (w0 : World) (ρ bG : Ren) (S S' : Nat -> Prop) (h h' : Heap) (L : Nat) (w w' : World) : Prop where
  agree : ∀ b, S b -> bG b = ρ b
  sub : ∀ b, S b -> S' b
  hr : HR P bG S' B w0 h' w'
  frame : Frame ρ h w w'
  aV : ∀ i, S i -> i < L -> h'.get i = h.get i
  old : ∀ i o, h'.get i = some o -> S i -> ∃ o', h.get i = some o' /\ gW o' = gW o
  fresh : ∀ i o, h'.get i = some o -> ¬ S i -> gW o = true /\ (w.heap.size <= (bG i).block \/ ∃ j oj, h.get j = some oj /\ gW oj = true /\ (ρ j).block = (bG i).block /\ L <= j)
theorem tY.trans {S1 S2 : Nat -> Prop} {cP iS : Ren} {L : Nat} (m : tY P B w0 ρ cP S S1 h h1 L w w1) (k : tY P B w0 cP iS S1 S2 h1 h2 L w1 w2) : tY P B w0 ρ iS S S2 h h2 L w w2 where
  agree := fun b hb => (k.agree b (m.sub b hb)).trans (m.agree b hb)
  sub := fun b hb => k.sub b (m.sub b hb)
  hr := k.hr
  frame := by
    refine ⟨k.frame.os.trans m.frame.os, k.frame.tape.trans m.frame.tape, k.frame.output.trans m.frame.output, Nat.le_trans m.frame.size k.frame.size, fun b hb mO => ?_⟩; rw [k.frame.block b (Nat.lt_of_lt_of_le hb m.frame.size) ?_, m.frame.block b hb mO]; intro i o hi ho he; by_cases hS : S i
    . obtain ⟨o', nA, qH⟩ := m.old i o hi hS; rw [m.agree i hS] at he; exact mO i o' nA (qH.trans ho) he
    obtain ⟨_, hf⟩ := m.fresh i o hi hS; rcases hf with hf | ⟨j, oj, hj, lU, y3, _⟩
    . omega
    exact mO j oj hj lU (y3.trans he)
  aV := fun i hi hl => (k.aV i (m.sub i hi) hl).trans (m.aV i hi hl)
  old := fun i o ho hi => by
    obtain ⟨o1, h1, h2⟩ := k.old i o ho (m.sub i hi); obtain ⟨o2, h3, h4⟩ := m.old i o1 h1 hi; exact ⟨o2, h3, h4.trans h2⟩
  fresh := fun i o ho hi => by
    by_cases QI : S1 i
    . obtain ⟨o1, h3, h4⟩ := k.old i o ho QI; obtain ⟨h5, hf⟩ := m.fresh i o1 h3 hi; refine ⟨h4 ▸ h5, ?_⟩; rw [k.agree i QI]; exact hf
    obtain ⟨h5, hf⟩ := k.fresh i o ho QI; refine ⟨h5, ?_⟩; rcases hf with hf | ⟨j, oj, hj, lU, y3, hlj⟩
    . exact .inl (Nat.le_trans m.frame.size hf)
    by_cases hjS : S j
    . obtain ⟨o2, h6, h7⟩ := m.old j oj hj hjS; rw [m.agree j hjS] at y3; exact .inr ⟨j, o2, h6, h7.trans lU, y3, hlj⟩
    obtain ⟨_, XJ⟩ := m.fresh j oj hj hjS; rcases XJ with XJ | ⟨j', oj', XK, af3, af4, am4⟩
    . exact .inl (by omega)
    exact .inr ⟨j', oj', XK, af3, af4.trans y3, am4⟩
open Classical in
noncomputable def glue (S : Nat -> Prop) (ρ cP : Ren) : Ren := fun b => if S b then ρ b else cP b
theorem jJ {cP : Ren} {b : Nat} (hb : S b) : glue S ρ cP b = ρ b := by unfold glue; rw [if_pos hb]
theorem sP {cP : Ren} {b : Nat} (hb : ¬ S b) : glue S ρ cP b = cP b := by unfold glue; rw [if_neg hb]
theorem CI {S1 S2 : Nat -> Prop} {cP : Ren} {H H2 hm : Heap} {L : Nat} (hr : HR P ρ S B w0 H w) (lC : ∀ b, S1 b -> S b) (gY : ∀ b o, hm.get b = some o -> H.get b = some o)
    (sZ : HR P ρ S1 B w0 hm w) (m : aO P B w0 ρ cP S1 hm h1 w w1) (lD : ∀ b, hm.next <= b -> b < h1.next -> ¬ S b) (CJ : ∀ b, S2 b ↔ S b \/ (hm.next <= b /\ b < h1.next))
    (aqM : ∀ b, S2 b -> b < H2.next) (tA : 0 < H2.next) (hL : ∀ b o, ¬ S b -> H2.get b = some o -> L <= h1.low)
    (ha : ∀ b o, S b -> H2.get b = some o -> (hm.get b ≠ none /\ h1.get b = some o) \/ (hm.get b = none /\ H.get b = some o))
    (hb : ∀ b o, ¬ S b -> H2.get b = some o -> (hm.next <= b /\ b < h1.next) /\ h1.get b = some o) (hc : ∀ b, S b -> b < L -> H2.get b = H.get b) :
    tY P B w0 ρ (glue S ρ cP) S S2 H H2 L w w1 := by
  have gl : ∀ b, Ext S1 hm h1 b -> S2 b /\ glue S ρ cP b = cP b := fun b QJ => by
    rcases QJ with QJ | QJ
    . exact ⟨(CJ b).2 (.inl (lC b QJ)), by rw [jJ (lC b QJ), m.agree b QJ]⟩
    exact ⟨(CJ b).2 (.inr QJ), sP (lD b QJ.1 QJ.2)⟩
  have am8 : ∀ b, hm.get b ≠ none -> S1 b := fun b hbn => by
    cases hg : hm.get b with
    | none => exact absurd hg hbn
    | some o => exact (sZ.aB b o hg).1
  -- an object is one of the part, or lies beside it
  have cls : ∀ b o, H2.get b = some o -> (h1.get b = some o /\ Ext S1 hm h1 b /\ glue S ρ cP b = cP b) \/ (hm.get b = none /\ H.get b = some o /\ S b /\ glue S ρ cP b = ρ b) := fun b o hg => by
    by_cases hS : S b
    . rcases ha b o hS hg with ⟨h3, h4⟩ | ⟨h3, h4⟩
      . have this : Ext S1 hm h1 b := .inl (am8 b h3); exact .inl ⟨h4, this, (gl b this).2⟩
      exact .inr ⟨h3, h4, hS, jJ hS⟩
    obtain ⟨h3, h4⟩ := hb b o hS hg; exact .inl ⟨h4, .inr h3, sP hS⟩
  have beside : ∀ b o, hm.get b = none -> H.get b = some o -> w1.heap[(ρ b).block]? = w.heap[(ρ b).block]? := fun b o hn hg => by
    refine m.frame.block _ ?_ fun j oj hj lU he => ?_
    . by_cases kR : gW o = true
      . exact (hr.aB b o hg).2.lt kR
      have := hr.ro b o hg (by simpa using kR); have := hr.size; omega
    by_cases kR : gW o = true
    . have := hr.inj j b oj o (gY j oj hj) hg lU kR he; subst this; rw [hj] at hn; cases hn
    have h3 := hr.ro b o hg (by simpa using kR); have h4 := hr.base j oj (gY j oj hj) lU; omega
  have mixed : ∀ i j oi oj, h1.get i = some oi -> Ext S1 hm h1 i -> gW oi = true -> hm.get j = none -> H.get j = some oj -> gW oj = true -> (cP i).block = (ρ j).block -> False := fun i j oi oj hi hxi uN hn hj lU he => by
    by_cases bX : i < hm.next
    . obtain ⟨o', h3, h4⟩ := m.old i oi hi bX; have hSi := (sZ.aB i o' h3).1; rw [m.agree i hSi] at he; have := hr.inj i j o' oj (gY i o' h3) hj (h4.trans uN) lU he; subst this; rw [h3] at hn; cases hn
    obtain ⟨_, hf⟩ := m.fresh i oi hi (by omega); have QM := (hr.aB j oj hj).2.lt lU; rcases hf with hf | ⟨j', oj', h3, h4, h5, _⟩
    . omega
    have := hr.inj j' j oj' oj (gY j' oj' h3) hj h4 lU (h5.trans he); subst this; rw [h3] at hn; cases hn
  exact {
    agree := fun b rS => jJ rS
    sub := fun b rS => (CJ b).2 (.inl rS)
    hr := {
      aB := fun i o hi => by
        rcases cls i o hi with ⟨h3, h4, h5⟩ | ⟨h3, h4, h5, h6⟩
        . refine ⟨(gl i h4).1, ?_⟩; rw [h5]; exact (m.hr.aB i o h3).2.mono gl
        refine ⟨(CJ i).2 (.inl h5), ?_⟩; rw [h6]; exact ((hr.aB i o h4).2.mono fun b rS => ⟨(CJ b).2 (.inl rS), jJ rS⟩).world (beside i o h3 h4)
      inj := fun i j oi oj hi hj uN lU he => by
        rcases cls i oi hi with ⟨h3, h4, h5⟩ | ⟨h3, h4, h5, h6⟩ <;> rcases cls j oj hj with ⟨k3, k4, k5⟩ | ⟨k3, k4, k5, k6⟩
        . rw [h5, k5] at he; exact m.hr.inj i j oi oj h3 k3 uN lU he
        . rw [h5, k6] at he; exact (mixed i j oi oj h3 h4 uN k3 k4 lU he).elim
        . rw [h6, k5] at he; exact (mixed j i oj oi k3 k4 lU h3 h4 uN he.symm).elim
        rw [h6, k6] at he; exact hr.inj i j oi oj h4 k4 uN lU he
      base := fun i o hi ho => by
        rcases cls i o hi with ⟨h3, h4, h5⟩ | ⟨h3, h4, h5, h6⟩
        . rw [h5]; exact m.hr.base i o h3 ho
        rw [h6]; exact hr.base i o h4 ho
      ro := fun i o hi ho => by
        rcases cls i o hi with ⟨h3, h4, h5⟩ | ⟨h3, h4, h5, h6⟩
        . rw [h5]; exact m.hr.ro i o h3 ho
        rw [h6]; exact hr.ro i o h4 ho
      ids := fun b rS => by
        refine ⟨aqM b rS, ?_⟩; rcases (CJ b).1 rS with h3 | h3
        . exact (hr.ids b h3).2
        have := sZ.pos; omega
      pos := tA
      below := m.hr.below
      drawn := m.hr.drawn
      size := m.hr.size }
    frame := ⟨m.frame.os, m.frame.tape, m.frame.output, m.frame.size, fun k hk mO => m.frame.block k hk fun i o hi ho => mO i o (gY i o hi) ho⟩
    aV := hc
    old := fun i o hi hS => by
      rcases ha i o hS hi with ⟨h3, h4⟩ | ⟨h3, h4⟩
      . have h5 := am8 i h3; obtain ⟨o', h6, h7⟩ := m.old i o h4 (sZ.ids i h5).1; exact ⟨o', gY i o' h6, h7⟩
      exact ⟨o, h4, rfl⟩
    fresh := fun i o hi hS => by
      obtain ⟨h3, h4⟩ := hb i o hS hi; obtain ⟨h5, hf⟩ := m.fresh i o h4 h3.1; refine ⟨h5, ?_⟩; rw [sP hS]; rcases hf with hf | ⟨j, oj, h6, h7, h8, h9, _⟩
      . exact .inl hf
      exact .inr ⟨j, oj, gY j oj h6, h7, h8, Nat.le_trans (hL i o hS hi) h9⟩ }
theorem VR.yF {v v0 v1 : Value} {cP : Ren} {S1 : Nat -> Prop} (h : VR ρ S v v0) (k : VR cP S1 v v1) (fR : ∀ b, S b -> cP b = ρ b) : VR ρ S v v1 := by
  induction h generalizing v1 with
  | lit h => rw [k.fY h]; exact .lit h
  | gP v => exact .gP _
  | nan q b hb =>
    obtain ⟨b', rfl, h2⟩ := k.uK (k := q) rfl
    exact .nan q b' (h2 rfl)
  | ptr b o hs =>
    obtain ⟨_, rfl⟩ := k.pH
    rw [fR b hs]; exact .ptr b o hs
  | slice b o n m c A hn hm h0 hb =>
    obtain ⟨A', c', rfl, h1, h2, h3, h4⟩ := k.fZ; refine .slice b o n m c' A' h1 h2 h3 fun iQ => ?_; obtain ⟨h5, _, _⟩ := hb iQ; obtain ⟨_, h6, h7⟩ := h4 iQ; rw [fR b h5] at h6 h7
    exact ⟨h5, h6, h7⟩
  | map b hs =>
    obtain ⟨_, rfl⟩ := k.y5
    rw [fR b hs]; exact .map b hs
  | agg cs cs' hl _ ih =>
    obtain ⟨c1, rfl, h1⟩ := k.IY
    exact .agg cs c1 (by simpa using h1.1) fun i hi => ih i hi (h1.2 i (by simpa using hi))
  | tuple cs cs' hl _ ih =>
    cases k with
    | lit h => simp [dQ] at h
    | gP => exact .gP _
    | tuple _ c1 qJ h1 => exact .tuple cs c1 qJ fun i hi => ih i hi (h1 i hi)
  | func f a a' c c' ha _ hc _ ihA ihC =>
    obtain ⟨a1, c1, rfl, h1, h2⟩ := k.zO
    exact .func f a a1 c c1 (by simpa using h1.1) (fun i hi => ihA i hi (h1.2 i (by simpa using hi))) (by simpa using h2.1) (fun i hi => ihC i hi (h2.2 i (by simpa using hi)))
  | yield l hs =>
    obtain ⟨_, rfl⟩ := k.JA; rw [fR l hs]; exact .yield l hs
theorem kQ.yF {l : Loc} {o : aU} {cP : Ren} {S1 : Nat -> Prop} (h : kQ P ρ S l w o) (k : kQ P cP S1 l w1 o) (fR : ∀ b, S b -> cP b = ρ b) : kQ P ρ S l w1 o := by
  match o, h, k with
  | .row e cs true more, ⟨atH, _, _, _, _, _, _, g7⟩, ⟨cur, h1, h2, h3, h4, h5, h6, h7⟩ => exact ⟨cur, h1, h2, h3, h4, h5, h6, fun i hi => (g7 i hi).yF (h7 i hi) fR⟩
  | .row e cs false more, hg, hk => exact ⟨hk.1, fun i hi => let ⟨v, h1, h2⟩ := hk.2.1 i hi; let ⟨v0, _, g2⟩ := hg.2.1 i hi; ⟨v, h1, g2.yF h2 fR⟩, hk.2.2⟩
  | .qA es clock, ⟨es0, g1, g2, g3⟩, ⟨eW, h1, h2, h3⟩ =>
    refine ⟨eW, h1, h2, fun i e e' he lT => ?_⟩; obtain ⟨a, b, c, d⟩ := h3 i e e' he lT
    have bX : i < es0.length := by have := (List.getElem?_eq_some_iff.1 he).1; omega
    exact ⟨a, b, c, (g3 i e es0[i] he (List.getElem?_eq_getElem bX)).2.2.2.yF d fR⟩
  | .iter s pos, _, hk => exact hk
  | .fI st jump tmps n params assign body d, ⟨g0, fn0, t0, g1, g2⟩, ⟨h0, fn, iV, h1, h2⟩ =>
    rw [fR d g0] at h1
    exact ⟨g0, fn, iV, h1, ⟨h2.1.1, h2.1.2.1, fun i => (g2.1.2.2 i).yF (h2.1.2.2 i) fR⟩, h2.2⟩
  | .mM, _, hk => exact hk
end Go.Fs
namespace Go.Fs
variable {P : Program}
section
variable {step : Oper -> (Operand -> Value) -> Heap -> Option (Value × Heap)} {ops : Array Oper} {n : Nat}
inductive vD (step : Oper -> (Operand -> Value) -> Heap -> Option (Value × Heap)) (ops : Array Oper) (n : Nat) (X : Nat -> aU -> Prop) (o : Oper) (i : Nat) (s s' : cM) : Prop
  | skip (hw : b9 ops s.t o = some false) (hp : put n s.t o.dst undef = some s'.t) (hh : s'.h = s.h) (hs : s'.segs = s.segs) (hm : s'.mem = s.mem) (ht : s'.tail = s.tail)
  | calm (hw : b9 ops s.t o = some true) (hc : calm o.op = true) (v : Value) (h' : Heap) (cO : step o (aA s.t) { next := s.h.next, low := s.h.next, aB := [] } = some (v, h')) (hn : h'.next = s.h.next)
      (hp : put n s.t o.dst v = some s'.t) (hh : s'.h = s.h) (hs : s'.segs = s.segs) (hm : s'.mem = s.mem) (ht : s'.tail = s.tail)
  | still (hw : b9 ops s.t o = some true) (v : Value) (aB : List (Nat × aU)) (hX : ∀ b ob, look aB b = some ob -> X b ob)
      (cO : step o (aA s.t) { next := s.h.next, low := s.h.next, aB := aB } = some (v, { next := s.h.next, low := s.h.next, aB := aB }))
      (hp : put n s.t o.dst v = some s'.t) (hh : s'.h = s.h) (hs : s'.segs = s.segs) (hm : s'.mem = s.mem) (ht : s'.tail = s.tail)
  | mem (hw : b9 ops s.t o = some true) (hc : Fs.calm o.op = false) (v : Value) (h' : Heap) (ord : Bool) (ho : ord = Nat.beq (s.mem &&& aJ s.bs o) s.mem) (lX : s.tail = true -> ord = true)
      (cO : step o (aA s.t) { next := s.h.next, low := s.h.next, aB := bif ord then s.h.aB else mask (aJ s.bs o) s.segs s.h.aB } = some (v, h')) (hn : s.h.next <= h'.next)
      (hp : put n s.t o.dst v = some s'.t) (hm : s'.mem = s.mem ||| 2 ^ i) (hs : s'.segs = (i, s.h.next, h'.next) :: s.segs) (fH : s'.h.next = h'.next)
      (hk : (s.h.next <= h'.low /\ s'.h.low = s.h.low /\ s'.h.aB = bE s.h.next h'.next h'.aB ++ s.h.aB /\ s'.tail = s.tail) \/ (ord = true /\ s'.h.low = min s.h.low h'.low /\ s'.h.aB = h'.aB /\ s'.tail = true))
theorem I5 {X : Nat -> aU -> Prop} {o : Oper} {i : Nat} {s s' : cM} (hf : eF step ops n o i s = some s') : s'.bs = s.bs ++ [aJ s.bs o] /\ vD step ops n X o i s s' := by
  unfold eF at hf; simp only at hf; split at hf
  . rename_i hw; obtain ⟨t, h1, h2⟩ := Option.map_eq_some_iff.1 hf; subst h2; exact ⟨rfl, .skip hw h1 rfl rfl rfl rfl⟩
  . cases hf
  rename_i hw; split at hf
  . rename_i hc; split at hf
    . rename_i v h' cO; obtain ⟨h3, h4⟩ := aL hf; obtain ⟨t, h1, h2⟩ := Option.map_eq_some_iff.1 h4; subst h2; exact ⟨rfl, .calm hw hc v h' cO (bD h3) h1 rfl rfl rfl rfl⟩
    cases hf
  rename_i hc
  have hc : calm o.op = false := by simpa using hc
  generalize fU : Nat.beq (s.mem &&& aJ s.bs o) s.mem = ord at hf
  cases mI : (s.tail && !ord) with
  | true => rw [mI] at hf; cases hf
  | false =>
    rw [mI] at hf; simp only [cond_false] at hf
    have lX : s.tail = true -> ord = true := fun h => by rw [h] at mI; simpa using mI
    split at hf
    . rename_i v h' cO
      cases bX : Nat.blt h'.next s.h.next with
      | true => rw [bX] at hf; cases hf
      | false =>
        rw [bX] at hf; simp only [cond_false] at hf
        have hn : s.h.next <= h'.next := by have := gI bX; omega
        split at hf
        . rename_i t hp
          cases dN : Nat.ble s.h.next h'.low with
          | true =>
            rw [dN] at hf; simp only [cond_true, Option.some.injEq] at hf; subst hf
            exact ⟨rfl, .mem hw hc v h' ord fU.symm lX cO hn hp rfl rfl rfl (.inl ⟨eP dN, rfl, rfl, rfl⟩)⟩
          | false =>
            rw [dN] at hf; simp only [cond_false] at hf; obtain ⟨h5, h6⟩ := aL hf; simp only [Option.some.injEq] at h6; subst h6; exact ⟨rfl, .mem hw hc v h' ord fU.symm lX cO hn hp rfl rfl rfl (.inr ⟨h5, rfl, rfl, rfl⟩)⟩
        cases hf
    cases hf
theorem CK : ∀ (l : List Oper) (i : Nat) (s s' : cM), kC step ops n l i s = some s' -> ∃ st : Nat -> cM, st i = s /\ st (i + l.length) = s' /\
    ∀ j o, l[j]? = some o -> eF step ops n o (i + j) (st (i + j)) = some (st (i + j + 1))
  | [], i, s, s', h => by
    simp only [kC, Option.some.injEq] at h; subst h
    exact ⟨fun _ => s, rfl, rfl, fun j o hj => by simp at hj⟩
  | o :: l, i, s, s', h => by
    simp only [kC] at h; split at h
    . rename_i s1 lC; obtain ⟨st, h1, h2, h3⟩ := CK l (i + 1) s1 s' h; refine ⟨fun k => if k = i then s else st k, by simp, ?_, fun j o' hj => ?_⟩
      . simp only [List.length_cons]; rw [if_neg (by omega), <- h2]; congr 1; omega
      cases j with
      | zero =>
        simp at hj; subst hj
        simp [h1, lC]
      | succ j =>
        simp only [List.getElem?_cons_succ] at hj; have := h3 j o' hj; rw [show i + 1 + j = i + (j + 1) by omega] at this; simp only; rw [if_neg (by omega), if_neg (by omega)]; exact this
    cases h
structure Trace (step : Oper -> (Operand -> Value) -> Heap -> Option (Value × Heap)) (ops : Array Oper) (n : Nat) (st : Nat -> cM) (t0 : Tr) (h0 : Heap) : Prop where
  zero : st 0 = ⟨t0, h0, [], [], 0, false⟩
  EG : ∀ i o, ops[i]? = some o -> (st (i + 1)).bs = (st i).bs ++ [aJ (st i).bs o] /\ vD step ops n (fun b ob => h0.get b = some ob /\ b < h0.next /\ (b < (st ops.size).h.low \/ ∀ q, q <= ops.size -> (st q).h.get b = some ob)) o i (st i) (st (i + 1))
variable {st : Nat -> cM} {t0 : Tr} {h0 : Heap}
theorem acB {s : cM} (h : kC step ops n ops.toList 0 ⟨t0, h0, [], [], 0, false⟩ = some s) : ∃ st, Trace step ops n st t0 h0 /\ st ops.size = s := by
  obtain ⟨st, h1, h2, h3⟩ := CK _ _ _ _ h; refine ⟨st, ⟨h1, fun i o ho => ?_⟩, by simpa using h2⟩; have := h3 i o (by simpa using ho); simp only [Nat.zero_add] at this; exact I5 this
def I6 (P : Program) (h0 : Heap) (ops : Array Oper) (n : Nat) (o : Oper) (s : cM) : Option (cM × Nat) :=
  match b9 ops s.t o, o.op with
  | some true, .load T a =>
    match aA s.t a with
    | .pointer (some p) =>
      match h0.get p.block with
      | some ob =>
        bif Nat.blt p.block h0.next then
          match eE P T (aA s.t a) { next := s.h.next, low := s.h.next, aB := [(p.block, ob)] } with
          | some v => (put n s.t o.dst v).map fun t => ({ s with t, bs := s.bs ++ [aJ s.bs o] }, p.block + 1)
          | none => none
        else none
      | none => none
    | _ => none
  | _, _ => none
def qL (P : Program) (h0 : Heap) (step : Oper -> (Operand -> Value) -> Heap -> Option (Value × Heap)) (ops : Array Oper) (n : Nat) : List Oper -> Nat -> cM -> Nat -> Option (cM × Nat)
  | [], _, s, lim => some (s, lim)
  | o :: r, i, s, lim => match eF step ops n o i s with
    | some s' => qL P h0 step ops n r (i + 1) s' lim
    | none => match I6 P h0 ops n o s with
      | some (s', b) => qL P h0 step ops n r (i + 1) s' (max lim b)
      | none => none
def I7 (P : Program) (h0 : Heap) (step : Oper -> (Operand -> Value) -> Heap -> Option (Value × Heap)) (ops : Array Oper) (n : Nat) (s : cM) : Option cM :=
  match qL P h0 step ops n ops.toList 0 s 0 with
  | some (s', lim) => bif Nat.ble lim s'.h.low then some s' else none
  | none => none
theorem acC {call : FuncId -> List Value -> Heap -> Option (Value × Heap)} {yield : Nat -> List Value -> Heap -> Option (Value × Heap)} {X : Nat -> aU -> Prop} {o : Oper} {i b : Nat} {s s' : cM}
    (hf : I6 P h0 ops n o s = some (s', b)) (hX : ∀ c ob, h0.get c = some ob -> c < h0.next -> c + 1 = b -> X c ob) :
    s'.bs = s.bs ++ [aJ s.bs o] /\ vD (bQ P call yield) ops n X o i s s' := by
  unfold I6 at hf; split at hf
  . rename_i T a hw cU; split at hf
    . rename_i p bI; split at hf
      . rename_i ob hg; obtain ⟨h1, h2⟩ := aL hf; split at h2
        . rename_i v hv; obtain ⟨t, h3, h4⟩ := Option.map_eq_some_iff.1 h2; simp only [Prod.mk.injEq] at h4; obtain ⟨h4, h5⟩ := h4; subst h4; refine ⟨rfl, .still hw v [(p.block, ob)] (fun c oc hc => ?_) ?_ h3 rfl rfl rfl rfl⟩
          . simp only [look] at hc
            cases wU : Nat.beq p.block c with
            | true =>
              rw [wU] at hc; simp only [cond_true, Option.some.injEq] at hc; obtain rfl := bD wU; subst hc
              exact hX _ _ hg (iH h1) h5
            | false => rw [wU] at hc; cases hc
          unfold bQ; rw [cU]; simp only [hv, Option.map_some]
        cases h2
      cases hf
    cases hf
  cases hf
theorem uQ {call : FuncId -> List Value -> Heap -> Option (Value × Heap)} {yield : Nat -> List Value -> Heap -> Option (Value × Heap)} : ∀ (l : List Oper) (i : Nat) (s s' : cM) (lim yG : Nat), qL P h0 (bQ P call yield) ops n l i s lim = some (s', yG) ->
    lim <= yG /\ ∃ st : Nat -> cM, st i = s /\ st (i + l.length) = s' /\
    ∀ j o, l[j]? = some o -> ∀ X : Nat -> aU -> Prop, (∀ c ob, h0.get c = some ob -> c < h0.next -> c < yG -> X c ob) -> (st (i + j + 1)).bs = (st (i + j)).bs ++ [aJ (st (i + j)).bs o] /\ vD (bQ P call yield) ops n X o (i + j) (st (i + j)) (st (i + j + 1))
  | [], i, s, s', lim, yG, h => by
    simp only [qL, Option.some.injEq, Prod.mk.injEq] at h; obtain ⟨h, h'⟩ := h; subst h h'
    exact ⟨Nat.le_refl _, fun _ => s, rfl, rfl, fun j o hj => by simp at hj⟩
  | o :: l, i, s, s', lim, yG, h => by
    simp only [qL] at h
    have key : ∀ s1 ab0, lim <= ab0 -> qL P h0 (bQ P call yield) ops n l (i + 1) s1 ab0 = some (s', yG) ->
        (∀ X : Nat -> aU -> Prop, (∀ c ob, h0.get c = some ob -> c < h0.next -> c < yG -> X c ob) -> s1.bs = s.bs ++ [aJ s.bs o] /\ vD (bQ P call yield) ops n X o i s s1) ->
      lim <= yG /\ ∃ st : Nat -> cM, st i = s /\ st (i + (o :: l).length) = s' /\
        ∀ j o', (o :: l)[j]? = some o' -> ∀ X : Nat -> aU -> Prop, (∀ c ob, h0.get c = some ob -> c < h0.next -> c < yG -> X c ob) -> (st (i + j + 1)).bs = (st (i + j)).bs ++ [aJ (st (i + j)).bs o'] /\ vD (bQ P call yield) ops n X o' (i + j) (st (i + j)) (st (i + j + 1)) := fun s1 ab0 hl hr hd => by
      obtain ⟨hle, st, h1, h2, h3⟩ := uQ l (i + 1) s1 s' ab0 yG hr; refine ⟨Nat.le_trans hl hle, fun k => if k = i then s else st k, by simp, ?_, fun j o' hj X hX => ?_⟩
      . simp only [List.length_cons]; rw [if_neg (by omega), <- h2]; congr 1; omega
      cases j with
      | zero =>
        simp at hj; subst hj
        simpa [h1] using hd X hX
      | succ j =>
        simp only [List.getElem?_cons_succ] at hj; have := h3 j o' hj X hX; rw [show i + 1 + j = i + (j + 1) by omega] at this; simp only; rw [if_neg (by omega), if_neg (by omega)]; exact this
    split at h
    . rename_i s1 lC; exact key s1 lim (Nat.le_refl _) h fun X _ => I5 lC
    split at h
    . rename_i s1 b lC; refine key s1 _ (Nat.le_max_left _ _) h fun X hX => acC lC fun c ob hc jZ y8 => hX c ob hc jZ ?_; have := (uQ l (i + 1) s1 s' _ yG h).1; have := Nat.le_max_right lim b; omega
    cases h
theorem XZ {call : FuncId -> List Value -> Heap -> Option (Value × Heap)} {yield : Nat -> List Value -> Heap -> Option (Value × Heap)} {s : cM} (h : I7 P h0 (bQ P call yield) ops n ⟨t0, h0, [], [], 0, false⟩ = some s) : ∃ st, Trace (bQ P call yield) ops n st t0 h0 /\ st ops.size = s := by
  unfold I7 at h; split at h
  . rename_i s' lim hr; obtain ⟨hl, h⟩ := aL h; simp only [Option.some.injEq] at h; subst h; obtain ⟨_, st, h1, h2, h3⟩ := uQ _ _ _ _ _ _ hr
    have wT : st ops.size = s' := by simpa using h2
    refine ⟨st, ⟨h1, fun i o ho => ?_⟩, wT⟩; have := h3 i o (by simpa using ho) (fun b ob => h0.get b = some ob /\ b < h0.next /\ (b < (st ops.size).h.low \/ ∀ q, q <= ops.size -> (st q).h.get b = some ob)) (fun c ob hc jZ y8 => ⟨hc, jZ, .inl (by rw [wT]; exact Nat.lt_of_lt_of_le y8 (eP hl))⟩); simpa only [Nat.zero_add] using this
  cases h
def nW (st : Nat -> cM) (ops : Array Oper) (k : Nat) : Nat := match ops[k]? with
  | some o => aJ (st k).bs o
  | none => 0
theorem Trace.bs (T : Trace step ops n st t0 h0) : ∀ i, i <= ops.size -> (st i).bs.length = i /\ ∀ k, k < i -> (st i).bs.getD k 0 = nW st ops k
  | 0, _ => ⟨by rw [T.zero]; rfl, fun k hk => by omega⟩
  | i + 1, hi => by
    obtain ⟨h1, h2⟩ := Trace.bs T i (by omega); have ho : ops[i]? = some ops[i] := Array.getElem?_eq_getElem (by omega); have h3 := (T.EG i _ ho).1; refine ⟨by rw [h3]; simp [h1], fun k hk => ?_⟩; rw [h3, List.getD_eq_getElem?_getD]; by_cases gT : k < i
    . rw [List.getElem?_append_left (by omega)]; have := h2 k gT
      rwa [List.getD_eq_getElem?_getD] at this
    have : k = i := by omega
    subst this; rw [List.getElem?_append_right (by omega), h1, Nat.sub_self]; simp [nW, ho]
theorem CL (bs : List Nat) (m : Nat) : ∀ (es : List Edge) (s : Nat),
    (es.foldl (fun s e => if Region.binds .any e then s ||| 2 ^ e.on ||| bs.getD e.on 0 else s) s).testBit m = true ↔ s.testBit m = true \/ ∃ e ∈ es, Region.binds .any e = true /\ (e.on = m \/ (bs.getD e.on 0).testBit m = true)
  | [], s => by simp
  | e :: es, s => by
    rw [List.foldl_cons, CL bs m es]
    cases hb : Region.binds .any e with
    | false => simp [hb]
    | true =>
      simp only [if_true, Nat.testBit_or, Bool.or_eq_true, Nat.testBit_two_pow, decide_eq_true_eq, List.mem_cons, exists_eq_or_imp, hb, true_and]; constructor
      . rintro (((h | h) | h) | h)
        . exact .inl h
        . exact .inr (.inl (.inl h))
        . exact .inr (.inl (.inr h))
        exact .inr (.inr h)
      rintro (h | (h | h) | h)
      . exact .inl (.inl (.inl h))
      . exact .inl (.inl (.inr h))
      . exact .inl (.inr h)
      exact .inr h
theorem Trace.CM (T : Trace step ops n st t0 h0) (nV : nU ops) {k : Nat} {o : Oper} (ho : ops[k]? = some o) (m : Nat) : (nW st ops k).testBit m = true ↔ ∃ e ∈ o.after.toList, Region.binds .any e = true /\ (e.on = m \/ (nW st ops e.on).testBit m = true) := by
  have hk : k < ops.size := (Array.getElem?_eq_some_iff.1 ho).1
  have h1 : nW st ops k = aJ (st k).bs o := by simp [nW, ho]
  rw [h1]; unfold aJ; rw [CL]; simp only [Nat.zero_testBit, Bool.false_eq_true, false_or]; constructor
  . rintro ⟨e, he, hb, h⟩; rw [(T.bs k (by omega)).2 e.on (nV k o ho e he hb)] at h; exact ⟨e, he, hb, h⟩
  rintro ⟨e, he, hb, h⟩; rw [<- (T.bs k (by omega)).2 e.on (nV k o ho e he hb)] at h; exact ⟨e, he, hb, h⟩
theorem Trace.QN (T : Trace step ops n st t0 h0) (nV : nU ops) : ∀ (k m : Nat), (nW st ops k).testBit m = true -> m < k := fun k => by
  induction k using Nat.strongRecOn with
  | ind k ih =>
    intro m hm
    cases ho : ops[k]? with
    | none => simp [nW, ho] at hm
    | some o =>
      obtain ⟨e, he, hb, h⟩ := (T.CM nV ho m).1 hm; have h1 := nV k o ho e he hb; rcases h with h | h
      . omega
      have := ih e.on h1 m h; omega
theorem Trace.OJ (T : Trace step ops n st t0 h0) (nV : nU ops) : ∀ (k m l : Nat), (nW st ops k).testBit m = true -> (nW st ops m).testBit l = true -> (nW st ops k).testBit l = true := fun k => by
  induction k using Nat.strongRecOn with
  | ind k ih =>
    intro m l hm hl
    cases ho : ops[k]? with
    | none => simp [nW, ho] at hm
    | some o =>
      obtain ⟨e, he, hb, h⟩ := (T.CM nV ho m).1 hm; have h1 := nV k o ho e he hb; rcases h with h | h
      . subst h; exact (T.CM nV ho l).2 ⟨e, he, hb, .inr hl⟩
      exact (T.CM nV ho l).2 ⟨e, he, hb, .inr (ih e.on h1 m l h hl)⟩
theorem Trace.TK (T : Trace step ops n st t0 h0) (nV : nU ops) {E : Nat -> Bool} (hE : ∀ k, E k = true -> ∀ m, (nW st ops k).testBit m = true -> E m = true) {k : Nat} {o : Oper} (ho : ops[k]? = some o)
    (he : ∀ e ∈ o.after.toList, Region.binds .any e = true -> E e.on = true) (m : Nat) (hm : (nW st ops k).testBit m = true) : E m = true := by
  obtain ⟨e, h1, h2, h3⟩ := (T.CM nV ho m).1 hm; rcases h3 with h3 | h3
  . subst h3; exact he e h1 h2
  exact hE e.on (he e h1 h2) m h3
def nI (st : Nat -> cM) (ops : Array Oper) (k : Nat) : Prop := k < ops.size /\ (st (k + 1)).segs.length ≠ (st k).segs.length
theorem Trace.wV (T : Trace step ops n st t0 h0) (i : Nat) (o : Oper) (ho : ops[i]? = some o) : (nI st ops i /\ (st (i + 1)).mem = (st i).mem ||| 2 ^ i /\ (st (i + 1)).segs = (i, (st i).h.next, (st (i + 1)).h.next) :: (st i).segs /\ (st i).h.next <= (st (i + 1)).h.next) \/
    (¬ nI st ops i /\ (st (i + 1)).mem = (st i).mem /\ (st (i + 1)).segs = (st i).segs /\ (st (i + 1)).h = (st i).h /\ (st (i + 1)).tail = (st i).tail) := by
  have hi : i < ops.size := (Array.getElem?_eq_some_iff.1 ho).1
  cases (T.EG i o ho).2 with
  | skip hw hp hh hs hm ht => exact .inr ⟨fun h => h.2 (by rw [hs]), hm, hs, hh, ht⟩
  | calm hw hc v h' cO hn hp hh hs hm ht => exact .inr ⟨fun h => h.2 (by rw [hs]), hm, hs, hh, ht⟩
  | still hw v aB hX cO hp hh hs hm ht => exact .inr ⟨fun h => h.2 (by rw [hs]), hm, hs, hh, ht⟩
  | mem hw hc v h' ord qH lX cO hn hp hm hs fH hk =>
    exact .inl ⟨⟨hi, by rw [hs]; simp⟩, hm, by rw [fH]; exact hs, by rw [fH]; exact hn⟩
theorem Trace.anH (T : Trace step ops n st t0 h0) (i : Nat) (hi : i < ops.size) : (st i).h.next <= (st (i + 1)).h.next := by
  rcases T.wV i _ (Array.getElem?_eq_getElem hi) with ⟨_, _, _, h⟩ | ⟨_, _, _, h, _⟩
  . exact h
  rw [h]; exact Nat.le_refl _
theorem Trace.next (T : Trace step ops n st t0 h0) (i j : Nat) (hij : i <= j) (hj : j <= ops.size) : (st i).h.next <= (st j).h.next := by
  induction j with
  | zero =>
    have : i = 0 := by omega
    subst this; exact Nat.le_refl _
  | succ j ih =>
    by_cases h : i = j + 1
    . subst h; exact Nat.le_refl _
    exact Nat.le_trans (ih (by omega) (by omega)) (T.anH j (by omega))
theorem Trace.aqN (T : Trace step ops n st t0 h0) (i : Nat) (hi : i < ops.size) : (st (i + 1)).h.low <= (st i).h.low := by
  have ho : ops[i]? = some ops[i] := Array.getElem?_eq_getElem hi
  cases (T.EG i _ ho).2 with
  | skip hw hp hh hs hm ht => rw [hh]; exact Nat.le_refl _
  | calm hw hc v h' cO hn hp hh hs hm ht => rw [hh]; exact Nat.le_refl _
  | still hw v aB hX cO hp hh hs hm ht => rw [hh]; exact Nat.le_refl _
  | mem hw hc v h' ord qH lX cO hn hp hm hs fH hk =>
    rcases hk with ⟨_, h1, _⟩ | ⟨_, h1, _⟩
    . rw [h1]; exact Nat.le_refl _
    rw [h1]; exact Nat.min_le_left _ _
theorem Trace.low (T : Trace step ops n st t0 h0) (i j : Nat) (hij : i <= j) (hj : j <= ops.size) : (st j).h.low <= (st i).h.low := by
  induction j with
  | zero =>
    have : i = 0 := by omega
    subst this; exact Nat.le_refl _
  | succ j ih =>
    by_cases h : i = j + 1
    . subst h; exact Nat.le_refl _
    exact Nat.le_trans (T.aqN j (by omega)) (ih (by omega) (by omega))
theorem Trace.afO (T : Trace step ops n st t0 h0) (i : Nat) (hi : i < ops.size) (h : (st i).tail = true) : (st (i + 1)).tail = true := by
  have ho : ops[i]? = some ops[i] := Array.getElem?_eq_getElem hi
  cases (T.EG i _ ho).2 with
  | skip hw hp hh hs hm ht => rw [ht]; exact h
  | calm hw hc v h' cO hn hp hh hs hm ht => rw [ht]; exact h
  | still hw v aB hX cO hp hh hs hm ht => rw [ht]; exact h
  | mem hw hc v h' ord qH lX cO hn hp hm hs fH hk =>
    rcases hk with ⟨_, _, _, h1⟩ | ⟨_, _, _, h1⟩
    . rw [h1]; exact h
    exact h1
theorem Trace.tail (T : Trace step ops n st t0 h0) (i j : Nat) (hij : i <= j) (hj : j <= ops.size) (h : (st i).tail = true) : (st j).tail = true := by
  induction j with
  | zero =>
    have : i = 0 := by omega
    subst this; exact h
  | succ j ih =>
    by_cases h' : i = j + 1
    . subst h'; exact h
    exact T.afO j (by omega) (ih (by omega) (by omega))
theorem Trace.B8 (T : Trace step ops n st t0 h0) : ∀ i, i <= ops.size -> (st i).tail = true -> ∃ k, k < i /\ nI st ops k /\ (st (k + 1)).tail = true
  | 0, _, h => by rw [T.zero] at h; cases h
  | i + 1, hi, h => by
    have ho : ops[i]? = some ops[i] := Array.getElem?_eq_getElem (by omega); rcases T.wV i _ ho with ⟨h1, _⟩ | ⟨_, _, _, _, h1⟩
    . exact ⟨i, by omega, h1, h⟩
    rw [h1] at h; obtain ⟨k, h2, h3⟩ := Trace.B8 T i (by omega) h; exact ⟨k, by omega, h3⟩
theorem Trace.EH (T : Trace step ops n st t0 h0) : ∀ i, i <= ops.size -> ∀ k, (st i).mem.testBit k = true ↔ k < i /\ nI st ops k
  | 0, _, k => by rw [T.zero]; simp
  | i + 1, hi, k => by
    have ih := Trace.EH T i (by omega) k; have ho : ops[i]? = some ops[i] := Array.getElem?_eq_getElem (by omega); rcases T.wV i _ ho with ⟨h1, h2, _⟩ | ⟨h1, h2, _⟩
    . rw [h2, Nat.testBit_or, Bool.or_eq_true, ih, Nat.testBit_two_pow, decide_eq_true_eq]; constructor
      . rintro (⟨h3, h4⟩ | rfl)
        . exact ⟨by omega, h4⟩
        exact ⟨by omega, h1⟩
      rintro ⟨h3, h4⟩; by_cases hk : k = i
      . exact .inr hk.symm
      exact .inl ⟨by omega, h4⟩
    rw [h2, ih]; constructor
    . rintro ⟨h3, h4⟩; exact ⟨by omega, h4⟩
    rintro ⟨h3, h4⟩; refine ⟨?_, h4⟩; by_cases hk : k = i
    . subst hk; exact absurd h4 h1
    omega
theorem Trace.EI (T : Trace step ops n st t0 h0) : ∀ i, i <= ops.size -> ∀ k, k < i -> nI st ops k -> (k, (st k).h.next, (st (k + 1)).h.next) ∈ (st i).segs
  | 0, _, k, hk, _ => by omega
  | i + 1, hi, k, hk, hm => by
    have ho : ops[i]? = some ops[i] := Array.getElem?_eq_getElem (by omega); rcases T.wV i _ ho with ⟨h1, _, h2, _⟩ | ⟨h1, _, h2, _⟩
    . rw [h2]; by_cases gT : k = i
      . subst gT; exact List.mem_cons_self
      exact List.mem_cons_of_mem _ (Trace.EI T i (by omega) k (by omega) hm)
    rw [h2]; by_cases gT : k = i
    . subst gT; exact absurd hm h1
    exact Trace.EI T i (by omega) k (by omega) hm
def vE (st : Nat -> cM) (k b : Nat) : Prop := (st k).h.next <= b /\ b < (st (k + 1)).h.next
theorem Trace.cover (T : Trace step ops n st t0 h0) : ∀ i, i <= ops.size -> ∀ b, h0.next <= b -> b < (st i).h.next -> ∃ k, k < i /\ vE st k b
  | 0, _, b, h1, h2 => by rw [T.zero] at h2; exact absurd h2 (by simp; omega)
  | i + 1, hi, b, h1, h2 => by
    by_cases h : b < (st i).h.next
    . obtain ⟨k, hk, hs⟩ := Trace.cover T i (by omega) b h1 h; exact ⟨k, by omega, hs⟩
    exact ⟨i, by omega, by unfold vE; omega⟩
theorem Trace.CN (T : Trace step ops n st t0 h0) {k b : Nat} (hk : k < ops.size) (hs : vE st k b) : nI st ops k := by
  rcases T.wV k _ (Array.getElem?_eq_getElem hk) with ⟨h1, _⟩ | ⟨_, _, _, h1, _⟩
  . exact h1
  unfold vE at hs; rw [h1] at hs; omega
theorem Trace.afP (T : Trace step ops n st t0 h0) {k m b : Nat} (hk : k < ops.size) (hm : m < ops.size) (h1 : vE st k b) (h2 : vE st m b) : k = m := by
  unfold vE at h1 h2; rcases Nat.lt_trichotomy k m with h | h | h
  . have := T.next (k + 1) m h (by omega); omega
  . exact h
  have := T.next (m + 1) k h (by omega); omega
theorem Trace.QP (T : Trace step ops n st t0 h0) {k b : Nat} (hk : k < ops.size) (h1 : vE st k b) : h0.next <= b := by
  have := T.next 0 k (by omega) (by omega); rw [T.zero] at this; exact Nat.le_trans this h1.1
theorem iB (a b : List (Nat × aU)) (i : Nat) : look (a ++ b) i = (look a i).or (look b i) := by
  induction a with
  | nil => rfl
  | cons p a ih =>
    obtain ⟨k, o⟩ := p; cases hb : Nat.beq k i <;> simp [look, hb, ih]
theorem pL (p : Nat × aU -> Bool) (q : Nat -> Bool) (TL : ∀ k o, p (k, o) = q k) : ∀ (l : List (Nat × aU)) (b : Nat) (o : aU), look (l.filter p) b = some o -> look l b = some o /\ q b = true
  | [], b, o, h => by cases h
  | (k, o') :: r, b, o, h => by
    rw [List.filter_cons] at h
    cases hc : p (k, o') with
    | false =>
      rw [hc] at h; obtain ⟨h1, h2⟩ := pL p q TL r b o h
      cases hb : Nat.beq k b with
      | true =>
        have := bD hb; subst this
        rw [<- TL k o', hc] at h2; cases h2
      | false => exact ⟨by simp [look, hb, h1], h2⟩
    | true =>
      rw [hc] at h; simp only [if_true, look] at h
      cases hb : Nat.beq k b with
      | true =>
        rw [hb] at h; have := bD hb; subst this
        exact ⟨by simp [look, hb]; simpa using h, by rw [<- TL k o', hc]⟩
      | false =>
        rw [hb] at h; obtain ⟨h1, h2⟩ := pL p q TL r b o h; exact ⟨by simp [look, hb, h1], h2⟩
theorem dS {lo hi : Nat} (l : List (Nat × aU)) (b : Nat) (o : aU) (h : look (bE lo hi l) b = some o) : (lo <= b /\ b < hi) /\ look l b = some o := by
  unfold bE at h
  cases hb : Nat.beq lo hi with
  | true => rw [hb] at h; cases h
  | false =>
    rw [hb] at h; obtain ⟨h1, h2⟩ := pL (inside lo hi) (fun b => Nat.ble lo b && Nat.blt b hi) (fun _ _ => rfl) l b o h; obtain ⟨h3, h4⟩ := aT h2; exact ⟨⟨eP h3, iH h4⟩, h1⟩
theorem JG {bb : Nat} : ∀ (segs : List (Nat × Nat × Nat)) (l : List (Nat × aU)) (b : Nat) (o : aU), look (mask bb segs l) b = some o ->
    look l b = some o /\ ∀ k lo hi, (k, lo, hi) ∈ segs -> lo <= b -> b < hi -> bb.testBit k = true
  | [], l, b, o, h => ⟨h, fun _ _ _ hm => by cases hm⟩
  | (k, lo, hi) :: segs, l, b, o, h => by
    simp only [mask] at h; obtain ⟨h1, h2⟩ := JG segs _ b o h
    cases hb : bb.testBit k with
    | true =>
      rw [hb] at h1; refine ⟨by simpa using h1, fun k' uO nA hm h3 h4 => ?_⟩; rcases List.mem_cons.1 hm with he | hm
      . simp only [Prod.mk.injEq] at he; rw [he.1]; exact hb
      exact h2 _ _ _ hm h3 h4
    | false =>
      rw [hb] at h1; simp only [Bool.false_eq_true, if_false] at h1; obtain ⟨h5, h6⟩ := pL (outside lo hi) (fun b => !(decide (lo <= b) && decide (b < hi))) (fun _ _ => rfl) l b o h1; refine ⟨h5, fun k' uO nA hm h3 h4 => ?_⟩; rcases List.mem_cons.1 hm with he | hm
      . simp only [Prod.mk.injEq] at he; obtain ⟨rfl, rfl, rfl⟩ := he; simp [h3, h4] at h6
      exact h2 _ _ _ hm h3 h4
theorem Trace.QQ (T : Trace step ops n st t0 h0) (hh : ∀ b o, h0.get b = some o -> b < h0.next) : ∀ i, i <= ops.size -> (st i).tail = false ->
    (∀ b, b < h0.next -> (st i).h.get b = h0.get b) /\ (∀ k, k < i -> ∀ b, vE st k b -> (st i).h.get b = (st (k + 1)).h.get b) /\ ∀ b o, (st i).h.get b = some o -> b < (st i).h.next
  | 0, _, _ => ⟨fun b _ => by rw [T.zero], fun k hk => by omega, fun b o h => by rw [T.zero] at h ⊢; exact hh b o h⟩
  | i + 1, hi, ht => by
    have ht0 : (st i).tail = false := by
      cases h : (st i).tail with
      | false => rfl
      | true => rw [T.afO i (by omega) h] at ht; cases ht
    obtain ⟨h1, h2, h3⟩ := Trace.QQ T hh i (by omega) ht0; have ho : ops[i]? = some ops[i] := Array.getElem?_eq_getElem (by omega)
    have same : (st (i + 1)).h = (st i).h -> _ := fun he => (⟨fun b hb => by rw [he]; exact h1 b hb, fun k hk b hs => by
        by_cases gT : k = i
        . subst gT; rfl
        . rw [he]; exact h2 k (by omega) b hs, fun b o hb => by rw [he] at hb ⊢; exact h3 b o hb⟩ :
        (∀ b, b < h0.next -> (st (i + 1)).h.get b = h0.get b) /\ (∀ k, k < i + 1 -> ∀ b, vE st k b -> (st (i + 1)).h.get b = (st (k + 1)).h.get b) /\ ∀ b o, (st (i + 1)).h.get b = some o -> b < (st (i + 1)).h.next)
    cases (T.EG i _ ho).2 with
    | skip hw hp hh' hs hm ht => exact same hh'
    | calm hw hc v h' cO hn hp hh' hs hm ht => exact same hh'
    | still hw v aB hX cO hp hh' hs hm ht => exact same hh'
    | mem hw hc v h' ord qH lX cO hn hp hm hs fH hk =>
      rcases hk with ⟨dN, _, tB, _⟩ | ⟨_, _, _, h⟩
      . have fK : ∀ b, (st (i + 1)).h.get b = (look (bE (st i).h.next h'.next h'.aB) b).or ((st i).h.get b) := fun b => by
          show look (st (i + 1)).h.aB b = _; rw [tB, iB]; rfl
        have hold : ∀ b, b < (st i).h.next -> (st (i + 1)).h.get b = (st i).h.get b := fun b hb => by
          rw [fK]
          cases hl : look (bE (st i).h.next h'.next h'.aB) b with
          | none => rfl
          | some o => have := (dS _ _ _ hl).1; omega
        have QR := T.next 0 i (by omega) (by omega); rw [T.zero] at QR; refine ⟨fun b hb => by rw [hold b (Nat.lt_of_lt_of_le hb QR)]; exact h1 b hb, fun k hk b hs => ?_, fun b o hb => ?_⟩
        . by_cases gT : k = i
          . subst gT; rfl
          have hs2 := hs.2; have := T.next (k + 1) i (by omega) (by omega); rw [hold b (by omega)]; exact h2 k (by omega) b hs
        rw [fH]; rw [fK] at hb
        cases hl : look (bE (st i).h.next h'.next h'.aB) b with
        | none => rw [hl] at hb; have := h3 b o hb; omega
        | some o => exact (dS _ _ _ hl).1.2
      rw [h] at ht; cases ht
end
end Go.Fs
namespace Go.Fs
open Go.RowKit (Below)
variable {P : Program}
def EJ (ops : Array Oper) : Prop := ∀ (i j : Nat) (oi oj : Oper) (d : Tmp), ops[i]? = some oi -> ops[j]? = some oj -> oi.dst = some d -> oj.dst = some d -> i = j
def JH (st : Nat -> cM) (ops : Array Oper) : Prop := ∀ (i : Nat) (oi : Oper), ops[i]? = some oi -> ∀ x ∈ oi.looksAt ops, ∀ (j : Nat) (oj : Oper), ops[j]? = some oj -> oj.dst = some x ->
  j = i \/ (nW st ops i).testBit j = true \/ (nW st ops j).testBit i = true
def EK (st : Nat -> cM) (ops : Array Oper) (S : Nat -> Prop) (K : Nat -> Prop) (b : Nat) : Prop := S b \/ ∃ m, K m /\ m < ops.size /\ vE st m b
def cl (st : Nat -> cM) (ops : Array Oper) (S : Nat -> Prop) (k : Nat) : Nat -> Prop := EK st ops S fun m => m = k \/ (nW st ops k).testBit m = true
def SB (st : Nat -> cM) (ops : Array Oper) (S : Nat -> Prop) (i : Nat) : Nat -> Prop := EK st ops S fun m => (nW st ops i).testBit m = true
def SE (st : Nat -> cM) (ops : Array Oper) (S : Nat -> Prop) (E : Nat -> Bool) : Nat -> Prop := EK st ops S fun m => E m = true
theorem gJ {st : Nat -> cM} {ops : Array Oper} {S : Nat -> Prop} {K K' : Nat -> Prop} (h : ∀ m, K m -> K' m) (b : Nat) (hb : EK st ops S K b) : EK st ops S K' b := by
  rcases hb with hb | ⟨m, h1, h2⟩
  . exact .inl hb
  exact .inr ⟨m, h m h1, h2⟩
theorem QS {st : Nat -> cM} {ops : Array Oper} {S : Nat -> Prop} {E : Nat -> Bool} (EL : ∀ k, E k = true -> ∀ m, (nW st ops k).testBit m = true -> E m = true) {k : Nat} (hk : E k = true) (b : Nat)
    (hb : cl st ops S k b) : SE st ops S E b := by
  refine gJ (fun m hm => ?_) b hb; rcases hm with hm | hm
  . rw [hm]; exact hk
  exact EL k hk m hm
theorem JI {n : Nat} {t t' : Tr} {dst : Option Tmp} {v : Value} (hn : n <= 4000) (hp : put n t dst v = some t') (x : Nat) : t'.get x = if dst = some x then v else t.get x := by
  unfold put at hp
  cases dst with
  | none => simp only [Option.some.injEq] at hp; subst hp; simp
  | some d =>
    obtain ⟨h1, h2⟩ := aL hp; simp only [Option.some.injEq] at h2; subst h2; have h1 := iH h1; rw [Tr.dE depth t d v x (by have : 2 ^ depth = 8192 := rfl; omega)]; by_cases hx : x = d
    . subst hx; simp
    rw [if_neg hx, if_neg (by simp; exact fun h => hx h.symm)]
theorem akG {n : Nat} {t t' : Tr} {d : Tmp} {v : Value} (hp : put n t (some d) v = some t') : d < n := by
  unfold put at hp; exact iH (aL hp).1
section
variable {step : Oper -> (Operand -> Value) -> Heap -> Option (Value × Heap)} {ops : Array Oper} {n : Nat} {st : Nat -> cM} {t0 : Tr} {h0 : Heap}
theorem vD.put {X : Nat -> aU -> Prop} {o : Oper} {i : Nat} {s s' : cM} (h : vD step ops n X o i s s') : ∃ v, Fs.put n s.t o.dst v = some s'.t := by
  cases h with
  | skip hw hp hh hs hm ht => exact ⟨_, hp⟩
  | calm hw hc v h' cO hn hp hh hs hm ht => exact ⟨_, hp⟩
  | still hw v aB hX cO hp hh hs hm ht => exact ⟨_, hp⟩
  | mem hw hc v h' ord qH lX cO hn hp hm hs fH hk => exact ⟨_, hp⟩
theorem Trace.CO (T : Trace step ops n st t0 h0) (hn : n <= 4000) : ∀ i, i <= ops.size -> ∀ x, (∀ j o, j < i -> ops[j]? = some o -> o.dst ≠ some x) -> (st i).t.get x = t0.get x
  | 0, _, x, _ => by rw [T.zero]
  | i + 1, hi, x, hx => by
    have ho : ops[i]? = some ops[i] := Array.getElem?_eq_getElem (by omega); obtain ⟨v, hp⟩ := (T.EG i _ ho).2.put; rw [JI hn hp, if_neg (hx i _ (by omega) ho)]; exact Trace.CO T hn i (by omega) x fun j o hj => hx j o (by omega)
theorem Trace.JJ (T : Trace step ops n st t0 h0) (pM : EJ ops) (hn : n <= 4000) : ∀ i, i <= ops.size -> ∀ j o x, j < i -> ops[j]? = some o -> o.dst = some x -> (st i).t.get x = (st (j + 1)).t.get x
  | 0, _, j, _, _, hj, _, _ => by omega
  | i + 1, hi, j, o, x, hj, ho, hx => by
    by_cases hji : j = i
    . subst hji; rfl
    have uN : ops[i]? = some ops[i] := Array.getElem?_eq_getElem (by omega); obtain ⟨v, hp⟩ := (T.EG i _ uN).2.put; rw [JI hn hp, if_neg fun h => hji (pM j i o _ x ho uN hx h)]; exact Trace.JJ T pM hn i (by omega) j o x (by omega) ho hx
end
def CP (st : Nat -> cM) (ops : Array Oper) (n : Nat) (t0 : Tr) (S : Nat -> Prop) (E : Nat -> Bool) (ρ : Ren) (tmps : Array Value) : Prop :=
  tmps.size = n /\ (∀ k o d, E k = true -> ops[k]? = some o -> o.dst = some d -> VR ρ (cl st ops S k) ((st (k + 1)).t.get d) (tmps.toList.getD d undef)) /\
  ∀ d, (∀ k o, E k = true -> ops[k]? = some o -> o.dst ≠ some d) -> VR ρ S (t0.get d) (tmps.toList.getD d undef)
theorem OK (a : Act) (dst : Option Tmp) (v : Value) (x : Nat) (bX : ∀ d, dst = some d -> d < a.tmps.size) : (a.put dst v).tmps.toList.getD x undef = if dst = some x then v else a.tmps.toList.getD x undef := by
  cases dst with
  | none => simp [Act.put]
  | some d =>
    have hd := bX d rfl; simp only [Act.put, Array.toList_setIfInBounds, List.getD_eq_getElem?_getD, List.getElem?_set]; by_cases e : d = x
    . subst e; simp [hd]
    simp [e]
theorem size_put (a : Act) (dst : Option Tmp) (v : Value) : (a.put dst v).tmps.size = a.tmps.size := by
  cases dst <;> simp [Act.put]
section
variable {step : Oper -> (Operand -> Value) -> Heap -> Option (Value × Heap)} {ops : Array Oper} {n : Nat} {st : Nat -> cM} {t0 : Tr} {h0 : Heap}
variable {S : Nat -> Prop} {E : Nat -> Bool} {ρ iS : Ren} {a : Act}
theorem CP.put (pM : EJ ops) (hn : n <= 4000) (hI : CP st ops n t0 S E ρ a.tmps) (EL : ∀ k, E k = true -> ∀ m, (nW st ops k).testBit m = true -> E m = true) (fR : ∀ b, SE st ops S E b -> iS b = ρ b)
    {i : Nat} {o : Oper} (ho : ops[i]? = some o) (hE : E i = false) {v v1 : Value} (hp : put n (st i).t o.dst v = some (st (i + 1)).t) (hv : VR iS (cl st ops S i) v v1) :
    CP st ops n t0 S (fun j => E j || j == i) iS (a.put o.dst v1).tmps := by
  obtain ⟨h1, h2, h3⟩ := hI
  have bX : ∀ d, o.dst = some d -> d < a.tmps.size := fun d hd => by rw [hd] at hp; rw [h1]; exact akG hp
  refine ⟨by rw [size_put, h1], fun k ok d hk aZ hd => ?_, fun d hd => ?_⟩
  . rw [OK a o.dst v1 d bX]; by_cases gT : k = i
    . subst gT; rw [ho] at aZ; injection aZ with aZ; subst aZ; rw [if_pos hd, JI hn hp, if_pos hd]; exact hv
    have cA : o.dst ≠ some d := fun h => gT (pM k i ok o d aZ ho hd h); rw [if_neg cA]
    have AD : E k = true := by simpa [gT] using hk
    exact (h2 k ok d AD aZ hd).mono fun b hb => ⟨hb, fR b (QS EL AD b hb)⟩
  have cA : o.dst ≠ some d := hd i o (by simp) ho; rw [OK a o.dst v1 d bX, if_neg cA]; exact (h3 d fun k ok hk aZ => hd k ok (by simp [hk]) aZ).mono fun b hb => ⟨hb, fR b (.inl hb)⟩
theorem CP.look (T : Trace step ops n st t0 h0) (nV : nU ops) (pM : EJ ops) (hn : n <= 4000) (Y0 : JH st ops) (hI : CP st ops n t0 S E ρ a.tmps)
    (EL : ∀ k, E k = true -> ∀ m, (nW st ops k).testBit m = true -> E m = true)
    {i : Nat} {o : Oper} (ho : ops[i]? = some o) (hE : E i = false) (he : ∀ e ∈ o.after.toList, Region.binds .any e = true -> E e.on = true) (x : Tmp) (hx : x ∈ o.looksAt ops) :
    VR ρ (SB st ops S i) ((st i).t.get x) (a.tmps.toList.getD x undef) := by
  obtain ⟨h1, h2, h3⟩ := hI; have hi : i < ops.size := (Array.getElem?_eq_some_iff.1 ho).1; by_cases hw : ∃ (j : Nat) (oj : Oper), ops[j]? = some oj /\ oj.dst = some x
  . obtain ⟨j, oj, hj, HU⟩ := hw
    have old : E j = false -> i <= j -> VR ρ (SB st ops S i) ((st i).t.get x) (a.tmps.toList.getD x undef) := fun hEj hij => by
      rw [T.CO hn i (by omega) x fun k ok hk aZ JK => by have := pM k j ok oj x aZ hj JK HU; omega]; refine (h3 x fun k ok hk aZ JK => ?_).mono fun b hb => ⟨.inl hb, rfl⟩; have := pM k j ok oj x aZ hj JK HU; subst this; rw [hEj] at hk; cases hk
    rcases Y0 i o ho x hx j oj hj HU with hji | hb | hb
    . subst hji; exact old hE (Nat.le_refl _)
    . have bX := T.QN nV i j hb; have hEj := T.TK nV EL ho he j hb; rw [T.JJ pM hn i (by omega) j oj x bX hj HU]; refine (h2 j oj x hEj hj HU).mono fun b wW => ⟨gJ (fun m hm => ?_) b wW, rfl⟩; rcases hm with rfl | hm
      . exact hb
      exact T.OJ nV i j m hb hm
    have bX := T.QN nV j i hb; refine old ?_ (by omega)
    cases hEj : E j with
    | false => rfl
    | true => rw [EL j hEj i hb] at hE; cases hE
  rw [T.CO hn i (by omega) x fun k ok _ aZ JK => hw ⟨k, ok, aZ, JK⟩]; exact (h3 x fun k ok _ aZ JK => hw ⟨k, ok, aZ, JK⟩).mono fun b hb => ⟨.inl hb, rfl⟩
end
theorem NF {ρ : Ren} {S : Nat -> Prop} {t : Tr} {a : Act} {ops : Array Oper} {o : Oper} (h : ∀ x ∈ o.looksAt ops, VR ρ S (t.get x) (a.tmps.toList.getD x undef)) :
    ∀ x ∈ o.op.operands.toList, VR ρ S (aA t x) (a.eval x) := fun x hx => by
  cases x with
  | tmp i =>
    have := h i (by
      unfold Oper.looksAt
      refine List.mem_append_left _ (List.mem_filterMap.2 ⟨.tmp i, hx, rfl⟩))
    simpa [aA, Act.eval, Array.getD_eq_getD_getElem?, List.getD_eq_getElem?_getD] using this
  | const v =>
    simp only [aA, Act.eval]; by_cases hv : af v = true
    . rw [if_pos hv]; exact .lS hv
    rw [if_neg hv]; exact .gP v
  | global g => exact .gP _
  | func f => exact .func f _ _ _ _ rfl (fun i h => absurd h (by simp)) rfl (fun i h => absurd h (by simp))
end Go.Fs
namespace Go.Fs
open Go.RowKit (Below)
variable {P : Program}
structure EM (P : Program) (st : Nat -> cM) (ops : Array Oper) (h0 : Heap) (S : Nat -> Prop) (E : Nat -> Bool) (ρ : Ren) (H : Heap) (w : World) : Prop where
  calm : ∀ k, E k = true -> nI st ops k -> (st (k + 1)).tail = false
  base : ∀ b, b < h0.next -> H.get b = h0.get b
  news : ∀ k, E k = true -> k < ops.size -> ∀ b, vE st k b -> H.get b = (st (k + 1)).h.get b
  afQ : ∀ b o, S b -> H.get b = some o -> kQ P ρ S (ρ b) w o
  afR : ∀ k, E k = true -> k < ops.size -> ∀ b o, vE st k b -> H.get b = some o -> kQ P ρ (cl st ops S k) (ρ b) w o
structure anI (st : Nat -> cM) (ops : Array Oper) (E : Nat -> Bool) (H : Heap) (p : Nat) : Prop where
  le : p <= ops.size
  tail : (st p).tail = true
  get : ∀ b, H.get b = (st p).h.get b
  all : ∀ k, nI st ops k -> (E k = true ↔ k < p)
structure Inv (P : Program) (B : Nat) (w0 : World) (st : Nat -> cM) (ops : Array Oper) (n : Nat) (t0 : Tr) (h0 : Heap) (S : Nat -> Prop) (ρ0 : Ren) (ws : World) (d0 : List Deferred)
    (E : Nat -> Bool) (ρ : Ren) (H : Heap) (w : World) (a : Act) : Prop where
  cC : tY P B w0 ρ0 ρ S (SE st ops S E) h0 H (min (st ops.size).h.low h0.next) ws w
  mode : EM P st ops h0 S E ρ H w \/ ∃ p, anI st ops E H p
  tmp : CP st ops n t0 S E ρ a.tmps
  defers : a.defers = d0
  next : H.next = (st ops.size).h.next
  down : ∀ k, E k = true -> ∀ m, (nW st ops k).testBit m = true -> E m = true
section
variable {step : Oper -> (Operand -> Value) -> Heap -> Option (Value × Heap)} {ops : Array Oper} {n : Nat} {st : Nat -> cM} {t0 : Tr} {h0 : Heap}
variable {S : Nat -> Prop} {E : Nat -> Bool} {ρ0 ρ cP iS : Ren} {a : Act} {B : Nat} {w0 ws w w1 : World} {H H2 hm h1 : Heap} {d0 : List Deferred}
theorem EM.on {X : Nat -> Prop} {b : Nat} {o : aU} {S2 : Nat -> Prop} (hX : ∀ b, X b -> SE st ops S E b) (T0 : kQ P ρ X (ρ b) w o) (fR : ∀ b, SE st ops S E b -> iS b = ρ b) (hb : SE st ops S E b)
    (l3 : kQ P iS S2 (iS b) w1 o) : kQ P iS X (iS b) w1 o := by
  rw [fR b hb] at l3 ⊢; exact (T0.yF l3 fun b hb => fR b (hX b hb)).mono fun b hb => ⟨hb, fR b (hX b hb)⟩
theorem Trace.ab1 (T : Trace step ops n st t0 h0) (iW : ∀ b, S b -> b < h0.next) {K : Nat -> Prop} {i : Nat} (hi : i <= ops.size) (hK : ∀ m, K m -> m < i) (b : Nat) (hb : EK st ops S K b) : b < (st i).h.next := by
  rcases hb with hb | ⟨m, h1, h2, h3⟩
  . have := T.next 0 i (by omega) hi; rw [T.zero] at this; exact Nat.lt_of_lt_of_le (iW b hb) this
  have := hK m h1; have := T.next (m + 1) i (by omega) hi; exact Nat.lt_of_lt_of_le h3.2 this
theorem Trace.JL (T : Trace step ops n st t0 h0) (iW : ∀ b, S b -> b < h0.next) {i b : Nat} (hi : i < ops.size) (hE : E i = false) (hs : vE st i b) : ¬ SE st ops S E b := by
  rintro (hb | ⟨m, h1, h2, h3⟩)
  . have := T.QP hi hs; have := iW b hb; omega
  have := T.afP hi h2 hs h3; subst this; rw [hE] at h1; cases h1
theorem Inv.quiet (I : Inv P B w0 st ops n t0 h0 S ρ0 ws d0 E ρ H w a) {i : Nat} {o : Oper} (ho : ops[i]? = some o) (wR : ¬ nI st ops i) (hh : (st (i + 1)).h = (st i).h)
    (uR : ∀ m, (nW st ops i).testBit m = true -> E m = true)
    (fR : ∀ b, SE st ops S E b -> iS b = ρ b) (EB : tY P B w0 ρ iS (SE st ops S E) (SE st ops S E) H H (min (st ops.size).h.low h0.next) w w1) {a' : Act}
    (JM : CP st ops n t0 S (fun j => E j || j == i) iS a'.tmps) (hd : a'.defers = a.defers) :
    Inv P B w0 st ops n t0 h0 S ρ0 ws d0 (fun j => E j || j == i) iS H w1 a' := by
  have hi : i < ops.size := (Array.getElem?_eq_some_iff.1 ho).1
  have Y1 : ∀ b, ¬ vE st i b := fun b hs => by unfold vE at hs; rw [hh] at hs; omega
  have hSE : ∀ b, SE st ops S E b ↔ SE st ops S (fun j => E j || j == i) b := fun b => by
    constructor
    . exact fun hb => gJ (fun m hm => by simp [hm]) b hb
    rintro (hb | ⟨m, h1, h2, h3⟩)
    . exact .inl hb
    by_cases Y2 : m = i
    . subst Y2; exact absurd h3 (Y1 b)
    exact .inr ⟨m, by simpa [Y2] using h1, h2, h3⟩
  have aqO : SE st ops S E = SE st ops S (fun j => E j || j == i) := funext fun b => propext (hSE b); refine ⟨?_, ?_, JM, hd.trans I.defers, I.next, ?_⟩
  . rw [<- aqO]; exact I.cC.trans EB
  . rcases I.mode with A | ⟨p, Bm⟩
    . refine .inl ⟨fun k hk mK => ?_, A.base, fun k hk AE b hs => ?_, fun b o' hb hg => ?_, fun k hk AE b o' hs hg => ?_⟩
      . by_cases gT : k = i
        . subst gT; exact absurd mK wR
        exact A.calm k (by simpa [gT] using hk) mK
      . by_cases gT : k = i
        . subst gT; exact absurd hs (Y1 b)
        exact A.news k (by simpa [gT] using hk) AE b hs
      . exact EM.on (fun b hb => .inl hb) (A.afQ b o' hb hg) fR (.inl hb) (EB.hr.aB b o' hg).2
      by_cases gT : k = i
      . subst gT; exact absurd hs (Y1 b)
      have AD : E k = true := by simpa [gT] using hk
      exact EM.on (QS I.down AD) (A.afR k AD AE b o' hs hg) fR (.inr ⟨k, AD, AE, hs⟩) (EB.hr.aB b o' hg).2
    refine .inr ⟨p, Bm.le, Bm.tail, Bm.get, fun k mK => ?_⟩; have gT : k ≠ i := fun h => wR (h ▸ mK); rw [<- Bm.all k mK]; simp [gT]
  intro k hk m hm; by_cases gT : k = i
  . subst gT; simp [uR m hm]
  simp [I.down k (by simpa [gT] using hk) m hm]
theorem Inv.afS (T : Trace step ops n st t0 h0) (nV : nU ops) (iW : ∀ b, S b -> b < h0.next) (HV : ∀ b o, h0.get b = some o -> S b) (afT : 0 < h0.next) (I : Inv P B w0 st ops n t0 h0 S ρ0 ws d0 E ρ H w a) {i : Nat} {o : Oper} (ho : ops[i]? = some o) (hE : E i = false) (Y2 : nI st ops i)
    (uR : ∀ m, (nW st ops i).testBit m = true -> E m = true) {ord : Bool} (fU : ord = Nat.beq ((st i).mem &&& aJ (st i).bs o) (st i).mem) (lX : (st i).tail = true -> ord = true)
    {v : Value} {h' : Heap} (fH : (st (i + 1)).h.next = h'.next) (TM : (st i).h.next <= h'.next)
    (hk : ((st i).h.next <= h'.low /\ (st (i + 1)).h.low = (st i).h.low /\ (st (i + 1)).h.aB = bE (st i).h.next h'.next h'.aB ++ (st i).h.aB /\ (st (i + 1)).tail = (st i).tail) \/
      (ord = true /\ (st (i + 1)).h.low = min (st i).h.low h'.low /\ (st (i + 1)).h.aB = h'.aB /\ (st (i + 1)).tail = true)) :
    let hm : Heap := { next := (st i).h.next, low := (st i).h.next, aB := bif ord then (st i).h.aB else mask (aJ (st i).bs o) (st i).segs (st i).h.aB }
    HR P ρ (SB st ops S i) B w0 hm w /\ ∀ cP w1 v1 a', aO P B w0 ρ cP (SB st ops S i) hm h' w w1 -> VR cP (Ext (SB st ops S i) hm h') v v1 -> a'.defers = a.defers ->
      (∀ iS, (∀ b, SE st ops S E b -> iS b = ρ b) -> VR iS (cl st ops S i) v v1 -> CP st ops n t0 S (fun j => E j || j == i) iS a'.tmps) ->
      ∃ iS H2, Inv P B w0 st ops n t0 h0 S ρ0 ws d0 (fun j => E j || j == i) iS H2 w1 a' := by
  intro hm; have hi : i < ops.size := (Array.getElem?_eq_some_iff.1 ho).1
  have AF : aJ (st i).bs o = nW st ops i := by simp [nW, ho]
  have qM := I.cC.hr
  have QR : h0.next <= (st i).h.next := by have := T.next 0 i (by omega) (by omega); rwa [T.zero] at this
  have vF : ord = true -> ∀ k, k < i -> nI st ops k -> (nW st ops i).testBit k = true := fun h k hk mK => by
    rw [fU] at h; have h1 := bD h; have h2 := (T.EH i (by omega) k).2 ⟨hk, mK⟩; rw [<- h1, Nat.testBit_and, Bool.and_eq_true, AF] at h2; exact h2.2
  -- those behind it that look at the heap have not come, if it turns something old
  have later : (st (i + 1)).tail = true -> ∀ k, nI st ops k -> i < k -> E k = true -> False := fun ht k mK hik AD => by
    have AE : k < ops.size := mK.1; have hko : ops[k]? = some ops[k] := Array.getElem?_eq_getElem AE; have htk := T.tail (i + 1) k (by omega) (by omega) ht
    cases (T.EG k _ hko).2 with
    | skip hw hp hh hs hm ht => exact mK.2 (by rw [hs])
    | calm hw hc v h' cO hn hp hh hs hm ht => exact mK.2 (by rw [hs])
    | still hw v aB hX cO hp hh hs hm ht => exact mK.2 (by rw [hs])
    | mem hw hc v h' atI qH akH cO hn hp hm hs fH hk =>
      have h4 := akH htk; rw [qH] at h4; have h5 := bD h4; have h6 := (T.EH k (by omega) i).2 ⟨hik, Y2⟩; rw [<- h5, Nat.testBit_and, Bool.and_eq_true] at h6
      have h7 : (nW st ops k).testBit i = true := by simp only [nW, hko]; exact h6.2
      rw [I.down k AD i h7] at hE; cases hE
  have nJ : ∀ b, SB st ops S i b -> SE st ops S E b := fun b hb => gJ uR b hb; have EN : ∀ b, SB st ops S i b -> b < (st i).h.next := T.ab1 iW (by omega) (T.QN nV i); have JN : ∀ b, hm.next <= b -> b < h'.next -> ¬ SE st ops S E b := fun b h1 h2 => T.JL iW hi hE ⟨h1, by rw [fH]; exact h2⟩
  have CJ : ∀ b, SE st ops S (fun j => E j || j == i) b ↔ SE st ops S E b \/ (hm.next <= b /\ b < h'.next) := fun b => by
    constructor
    . rintro (hb | ⟨m, h1, h2, h3⟩)
      . exact .inl (.inl hb)
      by_cases am9 : m = i
      . subst am9; exact .inr ⟨h3.1, by rw [<- fH]; exact h3.2⟩
      exact .inl (.inr ⟨m, by simpa [am9] using h1, h2, h3⟩)
    rintro (hb | ⟨h1, h2⟩)
    . exact gJ (fun m hm => by simp [hm]) b hb
    exact .inr ⟨i, by simp, hi, h1, by rw [fH]; exact h2⟩
  have Y3 : ∀ b, SE st ops S (fun j => E j || j == i) b -> b < (st ops.size).h.next := fun b hb => by
    rcases hb with hb | ⟨m, h1, h2, h3⟩
    . have := T.next 0 ops.size (by omega) (by omega); rw [T.zero] at this; exact Nat.lt_of_lt_of_le (iW b hb) this
    have := T.next (m + 1) ops.size (by omega) (by omega); exact Nat.lt_of_lt_of_le h3.2 this
  have Y4 : 0 < (st ops.size).h.next := by have := qM.pos; rwa [I.next] at this
  have QT : ∀ k, (fun j => E j || j == i) k = true -> ∀ m, (nW st ops k).testBit m = true -> (fun j => E j || j == i) m = true := fun k QU m hm' => by
    by_cases gT : k = i
    . subst gT; simp [uR m hm']
    simp [I.down k (by simpa [gT] using QU) m hm']
  have sE : ∀ cP : Ren, ∀ b, Ext (SB st ops S i) hm h' b -> cl st ops S i b := fun _ b hb => by
    rcases hb with hb | hb
    . exact gJ (fun m hm => .inr hm) b hb
    exact .inr ⟨i, .inl rfl, hi, hb.1, by rw [fH]; exact hb.2⟩
  have tA : 0 < (st i).h.next := by omega
  have at2 := T.low (i + 1) ops.size (by omega) (Nat.le_refl _); have anJ : ∀ b, SE st ops S E b -> b ≠ 0 := fun b hb => (qM.ids b hb).2
  -- the part's relation, out of what is known of its objects
  have amA : (∀ b o, hm.get b = some o -> H.get b = some o) -> (∀ b o, hm.get b = some o -> SB st ops S i b /\ kQ P ρ (SB st ops S i) (ρ b) w o) -> HR P ρ (SB st ops S i) B w0 hm w := fun gY T0 => {
    aB := T0
    inj := fun a b oa ob ha hb => qM.inj a b oa ob (gY a oa ha) (gY b ob hb)
    base := fun b o' hb => qM.base b o' (gY b o' hb)
    ro := fun b o' hb => qM.ro b o' (gY b o' hb)
    ids := fun b hb => ⟨EN b hb, anJ b (nJ b hb)⟩
    pos := tA
    below := qM.below
    drawn := qM.drawn
    size := qM.size }
  -- what is new, in a heap of new objects ahead of old ones
  have rA : ∀ (aB : List (Nat × aU)) b, look (bE (st i).h.next h'.next h'.aB ++ aB) b = (look (bE (st i).h.next h'.next h'.aB) b).or (look aB b) := fun aB b => iB _ _ _
  have I8 : ∀ b, SE st ops S E b -> look (bE (st i).h.next h'.next h'.aB) b = none := fun b hb => by
    cases hl : look (bE (st i).h.next h'.next h'.aB) b with
    | none => rfl
    | some o' =>
      obtain ⟨⟨h1, h2⟩, _⟩ := dS _ _ _ hl; exact absurd hb (JN b h1 h2)
  have QV : ∀ b o', H.get b = some o' -> SE st ops S E b := fun b o' hg => (qM.aB b o' hg).1
  -- behind a step that turns something old
  have OL : (∀ b o, hm.get b = some o -> H.get b = some o) -> HR P ρ (SB st ops S i) B w0 hm w -> ord = true -> (st (i + 1)).h.low = min (st i).h.low h'.low -> (st (i + 1)).h.aB = h'.aB -> (st (i + 1)).tail = true ->
      (∀ b, SE st ops S E b -> b < h0.next -> hm.get b = H.get b) -> ∀ cP w1 v1 a', aO P B w0 ρ cP (SB st ops S i) hm h' w w1 -> VR cP (Ext (SB st ops S i) hm h') v v1 -> a'.defers = a.defers ->
      (∀ iS, (∀ b, SE st ops S E b -> iS b = ρ b) -> VR iS (cl st ops S i) v v1 -> CP st ops n t0 S (fun j => E j || j == i) iS a'.tmps) ->
      ∃ iS H2, Inv P B w0 st ops n t0 h0 S ρ0 ws d0 (fun j => E j || j == i) iS H2 w1 a' := by
    intro gY sZ NG dN tB ht gA cP w1 v1 a' m hv hd JM
    have bX : ∀ b, SE st ops S E b -> b < (st i).h.next := fun b hb => by
      rcases hb with hb | ⟨k, h1, h2, h3⟩
      . have := iW b hb; omega
      by_cases gT : k < i
      . have := T.next (k + 1) i (by omega) (by omega); exact Nat.lt_of_lt_of_le h3.2 this
      by_cases hke : k = i
      . subst hke; rw [hE] at h1; cases h1
      exact (later ht k (T.CN h2 h3) (by omega) h1).elim
    have hL : min (st ops.size).h.low h0.next <= h'.low := by
      have h1 : (st (i + 1)).h.low <= h'.low := by rw [dN]; exact Nat.min_le_right _ _
      have h2 : min (st ops.size).h.low h0.next <= (st ops.size).h.low := Nat.min_le_left _ _; omega
    have JO := CI (H2 := { next := (st ops.size).h.next, low := 0, aB := h'.aB }) (S2 := SE st ops S (fun j => E j || j == i)) (L := min (st ops.size).h.low h0.next) qM nJ gY sZ m JN CJ Y3 Y4
      (fun _ _ _ _ => hL)
      (fun b o' hb hg => by
        obtain ⟨o2, h3, _⟩ := m.old b o' hg (bX b hb)
        exact .inl ⟨by rw [h3]; simp, hg⟩)
      (fun b o' hb hg => by
        rcases (m.hr.aB b o' hg).1 with h3 | h3
        . exact absurd (nJ b h3) hb
        exact ⟨h3, hg⟩)
      (fun b hb wX => by
        have h3 : b < h0.next := Nat.lt_of_lt_of_le wX (Nat.min_le_right _ _); have h4 := m.aV b (bX b hb) (by omega)
        exact h4.trans (gA b hb h3))
    have fR : ∀ b, SE st ops S E b -> glue (SE st ops S E) ρ cP b = ρ b := fun b hb => jJ hb; refine ⟨_, _, I.cC.trans JO, .inr ⟨i + 1, by omega, ht, fun b => ?_, fun k mK => ?_⟩, JM _ fR ?_, hd.trans I.defers, rfl, QT⟩
    . show look h'.aB b = look (st (i + 1)).h.aB b; rw [tB]
    . constructor
      . intro h3; by_cases gT : k = i
        . omega
        have h4 : E k = true := by simpa [gT] using h3
        have h5 : ¬ i < k := fun h5 => later ht k mK h5 h4; omega
      intro h3; by_cases gT : k = i
      . simp [gT]
      simp [uR k (vF NG k (by omega) mK)]
    refine hv.mono fun b hb => ⟨sE ρ b hb, ?_⟩; rcases hb with hb | hb
    . rw [jJ (nJ b hb), m.agree b hb]
    exact sP (JN b hb.1 hb.2)
  rcases I.mode with A | ⟨p, Bm⟩
  . -- nothing old has been turned
    have ht : (st i).tail = false := by
      cases h : (st i).tail with
      | false => rfl
      | true =>
        obtain ⟨k, h1, h2, h3⟩ := T.B8 i (by omega) h; rw [A.calm k (uR k (vF (lX h) k h1 h2)) h2] at h3; cases h3
    obtain ⟨sb1, sb2, sb3⟩ := T.QQ (fun b o' hg => iW b (HV b o' hg)) i (by omega) ht
    have fK : ∀ b o', hm.get b = some o' -> (st i).h.get b = some o' /\ ∀ k, k < i -> vE st k b -> (nW st ops i).testBit k = true := fun b o' hg => by
      cases hb : ord with
      | true =>
        have gO : (st i).h.get b = some o' := by
          have : look (bif ord then (st i).h.aB else mask (aJ (st i).bs o) (st i).segs (st i).h.aB) b = some o' := hg; rw [hb] at this; exact this
        exact ⟨gO, fun k hk hs => vF hb k hk (T.CN (by omega) hs)⟩
      | false =>
        have : look (bif ord then (st i).h.aB else mask (aJ (st i).bs o) (st i).segs (st i).h.aB) b = some o' := hg; rw [hb] at this; obtain ⟨h3, h4⟩ := JG _ _ _ _ this; refine ⟨h3, fun k hk hs => ?_⟩; rw [<- AF]; exact h4 k _ _ (T.EI i (by omega) k hk (T.CN (by omega) hs)) hs.1 hs.2
    have afU : ∀ b o', hm.get b = some o' -> H.get b = some o' /\ (S b \/ ∃ k, (nW st ops i).testBit k = true /\ k < ops.size /\ vE st k b) := fun b o' hg => by
      obtain ⟨h3, h4⟩ := fK b o' hg; have h5 := sb3 b o' h3; by_cases hb : b < h0.next
      . rw [sb1 b hb] at h3; rw [A.base b hb]; exact ⟨h3, .inl (HV b o' h3)⟩
      obtain ⟨k, h6, h7⟩ := T.cover i (by omega) b (by omega) h5; have h8 := h4 k h6 h7; rw [A.news k (uR k h8) (by omega) b h7, <- sb2 k h6 b h7]; exact ⟨h3, .inr ⟨k, h8, by omega, h7⟩⟩
    have gY : ∀ b o', hm.get b = some o' -> H.get b = some o' := fun b o' hg => (afU b o' hg).1
    have sZ := amA gY fun b o' hg => by
      obtain ⟨h3, h4⟩ := afU b o' hg; rcases h4 with h4 | ⟨k, h5, h6, h7⟩
      . exact ⟨.inl h4, (A.afQ b o' h4 h3).mono fun b hb => ⟨.inl hb, rfl⟩⟩
      refine ⟨.inr ⟨k, h5, h6, h7⟩, (A.afR k (uR k h5) h6 b o' h7 h3).mono fun b hb => ⟨gJ (fun m hm => ?_) b hb, rfl⟩⟩; rcases hm with hm | hm
      . rw [hm]; exact h5
      exact T.OJ nV i k m h5 hm
    refine ⟨sZ, ?_⟩; rcases hk with ⟨dN, anK, tB, mI⟩ | ⟨NG, dN, tB, mI⟩
    . intro cP w1 v1 a' m hv hd JM
      have JO := CI (H2 := { next := (st ops.size).h.next, low := 0, aB := bE (st i).h.next h'.next h'.aB ++ H.aB }) (S2 := SE st ops S (fun j => E j || j == i)) (L := min (st ops.size).h.low h0.next) qM nJ gY sZ m JN CJ Y3 Y4
        (fun _ _ _ _ => by have : min (st ops.size).h.low h0.next <= h0.next := Nat.min_le_right _ _; omega)
        (fun b o' hb hg => by
          have gO : look (bE (st i).h.next h'.next h'.aB ++ H.aB) b = some o' := hg; rw [rA, I8 b hb] at gO; have CQ : H.get b = some o' := (show look H.aB b = some o' by simpa using gO)
          cases hq : hm.get b with
          | none => exact .inr ⟨rfl, CQ⟩
          | some o2 =>
            have h3 := gY b o2 hq; rw [CQ] at h3; injection h3 with h3; subst h3; have h4 : b < hm.next := EN b (sZ.aB b o' hq).1; refine .inl ⟨by simp, ?_⟩; rw [m.aV b h4 (Nat.lt_of_lt_of_le h4 dN)]
            exact hq)
        (fun b o' hb hg => by
          have gO : look (bE (st i).h.next h'.next h'.aB ++ H.aB) b = some o' := hg; rw [rA] at gO
          cases hl : look (bE (st i).h.next h'.next h'.aB) b with
          | none =>
            rw [hl] at gO
            exact absurd (QV b o' (show look H.aB b = some o' by simpa using gO)) hb
          | some o2 =>
            rw [hl] at gO; simp only [Option.some_or, Option.some.injEq] at gO; subst gO
            exact dS _ _ _ hl)
        (fun b hb _ => by
          show look (bE (st i).h.next h'.next h'.aB ++ H.aB) b = H.get b; rw [rA, I8 b hb]
          rfl)
      have fR : ∀ b, SE st ops S E b -> glue (SE st ops S E) ρ cP b = ρ b := fun b hb => jJ hb
      have hgl : ∀ b, Ext (SB st ops S i) hm h' b -> cl st ops S i b /\ glue (SE st ops S E) ρ cP b = cP b := fun b hb => by
        refine ⟨sE ρ b hb, ?_⟩; rcases hb with hb | hb
        . rw [jJ (nJ b hb), m.agree b hb]
        exact sP (JN b hb.1 hb.2)
      have gA : ∀ b, SE st ops S E b -> look (bE (st i).h.next h'.next h'.aB ++ H.aB) b = H.get b := fun b hb => by
        rw [rA, I8 b hb]; rfl
      refine ⟨_, _, I.cC.trans JO, .inl ⟨fun k QU mK => ?_, fun b hb => ?_, fun k QU AE b hs => ?_, fun b o' hb hg => ?_, fun k QU AE b o' hs hg => ?_⟩, JM _ fR (hv.mono hgl), hd.trans I.defers, rfl, QT⟩
      . by_cases gT : k = i
        . subst gT; rw [mI]; exact ht
        exact A.calm k (by simpa [gT] using QU) mK
      . show look (bE (st i).h.next h'.next h'.aB ++ H.aB) b = h0.get b; rw [rA]
        cases hl : look (bE (st i).h.next h'.next h'.aB) b with
        | none => exact A.base b hb
        | some o2 => have := (dS _ _ _ hl).1; omega
      . show look (bE (st i).h.next h'.next h'.aB ++ H.aB) b = look (st (k + 1)).h.aB b; by_cases gT : k = i
        . subst gT; rw [tB, rA, rA]; congr 1
          have JP : look H.aB b = none := by
            cases hq : look H.aB b with
            | none => rfl
            | some o2 => exact absurd (QV b o2 hq) (T.JL iW hi hE hs)
          have sK : look (st k).h.aB b = none := by
            cases hq : look (st k).h.aB b with
            | none => rfl
            | some o2 => have h3 := sb3 b o2 hq; have h4 := hs.1; omega
          rw [JP, sK]
        have AD : E k = true := by simpa [gT] using QU
        rw [gA b (.inr ⟨k, AD, AE, hs⟩)]; exact A.news k AD AE b hs
      . have gO : look (bE (st i).h.next h'.next h'.aB ++ H.aB) b = some o' := hg; rw [gA b (.inl hb)] at gO; exact EM.on (fun b hb => .inl hb) (A.afQ b o' hb gO) fR (.inl hb) (JO.hr.aB b o' hg).2
      by_cases gT : k = i
      . subst gT; have gO : look (bE (st k).h.next h'.next h'.aB ++ H.aB) b = some o' := hg; rw [rA] at gO
        cases hl : look (bE (st k).h.next h'.next h'.aB) b with
        | none =>
          rw [hl] at gO
          exact absurd (QV b o' (show look H.aB b = some o' by simpa using gO)) (T.JL iW hi hE hs)
        | some o2 =>
          rw [hl] at gO; simp only [Option.some_or, Option.some.injEq] at gO; subst gO; have h3 := (dS _ _ _ hl).2; obtain ⟨h4, h5⟩ := m.hr.aB b o2 h3; rw [(hgl b h4).2]; exact h5.mono hgl
      have AD : E k = true := by simpa [gT] using QU
      have gO : look (bE (st i).h.next h'.next h'.aB ++ H.aB) b = some o' := hg; rw [gA b (.inr ⟨k, AD, AE, hs⟩)] at gO; exact EM.on (QS I.down AD) (A.afR k AD AE b o' hs gO) fR (.inr ⟨k, AD, AE, hs⟩) (JO.hr.aB b o' hg).2
    refine OL gY sZ NG dN tB mI fun b hb wX => ?_; show look (bif ord then (st i).h.aB else mask (aJ (st i).bs o) (st i).segs (st i).h.aB) b = H.get b; rw [NG, A.base b wX]; exact sb1 b wX
  -- something old has been turned
  have hpi : p <= i := by
    have h1 := Bm.all i Y2; rw [hE] at h1
    have : ¬ i < p := fun h => by have := h1.2 h; cases this
    omega
  have NG : ord = true := lX (T.tail p i hpi (by omega) Bm.tail)
  have hqh : ∀ q, p <= q -> q <= i -> (st q).h = (st p).h := fun q => by
    induction q with
    | zero => intro h1 _; have : p = 0 := by omega
              subst this; rfl
    | succ q ih =>
      intro h1 h2; by_cases hq : p = q + 1
      . subst hq; rfl
      have QW : ops[q]? = some ops[q] := Array.getElem?_eq_getElem (by omega); rcases T.wV q _ QW with ⟨h3, _⟩ | ⟨_, _, _, h3, _⟩
      . exfalso; have h4 := uR q (vF NG q (by omega) h3); have := (Bm.all q h3).1 h4; omega
      rw [h3]; exact ih (by omega) (by omega)
  have hih := hqh i hpi (Nat.le_refl _)
  have QX : ∀ b, hm.get b = H.get b := fun b => by
    show look (bif ord then (st i).h.aB else mask (aJ (st i).bs o) (st i).segs (st i).h.aB) b = H.get b; rw [NG, Bm.get b, <- hih]; rfl
  have gY : ∀ b o', hm.get b = some o' -> H.get b = some o' := fun b o' hg => by rw [<- QX]; exact hg
  have hEB : ∀ b, SE st ops S E b -> SB st ops S i b := fun b hb => by
    rcases hb with hb | ⟨k, h1, h2, h3⟩
    . exact .inl hb
    have mK := T.CN h2 h3; have := (Bm.all k mK).1 h1; exact .inr ⟨k, vF NG k (by omega) mK, h2, h3⟩
  have sZ := amA gY fun b o' hg => by
    obtain ⟨h3, h4⟩ := qM.aB b o' (gY b o' hg); exact ⟨hEB b h3, h4.mono fun b hb => ⟨hEB b hb, rfl⟩⟩
  refine ⟨sZ, ?_⟩; rcases hk with ⟨dN, anK, tB, mI⟩ | ⟨_, dN, tB, mI⟩
  . intro cP w1 v1 a' m hv hd JM; have bX : ∀ b, SE st ops S E b -> b < (st i).h.next := fun b hb => EN b (hEB b hb)
    have gA : ∀ b, SE st ops S E b -> look (bE (st i).h.next h'.next h'.aB ++ (st i).h.aB) b = hm.get b := fun b hb => by
      rw [rA, I8 b hb, QX, Bm.get b, <- hih]; rfl
    have JO := CI (H2 := { next := (st ops.size).h.next, low := 0, aB := bE (st i).h.next h'.next h'.aB ++ (st i).h.aB }) (S2 := SE st ops S (fun j => E j || j == i)) (L := min (st ops.size).h.low h0.next) qM nJ gY sZ m JN CJ Y3 Y4
      (fun _ _ _ _ => by have : min (st ops.size).h.low h0.next <= h0.next := Nat.min_le_right _ _; omega)
      (fun b o' hb hg => by
        have gO : look (bE (st i).h.next h'.next h'.aB ++ (st i).h.aB) b = some o' := hg; rw [gA b hb] at gO; have h4 := bX b hb; refine .inl ⟨by rw [gO]; simp, ?_⟩; rw [m.aV b h4 (Nat.lt_of_lt_of_le h4 dN)]
        exact gO)
      (fun b o' hb hg => by
        have gO : look (bE (st i).h.next h'.next h'.aB ++ (st i).h.aB) b = some o' := hg; rw [rA] at gO
        cases hl : look (bE (st i).h.next h'.next h'.aB) b with
        | none =>
          rw [hl] at gO
          have h3 : H.get b = some o' := by rw [Bm.get b, <- hih]; exact (show look (st i).h.aB b = some o' by simpa using gO)
          exact absurd (QV b o' h3) hb
        | some o2 =>
          rw [hl] at gO; simp only [Option.some_or, Option.some.injEq] at gO; subst gO
          exact dS _ _ _ hl)
      (fun b hb _ => by
        show look (bE (st i).h.next h'.next h'.aB ++ (st i).h.aB) b = H.get b
        rw [gA b hb, QX])
    have fR : ∀ b, SE st ops S E b -> glue (SE st ops S E) ρ cP b = ρ b := fun b hb => jJ hb; refine ⟨_, _, I.cC.trans JO, .inr ⟨i + 1, by omega, ?_, fun b => ?_, fun k mK => ?_⟩, JM _ fR ?_, hd.trans I.defers, rfl, QT⟩
    . rw [mI]; exact T.tail p i hpi (by omega) Bm.tail
    . show look (bE (st i).h.next h'.next h'.aB ++ (st i).h.aB) b = look (st (i + 1)).h.aB b; rw [tB]
    . by_cases gT : k = i
      . subst gT; simp
      have h3 := Bm.all k mK; simp only [beq_iff_eq, gT, or_false, Bool.or_eq_true]; rw [h3]; constructor
      . intro; omega
      intro h4; refine (Bm.all k mK).1 (uR k (vF NG k (by omega) mK))
    refine hv.mono fun b hb => ⟨sE ρ b hb, ?_⟩; rcases hb with hb | hb
    . rw [jJ (nJ b hb), m.agree b hb]
    exact sP (JN b hb.1 hb.2)
  exact OL gY sZ NG dN tB mI fun b _ _ => QX b
end
end Go.Fs
