/- Parts of the proof: an evaluator of the model, what it is sound for, and contracts of functions. No condition. -/
import Derived.Test.YthedpadpeakecaaGreatDoorP3
import Derived.Test.YthedpadpeakecaaGreatDoorP2
import Derived.Laws.Strings
import Derived.Test.YthedpadpeakecaaGreatDoorP0
set_option linter.all false
namespace Go.Fs
variable {P : Program} {orc : FuncId → List Value → Heap → Option (Value × Heap)} {h : Heap} {σ : Sto} {fl : VL} {n i mem : Nat} {l : List Oper} {K : VL → Sto → Prop} {ops : Array Oper} {bs nw0 : List Nat} {tail so : Bool}
theorem VD.nw (nw1 : List Nat) (hk : VD P orc ops n l i fl nw1 σ so bs mem tail K) (he : nw0 = nw1 := by rfl) : VD P orc ops n l i fl nw0 σ so bs mem tail K := he ▸ hk
theorem VF.oracle {f : FuncId} {τ : Ty} {dv : τ.den} {v : Value} (ho : ∀ h : Heap, orc f [] h = some (v, h)) (hv : ∀ (h : Heap) (S : List Nat), RepPV h S (.v τ dv) v) : VF P orc f [] (.v τ dv) := fun h S us hok hS hr => by
  obtain rfl : us = [] := by
    cases us with
    | nil => rfl
    | cons a r => cases hr
  exact EvF.oracle (ho h) ⟨Aft.refl _ _, hv h S, fun _ => rfl⟩
end Go.Fs
namespace Go.Fs
variable {P : Program} {h : Heap} {S : List Nat}
def eqF (E : Ty → TypeId → Bool) : List Field → Nat → Ty → Bool
  | [], _, .unit => true
  | f :: r, o, .pair a b => (!(f.name == "_") && Nat.beq f.offset o && E a f.type && eqF E r (o + a.size) b) || (r.isEmpty && !(f.name == "_") && Nat.beq f.offset o && E (.pair a b) f.type)
  | [f], o, τ => !(f.name == "_") && Nat.beq f.offset o && E τ f.type
  | _, _, _ => false
def eqV (P : Program) : Nat → Ty → TypeId → Bool
  | 0, _, _ => false
  | d + 1, τ, T => valB P T τ && match P.underlying T, τ with
    | some (.int k), .int k' => k == k'
    | some .bool, .bool => true
    | some .string, .str => true
    | some (.struct fs), .pair a b => !P.stoodInHeld T && eqF (eqV P d) fs.toList 0 (.pair a b)
    | _, _ => false
theorem bytes_beq_t {x y : ByteArray} (he : x = y) : (x == y) = true := by
  subst he; show (x.data == x.data) = true; simp
theorem bytes_beq_f {x y : ByteArray} (he : ¬ x = y) : (x == y) = false := by
  show (x.data == y.data) = false; simp only [beq_eq_false_iff_ne, ne_eq]; exact fun hd => he (ByteArray.ext hd)
structure EqT (P : Program) (T : TypeId) (τ : Ty) : Prop where
  eq : eqV P 40 τ T = true
  guard : P.eqGuardType P.depth T = false
  agg : τ.agg = true
  flat : τ.isFlat = true
variable {fl : VL} {σ : Sto} {x y : Operand} {T T' : TypeId} {τ : Ty}
theorem bytes_list {a b : ByteArray} : (a.toList == b.toList) = decide (a = b) := by
  rw [ByteArray.toList_eq, ByteArray.toList_eq]; by_cases h : a = b
  · subst h; simp
  rw [decide_eq_false h, beq_eq_false_iff_ne]; exact fun he => h (ByteArray.ext (Array.toList_inj.1 he))
variable {p q : ByteArray}
theorem CalmV.binS (b : BinOp) {u : Value} {v : PV} (hx : evV fl x = some (.v .str p)) (hy : evV fl y = some (.v .str q)) (hu : runPure P (Op.stringOp b p q) = some u) (hf : af u = true) (hb : ∀ T : TypeId, (do eqGuard b T x y (.string p) (.string q); binOp b T (.string p) (.string q)) = Op.stringOp b p q) (hv : ∀ h S, RepPV h S v u) : CalmV P fl σ (.binOp b T x y T') v :=
  .bin hx hy fun h S a c ha hc => by
    obtain rfl := RepV.str ha; obtain rfl := RepV.str hc; refine ⟨u, hv h S, rfl, ?_⟩; unfold purely; rw [hb, hu]; simp only [Option.bind_some, hf, if_true]
theorem CalmV.seql (hx : evV fl x = some (.v .str p) := by rfl) (hy : evV fl y = some (.v .str q) := by rfl) : CalmV P fl σ (.binOp .eql T x y T') (.v .bool (decide (p = q))) :=
  .binS .eql hx hy (u := .bool (decide (p = q))) (by rw [← bytes_list]; rfl) rfl (fun _ => rfl) fun h S => RepV.ofBool _
theorem CalmV.sneq (hx : evV fl x = some (.v .str p) := by rfl) (hy : evV fl y = some (.v .str q) := by rfl) : CalmV P fl σ (.binOp .neq T x y T') (.v .bool (decide (p ≠ q))) :=
  .binS .neq hx hy (u := .bool (decide (p ≠ q))) (by rw [decide_not, ← bytes_list]; rfl) rfl (fun _ => rfl) fun h S => RepV.ofBool _
theorem CalmV.sadd (hb : p.size + q.size ≤ 1000000) (hx : evV fl x = some (.v .str p) := by rfl) (hy : evV fl y = some (.v .str q) := by rfl) : CalmV P fl σ (.binOp .add T x y T') (.v .str (p ++ q)) :=
  .binS .add hx hy (u := .string (p ++ q)) (by
    unfold Op.stringOp
    have h1 : IntKind.i64.max = 9223372036854775807 := by decide
    simp only []
    rw [if_neg (by omega)]; rfl) rfl (fun _ => rfl) fun h S => RepV.ofStr _
end Go.Fs
namespace Go.Fs
variable {P : Program} {fl : VL} {σ γ : Sto} {Q : PV → Sto → Prop} {fn : Func}
theorem VEndG.cap {r : ResultVar} {w : Value} {e : TypeId} {k : Nat} {τ : Ty} {xs : List τ.den} (hr : fn.results = #[r]) (h1 : EndV P fl [] r (.raw w)) (hc : (w, Cell.cap e k τ xs) ∈ σ) (hQ : Q (.raw w) σ) : VEndG P fn γ Q .ret fl σ :=
  ⟨rfl, [.raw w], by rw [hr]; exact .cons h1 .nil, hQ, .inl ⟨w, e, k, τ, xs, rfl, hc⟩⟩
end Go.Fs
namespace Go.Fs
variable {P : Program} {orc : FuncId → List Value → Heap → Option (Value × Heap)}
theorem repl_int {k : IntKind} {x : Int} (h : Heap) (S : List Nat) (us : List Value) (hr : RepL h S [.v (.int k) x] us) : us = [.int k x] := by
  obtain ⟨u, r, rfl, h1, h2⟩ := hr
  cases r with
  | nil => rw [RepV.int h1]
  | cons a r => cases h2
theorem slI {fl : VL} {k : Nat} {κ : IntKind} {a b : Int} (hk : lkV fl k = some (.v (.int κ) a)) (h : a = b) : lkV fl k = some (.v (.int κ) b) := by rw [hk, h]
theorem pvI {κ : IntKind} {a b : Int} (h : a = b) : PV.v (.int κ) a = PV.v (.int κ) b := by rw [h]
section
variable {h0 : Heap} {S0 : List Nat} {σ : Sto} {ms : List Nat} {fl : VL} {ops : Array Oper} {n i mem : Nat} {l : List Oper} {K : VL → Sto → Prop}
  {d : Tmp} {ty : TypeId} {pos : String} {after : Array Edge} {op : Op} {v : PV} {g : Option (Nat × Bool)} {bs nw : List Nat} {tail so : Bool}
end
end Go.Fs
namespace Go.Fs
variable {P : Program} {orc : FuncId → List Value → Heap → Option (Value × Heap)} {rnd : Option Nat} {h h' h0 h1 h2 : Heap} {S S' S0 G : List Nat} {σ σ' σr γ γ' : Sto} {t t' : Tr} {ms : List Nat} {fl nw : VL} {ops : Array Oper} {n i mem : Nat} {l : List Oper} {K : VL → Sto → Prop} {Q : Ex → VL → Sto → Prop}
  {d : Tmp} {ty : TypeId} {pos : String} {after : Array Edge} {op : Op} {v pv : PV} {g : Option (Nat × Bool)} {bs nw0 : List Nat} {tail so : Bool}
inductive ShutL (fl : VL) (γ : Sto) : VL → Prop where
  | nil : ShutL fl γ []
  | cons {k : Nat} {p p' : PV} {r : VL} (hk : lkV fl k = some p) (hc : Co γ p p') (hr : ShutL fl γ r) : ShutL fl γ ((k, p') :: r)
theorem Iv.forgetL : ∀ {γ : Sto}, Iv h0 G S0 h (γ ++ σ) t ms fl → Iv h0 G S0 h σ t ms (fl)
  | [], I => I
  | _ :: γ, I => Iv.forgetL (γ := γ) I.forget
theorem Iv.shutL (I : Iv h0 G S0 h (γ ++ σ) t ms fl) (hs : ShutL fl γ nw) : Iv h0 G S0 h σ t ms (nw ++ fl) := by
  have I' := I.forgetL
  have hsl : Slots h (own σ ++ S0) t (nw ++ fl) := by
    induction hs with
    | nil => exact I'.slots
    | cons hk hc hr ih =>
      refine ih.cons (Co.ok (σ := γ) (S0 := own σ ++ S0) (fun c hd => ?_) (fun b hb => ?_) hc ?_)
      · have := I.cells c (List.mem_append_left _ hd); rw [own_app, List.append_assoc] at this; exact this
      · have h1 := I.apart; rw [own_app] at h1; intro hm; rcases List.mem_append.1 hm with hm | hm
        · exact (List.nodup_append.1 h1).2.2 b hb b hm rfl
        exact (I.new b (by rw [own_app]; exact List.mem_append_left _ hb)).2 hm
      have := I.slots _ _ hk; rw [own_app, List.append_assoc] at this; exact this
  exact { I' with slots := hsl }
theorem VC.shutL {a : Code} (γ : Sto) (nw : VL) (hσ : γ ++ σ = σr) (hs : ShutL fl γ nw) (hx : VC P orc rnd a n (nw ++ fl) σ Q) : VC P orc rnd a n fl σr Q := fun h0 G S0 t h ms I => by
  subst hσ; exact hx h0 G S0 t h ms (I.shutL hs)
end Go.Fs
namespace Go.Fs
variable {P : Program} {orc : FuncId → List Value → Heap → Option (Value × Heap)} {fl : VL} {σ γ : Sto} {T : TypeId} {τ : Ty}
theorem row_one {h : Heap} {S : List Nat} {w : Value} {e : TypeId} {xs : List τ.den} (hc : CellR h S w (.row e τ xs)) : oneCell w = true := by
  rcases hc with ⟨h1, _⟩ | ⟨b, rs, m, h1, _⟩
  · rw [show w = _ from h1]; rfl
  rw [show w = _ from h1]; rfl
theorem VO.one {orc : FuncId → List Value → Heap → Option (Value × Heap)} {ops : Array Oper} {n : Nat} {l : List Oper} {K : VL → Sto → Prop} {w : Value} {e : TypeId} {xs : List τ.den} (hm : (w, Cell.row e τ xs) ∈ σ) (hk : oneCell w = true → VO P orc ops n l fl σ K) : VO P orc ops n l fl σ K := fun h0 G S0 t h ms I => hk (row_one (I.cells _ hm)) h0 G S0 t h ms I
end Go.Fs
namespace Go.Fs
variable {P : Program}
theorem store_keep {t : TypeId} {a x : Value} {h h' : Heap} {b o : Nat} (ha : a = .pointer (some ⟨b, o, none⟩)) (hs : fsStore P t a x h = some h') (c : Nat) (hc : c ≠ b) : h'.get c = h.get c := by
  subst ha; unfold fsStore at hs; simp only at hs; split at hs
  · rename_i e cs more i hg hi; split at hs
    · simp only [Option.some.injEq] at hs; subst hs; rw [Heap.get_set hg, if_neg hc]
    cases hs
  cases hs
theorem grown_keep {e : TypeId} {m : Nat} {news : List Value} {h : Heap} {v : Value} {h' : Heap} (hg : grown e m news h = (v, h')) (c : Nat) (hc : c < h.next) : h'.get c = h.get c := by
  unfold grown at hg; simp only [Prod.mk.injEq] at hg; obtain ⟨_, rfl⟩ := hg; rw [Heap.get_push, if_neg (by omega)]
theorem grow_keep {e : TypeId} {i : TypeInfo} {s : Value} {m n mk b o : Nat} {news : List Value} {h h' : Heap} {v : Value} (ha : s = .slice (some ⟨b, o, none⟩) n mk) (hs : fsGrow e i s m news h = some (v, h')) (c : Nat) (hc : c ≠ b) (hn : c < h.next) : h'.get c = h.get c := by
  subst ha; unfold fsGrow at hs; simp only at hs
  cases h1 : (Nat.beq m 0 && Nat.beq mk 1) with
  | true =>
    rw [h1] at hs; simp only [cond_true, Option.some.injEq, Prod.mk.injEq] at hs
    rw [hs.2]
  | false =>
    rw [h1] at hs; simp only [cond_false] at hs
    cases hg : h.get b with
    | none => rw [hg] at hs; cases hs
    | some ob =>
      rw [hg] at hs
      cases ob with
      | row e' cs own more =>
        simp only at hs; obtain ⟨_, hs⟩ := bif_some hs
        cases h3 : Nat.beq mk 1 with
        | true =>
          rw [h3] at hs; simp only [cond_true, Option.some.injEq] at hs
          exact grown_keep hs c hn
        | false =>
          rw [h3] at hs; simp only [cond_false] at hs; obtain ⟨_, hs⟩ := bif_some hs
          cases h5 : Nat.ble (o + (n + m) * i.size) cs.length with
          | true =>
            rw [h5] at hs; simp only [cond_true, Option.some.injEq, Prod.mk.injEq] at hs; rw [← hs.2]
            cases Nat.beq m 0 with
            | true => rfl
            | false => simp only [cond_false]; rw [Heap.get_set hg, if_neg hc]
          | false =>
            rw [h5] at hs; simp only [cond_false] at hs
            cases more with
            | false =>
              simp only [Bool.not_false, cond_true, Option.some.injEq] at hs
              exact grown_keep hs c hn
            | true =>
              simp only [Bool.not_true, cond_false] at hs; obtain ⟨_, hs⟩ := bif_some hs; simp only [Option.some.injEq] at hs
              rw [grown_keep hs c hn, Heap.get_drop, if_neg hc]
      | _ => cases hs
theorem append_keep {at_ : Array TypeId} {s x : Value} {n mk b o : Nat} {h h' : Heap} {v : Value} (ha : s = .slice (some ⟨b, o, none⟩) n mk) (hs : fsAppend P at_ s x h = some (v, h')) (c : Nat) (hc : c ≠ b) (hn : c < h.next) : h'.get c = h.get c := by
  unfold fsAppend at hs; split at hs
  · split at hs
    · split at hs
      · split at hs
        · split at hs
          · obtain ⟨_, hs⟩ := bif_some hs; exact grow_keep ha hs c hc hn
          cases hs
        cases hs
      cases hs
    cases hs
  cases hs
theorem turned_keep {call : FuncId → List Value → Heap → Option (Value × Heap)} {yield : Nat → List Value → Heap → Option (Value × Heap)} {o : Oper} {ev : Operand → Value} {h h' : Heap} {v : Value} {k : Nat}
    (hs : fsOp P call yield o ev h = some (v, h')) (ht : turned o.op ev = some k) (c : Nat) (hc : c ≠ k) (hn : c < h.next) : h'.get c = h.get c := by
  unfold turned at ht; split at ht
  · rename_i T a x hop; split at ht
    · rename_i b o' hev; simp only [Option.some.injEq] at ht; subst ht; unfold fsOp at hs; rw [hop] at hs; simp only at hs; obtain ⟨h2, h3, h4⟩ := Option.map_eq_some_iff.1 hs; simp only [Prod.mk.injEq] at h4; rw [← h4.2]; exact store_keep hev h3 c hc
    cases ht
  · rename_i hop; split at ht
    · rename_i b o' n' mk' rest hev; simp only [Option.some.injEq] at ht; subst ht; unfold fsOp at hs; rw [hop] at hs; simp only at hs; unfold fsBuiltin at hs; rw [hev] at hs
      cases rest with
      | nil => cases hs
      | cons x rest =>
        cases rest with
        | nil => exact append_keep rfl hs c hc hn
        | cons y rest => cases hs
    cases ht
  cases ht
section
variable {h0 : Heap} {ops : Array Oper} {n : Nat} {call : FuncId → List Value → Heap → Option (Value × Heap)} {yield : Nat → List Value → Heap → Option (Value × Heap)}
structure LDid (P : Program) (call : FuncId → List Value → Heap → Option (Value × Heap)) (yield : Nat → List Value → Heap → Option (Value × Heap)) (ops : Array Oper) (n : Nat) (h0 : Heap) (rd chg : List Nat) (o : Oper) (i : Nat) (s s' : DSt) : Prop where
  bs : s'.bs = s.bs ++ [beforeOf s.bs o]
  did : Did (fsOp P call yield) ops n (fun b ob => h0.get b = some ob ∧ b < h0.next ∧ b ∈ rd) o i s s'
  next : s.h.next ≤ s'.h.next
  keep : ∀ b, b < s.h.next → b ∉ chg → s'.h.get b = s.h.get b
theorem Did.mono {step : Oper → (Operand → Value) → Heap → Option (Value × Heap)} {X X' : Nat → AObj → Prop} {o : Oper} {i : Nat} {s s' : DSt} (h : Did step ops n X o i s s') (hX : ∀ b ob, X b ob → X' b ob) : Did step ops n X' o i s s' := by
  cases h with
  | skip hw hp hh hs hm ht => exact .skip hw hp hh hs hm ht
  | calm hw hc v h' hst hn hp hh hs hm ht => exact .calm hw hc v h' hst hn hp hh hs hm ht
  | still hw v objs hX0 hst hp hh hs hm ht => exact .still hw v objs (fun b ob hl => hX b ob (hX0 b ob hl)) hst hp hh hs hm ht
  | mem hw hc v h' ord ho htail hst hn hp hm hs hnx hk => exact .mem hw hc v h' ord ho htail hst hn hp hm hs hnx hk
theorem LDid.mono {rd rd' chg chg' : List Nat} {o : Oper} {i : Nat} {s s' : DSt} (h : LDid P call yield ops n h0 rd chg o i s s') (h1 : ∀ b ∈ rd, b ∈ rd') (h2 : ∀ b ∈ chg, b ∈ chg') : LDid P call yield ops n h0 rd' chg' o i s s' :=
  ⟨h.bs, h.did.mono fun b ob ⟨a, b1, c⟩ => ⟨a, b1, h1 b c⟩, h.next, fun b hb hn => h.keep b hb fun hm => hn (h2 b hm)⟩
theorem newer_keep {lo hi : Nat} {l objs : List (Nat × AObj)} {c : Nat} (hc : c < lo) : look (newer lo hi l ++ objs) c = look objs c := by
  rw [look_append]
  cases hl : look (newer lo hi l) c with
  | none => rfl
  | some o => have := (newer_some _ _ _ hl).1; omega
theorem lateMem_did {o : Oper} {i : Nat} {x x' : LSt} (hw : fsWanted ops x.1.t o = some true) (hc : calm o.op = false) (hf : lateMem P (fsOp P call yield) ops n o i x = some x') :
    x'.2.1 = x.2.1 ∧ (∀ k ∈ x.2.2, k ∈ x'.2.2) ∧ LDid P call yield ops n h0 x'.2.1 x'.2.2 o i x.1 x'.1 := by
  unfold lateMem at hf; simp only at hf; generalize hord : Nat.beq (x.1.mem &&& beforeOf x.1.bs o) x.1.mem = ord at hf
  cases htl : (x.1.tail && !ord) with
  | true => rw [htl] at hf; cases hf
  | false =>
    rw [htl] at hf; simp only [cond_false] at hf
    have htail : x.1.tail = true → ord = true := fun h => by rw [h] at htl; simpa using htl
    split at hf
    · rename_i v h' hst
      cases hlt : Nat.blt h'.next x.1.h.next with
      | true => rw [hlt] at hf; cases hf
      | false =>
        rw [hlt] at hf; simp only [cond_false] at hf
        have hn : x.1.h.next ≤ h'.next := by have := nble_no hlt; omega
        split at hf
        · rename_i t hp
          cases hlow : Nat.ble x.1.h.next h'.low with
          | true =>
            rw [hlow] at hf; simp only [cond_true, Option.some.injEq] at hf; subst hf
            exact ⟨rfl, fun k hk => hk, rfl, .mem hw hc v h' ord hord.symm htail hst hn hp rfl rfl rfl (.inl ⟨nble hlow, rfl, rfl, rfl⟩), hn, fun b hb _ => newer_keep hb⟩
          | false =>
            rw [hlow] at hf; simp only [cond_false] at hf; obtain ⟨h5, h6⟩ := bif_some hf; split at h6
            · rename_i k hk; simp only [Option.some.injEq] at h6; subst h6; refine ⟨rfl, fun k' hk' => List.mem_cons_of_mem _ hk', rfl, .mem hw hc v h' ord hord.symm htail hst hn hp rfl rfl rfl (.inr ⟨h5, rfl, rfl, rfl⟩), hn, fun b hb hnb => ?_⟩; subst h5; have := turned_keep hst hk b (fun e => hnb (by subst e; exact List.mem_cons_self)) hb; exact this
            cases h6
        cases hf
    cases hf
theorem lateDraw_did {o : Oper} {i : Nat} {x x' : LSt} (hf : lateDraw P h0 (fsOp P call yield) ops n o i x = some x') :
    (∀ b ∈ x.2.1, b ∈ x'.2.1) ∧ (∀ k ∈ x.2.2, k ∈ x'.2.2) ∧ LDid P call yield ops n h0 x'.2.1 x'.2.2 o i x.1 x'.1 := by
  unfold lateDraw at hf; simp only at hf; split at hf
  · rename_i hw; obtain ⟨t, h1, h2⟩ := Option.map_eq_some_iff.1 hf; subst h2; exact ⟨fun _ h => h, fun _ h => h, rfl, .skip hw h1 rfl rfl rfl rfl, Nat.le_refl _, fun _ _ _ => rfl⟩
  · cases hf
  rename_i hw; split at hf
  · rename_i hc; split at hf
    · rename_i v h' hst; obtain ⟨h3, h4⟩ := bif_some hf; obtain ⟨t, h1, h2⟩ := Option.map_eq_some_iff.1 h4; subst h2; exact ⟨fun _ h => h, fun _ h => h, rfl, .calm hw hc v h' hst (nbeq h3) h1 rfl rfl rfl rfl, Nat.le_refl _, fun _ _ _ => rfl⟩
    cases hf
  rename_i hc
  have hc : calm o.op = false := by simpa using hc
  split at hf
  · rename_i v b hq; obtain ⟨t, h1, h2⟩ := Option.map_eq_some_iff.1 hf; subst h2; refine ⟨fun _ h => List.mem_append_right _ h, fun _ h => h, rfl, ?_, Nat.le_refl _, fun _ _ _ => rfl⟩; unfold quietV at hq; split at hq
    · rename_i T a hop; split at hq
      · rename_i b' o' hev; split at hq
        · rename_i ob hg; obtain ⟨h3, h4⟩ := bif_some hq; obtain ⟨v', h5, h6⟩ := Option.map_eq_some_iff.1 h4; simp only [Prod.mk.injEq] at h6; obtain ⟨rfl, rfl⟩ := h6; refine .still hw v' [(b', ob)] (fun c oc hl => ?_) ?_ h1 rfl rfl rfl rfl
          · simp only [look] at hl
            cases hbc : Nat.beq b' c with
            | true =>
              rw [hbc] at hl; simp only [cond_true, Option.some.injEq] at hl; obtain rfl := nbeq hbc; subst hl
              exact ⟨hg, nblt h3, List.mem_append_left _ List.mem_cons_self⟩
            | false => rw [hbc] at hl; cases hl
          unfold fsOp; rw [hop]; simp only [hev, h5, Option.map_some]
        cases hq
      cases hq
    · rename_i hop; split at hq
      · rename_i y hargs; obtain ⟨v', h5, h6⟩ := Option.map_eq_some_iff.1 hq; simp only [Prod.mk.injEq] at h6; obtain ⟨rfl, rfl⟩ := h6; refine .still hw v' [] (fun c oc hl => by cases hl) ?_ h1 rfl rfl rfl rfl; unfold fsOp; rw [hop]; simp only [fsBuiltin, hargs, List.map_cons, List.map_nil, h5, Option.map_some]
      cases hq
    · rename_i T a lo hi mx hop; split at hq
      · rename_i p' mk' hev; obtain ⟨v', h5, h6⟩ := Option.map_eq_some_iff.1 hq; simp only [Prod.mk.injEq] at h6; obtain ⟨rfl, rfl⟩ := h6; refine .still hw v' [] (fun c oc hl => by cases hl) ?_ h1 rfl rfl rfl rfl; unfold fsOp; rw [hop]; simp only [hev, h5, Option.map_some]
      · rename_i b' o' n' mk' hne hev; split at hq
        · rename_i ob hg; obtain ⟨h3, h4⟩ := bif_some hq; obtain ⟨v', h5, h6⟩ := Option.map_eq_some_iff.1 h4; simp only [Prod.mk.injEq] at h6; obtain ⟨rfl, rfl⟩ := h6; refine .still hw v' [(b', ob)] (fun c oc hl => ?_) ?_ h1 rfl rfl rfl rfl
          · simp only [look] at hl
            cases hbc : Nat.beq b' c with
            | true =>
              rw [hbc] at hl; simp only [cond_true, Option.some.injEq] at hl; obtain rfl := nbeq hbc; subst hl
              exact ⟨hg, nblt h3, List.mem_append_left _ List.mem_cons_self⟩
            | false => rw [hbc] at hl; cases hl
          unfold fsOp; rw [hop]; simp only [hev, h5, Option.map_some]
        cases hq
      cases hq
    cases hq
  obtain ⟨e1, e2, e3⟩ := lateMem_did (h0 := h0) hw hc hf; exact ⟨fun b hb => by rw [e1]; exact hb, e2, e3⟩
theorem late_trace : ∀ (l : List Oper) (i : Nat) (x x' : LSt), lateDrawn P h0 (fsOp P call yield) ops n l i x = some x' → (∀ b ∈ x.2.1, b ∈ x'.2.1) ∧ (∀ k ∈ x.2.2, k ∈ x'.2.2) ∧ ∃ st : Nat → DSt, st i = x.1 ∧ st (i + l.length) = x'.1 ∧
    ∀ j o, l[j]? = some o → LDid P call yield ops n h0 x'.2.1 x'.2.2 o (i + j) (st (i + j)) (st (i + j + 1))
  | [], i, x, x', h => by
    simp only [lateDrawn, Option.some.injEq] at h; subst h
    exact ⟨fun _ h => h, fun _ h => h, fun _ => x.1, rfl, rfl, fun j o hj => by simp at hj⟩
  | o :: l, i, x, x', h => by
    simp only [lateDrawn] at h; split at h
    · rename_i x1 hx1; obtain ⟨a1, a2, a3⟩ := lateDraw_did hx1; obtain ⟨b1, b2, st, h1, h2, h3⟩ := late_trace l (i + 1) x1 x' h; refine ⟨fun b hb => b1 b (a1 b hb), fun k hk => b2 k (a2 k hk), fun k => if k = i then x.1 else st k, by simp, ?_, fun j o' hj => ?_⟩
      · simp only [List.length_cons]; rw [if_neg (by omega), ← h2]; congr 1; omega
      cases j with
      | zero =>
        simp at hj; subst hj
        simpa [h1] using a3.mono b1 b2
      | succ j =>
        simp only [List.getElem?_cons_succ] at hj; have := h3 j o' hj; rw [show i + 1 + j = i + (j + 1) by omega] at this; simp only; rw [if_neg (by omega), if_neg (by omega)]; exact this
    cases h
theorem traceL_of {t0 : Tr} {s : DSt} (h : drawnL P h0 (fsOp P call yield) ops n ⟨t0, h0, [], [], 0, false⟩ = some s) : ∃ st, Trace (fsOp P call yield) ops n st t0 h0 ∧ st ops.size = s := by
  unfold drawnL at h; split at h
  · rename_i x hr; obtain ⟨hl, h⟩ := bif_some h; simp only [Option.some.injEq] at h; subst h; obtain ⟨_, _, st, h1, h2, h3⟩ := late_trace _ _ _ _ hr
    have h2' : st ops.size = x.1 := by simpa using h2
    have h3' : ∀ i o, ops[i]? = some o → LDid P call yield ops n h0 x.2.1 x.2.2 o i (st i) (st (i + 1)) := fun i o ho => by
      have := h3 i o (by simpa using ho); simpa only [Nat.zero_add] using this
    have hap : ∀ b ∈ x.2.1, b ∉ x.2.2 := fun b hb hk => by
      have := List.all_eq_true.1 (List.all_eq_true.1 hl b hb) b hk; simp at this
    have hst : ∀ q, q ≤ ops.size → h0.next ≤ (st q).h.next ∧ ∀ b, b < h0.next → b ∉ x.2.2 → (st q).h.get b = h0.get b := fun q => by
      induction q with
      | zero => intro _; rw [h1]; exact ⟨Nat.le_refl _, fun _ _ _ => rfl⟩
      | succ q ih =>
        intro hq; obtain ⟨i1, i2⟩ := ih (by omega); have hd := h3' q ops[q] (Array.getElem?_eq_getElem (by omega)); exact ⟨Nat.le_trans i1 hd.next, fun b hb hn => (hd.keep b (by omega) hn).trans (i2 b hb hn)⟩
    refine ⟨st, ⟨h1, fun i o ho => ?_⟩, h2'⟩; have hd := h3' i o ho; refine ⟨hd.bs, hd.did.mono fun b ob ⟨a, b1, c⟩ => ⟨a, b1, .inr fun q hq => ?_⟩⟩; rw [(hst q hq).2 b b1 (hap b c)]; exact a
  cases h
end
section
variable {call : FuncId → List Value → Heap → Option (Value × Heap)} {yield : Nat → List Value → Heap → Option (Value × Heap)} {ops : Array Oper} {n : Nat} {t0 : Tr} {h0 : Heap} {S : Nat → Prop} {ρ0 : Ren} {B : Nat} {w0 : World}
theorem drawn_wpL (hcs : CallSnd P B w0 call) (hys : YieldSound P B w0 yield) (hok : regionOk ops = true) {s : DSt} (hf : drawnL P h0 (fsOp P call yield) ops n ⟨t0, h0, [], [], 0, false⟩ = some s)
    {w : World} {a : Act} (hr : HR P ρ0 S B w0 h0 w) (ht : TrR ρ0 S t0 n a.tmps) {r : Option Nat} {nn : Nat} {Q : Exit → Act → World → Prop}
    (k : ∀ ρ' w' a', Moved P B w0 ρ0 ρ' S h0 s.h w w' → TrR ρ' (Ext S h0 s.h) s.t n a'.tmps → a'.defers = a.defers → Q .normal a' w') (t : Nat) :
    wpOpsIn (Wide r) nn P ops Q (Region.schedule true ops t) a w := drawn_wpT hcs hys hok (traceL_of hf) hr ht k t
end
end Go.Fs
