/- Parts of the proof: an evaluator of the model, what it is sound for, and contracts of functions. No condition. -/
import Derived.RangeFuncIn
import Derived.RangeFuncLeaves
import Derived.Orders
import Derived.Below
import Derived.Laws.CopyRow
set_option linter.all false
namespace Go.Fs
inductive Tr where
  | leaf
  | node (v : Value) (l r : Tr)
  deriving Inhabited
def Tr.get : Tr -> Nat -> Value
  | .leaf, _ => undef
  | .node v l r, i => match i with
    | 0 => v
    | k + 1 => bif Nat.beq (k % 2) 0 then l.get (k / 2) else r.get (k / 2)
def Tr.set : Nat -> Tr -> Nat -> Value -> Tr
  | 0, t, _, _ => t
  | f + 1, .leaf, i, x => match i with
    | 0 => .node x .leaf .leaf
    | k + 1 => bif Nat.beq (k % 2) 0 then .node undef (Tr.set f .leaf (k / 2) x) .leaf else .node undef .leaf (Tr.set f .leaf (k / 2) x)
  | f + 1, .node v l r, i, x => match i with
    | 0 => .node x l r
    | k + 1 => bif Nat.beq (k % 2) 0 then .node v (Tr.set f l (k / 2) x) r else .node v l (Tr.set f r (k / 2) x)
inductive bC where
  | row (e : TypeId) (cs : List Value) (own more : Bool)
  | oI (es : List MapEntry) (clock : Nat)
  | iter (s : ByteArray) (pos : Nat)
  | dM (st : LoopState) (jump : Option Code) (tmps : Tr) (n : Nat) (params : Array Tmp) (assign body : Code) (defers : Nat)
  | iP
  deriving Inhabited
structure U where
  next : Nat
  low : Nat
  aA : List (Nat × bC)
def look : List (Nat × bC) -> Nat -> Option bC
  | [], _ => none
  | (k, o) :: r, i => bif Nat.beq k i then some o else look r i
def U.get (h : U) (i : Nat) : Option bC := look h.aA i
def S4 : List (Nat × bC) -> Nat -> bC -> List (Nat × bC)
  | [], _, _ => []
  | (k, o) :: r, i, o' => bif Nat.beq k i then (k, o') :: r else (k, o) :: S4 r i o'
def del : List (Nat × bC) -> Nat -> List (Nat × bC)
  | [], _ => []
  | (k, o) :: r, i => bif Nat.beq k i then del r i else (k, o) :: del r i
def U.push (h : U) (o : bC) : U := { next := h.next + 1, low := h.low, aA := (h.next, o) :: h.aA }
def U.set (h : U) (i : Nat) (o : bC) : U := { next := h.next, low := min h.low i, aA := S4 h.aA i o }
def U.drop (h : U) (i : Nat) : U := { next := h.next, low := min h.low i, aA := del h.aA i }
def j9 : Value := .tuple #[.tuple #[]]
def tQ : Value -> Bool
  | .tuple ⟨[.tuple ⟨[]⟩]⟩ => true
  | _ => false
theorem ab8 {x : Value} (h : tQ x = false) : x ≠ j9 := fun e => by subst e; cases h
def eD : Value -> Bool
  | .bool _ | .int _ _ | .float _ _ | .complex _ _ _ | .string _ | .nilFunc | .nilIface | .pointer none | .map none | .chan none | .slice none 0 0 => true
  | _ => false
def oX : Value -> Bool
  | .agg cs => cs.toList.all eD
  | v => eD v
def af : Value -> Bool
  | .tuple vs => vs.toList.all oX
  | v => oX v
def aN : Value -> Bool
  | .agg _ | .tuple _ => false
  | _ => true
def aD {α : Type} (P : Program) : Sem α -> Option α
  | .pure a => some a
  | .program k => aD P (k P)
  | .mark _ k => aD P k
  | .load .. | .store .. | .new .. | .shape .. | .freeze .. | .frozen .. | .getObj .. | .setObj .. | .choose .. | .sys .. | .halt .. => none
def aB (t : Tr) : Operand -> Value
  | .tmp i => t.get i
  | .const v => if af v then v else j9
  | .global _ => j9
  | .func f => .func (.func f) #[] #[]
def big : Nat := 1000000000000
section
variable (P : Program)
def vV : TypeDesc -> Bool
  | .struct _ | .array _ _ => true
  | _ => false
def dD (t : TypeId) (v : Value) (h : U) : Option Value :=
  match v with
  | .pointer (some ⟨b, o, none⟩) =>
    match h.get b, P.underlying t, P.info? t with
    | some (.row _ cs _ _), some d, some i =>
      if vV d then (if o + i.size <= cs.length then some (.agg ((cs.drop o).take i.size).toArray) else none) else cs[o]?
    | _, _, _ => none
  | _ => none
def bF (cs : List Value) (o : Nat) (vs : List Value) : List Value := cs.take o ++ vs ++ cs.drop (o + vs.length)
def jJ (t : TypeId) (a x : Value) (h : U) : Option U :=
  match a with
  | .pointer (some ⟨b, o, none⟩) =>
    match h.get b, P.info? t with
    | some (.row e cs true more), some i =>
      let vs := x.cells.toList
      if vs.length = i.size /\ o + vs.length <= cs.length /\ vs.all aN = true then some (h.set b (.row e (bF cs o vs) true more)) else none
    | _, _ => none
  | _ => none
def rC (e : TypeId) (v : Value) (h : U) : Option (Value × U) :=
  if v.cells.toList.all aN then some (.pointer (some ⟨h.next, 0, none⟩), h.push (.row e v.cells.toList true false)) else none
def iQ (t : TypeId) (len : Nat) (parts : Array (Nat × Value)) (h : U) : Option (Value × U) :=
  match P.underlying t with
  | some (.slice e) =>
    match P.info? e with
    | some i =>
      bif Nat.beq len 0 then bif parts.toList.isEmpty then some (.slice (some ⟨h.next, 0, none⟩) 0 0, h.push (.row e [] true false)) else none
      else
        match i.zero with
        | some z =>
          bif Nat.ble (len * i.size) 16777216 && Nat.blt 0 i.size && z.cells.toList.all eD && parts.toList.all (fun p => p.2.cells.toList.all aN) then
            match Instr.fill (fun k => some (k * i.size, i.size)) ((Array.range (len * i.size)).map (z.cells[· % z.cells.size]!)) parts.toList with
            | some cells => some (.slice (some ⟨h.next, 0, none⟩) len 0, h.push (.row e cells.toList true false))
            | none => none
          else none
        | none => none
    | none => none
  | _ => none
def bR (z : Value) (n : Nat) : List Value := (List.range (n * z.cells.size)).map fun k => z.cells[k % z.cells.size]!
def oY (t : TypeId) (l c : Value) (h : U) : Option (Value × U) :=
  match P.underlying t, l, c with
  | some (.slice e), .int .i64 l, .int .i64 c =>
    match P.info? e with
    | some i =>
      match i.zero with
      | some z =>
        bif decide (0 <= l) && decide (l <= c) && decide (c <= 1099511627776) && Nat.ble (i.bytes * c.toNat) 1099511627776 && Nat.blt 0 i.size && Nat.beq z.cells.size i.size && z.cells.toList.all eD then
          some (.slice (some ⟨h.next, 0, none⟩) l.toNat 0, h.push (.row e (bR z c.toNat) true false))
        else none
      | none => none
    | none => none
  | _, _, _ => none
def cR : Option Value -> Nat -> Option Nat
  | none, d => some d
  | some (.int _ i), _ => if 0 <= i then some i.toNat else none
  | some _, _ => none
def l5 (e : TypeId) (b l mk : Nat) (h : U) : Nat :=
  bif Nat.beq l 0 then mk else bif Nat.beq mk 0 then
    match h.get b with
    | some (.row e' _ _ _) => bif Nat.beq e' e then 0 else 2
    | _ => 2
  else 2
def cutAt (size b o l k mk : Nat) : Value := bif Nat.blt l k || Nat.beq l 0 then .slice (some ⟨b, o + l * size, none⟩) (k - l) mk else .slice (some ⟨0, 0, none⟩) 0 2
def bS (t : TypeId) (x : Value) (lo hi mx : Option Value) (h : U) : Option Value :=
  match P.underlying t with
  | some .string =>
    bif af x && lo.all af && hi.all af && mx.all af then (aD P (Instr.sliceAt t x lo hi mx)).bind fun v => bif af v then some v else none else none
  | some (.slice e) =>
    match x with
    | .slice none 0 0 =>
      match cR lo 0, cR hi 0, cR mx 0 with
      | some 0, some 0, some 0 => bif mx.isNone || hi.isSome then (P.info? e).map fun _ => .slice none 0 0 else none
      | _, _, _ => none
    | .slice (some ⟨b, o, none⟩) n mk =>
      match P.info? e, cR lo 0, cR hi n with
      | some i, some l, some k =>
        match mx with
        | none =>
          bif Nat.ble l k && Nat.ble k n then
            some (cutAt i.size b o l k (bif Nat.beq mk 1 then (bif Nat.beq k n then 1 else 2) else l5 e b l mk h))
          else bif Nat.blt l k && Nat.beq mk 0 then
            match h.get b with
            | some (.row e' cs true _) => bif Nat.beq e' e && Nat.blt 0 i.size && Nat.ble (o + k * i.size) cs.length then some (cutAt i.size b o l k 0) else none
            | _ => none
          else none
        | some _ =>
          match hi, cR mx 0 with
          | some _, some m => bif Nat.ble l k && Nat.beq k m && Nat.ble k n then some (cutAt i.size b o l k 1) else none
          | _, _ => none
      | _, _, _ => none
    | _ => none
  | some (.array n e) =>
    match x with
    | .pointer (some ⟨b, o, none⟩) =>
      match P.info? e, cR lo 0, cR hi n, mx with
      | some i, some l, some k, none => bif Nat.blt l k && Nat.beq k n then some (.slice (some ⟨b, o + l * i.size, none⟩) (k - l) 1) else none
      | _, _, _, _ => none
    | _ => none
  | _ => none
def cellsOf (size n : Nat) (x : Value) (h : U) : Option (List Value) :=
  match x with
  | .slice none 0 0 => bif Nat.beq n 0 then some [] else none
  | .slice (some ⟨b, o, none⟩) k _ =>
    bif Nat.ble n k then
      bif Nat.beq (n * size) 0 then some []
      else match h.get b with
        | some (.row _ cs _ _) => bif Nat.ble (o + n * size) cs.length then some ((cs.drop o).take (n * size)) else none
        | _ => none
    else none
  | .string s => some ((s.extract 0 n).data.map fun b => .int .u8 b.toNat).toList
  | _ => none
def mF : Value -> Option Nat
  | .slice _ n _ => some n
  | .string s => some s.size
  | _ => none
def isInt : TypeDesc -> Bool
  | .int _ => true
  | _ => false
def gB (i : TypeInfo) (z : Value) (made : Bool) (x : Value) (h : U) : Option (Nat × List Value) :=
  bif made then
    match x with
    | .int .i64 l => bif decide (0 <= l) && decide (l <= 1099511627776) && Nat.ble (l.toNat * i.bytes) 1099511627776 && z.cells.toList.all eD then some (l.toNat, bR z l.toNat) else none
    | _ => none
  else match mF x with
    | some m => (cellsOf i.size m x h).map fun cs => (m, cs)
    | none => none
def grown (e : TypeId) (n : Nat) (cs : List Value) (h : U) : Value × U := (.slice (some ⟨h.next, 0, none⟩) n 0, h.push (.row e cs true true))
def o7 (e : TypeId) (i : TypeInfo) (s : Value) (m : Nat) (news : List Value) (h : U) : Option (Value × U) :=
  match s with
  | .slice none 0 0 => bif Nat.beq m 0 then some (.slice none 0 0, h) else bif Nat.ble (m * i.bytes) 274877906944 then some (grown e m news h) else none
  | .slice (some ⟨b, o, none⟩) n mk =>
    bif Nat.beq m 0 && Nat.beq mk 1 then some (s, h) else
    match h.get b with
    | some (.row e' cs own more) =>
      bif Nat.beq e' e && Nat.ble ((n + m) * i.bytes) 274877906944 && Nat.ble (o + n * i.size) cs.length then
        bif Nat.beq mk 1 then some (grown e (n + m) ((cs.drop o).take (n * i.size) ++ news) h)
        else bif Nat.beq mk 0 && own then
          bif Nat.ble (o + (n + m) * i.size) cs.length then some (.slice (some ⟨b, o, none⟩) (n + m) 0, bif Nat.beq m 0 then h else h.set b (.row e (bF cs (o + n * i.size) news) own more))
          else bif !more then some (grown e (n + m) ((cs.drop o).take (n * i.size) ++ news) h)
          else bif Nat.beq o 0 && Nat.beq (n * i.size) cs.length then some (grown e (n + m) (cs ++ news) (h.drop b))
          else none
        else none
      else none
    | _ => none
  | _ => none
def fM (argTypes : Array TypeId) (s x : Value) (h : U) : Option (Value × U) :=
  match argTypes[0]?, argTypes[1]? with
  | some st, some xt =>
    match P.underlying st, P.underlying xt with
    | some (.slice e), some xd =>
      match P.info? e with
      | some i =>
        match i.zero with
        | some z =>
          match gB i z (isInt xd) x h with
          | some (m, news) =>
            bif Nat.blt 0 i.size && Nat.blt 0 i.bytes && Nat.beq news.length (m * i.size) && news.all aN && Nat.beq z.cells.size i.size then o7 e i s m news h
            else none
          | none => none
        | none => none
      | none => none
    | _, _ => none
  | _, _ => none
def kA (argTypes : Array TypeId) (d x : Value) (h : U) : Option (Value × U) :=
  match argTypes[0]? with
  | some dt =>
    match P.underlying dt with
    | some (.slice e) =>
      match P.info? e, mF x, mF d with
      | some i, some m, some k =>
        match cellsOf i.size (Nat.min m k) x h with
        | some vs =>
          bif Nat.beq vs.length (Nat.min m k * i.size) && vs.all aN then
            match d with
            | .slice none 0 0 => some (.int .i64 (Nat.min m k : Nat), h)
            | .slice (some ⟨b, o, none⟩) _ _ =>
              bif Nat.beq (Nat.min m k * i.size) 0 then some (.int .i64 (Nat.min m k : Nat), h) else
              match h.get b with
              | some (.row e' cs true more) => bif Nat.ble (o + Nat.min m k * i.size) cs.length then some (.int .i64 (Nat.min m k : Nat), h.set b (.row e' (bF cs o vs) true more)) else none
              | _ => none
            | _ => none
          else none
        | none => none
      | _, _, _ => none
    | _ => none
  | none => none
def C3 (argTypes : Array TypeId) (x : Value) (h : U) : Option U :=
  match argTypes[0]? with
  | some t =>
    match P.underlying t with
    | some (.slice e) =>
      match x with
      | .slice none 0 0 => some h
      | .slice (some ⟨b, o, none⟩) n _ =>
        bif Nat.beq n 0 then some h else
        match P.info? e, h.get b with
        | some i, some (.row e' cs true more) =>
          match i.zero with
          | some z => bif (bR z n).all eD && Nat.ble (o + (bR z n).length) cs.length then some (h.set b (.row e' (bF cs o (bR z n)) true more)) else none
          | none => none
        | _, _ => none
      | _ => none
    | _ => none
  | none => none
def o8 (argTypes : Array TypeId) (x : Value) (h : U) : Option Value :=
  match x with
  | .map (some b) =>
    match (argTypes[0]?).bind P.underlying, h.get b with
    | some (.map _ _), some (.oI es _) => some (.int .i64 es.length)
    | _, _ => none
  | .slice _ n _ =>
    match (argTypes[0]?).bind P.underlying with
    | some (.slice _) => some (.int .i64 n)
    | _ => none
  | .string s =>
    match (argTypes[0]?).bind P.underlying with
    | some .string => some (.int .i64 s.size)
    | _ => none
  | .map none =>
    match (argTypes[0]?).bind P.underlying with
    | some (.map _ _) => some (.int .i64 0)
    | _ => none
  | _ => none
def J9 (argTypes : Array TypeId) (x : Value) (h : U) : Option Value :=
  match (argTypes[0]?).bind P.underlying, x with
  | some (.slice e), .slice (some ⟨b, o, none⟩) n mk =>
    bif Nat.beq mk 1 then some (.int .i64 n) else
    match P.info? e, h.get b with
    | some i, some (.row e' cs true false) => bif Nat.beq e' e && Nat.blt 0 i.size && Nat.ble o cs.length && Nat.beq mk 0 then some (.int .i64 ((cs.length - o) / i.size : Nat)) else none
    | _, _ => none
  | some (.slice _), .slice none 0 0 => some (.int .i64 0)
  | _, _ => none
def tR : List Value -> Option (List UInt8)
  | [] => some []
  | .int .u8 (.ofNat n) :: r => bif Nat.blt n 256 then (tR r).map (UInt8.ofNat n :: ·) else none
  | _ => none
def vW (x : Value) : Option Value := match x with
  | .slice none 0 0 => some (.pointer none)
  | .slice (some ⟨b, o, none⟩) n _ => bif Nat.beq n 0 then none else some (.pointer (some ⟨b, o, none⟩))
  | _ => none
def vX (argTypes : Array TypeId) (p n : Value) (h : U) : Option (Value × U) :=
  match argTypes.toList, p, n with
  | [pt, _], .pointer none, .int .i64 0 => match P.underlying pt with
    | some (.pointer _) => some (.string .empty, h)
    | _ => none
  | [pt, _], .pointer (some ⟨b, 0, none⟩), .int .i64 (.ofNat (n + 1)) => match P.underlying pt, h.get b with
    | some (.pointer e), some (.row e' cs true _) => bif Nat.beq e' e && Nat.beq (P.cellsOf e) 1 && Nat.ble (n + 1) cs.length && Nat.ble n 1000000000 then
        match tR (cs.take (n + 1)) with
        | some l => some (.string ⟨l.toArray⟩, h.drop b)
        | none => none
      else none
    | _, _ => none
  | _, _, _ => none
def bX (s : Sem Value) : Option Value := (aD P s).bind fun v => if af v then some v else none
def vY (b : Builtin) (argTypes : Array TypeId) (type : TypeId) (args : List Value) (h : U) : Option (Value × U) :=
  match b, args with
  | .append, [s, x] => fM P argTypes s x h
  | .copy, [d, x] => kA P argTypes d x h
  | .clear, [x] => (C3 P argTypes x h).map fun h' => (.tuple #[], h')
  | .len, [x] => (o8 P argTypes x h).map fun v => (v, h)
  | .cap, [x] => (J9 P argTypes x h).map fun v => (v, h)
  | .unsafeSliceData, [x] => (vW x).map fun v => (v, h)
  | .unsafeString, [p, n] => vX P argTypes p n h
  | .min, args => if args.all af then (bX P (Builtin.min_ argTypes type args.toArray)).map fun v => (v, h) else none
  | .max, args => if args.all af then (bX P (Builtin.max_ argTypes type args.toArray)).map fun v => (v, h) else none
  | _, _ => none
def IS (keyType : TypeId) (k : Value) (es : List MapEntry) : Option (Option Nat) :=
  match P.underlying keyType with
  | some d => match Instr.findNow d k es 0 with
    | some r => some (r.map (·.1))
    | none => (aD P (Instr.findAsking keyType k es)).map fun r => r.map (·.1)
  | none => none
def EF (W9 : TypeId) (x k : Value) (S5 : Bool) (h : U) : Option Value :=
  match P.underlying W9 with
  | some (.map key elem) =>
    match (P.info? elem).bind (·.zero) with
    | some z =>
      let es := match x with
        | .map none => some []
        | .map (some b) => match h.get b with | some (.oI es _) => some es | _ => none
        | _ => none
      match es with
      | some es =>
        if af k = true /\ af z = true /\ (aD P (Instr.checkKey es.isEmpty 10000 key k)).isSome = true then
          match IS P key k es with
          | some (some i) => match es[i]? with
            | some e => some (if S5 then .tuple #[e.val, .bool true] else e.val)
            | none => none
          | some none => some (if S5 then .tuple #[z, .bool false] else z)
          | none => none
        else none
      | none => none
    | none => none
  | _ => none
def vZ (mapType : TypeId) (m k v : Value) (h : U) : Option U :=
  match P.underlying mapType, m with
  | some (.map key _), .map (some b) =>
    match h.get b with
    | some (.oI es clock) =>
      if af k = true /\ (aD P (Instr.checkKey false 10000 key k)).isSome = true then
        match IS P key k es with
        | some (some i) => match es[i]? with
          | some e => if Instr.sameBits 10000 e.key k = true then some (h.set b (.oI (es.set i { e with key := k, val := v }) clock)) else none
          | none => none
        | some none => some (h.set b (.oI (es ++ [{ key := k, val := v, born := clock }]) (clock + 1)))
        | none => none
      else none
    | _ => none
  | _, _ => none
def xY (W9 : TypeId) (x : Value) (h : U) : Option (Value × U) :=
  match P.underlying W9, x with
  | some .string, .string s => some (.pointer (some ⟨h.next, 0, none⟩), h.push (.iter s 0))
  | _, _ => none
def w5 (it : Value) (isString : Bool) (h : U) : Option (Value × U) :=
  match it, isString with
  | .pointer (some ⟨b, 0, none⟩), true =>
    match h.get b with
    | some (.iter s pos) =>
      if pos < s.size then
        let d := Utf8.decode s pos
        some (.tuple #[.bool true, .int .i64 pos, .int .i32 d.1], h.set b (.iter s (pos + d.2)))
      else some (.tuple #[.bool false], h)
    | _ => none
  | _, _ => none
def S6 : BinOp -> Option Bool
  | .eql => some false
  | .neq => some true
  | _ => none
def w6 (op : BinOp) (t : TypeId) (x y : Value) : Option Bool :=
  match x, y with
  | .slice (some _) _ _, .slice none 0 0 => match P.underlying t with
    | some (.slice _) => S6 op
    | _ => none
  | .map (some _), .map none => match P.underlying t with
    | some (.map _ _) => S6 op
    | _ => none
  | .func _ _ _, .nilFunc => match P.underlying t with
    | some (.func _ _ _) => S6 op
    | _ => none
  | _, _ => none
def jK (k : FloatKind) : Value := .iface 0 (.float k 0)
def C4 : Value -> Bool
  | .iface 0 (.float _ 0) => true
  | _ => false
def uC : Value -> Option FloatKind
  | .float k _ => some k
  | .iface 0 (.float k 0) => some k
  | _ => none
def JA (op : BinOp) (k : FloatKind) (a b : Nat) : Bool := match op with
  | .add => (k.format.add a b).isNone
  | .sub => (k.format.sub a b).isNone
  | .mul => (k.format.mul a b).isNone
  | .quo => (k.format.div a b).isNone
  | _ => false
def zM (op : BinOp) (x y : Value) : Option Value := match x, y with
  | .float k a, .float k' b => bif decide (k = k') && JA op k a b then some (jK k) else none
  | _, _ => none
def IT : BinOp -> Option Bool
  | .eql | .lss | .leq | .gtr | .geq => some false
  | .neq => some true
  | _ => none
def rT (op : BinOp) (x y : Value) : Option Bool := match uC x, uC y with
  | some k, some k' => bif decide (k = k') && (C4 x || C4 y) then IT op else none
  | _, _ => none
def zN (s d : TypeId) (x : Value) : Option Value := match x, P.underlying s, P.underlying d with
  | .float k b, some _, some (.float k') => bif !decide (k = k') && (k.decode b).isNaN then some (jK k') else none
  | _, _, _ => none
def cP (call : FuncId -> List Value -> U -> Option (Value × U)) (yield : Nat -> List Value -> U -> Option (Value × U)) (o : Oper) (ev : Operand -> Value) (h : U) :
    Option (Value × U) :=
  match o.op with
  | .move x | .assign x => some (ev x, h)
  | .pick c a b => match ev c with
    | .bool true => some (ev a, h)
    | .bool false => some (ev b, h)
    | _ => none
  | .alloc e => match (P.info? e).bind (·.zero) with
    | some z => if af z then rC e z h else none
    | none => none
  | .box e x => rC e (ev x) h
  | .build t parts =>
    bif parts.toList.all (fun p => (ev p.2).cells.toList.all aN) && (((P.info? t).bind (·.zero)).map fun z => z.cells.toList.all eD) == some true then
      (aD P (Instr.build t (parts.map fun p => (p.1, ev p.2)))).map fun v => (v, h)
    else none
  | .buildSlice t len parts => iQ P t len (parts.map fun p => (p.1, ev p.2)) h
  | .load t a => (dD P t (ev a) h).map fun v => (v, h)
  | .store t a x => (jJ P t (ev a) (ev x) h).map fun h' => (undef, h')
  | .nilCheck x => match ev x with
    | .pointer (some a) => some (.pointer (some a), h)
    | .func (.func f) a b => some (.func (.func f) a b, h)
    | _ => none
  | .binOp op t x y _ =>
    if af (ev x) && af (ev y) then ((bX P (do eqGuard op t x y (ev x) (ev y); binOp op t (ev x) (ev y))).or (zM op (ev x) (ev y))).map fun v => (v, h)
    else ((w6 P op t (ev x) (ev y)).or (rT op (ev x) (ev y))).map fun b => (.bool b, h)
  | .unOp op _ x => if af (ev x) then (bX P (Op.unary op (ev x))).map fun v => (v, h) else none
  | .convert s d x => if af (ev x) then ((bX P (convert s d (ev x))).or (zN P s d (ev x))).map fun v => (v, h) else none
  | .makeFunc (.func f) first captured => some (.func (.func f) (first.map ev) (captured.map ev), h)
  | .makeMap _ none => some (.map (some h.next), h.push (.oI [] 0))
  | .makeSlice t l c => oY P t (ev l) (ev c) h
  | .slice t x lo hi mx => (bS P t (ev x) (lo.map ev) (hi.map ev) (mx.map ev) h).map fun v => (v, h)
  | .fieldAddr s x f => (aD P (Instr.fieldAt s (ev x) f)).map fun v => (v, h)
  | .field t x f => (aD P (Instr.field t (ev x) f)).map fun v => (v, h)
  | .indexAddr t x ix => if af (ev ix) then (aD P (Instr.indexAt t (ev x) (ev ix))).map fun v => (v, h) else none
  | .index t x ix => if af (ev ix) then (aD P (Instr.index t (ev x) (ev ix))).map fun v => (v, h) else none
  | .lookup t x k ok => (EF P t (ev x) (ev k) ok h).map fun v => (v, h)
  | .mapUpdate t m k x | .insert t m k x => (vZ P t (ev m) (ev k) (ev x) h).map fun h' => (undef, h')
  | .range t x => xY P t (ev x) h
  | .next it s => w5 (ev it) s h
  | .extract t ix => bif tQ (ev t) then none else (aD P (Instr.extract (ev t) ix)).map fun v => (v, h)
  | .call c =>
    match c.callee with
    | .builtin b => vY P b c.argTypes o.type (c.args.toList.map ev) h
    | .value f => match ev f with
      | .func (.func g) first captured => call g (first.toList ++ c.args.toList.map ev ++ captured.toList) h
      | .func (.yield l) ⟨[]⟩ ⟨[]⟩ => yield l (c.args.toList.map ev) h
      | _ => none
    | .invoke _ _ => none
  | _ => none
def C5 (o : Oper) (ev : Operand -> Value) (h : U) : Option (Value × U) := match o.op with
  | .convert s d x => match ev x with
    | .slice (some ⟨b, 0, none⟩) n 0 => match P.underlying s with
      | some (.slice e) => match P.underlying e with
        | some (.int .u8) => match h.get b with
          | some (.row e' cs true false) => bif Nat.beq s d && Nat.beq n cs.length && Nat.beq (P.cellsOf e') 1 then some (.slice (some ⟨h.next, 0, none⟩) n 0, (h.drop b).push (.row e' cs true false)) else none
          | _ => none
        | _ => none
      | _ => none
    | _ => none
  | _ => none
def sM (call : FuncId -> List Value -> U -> Option (Value × U)) (yield : Nat -> List Value -> U -> Option (Value × U)) (o : Oper) (ev : Operand -> Value) (h : U) : Option (Value × U) :=
  match cP P call yield o ev h with
  | some r => some r
  | none => C5 P o ev h
def bL (ops : Array Oper) (t : Tr) (o : Oper) : Option Bool :=
  match o.guard with
  | none => some true
  | some (j, want) =>
    match (ops[j]?).bind (·.dst) with
    | none => some false
    | some d => match t.get d with
      | .bool b => some (b == want)
      | .tuple ⟨[]⟩ => some false
      | _ => none
def depth : Nat := 13
def put (n : Nat) (t : Tr) (dst : Option Tmp) (v : Value) : Option Tr :=
  match dst with
  | some d => bif Nat.blt d n then some (t.set depth d v) else none
  | none => some t
def oZ (step : Oper -> (Operand -> Value) -> U -> Option (Value × U)) (ops : Array Oper) (n : Nat) : List Oper -> Tr -> U -> Option (Tr × U)
  | [], t, h => some (t, h)
  | o :: r, t, h =>
    match bL ops t o with
    | some true => match step o (aB t) h with
      | some (v, h') => match put n t o.dst v with
        | some t' => oZ step ops n r t' h'
        | none => none
      | none => none
    | some false => match put n t o.dst undef with
      | some t' => oZ step ops n r t' h
      | none => none
    | none => none
def calm : Op -> Bool
  | .move _ | .assign _ | .pick .. | .build .. | .nilCheck _ | .binOp .. | .unOp .. | .convert .. | .makeFunc .. | .fieldAddr .. | .field .. | .indexAddr .. | .index .. | .extract .. => true
  | _ => false
def outside (lo hi : Nat) (p : Nat × bC) : Bool := !(decide (lo <= p.1) && decide (p.1 < hi))
def mask (b : Nat) : List (Nat × Nat × Nat) -> List (Nat × bC) -> List (Nat × bC)
  | [], aA => aA
  | (k, lo, hi) :: segs, aA => mask b segs (if b.testBit k then aA else aA.filter (outside lo hi))
structure dT where
  t : Tr
  h : U
  bs : List Nat
  segs : List (Nat × Nat × Nat)
  mem : Nat
  tail : Bool
def aM (bs : List Nat) (o : Oper) : Nat := o.after.toList.foldl (fun s e => if Region.binds .any e then s ||| 2 ^ e.on ||| bs.getD e.on 0 else s) 0
def C6 : List Oper -> List Nat -> List Nat
  | [], bs => bs
  | o :: r, bs => C6 r (bs ++ [aM bs o])
def reads (ops : Array Oper) (o : Oper) : List Tmp := o.looksAt ops
def PF (ops : List Oper) (x : Tmp) : List Nat := (ops.zipIdx).filterMap fun (o, i) => match o.dst with | some d => bif Nat.beq d x then some i else none | none => none
def S7 (ops : Array Oper) (l : List Oper) (bs : List Nat) (o : Oper) (i : Nat) : Bool :=
  o.after.toList.all (fun e => !Region.binds .any e || Nat.blt e.on i) &&
  (match o.dst with | some d => (PF l d).all (Nat.beq i) | none => true) &&
  (o.looksAt ops).all fun x => (PF l x).all fun j => Nat.beq j i || (bs.getD i 0).testBit j || (bs.getD j 0).testBit i
def oJ (ops : Array Oper) : Bool := let bs := C6 ops.toList []; (ops.toList.zipIdx).all fun (o, i) => S7 ops ops.toList bs o i
def codeOk : Code -> Bool
  | .region _ ops true => oJ ops
  | .seq a b => codeOk a && codeOk b
  | .cond _ a b => codeOk a && codeOk b
  | .block _ b => codeOk b
  | .loop b => codeOk b
  | .scope b => codeOk b
  | .rangeFunc _ _ a b => codeOk a && codeOk b
  | _ => true
def inside (lo hi : Nat) (p : Nat × bC) : Bool := Nat.ble lo p.1 && Nat.blt p.1 hi
def bI (lo hi : Nat) (l : List (Nat × bC)) : List (Nat × bC) := bif Nat.beq lo hi then [] else l.filter (inside lo hi)
def gJ (step : Oper -> (Operand -> Value) -> U -> Option (Value × U)) (ops : Array Oper) (n : Nat) (o : Oper) (i : Nat) (s : dT) : Option dT :=
  let b := aM s.bs o
  let bs := s.bs ++ [b]
  match bL ops s.t o with
  | some false => (put n s.t o.dst undef).map fun t => { s with t, bs }
  | none => none
  | some true =>
    if calm o.op then
      match step o (aB s.t) { next := s.h.next, low := s.h.next, aA := [] } with
      | some (v, h') => bif Nat.beq h'.next s.h.next then (put n s.t o.dst v).map fun t => { s with t, bs } else none
      | none => none
    else
      let ordered := Nat.beq (s.mem &&& b) s.mem
      bif s.tail && !ordered then none else
      match step o (aB s.t) { next := s.h.next, low := s.h.next, aA := bif ordered then s.h.aA else mask b s.segs s.h.aA } with
      | some (v, h') =>
        bif Nat.blt h'.next s.h.next then none else
        match put n s.t o.dst v with
        | some t =>
          let mem := s.mem ||| 2 ^ i
          let segs := (i, s.h.next, h'.next) :: s.segs
          bif Nat.ble s.h.next h'.low then
            some { t, h := { next := h'.next, low := s.h.low, aA := bI s.h.next h'.next h'.aA ++ s.h.aA }, bs, segs, mem, tail := s.tail }
          else bif ordered then some { t, h := { next := h'.next, low := min s.h.low h'.low, aA := h'.aA }, bs, segs, mem, tail := true }
          else none
        | none => none
      | none => none
def kD (step : Oper -> (Operand -> Value) -> U -> Option (Value × U)) (ops : Array Oper) (n : Nat) : List Oper -> Nat -> dT -> Option dT
  | [], _, s => some s
  | o :: r, i, s => match gJ step ops n o i s with
    | some s' => kD step ops n r (i + 1) s'
    | none => none
structure Fr where
  t : Tr
  n : Nat
  marks : List Nat
inductive Ex where
  | normal
  | exit (id : Nat)
  | ret
  deriving DecidableEq
def Ex.goes : Ex -> Bool
  | .exit _ => false
  | _ => true
abbrev Rec := Option Nat -> Code -> Fr -> U -> Option (Ex × Fr × U)
def sD (t : Tr) (h : U) : ResultVar -> Option Value
  | .tmp i => some (t.get i)
  | .cell a ty => dD P ty (t.get a) h
def fX (t : Tr) (h : U) : List ResultVar -> Option (List Value)
  | [] => some []
  | r :: rs => match sD P t h r, fX t h rs with
    | some v, some vs => some (v :: vs)
    | _, _ => none
def iI : Tr -> Nat -> List Value -> Tr
  | t, _, [] => t
  | t, i, v :: r => iI (t.set depth i v) (i + 1) r
def gS : List Value -> Value
  | [v] => v
  | vs => .tuple vs.toArray
def iV : List Nat -> U -> Option U
  | [], h => some h
  | d :: r, h => match h.get d with
    | some .iP => iV r (h.drop d)
    | _ => none
def kE (aV : Bool) (rec : Rec) (f : FuncId) (args : List Value) (h : U) : Option (Value × U) :=
  match P.funcs[f]? with
  | some fn =>
    match fn.body with
    | some c =>
      bif Nat.blt 4000 fn.ntmps || Nat.blt fn.ntmps args.length then none else
      match rec none c ⟨iI .leaf 0 args, fn.ntmps, []⟩ { next := h.next, low := h.next, aA := h.aA } with
      | some (e, fr, h1) =>
        bif e.goes then
          match iV fr.marks h1 with
          | some h2 =>
            match fX P fr.t h2 fn.results.toList with
            | some vs =>
              let v := gS vs
              bif !aV && (af v && Nat.ble h.next h2.low) then some (v, h)
              else some (v, { next := h2.next, low := min h.low h2.low, aA := h2.aA })
            | none => none
          | none => none
        else none
      | none => none
    | none => none
  | none => none
def mG (rec : Rec) : FuncId -> List Value -> U -> Option (Value × U) := kE P false rec
def qO (n : Nat) : Tr -> List (Tmp × Value) -> Option Tr
  | t, [] => some t
  | t, (i, v) :: r => match put n t (some i) v with
    | some t' => qO n t' r
    | none => none
def eY : Ex -> Option Code
  | .normal => none
  | .exit id => some (.exit id)
  | .ret => some .ret
def eK (rec : Rec) (l : Nat) (args : List Value) (h : U) : Option (Value × U) :=
  match h.get l with
  | some (.dM .ready _ tmps n params assign body _) =>
    bif Nat.beq args.length params.size then
      match qO n tmps (params.toList.zip args) with
      | some t =>
        match rec (some l) assign ⟨t, n, []⟩ h with
        | some (.normal, fr, h1) =>
          match h1.get l with
          | some (.dM .ready jump tmps n params xZ JB d) =>
            match rec (some l) body fr (h1.set l (.dM .busy jump tmps n params xZ JB d)) with
            | some (e, _, h2) =>
              match h2.get l with
              | some (.dM _ _ tmps n params xZ JB d) =>
                some (.bool (eY e).isNone, h2.set l (.dM (bif (eY e).isNone then .ready else .done) (eY e) tmps n params xZ JB d))
              | _ => none
            | none => none
          | _ => none
        | _ => none
      | none => none
    else none
  | _ => none
def IU (aY : Option Nat) (h : U) : Option (Nat × List Nat × U) :=
  match aY with
  | none => some (h.next, [h.next], h.push .iP)
  | some l => match h.get l with
    | some (.dM _ _ _ _ _ _ _ d) => some (d, [], h)
    | _ => none
def jL (rec : Rec) (aY : Option Nat) (g : Operand) (ps : Array Tmp) (assign body : Code) (fr : Fr) (h : U) : Option (Ex × Fr × U) :=
  match IU aY h with
  | some (d, mark, h1) =>
    match aB fr.t g with
    | .func (.func f) first captured =>
      match kE P true rec f (first.toList ++ [.func (.yield h1.next) #[] #[]] ++ captured.toList) (h1.push (.dM .ready none fr.t fr.n ps assign body d)) with
      | some (_, h3) =>
        match h3.get h1.next with
        | some (.dM st jump tmps n params xZ JB d) =>
          match st with
          | .busy => none
          | _ =>
            let h4 := h3.set h1.next (.dM .exhausted jump tmps n params xZ JB d)
            let jW : Fr := { t := fr.t, n := fr.n, marks := mark ++ fr.marks }
            match jump with
            | none => some (.normal, jW, h4)
            | some .ret => some (.ret, jW, h4)
            | some (.exit id) => some (.exit id, jW, h4)
            | _ => none
        | _ => none
      | none => none
    | _ => none
  | none => none
def EG (f : FuncId) (args : List Value) (h : U) : Option (Value × U) :=
  match P.funcs[f]? with
  | some fn => bif fn.body.isNone && !(fn.name == "runtime.NumGoroutine") then
      match Extern.findNext fn, Extern.find fn with
      | none, some e => bif args.all af then (bX P (e args.toArray)).map fun v => (v, h) else none
      | _, _ => none
    else none
  | none => none
def eJ (orc : FuncId -> List Value -> U -> Option (Value × U)) (rec : Rec) : FuncId -> List Value -> U -> Option (Value × U) := fun f args h =>
  match orc f args h with
  | some r => some r
  | none => match EG P f args h with
    | some r => some r
    | none => mG P rec f args h
def rU (op : Op) (ev : Operand -> Value) : Option Nat := match op with
  | .store _ a _ => match ev a with
    | .pointer (some ⟨b, _, none⟩) => some b
    | _ => none
  | .call { callee := .builtin .append, args, .. } => match (args.toList.map ev) with
    | .slice (some ⟨b, _, none⟩) _ _ :: _ => some b
    | _ => none
  | _ => none
abbrev uT := dT × List Nat × List Nat
def qP (P : Program) (h0 : U) (op : Op) (ev : Operand -> Value) (nx : Nat) : Option (Value × List Nat) := match op with
  | .load T a => match ev a with
    | .pointer (some ⟨b, o, none⟩) => match h0.get b with
      | some ob => bif Nat.blt b h0.next then (dD P T (.pointer (some ⟨b, o, none⟩)) { next := nx, low := nx, aA := [(b, ob)] }).map fun v => (v, [b]) else none
      | none => none
    | _ => none
  | .call { callee := .builtin .len, args, argTypes, .. } => match args.toList with
    | [x] => (o8 P argTypes (ev x) { next := nx, low := nx, aA := [] }).map fun v => (v, [])
    | _ => none
  | .slice T x lo hi mx => match ev x with
    | .slice p 0 mk => (bS P T (.slice p 0 mk) (lo.map ev) (hi.map ev) (mx.map ev) { next := nx, low := nx, aA := [] }).map fun v => (v, [])
    | .slice (some ⟨b, o, none⟩) n mk => match h0.get b with
      | some ob => bif Nat.blt b h0.next then (bS P T (.slice (some ⟨b, o, none⟩) n mk) (lo.map ev) (hi.map ev) (mx.map ev) { next := nx, low := nx, aA := [(b, ob)] }).map fun v => (v, [b]) else none
      | none => none
    | _ => none
  | _ => none
def p4 (P : Program) (step : Oper -> (Operand -> Value) -> U -> Option (Value × U)) (ops : Array Oper) (n : Nat) (o : Oper) (i : Nat) (x : uT) : Option uT :=
  let s := x.1
  let b := aM s.bs o
  let bs := s.bs ++ [b]
  let ordered := Nat.beq (s.mem &&& b) s.mem
  bif s.tail && !ordered then none else
  match step o (aB s.t) { next := s.h.next, low := s.h.next, aA := bif ordered then s.h.aA else mask b s.segs s.h.aA } with
  | some (v, h') =>
    bif Nat.blt h'.next s.h.next then none else
    match put n s.t o.dst v with
    | some t =>
      let mem := s.mem ||| 2 ^ i
      let segs := (i, s.h.next, h'.next) :: s.segs
      bif Nat.ble s.h.next h'.low then
        some ({ t, h := { next := h'.next, low := s.h.low, aA := bI s.h.next h'.next h'.aA ++ s.h.aA }, bs, segs, mem, tail := s.tail }, x.2)
      else bif ordered then
        match rU o.op (aB s.t) with
        | some k => some ({ t, h := { next := h'.next, low := min s.h.low h'.low, aA := h'.aA }, bs, segs, mem, tail := true }, x.2.1, k :: x.2.2)
        | none => none
      else none
    | none => none
  | none => none
def fN (P : Program) (h0 : U) (step : Oper -> (Operand -> Value) -> U -> Option (Value × U)) (ops : Array Oper) (n : Nat) (o : Oper) (i : Nat) (x : uT) : Option uT :=
  let s := x.1
  match bL ops s.t o with
  | some false => (put n s.t o.dst undef).map fun t => ({ s with t, bs := s.bs ++ [aM s.bs o] }, x.2)
  | none => none
  | some true =>
    if calm o.op then
      match step o (aB s.t) { next := s.h.next, low := s.h.next, aA := [] } with
      | some (v, h') => bif Nat.beq h'.next s.h.next then (put n s.t o.dst v).map fun t => ({ s with t, bs := s.bs ++ [aM s.bs o] }, x.2) else none
      | none => none
    else match qP P h0 o.op (aB s.t) s.h.next with
      | some (v, b) => (put n s.t o.dst v).map fun t => ({ s with t, bs := s.bs ++ [aM s.bs o] }, b ++ x.2.1, x.2.2)
      | none => p4 P step ops n o i x
def iW (P : Program) (h0 : U) (step : Oper -> (Operand -> Value) -> U -> Option (Value × U)) (ops : Array Oper) (n : Nat) : List Oper -> Nat -> uT -> Option uT
  | [], _, x => some x
  | o :: r, i, x => match fN P h0 step ops n o i x with
    | some x' => iW P h0 step ops n r (i + 1) x'
    | none => none
def IV (x : uT) : Bool := x.2.1.all fun b => x.2.2.all fun k => !Nat.beq b k
def tS (P : Program) (h0 : U) (step : Oper -> (Operand -> Value) -> U -> Option (Value × U)) (ops : Array Oper) (n : Nat) (s : dT) : Option dT :=
  match iW P h0 step ops n ops.toList 0 (s, [], []) with
  | some x => bif IV x then some x.1 else none
  | none => none
def C7 : Op -> Bool
  | .load .. => true
  | _ => false
def ab9 : Op -> Bool
  | .store .. => true
  | _ => false
def JC : Op -> Bool
  | .call { callee := .builtin .append, .. } => true
  | _ => false
def ahN : Op -> Bool
  | .call { callee := .builtin .append, .. } => true
  | .buildSlice _ 0 _ => true
  | _ => false
def WA (l : List Oper) (o : Oper) (j : Nat) : Bool := match o.op with
  | .call { callee := .builtin .append, args, .. } => match args.toList with
    | .tmp x :: _ => (l.zipIdx).any fun (o', i) => Nat.blt i j && ahN o'.op && (match o'.dst with | some d => Nat.beq d x | none => false)
    | _ => false
  | _ => false
def ae1 : Op -> Bool
  | .call { callee := .value (.func _), .. } => true
  | _ => false
def ae2 (l : List Oper) (o : Oper) (j : Nat) : Bool := match o.op with
  | .call { callee := .value (.func _), args, .. } => args.toList.any fun a => match a with
    | .tmp x => (l.zipIdx).any fun (o', i) => Nat.blt i j && ae1 o'.op && (match o'.dst with | some d => Nat.beq d x | none => false)
    | _ => false
  | _ => false
def B7 (ops : Array Oper) : Bool :=
  let bs := C6 ops.toList []
  (ops.toList.zipIdx).any fun (o, j) => (ab9 o.op && (ops.toList.zipIdx).any fun (o', i) => C7 o'.op && Nat.blt i j && !(bs.getD j 0).testBit i) ||
    (JC o.op && (ops.toList.zipIdx).any fun (o', i) => C7 o'.op && Nat.blt j i && !(bs.getD i 0).testBit j) ||
    (JC o.op && WA ops.toList o j && (ops.toList.zipIdx).any fun (o', i) => C7 o'.op && Nat.blt i j && !(bs.getD j 0).testBit i) ||
    (ae2 ops.toList o j && (ops.toList.zipIdx).any fun (o', i) => C7 o'.op && Nat.blt i j && !(bs.getD j 0).testBit i)
def bH (orc : FuncId -> List Value -> U -> Option (Value × U)) (rec : Rec) : Rec := fun aY c fr h =>
  match c with
  | .skip | .label _ => some (.normal, fr, h)
  | .seq a b => match rec aY a fr h with
    | some (.normal, fr1, h1) => rec aY b fr1 h1
    | r => r
  | .cond x a b => match aB fr.t x with
    | .bool true => rec aY a fr h
    | .bool false => rec aY b fr h
    | _ => none
  | .block id body => match rec aY body fr h with
    | some (.exit xT, fr1, h1) => bif Nat.beq xT id then some (.normal, fr1, h1) else some (.exit xT, fr1, h1)
    | r => r
  | .loop body => match rec aY body fr h with
    | some (.normal, fr1, h1) => rec aY (.loop body) fr1 h1
    | r => r
  | .exit id => some (.exit id, fr, h)
  | .ret => some (.ret, fr, h)
  | .region _ ops false => match oZ (sM P (eJ P orc rec) (eK rec)) ops fr.n ops.toList fr.t h with
    | some (t, h') => some (.normal, { t, n := fr.n, marks := fr.marks }, h')
    | none => none
  | .region _ ops true => match (bif B7 ops then tS P h (cP P (eJ P orc rec) (eK rec)) ops fr.n ⟨fr.t, h, [], [], 0, false⟩ else kD (cP P (eJ P orc rec) (eK rec)) ops fr.n ops.toList 0 ⟨fr.t, h, [], [], 0, false⟩) with
    | some s => some (.normal, { t := s.t, n := fr.n, marks := fr.marks }, s.h)
    | none => none
  | .rangeFunc g ps assign body => jL P rec aY g ps assign body fr h
  | .scope body => rec aY body fr h
  | .goto _ | .refuse _ => none
def dK (orc : FuncId -> List Value -> U -> Option (Value × U)) : Nat -> Rec
  | 0 => fun _ _ _ _ => none
  | n + 1 => bH P orc (dK orc n)
end
end Go.Fs
namespace Go.Fs
variable {P : Program}
def B8 (c c' : FuncId -> List Value -> U -> Option (Value × U)) : Prop := ∀ f a h r, c f a h = some r -> c' f a h = some r
def I4 (r r' : Rec) : Prop := ∀ aY c fr h x, r aY c fr h = some x -> r' aY c fr h = some x
def B9 (s s' : Oper -> (Operand -> Value) -> U -> Option (Value × U)) : Prop := ∀ o ev h r, s o ev h = some r -> s' o ev h = some r
theorem w7 {c c' : FuncId -> List Value -> U -> Option (Value × U)} {y y' : Nat -> List Value -> U -> Option (Value × U)} (hc : B8 c c') (hy : B8 y y') : B9 (cP P c y) (cP P c' y') := by
  intro o ev h r hf
  cases dU : o.op with
  | call cl =>
    unfold cP at hf ⊢; rw [dU] at hf ⊢
    cases sN : cl.callee with
    | builtin b => simp only [sN] at hf ⊢; exact hf
    | invoke a b => simp only [sN] at hf; cases hf
    | value f =>
      simp only [sN] at hf ⊢; split at hf
      . exact hc _ _ _ _ hf
      . exact hy _ _ _ _ hf
      cases hf
  | makeFunc fn a b => unfold cP at hf ⊢; rw [dU] at hf ⊢; cases fn <;> exact hf
  | makeMap t r => unfold cP at hf ⊢; rw [dU] at hf ⊢; cases r <;> exact hf
  | _ => unfold cP at hf ⊢; rw [dU] at hf ⊢; exact hf
theorem ahO {c : FuncId -> List Value -> U -> Option (Value × U)} {y : Nat -> List Value -> U -> Option (Value × U)} : B9 (cP P c y) (sM P c y) := by
  intro o ev h r hf; unfold sM; rw [hf]
theorem WB {c c' : FuncId -> List Value -> U -> Option (Value × U)} {y y' : Nat -> List Value -> U -> Option (Value × U)} {o : Oper} {ev : Operand -> Value} {h : U} {r : Value × U} (hf : cP P c y o ev h = none) (hm : C5 P o ev h = some r) : cP P c' y' o ev h = none := by
  cases dU : o.op with
  | convert s d x =>
    unfold cP at hf ⊢; rw [dU] at hf ⊢
    exact hf
  | _ => unfold C5 at hm; rw [dU] at hm; cases hm
theorem GL {c c' : FuncId -> List Value -> U -> Option (Value × U)} {y y' : Nat -> List Value -> U -> Option (Value × U)} (hc : B8 c c') (hy : B8 y y') : B9 (sM P c y) (sM P c' y') := by
  intro o ev h r hf; unfold sM at hf ⊢
  cases hx : cP P c y o ev h with
  | some r1 =>
    rw [hx] at hf; rw [w7 hc hy _ _ _ _ hx]
    exact hf
  | none =>
    rw [hx] at hf; rw [WB hx hf]; exact hf
theorem qV {s s' : Oper -> (Operand -> Value) -> U -> Option (Value × U)} (hs : B9 s s') {ops : Array Oper} {n : Nat} : ∀ (l : List Oper) (t : Tr) (h : U) (x : Tr × U), oZ s ops n l t h = some x -> oZ s' ops n l t h = some x
  | [], t, h, x, hf => hf
  | o :: l, t, h, x, hf => by
    simp only [oZ] at hf ⊢; split at hf
    . rename_i hw
      try rw [hw]
      try simp only
      split at hf
      . rename_i v h1 bT; rw [hs _ _ _ _ bT]
        try simp only
        split at hf
        . rename_i t1 hp
          try rw [hp]
          exact qV hs l t1 h1 x hf
        cases hf
      cases hf
    . rename_i hw
      try rw [hw]
      try simp only
      split at hf
      . rename_i t1 hp
        try rw [hp]
        exact qV hs l t1 h x hf
      cases hf
    cases hf
theorem C8 {s s' : Oper -> (Operand -> Value) -> U -> Option (Value × U)} (hs : B9 s s') {ops : Array Oper} {n : Nat} {o : Oper} {i : Nat} {d x : dT} (hf : gJ s ops n o i d = some x) : gJ s' ops n o i d = some x := by
  unfold gJ at hf ⊢; simp only at hf ⊢; split at hf
  . rename_i hw
    first | exact hf | (rw [hw]; exact hf)
  . cases hf
  rename_i hw
  try rw [hw]
  try simp only
  split at hf
  . rename_i hc; rw [if_pos hc]; split at hf
    . rename_i v h1 bT; rw [hs _ _ _ _ bT]; exact hf
    cases hf
  rename_i hc; rw [if_neg hc]
  cases lO : (d.tail && !Nat.beq (d.mem &&& aM d.bs o) d.mem) with
  | true => rw [lO] at hf; cases hf
  | false =>
    rw [lO] at hf; simp only [cond_false] at hf ⊢; split at hf
    . rename_i v h1 bT; rw [hs _ _ _ _ bT]; exact hf
    cases hf
theorem uD {s s' : Oper -> (Operand -> Value) -> U -> Option (Value × U)} (hs : B9 s s') {ops : Array Oper} {n : Nat} : ∀ (l : List Oper) (i : Nat) (d x : dT), kD s ops n l i d = some x -> kD s' ops n l i d = some x
  | [], i, d, x, hf => hf
  | o :: l, i, d, x, hf => by
    simp only [kD] at hf ⊢; split at hf
    . rename_i d1 hd; rw [C8 hs hd]; exact uD hs l (i + 1) d1 x hf
    cases hf
section
variable {s s' : Oper -> (Operand -> Value) -> U -> Option (Value × U)} {ops : Array Oper} {n : Nat} {h0 : U}
theorem MV (hs : B9 s s') {o : Oper} {i : Nat} {x y : uT} (hf : p4 P s ops n o i x = some y) : p4 P s' ops n o i x = some y := by
  unfold p4 at hf ⊢; simp only at hf ⊢
  cases lO : (x.1.tail && !Nat.beq (x.1.mem &&& aM x.1.bs o) x.1.mem) with
  | true => rw [lO] at hf; cases hf
  | false =>
    rw [lO] at hf; simp only [cond_false] at hf ⊢; split at hf
    . rename_i v h1 bT; rw [hs _ _ _ _ bT]; exact hf
    cases hf
theorem y0 (hs : B9 s s') {o : Oper} {i : Nat} {x y : uT} (hf : fN P h0 s ops n o i x = some y) : fN P h0 s' ops n o i x = some y := by
  unfold fN at hf ⊢; simp only at hf ⊢; split at hf
  . rename_i hw
    first | exact hf | (rw [hw]; exact hf)
  . cases hf
  rename_i hw
  try rw [hw]
  try simp only
  split at hf
  . rename_i hc; rw [if_pos hc]; split at hf
    . rename_i v h1 bT; rw [hs _ _ _ _ bT]; exact hf
    cases hf
  rename_i hc; rw [if_neg hc]; split at hf
  . rename_i v b hq
    try rw [hq]
    exact hf
  rename_i hq
  try rw [hq]
  exact MV hs hf
theorem rD (hs : B9 s s') : ∀ (l : List Oper) (i : Nat) (x y : uT), iW P h0 s ops n l i x = some y -> iW P h0 s' ops n l i x = some y
  | [], i, x, y, hf => hf
  | o :: l, i, x, y, hf => by
    simp only [iW] at hf ⊢; split at hf
    . rename_i d1 hd; rw [y0 hs hd]; exact rD hs l (i + 1) d1 y hf
    cases hf
theorem PG (hs : B9 s s') {d y : dT} (hf : tS P h0 s ops n d = some y) : tS P h0 s' ops n d = some y := by
  unfold tS at hf ⊢; split at hf
  . rename_i x hx; rw [rD hs _ _ _ _ hx]; exact hf
  cases hf
end
theorem y3 {k : Bool} {r r' : Rec} (hr : I4 r r') : B8 (kE P k r) (kE P k r') := by
  intro f a h x hf; unfold kE at hf ⊢; split at hf
  . rename_i fn kF
    try rw [kF]
    try simp only
    split at hf
    . rename_i c hc
      try rw [hc]
      try simp only
      cases hb : (Nat.blt 4000 fn.ntmps || Nat.blt fn.ntmps a.length) with
      | true => rw [hb] at hf; cases hf
      | false =>
        rw [hb] at hf; simp only [cond_false] at hf ⊢; split at hf
        . rename_i e fr h1 eZ; rw [hr _ _ _ _ _ eZ]; exact hf
        cases hf
    cases hf
  cases hf
theorem AR {r r' : Rec} (hr : I4 r r') : B8 (mG P r) (mG P r') := y3 hr
theorem nN {r r' : Rec} (hr : I4 r r') : B8 (eK r) (eK r') := by
  intro l a h x hf; unfold eK at hf ⊢; split at hf
  . rename_i jump tmps n params assign body d hg
    try rw [hg]
    try simp only
    obtain hb | hb : Nat.beq a.length params.size = true \/ Nat.beq a.length params.size = false := by cases Nat.beq a.length params.size <;> simp
    . rw [hb] at hf
      try rw [hb]
      simp only [cond_true] at hf ⊢; split at hf
      . rename_i t xH
        try rw [xH]
        try simp only
        split at hf
        . rename_i fr h1 eZ; rw [hr _ _ _ _ _ eZ]
          try simp only
          split at hf
          . rename_i j1 t1 n1 p1 a1 b1 d1 JD
            try rw [JD]
            try simp only
            split at hf
            . rename_i e MW h2 WC; rw [hr _ _ _ _ _ WC]; exact hf
            cases hf
          cases hf
        cases hf
      cases hf
    rw [hb] at hf; cases hf
  cases hf
theorem C9 {r r' : Rec} (hr : I4 r r') {aY : Option Nat} {g : Operand} {ps : Array Tmp} {assign body : Code} {fr : Fr} {h : U} {x : Ex × Fr × U} (hf : jL P r aY g ps assign body fr h = some x) :
    jL P r' aY g ps assign body fr h = some x := by
  unfold jL at hf ⊢; split at hf
  . rename_i d mark h1 hm
    try rw [hm]
    try simp only
    split at hf
    . rename_i f first captured cB
      try rw [cB]
      try simp only
      split at hf
      . rename_i v h3 eZ; rw [y3 hr _ _ _ _ eZ]; exact hf
      cases hf
    cases hf
  cases hf
theorem PH {orc : FuncId -> List Value -> U -> Option (Value × U)} {r r' : Rec} (hr : I4 r r') : I4 (bH P orc r) (bH P orc r') := by
  intro aY c fr h x hf
  have EH : B8 (eJ P orc r) (eJ P orc r') := by
    intro f a h y hy; unfold eJ at hy ⊢; split at hy
    . exact hy
    split at hy
    . exact hy
    exact AR hr _ _ _ _ hy
  have dU := w7 (P := P) EH (nN hr)
  cases c with
  | skip => exact hf
  | label l => exact hf
  | exit id => exact hf
  | ret => exact hf
  | goto l => exact hf
  | refuse l => exact hf
  | scope b => exact hr _ _ _ _ _ hf
  | seq a b =>
    simp only [bH] at hf ⊢; split at hf
    . rename_i fr1 h1 h2; rw [hr _ _ _ _ _ h2]; exact hr _ _ _ _ _ hf
    rename_i cA; have h2 := hr _ _ _ _ _ hf; rw [h2]; split
    . rename_i fr1 h1 he; exact (cA fr1 h1 (by rw [hf]; exact he)).elim
    rfl
  | cond y a b =>
    simp only [bH] at hf ⊢; split at hf
    . exact hr _ _ _ _ _ hf
    . exact hr _ _ _ _ _ hf
    cases hf
  | block id b =>
    simp only [bH] at hf ⊢; split at hf
    . rename_i xT fr1 h1 h2; rw [hr _ _ _ _ _ h2]; exact hf
    rename_i cA; have h2 := hr _ _ _ _ _ hf; rw [h2]; split
    . rename_i xT fr1 h1 he; exact (cA xT fr1 h1 (by rw [hf]; exact he)).elim
    rfl
  | loop b =>
    simp only [bH] at hf ⊢; split at hf
    . rename_i fr1 h1 h2; rw [hr _ _ _ _ _ h2]; exact hr _ _ _ _ _ hf
    rename_i cA; have h2 := hr _ _ _ _ _ hf; rw [h2]; split
    . rename_i fr1 h1 he; exact (cA fr1 h1 (by rw [hf]; exact he)).elim
    rfl
  | region id ops draw =>
    cases draw with
    | false =>
      simp only [bH] at hf ⊢; split at hf
      . rename_i t h1 h2; rw [qV (GL EH (nN hr)) _ _ _ _ h2]; exact hf
      cases hf
    | true =>
      simp only [bH] at hf ⊢
      cases hl : B7 ops with
      | false =>
        rw [hl] at hf; simp only [cond_false] at hf ⊢; split at hf
        . rename_i s h2; rw [uD dU _ _ _ _ h2]; exact hf
        cases hf
      | true =>
        rw [hl] at hf; simp only [cond_true] at hf ⊢; split at hf
        . rename_i s h2; rw [PG dU h2]; exact hf
        cases hf
  | rangeFunc g ps assign body => exact C9 hr hf
theorem AS {orc : FuncId -> List Value -> U -> Option (Value × U)} : ∀ m, I4 (dK P orc m) (dK P orc (m + 1))
  | 0 => fun _ _ _ _ _ hf => by cases hf
  | m + 1 => PH (AS m)
theorem I4.refl (r : Rec) : I4 r r := fun _ _ _ _ _ h => h
theorem gT {orc : FuncId -> List Value -> U -> Option (Value × U)} {m k : Nat} (hk : m <= k) : I4 (dK P orc m) (dK P orc k) := by
  induction k with
  | zero =>
    have : m = 0 := by omega
    subst this; exact I4.refl _
  | succ k ih =>
    by_cases h : m = k + 1
    . subst h; exact I4.refl _
    exact fun aY c fr hp x hf => AS k _ _ _ _ _ (ih (by omega) aY c fr hp x hf)
end Go.Fs
namespace Go.Fs
section
variable (P : Program) (orc : FuncId -> List Value -> U -> Option (Value × U))
def lV (m : Nat) : Oper -> (Operand -> Value) -> U -> Option (Value × U) := cP P (eJ P orc (dK P orc m)) (eK (dK P orc m))
def y4 (m : Nat) : Oper -> (Operand -> Value) -> U -> Option (Value × U) := sM P (eJ P orc (dK P orc m)) (eK (dK P orc m))
def gG : Oper -> (Operand -> Value) -> U -> Option (Value × U) := cP P (fun _ _ _ => none) (fun _ _ _ => none)
def gX (aY : Option Nat) (c : Code) (fr : Fr) (h : U) (Q : Ex -> Fr -> U -> Prop) : Prop := ∃ m e jW h', dK P orc m aY c fr h = some (e, jW, h') /\ Q e jW h'
def qW (f : FuncId) (args : List Value) (h : U) (Q : Value -> U -> Prop) : Prop := ∃ m v h', eJ P orc (dK P orc m) f args h = some (v, h') /\ Q v h'
def S8 (l : Nat) (args : List Value) (h : U) (Q : Value -> U -> Prop) : Prop := ∃ m v h', eK (dK P orc m) l args h = some (v, h') /\ Q v h'
def lZ (ops : Array Oper) (n : Nat) (l : List Oper) (t : Tr) (h : U) (Q : Tr -> U -> Prop) : Prop := ∃ m t' h', oZ (y4 P orc m) ops n l t h = some (t', h') /\ Q t' h'
def rV (ops : Array Oper) (n : Nat) (l : List Oper) (i : Nat) (s : dT) (Q : dT -> Prop) : Prop := ∃ m s', kD (lV P orc m) ops n l i s = some s' /\ Q s'
end
variable {P : Program} {orc : FuncId -> List Value -> U -> Option (Value × U)} {aY : Option Nat} {fr : Fr} {h : U} {Q : Ex -> Fr -> U -> Prop}
theorem B8.y5 {m k : Nat} (hk : m <= k) : B8 (eJ P orc (dK P orc m)) (eJ P orc (dK P orc k)) := by
  intro f a h y hy; unfold eJ at hy ⊢; split at hy
  . exact hy
  split at hy
  . exact hy
  exact AR (gT hk) _ _ _ _ hy
theorem CA {m k : Nat} (hk : m <= k) : B9 (lV P orc m) (lV P orc k) := w7 (B8.y5 hk) (nN (gT hk))
theorem EI (m : Nat) : B9 (gG P) (lV P orc m) := w7 (fun _ _ _ _ h => by cases h) (fun _ _ _ _ h => by cases h)
theorem GM {m k : Nat} (hk : m <= k) : B9 (y4 P orc m) (y4 P orc k) := GL (B8.y5 hk) (nN (gT hk))
theorem EJ {m : Nat} : B9 (lV P orc m) (y4 P orc m) := ahO
theorem ae3 (m : Nat) : B9 (gG P) (y4 P orc m) := fun _ _ _ _ h => EJ _ _ _ _ (EI m _ _ _ _ h)
theorem gX.mono {c : Code} {Q' : Ex -> Fr -> U -> Prop} (hc : gX P orc aY c fr h Q) (hq : ∀ e jW h', Q e jW h' -> Q' e jW h') : gX P orc aY c fr h Q' :=
  let ⟨m, e, jW, h', h1, h2⟩ := hc; ⟨m, e, jW, h', h1, hq _ _ _ h2⟩
theorem qW.mono {f : FuncId} {args : List Value} {Q Q' : Value -> U -> Prop} (hc : qW P orc f args h Q) (hq : ∀ v h', Q v h' -> Q' v h') : qW P orc f args h Q' :=
  let ⟨m, v, h', h1, h2⟩ := hc; ⟨m, v, h', h1, hq _ _ h2⟩
def ae4 (P : Program) (orc : FuncId -> List Value -> U -> Option (Value × U)) (aY : Option Nat) (b : Code) (Q : Ex -> Fr -> U -> Prop) : Ex -> Fr -> U -> Prop
  | .normal, fr, h => gX P orc aY b fr h Q
  | e, fr, h => Q e fr h
theorem gX.skip (hq : Q .normal fr h) : gX P orc aY .skip fr h Q := ⟨1, _, _, _, rfl, hq⟩
theorem gX.label {l : Nat} (hq : Q .normal fr h) : gX P orc aY (.label l) fr h Q := ⟨1, _, _, _, rfl, hq⟩
theorem gX.exit {id : Nat} (hq : Q (.exit id) fr h) : gX P orc aY (.exit id) fr h Q := ⟨1, _, _, _, rfl, hq⟩
theorem gX.ret (hq : Q .ret fr h) : gX P orc aY .ret fr h Q := ⟨1, _, _, _, rfl, hq⟩
theorem gX.scope {b : Code} (hb : gX P orc aY b fr h Q) : gX P orc aY (.scope b) fr h Q :=
  let ⟨m, e, jW, h', h1, h2⟩ := hb; ⟨m + 1, e, jW, h', h1, h2⟩
theorem gX.seq {a b : Code} (ha : gX P orc aY a fr h (ae4 P orc aY b Q)) : gX P orc aY (.seq a b) fr h Q := by
  obtain ⟨m, e, fr1, h1, hr, hq⟩ := ha
  cases e with
  | normal =>
    obtain ⟨k, e2, MW, h2, kG, JE⟩ := hq; refine ⟨max m k + 1, e2, MW, h2, ?_, JE⟩; show bH P orc (dK P orc (max m k)) aY (.seq a b) fr h = _; simp only [bH, gT (Nat.le_max_left m k) _ _ _ _ _ hr]
    exact gT (Nat.le_max_right m k) _ _ _ _ _ kG
  | exit id =>
    refine ⟨m + 1, .exit id, fr1, h1, ?_, hq⟩; show bH P orc (dK P orc m) aY (.seq a b) fr h = _
    simp only [bH, hr]
  | ret =>
    refine ⟨m + 1, .ret, fr1, h1, ?_, hq⟩; show bH P orc (dK P orc m) aY (.seq a b) fr h = _; simp only [bH, hr]
theorem gX.loop {b : Code} (ha : gX P orc aY b fr h (ae4 P orc aY (.loop b) Q)) : gX P orc aY (.loop b) fr h Q := by
  obtain ⟨m, e, fr1, h1, hr, hq⟩ := ha
  cases e with
  | normal =>
    obtain ⟨k, e2, MW, h2, kG, JE⟩ := hq; refine ⟨max m k + 1, e2, MW, h2, ?_, JE⟩; show bH P orc (dK P orc (max m k)) aY (.loop b) fr h = _; simp only [bH, gT (Nat.le_max_left m k) _ _ _ _ _ hr]
    exact gT (Nat.le_max_right m k) _ _ _ _ _ kG
  | exit id =>
    refine ⟨m + 1, .exit id, fr1, h1, ?_, hq⟩; show bH P orc (dK P orc m) aY (.loop b) fr h = _
    simp only [bH, hr]
  | ret =>
    refine ⟨m + 1, .ret, fr1, h1, ?_, hq⟩; show bH P orc (dK P orc m) aY (.loop b) fr h = _; simp only [bH, hr]
def inBlock (id : Nat) (Q : Ex -> Fr -> U -> Prop) : Ex -> Fr -> U -> Prop
  | .exit xT, fr, h => if xT = id then Q .normal fr h else Q (.exit xT) fr h
  | e, fr, h => Q e fr h
theorem gX.block {id : Nat} {b : Code} (hb : gX P orc aY b fr h (inBlock id Q)) : gX P orc aY (.block id b) fr h Q := by
  obtain ⟨m, e, fr1, h1, hr, hq⟩ := hb
  cases e with
  | normal =>
    refine ⟨m + 1, .normal, fr1, h1, ?_, hq⟩; show bH P orc (dK P orc m) aY (.block id b) fr h = _
    simp only [bH, hr]
  | ret =>
    refine ⟨m + 1, .ret, fr1, h1, ?_, hq⟩; show bH P orc (dK P orc m) aY (.block id b) fr h = _
    simp only [bH, hr]
  | exit xT =>
    simp only [inBlock] at hq; by_cases he : xT = id
    . rw [if_pos he] at hq; subst he; refine ⟨m + 1, .normal, fr1, h1, ?_, hq⟩; show bH P orc (dK P orc m) aY (.block xT b) fr h = _; simp only [bH, hr, Nat.beq_refl, cond_true]
    rw [if_neg he] at hq; refine ⟨m + 1, .exit xT, fr1, h1, ?_, hq⟩; show bH P orc (dK P orc m) aY (.block id b) fr h = _
    have hb : Nat.beq xT id = false := by
      cases hx : Nat.beq xT id with
      | false => rfl
      | true => exact absurd (Nat.eq_of_beq_eq_true hx) he
    simp only [bH, hr, hb, cond_false]
theorem gX.cond {x : Operand} {a b : Code} {c : Bool} (hx : aB fr.t x = .bool c) (hc : gX P orc aY (if c then a else b) fr h Q) : gX P orc aY (.cond x a b) fr h Q := by
  obtain ⟨m, e, fr1, h1, hr, hq⟩ := hc; refine ⟨m + 1, e, fr1, h1, ?_, hq⟩; show bH P orc (dK P orc m) aY (.cond x a b) fr h = _
  cases c with
  | true => simp only [bH, hx]; exact hr
  | false => simp only [bH, hx]; exact hr
theorem gX.text {id : Nat} {ops : Array Oper} (ho : lZ P orc ops fr.n ops.toList fr.t h fun t h' => Q .normal { t, n := fr.n, marks := fr.marks } h') : gX P orc aY (.region id ops false) fr h Q := by
  obtain ⟨m, t, h1, hr, hq⟩ := ho; refine ⟨m + 1, .normal, _, h1, ?_, hq⟩; show bH P orc (dK P orc m) aY (.region id ops false) fr h = _; simp only [bH]; unfold y4 at hr; rw [hr]
theorem gX.draw {id : Nat} {ops : Array Oper} (hl : B7 ops = false) (ho : rV P orc ops fr.n ops.toList 0 ⟨fr.t, h, [], [], 0, false⟩ fun s => Q .normal { t := s.t, n := fr.n, marks := fr.marks } s.h) : gX P orc aY (.region id ops true) fr h Q := by
  obtain ⟨m, s, hr, hq⟩ := ho; refine ⟨m + 1, .normal, _, _, ?_, hq⟩; show bH P orc (dK P orc m) aY (.region id ops true) fr h = _; simp only [bH, hl, cond_false]; unfold lV at hr; rw [hr]
variable {ops : Array Oper} {n : Nat} {QO : Tr -> U -> Prop} {QD : dT -> Prop}
theorem lZ.nil {t : Tr} (hq : QO t h) : lZ P orc ops n [] t h QO := ⟨0, t, h, rfl, hq⟩
theorem lZ.op {o : Oper} {l : List Oper} {t t' : Tr} {v : Value} {h' : U} (hw : bL ops t o = some true) (hs : gG P o (aB t) h = some (v, h')) (hp : put n t o.dst v = some t') (hl : lZ P orc ops n l t' h' QO) :
    lZ P orc ops n (o :: l) t h QO := by
  obtain ⟨m, t2, h2, hr, hq⟩ := hl; refine ⟨m, t2, h2, ?_, hq⟩; simp only [oZ, hw, ae3 m _ _ _ _ hs, hp]; exact hr
theorem lZ.skip {o : Oper} {l : List Oper} {t t' : Tr} (hw : bL ops t o = some false) (hp : put n t o.dst undef = some t') (hl : lZ P orc ops n l t' h QO) : lZ P orc ops n (o :: l) t h QO := by
  obtain ⟨m, t2, h2, hr, hq⟩ := hl; refine ⟨m, t2, h2, ?_, hq⟩; simp only [oZ, hw, hp]; exact hr
theorem w8 {o : Oper} {c : Call} {f : Operand} {g : FuncId} {a b : Array Value} {ev : Operand -> Value} (ho : o.op = .call c) (hc : c.callee = .value f) (hf : ev f = .func (.func g) a b) (m : Nat) (h : U) :
    lV P orc m o ev h = eJ P orc (dK P orc m) g (a.toList ++ c.args.toList.map ev ++ b.toList) h := by
  unfold lV cP; rw [ho]; simp only [hc, hf]
theorem lZ.call {o : Oper} {l : List Oper} {t : Tr} {c : Call} {f : Operand} {g : FuncId} {a b : Array Value} (hw : bL ops t o = some true) (ho : o.op = .call c) (hc : c.callee = .value f) (hf : aB t f = .func (.func g) a b)
    (hl : qW P orc g (a.toList ++ c.args.toList.map (aB t) ++ b.toList) h fun v h' => ∃ t', put n t o.dst v = some t' /\ lZ P orc ops n l t' h' QO) : lZ P orc ops n (o :: l) t h QO := by
  obtain ⟨m, v, h1, hr, t1, hp, k, t2, h2, kG, hq⟩ := hl; refine ⟨max m k, t2, h2, ?_, hq⟩; have h3 := B8.y5 (P := P) (orc := orc) (Nat.le_max_left m k) _ _ _ _ hr; have h4 : y4 P orc (max m k) o (aB t) h = some (v, h1) := EJ _ _ _ _ (by rw [w8 ho hc hf]; exact h3); simp only [oZ, hw, h4, hp]; exact qV (GM (Nat.le_max_right m k)) _ _ _ _ kG
theorem rV.nil {i : Nat} {s : dT} (hq : QD s) : rV P orc ops n [] i s QD := ⟨0, s, rfl, hq⟩
theorem rV.op {o : Oper} {l : List Oper} {i : Nat} {s s' : dT} (hs : gJ (gG P) ops n o i s = some s') (hl : rV P orc ops n l (i + 1) s' QD) : rV P orc ops n (o :: l) i s QD := by
  obtain ⟨m, s2, hr, hq⟩ := hl; refine ⟨m, s2, ?_, hq⟩; simp only [kD, C8 (EI m) hs]; exact hr
def p5 (o : Oper) (s : dT) : U := { next := s.h.next, low := s.h.next, aA := bif Nat.beq (s.mem &&& aM s.bs o) s.mem then s.h.aA else mask (aM s.bs o) s.segs s.h.aA }
def kB (o : Oper) (i : Nat) (s : dT) (t : Tr) (h' : U) : dT :=
  bif Nat.ble s.h.next h'.low then { t, h := { next := h'.next, low := s.h.low, aA := bI s.h.next h'.next h'.aA ++ s.h.aA }, bs := s.bs ++ [aM s.bs o], segs := (i, s.h.next, h'.next) :: s.segs, mem := s.mem ||| 2 ^ i, tail := s.tail }
  else { t, h := { next := h'.next, low := min s.h.low h'.low, aA := h'.aA }, bs := s.bs ++ [aM s.bs o], segs := (i, s.h.next, h'.next) :: s.segs, mem := s.mem ||| 2 ^ i, tail := true }
theorem rV.call {o : Oper} {l : List Oper} {i : Nat} {s : dT} {c : Call} {f : Operand} {g : FuncId} {a b : Array Value} (hw : bL ops s.t o = some true) (ho : o.op = .call c) (hc : c.callee = .value f) (hf : aB s.t f = .func (.func g) a b)
    (lO : (s.tail && !Nat.beq (s.mem &&& aM s.bs o) s.mem) = false)
    (hl : qW P orc g (a.toList ++ c.args.toList.map (aB s.t) ++ b.toList) (p5 o s) fun v h' => Nat.blt h'.next s.h.next = false /\ (Nat.ble s.h.next h'.low || Nat.beq (s.mem &&& aM s.bs o) s.mem) = true /\
      ∃ t', put n s.t o.dst v = some t' /\ rV P orc ops n l (i + 1) (kB o i s t' h') QD) : rV P orc ops n (o :: l) i s QD := by
  obtain ⟨m, v, h1, hr, gU, sO, t1, hp, k, s2, kG, hq⟩ := hl; refine ⟨max m k, s2, ?_, hq⟩; have h3 := B8.y5 (P := P) (orc := orc) (Nat.le_max_left m k) _ _ _ _ hr
  have sP : calm o.op = false := by rw [ho]; rfl
  have hd : gJ (lV P orc (max m k)) ops n o i s = some (kB o i s t1 h1) := by
    unfold gJ; simp only [hw, sP, Bool.false_eq_true, if_false, lO, cond_false]; rw [w8 ho hc hf]; unfold p5 at h3; rw [h3]; simp only [gU, cond_false, hp]; unfold kB
    cases hx : Nat.ble s.h.next h1.low with
    | true => rfl
    | false =>
      rw [hx] at sO; simp only [Bool.false_or] at sO; rw [sO]; rfl
  simp only [kD, hd]; exact uD (CA (Nat.le_max_right m k)) _ _ _ _ kG
theorem qW.PI {f : FuncId} {args : List Value} {v : Value} {h' : U} {QF : Value -> U -> Prop} (ho : orc f args h = some (v, h')) (hq : QF v h') : qW P orc f args h QF :=
  ⟨0, v, h', by simp only [eJ, ho], hq⟩
def leftOf (h h2 : U) (v : Value) : U := bif af v && Nat.ble h.next h2.low then h else { next := h2.next, low := min h.low h2.low, aA := h2.aA }
theorem S9 {f : FuncId} {args : List Value} {fn : Func} {c : Code} (kF : P.funcs[f]? = some fn) (hc : fn.body = some c) : EG P f args h = none := by
  unfold EG; simp [kF, hc]
theorem qW.ext {f : FuncId} {args : List Value} {fn : Func} {e : Array Value -> Sem Value} {v : Value} {QF : Value -> U -> Prop} (ho : orc f args h = none) (kF : P.funcs[f]? = some fn) (hb : (fn.body.isNone && !(fn.name == "runtime.NumGoroutine")) = true) (h1 : (Extern.findNext fn).isNone = true) (h2 : Extern.find fn = some e)
    (ha : args.all af = true) (hv : bX P (e args.toArray) = some v) (hq : QF v h) : qW P orc f args h QF := by
  refine ⟨0, v, h, ?_, hq⟩; have qX := Option.isNone_iff_eq_none.1 h1
  have hx : EG P f args h = some (v, h) := by
    unfold EG; simp only [kF, hb, cond_true, qX, h2, ha, hv]; rfl
  simp only [eJ, ho, hx]
theorem qW.enter {f : FuncId} {args : List Value} {fn : Func} {c : Code} {QF : Value -> U -> Prop} (kF : P.funcs[f]? = some fn) (hc : fn.body = some c) (ho : orc f args h = none) (hn : (Nat.blt 4000 fn.ntmps || Nat.blt fn.ntmps args.length) = false)
    (hb : gX P orc none c ⟨iI .leaf 0 args, fn.ntmps, []⟩ { next := h.next, low := h.next, aA := h.aA } fun e fr h1 =>
      e.goes = true /\ ∃ h2 vs, iV fr.marks h1 = some h2 /\ fX P fr.t h2 fn.results.toList = some vs /\ QF (gS vs) (leftOf h h2 (gS vs))) : qW P orc f args h QF := by
  obtain ⟨m, e, fr, h1, hr, hg, h2, vs, hd, w9, hq⟩ := hb; refine ⟨m, gS vs, leftOf h h2 (gS vs), ?_, hq⟩; unfold eJ; rw [ho, S9 kF hc]; unfold mG kE; simp only [kF, hc, hn, cond_false, hr, hg, cond_true, hd, w9, Bool.not_false, Bool.true_and]; unfold leftOf; cases hx : (af (gS vs) && Nat.ble h.next h2.low) <;> rfl
end Go.Fs
namespace Go.Fs
open Go.RowKit (Below)
structure Loc where
  block : Nat
  off : Nat
  total : Nat
  BA : Nat
  fz : Nat × Nat
  hfz : fz.1 = fz.2 \/ total <= fz.1
abbrev Loc.clean (b o t e : Nat) : Loc := ⟨b, o, t, e, (0, 0), .inl rfl⟩
abbrev Ren := Nat -> Loc
def Loc.at (l : Loc) (o : Nat) : Addr := ⟨l.block, l.off + o, none⟩
theorem Loc.tT (l : Loc) (o n : Nat) : (l.at o).add n = l.at (o + n) := by
  unfold Addr.add Loc.at; by_cases h : n = 0
  . subst h; simp
  simp [h, Nat.add_assoc]
inductive VR (ρ : Ren) (S : Nat -> Prop) : Value -> Value -> Prop
  | lit {v : Value} (h : eD v = true) : VR ρ S v v
  | j9 (v : Value) : VR ρ S j9 v
  | nan (k : FloatKind) (b : Nat) (hb : (k.decode b).isNaN = true) : VR ρ S (jK k) (.float k b)
  | ptr (b o : Nat) (hs : S b) : VR ρ S (.pointer (some ⟨b, o, none⟩)) (.pointer (some ((ρ b).at o)))
  | slice (b o n m c : Nat) (A : Addr) (hn : n <= c) (hm : m = 1 -> c = n) (h0 : b = 0 -> n = 0)
      (hb : b ≠ 0 -> S b /\ A = (ρ b).at o /\ (m = 0 -> o + c * (ρ b).BA = (ρ b).total)) : VR ρ S (.slice (some ⟨b, o, none⟩) n m) (.slice (some A) n c)
  | map (b : Nat) (hs : S b) : VR ρ S (.map (some b)) (.map (some (ρ b).block))
  | agg (cs cs' : Array Value) (hl : cs.size = cs'.size) (h : ∀ i, i < cs.size -> VR ρ S (cs.toList.getD i undef) (cs'.toList.getD i undef)) : VR ρ S (.agg cs) (.agg cs')
  | tuple (cs cs' : Array Value) (hl : cs.size = cs'.size) (h : ∀ i, i < cs.size -> VR ρ S (cs.toList.getD i undef) (cs'.toList.getD i undef)) : VR ρ S (.tuple cs) (.tuple cs')
  | func (f : FuncId) (a a' c c' : Array Value) (ha : a.size = a'.size) (hA : ∀ i, i < a.size -> VR ρ S (a.toList.getD i undef) (a'.toList.getD i undef))
      (hc : c.size = c'.size) (hC : ∀ i, i < c.size -> VR ρ S (c.toList.getD i undef) (c'.toList.getD i undef)) : VR ρ S (.func (.func f) a c) (.func (.func f) a' c')
  | yield (l : Nat) (hs : S l) : VR ρ S (.func (.yield l) #[] #[]) (.func (.yield (ρ l).block) #[] #[])
variable {ρ bY : Ren} {S S' : Nat -> Prop}
theorem VR.mono {v v' : Value} (h : VR ρ S v v') (hs : ∀ b, S b -> S' b /\ bY b = ρ b) : VR bY S' v v' := by
  induction h with
  | lit h => exact .lit h
  | j9 v => exact .j9 v
  | nan k b hb => exact .nan k b hb
  | ptr b o h => have := hs b h; rw [<- this.2]; exact .ptr b o this.1
  | slice b o n m c A hn hm h0 hb =>
    refine .slice b o n m c A hn hm h0 fun jX => ?_; obtain ⟨h1, h2, h3⟩ := hb jX; have := hs b h1
    rw [this.2]; exact ⟨this.1, h2, h3⟩
  | map b h => have := hs b h; rw [<- this.2]; exact .map b this.1
  | agg cs cs' hl _ ih => exact .agg cs cs' hl ih
  | tuple cs cs' hl _ ih => exact .tuple cs cs' hl ih
  | func f a a' c c' ha _ hc _ ihA ihC => exact .func f a a' c c' ha ihA hc ihC
  | yield l h => have := hs l h; rw [<- this.2]; exact .yield l this.1
def LR (ρ : Ren) (S : Nat -> Prop) (cs cs' : List Value) : Prop := cs.length = cs'.length /\ ∀ i, i < cs.length -> VR ρ S (cs.getD i undef) (cs'.getD i undef)
theorem VR.SA {cs cs' : Array Value} (h : LR ρ S cs.toList cs'.toList) : VR ρ S (.agg cs) (.agg cs') := .agg cs cs' (by simpa using h.1) (by simpa using h.2)
theorem VR.tuple' {cs cs' : Array Value} (h : LR ρ S cs.toList cs'.toList) : VR ρ S (.tuple cs) (.tuple cs') := .tuple cs cs' (by simpa using h.1) (by simpa using h.2)
theorem VR.undef : VR ρ S undef undef := .tuple #[] #[] rfl (fun i h => absurd h (by simp))
theorem LR.mono {cs cs' : List Value} (h : LR ρ S cs cs') (hs : ∀ b, S b -> S' b /\ bY b = ρ b) : LR bY S' cs cs' := ⟨h.1, fun i hi => (h.2 i hi).mono hs⟩
theorem LR.nil : LR ρ S [] [] := ⟨rfl, fun i h => absurd h (by simp)⟩
theorem LR.getD {cs cs' : List Value} (h : LR ρ S cs cs') (i : Nat) : VR ρ S (cs.getD i undef) (cs'.getD i undef) := by
  by_cases hi : i < cs.length
  . exact h.2 i hi
  have h2 := h.1; rw [List.getD_eq_getElem?_getD, List.getD_eq_getElem?_getD, List.getElem?_eq_none (by omega), List.getElem?_eq_none (by omega)]; exact VR.undef
theorem LR.get? {cs cs' : List Value} (h : LR ρ S cs cs') {i : Nat} {v : Value} (hv : cs[i]? = some v) : ∃ v', cs'[i]? = some v' /\ VR ρ S v v' := by
  obtain ⟨hi, rfl⟩ := List.getElem?_eq_some_iff.1 hv; have h1 := h.2 i hi
  have h2 : i < cs'.length := by have := h.1; omega
  exact ⟨cs'[i], List.getElem?_eq_getElem h2, by simpa [List.getD, hi, h2] using h1⟩
theorem LR.of_get? {cs cs' : List Value} (hl : cs.length = cs'.length) (h : ∀ (i : Nat) (v v' : Value), cs[i]? = some v -> cs'[i]? = some v' -> VR ρ S v v') : LR ρ S cs cs' := by
  refine ⟨hl, fun i hi => ?_⟩
  have kQ : i < cs'.length := by omega
  have := h i cs[i] cs'[i] (List.getElem?_eq_getElem hi) (List.getElem?_eq_getElem kQ); simpa [List.getD, hi, kQ] using this
theorem LR.oK {cs cs' : List Value} (h : LR ρ S cs cs') {i : Nat} {v v' : Value} (hv : cs[i]? = some v) (rE : cs'[i]? = some v') : VR ρ S v v' := by
  obtain ⟨v2, h2, hr⟩ := h.get? hv; rw [h2] at rE; injection rE with e; subst e; exact hr
theorem LR.cons {v v' : Value} {cs cs' : List Value} (h : VR ρ S v v') (hc : LR ρ S cs cs') : LR ρ S (v :: cs) (v' :: cs') := by
  refine LR.of_get? (by simp [hc.1]) fun i a a' ha pY => ?_
  cases i with
  | zero => simp at ha pY; subst ha pY; exact h
  | succ i => simp at ha pY; exact hc.oK ha pY
theorem LR.append {a a' b b' : List Value} (h : LR ρ S a a') (k : LR ρ S b b') : LR ρ S (a ++ b) (a' ++ b') := by
  refine LR.of_get? (by simp [h.1, k.1]) fun i v v' hv rE => ?_; rw [List.getElem?_append] at hv rE; rw [<- h.1] at rE; split at hv
  . rename_i hi; rw [if_pos hi] at rE; exact h.oK hv rE
  rename_i hi; rw [if_neg hi] at rE; exact k.oK hv rE
theorem LR.take {a a' : List Value} (h : LR ρ S a a') (n : Nat) : LR ρ S (a.take n) (a'.take n) := by
  refine LR.of_get? (by simp [h.1]) fun i v v' hv rE => ?_; rw [List.getElem?_take] at hv rE; split at hv
  . rename_i hi; rw [if_pos hi] at rE; exact h.oK hv rE
  cases hv
theorem LR.drop {a a' : List Value} (h : LR ρ S a a') (n : Nat) : LR ρ S (a.drop n) (a'.drop n) := by
  refine LR.of_get? (by simp [h.1]) fun i v v' hv rE => ?_; rw [List.getElem?_drop] at hv rE; exact h.oK hv rE
theorem LR.set {a a' : List Value} (h : LR ρ S a a') (i : Nat) {v v' : Value} (hv : VR ρ S v v') : LR ρ S (a.set i v) (a'.set i v') := by
  refine LR.of_get? (by simp [h.1]) fun j u u' hu wA => ?_; rw [List.getElem?_set] at hu wA; split at hu
  . rename_i e; rw [if_pos e] at wA; split at hu
    . split at wA
      . injection hu with hu; injection wA with wA; subst hu wA; exact hv
      cases wA
    cases hu
  rename_i e; rw [if_neg e] at wA; exact h.oK hu wA
theorem LR.map {α : Type} (f g : α -> Value) (l : List α) (h : ∀ x ∈ l, VR ρ S (f x) (g x)) : LR ρ S (l.map f) (l.map g) := by
  refine LR.of_get? (by simp) fun i a a' ha pY => ?_; rw [List.getElem?_map] at ha pY
  cases hx : l[i]? with
  | none => rw [hx] at ha; cases ha
  | some x =>
    rw [hx] at ha pY; simp at ha pY; subst ha pY; exact h x (List.mem_of_getElem? hx)
theorem VR.gP {v v' : Value} (h : VR ρ S v v') (ha : eD v = true) : v' = v := by
  cases h with
  | lit _ => rfl
  | j9 => simp [eD, Fs.j9] at ha
  | nan k b hb => simp [eD, jK] at ha
  | slice b o n m c A hn hm h0 hb => simp [eD] at ha
  | _ => simp [eD] at ha
theorem y6 {cs cs' : List Value} (hl : cs.length = cs'.length) (h : ∀ i, i < cs.length -> cs'.getD i Go.undef = cs.getD i Go.undef) : cs' = cs := by
  refine List.ext_getElem (by omega) fun i h1 h2 => ?_; have := h i h2; simpa [List.getD, h1, h2] using this
theorem oL {cs : List Value} {i : Nat} (hi : i < cs.length) : cs.getD i Go.undef ∈ cs := by
  simp [List.getD, hi]
theorem VR.JF {v v' : Value} (h : VR ρ S v v') (ha : oX v = true) : v' = v := by
  cases h with
  | lit _ => rfl
  | j9 => simp [oX, eD, Fs.j9] at ha
  | nan k b hb => simp [oX, eD, jK] at ha
  | agg cs cs' hl hv =>
    simp only [oX, List.all_eq_true] at ha; have : cs'.toList = cs.toList := y6 (by simpa using hl) fun i hi => (hv i (by simpa using hi)).gP (ha _ (oL hi))
    rw [show cs' = cs from Array.toList_inj.1 this]
  | _ => simp [oX, eD] at ha
theorem VR.dN {v v' : Value} (h : VR ρ S v v') (ha : af v = true) : v' = v := by
  cases h with
  | lit _ => rfl
  | j9 => simp [af, oX, eD, Fs.j9] at ha
  | nan k b hb => simp [af, oX, eD, jK] at ha
  | agg cs cs' hl hv => exact VR.JF (.agg cs cs' hl hv) ha
  | tuple cs cs' hl hv =>
    simp only [af, List.all_eq_true] at ha; have : cs'.toList = cs.toList := y6 (by simpa using hl) fun i hi => (hv i (by simpa using hi)).JF (ha _ (oL hi))
    rw [show cs' = cs from Array.toList_inj.1 this]
  | _ => simp [af, oX, eD] at ha
theorem VR.ZS {v : Value} (h : oX v = true) : VR ρ S v v := by
  cases v with
  | agg cs =>
    simp only [oX, List.all_eq_true] at h
    exact .agg cs cs rfl fun i hi => .lit (h _ (oL (by simpa using hi)))
  | _ => exact .lit h
theorem VR.mH {v : Value} (h : af v = true) : VR ρ S v v := by
  cases v with
  | tuple cs =>
    simp only [af, List.all_eq_true] at h
    exact .tuple cs cs rfl fun i hi => .ZS (h _ (oL (by simpa using hi)))
  | _ => exact .ZS h
theorem LR.zO {l : List Value} (h : ∀ v ∈ l, eD v = true) : LR ρ S l l := ⟨rfl, fun i hi => .lit (h _ (oL hi))⟩
theorem LR.dN {l l' : List Value} (h : LR ρ S l l') (ha : l.all af = true) : l' = l :=
  y6 h.1 fun i hi => (h.2 i hi).dN (List.all_eq_true.1 ha _ (oL hi))
theorem VR.aN {v v' : Value} (h : VR ρ S v v') (hv : Fs.aN v = true) : Fs.aN v' = true := by
  cases h <;> simp_all [Fs.aN, Fs.j9, jK]
theorem LR.aN {l l' : List Value} (h : LR ρ S l l') (ha : l.all Fs.aN = true) : ∀ v ∈ l', Fs.aN v = true := by
  intro v hv; obtain ⟨i, hi, rfl⟩ := List.mem_iff_getElem.1 hv
  have h1 : i < l.length := by have := h.1; omega
  have h2 := h.2 i h1; have h3 := h2.aN (List.all_eq_true.1 ha _ (oL h1)); simpa [List.getD, hi] using h3
theorem VR.cells {v v' : Value} (h : VR ρ S v v') (hv : v.cells.toList.all Fs.aN = true) : LR ρ S v.cells.toList v'.cells.toList := by
  cases h with
  | agg cs cs' hl hc => exact ⟨by simpa [Value.cells] using hl, by simpa [Value.cells] using hc⟩
  | lit h => exact ⟨rfl, fun i hi => by
      have : ∀ v : Value, eD v = true -> v.cells = #[v] := by intro v; cases v <;> simp [eD, Value.cells]
      rw [this _ h] at hi ⊢
      simp at hi; subst hi; exact .lit h⟩
  | j9 v => simp [Value.cells, Fs.j9, Fs.aN] at hv
  | nan k b hb => exact LR.cons (.nan k b hb) LR.nil
  | tuple => simp [Value.cells, Fs.aN] at hv
  | ptr b o hs => exact LR.cons (.ptr b o hs) LR.nil
  | slice b o n m c A hn hm h0 hb => exact LR.cons (.slice b o n m c A hn hm h0 hb) LR.nil
  | map b hs => exact LR.cons (.map b hs) LR.nil
  | func f a a' c c' ha hA hc hC => exact LR.cons (.func f a a' c c' ha hA hc hC) LR.nil
  | yield l hs => exact LR.cons (.yield l hs) LR.nil
theorem eE {a b : Nat} (h : a ≠ b) : Nat.beq a b = false := by
  cases hb : Nat.beq a b with
  | false => rfl
  | true => exact absurd (Nat.eq_of_beq_eq_true hb) h
theorem ae5 (a : Nat) : Nat.beq a a = true := Nat.beq_refl a
theorem gC {a b : Nat} (h : Nat.beq a b = false) : a ≠ b := fun e => by
  subst e; rw [ae5] at h; cases h
theorem Tr.cX : ∀ (f : Nat) (t : Tr) (i : Nat) (v : Value) (j : Nat), i + 1 < 2 ^ f -> (t.set f i v).get j = if j = i then v else t.get j
  | 0, t, i, v, j, h => by simp at h
  | f + 1, .leaf, i, v, j, h => by
    rw [Nat.pow_succ] at h
    cases i with
    | zero => cases j <;> simp [Tr.set, Tr.get]
    | succ k =>
      have hk : k / 2 + 1 < 2 ^ f := by omega
      cases j with
      | zero =>
        simp only [Tr.set]
        cases hb : Nat.beq (k % 2) 0 <;> simp [Tr.get]
      | succ m =>
        simp only [Tr.set]; cases hb : Nat.beq (k % 2) 0 <;> simp only [cond_true, cond_false, Tr.get] <;> cases hc : Nat.beq (m % 2) 0 <;> simp only [cond_true, cond_false, Tr.cX f _ _ _ _ hk, Tr.get]
        all_goals first
          | (have h1 : ¬ k % 2 = 0 := gC hb
             have h2 : m % 2 = 0 := Nat.eq_of_beq_eq_true hc
             rw [if_neg (by omega)])
          | (have h1 : k % 2 = 0 := Nat.eq_of_beq_eq_true hb
             have h2 : ¬ m % 2 = 0 := gC hc
             rw [if_neg (by omega)])
          | (have h1 : ¬ k % 2 = 0 := gC hb
             have h2 : ¬ m % 2 = 0 := gC hc; by_cases e : m / 2 = k / 2
             . rw [if_pos e, if_pos (by omega)]
             rw [if_neg e, if_neg (by omega)])
          | (have h1 : k % 2 = 0 := Nat.eq_of_beq_eq_true hb
             have h2 : m % 2 = 0 := Nat.eq_of_beq_eq_true hc; by_cases e : m / 2 = k / 2
             . rw [if_pos e, if_pos (by omega)]
             rw [if_neg e, if_neg (by omega)])
  | f + 1, .node u l r, i, v, j, h => by
    rw [Nat.pow_succ] at h
    cases i with
    | zero => cases j <;> simp [Tr.set, Tr.get]
    | succ k =>
      have hk : k / 2 + 1 < 2 ^ f := by omega
      cases j with
      | zero =>
        simp only [Tr.set]
        cases hb : Nat.beq (k % 2) 0 <;> simp [Tr.get]
      | succ m =>
        simp only [Tr.set]; cases hb : Nat.beq (k % 2) 0 <;> simp only [cond_true, cond_false, Tr.get] <;> cases hc : Nat.beq (m % 2) 0 <;> simp only [cond_true, cond_false, Tr.cX f _ _ _ _ hk, Tr.get]
        all_goals first
          | (have h1 : ¬ k % 2 = 0 := gC hb
             have h2 : m % 2 = 0 := Nat.eq_of_beq_eq_true hc
             rw [if_neg (by omega)])
          | (have h1 : k % 2 = 0 := Nat.eq_of_beq_eq_true hb
             have h2 : ¬ m % 2 = 0 := gC hc
             rw [if_neg (by omega)])
          | (have h1 : ¬ k % 2 = 0 := gC hb
             have h2 : ¬ m % 2 = 0 := gC hc; by_cases e : m / 2 = k / 2
             . rw [if_pos e, if_pos (by omega)]
             rw [if_neg e, if_neg (by omega)])
          | (have h1 : k % 2 = 0 := Nat.eq_of_beq_eq_true hb
             have h2 : m % 2 = 0 := Nat.eq_of_beq_eq_true hc; by_cases e : m / 2 = k / 2
             . rw [if_pos e, if_pos (by omega)]
             rw [if_neg e, if_neg (by omega)])
def lE (ρ : Ren) (S : Nat -> Prop) (t : Tr) (n : Nat) (tmps : Array Value) : Prop := tmps.size = n /\ n <= 4000 /\ ∀ i, VR ρ S (t.get i) (tmps.toList.getD i Go.undef)
theorem lE.mono {t : Tr} {n : Nat} {tmps : Array Value} (h : lE ρ S t n tmps) (hs : ∀ b, S b -> S' b /\ bY b = ρ b) : lE bY S' t n tmps := ⟨h.1, h.2.1, fun i => (h.2.2 i).mono hs⟩
theorem lE.put {t t' : Tr} {n : Nat} {tmps : Array Value} (h : lE ρ S t n tmps) {dst : Option Tmp} {v v' : Value} (hp : put n t dst v = some t') (hv : VR ρ S v v') (d : List Deferred) :
    lE ρ S t' n (({ tmps := tmps, defers := d } : Act).put dst v').tmps := by
  unfold Fs.put at hp
  cases dst with
  | none => simp only [Option.some.injEq] at hp; subst hp; exact h
  | some i =>
    simp only at hp
    cases hb : Nat.blt i n with
    | false => rw [hb] at hp; cases hp
    | true =>
      rw [hb] at hp; simp only [cond_true, Option.some.injEq] at hp; subst hp; have bO : Nat.succ i <= n := Nat.le_of_ble_eq_true hb; have h4 := h.2.1; refine ⟨by simp [Act.put, h.1], h.2.1, fun j => ?_⟩; rw [Tr.cX depth t i v j (by have : 2 ^ depth = 8192 := rfl; rw [this]; exact Nat.lt_of_le_of_lt (Nat.le_trans bO h4) (by decide))]; simp only [Act.put, Array.toList_setIfInBounds, List.getD_eq_getElem?_getD, List.getElem?_set]; by_cases e : j = i
      . subst e; rw [if_pos rfl, if_pos rfl, if_pos (by simpa [h.1] using (show j < n from bO))]; exact hv
      rw [if_neg e, if_neg (Ne.symm e)]; have := h.2.2 j
      rwa [List.getD_eq_getElem?_getD] at this
theorem lE.eval {t : Tr} {n : Nat} {tmps : Array Value} (h : lE ρ S t n tmps) (d : List Deferred) (x : Operand) : VR ρ S (aB t x) (({ tmps := tmps, defers := d } : Act).eval x) := by
  cases x with
  | tmp i =>
    have := h.2.2 i
    simpa [aB, Act.eval, Array.getD_eq_getD_getElem?, List.getD_eq_getElem?_getD] using this
  | const v =>
    simp only [aB, Act.eval]; by_cases hv : af v = true
    . rw [if_pos hv]; exact .mH hv
    rw [if_neg hv]; exact .j9 v
  | global g => exact .j9 _
  | func f => exact .func f _ _ _ _ rfl (fun i h => absurd h (by simp)) rfl (fun i h => absurd h (by simp))
theorem JG {l : List (Nat × bC)} {i : Nat} {o o' : bC} (h : look l i = some o) : look (S4 l i o') i = some o' := by
  induction l with
  | nil => simp [look] at h
  | cons p r ih =>
    obtain ⟨k, x⟩ := p; by_cases hk : k = i
    . subst hk; simp [S4, look]
    have hb : Nat.beq k i = false := eE hk; simp only [S4, look, hb, cond_false] at h ⊢; exact ih h
theorem I5 {l : List (Nat × bC)} {i j : Nat} {o' : bC} (hj : j ≠ i) : look (S4 l i o') j = look l j := by
  induction l with
  | nil => rfl
  | cons p r ih =>
    obtain ⟨k, x⟩ := p; by_cases hk : k = i
    . subst hk; have hb : Nat.beq k j = false := eE (Ne.symm hj); simp [S4, look, hb]
    have hb : Nat.beq k i = false := eE hk; simp only [S4, look, hb, cond_false, ih]
theorem JH {l : List (Nat × bC)} {i : Nat} : look (del l i) i = none := by
  induction l with
  | nil => rfl
  | cons p r ih =>
    obtain ⟨k, x⟩ := p; by_cases hk : k = i
    . subst hk; simp [del, ih]
    have hb : Nat.beq k i = false := eE hk; simp [del, hb, look, ih]
theorem I6 {l : List (Nat × bC)} {i j : Nat} (hj : j ≠ i) : look (del l i) j = look l j := by
  induction l with
  | nil => rfl
  | cons p r ih =>
    obtain ⟨k, x⟩ := p; by_cases hk : k = i
    . subst hk; have hb : Nat.beq k j = false := eE (Ne.symm hj); simp [del, look, hb, ih]
    have hb : Nat.beq k i = false := eE hk; simp only [del, look, hb, cond_false, ih]
theorem U.cX {h : U} {i j : Nat} {o o' : bC} (hi : h.get i = some o) : (h.set i o').get j = if j = i then some o' else h.get j := by
  by_cases hj : j = i
  . subst hj; rw [if_pos rfl]; exact JG hi
  rw [if_neg hj]; exact I5 hj
theorem U.cK {h : U} {i j : Nat} : (h.drop i).get j = if j = i then none else h.get j := by
  by_cases hj : j = i
  . subst hj; rw [if_pos rfl]; exact JH
  rw [if_neg hj]; exact I6 hj
theorem U.bQ {h : U} {j : Nat} {o : bC} : (h.push o).get j = if j = h.next then some o else h.get j := by
  show look ((h.next, o) :: h.aA) j = _; by_cases hj : j = h.next
  . subst hj; simp [look]
  have hb : Nat.beq h.next j = false := eE (Ne.symm hj); simp [look, hb, hj, U.get]
def iF : bC -> Bool
  | .row _ _ own _ => own
  | _ => true
section
variable (P : Program) (ρ : Ren) (S : Nat -> Prop)
def kU (l : Loc) (w : World) : bC -> Prop
  | .row e cs true more => ∃ cur : List Value, w.heap[l.block]? = some (.cells cur.toArray e l.fz) /\ l.off = 0 /\ l.total = cur.length /\ l.BA = P.cellsOf e /\ cs.length <= cur.length /\
      (more = false -> cs.length = cur.length) /\ ∀ i, i < cs.length -> VR ρ S (cs.getD i undef) (cur.getD i undef)
  | .row e cs false _ => l.BA = P.cellsOf e /\ ∀ i, i < cs.length -> ∃ v, w.cell? (l.at i) = some v /\ VR ρ S (cs.getD i undef) v
  | .oI es clock => ∃ fH : List MapEntry, w.heap[l.block]? = some (.map fH.toArray clock) /\ es.length = fH.length /\
      ∀ (i : Nat) (e e' : MapEntry), es[i]? = some e -> fH[i]? = some e' -> e'.key = e.key /\ af e.key = true /\ e'.born = e.born /\ VR ρ S e.val e'.val
  | .iter s pos => w.heap[l.block]? = some (.stringIter s pos) /\ l.off = 0
  | .dM st jump tmps n params assign body d => S d /\ ∃ fn iX, w.heap[l.block]? = some (.loop ⟨st, jump, fn, iX, params, assign, body, (ρ d).block⟩) /\ lE ρ S tmps n iX /\ (codeOk assign && codeOk body) = true
  | .iP => w.heap[l.block]? = some (.deferred (some []))
abbrev wz (w : World) : World := { w with drawn := 0 }
theorem y7 {B : Nat} {w w' : World} (h : Below B (wz w) w') : Below B w w' := ⟨h.os, h.tape, h.output, h.size, h.block⟩
theorem JI {B : Nat} {w w' : World} (h : Below B w w') : Below B (wz w) w' := ⟨h.os, h.tape, h.output, h.size, h.block⟩
structure HR (B : Nat) (w0 : World) (h : U) (w : World) : Prop where
  aA : ∀ i o, h.get i = some o -> S i /\ kU P ρ S (ρ i) w o
  inj : ∀ i j oi oj, h.get i = some oi -> h.get j = some oj -> iF oi = true -> iF oj = true -> (ρ i).block = (ρ j).block -> i = j
  base : ∀ i o, h.get i = some o -> iF o = true -> B <= (ρ i).block
  ro : ∀ i o, h.get i = some o -> iF o = false -> (ρ i).block < B
  ids : ∀ b, S b -> b < h.next /\ b ≠ 0
  pos : 0 < h.next
  below : Below B w0 w
  drawn : w0.drawn <= w.drawn
  size : B <= w.heap.size
end
structure Frame (ρ : Ren) (h : U) (w w' : World) : Prop where
  os : w'.os = w.os
  tape : w'.tape = w.tape
  output : w'.output = w.output
  size : w.heap.size <= w'.heap.size
  block : ∀ k, k < w.heap.size -> (∀ i o, h.get i = some o -> iF o = true -> (ρ i).block ≠ k) -> w'.heap[k]? = w.heap[k]?
def Ext (S : Nat -> Prop) (h h' : U) (b : Nat) : Prop := S b \/ (h.next <= b /\ b < h'.next)
structure aU (P : Program) (B : Nat) (w0 : World) (ρ bY : Ren) (S : Nat -> Prop) (h h' : U) (w w' : World) : Prop where
  agree : ∀ b, S b -> bY b = ρ b
  next : h.next <= h'.next
  hr : HR P bY (Ext S h h') B w0 h' w'
  frame : Frame ρ h w w'
  low : h'.low <= h.low
  aV : ∀ i, i < h.next -> i < h'.low -> h'.get i = h.get i
  old : ∀ i o, h'.get i = some o -> i < h.next -> ∃ o', h.get i = some o' /\ iF o' = iF o
  fresh : ∀ i o, h'.get i = some o -> h.next <= i -> iF o = true /\ (w.heap.size <= (bY i).block \/ ∃ j oj, h.get j = some oj /\ iF oj = true /\ (ρ j).block = (bY i).block /\ h'.low <= j /\ j < h.next)
variable {P : Program} {B : Nat} {w0 w w' w1 w2 : World} {h h' h1 h2 : U}
theorem kU.mono {l : Loc} {o : bC} (hr : kU P ρ S l w o) (hs : ∀ b, S b -> S' b /\ bY b = ρ b) : kU P bY S' l w o := by
  match o, hr with
  | .row e cs true more, ⟨cur, h1, h2, h3, h4, h5, h6, h7⟩ => exact ⟨cur, h1, h2, h3, h4, h5, h6, fun i hi => (h7 i hi).mono hs⟩
  | .row e cs false more, hr => exact ⟨hr.1, fun i hi => let ⟨v, h1, h2⟩ := hr.2 i hi; ⟨v, h1, h2.mono hs⟩⟩
  | .oI es clock, ⟨fH, h1, h2, h3⟩ => exact ⟨fH, h1, h2, fun i e e' he lP => let ⟨a, b, c, d⟩ := h3 i e e' he lP; ⟨a, b, c, d.mono hs⟩⟩
  | .iter s pos, hr => exact hr
  | .dM st jump tmps n params assign body d, ⟨h0, fn, iX, h1, h2⟩ => exact ⟨(hs d h0).1, fn, iX, by rw [(hs d h0).2]; exact h1, h2.1.mono hs, h2.2⟩
  | .iP, hr => exact hr
theorem kU.world {l : Loc} {o : bC} (hr : kU P ρ S l w o) (hb : w'.heap[l.block]? = w.heap[l.block]?) : kU P ρ S l w' o := by
  match o, hr with
  | .row e cs true more, ⟨cur, h1, h2⟩ => exact ⟨cur, hb.trans h1, h2⟩
  | .row e cs false more, hr => exact ⟨hr.1, fun i hi => let ⟨v, h1, h2⟩ := hr.2 i hi; ⟨v, (World.cell?_of_block (a := l.at i) hb).trans h1, h2⟩⟩
  | .oI es clock, ⟨fH, h1, h2⟩ => exact ⟨fH, hb.trans h1, h2⟩
  | .iter s pos, hr => exact ⟨hb.trans hr.1, hr.2⟩
  | .dM st jump tmps n params assign body d, ⟨h0, fn, iX, h1, h2⟩ => exact ⟨h0, fn, iX, hb.trans h1, h2⟩
  | .iP, hr => exact hb.trans hr
theorem kU.lt {l : Loc} {o : bC} (hr : kU P ρ S l w o) (ho : iF o = true) : l.block < w.heap.size := by
  have key : ∀ x, w.heap[l.block]? = some x -> l.block < w.heap.size := fun x hx => (Array.getElem?_eq_some_iff.1 hx).1
  match o, hr, ho with
  | .row e cs true more, ⟨cur, h1, h2⟩, _ => exact key _ h1
  | .oI es clock, ⟨fH, h1, h2⟩, _ => exact key _ h1
  | .iter s pos, hr, _ => exact key _ hr.1
  | .dM st jump tmps n params assign body d, ⟨h0, fn, iX, h1, h2⟩, _ => exact key _ h1
  | .iP, hr, _ => exact key _ hr
theorem Frame.refl (ρ : Ren) (h : U) (w : World) : Frame ρ h w w := ⟨rfl, rfl, rfl, Nat.le_refl _, fun _ _ _ => rfl⟩
theorem HR.congr (hr : HR P ρ S B w0 h w) (hs : ∀ b, S b ↔ S' b) : HR P ρ S' B w0 h w := by
  have : S = S' := funext fun b => propext (hs b); subst this; exact hr
theorem Ext.sE (hh : h'.next = h.next) (b : Nat) : Ext S h h' b ↔ S b := by
  unfold Ext; constructor
  . rintro (h | h)
    . exact h
    omega
  exact .inl
theorem aU.same (hr : HR P ρ S B w0 h w) : aU P B w0 ρ ρ S h h w w where
  agree := fun _ _ => rfl
  next := Nat.le_refl _
  hr := hr.congr fun b => (Ext.sE rfl b).symm
  frame := Frame.refl _ _ _
  low := Nat.le_refl _
  aV := fun _ _ _ => rfl
  old := fun i o ho _ => ⟨o, ho, rfl⟩
  fresh := fun i o ho hi => by
    have := (hr.ids i (hr.aA i o ho).1).1; omega
theorem aU.trans (m : aU P B w0 ρ bY S h h1 w w1) {aj7 : Ren} (k : aU P B w0 bY aj7 (Ext S h h1) h1 h2 w1 w2) : aU P B w0 ρ aj7 S h h2 w w2 where
  agree := fun b hb => (k.agree b (.inl hb)).trans (m.agree b hb)
  next := Nat.le_trans m.next k.next
  hr := k.hr.congr fun b => by
    have n1 := m.next; have n2 := k.next; unfold Ext; constructor
    . rintro ((h | h) | h)
      . exact .inl h
      . exact .inr (by omega)
      exact .inr (by omega)
    rintro (h | h)
    . exact .inl (.inl h)
    by_cases hb : b < h1.next
    . exact .inl (.inr (by omega))
    exact .inr (by omega)
  frame := by
    refine ⟨k.frame.os.trans m.frame.os, k.frame.tape.trans m.frame.tape, k.frame.output.trans m.frame.output, Nat.le_trans m.frame.size k.frame.size, fun b hb o9 => ?_⟩; rw [k.frame.block b (Nat.lt_of_lt_of_le hb m.frame.size) ?_, m.frame.block b hb o9]; intro i o hi ho he; by_cases bO : i < h.next
    . obtain ⟨o', kQ, oA⟩ := m.old i o hi bO
      have hS : S i := by
        have := (m.hr.aA i o hi).1; rcases this with h | h
        . exact h
        omega
      rw [m.agree i hS] at he; exact o9 i o' kQ (oA.trans ho) he
    obtain ⟨_, hf⟩ := m.fresh i o hi (by omega); rcases hf with hf | ⟨j, oj, hj, lQ, EK, _⟩
    . omega
    exact o9 j oj hj lQ (EK.trans he)
  low := Nat.le_trans k.low m.low
  aV := fun i hi hl => by
    have := k.low; exact (k.aV i (Nat.lt_of_lt_of_le hi m.next) hl).trans (m.aV i hi (by omega))
  old := fun i o ho hi => by
    obtain ⟨o1, h1, h2⟩ := k.old i o ho (Nat.lt_of_lt_of_le hi m.next); obtain ⟨o2, h3, h4⟩ := m.old i o1 h1 hi; exact ⟨o2, h3, h4.trans h2⟩
  fresh := fun i o ho hi => by
    by_cases bO : i < h1.next
    . obtain ⟨o1, h3, h4⟩ := k.old i o ho bO; obtain ⟨h5, hf⟩ := m.fresh i o1 h3 hi; have hE : Ext S h h1 i := (m.hr.aA i o1 h3).1; refine ⟨h4 ▸ h5, ?_⟩; rw [k.agree i hE]; rcases hf with hf | ⟨j, oj, hj, lQ, EK, hlj, hnj⟩
      . exact .inl hf
      exact .inr ⟨j, oj, hj, lQ, EK, Nat.le_trans k.low hlj, hnj⟩
    obtain ⟨h5, hf⟩ := k.fresh i o ho (by omega); refine ⟨h5, ?_⟩; rcases hf with hf | ⟨j, oj, hj, lQ, EK, hlj, hnj⟩
    . exact .inl (Nat.le_trans m.frame.size hf)
    by_cases hjn : j < h.next
    . obtain ⟨o2, h6, h7⟩ := m.old j oj hj hjn
      have hS : S j := by
        have := (m.hr.aA j oj hj).1; rcases this with h | h
        . exact h
        omega
      rw [m.agree j hS] at EK; exact .inr ⟨j, o2, h6, h7.trans lQ, EK, hlj, hjn⟩
    obtain ⟨_, WD⟩ := m.fresh j oj hj (by omega); rcases WD with WD | ⟨j', oj', PJ, ae6, ae7, aj8, alS⟩
    . exact .inl (by omega)
    exact .inr ⟨j', oj', PJ, ae6, ae7.trans EK, by have := k.low; omega, alS⟩
end Go.Fs
namespace Go.Fs
open Go.RowKit (Below)
variable {P : Program} {ρ bY : Ren} {S S' : Nat -> Prop} {B : Nat} {w0 w w' w1 w2 : World} {h h' h1 h2 : U}
def Ren.put (ρ : Ren) (i : Nat) (l : Loc) : Ren := fun b => if b = i then l else ρ b
theorem Ren.fC {i : Nat} {l : Loc} : ρ.put i l i = l := if_pos rfl
theorem Ren.eU {i b : Nat} {l : Loc} (hb : b ≠ i) : ρ.put i l b = ρ b := if_neg hb
theorem HR.ae8 (hr : HR P ρ S B w0 h w) : ¬ S h.next := fun hs => by have := (hr.ids _ hs).1; omega
theorem HR.abA (hr : HR P ρ S B w0 h w) (l : Loc) : ∀ b, S b -> Ext S h (h.push .iP) b /\ ρ.put h.next l b = ρ b := fun b hb =>
  ⟨.inl hb, Ren.eU fun e => by subst e; exact hr.ae8 hb⟩
theorem Ext.lL (o : bC) : Ext S h (h.push o) h.next := .inr ⟨Nat.le_refl _, Nat.lt_succ_self _⟩
theorem HR.qQ (hr : HR P ρ S B w0 h w) (l : Loc) (o : bC) : ∀ b, S b -> Ext S h (h.push o) b /\ ρ.put h.next l b = ρ b := hr.abA l
theorem aU.push (hr : HR P ρ S B w0 h w) (o : bC) (x : Obj) (l : Loc) (hl : l.block = w.heap.size) (ho : iF o = true)
    (nE : kU P (ρ.put h.next l) (Ext S h (h.push o)) l (w.alloc x) o) : aU P B w0 ρ (ρ.put h.next l) S h (h.push o) w (w.alloc x) where
  agree := fun b hb => (hr.qQ l o b hb).2
  next := Nat.le_succ _
  hr := {
    aA := fun i o' hi => by
      rw [U.bQ] at hi; split at hi
      . rename_i e; injection hi with hi; subst hi e; exact ⟨Ext.lL o, by rw [Ren.fC]; exact nE⟩
      rename_i e; obtain ⟨h1, h2⟩ := hr.aA i o' hi; refine ⟨.inl h1, ?_⟩; rw [Ren.eU e]; refine (h2.mono (hr.qQ l o)).world ?_; by_cases kV : iF o' = true
      . exact Below.heap_alloc w x _ (h2.lt kV)
      have := hr.ro i o' hi (by simpa using kV); have := hr.size; exact Below.heap_alloc w x _ (by omega)
    inj := fun i j oi oj hi hj uE lQ he => by
      rw [U.bQ] at hi hj; split at hi <;> split at hj
      . rename_i a b; rw [a, b]
      . rename_i a b; subst a; rw [Ren.fC, Ren.eU b, hl] at he; have := (hr.aA j oj hj).2.lt lQ; omega
      . rename_i a b; subst b; rw [Ren.fC, Ren.eU a, hl] at he; have := (hr.aA i oi hi).2.lt uE; omega
      rename_i a b; rw [Ren.eU a, Ren.eU b] at he; exact hr.inj i j oi oj hi hj uE lQ he
    base := fun i o' hi oA => by
      rw [U.bQ] at hi; split at hi
      . rename_i e; subst e; rw [Ren.fC, hl]; exact hr.size
      rename_i e; rw [Ren.eU e]; exact hr.base i o' hi oA
    ro := fun i o' hi oA => by
      rw [U.bQ] at hi; split at hi
      . injection hi with hi; subst hi; rw [ho] at oA; cases oA
      rename_i e; rw [Ren.eU e]; exact hr.ro i o' hi oA
    ids := fun b hb => by
      rcases hb with hb | hb
      . have := hr.ids b hb; exact ⟨Nat.lt_succ_of_lt this.1, this.2⟩
      have := hr.pos; exact ⟨hb.2, by omega⟩
    pos := Nat.succ_pos _
    below := hr.below.alloc hr.size x
    drawn := hr.drawn
    size := Nat.le_trans hr.size (by simp) }
  frame := ⟨rfl, rfl, rfl, by simp, fun k hk _ => Below.heap_alloc w x k hk⟩
  low := Nat.le_refl _
  aV := fun i hi _ => by rw [U.bQ, if_neg (by omega)]
  old := fun i o' hi bO => ⟨o', by rw [U.bQ, if_neg (by omega)] at hi; exact hi, rfl⟩
  fresh := fun i o' hi PK => by
    rw [U.bQ] at hi; split at hi
    . rename_i e; injection hi with hi; subst hi e; exact ⟨ho, .inl (by rw [Ren.fC, hl]; exact Nat.le_refl _)⟩
    have := (hr.ids i (hr.aA i o' hi).1).1; omega
theorem aU.set (hr : HR P ρ S B w0 h w) {i : Nat} {o o' : bC} (hi : h.get i = some o) (ho : iF o = true) (oA : iF o' = true)
    (I7 : w'.os = w.os) (ht : w'.tape = w.tape) (y8 : w'.output = w.output) (dR : w'.heap.size = w.heap.size) (hblk : ∀ k, k ≠ (ρ i).block -> w'.heap[k]? = w.heap[k]?)
    (nE : kU P ρ S (ρ i) w' o') (hd : w.drawn <= w'.drawn := by first | exact Nat.le_refl _ | exact Nat.le_succ _) : aU P B w0 ρ ρ S h (h.set i o') w w' where
  agree := fun _ _ => rfl
  next := Nat.le_refl _
  hr := HR.congr (S := S) {
    aA := fun j oj hj => by
      rw [U.cX hi] at hj; split at hj
      . rename_i e; injection hj with hj; subst hj e; exact ⟨(hr.aA j o hi).1, nE⟩
      rename_i e; obtain ⟨h1, h2⟩ := hr.aA j oj hj; refine ⟨h1, h2.world (hblk _ fun he => ?_)⟩; by_cases kV : iF oj = true
      . exact e (hr.inj j i oj o hj hi kV ho he)
      have := hr.ro j oj hj (by simpa using kV); have := hr.base i o hi ho; omega
    inj := fun a b oa ob ha hb hoa SC he => by
      rw [U.cX hi] at ha hb; split at ha <;> split at hb
      . rename_i e1 e2; rw [e1, e2]
      . rename_i e1 e2; subst e1; exact hr.inj _ _ o ob hi hb ho SC he
      . rename_i e1 e2; subst e2; exact hr.inj _ _ oa o ha hi hoa ho he
      exact hr.inj _ _ oa ob ha hb hoa SC he
    base := fun j oj hj lQ => by
      rw [U.cX hi] at hj; split at hj
      . rename_i e; subst e; exact hr.base _ o hi ho
      exact hr.base j oj hj lQ
    ro := fun j oj hj lQ => by
      rw [U.cX hi] at hj; split at hj
      . injection hj with hj; subst hj; rw [oA] at lQ; cases lQ
      exact hr.ro j oj hj lQ
    ids := hr.ids
    pos := hr.pos
    drawn := Nat.le_trans hr.drawn hd
    below := ⟨I7.trans hr.below.os, ht.trans hr.below.tape, y8.trans hr.below.output, by rw [dR]; exact hr.below.size, fun k hk => by
      rw [hblk k (fun e => by have := hr.base i o hi ho; omega)]; exact hr.below.block k hk⟩
    size := by rw [dR]; exact hr.size } fun b => (Ext.sE rfl b).symm
  frame := ⟨I7, ht, y8, by rw [dR]; exact Nat.le_refl _, fun k _ o9 => hblk k (Ne.symm (o9 i o hi ho))⟩
  low := Nat.min_le_left _ _
  aV := fun j _ hl => by
    have xI : min h.low i <= i := Nat.min_le_right _ _; have bO : j < min h.low i := hl; rw [U.cX hi, if_neg (by omega)]
  old := fun j oj hj _ => by
    rw [U.cX hi] at hj; split at hj
    . rename_i e; injection hj with hj; subst hj e; exact ⟨o, hi, ho.trans oA.symm⟩
    exact ⟨oj, hj, rfl⟩
  fresh := fun j oj hj PK => by
    rw [U.cX hi] at hj; split at hj
    . rename_i e; subst e; have := (hr.ids j (hr.aA j o hi).1).1; omega
    have := (hr.ids j (hr.aA j oj hj).1).1; omega
theorem aU.gone (hr : HR P ρ S B w0 h w) {i : Nat} {o : bC} (hi : h.get i = some o) (ho : iF o = true)
    (I7 : w'.os = w.os) (ht : w'.tape = w.tape) (y8 : w'.output = w.output) (dR : w'.heap.size = w.heap.size) (hblk : ∀ k, k ≠ (ρ i).block -> w'.heap[k]? = w.heap[k]?) (hd : w.drawn <= w'.drawn := by first | exact Nat.le_refl _ | exact Nat.le_succ _) : aU P B w0 ρ ρ S h (h.drop i) w w' where
  agree := fun _ _ => rfl
  next := Nat.le_refl _
  hr := HR.congr (S := S) {
    aA := fun j oj hj => by
      rw [U.cK] at hj; split at hj
      . cases hj
      rename_i e; obtain ⟨h1, h2⟩ := hr.aA j oj hj; refine ⟨h1, h2.world (hblk _ fun he => ?_)⟩; by_cases kV : iF oj = true
      . exact e (hr.inj j i oj o hj hi kV ho he)
      have := hr.ro j oj hj (by simpa using kV); have := hr.base i o hi ho; omega
    inj := fun a b oa ob ha hb hoa SC he => by
      rw [U.cK] at ha hb; split at ha
      . cases ha
      split at hb
      . cases hb
      exact hr.inj _ _ oa ob ha hb hoa SC he
    base := fun j oj hj lQ => by
      rw [U.cK] at hj; split at hj
      . cases hj
      exact hr.base j oj hj lQ
    ro := fun j oj hj lQ => by
      rw [U.cK] at hj; split at hj
      . cases hj
      exact hr.ro j oj hj lQ
    ids := hr.ids
    pos := hr.pos
    drawn := Nat.le_trans hr.drawn hd
    below := ⟨I7.trans hr.below.os, ht.trans hr.below.tape, y8.trans hr.below.output, by rw [dR]; exact hr.below.size, fun k hk => by
      rw [hblk k (fun e => by have := hr.base i o hi ho; omega)]; exact hr.below.block k hk⟩
    size := by rw [dR]; exact hr.size } fun b => (Ext.sE rfl b).symm
  frame := ⟨I7, ht, y8, by rw [dR]; exact Nat.le_refl _, fun k _ o9 => hblk k (Ne.symm (o9 i o hi ho))⟩
  low := Nat.min_le_left _ _
  aV := fun j _ hl => by
    have xI : min h.low i <= i := Nat.min_le_right _ _; have bO : j < min h.low i := hl; rw [U.cK, if_neg (by omega)]
  old := fun j oj hj _ => by
    rw [U.cK] at hj; split at hj
    . cases hj
    exact ⟨oj, hj, rfl⟩
  fresh := fun j oj hj PK => by
    rw [U.cK] at hj; split at hj
    . cases hj
    have := (hr.ids j (hr.aA j oj hj).1).1; omega
theorem aU.replace (hr : HR P ρ S B w0 h w) {b : Nat} {o o' : bC} (hi : h.get b = some o) (ho : iF o = true) (oA : iF o' = true) (l : Loc)
    (hl : l.block = (ρ b).block \/ w.heap.size <= l.block) (hB : B <= l.block)
    (I7 : w'.os = w.os) (ht : w'.tape = w.tape) (y8 : w'.output = w.output) (dR : w.heap.size <= w'.heap.size) (hblk : ∀ k, k < w.heap.size -> k ≠ (ρ b).block -> w'.heap[k]? = w.heap[k]?)
    (nE : kU P (ρ.put h.next l) (Ext S h ((h.drop b).push o')) l w' o') (hd : w.drawn <= w'.drawn := by first | exact Nat.le_refl _ | exact Nat.le_succ _) : aU P B w0 ρ (ρ.put h.next l) S h ((h.drop b).push o') w w' where
  agree := fun x hb => (hr.qQ l o x hb).2
  next := Nat.le_succ _
  hr := {
    aA := fun i oi mA => by
      rw [U.bQ] at mA; split at mA
      . rename_i e; have e' : i = h.next := e; injection mA with mA; subst mA; subst e'; exact ⟨Ext.lL o', by rw [Ren.fC]; exact nE⟩
      rename_i e; have e' : i ≠ h.next := e; rw [U.cK] at mA; split at mA
      . cases mA
      rename_i cA; obtain ⟨h1, h2⟩ := hr.aA i oi mA; refine ⟨.inl h1, ?_⟩; rw [Ren.eU e']; refine (h2.mono (hr.qQ l o')).world ?_; by_cases kV : iF oi = true
      . exact hblk _ (h2.lt kV) fun he => cA (hr.inj i b oi o mA hi kV ho he)
      have := hr.ro i oi mA (by simpa using kV); have := hr.size; have := hr.base b o hi ho; exact hblk _ (by omega) (by omega)
    inj := fun i j oi oj mA MX uE lQ he => by
      rw [U.bQ] at mA MX
      have key : ∀ k ok, (h.drop b).get k = some ok -> iF ok = true -> (ρ k).block = l.block -> False := fun k ok hk bZ hke => by
        rw [U.cK] at hk; split at hk
        . cases hk
        rename_i cA; rcases hl with hl | hl
        . exact cA (hr.inj k b ok o hk hi bZ ho (hke.trans hl))
        have := (hr.aA k ok hk).2.lt bZ; omega
      split at mA <;> split at MX
      . rename_i a c; rw [a, c]
      . rename_i a c; have a' : i = h.next := a; have c' : j ≠ h.next := c; rw [a', Ren.fC, Ren.eU c'] at he; exact (key j oj MX lQ he.symm).elim
      . rename_i a c; have a' : i ≠ h.next := a; have c' : j = h.next := c; rw [c', Ren.fC, Ren.eU a'] at he; exact (key i oi mA uE he).elim
      rename_i a c; have a' : i ≠ h.next := a; have c' : j ≠ h.next := c; rw [Ren.eU a', Ren.eU c'] at he; rw [U.cK] at mA MX; split at mA
      . cases mA
      split at MX
      . cases MX
      exact hr.inj i j oi oj mA MX uE lQ he
    base := fun i oi mA uE => by
      rw [U.bQ] at mA; split at mA
      . rename_i e; have e' : i = h.next := e; rw [e', Ren.fC]; exact hB
      rename_i e; have e' : i ≠ h.next := e; rw [U.cK] at mA; split at mA
      . cases mA
      rw [Ren.eU e']; exact hr.base i oi mA uE
    ro := fun i oi mA uE => by
      rw [U.bQ] at mA; split at mA
      . injection mA with mA; subst mA; rw [oA] at uE; cases uE
      rename_i e; have e' : i ≠ h.next := e; rw [U.cK] at mA; split at mA
      . cases mA
      rw [Ren.eU e']; exact hr.ro i oi mA uE
    ids := fun x hx => by
      rcases hx with hx | hx
      . have := hr.ids x hx; exact ⟨Nat.lt_succ_of_lt this.1, this.2⟩
      have := hr.pos; exact ⟨hx.2, by omega⟩
    pos := Nat.succ_pos _
    drawn := Nat.le_trans hr.drawn hd
    below := ⟨I7.trans hr.below.os, ht.trans hr.below.tape, y8.trans hr.below.output, Nat.le_trans hr.below.size dR, fun k hk => by
      have h1 := hr.base b o hi ho; have h2 := hr.size
      rw [hblk k (by omega) (by omega)]; exact hr.below.block k hk⟩
    size := Nat.le_trans hr.size dR }
  frame := ⟨I7, ht, y8, dR, fun k hk o9 => hblk k hk (Ne.symm (o9 b o hi ho))⟩
  low := Nat.min_le_left _ _
  aV := fun j hj dW => by
    have xI : min h.low b <= b := Nat.min_le_right _ _; have bO : j < min h.low b := dW; rw [U.bQ, if_neg (show j ≠ (h.drop b).next from Nat.ne_of_lt hj), U.cK, if_neg (by omega)]
  old := fun j oj hj bO => by
    rw [U.bQ, if_neg (show j ≠ (h.drop b).next from Nat.ne_of_lt bO), U.cK] at hj; split at hj
    . cases hj
    exact ⟨oj, hj, rfl⟩
  fresh := fun j oj hj PK => by
    rw [U.bQ] at hj; split at hj
    . rename_i e; have e' : j = h.next := e; injection hj with hj; subst hj; refine ⟨oA, ?_⟩; rw [e', Ren.fC]; rcases hl with hl | hl
      . exact .inr ⟨b, o, hi, ho, hl.symm, Nat.min_le_right _ _, (hr.ids b (hr.aA b o hi).1).1⟩
      exact .inl hl
    rw [U.cK] at hj; split at hj
    . cases hj
    have := (hr.ids j (hr.aA j oj hj).1).1; omega
theorem HR.drew (hr : HR P ρ S B w0 h w) (n : Nat) (hn : w.drawn <= n := by first | exact Nat.le_refl _ | exact Nat.le_succ _) : HR P ρ S B w0 h { w with drawn := n } where
  aA := fun i o hi => ⟨(hr.aA i o hi).1, (hr.aA i o hi).2.world rfl⟩
  inj := hr.inj
  base := hr.base
  ro := hr.ro
  ids := hr.ids
  pos := hr.pos
  below := ⟨hr.below.os, hr.below.tape, hr.below.output, hr.below.size, hr.below.block⟩
  drawn := Nat.le_trans hr.drawn hn
  size := hr.size
theorem aU.JJ (hr : HR P ρ S B w0 h w) (hb : Below w.heap.size w w') (hd : w0.drawn <= w'.drawn) : aU P B w0 ρ ρ S h h w w' where
  agree := fun _ _ => rfl
  next := Nat.le_refl _
  hr := HR.congr (S := S) {
    aA := fun i o hi => by
      obtain ⟨h1, h2⟩ := hr.aA i o hi; refine ⟨h1, h2.world (hb.block _ ?_)⟩; by_cases kV : iF o = true
      . exact h2.lt kV
      have := hr.ro i o hi (by simpa using kV); have := hr.size; omega
    inj := hr.inj
    base := hr.base
    ro := hr.ro
    ids := hr.ids
    pos := hr.pos
    below := hr.below.trans (hb.mono hr.size)
    drawn := hd
    size := Nat.le_trans hr.size hb.size } fun b => (Ext.sE rfl b).symm
  frame := ⟨hb.os, hb.tape, hb.output, hb.size, fun k hk _ => hb.block k hk⟩
  low := Nat.le_refl _
  aV := fun _ _ _ => rfl
  old := fun i o ho _ => ⟨o, ho, rfl⟩
  fresh := fun i o ho hi => by
    have := (hr.ids i (hr.aA i o ho).1).1; omega
end Go.Fs
namespace Go.Fs
open Go.RowKit (Below)
variable {P : Program} {ρ bY : Ren} {S S' : Nat -> Prop} {B : Nat} {w0 w w' w1 w2 : World} {h h' h1 h2 : U}
theorem c9 {α : Type} {s : Sem α} {a : α} (h : aD P s = some a) (w : World) : s.run P w = .ok a w := by
  induction s generalizing w with
  | pure x => simp only [aD, Option.some.injEq] at h; subst h; rfl
  | program k ih => simp only [aD] at h; simp only [Sem.run]; exact ih _ h w
  | mark m k ih => simp only [aD] at h; simp only [Sem.run]; exact ih h w
  | _ => simp [aD] at h
theorem aC {α β : Type} (s : Sem α) (f : α -> Sem β) : aD P (s >>= f) = (aD P s).bind fun a => aD P (f a) := by
  show aD P (s.bind f) = _
  induction s with
  | pure x => simp [Sem.bind, aD]
  | program k ih => simp only [Sem.bind, aD]; exact ih _
  | mark m k ih => simp only [Sem.bind, aD]; exact ih
  | _ => simp [Sem.bind, aD]
theorem aL {α : Type} (a : α) : aD P (pure a : Sem α) = some a := rfl
def p6 (P : Program) (B : Nat) (w0 : World) (ρ : Ren) (S : Nat -> Prop) (h : U) (w : World) (v : Value) (h' : U) (r : Result Value) : Prop :=
  ∃ bY w' v', r = .ok v' w' /\ aU P B w0 ρ bY S h h' w w' /\ VR bY (Ext S h h') v v'
theorem p6.pure (hr : HR P ρ S B w0 h w) {v v' : Value} (hv : VR ρ S v v') : p6 P B w0 ρ S h w v h (.ok v' w) :=
  ⟨ρ, w, v', rfl, aU.same hr, hv.mono fun _ hb => ⟨.inl hb, rfl⟩⟩
theorem VR.p7 {b o : Nat} {v' : Value} (hv : VR ρ S (.pointer (some ⟨b, o, none⟩)) v') : S b /\ v' = .pointer (some ((ρ b).at o)) := by
  cases hv with
  | lit h => simp [eD] at h
  | ptr b o hs => exact ⟨hs, rfl⟩
theorem VR.iY {b o n m : Nat} {v' : Value} (hv : VR ρ S (.slice (some ⟨b, o, none⟩) n m) v') :
    ∃ A c, v' = .slice (some A) n c /\ n <= c /\ (m = 1 -> c = n) /\ (b = 0 -> n = 0) /\ (b ≠ 0 -> S b /\ A = (ρ b).at o /\ (m = 0 -> o + c * (ρ b).BA = (ρ b).total)) := by
  cases hv with
  | lit h => simp [eD] at h
  | slice b o n m c A hn hm h0 hb => exact ⟨A, c, rfl, hn, hm, h0, hb⟩
theorem VR.iR {v' : Value} (hv : VR ρ S (.slice none 0 0) v') : v' = .slice none 0 0 := hv.gP rfl
theorem VR.qY {k : IntKind} {n : Int} {v' : Value} (hv : VR ρ S (.int k n) v') : v' = .int k n := hv.gP rfl
theorem VR.uU {b : Bool} {v' : Value} (hv : VR ρ S (.bool b) v') : v' = .bool b := hv.gP rfl
theorem VR.y9 {b : Nat} {v' : Value} (hv : VR ρ S (.map (some b)) v') : S b /\ v' = .map (some (ρ b).block) := by
  cases hv with
  | lit h => simp [eD] at h
  | map b hs => exact ⟨hs, rfl⟩
theorem VR.JK {cs : Array Value} {v' : Value} (hv : VR ρ S (.agg cs) v') : ∃ cs', v' = .agg cs' /\ LR ρ S cs.toList cs'.toList := by
  cases hv with
  | lit h => simp [eD] at h
  | agg cs cs' hl hc => exact ⟨cs', rfl, by simpa using hl, by simpa using hc⟩
theorem VR.JL {cs : Array Value} {v' : Value} (hv : VR ρ S (.tuple cs) v') (hj : Value.tuple cs ≠ Fs.j9) : ∃ cs', v' = .tuple cs' /\ LR ρ S cs.toList cs'.toList := by
  cases hv with
  | lit h => simp [eD] at h
  | j9 => exact absurd rfl hj
  | tuple cs cs' hl hc => exact ⟨cs', rfl, by simpa using hl, by simpa using hc⟩
theorem kU.cell {l : Loc} {e : TypeId} {cs : List Value} {own more : Bool} (ho : kU P ρ S l w (.row e cs own more)) {i : Nat} (hi : i < cs.length) :
    ∃ v, w.cell? (l.at i) = some v /\ VR ρ S (cs.getD i undef) v := by
  cases own with
  | false => exact ho.2 i hi
  | true =>
    obtain ⟨cur, h1, h2, h3, h4, h5, h6, h7⟩ := ho
    have bO : i < cur.length := by omega
    refine ⟨cur.getD i undef, ?_, h7 i hi⟩; simp [World.cell?, Loc.at, h1, h2, List.getD, bO]
theorem kU.BA {l : Loc} {e : TypeId} {cs : List Value} {own more : Bool} (ho : kU P ρ S l w (.row e cs own more)) : l.BA = P.cellsOf e := by
  cases own with
  | false => exact ho.1
  | true => obtain ⟨cur, h1, h2, h3, h4, _⟩ := ho; exact h4
theorem WE (t : TypeId) (d : TypeDesc) (hd : P.underlying t = some d) (w : World) : (isAgg t).run P w = .ok (vV d) w := by
  unfold isAgg; simp only [Sem.run_bind, run_underlying hd, Result.andThen_ok]; cases d <;> rfl
theorem eL (t : TypeId) (i : TypeInfo) (hi : P.info? t = some i) (w : World) : (sizeOf t).run P w = .ok i.size w := by
  simp [sizeOf, typeInfo, hi]
theorem qR (t : TypeId) (i : TypeInfo) (hi : P.info? t = some i) (w : World) : (typeInfo t).run P w = .ok i w := by
  simp [typeInfo, hi]
theorem gY (t : TypeId) (i : TypeInfo) (z : Value) (hi : P.info? t = some i) (hz : i.zero = some z) (w : World) : (zeroValue t).run P w = .ok z w := by
  simp [zeroValue, typeInfo, hi, hz]
theorem uF {l : Loc} {cs : List Value} {o n : Nat} (hc : ∀ i, i < cs.length -> ∃ v, w.cell? (l.at i) = some v /\ VR ρ S (cs.getD i undef) v) (hn : o + n <= cs.length) :
    ∃ vs : List Value, (loadCells (l.at o) n).run P w = .ok vs.toArray w /\ LR ρ S ((cs.drop o).take n) vs := by
  refine ⟨(List.range n).map fun j => (w.cell? (l.at (o + j))).getD undef, ?_, ?_⟩
  . refine run_loadCells w (l.at o) n _ fun j hj => ?_; obtain ⟨v, h1, _⟩ := hc (o + j) (by omega); rw [Loc.tT, h1]; rfl
  refine LR.of_get? (by simp; omega) fun i v v' hv rE => ?_; rw [List.getElem?_take] at hv; split at hv
  . rename_i hi; rw [List.getElem?_drop] at hv; obtain ⟨u, h1, h2⟩ := hc (o + i) (by omega); simp [hi, h1] at rE; subst rE
    have : cs.getD (o + i) undef = v := by simp [List.getD, hv]
    rwa [this] at h2
  cases hv
theorem JM {t : TypeId} {a a' v : Value} (hr : HR P ρ S B w0 h w) (hf : dD P t a h = some v) (ha : VR ρ S a a') :
    ∃ v', (Instr.loadAt t a').run P w = .ok v' w /\ VR ρ S v v' := by
  unfold dD at hf; split at hf
  . rename_i b o; obtain ⟨hs, rfl⟩ := ha.p7; split at hf
    . rename_i e cs own more d i hg hd hi; have nE := (hr.aA b _ hg).2; have pZ : ∀ i, i < cs.length -> ∃ v, w.cell? ((ρ b).at i) = some v /\ VR ρ S (cs.getD i undef) v := fun i hi => nE.cell hi; simp only [Instr.loadAt, Instr.sureAddr, loadVar, Sem.run_bind, Sem.run_pure, Result.andThen_ok, WE t d hd]
      cases ZT : vV d with
      | true =>
        rw [ZT] at hf; simp only [if_true] at hf ⊢; split at hf
        . rename_i hle; simp only [Option.some.injEq] at hf; subst hf; obtain ⟨vs, h1, h2⟩ := uF (P := P) pZ hle; simp only [Sem.run_bind, eL t i hi, Result.andThen_ok, h1, Sem.run_pure]; exact ⟨_, rfl, VR.SA (by simpa using h2)⟩
        cases hf
      | false =>
        rw [ZT] at hf; simp only [Bool.false_eq_true, if_false] at hf ⊢; obtain ⟨bO, rfl⟩ := List.getElem?_eq_some_iff.1 hf; obtain ⟨u, h1, h2⟩ := pZ o bO; rw [run_load, h1]; exact ⟨u, rfl, by simpa [List.getD, bO] using h2⟩
    cases hf
  cases hf
theorem GN (v : Value) : Value.oneCell' v = aN v := by cases v <;> rfl
theorem q4 (cs : List Value) (o : Nat) (vs : List Value) (ho : o + vs.length <= cs.length) (i : Nat) :
    (cs.take o ++ vs ++ cs.drop (o + vs.length))[i]? = if i < o then cs[i]? else if i < o + vs.length then vs[i - o]? else cs[i]? := by
  rw [List.append_assoc, List.getElem?_append, List.length_take, show min o cs.length = o by omega]; by_cases h1 : i < o
  . rw [if_pos h1, if_pos h1, List.getElem?_take, if_pos h1]
  rw [if_neg h1, if_neg h1, List.getElem?_append]; by_cases h2 : i < o + vs.length
  . rw [if_pos (by omega), if_pos h2]
  rw [if_neg (by omega), if_neg h2, List.getElem?_drop]; congr 1; omega
theorem sQ (cs : List Value) (o : Nat) (vs : List Value) (ho : o + vs.length <= cs.length) : (cs.take o ++ vs ++ cs.drop (o + vs.length)).length = cs.length := by
  simp; omega
theorem LR.WG {cs cur vs jD : List Value} (h : ∀ i, i < cs.length -> VR ρ S (cs.getD i undef) (cur.getD i undef)) (hl : cs.length <= cur.length) (hv : LR ρ S vs jD) {o : Nat} (ho : o + vs.length <= cs.length) :
    ∀ i, i < (Fs.bF cs o vs).length -> VR ρ S ((Fs.bF cs o vs).getD i undef) ((cur.take o ++ jD ++ cur.drop (o + jD.length)).getD i undef) := by
  intro i hi; have hll := hv.1; unfold Fs.bF at hi ⊢; rw [sQ cs o vs ho] at hi; rw [List.getD_eq_getElem?_getD, List.getD_eq_getElem?_getD, q4 cs o vs ho, q4 cur o jD (by omega), <- hll]; have h0 := h i hi; rw [List.getD_eq_getElem?_getD, List.getD_eq_getElem?_getD] at h0; by_cases h1 : i < o
  . rw [if_pos h1, if_pos h1]; exact h0
  rw [if_neg h1, if_neg h1]; by_cases h2 : i < o + vs.length
  . rw [if_pos h2, if_pos h2]; have := hv.2 (i - o) (by omega)
    rwa [List.getD_eq_getElem?_getD, List.getD_eq_getElem?_getD] at this
  rw [if_neg h2, if_neg h2]; exact h0
theorem CB {l : Loc} {c : Array Value} {e : TypeId} {j : Nat} (h : w.heap[l.block]? = some (.cells c e l.fz)) (hj : j < l.total) : w.frozen? ⟨l.block, j, none⟩ = false := by
  unfold World.frozen?; rw [h]; have := l.hfz; by_cases h1 : l.fz.1 <= j
  . have h2 : ¬ j < l.fz.2 := by omega
    simp [h2]
  simp [h1]
theorem oB (P : Program) (g o : Nat) (t : TypeId) (fz : Nat × Nat) : ∀ (vs : List Value) (i : Nat) (cur : Array Value) (w : World), w.heap[g]? = some (.cells cur t fz) -> (fz.1 = fz.2 \/ cur.size <= fz.1) -> o + i + vs.length <= cur.size -> (∀ v ∈ vs, v.oneCell' = true) ->
    (storeCells ⟨g, o, none⟩ vs i).run P w = .ok () (w.setRow g (cur.toList.take (o + i) ++ vs ++ cur.toList.drop (o + i + vs.length)).toArray)
  | [], i, cur, w, hg, _, _, _ => by
    simp only [storeCells, List.append_nil, List.length_nil, Nat.add_zero, List.take_append_drop, Array.toArray_toList]; rw [setRow_self w g cur t fz hg]
    rfl
  | v :: rest, i, cur, w, hg, hz, hl, h1 => by
    have hi : o + i < cur.size := by simp at hl; omega
    have ZU : (⟨g, o, none⟩ : Addr).add i = ⟨g, o + i, none⟩ := by unfold Addr.add; split <;> simp_all
    have pZ : w.cell? ⟨g, o + i, none⟩ = some cur[o + i] := by simp [World.cell?, hg, hi]
    have alT : w.frozen? ⟨g, o + i, none⟩ = false := CB (l := ⟨g, 0, cur.size, 0, fz, hz⟩) hg hi
    have bT : (store ((⟨g, o, none⟩ : Addr).add i) v).run P w = .ok () (w.setRow g (cur.setIfInBounds (o + i) v)) := by
      rw [ZU, run_store P w _ v _ (h1 v (by simp)), pZ]; simp [alT, setCell_eq_setRow w g (o + i) cur t fz v hg]
    have ih := oB P g o t fz rest (i + 1) (cur.setIfInBounds (o + i) v) (w.setRow g (cur.setIfInBounds (o + i) v)) (setRow_heap w g cur _ t _ hg) (by simpa using hz) (by simp at hl ⊢; omega) (fun x hx => h1 x (by simp [hx])); simp only [storeCells, Sem.run_bind, bT, Result.andThen_ok, ih, setRow_setRow]; congr 3; have e := list_seg_step cur.toList (o + i) v rest (by simp at hl ⊢; omega); simpa [Array.toList_setIfInBounds, Nat.add_assoc] using e
theorem p8 {b o : Nat} {e : TypeId} {cs vs jD : List Value} {more : Bool} (hr : HR P ρ S B w0 h w) (hg : h.get b = some (.row e cs true more)) (hv : LR ρ S vs jD)
    (lF : vs.all aN = true) (hle : o + vs.length <= cs.length) :
    ∃ w', (storeCells ((ρ b).at o) jD).run P w = .ok () w' /\ aU P B w0 ρ ρ S h (h.set b (.row e (bF cs o vs) true more)) w w' := by
  obtain ⟨_, cur, h1, h2, h3, h4, h5, h6, h7⟩ := hr.aA b _ hg
  have rF : (ρ b).at o = ⟨(ρ b).block, o, none⟩ := by simp [Loc.at, h2]
  have eZ := oB P (ρ b).block o e (ρ b).fz jD 0 cur.toArray w h1 (by have := (ρ b).hfz; simpa [h3] using this) (by have := hv.1; simp; omega) (fun v rE => by rw [GN]; exact hv.aN lF v rE); rw [rF]; simp only [Nat.add_zero] at eZ; refine ⟨_, eZ, aU.set hr hg rfl rfl rfl rfl rfl (by simp [World.setRow]) (fun k hk => setRow_other w _ k _ hk) ?_⟩; refine ⟨cur.take o ++ jD ++ cur.drop (o + jD.length), ?_, h2, ?_, h4, ?_, ?_, ?_⟩
  . rw [setRow_heap w _ cur.toArray _ e _ h1]
  . have := hv.1
    simp; omega
  . have := hv.1; simp [bF]; omega
  . intro hm; have := h6 hm; have := hv.1; simp [bF]; omega
  exact LR.WG h7 h5 hv hle
theorem SD {t : TypeId} {a a' x x' : Value} (hr : HR P ρ S B w0 h w) (hf : jJ P t a x h = some h') (ha : VR ρ S a a') (hx : VR ρ S x x') :
    ∃ w', (Instr.storeAt t a' x').run P w = .ok () w' /\ aU P B w0 ρ ρ S h h' w w' := by
  unfold jJ at hf; split at hf
  . rename_i b o; obtain ⟨hs, rfl⟩ := ha.p7; split at hf
    . rename_i e cs more i hg hi; simp only at hf; split at hf
      . rename_i hc; obtain ⟨dR, hle, lF⟩ := hc; simp only [Option.some.injEq] at hf; subst hf; have eP := hx.cells lF; obtain ⟨w', h1, h2⟩ := p8 hr hg eP lF hle; refine ⟨w', ?_, h2⟩; have hl := eP.1; simp only [Instr.storeAt, Instr.sureAddr, storeVar, Sem.run_bind, Sem.run_pure, Result.andThen_ok, eL t i hi]; rw [if_neg (by simp at hl dR ⊢; omega)]; exact h1
      cases hf
    cases hf
  cases hf
theorem wB (hr : HR P ρ S B w0 h w) (e : TypeId) {cs cur : List Value} (more : Bool) (hle : cs.length <= cur.length) (hm : more = false -> cs.length = cur.length)
    (hv : ∀ i, i < cs.length -> VR ρ S (cs.getD i undef) (cur.getD i undef)) :
    aU P B w0 ρ (ρ.put h.next (.clean w.heap.size 0 cur.length (P.cellsOf e))) S h (h.push (.row e cs true more)) w (w.alloc (.cells cur.toArray e)) :=
  aU.push hr _ _ _ rfl rfl ⟨cur, heap_alloc_new w _, rfl, rfl, rfl, hle, hm, fun i hi => (hv i hi).mono (hr.qQ _ _)⟩
theorem WH {cs : List Value} {e : TypeId} {more : Bool} {l : Loc} (hl : l.off = 0) : VR (ρ.put h.next l) (Ext S h (h.push (.row e cs true more))) (.pointer (some ⟨h.next, 0, none⟩)) (.pointer (some ⟨l.block, 0, none⟩)) := by
  have := VR.ptr (ρ := ρ.put h.next l) (S := Ext S h (h.push (.row e cs true more))) h.next 0 (Ext.lL _); rw [Ren.fC] at this; simpa [Loc.at, hl] using this
theorem O2 {e : TypeId} {x x' v : Value} (hr : HR P ρ S B w0 h w) (hf : rC e x h = some (v, h')) (hx : VR ρ S x x') :
    p6 P B w0 ρ S h w v h' ((do pure (.pointer (some (<- newVar e x'))) : Sem Value).run P w) := by
  unfold rC at hf; split at hf
  . rename_i lF; simp only [Option.some.injEq, Prod.mk.injEq] at hf; obtain ⟨rfl, rfl⟩ := hf; have hc := hx.cells lF; refine ⟨_, _, _, ?_, wB hr e (cs := x.cells.toList) (cur := x'.cells.toList) false (by have := hc.1; omega) (fun _ => hc.1) hc.2, WH rfl⟩; simp [newVar, newRow]
  cases hf
end Go.Fs
namespace Go.Fs
open Go.RowKit (Below)
variable {P : Program} {ρ bY : Ren} {S S' : Nat -> Prop} {B : Nat} {w0 w w' w1 w2 : World} {h h' h1 h2 : U}
theorem VR.JN {a : Addr} {v' : Value} (hv : VR ρ S (.pointer (some a)) v') : ∃ b o, a = ⟨b, o, none⟩ /\ S b /\ v' = .pointer (some ((ρ b).at o)) := by
  cases hv with
  | lit h => simp [eD] at h
  | ptr b o hs => exact ⟨b, o, rfl, hs, rfl⟩
theorem VR.JO {a : Addr} {n m : Nat} {v' : Value} (hv : VR ρ S (.slice (some a) n m) v') : ∃ b o, a = ⟨b, o, none⟩ /\ VR ρ S (.slice (some ⟨b, o, none⟩) n m) v' := by
  cases hv with
  | lit h => simp [eD] at h
  | slice b o n m c A hn hm h0 hb => exact ⟨b, o, rfl, .slice b o n m c A hn hm h0 hb⟩
theorem VR.qZ {s : ByteArray} {v' : Value} (hv : VR ρ S (.string s) v') : v' = .string s := hv.gP rfl
theorem AT (off : Nat) : ∀ (vs jD : List Value) (k : Nat) (cs cs' : Array Value), LR ρ S vs jD -> LR ρ S cs.toList cs'.toList ->
    LR ρ S ((vs.zipIdx k).foldl (fun cs (p : Value × Nat) => cs.setIfInBounds (off + p.2) p.1) cs).toList ((jD.zipIdx k).foldl (fun cs (p : Value × Nat) => cs.setIfInBounds (off + p.2) p.1) cs').toList
  | [], [], k, cs, cs', _, h => h
  | [], _ :: _, k, cs, cs', hv, _ => by have := hv.1; simp at this
  | _ :: _, [], k, cs, cs', hv, _ => by have := hv.1; simp at this
  | v :: vs, v' :: jD, k, cs, cs', hv, h => by
    simp only [List.zipIdx_cons, List.foldl_cons]
    have h0 : VR ρ S v v' := by simpa using hv.2 0 (by simp)
    have ht : LR ρ S vs jD := ⟨by simpa using hv.1, fun i hi => by simpa using hv.2 (i + 1) (by simpa using hi)⟩; refine AT off vs jD (k + 1) _ _ ht ?_; simpa using h.set (off + k) h0
theorem CC (place : Nat -> Option (Nat × Nat)) (ev kR : Operand -> Value) : ∀ (ps : List (Nat × Operand)) (cells CD out : Array Value),
    (∀ p ∈ ps, VR ρ S (ev p.2) (kR p.2)) -> (∀ p ∈ ps, (ev p.2).cells.toList.all aN = true) -> LR ρ S cells.toList CD.toList ->
    Instr.fill place cells (ps.map fun p => (p.1, ev p.2)) = some out -> ∃ O3, Instr.fill place CD (ps.map fun p => (p.1, kR p.2)) = some O3 /\ LR ρ S out.toList O3.toList
  | [], cells, CD, out, _, _, hc, hf => by
    simp only [List.map_nil, Instr.fill, Option.some.injEq] at hf ⊢
    subst hf; exact ⟨_, rfl, hc⟩
  | (i, x) :: rest, cells, CD, out, hv, ho, hc, hf => by
    simp only [List.map_cons, Instr.fill] at hf ⊢
    cases hp : place i with
    | none => rw [hp] at hf; cases hf
    | some q =>
      obtain ⟨off, size⟩ := q; rw [hp] at hf; simp only at hf ⊢; have hx := (hv (i, x) (by simp)).cells (ho (i, x) (by simp)); have hl := hx.1; have sN := hc.1; simp only [Array.length_toList] at hl sN; rw [<- hl, <- sN]; split at hf
      . cases hf
      rename_i ak6; rw [if_neg ak6]; refine CC place ev kR rest _ _ out (fun p hp => hv p (by simp [hp])) (fun p hp => ho p (by simp [hp])) ?_ hf
      have key : ∀ a c : Array Value, (a.toList.zipIdx 0).foldl (fun cs (p : Value × Nat) => cs.setIfInBounds (off + p.2) p.1) c = a.zipIdx.foldl (fun cs (p : Value × Nat) => cs.setIfInBounds (off + p.2) p.1) c := fun a c => by
        rw [<- Array.foldl_toList, Array.toList_zipIdx]
      have := AT (ρ := ρ) (S := S) off _ _ 0 cells CD hx hc; rw [key, key] at this; simpa using this
theorem LR.O4 {l : List Value} (h : l.all eD = true) : LR ρ S l l := LR.zO fun v hv => List.all_eq_true.1 h v hv
theorem abB {t : TypeId} {parts : Array (Nat × Operand)} {ev kR : Operand -> Value} {v : Value} (hv : ∀ p ∈ parts.toList, VR ρ S (ev p.2) (kR p.2))
    (ho : parts.toList.all (fun p => (ev p.2).cells.toList.all aN) = true) {z : Value} (hz : (P.info? t).bind (·.zero) = some z) (MY : z.cells.toList.all eD = true)
    (hf : aD P (Instr.build t (parts.map fun p => (p.1, ev p.2))) = some v) (w : World) :
    ∃ v', (Instr.build t (parts.map fun p => (p.1, kR p.2))).run P w = .ok v' w /\ VR ρ S v v' := by
  unfold Instr.build at hf ⊢
  cases hi : P.info? t with
  | none => rw [hi] at hz; cases hz
  | some i =>
    rw [hi] at hz; simp only [Option.bind_some] at hz; have hzr := gY (P := P) t i z hi hz; simp only [aC, Option.bind_eq_some_iff] at hf; obtain ⟨z2, WI, d, hd, hf⟩ := hf; have e1 := c9 WI w; rw [hzr w] at e1; injection e1 with e1; subst e1; have e2 := c9 hd w; simp only [Sem.run_bind, hzr w, Result.andThen_ok, e2]; have oA : ∀ p ∈ parts.toList, (ev p.2).cells.toList.all aN = true := fun p hp => List.all_eq_true.1 ho p hp; split at hf
    . rename_i fields; simp only [aC, Option.bind_eq_some_iff] at hf; obtain ⟨places, hp, hf⟩ := hf; have e3 := c9 hp w; simp only [Sem.run_bind, e3, Result.andThen_ok]; split at hf
      . rename_i cells eP; rw [Array.toList_map] at eP; obtain ⟨O3, h1, h2⟩ := CC (ρ := ρ) (S := S) _ ev kR parts.toList z.cells z.cells cells hv oA (LR.O4 MY) eP; rw [Array.toList_map, h1]; simp only [aD, aL, Option.some.injEq] at hf; subst hf; exact ⟨_, rfl, VR.SA h2⟩
      simp [stuck, aD] at hf
    . rename_i n elem; simp only [aC, Option.bind_eq_some_iff] at hf; obtain ⟨size, hp, hf⟩ := hf; have e3 := c9 hp w; simp only [Sem.run_bind, e3, Result.andThen_ok]; split at hf
      . rename_i cells eP; rw [Array.toList_map] at eP; obtain ⟨O3, h1, h2⟩ := CC (ρ := ρ) (S := S) _ ev kR parts.toList z.cells z.cells cells hv oA (LR.O4 MY) eP; rw [Array.toList_map, h1]; simp only [aD, aL, Option.some.injEq] at hf; subst hf; exact ⟨_, rfl, VR.SA h2⟩
      simp [stuck, aD] at hf
    simp [stuck, aD] at hf
theorem SF {t : TypeId} {cs cs' : Array Value} {off : Nat} {v : Value} (hc : LR ρ S cs.toList cs'.toList) (hf : aD P (part t cs off) = some v) (w : World) :
    ∃ v', (part t cs' off).run P w = .ok v' w /\ VR ρ S v v' := by
  unfold part at hf ⊢; simp only [aC, Option.bind_eq_some_iff] at hf; obtain ⟨ag, ha, hf⟩ := hf; have e1 := c9 ha w; simp only [Sem.run_bind, e1, Result.andThen_ok]
  cases ag with
  | true =>
    simp only [if_true, aC, Option.bind_eq_some_iff] at hf ⊢; obtain ⟨size, hs, hf⟩ := hf; have e2 := c9 hs w; simp only [aD, aL, Option.some.injEq] at hf; subst hf; simp only [Sem.run_bind, e2, Result.andThen_ok, Sem.run_pure]
    exact ⟨_, rfl, VR.SA (by simpa [Array.toList_extract, List.extract] using (hc.drop off).take _)⟩
  | false =>
    simp only [Bool.false_eq_true, if_false] at hf ⊢
    cases hx : cs[off]? with
    | none => rw [hx] at hf; simp [stuck, aD] at hf
    | some u =>
      rw [hx] at hf; simp only [aD, aL, Option.some.injEq] at hf; subst hf; obtain ⟨u', h1, h2⟩ := hc.get? (i := off) (v := u) (by simpa using hx)
      have qX : cs'[off]? = some u' := by simpa using h1
      rw [qX]; exact ⟨u', rfl, h2⟩
theorem abC {t : TypeId} {x x' v : Value} {f : Nat} (hx : VR ρ S x x') (hf : aD P (Instr.field t x f) = some v) (w : World) :
    ∃ v', (Instr.field t x' f).run P w = .ok v' w /\ VR ρ S v v' := by
  unfold Instr.field at hf ⊢; simp only [aC, Option.bind_eq_some_iff] at hf; obtain ⟨d, hd, hf⟩ := hf; have e1 := c9 hd w; simp only [Sem.run_bind, e1, Result.andThen_ok]; split at hf
  . split at hf
    . rename_i fd hfd; simp only [aC, Option.bind_eq_some_iff] at hf; obtain ⟨cs, iZ, hf⟩ := hf
      cases x with
      | agg c =>
        simp only [asAgg, aL, Option.some.injEq] at iZ; subst iZ; obtain ⟨cs', rfl, hl⟩ := hx.JK; simp only [asAgg, Sem.run_bind, Sem.run_pure, Result.andThen_ok]
        exact SF hl hf w
      | _ => simp [asAgg, stuck, aD] at iZ
    simp [stuck, aD] at hf
  simp [stuck, aD] at hf
theorem SG {x x' v : Value} {ix : Nat} (hx : VR ρ S x x') (hj : x ≠ j9) (hf : aD P (Instr.extract x ix) = some v) (w : World) :
    ∃ v', (Instr.extract x' ix).run P w = .ok v' w /\ VR ρ S v v' := by
  unfold Instr.extract at hf; split at hf
  . rename_i vs; obtain ⟨jD, rfl, hl⟩ := hx.JL hj; split at hf
    . rename_i u hu; simp only [aL, Option.some.injEq] at hf; subst hf; obtain ⟨u', h1, h2⟩ := hl.get? (i := ix) (v := u) (by simpa using hu)
      have qX : jD[ix]? = some u' := by simpa using h1
      simp only [Instr.extract, qX]; exact ⟨u', rfl, h2⟩
    simp [stuck, aD] at hf
  simp [stuck, aD] at hf
theorem SH {s : TypeId} {x x' v : Value} {f : Nat} (hx : VR ρ S x x') (hf : aD P (Instr.fieldAt s x f) = some v) (w : World) :
    ∃ v', (Instr.fieldAt s x' f).run P w = .ok v' w /\ VR ρ S v v' := by
  unfold Instr.fieldAt at hf ⊢; simp only [aC, Option.bind_eq_some_iff] at hf; obtain ⟨d, hd, hf⟩ := hf; have e1 := c9 hd w; simp only [Sem.run_bind, e1, Result.andThen_ok]; split at hf
  . split at hf
    . rename_i fd hfd; simp only [aC, Option.bind_eq_some_iff] at hf; obtain ⟨a, ha, p, hp, hf⟩ := hf; unfold Instr.sureAddr at ha; split at ha
      . rename_i a0; simp only [aL, Option.some.injEq] at ha; subst ha; obtain ⟨b, o, rfl, hs, rfl⟩ := hx.JN; unfold fieldPlace at hp; simp only [aC, Option.bind_eq_some_iff] at hp; obtain ⟨sz, dR, hp⟩ := hp; have e2 := c9 dR w; split at hp
        . unfold partAt byteOf at hp; simp [aC, aD, shape, noView, viewAt, program] at hp
        rename_i cA; simp only [aL, Option.some.injEq] at hp hf; subst hp hf; simp only [Instr.sureAddr, fieldPlace, Sem.run_bind, Sem.run_pure, Result.andThen_ok, e2]; rw [if_neg cA]; simp only [Sem.run_pure, Result.andThen_ok]; refine ⟨_, rfl, ?_⟩
        rw [Loc.tT, show (⟨b, o, none⟩ : Addr).add fd.offset = ⟨b, o + fd.offset, none⟩ by
          unfold Addr.add; split
          . rename_i e; simp [e]
          rfl]
        exact .ptr b _ hs
      simp [stuck, aD] at ha
    simp [stuck, aD] at hf
  simp [stuck, aD] at hf
theorem q5 (b o k : Nat) : (⟨b, o, none⟩ : Addr).add k = ⟨b, o + k, none⟩ := by
  unfold Addr.add; split
  . rename_i e; simp [e]
  rfl
theorem p9 {α : Type} (k : IntKind) (x y : Int) (c : BoundsCode) : aD P (boundsPanic k x y c : Sem α) = none := by
  unfold boundsPanic; simp only [aC]; split <;> simp [aC, runtimePanic, choose, aD, program, goPanic, aL, Functor.map, Sem.bind]
theorem SI {t : TypeId} {x x' ix v : Value} (hx : VR ρ S x x') (hf : aD P (Instr.indexAt t x ix) = some v) (w : World) :
    ∃ v', (Instr.indexAt t x' ix).run P w = .ok v' w /\ VR ρ S v v' := by
  unfold Instr.indexAt at hf ⊢; simp only [aC, Option.bind_eq_some_iff] at hf; obtain ⟨ki, iC, d, hd, hf⟩ := hf; have e1 := c9 iC w; have e2 := c9 hd w; obtain ⟨k, i⟩ := ki; simp only [Sem.run_bind, e1, Result.andThen_ok, e2]; split at hf
  . rename_i len elem; simp only [aC, Option.bind_eq_some_iff] at hf; obtain ⟨a, ha, be, PL, d2, WJ, hf⟩ := hf; have e3 := c9 WJ w; simp only [aL, Option.some.injEq] at PL; subst PL; unfold Instr.sureAddr at ha; split at ha
    . rename_i a0; simp only [aL, Option.some.injEq] at ha; subst ha; obtain ⟨b, o, rfl, hs, rfl⟩ := hx.JN; simp only [Instr.sureAddr, Sem.run_bind, Sem.run_pure, Result.andThen_ok, e3]; simp only at hf ⊢; split at hf
      . rename_i nO; simp only [aC, Option.bind_eq_some_iff] at hf; obtain ⟨sz, dR, hf⟩ := hf; have e4 := c9 dR w; simp only [aL, Option.some.injEq] at hf; subst hf; rw [if_pos nO]; simp only [Sem.run_bind, e4, Result.andThen_ok, Sem.run_pure]; refine ⟨_, rfl, ?_⟩; rw [Loc.tT, q5]; exact .ptr b _ hs
      exfalso
      revert hf
      repeat' split
      all_goals simp [unsupported, aD, p9]
    simp [stuck, aD] at ha
  . rename_i elem base len cp; simp only [aC, Option.bind_eq_some_iff] at hf; obtain ⟨be, PL, d2, WJ, hf⟩ := hf; have e3 := c9 WJ w; simp only [aL, Option.some.injEq] at PL; subst PL; simp only at hf ⊢
    cases base with
    | none =>
      simp only [p9] at hf
      cases hf
    | some a0 =>
      obtain ⟨b, o, rfl, hx'⟩ := hx.JO; obtain ⟨A, c, rfl, hn, hm, h0, hb⟩ := hx'.iY; simp only [Sem.run_bind, Sem.run_pure, Result.andThen_ok, e3]; simp only at hf ⊢; split at hf
      . rename_i nO
        have jX : b ≠ 0 := fun e => by have := h0 e; omega
        obtain ⟨hs, rfl, _⟩ := hb jX; simp only [aC, Option.bind_eq_some_iff] at hf; obtain ⟨sz, dR, hf⟩ := hf; have e4 := c9 dR w; simp only [aL, Option.some.injEq] at hf; subst hf; rw [if_pos nO]; simp only [Sem.run_bind, e4, Result.andThen_ok, Sem.run_pure]; refine ⟨_, rfl, ?_⟩; rw [Loc.tT, q5]; exact .ptr b _ hs
      exfalso
      revert hf
      repeat' split
      all_goals simp [unsupported, aD, p9]
  simp only [aC, stuck, aD] at hf; cases hf
theorem abD {t : TypeId} {x x' ix v : Value} (hx : VR ρ S x x') (hf : aD P (Instr.index t x ix) = some v) (w : World) :
    ∃ v', (Instr.index t x' ix).run P w = .ok v' w /\ VR ρ S v v' := by
  unfold Instr.index at hf ⊢; simp only [aC, Option.bind_eq_some_iff] at hf; obtain ⟨ki, iC, d, hd, hf⟩ := hf; have e1 := c9 iC w; have e2 := c9 hd w; obtain ⟨k, i⟩ := ki; simp only [Sem.run_bind, e1, Result.andThen_ok, e2]; split at hf
  . rename_i len elem cs; obtain ⟨cs', rfl, hl⟩ := hx.JK; simp only at hf ⊢; split at hf
    . rename_i nO; simp only [aC, Option.bind_eq_some_iff] at hf; obtain ⟨sz, dR, hf⟩ := hf; have e4 := c9 dR w; rw [if_pos nO]; simp only [Sem.run_bind, e4, Result.andThen_ok]; exact SF hl hf w
    rw [p9] at hf; cases hf
  . rename_i s; obtain rfl := hx.qZ; simp only; split at hf
    . rename_i b hb; simp only [aL, Option.some.injEq] at hf; subst hf; simp only [hb]; exact ⟨_, rfl, .lit rfl⟩
    rw [p9] at hf; cases hf
  simp [stuck, aD] at hf
end Go.Fs
namespace Go.Fs
open Go.RowKit (Below)
variable {P : Program} {ρ bY : Ren} {S S' : Nat -> Prop} {B : Nat} {w0 w w' w1 w2 : World} {h h' h1 h2 : U}
theorem aT {α : Type} {c : Bool} {x : Option α} {v : α} (h : (bif c then x else none) = some v) : c = true /\ x = some v := by
  cases c
  . cases h
  exact ⟨rfl, h⟩
theorem aQ {a b : Bool} (h : (a && b) = true) : a = true /\ b = true := by cases a <;> cases b <;> simp_all
theorem fY {a b : Nat} (h : Nat.ble a b = true) : a <= b := Nat.le_of_ble_eq_true h
theorem iG {a b : Nat} (h : Nat.ble a b = false) : b < a := by
  rcases Nat.lt_or_ge b a with bO | PK
  . exact bO
  rw [Nat.ble_eq_true_of_le PK] at h; cases h
theorem jA {a b : Nat} (h : Nat.blt a b = true) : a < b := Nat.le_of_ble_eq_true h
theorem bV {a b : Nat} (h : Nat.beq a b = true) : a = b := Nat.eq_of_beq_eq_true h
theorem rW {n : Int} (h0 : 0 <= n) (h1 : n <= 1099511627776) : IntKind.i64.wrap n = n := by
  have e : n % (2 ^ 64 : Int) = n := Int.emod_eq_of_lt h0 (by omega); simp only [IntKind.wrap, IntKind.bits, IntKind.signed, e]; rw [if_neg]; simp; omega
theorem aU.wC {n : Nat} (m : aU P B w0 ρ bY S h h' { w with drawn := n } w') : aU P B w0 ρ bY S h h' w w' :=
  ⟨m.agree, m.next, m.hr, ⟨m.frame.os, m.frame.tape, m.frame.output, m.frame.size, m.frame.block⟩, m.low, m.aV, m.old, m.fresh⟩
theorem JP (place : Nat -> Option (Nat × Nat)) : ∀ (ps : List (Nat × Value)) (cells out : Array Value), Instr.fill place cells ps = some out -> out.size = cells.size
  | [], cells, out, hf => by simp only [Instr.fill, Option.some.injEq] at hf; rw [hf]
  | (i, v) :: rest, cells, out, hf => by
    simp only [Instr.fill] at hf; split at hf
    . cases hf
    split at hf
    . cases hf
    rw [JP place rest _ out hf]
    have key : ∀ (off : Nat) (l : List (Value × Nat)) (cs : Array Value), (l.foldl (fun cs (p : Value × Nat) => cs.setIfInBounds (off + p.2) p.1) cs).size = cs.size := by
      intro off l
      induction l with
      | nil => intro cs; rfl
      | cons p l ih => intro cs; rw [List.foldl_cons, ih]; simp
    rw [<- Array.foldl_toList]; exact key _ _ _
theorem af0_get! (cs : Array Value) (h : cs.toList.all eD = true) (k : Nat) : eD cs[k]! = true := by
  by_cases hk : k < cs.size
  . rw [getElem!_pos cs k hk]; exact List.all_eq_true.1 h _ (by simp)
  rw [getElem!_neg cs k hk]; rfl
theorem q6 (hp : 0 < h.next) (n c : Nat) (l : Loc) (hl : l.off = 0) (hn : n <= c) (ht : c * l.BA = l.total) (h2 : U) (hx : Ext S h h2 h.next) :
    VR (ρ.put h.next l) (Ext S h h2) (.slice (some ⟨h.next, 0, none⟩) n 0) (.slice (some ⟨l.block, 0, none⟩) n c) := by
  refine .slice h.next 0 n 0 c _ hn (fun e => by cases e) (fun e => by omega) fun hb => ⟨hx, ?_, fun _ => ?_⟩
  . rw [Ren.fC]; simp [Loc.at, hl]
  rw [Ren.fC]; omega
theorem iS {e : TypeId} {i : TypeInfo} (hi : P.info? e = some i) : P.cellsOf e = i.size := by simp [Program.cellsOf, hi]
theorem CE (hr : HR P ρ S B w0 h w) {e : TypeId} {i : TypeInfo} (hi : P.info? e = some i) (n : Nat) {cs : List Value} {cur : Array Value} (hv : LR ρ S cs cur.toList) (hn : cur.size = n * i.size) :
    p6 P B w0 ρ S h w (.slice (some ⟨h.next, 0, none⟩) n 0) (h.push (.row e cs true false)) (.ok (.slice (some ⟨w.heap.size, 0, none⟩) n n) (w.alloc (.cells cur e))) := by
  have hm := wB hr e (cs := cs) (cur := cur.toList) false (by have := hv.1; omega) (fun _ => hv.1) hv.2; refine ⟨_, _, _, rfl, by simpa using hm, q6 hr.pos n n _ rfl (Nat.le_refl _) ?_ _ (Ext.lL _)⟩; simp [iS hi, hn]
theorem JQ {t : TypeId} {len : Nat} {parts : Array (Nat × Operand)} {ev kR : Operand -> Value} {v : Value} (hr : HR P ρ S B w0 h w) (hv : ∀ p ∈ parts.toList, VR ρ S (ev p.2) (kR p.2))
    (hf : iQ P t len (parts.map fun p => (p.1, ev p.2)) h = some (v, h')) :
    p6 P B w0 ρ S h w v h' ((Instr.buildSlice t len (parts.map fun p => (p.1, kR p.2))).run P w) := by
  unfold iQ at hf; split at hf
  . rename_i e hd; split at hf
    . rename_i i hi
      cases hlen : Nat.beq len 0 with
      | true =>
        rw [hlen] at hf; simp only [cond_true] at hf; obtain ⟨hpe, hf⟩ := aT hf; have rX := bV hlen; subst rX; simp only [Option.some.injEq, Prod.mk.injEq] at hf; obtain ⟨rfl, rfl⟩ := hf
        have hp : parts = #[] := by
          rw [Array.toList_map] at hpe
          cases parts with
          | mk l => cases l with
            | nil => rfl
            | cons a b => simp at hpe
        subst hp; have := CE hr hi 0 (cs := []) (cur := #[]) LR.nil (by simp); unfold Instr.buildSlice; simp only [Sem.run_bind, run_underlying hd, Result.andThen_ok, eL e i hi]; have r0 : Array.range 0 = #[] := rfl
        simpa [Instr.fill, newRow, r0] using this
      | false =>
        rw [hlen] at hf; simp only [cond_false] at hf; split at hf
        . rename_i z hz; obtain ⟨hc, hf⟩ := aT hf; obtain ⟨hc, lF⟩ := aQ hc; obtain ⟨hc, MY⟩ := aQ hc; obtain ⟨hle, dR⟩ := aQ hc; have hle := fY hle; have dR := jA dR; split at hf
          . rename_i cells eP; simp only [Option.some.injEq, Prod.mk.injEq] at hf; obtain ⟨rfl, rfl⟩ := hf; have ae9 : len ≠ 0 := gC hlen
            have cA : ¬ len * i.size = 0 := by
              intro e0; rcases Nat.mul_eq_zero.1 e0 with h | h <;> omega
            rw [Array.toList_map] at eP lF
            have ak7 : ∀ p ∈ parts.toList, (ev p.2).cells.toList.all aN = true := fun p hp => by
              have := List.all_eq_true.1 lF (p.1, ev p.2) (List.mem_map_of_mem hp); exact this
            have ak8 : LR ρ S ((Array.range (len * i.size)).map (z.cells[· % z.cells.size]!)).toList ((Array.range (len * i.size)).map (z.cells[· % z.cells.size]!)).toList :=
              LR.zO fun v hv => by
                rw [Array.toList_map] at hv; obtain ⟨k, _, rfl⟩ := List.mem_map.1 hv; exact af0_get! _ MY _
            obtain ⟨O3, h1, h2⟩ := CC (ρ := ρ) (S := S) _ ev kR parts.toList _ _ cells hv ak7 ak8 eP; have CF := JP _ _ _ _ h1; have := CE hr hi len (cs := cells.toList) (cur := O3) h2 (by rw [CF]; simp); unfold Instr.buildSlice; simp only [Sem.run_bind, run_underlying hd, Result.andThen_ok, eL e i hi, Array.toList_map]; rw [if_neg (by omega)]; rw [if_neg cA]; simp only [Sem.run_bind, gY e i z hi hz, Result.andThen_ok, Sem.run_pure, h1]; simpa [newRow] using this
          cases hf
        cases hf
    cases hf
  cases hf
theorem EL (z : Value) (n : Nat) : (bR z n).toArray = (Array.range (n * z.cells.size)).map (z.cells[· % z.cells.size]!) := by
  unfold bR; apply Array.toList_inj.1; simp
theorem MZ {t : TypeId} {l c l' c' v : Value} (hr : HR P ρ S B w0 h w) (hl : VR ρ S l l') (hcv : VR ρ S c c') (hf : oY P t l c h = some (v, h')) :
    p6 P B w0 ρ S h w v h' ((Instr.makeSlice t l' c').run P w) := by
  unfold oY at hf; split at hf
  . rename_i e ln cn hd; obtain rfl := hl.qY; obtain rfl := hcv.qY; split at hf
    . rename_i i hi; split at hf
      . rename_i z hz; obtain ⟨hc, hf⟩ := aT hf; obtain ⟨hc, MY⟩ := aQ hc; obtain ⟨hc, wD⟩ := aQ hc; obtain ⟨hc, dR⟩ := aQ hc; obtain ⟨hc, xU⟩ := aQ hc; obtain ⟨hc, SJ⟩ := aQ hc; obtain ⟨h0, hlc⟩ := aQ hc; have h0 := of_decide_eq_true h0; have hlc := of_decide_eq_true hlc; have SJ := of_decide_eq_true SJ; have xU := fY xU; have dR := jA dR; have wD := bV wD; simp only [Option.some.injEq, Prod.mk.injEq] at hf; obtain ⟨rfl, rfl⟩ := hf; have w1 : IntKind.i64.wrap ln = ln := rW h0 (by omega); have w2 : IntKind.i64.wrap cn = cn := rW (by omega) SJ; obtain ⟨lN, rfl⟩ := Int.eq_ofNat_of_zero_le h0; obtain ⟨cN, rfl⟩ := Int.eq_ofNat_of_zero_le (show 0 <= cn by omega); simp only [Int.toNat_natCast] at xU ⊢
        have aoO : ((i.bytes : Int) * (cN : Int)) <= 1099511627776 := by
          have : ((i.bytes * cN : Nat) : Int) <= 1099511627776 := by omega
          simpa using this
        have n1 : ¬ ((cN : Int) < 0) := by omega
        have n2 : ¬ (281474976710656 < (i.bytes : Int) * (cN : Int)) := by omega
        have n3 : ¬ ((lN : Int) < 0) := by omega
        have n4 : ¬ cN < lN := by omega
        have r0 : Array.range 0 = #[] := rfl; unfold Instr.makeSlice; simp only [Sem.run_bind, run_underlying hd, Result.andThen_ok, asInt, asIntOf, Sem.run_pure, qR e i hi, w1, w2]
        have hm := wB hr e (cs := bR z cN) (cur := bR z cN) false (Nat.le_refl _) (fun _ => rfl)
          (LR.zO (ρ := ρ) (S := S) fun v hv => by
            obtain ⟨k, _, rfl⟩ := List.mem_map.1 hv
            exact af0_get! _ MY _).2
        have yA : p6 P B w0 ρ S h w (.slice (some ⟨h.next, 0, none⟩) lN 0) (h.push (.row e (bR z cN) true false)) (.ok (.slice (some ⟨w.heap.size, 0, none⟩) lN cN) (w.alloc (.cells (bR z cN).toArray e))) :=
          ⟨_, _, _, rfl, hm, q6 hr.pos lN cN _ rfl (by omega) (by simp [iS hi, bR, wD]) _ (Ext.lL _)⟩
        rw [EL, wD] at yA; by_cases hn : cN * i.size = 0
        . have WK : cN = 0 := by
            rcases Nat.mul_eq_zero.1 hn with h | h <;> omega
          subst WK
          have l0 : lN = 0 := by omega
          subst l0; simpa [eL e i hi, newRow, r0] using yA
        simpa [n1, n2, n3, n4, eL e i hi, newRow, hn, wD, gY e i z hi hz] using yA
      cases hf
    cases hf
  cases hf
theorem iT {lo uG : Option Value} {d l : Nat} (hb : cR lo d = some l) (hn : lo = none -> uG = none) (hs : ∀ v, lo = some v -> ∃ v', uG = some v' /\ VR ρ S v v') :
    (lo = none /\ uG = none /\ l = d) \/ ∃ k, lo = some (.int k l) /\ uG = some (.int k l) := by
  unfold cR at hb; split at hb
  . simp only [Option.some.injEq] at hb; exact .inl ⟨rfl, hn rfl, hb.symm⟩
  . rename_i k i; split at hb
    . rename_i hi; simp only [Option.some.injEq] at hb; obtain ⟨v', h1, h2⟩ := hs _ rfl; obtain rfl := h2.qY; obtain ⟨n, rfl⟩ := Int.eq_ofNat_of_zero_le hi; rw [Int.toNat_natCast] at hb; subst hb; exact .inr ⟨k, rfl, h1⟩
    cases hb
  cases hb
theorem eO (k : IntKind) (l y : Nat) (code : BoundsCode) (hl : l <= y) (w : World) : (Instr.sliceBound (.int k l) y code).run P w = .ok l w := by
  have h0 : (0 : Int) <= (l : Int) /\ (l : Int) <= (y : Int) := by omega
  simp only [Instr.sliceBound, asIntOf, Sem.run_bind, Sem.run_pure, Result.andThen_ok]; rw [if_pos h0]; simp
theorem PM {n c l k : Nat} {kl kh km : IntKind} {uG : Option Value} (N0 : Bool) (hl : uG = none /\ l = 0 \/ uG = some (.int kl l)) (yB : l <= k) (N1 : k <= c) (w : World) :
    (Instr.sliceBounds N0 n c uG (some (.int kh k)) (some (.int km k))).run P w = .ok (l, k, k) w := by
  unfold Instr.sliceBounds; rcases hl with ⟨rfl, rfl⟩ | rfl
  . cases N0 <;> simp [eO km k c _ N1, eO kh k k _ (Nat.le_refl _)]
  cases N0 <;> simp [eO km k c _ N1, eO kh k k _ (Nat.le_refl _), eO kl l k _ yB]
def OR (ρ : Ren) (S : Nat -> Prop) (a a' : Option Value) : Prop := (a = none -> a' = none) /\ ∀ v, a = some v -> ∃ v', a' = some v' /\ VR ρ S v v'
theorem OR.of_map {x : Option Operand} {ev kR : Operand -> Value} (h : ∀ o, x = some o -> VR ρ S (ev o) (kR o)) : OR ρ S (x.map ev) (x.map kR) := by
  cases x with
  | none => exact ⟨fun _ => rfl, fun v hv => (by cases hv)⟩
  | some o => exact ⟨fun hv => (by cases hv), fun v hv => by simp at hv; subst hv; exact ⟨_, rfl, h o rfl⟩⟩
theorem OR.dN {a a' : Option Value} (h : OR ρ S a a') (ha : a.all af = true) : a' = a := by
  cases a with
  | none => exact h.1 rfl
  | some v =>
    obtain ⟨v', h1, h2⟩ := h.2 v rfl; rw [h1, h2.dN (by simpa using ha)]
theorem GO {lo hi uG kQ : Option Value} {n c l k : Nat} (N0 : Bool) (sO : OR ρ S lo uG) (N2 : OR ρ S hi kQ) (h1 : cR lo 0 = some l) (h2 : cR hi n = some k) (yB : l <= k) (N1 : k <= c) (w : World) :
    (Instr.sliceBounds N0 n c uG kQ none).run P w = .ok (l, k, c) w := by
  have a1 := iT h1 sO.1 sO.2; have a2 := iT h2 N2.1 N2.2; unfold Instr.sliceBounds; rcases a2 with ⟨_, rfl, rfl⟩ | ⟨k2, _, rfl⟩
  . rcases a1 with ⟨_, rfl, rfl⟩ | ⟨k1, _, rfl⟩
    . simp
    simp [eO k1 l k .sliceB yB]
  rcases a1 with ⟨_, rfl, rfl⟩ | ⟨k1, _, rfl⟩
  . cases N0 <;> simp [eO k2 k c _ N1]
  cases N0 <;> simp [eO k2 k c _ N1, eO k1 l k .sliceB yB]
theorem O5 {b o n c l k mk mk' size : Nat} {A : Addr} (hn : n <= c) (h0 : b = 0 -> n = 0) (hb : b ≠ 0 -> S b /\ A = (ρ b).at o /\ (mk = 0 -> o + c * (ρ b).BA = (ρ b).total)) (yB : l <= k) (N1 : k <= c)
    (jX : b = 0 -> k = 0) (h1 : mk' = 1 -> c = k) (h2 : mk' = 0 -> l ≠ 0 -> b ≠ 0 -> (ρ b).BA = size /\ mk = 0) (h3 : mk' = 0 -> mk = 0) :
    VR ρ S (cutAt size b o l k mk') (.slice (if c = l then some A else (some A).map (·.add (l * size))) (k - l) (c - l)) := by
  unfold cutAt
  have ak9 : (if c = l then some A else (some A).map (·.add (l * size))) = some (if c = l then A else A.add (l * size)) := by split <;> rfl
  rw [ak9]
  cases hc : (Nat.blt l k || Nat.beq l 0) with
  | false =>
    simp only [cond_false]
    have bO : ¬ l < k := fun h => by
      have : Nat.blt l k = true := Nat.ble_eq_true_of_le h; simp [this] at hc
    rw [show k - l = 0 by omega]
    exact .slice 0 0 0 2 _ _ (Nat.zero_le _) (fun e => by cases e) (fun _ => rfl) (fun e => absurd rfl e)
  | true =>
    simp only [cond_true]; refine .slice b _ (k - l) mk' (c - l) _ (by omega) (fun e => by have := h1 e; omega) (fun e => by have := jX e; omega) fun cA => ?_; obtain ⟨hs, hA, nP⟩ := hb cA; refine ⟨hs, ?_, fun e => ?_⟩
    . subst hA; by_cases rX : l = 0
      . subst rX; simp [Addr.add]
      have bO : l < k := by
        rcases Bool.or_eq_true_iff.1 hc with h | h
        . exact jA h
        exact absurd (bV h) rX
      rw [if_neg (by omega), Loc.tT]
    by_cases rX : l = 0
    . subst rX; simpa using nP (h3 e)
    obtain ⟨h4, h5⟩ := h2 e rX cA; have h6 := nP h5; rw [h4] at h6 ⊢; rw [<- h6, Nat.add_assoc, <- Nat.add_mul]; congr 2; omega
theorem abE {t : TypeId} {x x' v : Value} {lo hi mx uG kQ mx' : Option Value} (hr : HR P ρ S B w0 h w) (hx : VR ρ S x x') (sO : OR ρ S lo uG) (N2 : OR ρ S hi kQ) (SK : OR ρ S mx mx')
    (hf : bS P t x lo hi mx h = some v) : ∃ v', (Instr.sliceAt t x' uG kQ mx').run P w = .ok v' w /\ VR ρ S v v' := by
  unfold bS at hf; split at hf
  . obtain ⟨hc, hf⟩ := aT hf; obtain ⟨hc, hm⟩ := aQ hc; obtain ⟨hc, hh⟩ := aQ hc; obtain ⟨ha, hl⟩ := aQ hc; rw [hx.dN ha, sO.dN hl, N2.dN hh, SK.dN hm]; rw [Option.bind_eq_some_iff] at hf; obtain ⟨u, hu, hf⟩ := hf; obtain ⟨hau, hf⟩ := aT hf; simp only [Option.some.injEq] at hf; subst hf; exact ⟨u, c9 hu w, .mH hau⟩
  . rename_i elem hd
    have rF : (Instr.sliceAt t x' uG kQ mx').run P w = (Instr.slice t x' uG kQ mx').run P w := by
      unfold Instr.sliceAt; simp only [Sem.run_bind, run_underlying hd, Result.andThen_ok]
    rw [rF]; split at hf
    . obtain rfl := hx.iR; split at hf
      . rename_i hl hh hm; obtain ⟨hmh, hf⟩ := aT hf; rw [Option.map_eq_some_iff] at hf; obtain ⟨i, hi, rfl⟩ := hf; have b1 := iT hl sO.1 sO.2; have b2 := iT hh N2.1 N2.2; have b3 := iT hm SK.1 SK.2; refine ⟨.slice none 0 0, ?_, .lit rfl⟩; have SL : ∀ (k : IntKind) (code : BoundsCode), (Instr.sliceBound (.int k 0) 0 code).run P w = .ok 0 w := fun k code => eO (P := P) k 0 0 code (Nat.le_refl _) w; unfold Instr.slice Instr.sliceBounds; simp only [Sem.run_bind, run_underlying hd, Result.andThen_ok, eL elem i hi]; rcases b3 with ⟨_, rfl, _⟩ | ⟨k3, _, rfl⟩ <;> rcases b2 with ⟨_, rfl, _⟩ | ⟨k2, _, rfl⟩ <;> rcases b1 with ⟨_, rfl, _⟩ | ⟨k1, _, rfl⟩ <;> simp_all [SL]
      cases hf
    . rename_i b o n mk; obtain ⟨A, c, rfl, hn, PN, h0, hb⟩ := hx.iY; split at hf
      . rename_i i l k hi hl hh; split at hf
        . obtain rfl := SK.1 rfl
          have key : ∀ mk', l <= k -> k <= c -> (b = 0 -> k = 0) -> (mk' = 1 -> c = k) -> (mk' = 0 -> l ≠ 0 -> b ≠ 0 -> (ρ b).BA = i.size /\ mk = 0) -> (mk' = 0 -> mk = 0) -> v = cutAt i.size b o l k mk' ->
              ∃ v', (Instr.slice t (.slice (some A) n c) uG kQ none).run P w = .ok v' w /\ VR ρ S v v' := fun mk' h1 h2 h3 h4 h5 h6 e => by
            subst e; unfold Instr.slice; simp only [Sem.run_bind, run_underlying hd, Result.andThen_ok, eL elem i hi, GO (P := P) true sO N2 hl hh h1 h2 w, Sem.run_pure]; exact ⟨_, rfl, O5 hn h0 hb h1 h2 h3 h4 h5 h6⟩
          cases AI : (Nat.ble l k && Nat.ble k n) with
          | true =>
            rw [AI] at hf; simp only [cond_true, Option.some.injEq] at hf; obtain ⟨a1, a2⟩ := aQ AI; have a1 := fY a1; have a2 := fY a2; refine key _ a1 (by omega) (fun e => by have := h0 e; omega) ?_ ?_ ?_ hf.symm
            . intro e
              cases hm : Nat.beq mk 1 with
              | true =>
                rw [hm] at e; simp only [cond_true] at e
                cases hk : Nat.beq k n with
                | true => have := bV hk; have := PN (bV hm); omega
                | false => rw [hk] at e; cases e
              | false =>
                rw [hm] at e; simp only [cond_false, l5] at e; exfalso
                revert e
                cases Nat.beq l 0
                . cases fR : Nat.beq mk 0
                  . simp
                  simp only [cond_false, cond_true]; split
                  . rename_i e2 _ _ _ _; cases Nat.beq e2 elem <;> simp
                  simp
                simp only [cond_true]; intro e; subst e; cases hm
            . intro e rX cA
              cases hm : Nat.beq mk 1 with
              | true =>
                rw [hm] at e; simp only [cond_true] at e
                cases hk : Nat.beq k n <;> rw [hk] at e <;> cases e
              | false =>
                rw [hm] at e; simp only [cond_false, l5, eE rX] at e
                cases fR : Nat.beq mk 0 with
                | false => rw [fR] at e; cases e
                | true =>
                  rw [fR] at e; simp only [cond_true] at e; split at e
                  . rename_i e2 cs own more hg
                    cases he : Nat.beq e2 elem with
                    | false => rw [he] at e; cases e
                    | true =>
                      have hee := bV he; subst hee; exact ⟨((hr.aA b _ hg).2.BA).trans (iS hi), bV fR⟩
                  cases e
            intro e
            cases hm : Nat.beq mk 1 with
            | true =>
              rw [hm] at e; simp only [cond_true] at e
              cases hk : Nat.beq k n <;> rw [hk] at e <;> cases e
            | false =>
              rw [hm] at e; simp only [cond_false, l5] at e
              cases rX : Nat.beq l 0 with
              | true => rw [rX] at e; exact e
              | false =>
                rw [rX] at e; simp only [cond_false] at e
                cases fR : Nat.beq mk 0 with
                | false => rw [fR] at e; cases e
                | true => exact bV fR
          | false =>
            rw [AI] at hf; simp only [cond_false] at hf; obtain ⟨pA, dI⟩ := aT hf; clear hf; obtain ⟨yB, mB⟩ := aQ pA; have yB := jA yB; obtain rfl := bV mB; split at dI
            . rename_i e2 cs more hg; obtain ⟨CG, hf⟩ := aT dI; clear dI; obtain ⟨hc4, hle⟩ := aQ CG; obtain ⟨he, dR⟩ := aQ hc4; have hle := fY hle; have dR := jA dR; obtain rfl := bV he; simp only [Option.some.injEq] at hf; have nE := (hr.aA b _ hg).2; have GP := (nE.BA).trans (iS hi); obtain ⟨cur, _, _, ht, _, hlc, _⟩ := nE; have jX : b ≠ 0 := (hr.ids b (hr.aA b _ hg).1).2; obtain ⟨hS, hA, nP⟩ := hb jX; have nP := nP rfl
              have N1 : k <= c := by
                rw [GP] at nP
                have h1 : k * i.size <= c * i.size := by omega
                exact Nat.le_of_mul_le_mul_right h1 dR
              exact key 0 (by omega) N1 (fun e => absurd e jX) (fun e => by cases e) (fun _ _ _ => ⟨GP, rfl⟩) (fun _ => rfl) hf.symm
            cases dI
        split at hf
        . rename_i hv m hm; obtain ⟨hc, dI⟩ := aT hf; clear hf; obtain ⟨pA, hkn⟩ := aQ hc; obtain ⟨yB, hkm⟩ := aQ pA; have hkn := fY hkn; have yB := fY yB; obtain rfl := bV hkm; simp only [Option.some.injEq] at dI; subst dI; rcases iT hh N2.1 N2.2 with ⟨h1, _⟩ | ⟨kh, _, rfl⟩
          . cases h1
          rcases iT hm SK.1 SK.2 with ⟨h1, _⟩ | ⟨km, _, rfl⟩
          . cases h1
          have aeA : ∃ kl, uG = none /\ l = 0 \/ uG = some (.int kl l) := by
            rcases iT hl sO.1 sO.2 with ⟨_, h1, h2⟩ | ⟨kl, _, h1⟩
            . exact ⟨.i64, .inl ⟨h1, h2⟩⟩
            exact ⟨kl, .inr h1⟩
          obtain ⟨kl, aeA⟩ := aeA; unfold Instr.slice; simp only [Sem.run_bind, run_underlying hd, Result.andThen_ok, eL elem i hi, PM (P := P) true aeA yB (show k <= c by omega) w, Sem.run_pure]; refine ⟨_, rfl, ?_⟩
          have := O5 (ρ := ρ) (S := S) (b := b) (o := o) (n := k) (c := k) (l := l) (k := k) (mk := 1) (mk' := 1) (size := i.size) (A := A) (Nat.le_refl _) (fun e => by have := h0 e; omega)
            (fun e => ⟨(hb e).1, (hb e).2.1, fun e => by cases e⟩) yB (Nat.le_refl _) (fun e => by have := h0 e; omega) (fun _ => rfl) (fun e => by cases e) (fun e => by cases e)
          simpa using this
        cases hf
      cases hf
    cases hf
  . rename_i n elem hd; split at hf
    . rename_i b o; obtain ⟨hs, rfl⟩ := hx.p7; split at hf
      . rename_i i l k hi hl hh; obtain rfl := SK.1 rfl; obtain ⟨hc, dI⟩ := aT hf; clear hf; obtain ⟨yB, hkn⟩ := aQ hc; have yB := jA yB; obtain rfl := bV hkn; simp only [Option.some.injEq] at dI; subst dI; unfold Instr.sliceAt; simp only [Sem.run_bind, run_underlying hd, Result.andThen_ok, Instr.sureAddr, Sem.run_pure, eL elem i hi, GO (P := P) false sO N2 hl hh (Nat.le_of_lt yB) (Nat.le_refl _) w]; refine ⟨_, rfl, ?_⟩; rw [if_neg (by omega), Loc.tT]; have jX : b ≠ 0 := (hr.ids b hs).2; exact .slice b _ _ 1 _ _ (Nat.le_refl _) (fun _ => rfl) (fun e => absurd e jX) (fun _ => ⟨hs, rfl, fun e => by cases e⟩)
      cases hf
    cases hf
  cases hf
end Go.Fs
namespace Go.Fs
open Go.RowKit (Below)
variable {P : Program} {ρ bY : Ren} {S S' : Nat -> Prop} {B : Nat} {w0 w w' w1 w2 : World} {h h' h1 h2 : U}
theorem SM {x x' : Value} {m : Nat} (hx : VR ρ S x x') (hl : mF x = some m) (w : World) : (Builtin.lenOf x').run P w = .ok m w := by
  unfold mF at hl; split at hl
  . simp only [Option.some.injEq] at hl; subst hl
    cases hx with
    | lit h =>
      rename_i a n c
      cases a with
      | none => rfl
      | some a => simp [eD] at h
    | slice b o n m c A hn hm h0 hb => rfl
  . simp only [Option.some.injEq] at hl; subst hl; obtain rfl := hx.qZ; rfl
  cases hl
theorem yC {size n : Nat} {x x' : Value} {vs : List Value} (hr : HR P ρ S B w0 h w) (hx : VR ρ S x x') (hc : cellsOf size n x h = some vs) :
    ∃ jD : List Value, (Builtin.firstCells size n x').run P w = .ok jD.toArray w /\ LR ρ S vs jD := by
  unfold cellsOf at hc; split at hc
  . obtain rfl := hx.iR; obtain ⟨hn, hc⟩ := aT hc; simp only [Option.some.injEq] at hc; subst hc; exact ⟨[], rfl, LR.nil⟩
  . rename_i b o k mk; obtain ⟨A, c, rfl, hn, hm, h0, hb⟩ := hx.iY; obtain ⟨hnk, pA⟩ := aT hc; clear hc; have hnk := fY hnk
    cases hz : Nat.beq (n * size) 0 with
    | true =>
      rw [hz] at pA; simp only [cond_true, Option.some.injEq] at pA; subst pA; refine ⟨[], ?_, LR.nil⟩; unfold Builtin.firstCells; rw [bV hz]
      rfl
    | false =>
      rw [hz] at pA; simp only [cond_false] at pA; split at pA
      . rename_i e cs own more hg; obtain ⟨hle, CG⟩ := aT pA; clear pA; have hle := fY hle; simp only [Option.some.injEq] at CG; subst CG; have nE := (hr.aA b _ hg).2; have jX : b ≠ 0 := (hr.ids b (hr.aA b _ hg).1).2; obtain ⟨_, rfl, _⟩ := hb jX; exact uF (fun i hi => nE.cell hi) hle
      cases pA
  . rename_i s; obtain rfl := hx.qZ; simp only [Option.some.injEq] at hc; subst hc; refine ⟨_, ?_, LR.zO fun v hv => ?_⟩
    . unfold Builtin.firstCells; rw [Array.toArray_toList]; rfl
    rw [Array.toList_map] at hv; obtain ⟨u, _, rfl⟩ := List.mem_map.1 hv; rfl
  cases hc
theorem aeB {argTypes : Array TypeId} {ty : TypeId} {d x d' x' v : Value} (hr : HR P ρ S B w0 h w) (hd : VR ρ S d d') (hx : VR ρ S x x') (hf : kA P argTypes d x h = some (v, h')) :
    p6 P B w0 ρ S h w v h' ((Builtin.copy_ argTypes ty #[d', x']).run P w) := by
  unfold kA at hf; split at hf
  . rename_i dt hdt; split at hf
    . rename_i e WL; split at hf
      . rename_i i m k hi hm hk; split at hf
        . rename_i vs w9; obtain ⟨hc, dI⟩ := aT hf; clear hf; obtain ⟨JR, lF⟩ := aQ hc; have JR := bV JR; obtain ⟨jD, hfc, hlr⟩ := yC hr hx w9; have hlen := SM (P := P) hx hm w; unfold Builtin.copy_; simp only [hdt, List.getElem?_toArray, List.getElem?_cons_zero, List.getElem?_cons_succ]; split at dI
          . obtain rfl := hd.iR; simp only [mF, Option.some.injEq] at hk; subst hk; simp only [Option.some.injEq, Prod.mk.injEq] at dI; obtain ⟨rfl, rfl⟩ := dI; simp only [Sem.run_bind, run_underlying WL, Result.andThen_ok, hlen, eL e i hi, hfc]; exact p6.pure hr (.lit rfl)
          . rename_i b o kk mk; obtain ⟨A, c, rfl, hn, PN, h0, hb⟩ := hd.iY; simp only [mF, Option.some.injEq] at hk; subst hk
            cases hz : Nat.beq (Nat.min m kk * i.size) 0 with
            | true =>
              rw [hz] at dI; simp only [cond_true, Option.some.injEq, Prod.mk.injEq] at dI; obtain ⟨rfl, rfl⟩ := dI; have : jD = [] := List.eq_nil_of_length_eq_zero (by rw [<- hlr.1, JR, bV hz]); subst this; simp only [Sem.run_bind, run_underlying WL, Result.andThen_ok, hlen, eL e i hi, hfc, storeCells, Sem.run_pure]
              exact p6.pure hr (.lit rfl)
            | false =>
              rw [hz] at dI; simp only [cond_false] at dI; split at dI
              . rename_i e' cs more hg; obtain ⟨hle, rG⟩ := aT dI; clear dI; have hle := fY hle; simp only [Option.some.injEq, Prod.mk.injEq] at rG; obtain ⟨rfl, rfl⟩ := rG; have jX : b ≠ 0 := (hr.ids b (hr.aA b _ hg).1).2; obtain ⟨_, rfl, _⟩ := hb jX; obtain ⟨w2, h1, h2⟩ := p8 (o := o) hr hg hlr lF (by omega); simp only [Sem.run_bind, run_underlying WL, Result.andThen_ok, hlen, eL e i hi, hfc, h1, Sem.run_pure]; exact ⟨ρ, w2, _, rfl, h2, .lit rfl⟩
              cases dI
          cases dI
        cases hf
      cases hf
    cases hf
  cases hf
theorem abF {argTypes : Array TypeId} {ty : TypeId} {x x' : Value} (hr : HR P ρ S B w0 h w) (hx : VR ρ S x x') (hf : C3 P argTypes x h = some h') :
    p6 P B w0 ρ S h w (.tuple #[]) h' ((Builtin.clear_ argTypes ty #[x']).run P w) := by
  unfold C3 at hf; split at hf
  . rename_i dt hdt; split at hf
    . rename_i e WL; unfold Builtin.clear_; simp only [hdt, List.getElem?_toArray, List.getElem?_cons_zero]; split at hf
      . obtain rfl := hx.iR; obtain rfl := Option.some.inj hf; simp only [Sem.run_bind, run_underlying WL, Result.andThen_ok, Sem.run_pure]; exact p6.pure hr VR.undef
      . rename_i b o n mk; obtain ⟨A, c, rfl, hn, PN, h0, hb⟩ := hx.iY
        cases hz : Nat.beq n 0 with
        | true =>
          rw [hz] at hf; simp only [cond_true, Option.some.injEq] at hf; subst hf; obtain rfl := bV hz
          cases A <;> simp only [Sem.run_bind, run_underlying WL, Result.andThen_ok, Sem.run_pure] <;> exact p6.pure hr VR.undef
        | false =>
          rw [hz] at hf; simp only [cond_false] at hf; split at hf
          . rename_i i e' cs more hi hg; split at hf
            . rename_i z hzv; obtain ⟨hc, rG⟩ := aT hf; clear hf; obtain ⟨pV, hle⟩ := aQ hc; have hle := fY hle; obtain rfl := Option.some.inj rG; have jX : b ≠ 0 := (hr.ids b (hr.aA b _ hg).1).2; obtain ⟨_, rfl, _⟩ := hb jX
              have hn0 : n ≠ 0 := fun e => by subst e; cases hz
              obtain ⟨w2, h1, h2⟩ := p8 (o := o) hr hg (LR.zO fun v hv => List.all_eq_true.1 pV v hv) (List.all_eq_true.2 fun v hv => (by have := List.all_eq_true.1 pV v hv; cases v <;> first | rfl | simp_all [eD, aN])) (by omega)
              have h3 : (Builtin.zeroCells z.cells n).toList = bR z n := by
                exact congrArg Array.toList (EL z n).symm
              cases n with
              | zero => exact absurd rfl hn0
              | succ n =>
                simp only [Sem.run_bind, run_underlying WL, Result.andThen_ok, gY e i z hi hzv, h3, h1, Sem.run_pure]; exact ⟨ρ, w2, _, rfl, h2, VR.undef⟩
            cases hf
          cases hf
      cases hf
    cases hf
  cases hf
theorem ahP {argTypes : Array TypeId} {ty : TypeId} {x x' v : Value} (hr : HR P ρ S B w0 h w) (hx : VR ρ S x x') (hf : o8 P argTypes x h = some v) :
    ∃ v', (Builtin.len_ argTypes ty #[x']).run P w = .ok v' w /\ VR ρ S v v' := by
  have key : ∀ d, (argTypes[0]?).bind P.underlying = some d -> ∃ t, argTypes[0]? = some t /\ P.underlying t = some d := fun d hd => by
    rwa [Option.bind_eq_some_iff] at hd
  unfold o8 at hf; unfold Builtin.len_; split at hf
  . rename_i b; obtain ⟨hs, rfl⟩ := hx.y9; split at hf
    . rename_i es clock hu hg; obtain ⟨t, h1, h2⟩ := key _ hu; simp only [Option.some.injEq] at hf; subst hf; obtain ⟨_, fH, h3, h4, _⟩ := hr.aA b _ hg; simp only [h1, List.getElem?_toArray, List.getElem?_cons_zero, Sem.run_bind, run_underlying h2, Result.andThen_ok]; simp only [getObj, Sem.run, h3, Result.andThen_ok]; refine ⟨_, rfl, ?_⟩; rw [show (fH.toArray.size : Int) = (es.length : Int) by simp [h4]]; exact .lit rfl
    cases hf
  . rename_i a n c; split at hf
    . rename_i el hu; obtain ⟨t, h1, h2⟩ := key _ hu; simp only [Option.some.injEq] at hf; subst hf
      have : ∃ A C, x' = .slice A n C := by
        cases hx with
        | lit h => exact ⟨_, _, rfl⟩
        | slice b o n m c A hn hm h0 hb => exact ⟨_, _, rfl⟩
      obtain ⟨A, C, rfl⟩ := this; simp only [h1, List.getElem?_toArray, List.getElem?_cons_zero, Sem.run_bind, run_underlying h2, Result.andThen_ok, Sem.run_pure]; exact ⟨_, rfl, .lit rfl⟩
    cases hf
  . rename_i s; split at hf
    . rename_i hu; obtain ⟨t, h1, h2⟩ := key _ hu; simp only [Option.some.injEq] at hf; subst hf; obtain rfl := hx.qZ; simp only [h1, List.getElem?_toArray, List.getElem?_cons_zero, Sem.run_bind, run_underlying h2, Result.andThen_ok, Sem.run_pure]; exact ⟨_, rfl, .lit rfl⟩
    cases hf
  . split at hf
    . rename_i k el hu; obtain ⟨t, h1, h2⟩ := key _ hu; simp only [Option.some.injEq] at hf; subst hf; obtain rfl := hx.gP rfl; simp only [h1, List.getElem?_toArray, List.getElem?_cons_zero, Sem.run_bind, run_underlying h2, Result.andThen_ok, Sem.run_pure]; exact ⟨_, rfl, .lit rfl⟩
    cases hf
  cases hf
theorem ahQ {argTypes : Array TypeId} {ty : TypeId} {x x' v : Value} (hr : HR P ρ S B w0 h w) (hx : VR ρ S x x') (hf : J9 P argTypes x h = some v) :
    ∃ v', (Builtin.cap_ argTypes ty #[x']).run P w = .ok v' w /\ VR ρ S v v' := by
  have key : ∀ d, (argTypes[0]?).bind P.underlying = some d -> ∃ t, argTypes[0]? = some t /\ P.underlying t = some d := fun d hd => by
    rwa [Option.bind_eq_some_iff] at hd
  unfold J9 at hf; unfold Builtin.cap_; split at hf
  . rename_i e b o n mk hu; obtain ⟨t, h1, h2⟩ := key _ hu; obtain ⟨A, c, rfl, hn, hm, h0, hb⟩ := hx.iY; simp only [h1, List.getElem?_toArray, List.getElem?_cons_zero, Sem.run_bind, run_underlying h2, Result.andThen_ok, Sem.run_pure]
    cases mB : Nat.beq mk 1 with
    | true =>
      rw [mB] at hf; simp only [cond_true, Option.some.injEq] at hf; subst hf; rw [hm (bV mB)]
      exact ⟨_, rfl, .lit rfl⟩
    | false =>
      rw [mB] at hf; simp only [cond_false] at hf; split at hf
      . rename_i i e' cs hi hg; obtain ⟨hc, dI⟩ := aT hf; clear hf; obtain ⟨AI, hm0⟩ := aQ hc; obtain ⟨pA, hoc⟩ := aQ AI; obtain ⟨he, dR⟩ := aQ pA; have dR := jA dR; obtain rfl := bV he; simp only [Option.some.injEq] at dI; subst dI; have nE := (hr.aA b _ hg).2; have GP := nE.BA.trans (iS hi); obtain ⟨cur, _, _, ht, _, _, fR, _⟩ := nE; have jX : b ≠ 0 := (hr.ids b (hr.aA b _ hg).1).2; obtain ⟨_, _, nP⟩ := hb jX; have nP := nP (bV hm0); have hl := fR rfl; rw [GP] at nP
        have : (cs.length - o) / i.size = c := by
          rw [show cs.length - o = c * i.size by omega]; exact Nat.mul_div_cancel c dR
        rw [this]; exact ⟨_, rfl, .lit rfl⟩
      cases hf
  . rename_i e hu; obtain ⟨t, h1, h2⟩ := key _ hu; obtain rfl := hx.iR; simp only [Option.some.injEq] at hf; subst hf; simp only [h1, List.getElem?_toArray, List.getElem?_cons_zero, Sem.run_bind, run_underlying h2, Result.andThen_ok, Sem.run_pure]; exact ⟨_, rfl, .lit rfl⟩
  cases hf
theorem JS (IW : Nat) : ∀ (r c : Nat), c <= 2 * IW + 192 -> Builtin.growBy IW r c <= 2 * IW + 192
  | 0, c, h => h
  | r + 1, c, h => by
    unfold Builtin.growBy; split
    . exact h
    exact JS IW r _ (by omega)
theorem nextslicecap_le (xJ cap : Nat) (h : cap < xJ) : Builtin.nextslicecap xJ cap <= 2 * xJ + 192 := by
  unfold Builtin.nextslicecap; split
  . omega
  split
  . omega
  exact JS xJ 4 cap (by omega)
theorem CH {e : TypeId} {i : TypeInfo} {z x x' : Value} {made : Bool} {m : Nat} {news : List Value} (hi : P.info? e = some i) (hz : i.zero = some z) (wD : z.cells.size = i.size) (dR : 0 < i.size)
    (hr : HR P ρ S B w0 h w) (hx : VR ρ S x x') (hf : gB i z made x h = some (m, news)) :
    ∃ aeC : List Value, LR ρ S news aeC /\
      ((if made = true then do
          let l := IntKind.i64.wrap (<- asInt x')
          if l < 0 then runtimePanic (.error "makeslice: len out of range")
          if l * (<- typeInfo e).bytes > 2 ^ 48 then
            let made <- choose (.extern "append.ofMake.carriedOut" 2)
            runtimePanic (.error (if made == 1 then "makeslice: len out of range" else "growslice: len out of range"))
          pure l.toNat
        else Builtin.lenOf x' : Sem Nat).run P w = .ok m w) /\
      ((if !made then Builtin.firstCells i.size m x' else if m * i.size = 0 then pure #[] else do pure (Builtin.zeroCells (<- zeroValue e).cells m) : Sem (Array Value)).run P w = .ok aeC.toArray w) := by
  unfold gB at hf
  cases made with
  | true =>
    simp only [cond_true] at hf; split at hf
    . rename_i l; obtain ⟨hc, dI⟩ := aT hf; clear hf; obtain ⟨AI, MY⟩ := aQ hc; obtain ⟨pA, xU⟩ := aQ AI; obtain ⟨h0, h1⟩ := aQ pA; have h0 := of_decide_eq_true h0; have h1 := of_decide_eq_true h1; have xU := fY xU; obtain rfl := hx.qY; obtain ⟨k, rfl⟩ := Int.eq_ofNat_of_zero_le h0; simp only [Int.toNat_natCast, Option.some.injEq, Prod.mk.injEq] at dI xU; obtain ⟨rfl, rfl⟩ := dI; refine ⟨bR z k, LR.zO fun v hv => ?_, ?_, ?_⟩
      . obtain ⟨q, _, rfl⟩ := List.mem_map.1 hv; exact af0_get! _ MY _
      . have n1 : ¬ ((k : Int) < 0) := by omega
        have sR : ((k : Int) * (i.bytes : Int)) <= 1099511627776 := by
          have : ((k * i.bytes : Nat) : Int) <= 1099511627776 := by omega
          simpa using this
        have n2 : ¬ (281474976710656 < (k : Int) * (i.bytes : Int)) := by omega
        simp [asInt, asIntOf, rW h0 h1, n1, n2, qR e i hi]
      by_cases hk : k * i.size = 0
      . have : k = 0 := by
          rcases Nat.mul_eq_zero.1 hk with h | h <;> omega
        subst this; simp [bR]
      simp [hk, gY e i z hi hz, EL, Builtin.zeroCells]
    cases hf
  | false =>
    simp only [cond_false] at hf; split at hf
    . rename_i k hk; rw [Option.map_eq_some_iff] at hf; obtain ⟨cs, h1, h2⟩ := hf; simp only [Prod.mk.injEq] at h2; obtain ⟨rfl, rfl⟩ := h2; obtain ⟨jD, h3, h4⟩ := yC hr hx h1; exact ⟨jD, h4, by simpa using SM (P := P) hx hk w, by simpa using h3⟩
    cases hf
end Go.Fs
