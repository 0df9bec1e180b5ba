/- Parts of the proof: an evaluator of the model, what it is sound for, and contracts of functions. No condition. -/
import Derived.RangeFuncIn
import Derived.RangeFuncLeaves
import Derived.Orders
import Derived.Below
import Derived.Laws.CopyRow
set_option linter.all false
namespace Go.Fs
inductive Tr where
  | leaf
  | node (v : Value) (l r : Tr)
  deriving Inhabited
def Tr.get : Tr -> Nat -> Value
  | .leaf, _ => undef
  | .node v l r, i => match i with
    | 0 => v
    | k + 1 => bif Nat.beq (k % 2) 0 then l.get (k / 2) else r.get (k / 2)
def Tr.set : Nat -> Tr -> Nat -> Value -> Tr
  | 0, t, _, _ => t
  | f + 1, .leaf, i, x => match i with
    | 0 => .node x .leaf .leaf
    | k + 1 => bif Nat.beq (k % 2) 0 then .node undef (Tr.set f .leaf (k / 2) x) .leaf else .node undef .leaf (Tr.set f .leaf (k / 2) x)
  | f + 1, .node v l r, i, x => match i with
    | 0 => .node x l r
    | k + 1 => bif Nat.beq (k % 2) 0 then .node v (Tr.set f l (k / 2) x) r else .node v l (Tr.set f r (k / 2) x)
inductive aX where
  | row (e : TypeId) (cs : List Value) (own more : Bool)
  | nG (es : List MapEntry) (clock : Nat)
  | iter (s : ByteArray) (pos : Nat)
  | dJ (st : LoopState) (jump : Option Code) (tmps : Tr) (n : Nat) (params : Array Tmp) (assign body : Code) (defers : Nat)
  | iX
  deriving Inhabited
structure Heap where
  next : Nat
  low : Nat
  aA : List (Nat × aX)
def look : List (Nat × aX) -> Nat -> Option aX
  | [], _ => none
  | (k, o) :: r, i => bif Nat.beq k i then some o else look r i
def Heap.get (h : Heap) (i : Nat) : Option aX := look h.aA i
def QV : List (Nat × aX) -> Nat -> aX -> List (Nat × aX)
  | [], _, _ => []
  | (k, o) :: r, i, o' => bif Nat.beq k i then (k, o') :: r else (k, o) :: QV r i o'
def del : List (Nat × aX) -> Nat -> List (Nat × aX)
  | [], _ => []
  | (k, o) :: r, i => bif Nat.beq k i then del r i else (k, o) :: del r i
def Heap.push (h : Heap) (o : aX) : Heap := { next := h.next + 1, low := h.low, aA := (h.next, o) :: h.aA }
def Heap.set (h : Heap) (i : Nat) (o : aX) : Heap := { next := h.next, low := min h.low i, aA := QV h.aA i o }
def Heap.drop (h : Heap) (i : Nat) : Heap := { next := h.next, low := min h.low i, aA := del h.aA i }
def hD : Value := .tuple #[.tuple #[]]
def tN : Value -> Bool
  | .tuple ⟨[.tuple ⟨[]⟩]⟩ => true
  | _ => false
theorem aaC {x : Value} (h : tN x = false) : x ≠ hD := fun e => by subst e; cases h
def eN : Value -> Bool
  | .bool _ | .int _ _ | .float _ _ | .complex _ _ _ | .string _ | .nilFunc | .nilIface | .pointer none | .map none | .chan none | .slice none 0 0 => true
  | _ => false
def rB : Value -> Bool
  | .agg cs => cs.toList.all eN
  | v => eN v
def af : Value -> Bool
  | .tuple vs => vs.toList.all rB
  | v => rB v
def aT : Value -> Bool
  | .agg _ | .tuple _ => false
  | _ => true
def aC {α : Type} (P : Program) : Sem α -> Option α
  | .pure a => some a
  | .program k => aC P (k P)
  | .mark _ k => aC P k
  | .load .. | .store .. | .new .. | .shape .. | .freeze .. | .frozen .. | .getObj .. | .setObj .. | .choose .. | .sys .. | .halt .. => none
def aB (t : Tr) : Operand -> Value
  | .tmp i => t.get i
  | .const v => if af v then v else hD
  | .global _ => hD
  | .func f => .func (.func f) #[] #[]
section
variable (P : Program)
def vK : TypeDesc -> Bool
  | .struct _ | .array _ _ => true
  | _ => false
def eO (t : TypeId) (v : Value) (h : Heap) : Option Value :=
  match v with
  | .pointer (some ⟨b, o, none⟩) =>
    match h.get b, P.underlying t, P.info? t with
    | some (.row _ cs _ _), some d, some i =>
      if vK d then (if o + i.size <= cs.length then some (.agg ((cs.drop o).take i.size).toArray) else none) else cs[o]?
    | _, _, _ => none
  | _ => none
def eX (cs : List Value) (o : Nat) (vs : List Value) : List Value := cs.take o ++ vs ++ cs.drop (o + vs.length)
def jR (t : TypeId) (a x : Value) (h : Heap) : Option Heap :=
  match a with
  | .pointer (some ⟨b, o, none⟩) =>
    match h.get b, P.info? t with
    | some (.row e cs true more), some i =>
      let vs := x.cells.toList
      if vs.length = i.size /\ o + vs.length <= cs.length /\ vs.all aT = true then some (h.set b (.row e (eX cs o vs) true more)) else none
    | _, _ => none
  | _ => none
def pT (e : TypeId) (v : Value) (h : Heap) : Option (Value × Heap) :=
  if v.cells.toList.all aT then some (.pointer (some ⟨h.next, 0, none⟩), h.push (.row e v.cells.toList true false)) else none
def iY (t : TypeId) (len : Nat) (parts : Array (Nat × Value)) (h : Heap) : Option (Value × Heap) :=
  match P.underlying t with
  | some (.slice e) =>
    match P.info? e with
    | some i =>
      bif Nat.beq len 0 then bif parts.toList.isEmpty then some (.slice (some ⟨h.next, 0, none⟩) 0 0, h.push (.row e [] true false)) else none
      else
        match i.zero with
        | some z =>
          bif Nat.ble (len * i.size) 16777216 && Nat.blt 0 i.size && z.cells.toList.all eN && parts.toList.all (fun p => p.2.cells.toList.all aT) then
            match Instr.fill (fun k => some (k * i.size, i.size)) ((Array.range (len * i.size)).map (z.cells[· % z.cells.size]!)) parts.toList with
            | some cells => some (.slice (some ⟨h.next, 0, none⟩) len 0, h.push (.row e cells.toList true false))
            | none => none
          else none
        | none => none
    | none => none
  | _ => none
def l8 (z : Value) (n : Nat) : List Value := (List.range (n * z.cells.size)).map fun k => z.cells[k % z.cells.size]!
def oP (t : TypeId) (l c : Value) (h : Heap) : Option (Value × Heap) :=
  match P.underlying t, l, c with
  | some (.slice e), .int .i64 l, .int .i64 c =>
    match P.info? e with
    | some i =>
      match i.zero with
      | some z =>
        bif decide (0 <= l) && decide (l <= c) && decide (c <= 1099511627776) && Nat.ble (i.bytes * c.toNat) 1099511627776 && Nat.blt 0 i.size && Nat.beq z.cells.size i.size && z.cells.toList.all eN then
          some (.slice (some ⟨h.next, 0, none⟩) l.toNat 0, h.push (.row e (l8 z c.toNat) true false))
        else none
      | none => none
    | none => none
  | _, _, _ => none
def dR : Option Value -> Nat -> Option Nat
  | none, d => some d
  | some (.int _ i), _ => if 0 <= i then some i.toNat else none
  | some _, _ => none
def qK (e : TypeId) (b l mk : Nat) (h : Heap) : Nat :=
  bif Nat.beq l 0 then mk else bif Nat.beq mk 0 then
    match h.get b with
    | some (.row e' _ _ _) => bif Nat.beq e' e then 0 else 2
    | _ => 2
  else 2
def cutAt (size b o l k mk : Nat) : Value := bif Nat.blt l k || Nat.beq l 0 then .slice (some ⟨b, o + l * size, none⟩) (k - l) mk else .slice (some ⟨0, 0, none⟩) 0 2
def cZ (t : TypeId) (x : Value) (lo hi mx : Option Value) (h : Heap) : Option Value :=
  match P.underlying t with
  | some .string =>
    bif af x && lo.all af && hi.all af && mx.all af then (aC P (Instr.sliceAt t x lo hi mx)).bind fun v => bif af v then some v else none else none
  | some (.slice e) =>
    match x with
    | .slice none 0 0 =>
      match dR lo 0, dR hi 0, dR mx 0 with
      | some 0, some 0, some 0 => bif mx.isNone || hi.isSome then (P.info? e).map fun _ => .slice none 0 0 else none
      | _, _, _ => none
    | .slice (some ⟨b, o, none⟩) n mk =>
      match P.info? e, dR lo 0, dR hi n with
      | some i, some l, some k =>
        match mx with
        | none =>
          bif Nat.ble l k && Nat.ble k n then
            some (cutAt i.size b o l k (bif Nat.beq mk 1 then (bif Nat.beq k n then 1 else 2) else qK e b l mk h))
          else bif Nat.blt l k && Nat.beq mk 0 then
            match h.get b with
            | some (.row e' cs true _) => bif Nat.beq e' e && Nat.blt 0 i.size && Nat.ble (o + k * i.size) cs.length then some (cutAt i.size b o l k 0) else none
            | _ => none
          else none
        | some _ =>
          match hi, dR mx 0 with
          | some _, some m => bif Nat.ble l k && Nat.beq k m && Nat.ble k n then some (cutAt i.size b o l k 1) else none
          | _, _ => none
      | _, _, _ => none
    | _ => none
  | some (.array n e) =>
    match x with
    | .pointer (some ⟨b, o, none⟩) =>
      match P.info? e, dR lo 0, dR hi n, mx with
      | some i, some l, some k, none => bif Nat.blt l k && Nat.beq k n then some (.slice (some ⟨b, o + l * i.size, none⟩) (k - l) 1) else none
      | _, _, _, _ => none
    | _ => none
  | _ => none
def cellsOf (size n : Nat) (x : Value) (h : Heap) : Option (List Value) :=
  match x with
  | .slice none 0 0 => bif Nat.beq n 0 then some [] else none
  | .slice (some ⟨b, o, none⟩) k _ =>
    bif Nat.ble n k then
      bif Nat.beq (n * size) 0 then some []
      else match h.get b with
        | some (.row _ cs _ _) => bif Nat.ble (o + n * size) cs.length then some ((cs.drop o).take (n * size)) else none
        | _ => none
    else none
  | .string s => some ((s.extract 0 n).data.map fun b => .int .u8 b.toNat).toList
  | _ => none
def wR : Value -> Option Nat
  | .slice _ n _ => some n
  | .string s => some s.size
  | _ => none
def isInt : TypeDesc -> Bool
  | .int _ => true
  | _ => false
def j7 (i : TypeInfo) (z : Value) (made : Bool) (x : Value) (h : Heap) : Option (Nat × List Value) :=
  bif made then
    match x with
    | .int .i64 l => bif decide (0 <= l) && decide (l <= 1099511627776) && Nat.ble (l.toNat * i.bytes) 1099511627776 && z.cells.toList.all eN then some (l.toNat, l8 z l.toNat) else none
    | _ => none
  else match wR x with
    | some m => (cellsOf i.size m x h).map fun cs => (m, cs)
    | none => none
def grown (e : TypeId) (n : Nat) (cs : List Value) (h : Heap) : Value × Heap := (.slice (some ⟨h.next, 0, none⟩) n 0, h.push (.row e cs true true))
def mN (e : TypeId) (i : TypeInfo) (s : Value) (m : Nat) (news : List Value) (h : Heap) : Option (Value × Heap) :=
  match s with
  | .slice none 0 0 => bif Nat.beq m 0 then some (.slice none 0 0, h) else bif Nat.ble (m * i.bytes) 274877906944 then some (grown e m news h) else none
  | .slice (some ⟨b, o, none⟩) n mk =>
    bif Nat.beq m 0 && Nat.beq mk 1 then some (s, h) else
    match h.get b with
    | some (.row e' cs own more) =>
      bif Nat.beq e' e && Nat.ble ((n + m) * i.bytes) 274877906944 && Nat.ble (o + n * i.size) cs.length then
        bif Nat.beq mk 1 then some (grown e (n + m) ((cs.drop o).take (n * i.size) ++ news) h)
        else bif Nat.beq mk 0 && own then
          bif Nat.ble (o + (n + m) * i.size) cs.length then some (.slice (some ⟨b, o, none⟩) (n + m) 0, bif Nat.beq m 0 then h else h.set b (.row e (eX cs (o + n * i.size) news) own more))
          else bif !more then some (grown e (n + m) ((cs.drop o).take (n * i.size) ++ news) h)
          else bif Nat.beq o 0 && Nat.beq (n * i.size) cs.length then some (grown e (n + m) (cs ++ news) (h.drop b))
          else none
        else none
      else none
    | _ => none
  | _ => none
def fQ (argTypes : Array TypeId) (s x : Value) (h : Heap) : Option (Value × Heap) :=
  match argTypes[0]?, argTypes[1]? with
  | some st, some xt =>
    match P.underlying st, P.underlying xt with
    | some (.slice e), some xd =>
      match P.info? e with
      | some i =>
        match i.zero with
        | some z =>
          match j7 i z (isInt xd) x h with
          | some (m, news) =>
            bif Nat.blt 0 i.size && Nat.blt 0 i.bytes && Nat.beq news.length (m * i.size) && news.all aT && Nat.beq z.cells.size i.size then mN e i s m news h
            else none
          | none => none
        | none => none
      | none => none
    | _, _ => none
  | _, _ => none
def NZ (argTypes : Array TypeId) (d x : Value) (h : Heap) : Option (Value × Heap) :=
  match argTypes[0]? with
  | some dt =>
    match P.underlying dt with
    | some (.slice e) =>
      match P.info? e, wR x, wR d with
      | some i, some m, some k =>
        match cellsOf i.size (Nat.min m k) x h with
        | some vs =>
          bif Nat.beq vs.length (Nat.min m k * i.size) && vs.all aT then
            match d with
            | .slice none 0 0 => some (.int .i64 (Nat.min m k : Nat), h)
            | .slice (some ⟨b, o, none⟩) _ _ =>
              bif Nat.beq (Nat.min m k * i.size) 0 then some (.int .i64 (Nat.min m k : Nat), h) else
              match h.get b with
              | some (.row e' cs true more) => bif Nat.ble (o + Nat.min m k * i.size) cs.length then some (.int .i64 (Nat.min m k : Nat), h.set b (.row e' (eX cs o vs) true more)) else none
              | _ => none
            | _ => none
          else none
        | none => none
      | _, _, _ => none
    | _ => none
  | none => none
def BR (argTypes : Array TypeId) (x : Value) (h : Heap) : Option Heap :=
  match argTypes[0]? with
  | some t =>
    match P.underlying t with
    | some (.slice e) =>
      match x with
      | .slice none 0 0 => some h
      | .slice (some ⟨b, o, none⟩) n _ =>
        bif Nat.beq n 0 then some h else
        match P.info? e, h.get b with
        | some i, some (.row e' cs true more) =>
          match i.zero with
          | some z => bif (l8 z n).all eN && Nat.ble (o + (l8 z n).length) cs.length then some (h.set b (.row e' (eX cs o (l8 z n)) true more)) else none
          | none => none
        | _, _ => none
      | _ => none
    | _ => none
  | none => none
def oQ (argTypes : Array TypeId) (x : Value) (h : Heap) : Option Value :=
  match x with
  | .map (some b) =>
    match (argTypes[0]?).bind P.underlying, h.get b with
    | some (.map _ _), some (.nG es _) => some (.int .i64 es.length)
    | _, _ => none
  | .slice _ n _ =>
    match (argTypes[0]?).bind P.underlying with
    | some (.slice _) => some (.int .i64 n)
    | _ => none
  | .string s =>
    match (argTypes[0]?).bind P.underlying with
    | some .string => some (.int .i64 s.size)
    | _ => none
  | .map none =>
    match (argTypes[0]?).bind P.underlying with
    | some (.map _ _) => some (.int .i64 0)
    | _ => none
  | _ => none
def UN (argTypes : Array TypeId) (x : Value) (h : Heap) : Option Value :=
  match (argTypes[0]?).bind P.underlying, x with
  | some (.slice e), .slice (some ⟨b, o, none⟩) n mk =>
    bif Nat.beq mk 1 then some (.int .i64 n) else
    match P.info? e, h.get b with
    | some i, some (.row e' cs true false) => bif Nat.beq e' e && Nat.blt 0 i.size && Nat.ble o cs.length && Nat.beq mk 0 then some (.int .i64 ((cs.length - o) / i.size : Nat)) else none
    | _, _ => none
  | some (.slice _), .slice none 0 0 => some (.int .i64 0)
  | _, _ => none
def l9 : List Value -> Option (List UInt8)
  | [] => some []
  | .int .u8 (.ofNat n) :: r => bif Nat.blt n 256 then (l9 r).map (UInt8.ofNat n :: ·) else none
  | _ => none
def oR (x : Value) : Option Value := match x with
  | .slice none 0 0 => some (.pointer none)
  | .slice (some ⟨b, o, none⟩) n _ => bif Nat.beq n 0 then none else some (.pointer (some ⟨b, o, none⟩))
  | _ => none
def iR (argTypes : Array TypeId) (p n : Value) (h : Heap) : Option (Value × Heap) :=
  match argTypes.toList, p, n with
  | [pt, _], .pointer none, .int .i64 0 => match P.underlying pt with
    | some (.pointer _) => some (.string .empty, h)
    | _ => none
  | [pt, _], .pointer (some ⟨b, 0, none⟩), .int .i64 (.ofNat (n + 1)) => match P.underlying pt, h.get b with
    | some (.pointer e), some (.row e' cs true _) => bif Nat.beq e' e && Nat.beq (P.cellsOf e) 1 && Nat.ble (n + 1) cs.length && Nat.ble n 1000000000 then
        match l9 (cs.take (n + 1)) with
        | some l => some (.string ⟨l.toArray⟩, h.drop b)
        | none => none
      else none
    | _, _ => none
  | _, _, _ => none
def fK (s : Sem Value) : Option Value := (aC P s).bind fun v => if af v then some v else none
def vL (b : Builtin) (argTypes : Array TypeId) (type : TypeId) (args : List Value) (h : Heap) : Option (Value × Heap) :=
  match b, args with
  | .append, [s, x] => fQ P argTypes s x h
  | .copy, [d, x] => NZ P argTypes d x h
  | .clear, [x] => (BR P argTypes x h).map fun h' => (.tuple #[], h')
  | .len, [x] => (oQ P argTypes x h).map fun v => (v, h)
  | .cap, [x] => (UN P argTypes x h).map fun v => (v, h)
  | .unsafeSliceData, [x] => (oR x).map fun v => (v, h)
  | .unsafeString, [p, n] => iR P argTypes p n h
  | .min, args => if args.all af then (fK P (Builtin.min_ argTypes type args.toArray)).map fun v => (v, h) else none
  | .max, args => if args.all af then (fK P (Builtin.max_ argTypes type args.toArray)).map fun v => (v, h) else none
  | _, _ => none
def vM (keyType : TypeId) (k : Value) (es : List MapEntry) : Option (Option Nat) :=
  match P.underlying keyType with
  | some d => match Instr.findNow d k es 0 with
    | some r => some (r.map (·.1))
    | none => (aC P (Instr.findAsking keyType k es)).map fun r => r.map (·.1)
  | none => none
def fR (UO : TypeId) (x k : Value) (QW : Bool) (h : Heap) : Option Value :=
  match P.underlying UO with
  | some (.map key elem) =>
    match (P.info? elem).bind (·.zero) with
    | some z =>
      let es := match x with
        | .map none => some []
        | .map (some b) => match h.get b with | some (.nG es _) => some es | _ => none
        | _ => none
      match es with
      | some es =>
        if af k = true /\ af z = true /\ (aC P (Instr.checkKey es.isEmpty 10000 key k)).isSome = true then
          match vM P key k es with
          | some (some i) => match es[i]? with
            | some e => some (if QW then .tuple #[e.val, .bool true] else e.val)
            | none => none
          | some none => some (if QW then .tuple #[z, .bool false] else z)
          | none => none
        else none
      | none => none
    | none => none
  | _ => none
def lA (mapType : TypeId) (m k v : Value) (h : Heap) : Option Heap :=
  match P.underlying mapType, m with
  | some (.map key _), .map (some b) =>
    match h.get b with
    | some (.nG es clock) =>
      if af k = true /\ (aC P (Instr.checkKey false 10000 key k)).isSome = true then
        match vM P key k es with
        | some (some i) => match es[i]? with
          | some e => if Instr.sameBits 10000 e.key k = true then some (h.set b (.nG (es.set i { e with key := k, val := v }) clock)) else none
          | none => none
        | some none => some (h.set b (.nG (es ++ [{ key := k, val := v, born := clock }]) (clock + 1)))
        | none => none
      else none
    | _ => none
  | _, _ => none
def xC (UO : TypeId) (x : Value) (h : Heap) : Option (Value × Heap) :=
  match P.underlying UO, x with
  | some .string, .string s => some (.pointer (some ⟨h.next, 0, none⟩), h.push (.iter s 0))
  | _, _ => none
def vN (it : Value) (isString : Bool) (h : Heap) : Option (Value × Heap) :=
  match it, isString with
  | .pointer (some ⟨b, 0, none⟩), true =>
    match h.get b with
    | some (.iter s pos) =>
      if pos < s.size then
        let d := Utf8.decode s pos
        some (.tuple #[.bool true, .int .i64 pos, .int .i32 d.1], h.set b (.iter s (pos + d.2)))
      else some (.tuple #[.bool false], h)
    | _ => none
  | _, _ => none
def QX : BinOp -> Option Bool
  | .eql => some false
  | .neq => some true
  | _ => none
def O0 (op : BinOp) (t : TypeId) (x y : Value) : Option Bool :=
  match x, y with
  | .slice (some _) _ _, .slice none 0 0 => match P.underlying t with
    | some (.slice _) => QX op
    | _ => none
  | .map (some _), .map none => match P.underlying t with
    | some (.map _ _) => QX op
    | _ => none
  | .func _ _ _, .nilFunc => match P.underlying t with
    | some (.func _ _ _) => QX op
    | _ => none
  | _, _ => none
def HY (k : FloatKind) : Value := .iface 0 (.float k 0)
def O1 : Value -> Bool
  | .iface 0 (.float _ 0) => true
  | _ => false
def xD : Value -> Option FloatKind
  | .float k _ => some k
  | .iface 0 (.float k 0) => some k
  | _ => none
def acI (op : BinOp) (k : FloatKind) (a b : Nat) : Bool := match op with
  | .add => (k.format.add a b).isNone
  | .sub => (k.format.sub a b).isNone
  | .mul => (k.format.mul a b).isNone
  | .quo => (k.format.div a b).isNone
  | _ => false
def O3 (op : BinOp) (x y : Value) : Option Value := match x, y with
  | .float k a, .float k' b => bif decide (k = k') && acI op k a b then some (HY k) else none
  | _, _ => none
def Y4 : BinOp -> Option Bool
  | .eql | .lss | .leq | .gtr | .geq => some false
  | .neq => some true
  | _ => none
def O4 (op : BinOp) (x y : Value) : Option Bool := match xD x, xD y with
  | some k, some k' => bif decide (k = k') && (O1 x || O1 y) then Y4 op else none
  | _, _ => none
def O5 (s d : TypeId) (x : Value) : Option Value := match x, P.underlying s, P.underlying d with
  | .float k b, some _, some (.float k') => bif !decide (k = k') && (k.decode b).isNaN then some (HY k') else none
  | _, _, _ => none
def cP (call : FuncId -> List Value -> Heap -> Option (Value × Heap)) (yield : Nat -> List Value -> Heap -> Option (Value × Heap)) (o : Oper) (ev : Operand -> Value) (h : Heap) :
    Option (Value × Heap) :=
  match o.op with
  | .move x | .assign x => some (ev x, h)
  | .pick c a b => match ev c with
    | .bool true => some (ev a, h)
    | .bool false => some (ev b, h)
    | _ => none
  | .alloc e => match (P.info? e).bind (·.zero) with
    | some z => if af z then pT e z h else none
    | none => none
  | .box e x => pT e (ev x) h
  | .build t parts =>
    bif parts.toList.all (fun p => (ev p.2).cells.toList.all aT) && (((P.info? t).bind (·.zero)).map fun z => z.cells.toList.all eN) == some true then
      (aC P (Instr.build t (parts.map fun p => (p.1, ev p.2)))).map fun v => (v, h)
    else none
  | .buildSlice t len parts => iY P t len (parts.map fun p => (p.1, ev p.2)) h
  | .load t a => (eO P t (ev a) h).map fun v => (v, h)
  | .store t a x => (jR P t (ev a) (ev x) h).map fun h' => (undef, h')
  | .nilCheck x => match ev x with
    | .pointer (some a) => some (.pointer (some a), h)
    | .func (.func f) a b => some (.func (.func f) a b, h)
    | _ => none
  | .binOp op t x y _ =>
    if af (ev x) && af (ev y) then ((fK P (do eqGuard op t x y (ev x) (ev y); binOp op t (ev x) (ev y))).or (O3 op (ev x) (ev y))).map fun v => (v, h)
    else ((O0 P op t (ev x) (ev y)).or (O4 op (ev x) (ev y))).map fun b => (.bool b, h)
  | .unOp op _ x => if af (ev x) then (fK P (Op.unary op (ev x))).map fun v => (v, h) else none
  | .convert s d x => if af (ev x) then ((fK P (convert s d (ev x))).or (O5 P s d (ev x))).map fun v => (v, h) else none
  | .makeFunc (.func f) first captured => some (.func (.func f) (first.map ev) (captured.map ev), h)
  | .makeMap _ none => some (.map (some h.next), h.push (.nG [] 0))
  | .makeSlice t l c => oP P t (ev l) (ev c) h
  | .slice t x lo hi mx => (cZ P t (ev x) (lo.map ev) (hi.map ev) (mx.map ev) h).map fun v => (v, h)
  | .fieldAddr s x f => (aC P (Instr.fieldAt s (ev x) f)).map fun v => (v, h)
  | .field t x f => (aC P (Instr.field t (ev x) f)).map fun v => (v, h)
  | .indexAddr t x ix => if af (ev ix) then (aC P (Instr.indexAt t (ev x) (ev ix))).map fun v => (v, h) else none
  | .index t x ix => if af (ev ix) then (aC P (Instr.index t (ev x) (ev ix))).map fun v => (v, h) else none
  | .lookup t x k ok => (fR P t (ev x) (ev k) ok h).map fun v => (v, h)
  | .mapUpdate t m k x | .insert t m k x => (lA P t (ev m) (ev k) (ev x) h).map fun h' => (undef, h')
  | .range t x => xC P t (ev x) h
  | .next it s => vN (ev it) s h
  | .extract t ix => bif tN (ev t) then none else (aC P (Instr.extract (ev t) ix)).map fun v => (v, h)
  | .call c =>
    match c.callee with
    | .builtin b => vL P b c.argTypes o.type (c.args.toList.map ev) h
    | .value f => match ev f with
      | .func (.func g) first captured => call g (first.toList ++ c.args.toList.map ev ++ captured.toList) h
      | .func (.yield l) ⟨[]⟩ ⟨[]⟩ => yield l (c.args.toList.map ev) h
      | _ => none
    | .invoke _ _ => none
  | _ => none
def sG (o : Oper) (ev : Operand -> Value) (h : Heap) : Option (Value × Heap) := match o.op with
  | .convert s d x => match ev x with
    | .slice (some ⟨b, 0, none⟩) n 0 => match P.underlying s with
      | some (.slice e) => match P.underlying e with
        | some (.int .u8) => match h.get b with
          | some (.row e' cs true false) => bif Nat.beq s d && Nat.beq n cs.length && Nat.beq (P.cellsOf e') 1 then some (.slice (some ⟨h.next, 0, none⟩) n 0, (h.drop b).push (.row e' cs true false)) else none
          | _ => none
        | _ => none
      | _ => none
    | _ => none
  | _ => none
def sH (o : Oper) (ev : Operand -> Value) (h : Heap) : Option (Value × Heap) := match o.op with
  | .convert s d x => match ev x with
    | .slice (some ⟨b, 0, none⟩) n _ => match P.underlying s with
      | some (.slice e) => match P.underlying e with
        | some (.int .u8) => match P.underlying d with
          | some .string => match h.get b with
            | some (.row _ cs true _) => bif Nat.ble n cs.length then (l9 (cs.take n)).map fun l => (.string ⟨l.toArray⟩, h) else none
            | _ => none
          | _ => none
        | _ => none
      | _ => none
    | _ => none
  | _ => none
def acJ (h : Heap) (g : Nat) : Value := match h.get (g + 1), P.globals[g]? with
  | some (.row e _ false true), some gl => bif Nat.beq gl.type e then .pointer (some ⟨g + 1, 0, none⟩) else hD
  | _, _ => hD
def evG (h : Heap) (ev : Operand -> Value) : Operand -> Value
  | .global g => acJ P h g
  | x => ev x
def anH : Op -> Bool
  | .load _ (.global _) | .slice _ (.global _) none none none | .indexAddr _ (.global _) _ => true
  | _ => false
def xE (o : Oper) (ev : Operand -> Value) (h : Heap) : Option (Value × Heap) := match sG P o ev h with
  | some r => some r
  | none => match sH P o ev h with
    | some r => some r
    | none => bif anH o.op then cP P (fun _ _ _ => none) (fun _ _ _ => none) o (evG P h ev) h else none
def rC (call : FuncId -> List Value -> Heap -> Option (Value × Heap)) (yield : Nat -> List Value -> Heap -> Option (Value × Heap)) (o : Oper) (ev : Operand -> Value) (h : Heap) : Option (Value × Heap) :=
  match cP P call yield o ev h with
  | some r => some r
  | none => xE P o ev h
def bR (ops : Array Oper) (t : Tr) (o : Oper) : Option Bool :=
  match o.guard with
  | none => some true
  | some (j, want) =>
    match (ops[j]?).bind (·.dst) with
    | none => some false
    | some d => match t.get d with
      | .bool b => some (b == want)
      | .tuple ⟨[]⟩ => some false
      | _ => none
def depth : Nat := 13
def put (n : Nat) (t : Tr) (dst : Option Tmp) (v : Value) : Option Tr :=
  match dst with
  | some d => bif Nat.blt d n then some (t.set depth d v) else none
  | none => some t
def nV (step : Oper -> (Operand -> Value) -> Heap -> Option (Value × Heap)) (ops : Array Oper) (n : Nat) : List Oper -> Tr -> Heap -> Option (Tr × Heap)
  | [], t, h => some (t, h)
  | o :: r, t, h =>
    match bR ops t o with
    | some true => match step o (aB t) h with
      | some (v, h') => match put n t o.dst v with
        | some t' => nV step ops n r t' h'
        | none => none
      | none => none
    | some false => match put n t o.dst undef with
      | some t' => nV step ops n r t' h
      | none => none
    | none => none
def calm : Op -> Bool
  | .move _ | .assign _ | .pick .. | .build .. | .nilCheck _ | .binOp .. | .unOp .. | .convert .. | .makeFunc .. | .fieldAddr .. | .field .. | .indexAddr .. | .index .. | .extract .. => true
  | .call { callee := .builtin .max, .. } | .call { callee := .builtin .min, .. } => true
  | _ => false
def outside (lo hi : Nat) (p : Nat × aX) : Bool := !(decide (lo <= p.1) && decide (p.1 < hi))
def mask (b : Nat) : List (Nat × Nat × Nat) -> List (Nat × aX) -> List (Nat × aX)
  | [], aA => aA
  | (k, lo, hi) :: segs, aA => mask b segs (if b.testBit k then aA else aA.filter (outside lo hi))
structure dO where
  t : Tr
  h : Heap
  bs : List Nat
  segs : List (Nat × Nat × Nat)
  mem : Nat
  tail : Bool
def aP (bs : List Nat) (o : Oper) : Nat := o.after.toList.foldl (fun s e => if Region.binds .any e then s ||| 2 ^ e.on ||| bs.getD e.on 0 else s) 0
def BS : List Oper -> List Nat -> List Nat
  | [], bs => bs
  | o :: r, bs => BS r (bs ++ [aP bs o])
def reads (ops : Array Oper) (o : Oper) : List Tmp := o.looksAt ops
def O6 (ops : List Oper) (x : Tmp) : List Nat := (ops.zipIdx).filterMap fun (o, i) => match o.dst with | some d => bif Nat.beq d x then some i else none | none => none
def QY (ops : Array Oper) (l : List Oper) (bs : List Nat) (o : Oper) (i : Nat) : Bool :=
  o.after.toList.all (fun e => !Region.binds .any e || Nat.blt e.on i) &&
  (match o.dst with | some d => (O6 l d).all (Nat.beq i) | none => true) &&
  (o.looksAt ops).all fun x => (O6 l x).all fun j => Nat.beq j i || (bs.getD i 0).testBit j || (bs.getD j 0).testBit i
def o8 (ops : Array Oper) : Bool := let bs := BS ops.toList []; (ops.toList.zipIdx).all fun (o, i) => QY ops ops.toList bs o i
def codeOk : Code -> Bool
  | .region _ ops true => o8 ops
  | .seq a b => codeOk a && codeOk b
  | .cond _ a b => codeOk a && codeOk b
  | .block _ b => codeOk b
  | .loop b => codeOk b
  | .scope b => codeOk b
  | .rangeFunc _ _ a b => codeOk a && codeOk b
  | _ => true
def inside (lo hi : Nat) (p : Nat × aX) : Bool := Nat.ble lo p.1 && Nat.blt p.1 hi
def bM (lo hi : Nat) (l : List (Nat × aX)) : List (Nat × aX) := bif Nat.beq lo hi then [] else l.filter (inside lo hi)
def fY (step : Oper -> (Operand -> Value) -> Heap -> Option (Value × Heap)) (ops : Array Oper) (n : Nat) (o : Oper) (i : Nat) (s : dO) : Option dO :=
  let b := aP s.bs o
  let bs := s.bs ++ [b]
  match bR ops s.t o with
  | some false => (put n s.t o.dst undef).map fun t => { s with t, bs }
  | none => none
  | some true =>
    if calm o.op then
      match step o (aB s.t) { next := s.h.next, low := s.h.next, aA := [] } with
      | some (v, h') => bif Nat.beq h'.next s.h.next then (put n s.t o.dst v).map fun t => { s with t, bs } else none
      | none => none
    else
      let ordered := Nat.beq (s.mem &&& b) s.mem
      bif s.tail && !ordered then none else
      match step o (aB s.t) { next := s.h.next, low := s.h.next, aA := bif ordered then s.h.aA else mask b s.segs s.h.aA } with
      | some (v, h') =>
        bif Nat.blt h'.next s.h.next then none else
        match put n s.t o.dst v with
        | some t =>
          let mem := s.mem ||| 2 ^ i
          let segs := (i, s.h.next, h'.next) :: s.segs
          bif Nat.ble s.h.next h'.low then
            some { t, h := { next := h'.next, low := s.h.low, aA := bM s.h.next h'.next h'.aA ++ s.h.aA }, bs, segs, mem, tail := s.tail }
          else bif ordered then some { t, h := { next := h'.next, low := min s.h.low h'.low, aA := h'.aA }, bs, segs, mem, tail := true }
          else none
        | none => none
      | none => none
def kM (step : Oper -> (Operand -> Value) -> Heap -> Option (Value × Heap)) (ops : Array Oper) (n : Nat) : List Oper -> Nat -> dO -> Option dO
  | [], _, s => some s
  | o :: r, i, s => match fY step ops n o i s with
    | some s' => kM step ops n r (i + 1) s'
    | none => none
structure Fr where
  t : Tr
  n : Nat
  marks : List Nat
inductive Ex where
  | normal
  | exit (id : Nat)
  | ret
  deriving DecidableEq
def Ex.goes : Ex -> Bool
  | .exit _ => false
  | _ => true
abbrev Rec := Option Nat -> Code -> Fr -> Heap -> Option (Ex × Fr × Heap)
def uO (t : Tr) (h : Heap) : ResultVar -> Option Value
  | .tmp i => some (t.get i)
  | .cell a ty => eO P ty (t.get a) h
def iH (t : Tr) (h : Heap) : List ResultVar -> Option (List Value)
  | [] => some []
  | r :: rs => match uO P t h r, iH t h rs with
    | some v, some vs => some (v :: vs)
    | _, _ => none
def iS : Tr -> Nat -> List Value -> Tr
  | t, _, [] => t
  | t, i, v :: r => iS (t.set depth i v) (i + 1) r
def iA : List Value -> Value
  | [v] => v
  | vs => .tuple vs.toArray
def j9 : List Nat -> Heap -> Option Heap
  | [], h => some h
  | d :: r, h => match h.get d with
    | some .iX => j9 r (h.drop d)
    | _ => none
def kN (keep : Bool) (rec : Rec) (f : FuncId) (args : List Value) (h : Heap) : Option (Value × Heap) :=
  match P.funcs[f]? with
  | some fn =>
    match fn.body with
    | some c =>
      bif Nat.blt 4000 fn.ntmps || Nat.blt fn.ntmps args.length then none else
      match rec none c ⟨iS .leaf 0 args, fn.ntmps, []⟩ { next := h.next, low := h.next, aA := h.aA } with
      | some (e, fr, h1) =>
        bif e.goes then
          match j9 fr.marks h1 with
          | some h2 =>
            match iH P fr.t h2 fn.results.toList with
            | some vs =>
              let v := iA vs
              bif !keep && (af v && Nat.ble h.next h2.low) then some (v, h)
              else some (v, { next := h2.next, low := min h.low h2.low, aA := h2.aA })
            | none => none
          | none => none
        else none
      | none => none
    | none => none
  | none => none
def nH (rec : Rec) : FuncId -> List Value -> Heap -> Option (Value × Heap) := kN P false rec
def qL (n : Nat) : Tr -> List (Tmp × Value) -> Option Tr
  | t, [] => some t
  | t, (i, v) :: r => match put n t (some i) v with
    | some t' => qL n t' r
    | none => none
def eY : Ex -> Option Code
  | .normal => none
  | .exit id => some (.exit id)
  | .ret => some .ret
def dW (rec : Rec) (l : Nat) (args : List Value) (h : Heap) : Option (Value × Heap) :=
  match h.get l with
  | some (.dJ .ready _ tmps n params assign body _) =>
    bif Nat.beq args.length params.size then
      match qL n tmps (params.toList.zip args) with
      | some t =>
        match rec (some l) assign ⟨t, n, []⟩ h with
        | some (.normal, fr, h1) =>
          match h1.get l with
          | some (.dJ .ready jump tmps n params xF HZ d) =>
            match rec (some l) body fr (h1.set l (.dJ .busy jump tmps n params xF HZ d)) with
            | some (e, _, h2) =>
              match h2.get l with
              | some (.dJ _ _ tmps n params xF HZ d) =>
                some (.bool (eY e).isNone, h2.set l (.dJ (bif (eY e).isNone then .ready else .done) (eY e) tmps n params xF HZ d))
              | _ => none
            | none => none
          | _ => none
        | _ => none
      | none => none
    else none
  | _ => none
def HN (aV : Option Nat) (h : Heap) : Option (Nat × List Nat × Heap) :=
  match aV with
  | none => some (h.next, [h.next], h.push .iX)
  | some l => match h.get l with
    | some (.dJ _ _ _ _ _ _ _ d) => some (d, [], h)
    | _ => none
def jS (rec : Rec) (aV : Option Nat) (g : Operand) (ps : Array Tmp) (assign body : Code) (fr : Fr) (h : Heap) : Option (Ex × Fr × Heap) :=
  match HN aV h with
  | some (d, mark, h1) =>
    match aB fr.t g with
    | .func (.func f) first captured =>
      match kN P true rec f (first.toList ++ [.func (.yield h1.next) #[] #[]] ++ captured.toList) (h1.push (.dJ .ready none fr.t fr.n ps assign body d)) with
      | some (_, h3) =>
        match h3.get h1.next with
        | some (.dJ st jump tmps n params xF HZ d) =>
          match st with
          | .busy => none
          | _ =>
            let h4 := h3.set h1.next (.dJ .exhausted jump tmps n params xF HZ d)
            let jF : Fr := { t := fr.t, n := fr.n, marks := mark ++ fr.marks }
            match jump with
            | none => some (.normal, jF, h4)
            | some .ret => some (.ret, jF, h4)
            | some (.exit id) => some (.exit id, jF, h4)
            | _ => none
        | _ => none
      | none => none
    | _ => none
  | none => none
def DI (f : FuncId) (args : List Value) (h : Heap) : Option (Value × Heap) :=
  match P.funcs[f]? with
  | some fn => bif fn.body.isNone && !(fn.name == "runtime.NumGoroutine") then
      match Extern.findNext fn, Extern.find fn with
      | none, some e => bif args.all af then (fK P (e args.toArray)).map fun v => (v, h) else none
      | _, _ => none
    else none
  | none => none
def dX (orc : FuncId -> List Value -> Heap -> Option (Value × Heap)) (rec : Rec) : FuncId -> List Value -> Heap -> Option (Value × Heap) := fun f args h =>
  match orc f args h with
  | some r => some r
  | none => match DI P f args h with
    | some r => some r
    | none => nH P rec f args h
def rP (op : Op) (ev : Operand -> Value) : Option Nat := match op with
  | .store _ a _ => match ev a with
    | .pointer (some ⟨b, _, none⟩) => some b
    | _ => none
  | .call { callee := .builtin .append, args, .. } => match (args.toList.map ev) with
    | .slice (some ⟨b, _, none⟩) _ _ :: _ => some b
    | _ => none
  | _ => none
abbrev vO := dO × List Nat × List Nat
def yW (P : Program) (h0 : Heap) (op : Op) (ev : Operand -> Value) (nx : Nat) : Option (Value × List Nat) := match op with
  | .load T a => match ev a with
    | .pointer (some ⟨b, o, none⟩) => match h0.get b with
      | some ob => bif Nat.blt b h0.next then (eO P T (.pointer (some ⟨b, o, none⟩)) { next := nx, low := nx, aA := [(b, ob)] }).map fun v => (v, [b]) else none
      | none => none
    | _ => none
  | .call { callee := .builtin .len, args, argTypes, .. } => match args.toList with
    | [x] => (oQ P argTypes (ev x) { next := nx, low := nx, aA := [] }).map fun v => (v, [])
    | _ => none
  | .slice T x lo hi mx => match ev x with
    | .slice p 0 mk => (cZ P T (.slice p 0 mk) (lo.map ev) (hi.map ev) (mx.map ev) { next := nx, low := nx, aA := [] }).map fun v => (v, [])
    | .slice (some ⟨b, o, none⟩) n mk => match h0.get b with
      | some ob => bif Nat.blt b h0.next then (cZ P T (.slice (some ⟨b, o, none⟩) n mk) (lo.map ev) (hi.map ev) (mx.map ev) { next := nx, low := nx, aA := [(b, ob)] }).map fun v => (v, [b]) else none
      | none => none
    | _ => none
  | _ => none
def sI (P : Program) (step : Oper -> (Operand -> Value) -> Heap -> Option (Value × Heap)) (ops : Array Oper) (n : Nat) (o : Oper) (i : Nat) (x : vO) : Option vO :=
  let s := x.1
  let b := aP s.bs o
  let bs := s.bs ++ [b]
  let ordered := Nat.beq (s.mem &&& b) s.mem
  bif s.tail && !ordered then none else
  match step o (aB s.t) { next := s.h.next, low := s.h.next, aA := bif ordered then s.h.aA else mask b s.segs s.h.aA } with
  | some (v, h') =>
    bif Nat.blt h'.next s.h.next then none else
    match put n s.t o.dst v with
    | some t =>
      let mem := s.mem ||| 2 ^ i
      let segs := (i, s.h.next, h'.next) :: s.segs
      bif Nat.ble s.h.next h'.low then
        some ({ t, h := { next := h'.next, low := s.h.low, aA := bM s.h.next h'.next h'.aA ++ s.h.aA }, bs, segs, mem, tail := s.tail }, x.2)
      else bif ordered then
        match rP o.op (aB s.t) with
        | some k => some ({ t, h := { next := h'.next, low := min s.h.low h'.low, aA := h'.aA }, bs, segs, mem, tail := true }, x.2.1, k :: x.2.2)
        | none => none
      else none
    | none => none
  | none => none
def jN (P : Program) (h0 : Heap) (step : Oper -> (Operand -> Value) -> Heap -> Option (Value × Heap)) (ops : Array Oper) (n : Nat) (o : Oper) (i : Nat) (x : vO) : Option vO :=
  let s := x.1
  match bR ops s.t o with
  | some false => (put n s.t o.dst undef).map fun t => ({ s with t, bs := s.bs ++ [aP s.bs o] }, x.2)
  | none => none
  | some true =>
    if calm o.op then
      match step o (aB s.t) { next := s.h.next, low := s.h.next, aA := [] } with
      | some (v, h') => bif Nat.beq h'.next s.h.next then (put n s.t o.dst v).map fun t => ({ s with t, bs := s.bs ++ [aP s.bs o] }, x.2) else none
      | none => none
    else match yW P h0 o.op (aB s.t) s.h.next with
      | some (v, b) => (put n s.t o.dst v).map fun t => ({ s with t, bs := s.bs ++ [aP s.bs o] }, b ++ x.2.1, x.2.2)
      | none => sI P step ops n o i x
def kA (P : Program) (h0 : Heap) (step : Oper -> (Operand -> Value) -> Heap -> Option (Value × Heap)) (ops : Array Oper) (n : Nat) : List Oper -> Nat -> vO -> Option vO
  | [], _, x => some x
  | o :: r, i, x => match jN P h0 step ops n o i x with
    | some x' => kA P h0 step ops n r (i + 1) x'
    | none => none
def O7 (x : vO) : Bool := x.2.1.all fun b => x.2.2.all fun k => !Nat.beq b k
def tO (P : Program) (h0 : Heap) (step : Oper -> (Operand -> Value) -> Heap -> Option (Value × Heap)) (ops : Array Oper) (n : Nat) (s : dO) : Option dO :=
  match kA P h0 step ops n ops.toList 0 (s, [], []) with
  | some x => bif O7 x then some x.1 else none
  | none => none
def BT : Op -> Bool
  | .load .. => true
  | _ => false
def aaD : Op -> Bool
  | .store .. => true
  | _ => false
def I3 : Op -> Bool
  | .call { callee := .builtin .append, .. } => true
  | _ => false
def aiN : Op -> Bool
  | .call { callee := .builtin .append, .. } => true
  | .buildSlice _ 0 _ => true
  | _ => false
def UP (l : List Oper) (o : Oper) (j : Nat) : Bool := match o.op with
  | .call { callee := .builtin .append, args, .. } => match args.toList with
    | .tmp x :: _ => (l.zipIdx).any fun (o', i) => Nat.blt i j && aiN o'.op && (match o'.dst with | some d => Nat.beq d x | none => false)
    | _ => false
  | _ => false
def acK : Op -> Bool
  | .call { callee := .value (.func _), .. } => true
  | _ => false
def acL (l : List Oper) (o : Oper) (j : Nat) : Bool := match o.op with
  | .call { callee := .value (.func _), args, .. } => args.toList.any fun a => match a with
    | .tmp x => (l.zipIdx).any fun (o', i) => Nat.blt i j && acK o'.op && (match o'.dst with | some d => Nat.beq d x | none => false)
    | _ => false
  | _ => false
def AO (ops : Array Oper) : Bool :=
  let bs := BS ops.toList []
  (ops.toList.zipIdx).any fun (o, j) => (aaD o.op && (ops.toList.zipIdx).any fun (o', i) => BT o'.op && Nat.blt i j && !(bs.getD j 0).testBit i) ||
    (I3 o.op && (ops.toList.zipIdx).any fun (o', i) => BT o'.op && Nat.blt j i && !(bs.getD i 0).testBit j) ||
    (I3 o.op && UP ops.toList o j && (ops.toList.zipIdx).any fun (o', i) => BT o'.op && Nat.blt i j && !(bs.getD j 0).testBit i) ||
    (acL ops.toList o j && (ops.toList.zipIdx).any fun (o', i) => BT o'.op && Nat.blt i j && !(bs.getD j 0).testBit i)
def bG (orc : FuncId -> List Value -> Heap -> Option (Value × Heap)) (rec : Rec) : Rec := fun aV c fr h =>
  match c with
  | .skip | .label _ => some (.normal, fr, h)
  | .seq a b => match rec aV a fr h with
    | some (.normal, fr1, h1) => rec aV b fr1 h1
    | r => r
  | .cond x a b => match aB fr.t x with
    | .bool true => rec aV a fr h
    | .bool false => rec aV b fr h
    | _ => none
  | .block id body => match rec aV body fr h with
    | some (.exit x7, fr1, h1) => bif Nat.beq x7 id then some (.normal, fr1, h1) else some (.exit x7, fr1, h1)
    | r => r
  | .loop body => match rec aV body fr h with
    | some (.normal, fr1, h1) => rec aV (.loop body) fr1 h1
    | r => r
  | .exit id => some (.exit id, fr, h)
  | .ret => some (.ret, fr, h)
  | .region _ ops false => match nV (rC P (dX P orc rec) (dW rec)) ops fr.n ops.toList fr.t h with
    | some (t, h') => some (.normal, { t, n := fr.n, marks := fr.marks }, h')
    | none => none
  | .region _ ops true => match (bif AO ops then tO P h (cP P (dX P orc rec) (dW rec)) ops fr.n ⟨fr.t, h, [], [], 0, false⟩ else kM (cP P (dX P orc rec) (dW rec)) ops fr.n ops.toList 0 ⟨fr.t, h, [], [], 0, false⟩) with
    | some s => some (.normal, { t := s.t, n := fr.n, marks := fr.marks }, s.h)
    | none => none
  | .rangeFunc g ps assign body => jS P rec aV g ps assign body fr h
  | .scope body => rec aV body fr h
  | .goto _ | .refuse _ => none
def dA (orc : FuncId -> List Value -> Heap -> Option (Value × Heap)) : Nat -> Rec
  | 0 => fun _ _ _ _ => none
  | n + 1 => bG P orc (dA orc n)
end
end Go.Fs
namespace Go.Fs
variable {P : Program}
def BU (c c' : FuncId -> List Value -> Heap -> Option (Value × Heap)) : Prop := ∀ f a h r, c f a h = some r -> c' f a h = some r
def GY (r r' : Rec) : Prop := ∀ aV c fr h x, r aV c fr h = some x -> r' aV c fr h = some x
def AP (s s' : Oper -> (Operand -> Value) -> Heap -> Option (Value × Heap)) : Prop := ∀ o ev h r, s o ev h = some r -> s' o ev h = some r
theorem vP {c c' : FuncId -> List Value -> Heap -> Option (Value × Heap)} {y y' : Nat -> List Value -> Heap -> Option (Value × Heap)} (hc : BU c c') (hy : BU y y') : AP (cP P c y) (cP P c' y') := by
  intro o ev h r hf
  cases dQ : o.op with
  | call cl =>
    unfold cP at hf ⊢; rw [dQ] at hf ⊢
    cases rQ : cl.callee with
    | builtin b => simp only [rQ] at hf ⊢; exact hf
    | invoke a b => simp only [rQ] at hf; cases hf
    | value f =>
      simp only [rQ] at hf ⊢; split at hf
      . exact hc _ _ _ _ hf
      . exact hy _ _ _ _ hf
      cases hf
  | makeFunc fn a b => unfold cP at hf ⊢; rw [dQ] at hf ⊢; cases fn <;> exact hf
  | makeMap t r => unfold cP at hf ⊢; rw [dQ] at hf ⊢; cases r <;> exact hf
  | _ => unfold cP at hf ⊢; rw [dQ] at hf ⊢; exact hf
theorem aiO {c : FuncId -> List Value -> Heap -> Option (Value × Heap)} {y : Nat -> List Value -> Heap -> Option (Value × Heap)} : AP (cP P c y) (rC P c y) := by
  intro o ev h r hf; unfold rC; rw [hf]
theorem UQ {c c' : FuncId -> List Value -> Heap -> Option (Value × Heap)} {y y' : Nat -> List Value -> Heap -> Option (Value × Heap)} {o : Oper} {ev : Operand -> Value} {h : Heap} {r : Value × Heap} (hf : cP P c y o ev h = none) (hm : xE P o ev h = some r) : cP P c' y' o ev h = none := by
  cases dQ : o.op with
  | convert s d x | load s d | slice s d x y z | indexAddr s d x =>
    unfold cP at hf ⊢; rw [dQ] at hf ⊢
    exact hf
  | _ => unfold xE sG sH at hm; rw [dQ] at hm; cases hm
theorem FQ {c c' : FuncId -> List Value -> Heap -> Option (Value × Heap)} {y y' : Nat -> List Value -> Heap -> Option (Value × Heap)} (hc : BU c c') (hy : BU y y') : AP (rC P c y) (rC P c' y') := by
  intro o ev h r hf; unfold rC at hf ⊢
  cases hx : cP P c y o ev h with
  | some r1 =>
    rw [hx] at hf; rw [vP hc hy _ _ _ _ hx]
    exact hf
  | none =>
    rw [hx] at hf; rw [UQ hx hf]; exact hf
theorem qT {s s' : Oper -> (Operand -> Value) -> Heap -> Option (Value × Heap)} (hs : AP s s') {ops : Array Oper} {n : Nat} : ∀ (l : List Oper) (t : Tr) (h : Heap) (x : Tr × Heap), nV s ops n l t h = some x -> nV s' ops n l t h = some x
  | [], t, h, x, hf => hf
  | o :: l, t, h, x, hf => by
    simp only [nV] at hf ⊢; split at hf
    . rename_i hw
      try rw [hw]
      try simp only
      split at hf
      . rename_i v h1 cC; rw [hs _ _ _ _ cC]
        try simp only
        split at hf
        . rename_i t1 hp
          try rw [hp]
          exact qT hs l t1 h1 x hf
        cases hf
      cases hf
    . rename_i hw
      try rw [hw]
      try simp only
      split at hf
      . rename_i t1 hp
        try rw [hp]
        exact qT hs l t1 h x hf
      cases hf
    cases hf
theorem BV {s s' : Oper -> (Operand -> Value) -> Heap -> Option (Value × Heap)} (hs : AP s s') {ops : Array Oper} {n : Nat} {o : Oper} {i : Nat} {d x : dO} (hf : fY s ops n o i d = some x) : fY s' ops n o i d = some x := by
  unfold fY at hf ⊢; simp only at hf ⊢; split at hf
  . rename_i hw
    first | exact hf | (rw [hw]; exact hf)
  . cases hf
  rename_i hw
  try rw [hw]
  try simp only
  split at hf
  . rename_i hc; rw [if_pos hc]; split at hf
    . rename_i v h1 cC; rw [hs _ _ _ _ cC]; exact hf
    cases hf
  rename_i hc; rw [if_neg hc]
  cases nW : (d.tail && !Nat.beq (d.mem &&& aP d.bs o) d.mem) with
  | true => rw [nW] at hf; cases hf
  | false =>
    rw [nW] at hf; simp only [cond_false] at hf ⊢; split at hf
    . rename_i v h1 cC; rw [hs _ _ _ _ cC]; exact hf
    cases hf
theorem u9 {s s' : Oper -> (Operand -> Value) -> Heap -> Option (Value × Heap)} (hs : AP s s') {ops : Array Oper} {n : Nat} : ∀ (l : List Oper) (i : Nat) (d x : dO), kM s ops n l i d = some x -> kM s' ops n l i d = some x
  | [], i, d, x, hf => hf
  | o :: l, i, d, x, hf => by
    simp only [kM] at hf ⊢; split at hf
    . rename_i d1 hd; rw [BV hs hd]; exact u9 hs l (i + 1) d1 x hf
    cases hf
section
variable {s s' : Oper -> (Operand -> Value) -> Heap -> Option (Value × Heap)} {ops : Array Oper} {n : Nat} {h0 : Heap}
theorem KZ (hs : AP s s') {o : Oper} {i : Nat} {x y : vO} (hf : sI P s ops n o i x = some y) : sI P s' ops n o i x = some y := by
  unfold sI at hf ⊢; simp only at hf ⊢
  cases nW : (x.1.tail && !Nat.beq (x.1.mem &&& aP x.1.bs o) x.1.mem) with
  | true => rw [nW] at hf; cases hf
  | false =>
    rw [nW] at hf; simp only [cond_false] at hf ⊢; split at hf
    . rename_i v h1 cC; rw [hs _ _ _ _ cC]; exact hf
    cases hf
theorem xG (hs : AP s s') {o : Oper} {i : Nat} {x y : vO} (hf : jN P h0 s ops n o i x = some y) : jN P h0 s' ops n o i x = some y := by
  unfold jN at hf ⊢; simp only at hf ⊢; split at hf
  . rename_i hw
    first | exact hf | (rw [hw]; exact hf)
  . cases hf
  rename_i hw
  try rw [hw]
  try simp only
  split at hf
  . rename_i hc; rw [if_pos hc]; split at hf
    . rename_i v h1 cC; rw [hs _ _ _ _ cC]; exact hf
    cases hf
  rename_i hc; rw [if_neg hc]; split at hf
  . rename_i v b hq
    try rw [hq]
    exact hf
  rename_i hq
  try rw [hq]
  exact KZ hs hf
theorem wS (hs : AP s s') : ∀ (l : List Oper) (i : Nat) (x y : vO), kA P h0 s ops n l i x = some y -> kA P h0 s' ops n l i x = some y
  | [], i, x, y, hf => hf
  | o :: l, i, x, y, hf => by
    simp only [kA] at hf ⊢; split at hf
    . rename_i d1 hd; rw [xG hs hd]; exact wS hs l (i + 1) d1 y hf
    cases hf
theorem O8 (hs : AP s s') {d y : dO} (hf : tO P h0 s ops n d = some y) : tO P h0 s' ops n d = some y := by
  unfold tO at hf ⊢; split at hf
  . rename_i x hx; rw [wS hs _ _ _ _ hx]; exact hf
  cases hf
end
theorem xH {k : Bool} {r r' : Rec} (hr : GY r r') : BU (kN P k r) (kN P k r') := by
  intro f a h x hf; unfold kN at hf ⊢; split at hf
  . rename_i fn lB
    try rw [lB]
    try simp only
    split at hf
    . rename_i c hc
      try rw [hc]
      try simp only
      cases hb : (Nat.blt 4000 fn.ntmps || Nat.blt fn.ntmps a.length) with
      | true => rw [hb] at hf; cases hf
      | false =>
        rw [hb] at hf; simp only [cond_false] at hf ⊢; split at hf
        . rename_i e fr h1 eZ; rw [hr _ _ _ _ _ eZ]; exact hf
        cases hf
    cases hf
  cases hf
theorem A2 {r r' : Rec} (hr : GY r r') : BU (nH P r) (nH P r') := xH hr
theorem nI {r r' : Rec} (hr : GY r r') : BU (dW r) (dW r') := by
  intro l a h x hf; unfold dW at hf ⊢; split at hf
  . rename_i jump tmps n params assign body d hg
    try rw [hg]
    try simp only
    obtain hb | hb : Nat.beq a.length params.size = true \/ Nat.beq a.length params.size = false := by cases Nat.beq a.length params.size <;> simp
    . rw [hb] at hf
      try rw [hb]
      simp only [cond_true] at hf ⊢; split at hf
      . rename_i t xI
        try rw [xI]
        try simp only
        split at hf
        . rename_i fr h1 eZ; rw [hr _ _ _ _ _ eZ]
          try simp only
          split at hf
          . rename_i j1 t1 n1 p1 a1 b1 d1 I4
            try rw [I4]
            try simp only
            split at hf
            . rename_i e DJ h2 UR; rw [hr _ _ _ _ _ UR]; exact hf
            cases hf
          cases hf
        cases hf
      cases hf
    rw [hb] at hf; cases hf
  cases hf
theorem BW {r r' : Rec} (hr : GY r r') {aV : Option Nat} {g : Operand} {ps : Array Tmp} {assign body : Code} {fr : Fr} {h : Heap} {x : Ex × Fr × Heap} (hf : jS P r aV g ps assign body fr h = some x) :
    jS P r' aV g ps assign body fr h = some x := by
  unfold jS at hf ⊢; split at hf
  . rename_i d mark h1 hm
    try rw [hm]
    try simp only
    split at hf
    . rename_i f first captured bK
      try rw [bK]
      try simp only
      split at hf
      . rename_i v h3 eZ; rw [xH hr _ _ _ _ eZ]; exact hf
      cases hf
    cases hf
  cases hf
theorem O9 {orc : FuncId -> List Value -> Heap -> Option (Value × Heap)} {r r' : Rec} (hr : GY r r') : GY (bG P orc r) (bG P orc r') := by
  intro aV c fr h x hf
  have DK : BU (dX P orc r) (dX P orc r') := by
    intro f a h y hy; unfold dX at hy ⊢; split at hy
    . exact hy
    split at hy
    . exact hy
    exact A2 hr _ _ _ _ hy
  have dQ := vP (P := P) DK (nI hr)
  cases c with
  | skip => exact hf
  | label l => exact hf
  | exit id => exact hf
  | ret => exact hf
  | goto l => exact hf
  | refuse l => exact hf
  | scope b => exact hr _ _ _ _ _ hf
  | seq a b =>
    simp only [bG] at hf ⊢; split at hf
    . rename_i fr1 h1 h2; rw [hr _ _ _ _ _ h2]; exact hr _ _ _ _ _ hf
    rename_i cL; have h2 := hr _ _ _ _ _ hf; rw [h2]; split
    . rename_i fr1 h1 he; exact (cL fr1 h1 (by rw [hf]; exact he)).elim
    rfl
  | cond y a b =>
    simp only [bG] at hf ⊢; split at hf
    . exact hr _ _ _ _ _ hf
    . exact hr _ _ _ _ _ hf
    cases hf
  | block id b =>
    simp only [bG] at hf ⊢; split at hf
    . rename_i x7 fr1 h1 h2; rw [hr _ _ _ _ _ h2]; exact hf
    rename_i cL; have h2 := hr _ _ _ _ _ hf; rw [h2]; split
    . rename_i x7 fr1 h1 he; exact (cL x7 fr1 h1 (by rw [hf]; exact he)).elim
    rfl
  | loop b =>
    simp only [bG] at hf ⊢; split at hf
    . rename_i fr1 h1 h2; rw [hr _ _ _ _ _ h2]; exact hr _ _ _ _ _ hf
    rename_i cL; have h2 := hr _ _ _ _ _ hf; rw [h2]; split
    . rename_i fr1 h1 he; exact (cL fr1 h1 (by rw [hf]; exact he)).elim
    rfl
  | region id ops draw =>
    cases draw with
    | false =>
      simp only [bG] at hf ⊢; split at hf
      . rename_i t h1 h2; rw [qT (FQ DK (nI hr)) _ _ _ _ h2]; exact hf
      cases hf
    | true =>
      simp only [bG] at hf ⊢
      cases hl : AO ops with
      | false =>
        rw [hl] at hf; simp only [cond_false] at hf ⊢; split at hf
        . rename_i s h2; rw [u9 dQ _ _ _ _ h2]; exact hf
        cases hf
      | true =>
        rw [hl] at hf; simp only [cond_true] at hf ⊢; split at hf
        . rename_i s h2; rw [O8 dQ h2]; exact hf
        cases hf
  | rangeFunc g ps assign body => exact BW hr hf
theorem A3 {orc : FuncId -> List Value -> Heap -> Option (Value × Heap)} : ∀ m, GY (dA P orc m) (dA P orc (m + 1))
  | 0 => fun _ _ _ _ _ hf => by cases hf
  | m + 1 => O9 (A3 m)
theorem GY.refl (r : Rec) : GY r r := fun _ _ _ _ _ h => h
theorem gN {orc : FuncId -> List Value -> Heap -> Option (Value × Heap)} {m k : Nat} (hk : m <= k) : GY (dA P orc m) (dA P orc k) := by
  induction k with
  | zero =>
    have : m = 0 := by omega
    subst this; exact GY.refl _
  | succ k ih =>
    by_cases h : m = k + 1
    . subst h; exact GY.refl _
    exact fun aV c fr hp x hf => A3 k _ _ _ _ _ (ih (by omega) aV c fr hp x hf)
end Go.Fs
namespace Go.Fs
section
variable (P : Program) (orc : FuncId -> List Value -> Heap -> Option (Value × Heap))
def mO (m : Nat) : Oper -> (Operand -> Value) -> Heap -> Option (Value × Heap) := cP P (dX P orc (dA P orc m)) (dW (dA P orc m))
def uA (m : Nat) : Oper -> (Operand -> Value) -> Heap -> Option (Value × Heap) := rC P (dX P orc (dA P orc m)) (dW (dA P orc m))
def iI : Oper -> (Operand -> Value) -> Heap -> Option (Value × Heap) := cP P (fun _ _ _ => none) (fun _ _ _ => none)
def jG (aV : Option Nat) (c : Code) (fr : Fr) (h : Heap) (Q : Ex -> Fr -> Heap -> Prop) : Prop := ∃ m e jF h', dA P orc m aV c fr h = some (e, jF, h') /\ Q e jF h'
def oS (f : FuncId) (args : List Value) (h : Heap) (Q : Value -> Heap -> Prop) : Prop := ∃ m v h', dX P orc (dA P orc m) f args h = some (v, h') /\ Q v h'
def QZ (l : Nat) (args : List Value) (h : Heap) (Q : Value -> Heap -> Prop) : Prop := ∃ m v h', dW (dA P orc m) l args h = some (v, h') /\ Q v h'
def mP (ops : Array Oper) (n : Nat) (l : List Oper) (t : Tr) (h : Heap) (Q : Tr -> Heap -> Prop) : Prop := ∃ m t' h', nV (uA P orc m) ops n l t h = some (t', h') /\ Q t' h'
def tK (ops : Array Oper) (n : Nat) (l : List Oper) (i : Nat) (s : dO) (Q : dO -> Prop) : Prop := ∃ m s', kM (mO P orc m) ops n l i s = some s' /\ Q s'
end
variable {P : Program} {orc : FuncId -> List Value -> Heap -> Option (Value × Heap)} {aV : Option Nat} {fr : Fr} {h : Heap} {Q : Ex -> Fr -> Heap -> Prop}
theorem BU.BX {m k : Nat} (hk : m <= k) : BU (dX P orc (dA P orc m)) (dX P orc (dA P orc k)) := by
  intro f a h y hy; unfold dX at hy ⊢; split at hy
  . exact hy
  split at hy
  . exact hy
  exact A2 (gN hk) _ _ _ _ hy
theorem OC {m k : Nat} (hk : m <= k) : AP (mO P orc m) (mO P orc k) := vP (BU.BX hk) (nI (gN hk))
theorem DL (m : Nat) : AP (iI P) (mO P orc m) := vP (fun _ _ _ _ h => by cases h) (fun _ _ _ _ h => by cases h)
theorem FR {m k : Nat} (hk : m <= k) : AP (uA P orc m) (uA P orc k) := FQ (BU.BX hk) (nI (gN hk))
theorem DM {m : Nat} : AP (mO P orc m) (uA P orc m) := aiO
theorem acM (m : Nat) : AP (iI P) (uA P orc m) := fun _ _ _ _ h => DM _ _ _ _ (DL m _ _ _ _ h)
theorem jG.mono {c : Code} {Q' : Ex -> Fr -> Heap -> Prop} (hc : jG P orc aV c fr h Q) (hq : ∀ e jF h', Q e jF h' -> Q' e jF h') : jG P orc aV c fr h Q' :=
  let ⟨m, e, jF, h', h1, h2⟩ := hc; ⟨m, e, jF, h', h1, hq _ _ _ h2⟩
theorem oS.mono {f : FuncId} {args : List Value} {Q Q' : Value -> Heap -> Prop} (hc : oS P orc f args h Q) (hq : ∀ v h', Q v h' -> Q' v h') : oS P orc f args h Q' :=
  let ⟨m, v, h', h1, h2⟩ := hc; ⟨m, v, h', h1, hq _ _ h2⟩
def acN (P : Program) (orc : FuncId -> List Value -> Heap -> Option (Value × Heap)) (aV : Option Nat) (b : Code) (Q : Ex -> Fr -> Heap -> Prop) : Ex -> Fr -> Heap -> Prop
  | .normal, fr, h => jG P orc aV b fr h Q
  | e, fr, h => Q e fr h
theorem jG.skip (hq : Q .normal fr h) : jG P orc aV .skip fr h Q := ⟨1, _, _, _, rfl, hq⟩
theorem jG.exit {id : Nat} (hq : Q (.exit id) fr h) : jG P orc aV (.exit id) fr h Q := ⟨1, _, _, _, rfl, hq⟩
theorem jG.ret (hq : Q .ret fr h) : jG P orc aV .ret fr h Q := ⟨1, _, _, _, rfl, hq⟩
theorem jG.seq {a b : Code} (ha : jG P orc aV a fr h (acN P orc aV b Q)) : jG P orc aV (.seq a b) fr h Q := by
  obtain ⟨m, e, fr1, h1, hr, hq⟩ := ha
  cases e with
  | normal =>
    obtain ⟨k, e2, DJ, h2, rR, OD⟩ := hq; refine ⟨max m k + 1, e2, DJ, h2, ?_, OD⟩; show bG P orc (dA P orc (max m k)) aV (.seq a b) fr h = _; simp only [bG, gN (Nat.le_max_left m k) _ _ _ _ _ hr]
    exact gN (Nat.le_max_right m k) _ _ _ _ _ rR
  | exit id =>
    refine ⟨m + 1, .exit id, fr1, h1, ?_, hq⟩; show bG P orc (dA P orc m) aV (.seq a b) fr h = _
    simp only [bG, hr]
  | ret =>
    refine ⟨m + 1, .ret, fr1, h1, ?_, hq⟩; show bG P orc (dA P orc m) aV (.seq a b) fr h = _; simp only [bG, hr]
theorem jG.loop {b : Code} (ha : jG P orc aV b fr h (acN P orc aV (.loop b) Q)) : jG P orc aV (.loop b) fr h Q := by
  obtain ⟨m, e, fr1, h1, hr, hq⟩ := ha
  cases e with
  | normal =>
    obtain ⟨k, e2, DJ, h2, rR, OD⟩ := hq; refine ⟨max m k + 1, e2, DJ, h2, ?_, OD⟩; show bG P orc (dA P orc (max m k)) aV (.loop b) fr h = _; simp only [bG, gN (Nat.le_max_left m k) _ _ _ _ _ hr]
    exact gN (Nat.le_max_right m k) _ _ _ _ _ rR
  | exit id =>
    refine ⟨m + 1, .exit id, fr1, h1, ?_, hq⟩; show bG P orc (dA P orc m) aV (.loop b) fr h = _
    simp only [bG, hr]
  | ret =>
    refine ⟨m + 1, .ret, fr1, h1, ?_, hq⟩; show bG P orc (dA P orc m) aV (.loop b) fr h = _; simp only [bG, hr]
def inBlock (id : Nat) (Q : Ex -> Fr -> Heap -> Prop) : Ex -> Fr -> Heap -> Prop
  | .exit x7, fr, h => if x7 = id then Q .normal fr h else Q (.exit x7) fr h
  | e, fr, h => Q e fr h
theorem jG.block {id : Nat} {b : Code} (hb : jG P orc aV b fr h (inBlock id Q)) : jG P orc aV (.block id b) fr h Q := by
  obtain ⟨m, e, fr1, h1, hr, hq⟩ := hb
  cases e with
  | normal =>
    refine ⟨m + 1, .normal, fr1, h1, ?_, hq⟩; show bG P orc (dA P orc m) aV (.block id b) fr h = _
    simp only [bG, hr]
  | ret =>
    refine ⟨m + 1, .ret, fr1, h1, ?_, hq⟩; show bG P orc (dA P orc m) aV (.block id b) fr h = _
    simp only [bG, hr]
  | exit x7 =>
    simp only [inBlock] at hq; by_cases he : x7 = id
    . rw [if_pos he] at hq; subst he; refine ⟨m + 1, .normal, fr1, h1, ?_, hq⟩; show bG P orc (dA P orc m) aV (.block x7 b) fr h = _; simp only [bG, hr, Nat.beq_refl, cond_true]
    rw [if_neg he] at hq; refine ⟨m + 1, .exit x7, fr1, h1, ?_, hq⟩; show bG P orc (dA P orc m) aV (.block id b) fr h = _
    have hb : Nat.beq x7 id = false := by
      cases hx : Nat.beq x7 id with
      | false => rfl
      | true => exact absurd (Nat.eq_of_beq_eq_true hx) he
    simp only [bG, hr, hb, cond_false]
theorem jG.cond {x : Operand} {a b : Code} {c : Bool} (hx : aB fr.t x = .bool c) (hc : jG P orc aV (if c then a else b) fr h Q) : jG P orc aV (.cond x a b) fr h Q := by
  obtain ⟨m, e, fr1, h1, hr, hq⟩ := hc; refine ⟨m + 1, e, fr1, h1, ?_, hq⟩; show bG P orc (dA P orc m) aV (.cond x a b) fr h = _
  cases c with
  | true => simp only [bG, hx]; exact hr
  | false => simp only [bG, hx]; exact hr
theorem jG.text {id : Nat} {ops : Array Oper} (ho : mP P orc ops fr.n ops.toList fr.t h fun t h' => Q .normal { t, n := fr.n, marks := fr.marks } h') : jG P orc aV (.region id ops false) fr h Q := by
  obtain ⟨m, t, h1, hr, hq⟩ := ho; refine ⟨m + 1, .normal, _, h1, ?_, hq⟩; show bG P orc (dA P orc m) aV (.region id ops false) fr h = _; simp only [bG]; unfold uA at hr; rw [hr]
theorem jG.draw {id : Nat} {ops : Array Oper} (hl : AO ops = false) (ho : tK P orc ops fr.n ops.toList 0 ⟨fr.t, h, [], [], 0, false⟩ fun s => Q .normal { t := s.t, n := fr.n, marks := fr.marks } s.h) : jG P orc aV (.region id ops true) fr h Q := by
  obtain ⟨m, s, hr, hq⟩ := ho; refine ⟨m + 1, .normal, _, _, ?_, hq⟩; show bG P orc (dA P orc m) aV (.region id ops true) fr h = _; simp only [bG, hl, cond_false]; unfold mO at hr; rw [hr]
variable {ops : Array Oper} {n : Nat} {QO : Tr -> Heap -> Prop} {QD : dO -> Prop}
theorem mP.nil {t : Tr} (hq : QO t h) : mP P orc ops n [] t h QO := ⟨0, t, h, rfl, hq⟩
theorem mP.op {o : Oper} {l : List Oper} {t t' : Tr} {v : Value} {h' : Heap} (hw : bR ops t o = some true) (hs : iI P o (aB t) h = some (v, h')) (hp : put n t o.dst v = some t') (hl : mP P orc ops n l t' h' QO) :
    mP P orc ops n (o :: l) t h QO := by
  obtain ⟨m, t2, h2, hr, hq⟩ := hl; refine ⟨m, t2, h2, ?_, hq⟩; simp only [nV, hw, acM m _ _ _ _ hs, hp]; exact hr
theorem mP.skip {o : Oper} {l : List Oper} {t t' : Tr} (hw : bR ops t o = some false) (hp : put n t o.dst undef = some t') (hl : mP P orc ops n l t' h QO) : mP P orc ops n (o :: l) t h QO := by
  obtain ⟨m, t2, h2, hr, hq⟩ := hl; refine ⟨m, t2, h2, ?_, hq⟩; simp only [nV, hw, hp]; exact hr
theorem BY {o : Oper} {c : Call} {f : Operand} {g : FuncId} {a b : Array Value} {ev : Operand -> Value} (ho : o.op = .call c) (hc : c.callee = .value f) (hf : ev f = .func (.func g) a b) (m : Nat) (h : Heap) :
    mO P orc m o ev h = dX P orc (dA P orc m) g (a.toList ++ c.args.toList.map ev ++ b.toList) h := by
  unfold mO cP; rw [ho]; simp only [hc, hf]
theorem mP.call {o : Oper} {l : List Oper} {t : Tr} {c : Call} {f : Operand} {g : FuncId} {a b : Array Value} (hw : bR ops t o = some true) (ho : o.op = .call c) (hc : c.callee = .value f) (hf : aB t f = .func (.func g) a b)
    (hl : oS P orc g (a.toList ++ c.args.toList.map (aB t) ++ b.toList) h fun v h' => ∃ t', put n t o.dst v = some t' /\ mP P orc ops n l t' h' QO) : mP P orc ops n (o :: l) t h QO := by
  obtain ⟨m, v, h1, hr, t1, hp, k, t2, h2, rR, hq⟩ := hl; refine ⟨max m k, t2, h2, ?_, hq⟩; have h3 := BU.BX (P := P) (orc := orc) (Nat.le_max_left m k) _ _ _ _ hr; have h4 : uA P orc (max m k) o (aB t) h = some (v, h1) := DM _ _ _ _ (by rw [BY ho hc hf]; exact h3); simp only [nV, hw, h4, hp]; exact qT (FR (Nat.le_max_right m k)) _ _ _ _ rR
theorem tK.nil {i : Nat} {s : dO} (hq : QD s) : tK P orc ops n [] i s QD := ⟨0, s, rfl, hq⟩
theorem tK.op {o : Oper} {l : List Oper} {i : Nat} {s s' : dO} (hs : fY (iI P) ops n o i s = some s') (hl : tK P orc ops n l (i + 1) s' QD) : tK P orc ops n (o :: l) i s QD := by
  obtain ⟨m, s2, hr, hq⟩ := hl; refine ⟨m, s2, ?_, hq⟩; simp only [kM, BV (DL m) hs]; exact hr
def oT (o : Oper) (s : dO) : Heap := { next := s.h.next, low := s.h.next, aA := bif Nat.beq (s.mem &&& aP s.bs o) s.mem then s.h.aA else mask (aP s.bs o) s.segs s.h.aA }
def oU (o : Oper) (i : Nat) (s : dO) (t : Tr) (h' : Heap) : dO :=
  bif Nat.ble s.h.next h'.low then { t, h := { next := h'.next, low := s.h.low, aA := bM s.h.next h'.next h'.aA ++ s.h.aA }, bs := s.bs ++ [aP s.bs o], segs := (i, s.h.next, h'.next) :: s.segs, mem := s.mem ||| 2 ^ i, tail := s.tail }
  else { t, h := { next := h'.next, low := min s.h.low h'.low, aA := h'.aA }, bs := s.bs ++ [aP s.bs o], segs := (i, s.h.next, h'.next) :: s.segs, mem := s.mem ||| 2 ^ i, tail := true }
theorem tK.call {o : Oper} {l : List Oper} {i : Nat} {s : dO} {c : Call} {f : Operand} {g : FuncId} {a b : Array Value} (hw : bR ops s.t o = some true) (ho : o.op = .call c) (hc : c.callee = .value f) (hf : aB s.t f = .func (.func g) a b)
    (nW : (s.tail && !Nat.beq (s.mem &&& aP s.bs o) s.mem) = false)
    (hl : oS P orc g (a.toList ++ c.args.toList.map (aB s.t) ++ b.toList) (oT o s) fun v h' => Nat.blt h'.next s.h.next = false /\ (Nat.ble s.h.next h'.low || Nat.beq (s.mem &&& aP s.bs o) s.mem) = true /\
      ∃ t', put n s.t o.dst v = some t' /\ tK P orc ops n l (i + 1) (oU o i s t' h') QD) : tK P orc ops n (o :: l) i s QD := by
  obtain ⟨m, v, h1, hr, gA, uP, t1, hp, k, s2, rR, hq⟩ := hl; refine ⟨max m k, s2, ?_, hq⟩; have h3 := BU.BX (P := P) (orc := orc) (Nat.le_max_left m k) _ _ _ _ hr
  have vQ : calm o.op = false := by rw [ho]; obtain ⟨cl, as_, nX⟩ := c; obtain rfl : cl = .value f := hc; rfl
  have hd : fY (mO P orc (max m k)) ops n o i s = some (oU o i s t1 h1) := by
    unfold fY; simp only [hw, vQ, Bool.false_eq_true, if_false, nW, cond_false]; rw [BY ho hc hf]; unfold oT at h3; rw [h3]; simp only [gA, cond_false, hp]; unfold oU
    cases hx : Nat.ble s.h.next h1.low with
    | true => rfl
    | false =>
      rw [hx] at uP; simp only [Bool.false_or] at uP; rw [uP]; rfl
  simp only [kM, hd]; exact u9 (OC (Nat.le_max_right m k)) _ _ _ _ rR
theorem oS.vR {f : FuncId} {args : List Value} {v : Value} {h' : Heap} {QF : Value -> Heap -> Prop} (ho : orc f args h = some (v, h')) (hq : QF v h') : oS P orc f args h QF :=
  ⟨0, v, h', by simp only [dX, ho], hq⟩
def leftOf (h h2 : Heap) (v : Value) : Heap := bif af v && Nat.ble h.next h2.low then h else { next := h2.next, low := min h.low h2.low, aA := h2.aA }
theorem R0 {f : FuncId} {args : List Value} {fn : Func} {c : Code} (lB : P.funcs[f]? = some fn) (hc : fn.body = some c) : DI P f args h = none := by
  unfold DI; simp [lB, hc]
theorem oS.ext {f : FuncId} {args : List Value} {fn : Func} {e : Array Value -> Sem Value} {v : Value} {QF : Value -> Heap -> Prop} (ho : orc f args h = none) (lB : P.funcs[f]? = some fn) (hb : (fn.body.isNone && !(fn.name == "runtime.NumGoroutine")) = true) (h1 : (Extern.findNext fn).isNone = true) (h2 : Extern.find fn = some e)
    (ha : args.all af = true) (hv : fK P (e args.toArray) = some v) (hq : QF v h) : oS P orc f args h QF := by
  refine ⟨0, v, h, ?_, hq⟩; have rD := Option.isNone_iff_eq_none.1 h1
  have hx : DI P f args h = some (v, h) := by
    unfold DI; simp only [lB, hb, cond_true, rD, h2, ha, hv]; rfl
  simp only [dX, ho, hx]
theorem oS.enter {f : FuncId} {args : List Value} {fn : Func} {c : Code} {QF : Value -> Heap -> Prop} (lB : P.funcs[f]? = some fn) (hc : fn.body = some c) (ho : orc f args h = none) (hn : (Nat.blt 4000 fn.ntmps || Nat.blt fn.ntmps args.length) = false)
    (hb : jG P orc none c ⟨iS .leaf 0 args, fn.ntmps, []⟩ { next := h.next, low := h.next, aA := h.aA } fun e fr h1 =>
      e.goes = true /\ ∃ h2 vs, j9 fr.marks h1 = some h2 /\ iH P fr.t h2 fn.results.toList = some vs /\ QF (iA vs) (leftOf h h2 (iA vs))) : oS P orc f args h QF := by
  obtain ⟨m, e, fr, h1, hr, hg, h2, vs, hd, uQ, hq⟩ := hb; refine ⟨m, iA vs, leftOf h h2 (iA vs), ?_, hq⟩; unfold dX; rw [ho, R0 lB hc]; unfold nH kN; simp only [lB, hc, hn, cond_false, hr, hg, cond_true, hd, uQ, Bool.not_false, Bool.true_and]; unfold leftOf; cases hx : (af (iA vs) && Nat.ble h.next h2.low) <;> rfl
end Go.Fs
namespace Go.Fs
open Go.RowKit (Below)
structure Loc where
  block : Nat
  off : Nat
  total : Nat
  AQ : Nat
  fz : Nat × Nat
  hfz : fz.1 = fz.2 \/ total <= fz.1
abbrev Loc.clean (b o t e : Nat) : Loc := ⟨b, o, t, e, (0, 0), .inl rfl⟩
abbrev Ren := Nat -> Loc
def Loc.at (l : Loc) (o : Nat) : Addr := ⟨l.block, l.off + o, none⟩
theorem Loc.tP (l : Loc) (o n : Nat) : (l.at o).add n = l.at (o + n) := by
  unfold Addr.add Loc.at; by_cases h : n = 0
  . subst h; simp
  simp [h, Nat.add_assoc]
inductive VR (ρ : Ren) (S : Nat -> Prop) : Value -> Value -> Prop
  | lit {v : Value} (h : eN v = true) : VR ρ S v v
  | hD (v : Value) : VR ρ S hD v
  | nan (k : FloatKind) (b : Nat) (hb : (k.decode b).isNaN = true) : VR ρ S (HY k) (.float k b)
  | ptr (b o : Nat) (hs : S b) : VR ρ S (.pointer (some ⟨b, o, none⟩)) (.pointer (some ((ρ b).at o)))
  | slice (b o n m c : Nat) (A : Addr) (hn : n <= c) (hm : m = 1 -> c = n) (h0 : b = 0 -> n = 0)
      (hb : b ≠ 0 -> S b /\ A = (ρ b).at o /\ (m = 0 -> o + c * (ρ b).AQ = (ρ b).total)) : VR ρ S (.slice (some ⟨b, o, none⟩) n m) (.slice (some A) n c)
  | map (b : Nat) (hs : S b) : VR ρ S (.map (some b)) (.map (some (ρ b).block))
  | agg (cs cs' : Array Value) (hl : cs.size = cs'.size) (h : ∀ i, i < cs.size -> VR ρ S (cs.toList.getD i undef) (cs'.toList.getD i undef)) : VR ρ S (.agg cs) (.agg cs')
  | tuple (cs cs' : Array Value) (hl : cs.size = cs'.size) (h : ∀ i, i < cs.size -> VR ρ S (cs.toList.getD i undef) (cs'.toList.getD i undef)) : VR ρ S (.tuple cs) (.tuple cs')
  | func (f : FuncId) (a a' c c' : Array Value) (ha : a.size = a'.size) (hA : ∀ i, i < a.size -> VR ρ S (a.toList.getD i undef) (a'.toList.getD i undef))
      (hc : c.size = c'.size) (hC : ∀ i, i < c.size -> VR ρ S (c.toList.getD i undef) (c'.toList.getD i undef)) : VR ρ S (.func (.func f) a c) (.func (.func f) a' c')
  | yield (l : Nat) (hs : S l) : VR ρ S (.func (.yield l) #[] #[]) (.func (.yield (ρ l).block) #[] #[])
variable {ρ bN : Ren} {S S' : Nat -> Prop}
theorem VR.mono {v v' : Value} (h : VR ρ S v v') (hs : ∀ b, S b -> S' b /\ bN b = ρ b) : VR bN S' v v' := by
  induction h with
  | lit h => exact .lit h
  | hD v => exact .hD v
  | nan k b hb => exact .nan k b hb
  | ptr b o h => have := hs b h; rw [<- this.2]; exact .ptr b o this.1
  | slice b o n m c A hn hm h0 hb =>
    refine .slice b o n m c A hn hm h0 fun jI => ?_; obtain ⟨h1, h2, h3⟩ := hb jI; have := hs b h1
    rw [this.2]; exact ⟨this.1, h2, h3⟩
  | map b h => have := hs b h; rw [<- this.2]; exact .map b this.1
  | agg cs cs' hl _ ih => exact .agg cs cs' hl ih
  | tuple cs cs' hl _ ih => exact .tuple cs cs' hl ih
  | func f a a' c c' ha _ hc _ ihA ihC => exact .func f a a' c c' ha ihA hc ihC
  | yield l h => have := hs l h; rw [<- this.2]; exact .yield l this.1
def LR (ρ : Ren) (S : Nat -> Prop) (cs cs' : List Value) : Prop := cs.length = cs'.length /\ ∀ i, i < cs.length -> VR ρ S (cs.getD i undef) (cs'.getD i undef)
theorem VR.R1 {cs cs' : Array Value} (h : LR ρ S cs.toList cs'.toList) : VR ρ S (.agg cs) (.agg cs') := .agg cs cs' (by simpa using h.1) (by simpa using h.2)
theorem VR.tuple' {cs cs' : Array Value} (h : LR ρ S cs.toList cs'.toList) : VR ρ S (.tuple cs) (.tuple cs') := .tuple cs cs' (by simpa using h.1) (by simpa using h.2)
theorem VR.undef : VR ρ S undef undef := .tuple #[] #[] rfl (fun i h => absurd h (by simp))
theorem LR.mono {cs cs' : List Value} (h : LR ρ S cs cs') (hs : ∀ b, S b -> S' b /\ bN b = ρ b) : LR bN S' cs cs' := ⟨h.1, fun i hi => (h.2 i hi).mono hs⟩
theorem LR.nil : LR ρ S [] [] := ⟨rfl, fun i h => absurd h (by simp)⟩
theorem LR.getD {cs cs' : List Value} (h : LR ρ S cs cs') (i : Nat) : VR ρ S (cs.getD i undef) (cs'.getD i undef) := by
  by_cases hi : i < cs.length
  . exact h.2 i hi
  have h2 := h.1; rw [List.getD_eq_getElem?_getD, List.getD_eq_getElem?_getD, List.getElem?_eq_none (by omega), List.getElem?_eq_none (by omega)]; exact VR.undef
theorem LR.get? {cs cs' : List Value} (h : LR ρ S cs cs') {i : Nat} {v : Value} (hv : cs[i]? = some v) : ∃ v', cs'[i]? = some v' /\ VR ρ S v v' := by
  obtain ⟨hi, rfl⟩ := List.getElem?_eq_some_iff.1 hv; have h1 := h.2 i hi
  have h2 : i < cs'.length := by have := h.1; omega
  exact ⟨cs'[i], List.getElem?_eq_getElem h2, by simpa [List.getD, hi, h2] using h1⟩
theorem LR.of_get? {cs cs' : List Value} (hl : cs.length = cs'.length) (h : ∀ (i : Nat) (v v' : Value), cs[i]? = some v -> cs'[i]? = some v' -> VR ρ S v v') : LR ρ S cs cs' := by
  refine ⟨hl, fun i hi => ?_⟩
  have qU : i < cs'.length := by omega
  have := h i cs[i] cs'[i] (List.getElem?_eq_getElem hi) (List.getElem?_eq_getElem qU); simpa [List.getD, hi, qU] using this
theorem LR.o9 {cs cs' : List Value} (h : LR ρ S cs cs') {i : Nat} {v v' : Value} (hv : cs[i]? = some v) (lF : cs'[i]? = some v') : VR ρ S v v' := by
  obtain ⟨v2, h2, hr⟩ := h.get? hv; rw [h2] at lF; injection lF with e; subst e; exact hr
theorem LR.cons {v v' : Value} {cs cs' : List Value} (h : VR ρ S v v') (hc : LR ρ S cs cs') : LR ρ S (v :: cs) (v' :: cs') := by
  refine LR.of_get? (by simp [hc.1]) fun i a a' ha oL => ?_
  cases i with
  | zero => simp at ha oL; subst ha oL; exact h
  | succ i => simp at ha oL; exact hc.o9 ha oL
theorem LR.append {a a' b b' : List Value} (h : LR ρ S a a') (k : LR ρ S b b') : LR ρ S (a ++ b) (a' ++ b') := by
  refine LR.of_get? (by simp [h.1, k.1]) fun i v v' hv lF => ?_; rw [List.getElem?_append] at hv lF; rw [<- h.1] at lF; split at hv
  . rename_i hi; rw [if_pos hi] at lF; exact h.o9 hv lF
  rename_i hi; rw [if_neg hi] at lF; exact k.o9 hv lF
theorem LR.take {a a' : List Value} (h : LR ρ S a a') (n : Nat) : LR ρ S (a.take n) (a'.take n) := by
  refine LR.of_get? (by simp [h.1]) fun i v v' hv lF => ?_; rw [List.getElem?_take] at hv lF; split at hv
  . rename_i hi; rw [if_pos hi] at lF; exact h.o9 hv lF
  cases hv
theorem LR.drop {a a' : List Value} (h : LR ρ S a a') (n : Nat) : LR ρ S (a.drop n) (a'.drop n) := by
  refine LR.of_get? (by simp [h.1]) fun i v v' hv lF => ?_; rw [List.getElem?_drop] at hv lF; exact h.o9 hv lF
theorem LR.set {a a' : List Value} (h : LR ρ S a a') (i : Nat) {v v' : Value} (hv : VR ρ S v v') : LR ρ S (a.set i v) (a'.set i v') := by
  refine LR.of_get? (by simp [h.1]) fun j u u' hu uB => ?_; rw [List.getElem?_set] at hu uB; split at hu
  . rename_i e; rw [if_pos e] at uB; split at hu
    . split at uB
      . injection hu with hu; injection uB with uB; subst hu uB; exact hv
      cases uB
    cases hu
  rename_i e; rw [if_neg e] at uB; exact h.o9 hu uB
theorem LR.map {α : Type} (f g : α -> Value) (l : List α) (h : ∀ x ∈ l, VR ρ S (f x) (g x)) : LR ρ S (l.map f) (l.map g) := by
  refine LR.of_get? (by simp) fun i a a' ha oL => ?_; rw [List.getElem?_map] at ha oL
  cases hx : l[i]? with
  | none => rw [hx] at ha; cases ha
  | some x =>
    rw [hx] at ha oL; simp at ha oL; subst ha oL; exact h x (List.mem_of_getElem? hx)
theorem VR.gE {v v' : Value} (h : VR ρ S v v') (ha : eN v = true) : v' = v := by
  cases h with
  | lit _ => rfl
  | hD => simp [eN, Fs.hD] at ha
  | nan k b hb => simp [eN, HY] at ha
  | slice b o n m c A hn hm h0 hb => simp [eN] at ha
  | _ => simp [eN] at ha
theorem xJ {cs cs' : List Value} (hl : cs.length = cs'.length) (h : ∀ i, i < cs.length -> cs'.getD i Go.undef = cs.getD i Go.undef) : cs' = cs := by
  refine List.ext_getElem (by omega) fun i h1 h2 => ?_; have := h i h2; simpa [List.getD, h1, h2] using this
theorem mQ {cs : List Value} {i : Nat} (hi : i < cs.length) : cs.getD i Go.undef ∈ cs := by
  simp [List.getD, hi]
theorem VR.I5 {v v' : Value} (h : VR ρ S v v') (ha : rB v = true) : v' = v := by
  cases h with
  | lit _ => rfl
  | hD => simp [rB, eN, Fs.hD] at ha
  | nan k b hb => simp [rB, eN, HY] at ha
  | agg cs cs' hl hv =>
    simp only [rB, List.all_eq_true] at ha; have : cs'.toList = cs.toList := xJ (by simpa using hl) fun i hi => (hv i (by simpa using hi)).gE (ha _ (mQ hi))
    rw [show cs' = cs from Array.toList_inj.1 this]
  | _ => simp [rB, eN] at ha
theorem VR.dH {v v' : Value} (h : VR ρ S v v') (ha : af v = true) : v' = v := by
  cases h with
  | lit _ => rfl
  | hD => simp [af, rB, eN, Fs.hD] at ha
  | nan k b hb => simp [af, rB, eN, HY] at ha
  | agg cs cs' hl hv => exact VR.I5 (.agg cs cs' hl hv) ha
  | tuple cs cs' hl hv =>
    simp only [af, List.all_eq_true] at ha; have : cs'.toList = cs.toList := xJ (by simpa using hl) fun i hi => (hv i (by simpa using hi)).I5 (ha _ (mQ hi))
    rw [show cs' = cs from Array.toList_inj.1 this]
  | _ => simp [af, rB, eN] at ha
theorem VR.Y5 {v : Value} (h : rB v = true) : VR ρ S v v := by
  cases v with
  | agg cs =>
    simp only [rB, List.all_eq_true] at h
    exact .agg cs cs rfl fun i hi => .lit (h _ (mQ (by simpa using hi)))
  | _ => exact .lit h
theorem VR.mF {v : Value} (h : af v = true) : VR ρ S v v := by
  cases v with
  | tuple cs =>
    simp only [af, List.all_eq_true] at h
    exact .tuple cs cs rfl fun i hi => .Y5 (h _ (mQ (by simpa using hi)))
  | _ => exact .Y5 h
theorem LR.yX {l : List Value} (h : ∀ v ∈ l, eN v = true) : LR ρ S l l := ⟨rfl, fun i hi => .lit (h _ (mQ hi))⟩
theorem LR.dH {l l' : List Value} (h : LR ρ S l l') (ha : l.all af = true) : l' = l :=
  xJ h.1 fun i hi => (h.2 i hi).dH (List.all_eq_true.1 ha _ (mQ hi))
theorem VR.aT {v v' : Value} (h : VR ρ S v v') (hv : Fs.aT v = true) : Fs.aT v' = true := by
  cases h <;> simp_all [Fs.aT, Fs.hD, HY]
theorem LR.aT {l l' : List Value} (h : LR ρ S l l') (ha : l.all Fs.aT = true) : ∀ v ∈ l', Fs.aT v = true := by
  intro v hv; obtain ⟨i, hi, rfl⟩ := List.mem_iff_getElem.1 hv
  have h1 : i < l.length := by have := h.1; omega
  have h2 := h.2 i h1; have h3 := h2.aT (List.all_eq_true.1 ha _ (mQ h1)); simpa [List.getD, hi] using h3
theorem VR.cells {v v' : Value} (h : VR ρ S v v') (hv : v.cells.toList.all Fs.aT = true) : LR ρ S v.cells.toList v'.cells.toList := by
  cases h with
  | agg cs cs' hl hc => exact ⟨by simpa [Value.cells] using hl, by simpa [Value.cells] using hc⟩
  | lit h => exact ⟨rfl, fun i hi => by
      have : ∀ v : Value, eN v = true -> v.cells = #[v] := by intro v; cases v <;> simp [eN, Value.cells]
      rw [this _ h] at hi ⊢
      simp at hi; subst hi; exact .lit h⟩
  | hD v => simp [Value.cells, Fs.hD, Fs.aT] at hv
  | nan k b hb => exact LR.cons (.nan k b hb) LR.nil
  | tuple => simp [Value.cells, Fs.aT] at hv
  | ptr b o hs => exact LR.cons (.ptr b o hs) LR.nil
  | slice b o n m c A hn hm h0 hb => exact LR.cons (.slice b o n m c A hn hm h0 hb) LR.nil
  | map b hs => exact LR.cons (.map b hs) LR.nil
  | func f a a' c c' ha hA hc hC => exact LR.cons (.func f a a' c c' ha hA hc hC) LR.nil
  | yield l hs => exact LR.cons (.yield l hs) LR.nil
theorem fG {a b : Nat} (h : a ≠ b) : Nat.beq a b = false := by
  cases hb : Nat.beq a b with
  | false => rfl
  | true => exact absurd (Nat.eq_of_beq_eq_true hb) h
theorem acO (a : Nat) : Nat.beq a a = true := Nat.beq_refl a
theorem fS {a b : Nat} (h : Nat.beq a b = false) : a ≠ b := fun e => by
  subst e; rw [acO] at h; cases h
theorem Tr.dB : ∀ (f : Nat) (t : Tr) (i : Nat) (v : Value) (j : Nat), i + 1 < 2 ^ f -> (t.set f i v).get j = if j = i then v else t.get j
  | 0, t, i, v, j, h => by simp at h
  | f + 1, .leaf, i, v, j, h => by
    rw [Nat.pow_succ] at h
    cases i with
    | zero => cases j <;> simp [Tr.set, Tr.get]
    | succ k =>
      have hk : k / 2 + 1 < 2 ^ f := by omega
      cases j with
      | zero =>
        simp only [Tr.set]
        cases hb : Nat.beq (k % 2) 0 <;> simp [Tr.get]
      | succ m =>
        simp only [Tr.set]; cases hb : Nat.beq (k % 2) 0 <;> simp only [cond_true, cond_false, Tr.get] <;> cases hc : Nat.beq (m % 2) 0 <;> simp only [cond_true, cond_false, Tr.dB f _ _ _ _ hk, Tr.get]
        all_goals first
          | (have h1 : ¬ k % 2 = 0 := fS hb
             have h2 : m % 2 = 0 := Nat.eq_of_beq_eq_true hc
             rw [if_neg (by omega)])
          | (have h1 : k % 2 = 0 := Nat.eq_of_beq_eq_true hb
             have h2 : ¬ m % 2 = 0 := fS hc
             rw [if_neg (by omega)])
          | (have h1 : ¬ k % 2 = 0 := fS hb
             have h2 : ¬ m % 2 = 0 := fS hc; by_cases e : m / 2 = k / 2
             . rw [if_pos e, if_pos (by omega)]
             rw [if_neg e, if_neg (by omega)])
          | (have h1 : k % 2 = 0 := Nat.eq_of_beq_eq_true hb
             have h2 : m % 2 = 0 := Nat.eq_of_beq_eq_true hc; by_cases e : m / 2 = k / 2
             . rw [if_pos e, if_pos (by omega)]
             rw [if_neg e, if_neg (by omega)])
  | f + 1, .node u l r, i, v, j, h => by
    rw [Nat.pow_succ] at h
    cases i with
    | zero => cases j <;> simp [Tr.set, Tr.get]
    | succ k =>
      have hk : k / 2 + 1 < 2 ^ f := by omega
      cases j with
      | zero =>
        simp only [Tr.set]
        cases hb : Nat.beq (k % 2) 0 <;> simp [Tr.get]
      | succ m =>
        simp only [Tr.set]; cases hb : Nat.beq (k % 2) 0 <;> simp only [cond_true, cond_false, Tr.get] <;> cases hc : Nat.beq (m % 2) 0 <;> simp only [cond_true, cond_false, Tr.dB f _ _ _ _ hk, Tr.get]
        all_goals first
          | (have h1 : ¬ k % 2 = 0 := fS hb
             have h2 : m % 2 = 0 := Nat.eq_of_beq_eq_true hc
             rw [if_neg (by omega)])
          | (have h1 : k % 2 = 0 := Nat.eq_of_beq_eq_true hb
             have h2 : ¬ m % 2 = 0 := fS hc
             rw [if_neg (by omega)])
          | (have h1 : ¬ k % 2 = 0 := fS hb
             have h2 : ¬ m % 2 = 0 := fS hc; by_cases e : m / 2 = k / 2
             . rw [if_pos e, if_pos (by omega)]
             rw [if_neg e, if_neg (by omega)])
          | (have h1 : k % 2 = 0 := Nat.eq_of_beq_eq_true hb
             have h2 : m % 2 = 0 := Nat.eq_of_beq_eq_true hc; by_cases e : m / 2 = k / 2
             . rw [if_pos e, if_pos (by omega)]
             rw [if_neg e, if_neg (by omega)])
def kV (ρ : Ren) (S : Nat -> Prop) (t : Tr) (n : Nat) (tmps : Array Value) : Prop := tmps.size = n /\ n <= 4000 /\ ∀ i, VR ρ S (t.get i) (tmps.toList.getD i Go.undef)
theorem kV.mono {t : Tr} {n : Nat} {tmps : Array Value} (h : kV ρ S t n tmps) (hs : ∀ b, S b -> S' b /\ bN b = ρ b) : kV bN S' t n tmps := ⟨h.1, h.2.1, fun i => (h.2.2 i).mono hs⟩
theorem kV.put {t t' : Tr} {n : Nat} {tmps : Array Value} (h : kV ρ S t n tmps) {dst : Option Tmp} {v v' : Value} (hp : put n t dst v = some t') (hv : VR ρ S v v') (d : List Deferred) :
    kV ρ S t' n (({ tmps := tmps, defers := d } : Act).put dst v').tmps := by
  unfold Fs.put at hp
  cases dst with
  | none => simp only [Option.some.injEq] at hp; subst hp; exact h
  | some i =>
    simp only at hp
    cases hb : Nat.blt i n with
    | false => rw [hb] at hp; cases hp
    | true =>
      rw [hb] at hp; simp only [cond_true, Option.some.injEq] at hp; subst hp; have b7 : Nat.succ i <= n := Nat.le_of_ble_eq_true hb; have h4 := h.2.1; refine ⟨by simp [Act.put, h.1], h.2.1, fun j => ?_⟩; rw [Tr.dB depth t i v j (by have : 2 ^ depth = 8192 := rfl; rw [this]; exact Nat.lt_of_le_of_lt (Nat.le_trans b7 h4) (by decide))]; simp only [Act.put, Array.toList_setIfInBounds, List.getD_eq_getElem?_getD, List.getElem?_set]; by_cases e : j = i
      . subst e; rw [if_pos rfl, if_pos rfl, if_pos (by simpa [h.1] using (show j < n from b7))]; exact hv
      rw [if_neg e, if_neg (Ne.symm e)]; have := h.2.2 j
      rwa [List.getD_eq_getElem?_getD] at this
theorem kV.eval {t : Tr} {n : Nat} {tmps : Array Value} (h : kV ρ S t n tmps) (d : List Deferred) (x : Operand) : VR ρ S (aB t x) (({ tmps := tmps, defers := d } : Act).eval x) := by
  cases x with
  | tmp i =>
    have := h.2.2 i
    simpa [aB, Act.eval, Array.getD_eq_getD_getElem?, List.getD_eq_getElem?_getD] using this
  | const v =>
    simp only [aB, Act.eval]; by_cases hv : af v = true
    . rw [if_pos hv]; exact .mF hv
    rw [if_neg hv]; exact .hD v
  | global g => exact .hD _
  | func f => exact .func f _ _ _ _ rfl (fun i h => absurd h (by simp)) rfl (fun i h => absurd h (by simp))
theorem I6 {l : List (Nat × aX)} {i : Nat} {o o' : aX} (h : look l i = some o) : look (QV l i o') i = some o' := by
  induction l with
  | nil => simp [look] at h
  | cons p r ih =>
    obtain ⟨k, x⟩ := p; by_cases hk : k = i
    . subst hk; simp [QV, look]
    have hb : Nat.beq k i = false := fG hk; simp only [QV, look, hb, cond_false] at h ⊢; exact ih h
theorem GZ {l : List (Nat × aX)} {i j : Nat} {o' : aX} (hj : j ≠ i) : look (QV l i o') j = look l j := by
  induction l with
  | nil => rfl
  | cons p r ih =>
    obtain ⟨k, x⟩ := p; by_cases hk : k = i
    . subst hk; have hb : Nat.beq k j = false := fG (Ne.symm hj); simp [QV, look, hb]
    have hb : Nat.beq k i = false := fG hk; simp only [QV, look, hb, cond_false, ih]
theorem I7 {l : List (Nat × aX)} {i : Nat} : look (del l i) i = none := by
  induction l with
  | nil => rfl
  | cons p r ih =>
    obtain ⟨k, x⟩ := p; by_cases hk : k = i
    . subst hk; simp [del, ih]
    have hb : Nat.beq k i = false := fG hk; simp [del, hb, look, ih]
theorem H0 {l : List (Nat × aX)} {i j : Nat} (hj : j ≠ i) : look (del l i) j = look l j := by
  induction l with
  | nil => rfl
  | cons p r ih =>
    obtain ⟨k, x⟩ := p; by_cases hk : k = i
    . subst hk; have hb : Nat.beq k j = false := fG (Ne.symm hj); simp [del, look, hb, ih]
    have hb : Nat.beq k i = false := fG hk; simp only [del, look, hb, cond_false, ih]
theorem Heap.dB {h : Heap} {i j : Nat} {o o' : aX} (hi : h.get i = some o) : (h.set i o').get j = if j = i then some o' else h.get j := by
  by_cases hj : j = i
  . subst hj; rw [if_pos rfl]; exact I6 hi
  rw [if_neg hj]; exact GZ hj
theorem Heap.cM {h : Heap} {i j : Nat} : (h.drop i).get j = if j = i then none else h.get j := by
  by_cases hj : j = i
  . subst hj; rw [if_pos rfl]; exact I7
  rw [if_neg hj]; exact H0 hj
theorem Heap.bE {h : Heap} {j : Nat} {o : aX} : (h.push o).get j = if j = h.next then some o else h.get j := by
  show look ((h.next, o) :: h.aA) j = _; by_cases hj : j = h.next
  . subst hj; simp [look]
  have hb : Nat.beq h.next j = false := fG (Ne.symm hj); simp [look, hb, hj, Heap.get]
def iB : aX -> Bool
  | .row _ _ own _ => own
  | _ => true
section
variable (P : Program) (ρ : Ren) (S : Nat -> Prop)
def aiP (e : TypeId) (l : Loc) : Prop := ∀ (g : Nat) gl, P.globals[g]? = some gl -> gl.type = e -> l.block = g /\ l.off = 0
def kY (l : Loc) (w : World) : aX -> Prop
  | .row e cs true more => ∃ cur : List Value, w.heap[l.block]? = some (.cells cur.toArray e l.fz) /\ l.off = 0 /\ l.total = cur.length /\ l.AQ = P.cellsOf e /\ cs.length <= cur.length /\
      (more = false -> cs.length = cur.length) /\ ∀ i, i < cs.length -> VR ρ S (cs.getD i undef) (cur.getD i undef)
  | .row e cs false more => l.AQ = P.cellsOf e /\ (∀ i, i < cs.length -> ∃ v, w.cell? (l.at i) = some v /\ VR ρ S (cs.getD i undef) v) /\ (more = true -> aiP P e l)
  | .nG es clock => ∃ eH : List MapEntry, w.heap[l.block]? = some (.map eH.toArray clock) /\ es.length = eH.length /\
      ∀ (i : Nat) (e e' : MapEntry), es[i]? = some e -> eH[i]? = some e' -> e'.key = e.key /\ af e.key = true /\ e'.born = e.born /\ VR ρ S e.val e'.val
  | .iter s pos => w.heap[l.block]? = some (.stringIter s pos) /\ l.off = 0
  | .dJ st jump tmps n params assign body d => S d /\ ∃ fn jA, w.heap[l.block]? = some (.loop ⟨st, jump, fn, jA, params, assign, body, (ρ d).block⟩) /\ kV ρ S tmps n jA /\ (codeOk assign && codeOk body) = true
  | .iX => w.heap[l.block]? = some (.deferred (some []))
abbrev wz (w : World) : World := { w with drawn := 0 }
theorem xK {B : Nat} {w w' : World} (h : Below B (wz w) w') : Below B w w' := ⟨h.os, h.tape, h.output, h.size, h.block⟩
theorem I8 {B : Nat} {w w' : World} (h : Below B w w') : Below B (wz w) w' := ⟨h.os, h.tape, h.output, h.size, h.block⟩
structure HR (B : Nat) (w0 : World) (h : Heap) (w : World) : Prop where
  aA : ∀ i o, h.get i = some o -> S i /\ kY P ρ S (ρ i) w o
  inj : ∀ i j oi oj, h.get i = some oi -> h.get j = some oj -> iB oi = true -> iB oj = true -> (ρ i).block = (ρ j).block -> i = j
  base : ∀ i o, h.get i = some o -> iB o = true -> B <= (ρ i).block
  ro : ∀ i o, h.get i = some o -> iB o = false -> (ρ i).block < B
  ids : ∀ b, S b -> b < h.next /\ b ≠ 0
  pos : 0 < h.next
  below : Below B w0 w
  drawn : w0.drawn <= w.drawn
  size : B <= w.heap.size
end
structure Frame (ρ : Ren) (h : Heap) (w w' : World) : Prop where
  os : w'.os = w.os
  tape : w'.tape = w.tape
  output : w'.output = w.output
  size : w.heap.size <= w'.heap.size
  block : ∀ k, k < w.heap.size -> (∀ i o, h.get i = some o -> iB o = true -> (ρ i).block ≠ k) -> w'.heap[k]? = w.heap[k]?
def Ext (S : Nat -> Prop) (h h' : Heap) (b : Nat) : Prop := S b \/ (h.next <= b /\ b < h'.next)
structure aO (P : Program) (B : Nat) (w0 : World) (ρ bN : Ren) (S : Nat -> Prop) (h h' : Heap) (w w' : World) : Prop where
  agree : ∀ b, S b -> bN b = ρ b
  next : h.next <= h'.next
  hr : HR P bN (Ext S h h') B w0 h' w'
  frame : Frame ρ h w w'
  low : h'.low <= h.low
  keep : ∀ i, i < h.next -> i < h'.low -> h'.get i = h.get i
  old : ∀ i o, h'.get i = some o -> i < h.next -> ∃ o', h.get i = some o' /\ iB o' = iB o
  fresh : ∀ i o, h'.get i = some o -> h.next <= i -> iB o = true /\ (w.heap.size <= (bN i).block \/ ∃ j oj, h.get j = some oj /\ iB oj = true /\ (ρ j).block = (bN i).block /\ h'.low <= j /\ j < h.next)
variable {P : Program} {B : Nat} {w0 w w' w1 w2 : World} {h h' h1 h2 : Heap}
theorem kY.mono {l : Loc} {o : aX} (hr : kY P ρ S l w o) (hs : ∀ b, S b -> S' b /\ bN b = ρ b) : kY P bN S' l w o := by
  match o, hr with
  | .row e cs true more, ⟨cur, h1, h2, h3, h4, h5, h6, h7⟩ => exact ⟨cur, h1, h2, h3, h4, h5, h6, fun i hi => (h7 i hi).mono hs⟩
  | .row e cs false more, hr => exact ⟨hr.1, fun i hi => let ⟨v, h1, h2⟩ := hr.2.1 i hi; ⟨v, h1, h2.mono hs⟩, hr.2.2⟩
  | .nG es clock, ⟨eH, h1, h2, h3⟩ => exact ⟨eH, h1, h2, fun i e e' he lS => let ⟨a, b, c, d⟩ := h3 i e e' he lS; ⟨a, b, c, d.mono hs⟩⟩
  | .iter s pos, hr => exact hr
  | .dJ st jump tmps n params assign body d, ⟨h0, fn, jA, h1, h2⟩ => exact ⟨(hs d h0).1, fn, jA, by rw [(hs d h0).2]; exact h1, h2.1.mono hs, h2.2⟩
  | .iX, hr => exact hr
theorem kY.world {l : Loc} {o : aX} (hr : kY P ρ S l w o) (hb : w'.heap[l.block]? = w.heap[l.block]?) : kY P ρ S l w' o := by
  match o, hr with
  | .row e cs true more, ⟨cur, h1, h2⟩ => exact ⟨cur, hb.trans h1, h2⟩
  | .row e cs false more, hr => exact ⟨hr.1, fun i hi => let ⟨v, h1, h2⟩ := hr.2.1 i hi; ⟨v, (World.cell?_of_block (a := l.at i) hb).trans h1, h2⟩, hr.2.2⟩
  | .nG es clock, ⟨eH, h1, h2⟩ => exact ⟨eH, hb.trans h1, h2⟩
  | .iter s pos, hr => exact ⟨hb.trans hr.1, hr.2⟩
  | .dJ st jump tmps n params assign body d, ⟨h0, fn, jA, h1, h2⟩ => exact ⟨h0, fn, jA, hb.trans h1, h2⟩
  | .iX, hr => exact hb.trans hr
theorem kY.lt {l : Loc} {o : aX} (hr : kY P ρ S l w o) (ho : iB o = true) : l.block < w.heap.size := by
  have key : ∀ x, w.heap[l.block]? = some x -> l.block < w.heap.size := fun x hx => (Array.getElem?_eq_some_iff.1 hx).1
  match o, hr, ho with
  | .row e cs true more, ⟨cur, h1, h2⟩, _ => exact key _ h1
  | .nG es clock, ⟨eH, h1, h2⟩, _ => exact key _ h1
  | .iter s pos, hr, _ => exact key _ hr.1
  | .dJ st jump tmps n params assign body d, ⟨h0, fn, jA, h1, h2⟩, _ => exact key _ h1
  | .iX, hr, _ => exact key _ hr
theorem Frame.refl (ρ : Ren) (h : Heap) (w : World) : Frame ρ h w w := ⟨rfl, rfl, rfl, Nat.le_refl _, fun _ _ _ => rfl⟩
theorem HR.congr (hr : HR P ρ S B w0 h w) (hs : ∀ b, S b ↔ S' b) : HR P ρ S' B w0 h w := by
  have : S = S' := funext fun b => propext (hs b); subst this; exact hr
theorem Ext.s7 (hh : h'.next = h.next) (b : Nat) : Ext S h h' b ↔ S b := by
  unfold Ext; constructor
  . rintro (h | h)
    . exact h
    omega
  exact .inl
theorem aO.same (hr : HR P ρ S B w0 h w) : aO P B w0 ρ ρ S h h w w where
  agree := fun _ _ => rfl
  next := Nat.le_refl _
  hr := hr.congr fun b => (Ext.s7 rfl b).symm
  frame := Frame.refl _ _ _
  low := Nat.le_refl _
  keep := fun _ _ _ => rfl
  old := fun i o ho _ => ⟨o, ho, rfl⟩
  fresh := fun i o ho hi => by
    have := (hr.ids i (hr.aA i o ho).1).1; omega
theorem aO.trans (m : aO P B w0 ρ bN S h h1 w w1) {ajY : Ren} (k : aO P B w0 bN ajY (Ext S h h1) h1 h2 w1 w2) : aO P B w0 ρ ajY S h h2 w w2 where
  agree := fun b hb => (k.agree b (.inl hb)).trans (m.agree b hb)
  next := Nat.le_trans m.next k.next
  hr := k.hr.congr fun b => by
    have n1 := m.next; have n2 := k.next; unfold Ext; constructor
    . rintro ((h | h) | h)
      . exact .inl h
      . exact .inr (by omega)
      exact .inr (by omega)
    rintro (h | h)
    . exact .inl (.inl h)
    by_cases hb : b < h1.next
    . exact .inl (.inr (by omega))
    exact .inr (by omega)
  frame := by
    refine ⟨k.frame.os.trans m.frame.os, k.frame.tape.trans m.frame.tape, k.frame.output.trans m.frame.output, Nat.le_trans m.frame.size k.frame.size, fun b hb mR => ?_⟩; rw [k.frame.block b (Nat.lt_of_lt_of_le hb m.frame.size) ?_, m.frame.block b hb mR]; intro i o hi ho he; by_cases b7 : i < h.next
    . obtain ⟨o', qU, pU⟩ := m.old i o hi b7
      have hS : S i := by
        have := (m.hr.aA i o hi).1; rcases this with h | h
        . exact h
        omega
      rw [m.agree i hS] at he; exact mR i o' qU (pU.trans ho) he
    obtain ⟨_, hf⟩ := m.fresh i o hi (by omega); rcases hf with hf | ⟨j, oj, hj, lT, DN, _⟩
    . omega
    exact mR j oj hj lT (DN.trans he)
  low := Nat.le_trans k.low m.low
  keep := fun i hi hl => by
    have := k.low; exact (k.keep i (Nat.lt_of_lt_of_le hi m.next) hl).trans (m.keep i hi (by omega))
  old := fun i o ho hi => by
    obtain ⟨o1, h1, h2⟩ := k.old i o ho (Nat.lt_of_lt_of_le hi m.next); obtain ⟨o2, h3, h4⟩ := m.old i o1 h1 hi; exact ⟨o2, h3, h4.trans h2⟩
  fresh := fun i o ho hi => by
    by_cases b7 : i < h1.next
    . obtain ⟨o1, h3, h4⟩ := k.old i o ho b7; obtain ⟨h5, hf⟩ := m.fresh i o1 h3 hi; have hE : Ext S h h1 i := (m.hr.aA i o1 h3).1; refine ⟨h4 ▸ h5, ?_⟩; rw [k.agree i hE]; rcases hf with hf | ⟨j, oj, hj, lT, DN, hlj, hnj⟩
      . exact .inl hf
      exact .inr ⟨j, oj, hj, lT, DN, Nat.le_trans k.low hlj, hnj⟩
    obtain ⟨h5, hf⟩ := k.fresh i o ho (by omega); refine ⟨h5, ?_⟩; rcases hf with hf | ⟨j, oj, hj, lT, DN, hlj, hnj⟩
    . exact .inl (Nat.le_trans m.frame.size hf)
    by_cases R2 : j < h.next
    . obtain ⟨o2, h6, h7⟩ := m.old j oj hj R2
      have hS : S j := by
        have := (m.hr.aA j oj hj).1; rcases this with h | h
        . exact h
        omega
      rw [m.agree j hS] at DN; exact .inr ⟨j, o2, h6, h7.trans lT, DN, hlj, R2⟩
    obtain ⟨_, US⟩ := m.fresh j oj hj (by omega); rcases US with US | ⟨j', oj', OE, acP, acQ, ajZ, anI⟩
    . exact .inl (by omega)
    exact .inr ⟨j', oj', OE, acP, acQ.trans DN, by have := k.low; omega, anI⟩
end Go.Fs
namespace Go.Fs
open Go.RowKit (Below)
variable {P : Program} {ρ bN : Ren} {S S' : Nat -> Prop} {B : Nat} {w0 w w' w1 w2 : World} {h h' h1 h2 : Heap}
def Ren.put (ρ : Ren) (i : Nat) (l : Loc) : Ren := fun b => if b = i then l else ρ b
theorem Ren.fA {i : Nat} {l : Loc} : ρ.put i l i = l := if_pos rfl
theorem Ren.eT {i b : Nat} {l : Loc} (hb : b ≠ i) : ρ.put i l b = ρ b := if_neg hb
theorem HR.acR (hr : HR P ρ S B w0 h w) : ¬ S h.next := fun hs => by have := (hr.ids _ hs).1; omega
theorem HR.aaE (hr : HR P ρ S B w0 h w) (l : Loc) : ∀ b, S b -> Ext S h (h.push .iX) b /\ ρ.put h.next l b = ρ b := fun b hb =>
  ⟨.inl hb, Ren.eT fun e => by subst e; exact hr.acR hb⟩
theorem Ext.lP (o : aX) : Ext S h (h.push o) h.next := .inr ⟨Nat.le_refl _, Nat.lt_succ_self _⟩
theorem HR.qM (hr : HR P ρ S B w0 h w) (l : Loc) (o : aX) : ∀ b, S b -> Ext S h (h.push o) b /\ ρ.put h.next l b = ρ b := hr.aaE l
theorem aO.push (hr : HR P ρ S B w0 h w) (o : aX) (x : Obj) (l : Loc) (hl : l.block = w.heap.size) (ho : iB o = true)
    (kZ : kY P (ρ.put h.next l) (Ext S h (h.push o)) l (w.alloc x) o) : aO P B w0 ρ (ρ.put h.next l) S h (h.push o) w (w.alloc x) where
  agree := fun b hb => (hr.qM l o b hb).2
  next := Nat.le_succ _
  hr := {
    aA := fun i o' hi => by
      rw [Heap.bE] at hi; split at hi
      . rename_i e; injection hi with hi; subst hi e; exact ⟨Ext.lP o, by rw [Ren.fA]; exact kZ⟩
      rename_i e; obtain ⟨h1, h2⟩ := hr.aA i o' hi; refine ⟨.inl h1, ?_⟩; rw [Ren.eT e]; refine (h2.mono (hr.qM l o)).world ?_; by_cases jT : iB o' = true
      . exact Below.heap_alloc w x _ (h2.lt jT)
      have := hr.ro i o' hi (by simpa using jT); have := hr.size; exact Below.heap_alloc w x _ (by omega)
    inj := fun i j oi oj hi hj uC lT he => by
      rw [Heap.bE] at hi hj; split at hi <;> split at hj
      . rename_i a b; rw [a, b]
      . rename_i a b; subst a; rw [Ren.fA, Ren.eT b, hl] at he; have := (hr.aA j oj hj).2.lt lT; omega
      . rename_i a b; subst b; rw [Ren.fA, Ren.eT a, hl] at he; have := (hr.aA i oi hi).2.lt uC; omega
      rename_i a b; rw [Ren.eT a, Ren.eT b] at he; exact hr.inj i j oi oj hi hj uC lT he
    base := fun i o' hi pU => by
      rw [Heap.bE] at hi; split at hi
      . rename_i e; subst e; rw [Ren.fA, hl]; exact hr.size
      rename_i e; rw [Ren.eT e]; exact hr.base i o' hi pU
    ro := fun i o' hi pU => by
      rw [Heap.bE] at hi; split at hi
      . injection hi with hi; subst hi; rw [ho] at pU; cases pU
      rename_i e; rw [Ren.eT e]; exact hr.ro i o' hi pU
    ids := fun b hb => by
      rcases hb with hb | hb
      . have := hr.ids b hb; exact ⟨Nat.lt_succ_of_lt this.1, this.2⟩
      have := hr.pos; exact ⟨hb.2, by omega⟩
    pos := Nat.succ_pos _
    below := hr.below.alloc hr.size x
    drawn := hr.drawn
    size := Nat.le_trans hr.size (by simp) }
  frame := ⟨rfl, rfl, rfl, by simp, fun k hk _ => Below.heap_alloc w x k hk⟩
  low := Nat.le_refl _
  keep := fun i hi _ => by rw [Heap.bE, if_neg (by omega)]
  old := fun i o' hi b7 => ⟨o', by rw [Heap.bE, if_neg (by omega)] at hi; exact hi, rfl⟩
  fresh := fun i o' hi I9 => by
    rw [Heap.bE] at hi; split at hi
    . rename_i e; injection hi with hi; subst hi e; exact ⟨ho, .inl (by rw [Ren.fA, hl]; exact Nat.le_refl _)⟩
    have := (hr.ids i (hr.aA i o' hi).1).1; omega
theorem aO.set (hr : HR P ρ S B w0 h w) {i : Nat} {o o' : aX} (hi : h.get i = some o) (ho : iB o = true) (pU : iB o' = true)
    (H3 : w'.os = w.os) (ht : w'.tape = w.tape) (xL : w'.output = w.output) (cX : w'.heap.size = w.heap.size) (rM : ∀ k, k ≠ (ρ i).block -> w'.heap[k]? = w.heap[k]?)
    (kZ : kY P ρ S (ρ i) w' o') (hd : w.drawn <= w'.drawn := by first | exact Nat.le_refl _ | exact Nat.le_succ _) : aO P B w0 ρ ρ S h (h.set i o') w w' where
  agree := fun _ _ => rfl
  next := Nat.le_refl _
  hr := HR.congr (S := S) {
    aA := fun j oj hj => by
      rw [Heap.dB hi] at hj; split at hj
      . rename_i e; injection hj with hj; subst hj e; exact ⟨(hr.aA j o hi).1, kZ⟩
      rename_i e; obtain ⟨h1, h2⟩ := hr.aA j oj hj; refine ⟨h1, h2.world (rM _ fun he => ?_)⟩; by_cases jT : iB oj = true
      . exact e (hr.inj j i oj o hj hi jT ho he)
      have := hr.ro j oj hj (by simpa using jT); have := hr.base i o hi ho; omega
    inj := fun a b oa ob ha hb hoa R3 he => by
      rw [Heap.dB hi] at ha hb; split at ha <;> split at hb
      . rename_i e1 e2; rw [e1, e2]
      . rename_i e1 e2; subst e1; exact hr.inj _ _ o ob hi hb ho R3 he
      . rename_i e1 e2; subst e2; exact hr.inj _ _ oa o ha hi hoa ho he
      exact hr.inj _ _ oa ob ha hb hoa R3 he
    base := fun j oj hj lT => by
      rw [Heap.dB hi] at hj; split at hj
      . rename_i e; subst e; exact hr.base _ o hi ho
      exact hr.base j oj hj lT
    ro := fun j oj hj lT => by
      rw [Heap.dB hi] at hj; split at hj
      . injection hj with hj; subst hj; rw [pU] at lT; cases lT
      exact hr.ro j oj hj lT
    ids := hr.ids
    pos := hr.pos
    drawn := Nat.le_trans hr.drawn hd
    below := ⟨H3.trans hr.below.os, ht.trans hr.below.tape, xL.trans hr.below.output, by rw [cX]; exact hr.below.size, fun k hk => by
      rw [rM k (fun e => by have := hr.base i o hi ho; omega)]; exact hr.below.block k hk⟩
    size := by rw [cX]; exact hr.size } fun b => (Ext.s7 rfl b).symm
  frame := ⟨H3, ht, xL, by rw [cX]; exact Nat.le_refl _, fun k _ mR => rM k (Ne.symm (mR i o hi ho))⟩
  low := Nat.min_le_left _ _
  keep := fun j _ hl => by
    have R4 : min h.low i <= i := Nat.min_le_right _ _; have b7 : j < min h.low i := hl; rw [Heap.dB hi, if_neg (by omega)]
  old := fun j oj hj _ => by
    rw [Heap.dB hi] at hj; split at hj
    . rename_i e; injection hj with hj; subst hj e; exact ⟨o, hi, ho.trans pU.symm⟩
    exact ⟨oj, hj, rfl⟩
  fresh := fun j oj hj I9 => by
    rw [Heap.dB hi] at hj; split at hj
    . rename_i e; subst e; have := (hr.ids j (hr.aA j o hi).1).1; omega
    have := (hr.ids j (hr.aA j oj hj).1).1; omega
theorem aO.gone (hr : HR P ρ S B w0 h w) {i : Nat} {o : aX} (hi : h.get i = some o) (ho : iB o = true)
    (H3 : w'.os = w.os) (ht : w'.tape = w.tape) (xL : w'.output = w.output) (cX : w'.heap.size = w.heap.size) (rM : ∀ k, k ≠ (ρ i).block -> w'.heap[k]? = w.heap[k]?) (hd : w.drawn <= w'.drawn := by first | exact Nat.le_refl _ | exact Nat.le_succ _) : aO P B w0 ρ ρ S h (h.drop i) w w' where
  agree := fun _ _ => rfl
  next := Nat.le_refl _
  hr := HR.congr (S := S) {
    aA := fun j oj hj => by
      rw [Heap.cM] at hj; split at hj
      . cases hj
      rename_i e; obtain ⟨h1, h2⟩ := hr.aA j oj hj; refine ⟨h1, h2.world (rM _ fun he => ?_)⟩; by_cases jT : iB oj = true
      . exact e (hr.inj j i oj o hj hi jT ho he)
      have := hr.ro j oj hj (by simpa using jT); have := hr.base i o hi ho; omega
    inj := fun a b oa ob ha hb hoa R3 he => by
      rw [Heap.cM] at ha hb; split at ha
      . cases ha
      split at hb
      . cases hb
      exact hr.inj _ _ oa ob ha hb hoa R3 he
    base := fun j oj hj lT => by
      rw [Heap.cM] at hj; split at hj
      . cases hj
      exact hr.base j oj hj lT
    ro := fun j oj hj lT => by
      rw [Heap.cM] at hj; split at hj
      . cases hj
      exact hr.ro j oj hj lT
    ids := hr.ids
    pos := hr.pos
    drawn := Nat.le_trans hr.drawn hd
    below := ⟨H3.trans hr.below.os, ht.trans hr.below.tape, xL.trans hr.below.output, by rw [cX]; exact hr.below.size, fun k hk => by
      rw [rM k (fun e => by have := hr.base i o hi ho; omega)]; exact hr.below.block k hk⟩
    size := by rw [cX]; exact hr.size } fun b => (Ext.s7 rfl b).symm
  frame := ⟨H3, ht, xL, by rw [cX]; exact Nat.le_refl _, fun k _ mR => rM k (Ne.symm (mR i o hi ho))⟩
  low := Nat.min_le_left _ _
  keep := fun j _ hl => by
    have R4 : min h.low i <= i := Nat.min_le_right _ _; have b7 : j < min h.low i := hl; rw [Heap.cM, if_neg (by omega)]
  old := fun j oj hj _ => by
    rw [Heap.cM] at hj; split at hj
    . cases hj
    exact ⟨oj, hj, rfl⟩
  fresh := fun j oj hj I9 => by
    rw [Heap.cM] at hj; split at hj
    . cases hj
    have := (hr.ids j (hr.aA j oj hj).1).1; omega
theorem aO.replace (hr : HR P ρ S B w0 h w) {b : Nat} {o o' : aX} (hi : h.get b = some o) (ho : iB o = true) (pU : iB o' = true) (l : Loc)
    (hl : l.block = (ρ b).block \/ w.heap.size <= l.block) (hB : B <= l.block)
    (H3 : w'.os = w.os) (ht : w'.tape = w.tape) (xL : w'.output = w.output) (cX : w.heap.size <= w'.heap.size) (rM : ∀ k, k < w.heap.size -> k ≠ (ρ b).block -> w'.heap[k]? = w.heap[k]?)
    (kZ : kY P (ρ.put h.next l) (Ext S h ((h.drop b).push o')) l w' o') (hd : w.drawn <= w'.drawn := by first | exact Nat.le_refl _ | exact Nat.le_succ _) : aO P B w0 ρ (ρ.put h.next l) S h ((h.drop b).push o') w w' where
  agree := fun x hb => (hr.qM l o x hb).2
  next := Nat.le_succ _
  hr := {
    aA := fun i oi mD => by
      rw [Heap.bE] at mD; split at mD
      . rename_i e; have e' : i = h.next := e; injection mD with mD; subst mD; subst e'; exact ⟨Ext.lP o', by rw [Ren.fA]; exact kZ⟩
      rename_i e; have e' : i ≠ h.next := e; rw [Heap.cM] at mD; split at mD
      . cases mD
      rename_i cL; obtain ⟨h1, h2⟩ := hr.aA i oi mD; refine ⟨.inl h1, ?_⟩; rw [Ren.eT e']; refine (h2.mono (hr.qM l o')).world ?_; by_cases jT : iB oi = true
      . exact rM _ (h2.lt jT) fun he => cL (hr.inj i b oi o mD hi jT ho he)
      have := hr.ro i oi mD (by simpa using jT); have := hr.size; have := hr.base b o hi ho; exact rM _ (by omega) (by omega)
    inj := fun i j oi oj mD L0 uC lT he => by
      rw [Heap.bE] at mD L0
      have key : ∀ k ok, (h.drop b).get k = some ok -> iB ok = true -> (ρ k).block = l.block -> False := fun k ok hk bD UT => by
        rw [Heap.cM] at hk; split at hk
        . cases hk
        rename_i cL; rcases hl with hl | hl
        . exact cL (hr.inj k b ok o hk hi bD ho (UT.trans hl))
        have := (hr.aA k ok hk).2.lt bD; omega
      split at mD <;> split at L0
      . rename_i a c; rw [a, c]
      . rename_i a c; have a' : i = h.next := a; have c' : j ≠ h.next := c; rw [a', Ren.fA, Ren.eT c'] at he; exact (key j oj L0 lT he.symm).elim
      . rename_i a c; have a' : i ≠ h.next := a; have c' : j = h.next := c; rw [c', Ren.fA, Ren.eT a'] at he; exact (key i oi mD uC he).elim
      rename_i a c; have a' : i ≠ h.next := a; have c' : j ≠ h.next := c; rw [Ren.eT a', Ren.eT c'] at he; rw [Heap.cM] at mD L0; split at mD
      . cases mD
      split at L0
      . cases L0
      exact hr.inj i j oi oj mD L0 uC lT he
    base := fun i oi mD uC => by
      rw [Heap.bE] at mD; split at mD
      . rename_i e; have e' : i = h.next := e; rw [e', Ren.fA]; exact hB
      rename_i e; have e' : i ≠ h.next := e; rw [Heap.cM] at mD; split at mD
      . cases mD
      rw [Ren.eT e']; exact hr.base i oi mD uC
    ro := fun i oi mD uC => by
      rw [Heap.bE] at mD; split at mD
      . injection mD with mD; subst mD; rw [pU] at uC; cases uC
      rename_i e; have e' : i ≠ h.next := e; rw [Heap.cM] at mD; split at mD
      . cases mD
      rw [Ren.eT e']; exact hr.ro i oi mD uC
    ids := fun x hx => by
      rcases hx with hx | hx
      . have := hr.ids x hx; exact ⟨Nat.lt_succ_of_lt this.1, this.2⟩
      have := hr.pos; exact ⟨hx.2, by omega⟩
    pos := Nat.succ_pos _
    drawn := Nat.le_trans hr.drawn hd
    below := ⟨H3.trans hr.below.os, ht.trans hr.below.tape, xL.trans hr.below.output, Nat.le_trans hr.below.size cX, fun k hk => by
      have h1 := hr.base b o hi ho; have h2 := hr.size
      rw [rM k (by omega) (by omega)]; exact hr.below.block k hk⟩
    size := Nat.le_trans hr.size cX }
  frame := ⟨H3, ht, xL, cX, fun k hk mR => rM k hk (Ne.symm (mR b o hi ho))⟩
  low := Nat.min_le_left _ _
  keep := fun j hj dK => by
    have R4 : min h.low b <= b := Nat.min_le_right _ _; have b7 : j < min h.low b := dK; rw [Heap.bE, if_neg (show j ≠ (h.drop b).next from Nat.ne_of_lt hj), Heap.cM, if_neg (by omega)]
  old := fun j oj hj b7 => by
    rw [Heap.bE, if_neg (show j ≠ (h.drop b).next from Nat.ne_of_lt b7), Heap.cM] at hj; split at hj
    . cases hj
    exact ⟨oj, hj, rfl⟩
  fresh := fun j oj hj I9 => by
    rw [Heap.bE] at hj; split at hj
    . rename_i e; have e' : j = h.next := e; injection hj with hj; subst hj; refine ⟨pU, ?_⟩; rw [e', Ren.fA]; rcases hl with hl | hl
      . exact .inr ⟨b, o, hi, ho, hl.symm, Nat.min_le_right _ _, (hr.ids b (hr.aA b o hi).1).1⟩
      exact .inl hl
    rw [Heap.cM] at hj; split at hj
    . cases hj
    have := (hr.ids j (hr.aA j oj hj).1).1; omega
theorem HR.drew (hr : HR P ρ S B w0 h w) (n : Nat) (hn : w.drawn <= n := by first | exact Nat.le_refl _ | exact Nat.le_succ _) : HR P ρ S B w0 h { w with drawn := n } where
  aA := fun i o hi => ⟨(hr.aA i o hi).1, (hr.aA i o hi).2.world rfl⟩
  inj := hr.inj
  base := hr.base
  ro := hr.ro
  ids := hr.ids
  pos := hr.pos
  below := ⟨hr.below.os, hr.below.tape, hr.below.output, hr.below.size, hr.below.block⟩
  drawn := Nat.le_trans hr.drawn hn
  size := hr.size
theorem aO.vT (hr : HR P ρ S B w0 h w) (hb : Below w.heap.size w w') (hd : w0.drawn <= w'.drawn) : aO P B w0 ρ ρ S h h w w' where
  agree := fun _ _ => rfl
  next := Nat.le_refl _
  hr := HR.congr (S := S) {
    aA := fun i o hi => by
      obtain ⟨h1, h2⟩ := hr.aA i o hi; refine ⟨h1, h2.world (hb.block _ ?_)⟩; by_cases jT : iB o = true
      . exact h2.lt jT
      have := hr.ro i o hi (by simpa using jT); have := hr.size; omega
    inj := hr.inj
    base := hr.base
    ro := hr.ro
    ids := hr.ids
    pos := hr.pos
    below := hr.below.trans (hb.mono hr.size)
    drawn := hd
    size := Nat.le_trans hr.size hb.size } fun b => (Ext.s7 rfl b).symm
  frame := ⟨hb.os, hb.tape, hb.output, hb.size, fun k hk _ => hb.block k hk⟩
  low := Nat.le_refl _
  keep := fun _ _ _ => rfl
  old := fun i o ho _ => ⟨o, ho, rfl⟩
  fresh := fun i o ho hi => by
    have := (hr.ids i (hr.aA i o ho).1).1; omega
end Go.Fs
namespace Go.Fs
open Go.RowKit (Below)
variable {P : Program} {ρ bN : Ren} {S S' : Nat -> Prop} {B : Nat} {w0 w w' w1 w2 : World} {h h' h1 h2 : Heap}
theorem bU {α : Type} {s : Sem α} {a : α} (h : aC P s = some a) (w : World) : s.run P w = .ok a w := by
  induction s generalizing w with
  | pure x => simp only [aC, Option.some.injEq] at h; subst h; rfl
  | program k ih => simp only [aC] at h; simp only [Sem.run]; exact ih _ h w
  | mark m k ih => simp only [aC] at h; simp only [Sem.run]; exact ih h w
  | _ => simp [aC] at h
theorem aE {α β : Type} (s : Sem α) (f : α -> Sem β) : aC P (s >>= f) = (aC P s).bind fun a => aC P (f a) := by
  show aC P (s.bind f) = _
  induction s with
  | pure x => simp [Sem.bind, aC]
  | program k ih => simp only [Sem.bind, aC]; exact ih _
  | mark m k ih => simp only [Sem.bind, aC]; exact ih
  | _ => simp [Sem.bind, aC]
theorem aQ {α : Type} (a : α) : aC P (pure a : Sem α) = some a := rfl
def oV (P : Program) (B : Nat) (w0 : World) (ρ : Ren) (S : Nat -> Prop) (h : Heap) (w : World) (v : Value) (h' : Heap) (r : Result Value) : Prop :=
  ∃ bN w' v', r = .ok v' w' /\ aO P B w0 ρ bN S h h' w w' /\ VR bN (Ext S h h') v v'
theorem oV.pure (hr : HR P ρ S B w0 h w) {v v' : Value} (hv : VR ρ S v v') : oV P B w0 ρ S h w v h (.ok v' w) :=
  ⟨ρ, w, v', rfl, aO.same hr, hv.mono fun _ hb => ⟨.inl hb, rfl⟩⟩
theorem VR.oW {b o : Nat} {v' : Value} (hv : VR ρ S (.pointer (some ⟨b, o, none⟩)) v') : S b /\ v' = .pointer (some ((ρ b).at o)) := by
  cases hv with
  | lit h => simp [eN] at h
  | ptr b o hs => exact ⟨hs, rfl⟩
theorem VR.gF {b o n m : Nat} {v' : Value} (hv : VR ρ S (.slice (some ⟨b, o, none⟩) n m) v') :
    ∃ A c, v' = .slice (some A) n c /\ n <= c /\ (m = 1 -> c = n) /\ (b = 0 -> n = 0) /\ (b ≠ 0 -> S b /\ A = (ρ b).at o /\ (m = 0 -> o + c * (ρ b).AQ = (ρ b).total)) := by
  cases hv with
  | lit h => simp [eN] at h
  | slice b o n m c A hn hm h0 hb => exact ⟨A, c, rfl, hn, hm, h0, hb⟩
theorem VR.iZ {v' : Value} (hv : VR ρ S (.slice none 0 0) v') : v' = .slice none 0 0 := hv.gE rfl
theorem VR.qV {k : IntKind} {n : Int} {v' : Value} (hv : VR ρ S (.int k n) v') : v' = .int k n := hv.gE rfl
theorem VR.uR {b : Bool} {v' : Value} (hv : VR ρ S (.bool b) v') : v' = .bool b := hv.gE rfl
theorem VR.xM {b : Nat} {v' : Value} (hv : VR ρ S (.map (some b)) v') : S b /\ v' = .map (some (ρ b).block) := by
  cases hv with
  | lit h => simp [eN] at h
  | map b hs => exact ⟨hs, rfl⟩
theorem VR.IA {cs : Array Value} {v' : Value} (hv : VR ρ S (.agg cs) v') : ∃ cs', v' = .agg cs' /\ LR ρ S cs.toList cs'.toList := by
  cases hv with
  | lit h => simp [eN] at h
  | agg cs cs' hl hc => exact ⟨cs', rfl, by simpa using hl, by simpa using hc⟩
theorem VR.IB {cs : Array Value} {v' : Value} (hv : VR ρ S (.tuple cs) v') (hj : Value.tuple cs ≠ Fs.hD) : ∃ cs', v' = .tuple cs' /\ LR ρ S cs.toList cs'.toList := by
  cases hv with
  | lit h => simp [eN] at h
  | hD => exact absurd rfl hj
  | tuple cs cs' hl hc => exact ⟨cs', rfl, by simpa using hl, by simpa using hc⟩
theorem kY.cell {l : Loc} {e : TypeId} {cs : List Value} {own more : Bool} (ho : kY P ρ S l w (.row e cs own more)) {i : Nat} (hi : i < cs.length) :
    ∃ v, w.cell? (l.at i) = some v /\ VR ρ S (cs.getD i undef) v := by
  cases own with
  | false => exact ho.2.1 i hi
  | true =>
    obtain ⟨cur, h1, h2, h3, h4, h5, h6, h7⟩ := ho
    have b7 : i < cur.length := by omega
    refine ⟨cur.getD i undef, ?_, h7 i hi⟩; simp [World.cell?, Loc.at, h1, h2, List.getD, b7]
theorem kY.AQ {l : Loc} {e : TypeId} {cs : List Value} {own more : Bool} (ho : kY P ρ S l w (.row e cs own more)) : l.AQ = P.cellsOf e := by
  cases own with
  | false => exact ho.1
  | true => obtain ⟨cur, h1, h2, h3, h4, _⟩ := ho; exact h4
theorem UU (t : TypeId) (d : TypeDesc) (hd : P.underlying t = some d) (w : World) : (isAgg t).run P w = .ok (vK d) w := by
  unfold isAgg; simp only [Sem.run_bind, run_underlying hd, Result.andThen_ok]; cases d <;> rfl
theorem eI (t : TypeId) (i : TypeInfo) (hi : P.info? t = some i) (w : World) : (sizeOf t).run P w = .ok i.size w := by
  simp [sizeOf, typeInfo, hi]
theorem qN (t : TypeId) (i : TypeInfo) (hi : P.info? t = some i) (w : World) : (typeInfo t).run P w = .ok i w := by
  simp [typeInfo, hi]
theorem gQ (t : TypeId) (i : TypeInfo) (z : Value) (hi : P.info? t = some i) (hz : i.zero = some z) (w : World) : (zeroValue t).run P w = .ok z w := by
  simp [zeroValue, typeInfo, hi, hz]
theorem qO {l : Loc} {cs : List Value} {o n : Nat} (hc : ∀ i, i < cs.length -> ∃ v, w.cell? (l.at i) = some v /\ VR ρ S (cs.getD i undef) v) (hn : o + n <= cs.length) :
    ∃ vs : List Value, (loadCells (l.at o) n).run P w = .ok vs.toArray w /\ LR ρ S ((cs.drop o).take n) vs := by
  refine ⟨(List.range n).map fun j => (w.cell? (l.at (o + j))).getD undef, ?_, ?_⟩
  . refine run_loadCells w (l.at o) n _ fun j hj => ?_; obtain ⟨v, h1, _⟩ := hc (o + j) (by omega); rw [Loc.tP, h1]; rfl
  refine LR.of_get? (by simp; omega) fun i v v' hv lF => ?_; rw [List.getElem?_take] at hv; split at hv
  . rename_i hi; rw [List.getElem?_drop] at hv; obtain ⟨u, h1, h2⟩ := hc (o + i) (by omega); simp [hi, h1] at lF; subst lF
    have : cs.getD (o + i) undef = v := by simp [List.getD, hv]
    rwa [this] at h2
  cases hv
theorem IC {t : TypeId} {a a' v : Value} (hr : HR P ρ S B w0 h w) (hf : eO P t a h = some v) (ha : VR ρ S a a') :
    ∃ v', (Instr.loadAt t a').run P w = .ok v' w /\ VR ρ S v v' := by
  unfold eO at hf; split at hf
  . rename_i b o; obtain ⟨hs, rfl⟩ := ha.oW; split at hf
    . rename_i e cs own more d i hg hd hi; have kZ := (hr.aA b _ hg).2; have nY : ∀ i, i < cs.length -> ∃ v, w.cell? ((ρ b).at i) = some v /\ VR ρ S (cs.getD i undef) v := fun i hi => kZ.cell hi; simp only [Instr.loadAt, Instr.sureAddr, loadVar, Sem.run_bind, Sem.run_pure, Result.andThen_ok, UU t d hd]
      cases ak0 : vK d with
      | true =>
        rw [ak0] at hf; simp only [if_true] at hf ⊢; split at hf
        . rename_i hle; simp only [Option.some.injEq] at hf; subst hf; obtain ⟨vs, h1, h2⟩ := qO (P := P) nY hle; simp only [Sem.run_bind, eI t i hi, Result.andThen_ok, h1, Sem.run_pure]; exact ⟨_, rfl, VR.R1 (by simpa using h2)⟩
        cases hf
      | false =>
        rw [ak0] at hf; simp only [Bool.false_eq_true, if_false] at hf ⊢; obtain ⟨b7, rfl⟩ := List.getElem?_eq_some_iff.1 hf; obtain ⟨u, h1, h2⟩ := nY o b7; rw [run_load, h1]; exact ⟨u, rfl, by simpa [List.getD, b7] using h2⟩
    cases hf
  cases hf
theorem FT (v : Value) : Value.oneCell' v = aT v := by cases v <;> rfl
theorem pV (cs : List Value) (o : Nat) (vs : List Value) (ho : o + vs.length <= cs.length) (i : Nat) :
    (cs.take o ++ vs ++ cs.drop (o + vs.length))[i]? = if i < o then cs[i]? else if i < o + vs.length then vs[i - o]? else cs[i]? := by
  rw [List.append_assoc, List.getElem?_append, List.length_take, show min o cs.length = o by omega]; by_cases h1 : i < o
  . rw [if_pos h1, if_pos h1, List.getElem?_take, if_pos h1]
  rw [if_neg h1, if_neg h1, List.getElem?_append]; by_cases h2 : i < o + vs.length
  . rw [if_pos (by omega), if_pos h2]
  rw [if_neg (by omega), if_neg h2, List.getElem?_drop]; congr 1; omega
theorem sJ (cs : List Value) (o : Nat) (vs : List Value) (ho : o + vs.length <= cs.length) : (cs.take o ++ vs ++ cs.drop (o + vs.length)).length = cs.length := by
  simp; omega
theorem LR.UW {cs cur vs gZ : List Value} (h : ∀ i, i < cs.length -> VR ρ S (cs.getD i undef) (cur.getD i undef)) (hl : cs.length <= cur.length) (hv : LR ρ S vs gZ) {o : Nat} (ho : o + vs.length <= cs.length) :
    ∀ i, i < (Fs.eX cs o vs).length -> VR ρ S ((Fs.eX cs o vs).getD i undef) ((cur.take o ++ gZ ++ cur.drop (o + gZ.length)).getD i undef) := by
  intro i hi; have hll := hv.1; unfold Fs.eX at hi ⊢; rw [sJ cs o vs ho] at hi; rw [List.getD_eq_getElem?_getD, List.getD_eq_getElem?_getD, pV cs o vs ho, pV cur o gZ (by omega), <- hll]; have h0 := h i hi; rw [List.getD_eq_getElem?_getD, List.getD_eq_getElem?_getD] at h0; by_cases h1 : i < o
  . rw [if_pos h1, if_pos h1]; exact h0
  rw [if_neg h1, if_neg h1]; by_cases h2 : i < o + vs.length
  . rw [if_pos h2, if_pos h2]; have := hv.2 (i - o) (by omega)
    rwa [List.getD_eq_getElem?_getD, List.getD_eq_getElem?_getD] at this
  rw [if_neg h2, if_neg h2]; exact h0
theorem vU {l : Loc} {c : Array Value} {e : TypeId} {j : Nat} (h : w.heap[l.block]? = some (.cells c e l.fz)) (hj : j < l.total) : w.frozen? ⟨l.block, j, none⟩ = false := by
  unfold World.frozen?; rw [h]; have := l.hfz; by_cases h1 : l.fz.1 <= j
  . have h2 : ¬ j < l.fz.2 := by omega
    simp [h2]
  simp [h1]
theorem nZ (P : Program) (g o : Nat) (t : TypeId) (fz : Nat × Nat) : ∀ (vs : List Value) (i : Nat) (cur : Array Value) (w : World), w.heap[g]? = some (.cells cur t fz) -> (fz.1 = fz.2 \/ cur.size <= fz.1) -> o + i + vs.length <= cur.size -> (∀ v ∈ vs, v.oneCell' = true) ->
    (storeCells ⟨g, o, none⟩ vs i).run P w = .ok () (w.setRow g (cur.toList.take (o + i) ++ vs ++ cur.toList.drop (o + i + vs.length)).toArray)
  | [], i, cur, w, hg, _, _, _ => by
    simp only [storeCells, List.append_nil, List.length_nil, Nat.add_zero, List.take_append_drop, Array.toArray_toList]; rw [setRow_self w g cur t fz hg]
    rfl
  | v :: rest, i, cur, w, hg, hz, hl, h1 => by
    have hi : o + i < cur.size := by simp at hl; omega
    have acS : (⟨g, o, none⟩ : Addr).add i = ⟨g, o + i, none⟩ := by unfold Addr.add; split <;> simp_all
    have nY : w.cell? ⟨g, o + i, none⟩ = some cur[o + i] := by simp [World.cell?, hg, hi]
    have anJ : w.frozen? ⟨g, o + i, none⟩ = false := vU (l := ⟨g, 0, cur.size, 0, fz, hz⟩) hg hi
    have cC : (store ((⟨g, o, none⟩ : Addr).add i) v).run P w = .ok () (w.setRow g (cur.setIfInBounds (o + i) v)) := by
      rw [acS, run_store P w _ v _ (h1 v (by simp)), nY]; simp [anJ, setCell_eq_setRow w g (o + i) cur t fz v hg]
    have ih := nZ P g o t fz rest (i + 1) (cur.setIfInBounds (o + i) v) (w.setRow g (cur.setIfInBounds (o + i) v)) (setRow_heap w g cur _ t _ hg) (by simpa using hz) (by simp at hl ⊢; omega) (fun x hx => h1 x (by simp [hx])); simp only [storeCells, Sem.run_bind, cC, Result.andThen_ok, ih, setRow_setRow]; congr 3; have e := list_seg_step cur.toList (o + i) v rest (by simp at hl ⊢; omega); simpa [Array.toList_setIfInBounds, Nat.add_assoc] using e
theorem oX {b o : Nat} {e : TypeId} {cs vs gZ : List Value} {more : Bool} (hr : HR P ρ S B w0 h w) (hg : h.get b = some (.row e cs true more)) (hv : LR ρ S vs gZ)
    (mG : vs.all aT = true) (hle : o + vs.length <= cs.length) :
    ∃ w', (storeCells ((ρ b).at o) gZ).run P w = .ok () w' /\ aO P B w0 ρ ρ S h (h.set b (.row e (eX cs o vs) true more)) w w' := by
  obtain ⟨_, cur, h1, h2, h3, h4, h5, h6, h7⟩ := hr.aA b _ hg
  have rE : (ρ b).at o = ⟨(ρ b).block, o, none⟩ := by simp [Loc.at, h2]
  have eZ := nZ P (ρ b).block o e (ρ b).fz gZ 0 cur.toArray w h1 (by have := (ρ b).hfz; simpa [h3] using this) (by have := hv.1; simp; omega) (fun v lF => by rw [FT]; exact hv.aT mG v lF); rw [rE]; simp only [Nat.add_zero] at eZ; refine ⟨_, eZ, aO.set hr hg rfl rfl rfl rfl rfl (by simp [World.setRow]) (fun k hk => setRow_other w _ k _ hk) ?_⟩; refine ⟨cur.take o ++ gZ ++ cur.drop (o + gZ.length), ?_, h2, ?_, h4, ?_, ?_, ?_⟩
  . rw [setRow_heap w _ cur.toArray _ e _ h1]
  . have := hv.1
    simp; omega
  . have := hv.1; simp [eX]; omega
  . intro hm; have := h6 hm; have := hv.1; simp [eX]; omega
  exact LR.UW h7 h5 hv hle
theorem R5 {t : TypeId} {a a' x x' : Value} (hr : HR P ρ S B w0 h w) (hf : jR P t a x h = some h') (ha : VR ρ S a a') (hx : VR ρ S x x') :
    ∃ w', (Instr.storeAt t a' x').run P w = .ok () w' /\ aO P B w0 ρ ρ S h h' w w' := by
  unfold jR at hf; split at hf
  . rename_i b o; obtain ⟨hs, rfl⟩ := ha.oW; split at hf
    . rename_i e cs more i hg hi; simp only at hf; split at hf
      . rename_i hc; obtain ⟨cX, hle, mG⟩ := hc; simp only [Option.some.injEq] at hf; subst hf; have bO := hx.cells mG; obtain ⟨w', h1, h2⟩ := oX hr hg bO mG hle; refine ⟨w', ?_, h2⟩; have hl := bO.1; simp only [Instr.storeAt, Instr.sureAddr, storeVar, Sem.run_bind, Sem.run_pure, Result.andThen_ok, eI t i hi]; rw [if_neg (by simp at hl cX ⊢; omega)]; exact h1
      cases hf
    cases hf
  cases hf
theorem vV (hr : HR P ρ S B w0 h w) (e : TypeId) {cs cur : List Value} (more : Bool) (hle : cs.length <= cur.length) (hm : more = false -> cs.length = cur.length)
    (hv : ∀ i, i < cs.length -> VR ρ S (cs.getD i undef) (cur.getD i undef)) :
    aO P B w0 ρ (ρ.put h.next (.clean w.heap.size 0 cur.length (P.cellsOf e))) S h (h.push (.row e cs true more)) w (w.alloc (.cells cur.toArray e)) :=
  aO.push hr _ _ _ rfl rfl ⟨cur, heap_alloc_new w _, rfl, rfl, rfl, hle, hm, fun i hi => (hv i hi).mono (hr.qM _ _)⟩
theorem UX {cs : List Value} {e : TypeId} {more : Bool} {l : Loc} (hl : l.off = 0) : VR (ρ.put h.next l) (Ext S h (h.push (.row e cs true more))) (.pointer (some ⟨h.next, 0, none⟩)) (.pointer (some ⟨l.block, 0, none⟩)) := by
  have := VR.ptr (ρ := ρ.put h.next l) (S := Ext S h (h.push (.row e cs true more))) h.next 0 (Ext.lP _); rw [Ren.fA] at this; simpa [Loc.at, hl] using this
theorem M0 {e : TypeId} {x x' v : Value} (hr : HR P ρ S B w0 h w) (hf : pT e x h = some (v, h')) (hx : VR ρ S x x') :
    oV P B w0 ρ S h w v h' ((do pure (.pointer (some (<- newVar e x'))) : Sem Value).run P w) := by
  unfold pT at hf; split at hf
  . rename_i mG; simp only [Option.some.injEq, Prod.mk.injEq] at hf; obtain ⟨rfl, rfl⟩ := hf; have hc := hx.cells mG; refine ⟨_, _, _, ?_, vV hr e (cs := x.cells.toList) (cur := x'.cells.toList) false (by have := hc.1; omega) (fun _ => hc.1) hc.2, UX rfl⟩; simp [newVar, newRow]
  cases hf
end Go.Fs
namespace Go.Fs
open Go.RowKit (Below)
variable {P : Program} {ρ bN : Ren} {S S' : Nat -> Prop} {B : Nat} {w0 w w' w1 w2 : World} {h h' h1 h2 : Heap}
theorem VR.ID {a : Addr} {v' : Value} (hv : VR ρ S (.pointer (some a)) v') : ∃ b o, a = ⟨b, o, none⟩ /\ S b /\ v' = .pointer (some ((ρ b).at o)) := by
  cases hv with
  | lit h => simp [eN] at h
  | ptr b o hs => exact ⟨b, o, rfl, hs, rfl⟩
theorem VR.IE {a : Addr} {n m : Nat} {v' : Value} (hv : VR ρ S (.slice (some a) n m) v') : ∃ b o, a = ⟨b, o, none⟩ /\ VR ρ S (.slice (some ⟨b, o, none⟩) n m) v' := by
  cases hv with
  | lit h => simp [eN] at h
  | slice b o n m c A hn hm h0 hb => exact ⟨b, o, rfl, .slice b o n m c A hn hm h0 hb⟩
theorem VR.mH {s : ByteArray} {v' : Value} (hv : VR ρ S (.string s) v') : v' = .string s := hv.gE rfl
theorem A4 (off : Nat) : ∀ (vs gZ : List Value) (k : Nat) (cs cs' : Array Value), LR ρ S vs gZ -> LR ρ S cs.toList cs'.toList ->
    LR ρ S ((vs.zipIdx k).foldl (fun cs (p : Value × Nat) => cs.setIfInBounds (off + p.2) p.1) cs).toList ((gZ.zipIdx k).foldl (fun cs (p : Value × Nat) => cs.setIfInBounds (off + p.2) p.1) cs').toList
  | [], [], k, cs, cs', _, h => h
  | [], _ :: _, k, cs, cs', hv, _ => by have := hv.1; simp at this
  | _ :: _, [], k, cs, cs', hv, _ => by have := hv.1; simp at this
  | v :: vs, v' :: gZ, k, cs, cs', hv, h => by
    simp only [List.zipIdx_cons, List.foldl_cons]
    have h0 : VR ρ S v v' := by simpa using hv.2 0 (by simp)
    have ht : LR ρ S vs gZ := ⟨by simpa using hv.1, fun i hi => by simpa using hv.2 (i + 1) (by simpa using hi)⟩; refine A4 off vs gZ (k + 1) _ _ ht ?_; simpa using h.set (off + k) h0
theorem BZ (place : Nat -> Option (Nat × Nat)) (ev kW : Operand -> Value) : ∀ (ps : List (Nat × Operand)) (cells C2 out : Array Value),
    (∀ p ∈ ps, VR ρ S (ev p.2) (kW p.2)) -> (∀ p ∈ ps, (ev p.2).cells.toList.all aT = true) -> LR ρ S cells.toList C2.toList ->
    Instr.fill place cells (ps.map fun p => (p.1, ev p.2)) = some out -> ∃ M1, Instr.fill place C2 (ps.map fun p => (p.1, kW p.2)) = some M1 /\ LR ρ S out.toList M1.toList
  | [], cells, C2, out, _, _, hc, hf => by
    simp only [List.map_nil, Instr.fill, Option.some.injEq] at hf ⊢
    subst hf; exact ⟨_, rfl, hc⟩
  | (i, x) :: rest, cells, C2, out, hv, ho, hc, hf => by
    simp only [List.map_cons, Instr.fill] at hf ⊢
    cases hp : place i with
    | none => rw [hp] at hf; cases hf
    | some q =>
      obtain ⟨off, size⟩ := q; rw [hp] at hf; simp only at hf ⊢; have hx := (hv (i, x) (by simp)).cells (ho (i, x) (by simp)); have hl := hx.1; have rQ := hc.1; simp only [Array.length_toList] at hl rQ; rw [<- hl, <- rQ]; split at hf
      . cases hf
      rename_i UY; rw [if_neg UY]; refine BZ place ev kW rest _ _ out (fun p hp => hv p (by simp [hp])) (fun p hp => ho p (by simp [hp])) ?_ hf
      have key : ∀ a c : Array Value, (a.toList.zipIdx 0).foldl (fun cs (p : Value × Nat) => cs.setIfInBounds (off + p.2) p.1) c = a.zipIdx.foldl (fun cs (p : Value × Nat) => cs.setIfInBounds (off + p.2) p.1) c := fun a c => by
        rw [<- Array.foldl_toList, Array.toList_zipIdx]
      have := A4 (ρ := ρ) (S := S) off _ _ 0 cells C2 hx hc; rw [key, key] at this; simpa using this
theorem LR.M3 {l : List Value} (h : l.all eN = true) : LR ρ S l l := LR.yX fun v hv => List.all_eq_true.1 h v hv
theorem aaF {t : TypeId} {parts : Array (Nat × Operand)} {ev kW : Operand -> Value} {v : Value} (hv : ∀ p ∈ parts.toList, VR ρ S (ev p.2) (kW p.2))
    (ho : parts.toList.all (fun p => (ev p.2).cells.toList.all aT) = true) {z : Value} (hz : (P.info? t).bind (·.zero) = some z) (C3 : z.cells.toList.all eN = true)
    (hf : aC P (Instr.build t (parts.map fun p => (p.1, ev p.2))) = some v) (w : World) :
    ∃ v', (Instr.build t (parts.map fun p => (p.1, kW p.2))).run P w = .ok v' w /\ VR ρ S v v' := by
  unfold Instr.build at hf ⊢
  cases hi : P.info? t with
  | none => rw [hi] at hz; cases hz
  | some i =>
    rw [hi] at hz; simp only [Option.bind_some] at hz; have L3 := gQ (P := P) t i z hi hz; simp only [aE, Option.bind_eq_some_iff] at hf; obtain ⟨z2, UZ, d, hd, hf⟩ := hf; have e1 := bU UZ w; rw [L3 w] at e1; injection e1 with e1; subst e1; have e2 := bU hd w; simp only [Sem.run_bind, L3 w, Result.andThen_ok, e2]; have pU : ∀ p ∈ parts.toList, (ev p.2).cells.toList.all aT = true := fun p hp => List.all_eq_true.1 ho p hp; split at hf
    . rename_i fields; simp only [aE, Option.bind_eq_some_iff] at hf; obtain ⟨places, hp, hf⟩ := hf; have e3 := bU hp w; simp only [Sem.run_bind, e3, Result.andThen_ok]; split at hf
      . rename_i cells bO; rw [Array.toList_map] at bO; obtain ⟨M1, h1, h2⟩ := BZ (ρ := ρ) (S := S) _ ev kW parts.toList z.cells z.cells cells hv pU (LR.M3 C3) bO; rw [Array.toList_map, h1]; simp only [aC, aQ, Option.some.injEq] at hf; subst hf; exact ⟨_, rfl, VR.R1 h2⟩
      simp [stuck, aC] at hf
    . rename_i n elem; simp only [aE, Option.bind_eq_some_iff] at hf; obtain ⟨size, hp, hf⟩ := hf; have e3 := bU hp w; simp only [Sem.run_bind, e3, Result.andThen_ok]; split at hf
      . rename_i cells bO; rw [Array.toList_map] at bO; obtain ⟨M1, h1, h2⟩ := BZ (ρ := ρ) (S := S) _ ev kW parts.toList z.cells z.cells cells hv pU (LR.M3 C3) bO; rw [Array.toList_map, h1]; simp only [aC, aQ, Option.some.injEq] at hf; subst hf; exact ⟨_, rfl, VR.R1 h2⟩
      simp [stuck, aC] at hf
    simp [stuck, aC] at hf
theorem R6 {t : TypeId} {cs cs' : Array Value} {off : Nat} {v : Value} (hc : LR ρ S cs.toList cs'.toList) (hf : aC P (part t cs off) = some v) (w : World) :
    ∃ v', (part t cs' off).run P w = .ok v' w /\ VR ρ S v v' := by
  unfold part at hf ⊢; simp only [aE, Option.bind_eq_some_iff] at hf; obtain ⟨ag, ha, hf⟩ := hf; have e1 := bU ha w; simp only [Sem.run_bind, e1, Result.andThen_ok]
  cases ag with
  | true =>
    simp only [if_true, aE, Option.bind_eq_some_iff] at hf ⊢; obtain ⟨size, hs, hf⟩ := hf; have e2 := bU hs w; simp only [aC, aQ, Option.some.injEq] at hf; subst hf; simp only [Sem.run_bind, e2, Result.andThen_ok, Sem.run_pure]
    exact ⟨_, rfl, VR.R1 (by simpa [Array.toList_extract, List.extract] using (hc.drop off).take _)⟩
  | false =>
    simp only [Bool.false_eq_true, if_false] at hf ⊢
    cases hx : cs[off]? with
    | none => rw [hx] at hf; simp [stuck, aC] at hf
    | some u =>
      rw [hx] at hf; simp only [aC, aQ, Option.some.injEq] at hf; subst hf; obtain ⟨u', h1, h2⟩ := hc.get? (i := off) (v := u) (by simpa using hx)
      have rD : cs'[off]? = some u' := by simpa using h1
      rw [rD]; exact ⟨u', rfl, h2⟩
theorem aaG {t : TypeId} {x x' v : Value} {f : Nat} (hx : VR ρ S x x') (hf : aC P (Instr.field t x f) = some v) (w : World) :
    ∃ v', (Instr.field t x' f).run P w = .ok v' w /\ VR ρ S v v' := by
  unfold Instr.field at hf ⊢; simp only [aE, Option.bind_eq_some_iff] at hf; obtain ⟨d, hd, hf⟩ := hf; have e1 := bU hd w; simp only [Sem.run_bind, e1, Result.andThen_ok]; split at hf
  . split at hf
    . rename_i fd hfd; simp only [aE, Option.bind_eq_some_iff] at hf; obtain ⟨cs, iJ, hf⟩ := hf
      cases x with
      | agg c =>
        simp only [asAgg, aQ, Option.some.injEq] at iJ; subst iJ; obtain ⟨cs', rfl, hl⟩ := hx.IA; simp only [asAgg, Sem.run_bind, Sem.run_pure, Result.andThen_ok]
        exact R6 hl hf w
      | _ => simp [asAgg, stuck, aC] at iJ
    simp [stuck, aC] at hf
  simp [stuck, aC] at hf
theorem R7 {x x' v : Value} {ix : Nat} (hx : VR ρ S x x') (hj : x ≠ hD) (hf : aC P (Instr.extract x ix) = some v) (w : World) :
    ∃ v', (Instr.extract x' ix).run P w = .ok v' w /\ VR ρ S v v' := by
  unfold Instr.extract at hf; split at hf
  . rename_i vs; obtain ⟨gZ, rfl, hl⟩ := hx.IB hj; split at hf
    . rename_i u hu; simp only [aQ, Option.some.injEq] at hf; subst hf; obtain ⟨u', h1, h2⟩ := hl.get? (i := ix) (v := u) (by simpa using hu)
      have rD : gZ[ix]? = some u' := by simpa using h1
      simp only [Instr.extract, rD]; exact ⟨u', rfl, h2⟩
    simp [stuck, aC] at hf
  simp [stuck, aC] at hf
theorem R8 {s : TypeId} {x x' v : Value} {f : Nat} (hx : VR ρ S x x') (hf : aC P (Instr.fieldAt s x f) = some v) (w : World) :
    ∃ v', (Instr.fieldAt s x' f).run P w = .ok v' w /\ VR ρ S v v' := by
  unfold Instr.fieldAt at hf ⊢; simp only [aE, Option.bind_eq_some_iff] at hf; obtain ⟨d, hd, hf⟩ := hf; have e1 := bU hd w; simp only [Sem.run_bind, e1, Result.andThen_ok]; split at hf
  . split at hf
    . rename_i fd hfd; simp only [aE, Option.bind_eq_some_iff] at hf; obtain ⟨a, ha, p, hp, hf⟩ := hf; unfold Instr.sureAddr at ha; split at ha
      . rename_i a0; simp only [aQ, Option.some.injEq] at ha; subst ha; obtain ⟨b, o, rfl, hs, rfl⟩ := hx.ID; unfold fieldPlace at hp; simp only [aE, Option.bind_eq_some_iff] at hp; obtain ⟨sz, cX, hp⟩ := hp; have e2 := bU cX w; split at hp
        . unfold partAt byteOf at hp; simp [aE, aC, shape, noView, viewAt, program] at hp
        rename_i cL; simp only [aQ, Option.some.injEq] at hp hf; subst hp hf; simp only [Instr.sureAddr, fieldPlace, Sem.run_bind, Sem.run_pure, Result.andThen_ok, e2]; rw [if_neg cL]; simp only [Sem.run_pure, Result.andThen_ok]; refine ⟨_, rfl, ?_⟩
        rw [Loc.tP, show (⟨b, o, none⟩ : Addr).add fd.offset = ⟨b, o + fd.offset, none⟩ by
          unfold Addr.add; split
          . rename_i e; simp [e]
          rfl]
        exact .ptr b _ hs
      simp [stuck, aC] at ha
    simp [stuck, aC] at hf
  simp [stuck, aC] at hf
theorem s8 (b o k : Nat) : (⟨b, o, none⟩ : Addr).add k = ⟨b, o + k, none⟩ := by
  unfold Addr.add; split
  . rename_i e; simp [e]
  rfl
theorem oY {α : Type} (k : IntKind) (x y : Int) (c : BoundsCode) : aC P (boundsPanic k x y c : Sem α) = none := by
  unfold boundsPanic; simp only [aE]; split <;> simp [aE, runtimePanic, choose, aC, program, goPanic, aQ, Functor.map, Sem.bind]
theorem R9 {t : TypeId} {x x' ix v : Value} (hx : VR ρ S x x') (hf : aC P (Instr.indexAt t x ix) = some v) (w : World) :
    ∃ v', (Instr.indexAt t x' ix).run P w = .ok v' w /\ VR ρ S v v' := by
  unfold Instr.indexAt at hf ⊢; simp only [aE, Option.bind_eq_some_iff] at hf; obtain ⟨ki, iK, d, hd, hf⟩ := hf; have e1 := bU iK w; have e2 := bU hd w; obtain ⟨k, i⟩ := ki; simp only [Sem.run_bind, e1, Result.andThen_ok, e2]; split at hf
  . rename_i len elem; simp only [aE, Option.bind_eq_some_iff] at hf; obtain ⟨a, ha, be, hbe, d2, V0, hf⟩ := hf; have e3 := bU V0 w; simp only [aQ, Option.some.injEq] at hbe; subst hbe; unfold Instr.sureAddr at ha; split at ha
    . rename_i a0; simp only [aQ, Option.some.injEq] at ha; subst ha; obtain ⟨b, o, rfl, hs, rfl⟩ := hx.ID; simp only [Instr.sureAddr, Sem.run_bind, Sem.run_pure, Result.andThen_ok, e3]; simp only at hf ⊢; split at hf
      . rename_i uD; simp only [aE, Option.bind_eq_some_iff] at hf; obtain ⟨sz, cX, hf⟩ := hf; have e4 := bU cX w; simp only [aQ, Option.some.injEq] at hf; subst hf; rw [if_pos uD]; simp only [Sem.run_bind, e4, Result.andThen_ok, Sem.run_pure]; refine ⟨_, rfl, ?_⟩; rw [Loc.tP, s8]; exact .ptr b _ hs
      exfalso
      revert hf
      repeat' split
      all_goals simp [unsupported, aC, oY]
    simp [stuck, aC] at ha
  . rename_i elem base len cp; simp only [aE, Option.bind_eq_some_iff] at hf; obtain ⟨be, hbe, d2, V0, hf⟩ := hf; have e3 := bU V0 w; simp only [aQ, Option.some.injEq] at hbe; subst hbe; simp only at hf ⊢
    cases base with
    | none =>
      simp only [oY] at hf
      cases hf
    | some a0 =>
      obtain ⟨b, o, rfl, xN⟩ := hx.IE; obtain ⟨A, c, rfl, hn, hm, h0, hb⟩ := xN.gF; simp only [Sem.run_bind, Sem.run_pure, Result.andThen_ok, e3]; simp only at hf ⊢; split at hf
      . rename_i uD
        have jI : b ≠ 0 := fun e => by have := h0 e; omega
        obtain ⟨hs, rfl, _⟩ := hb jI; simp only [aE, Option.bind_eq_some_iff] at hf; obtain ⟨sz, cX, hf⟩ := hf; have e4 := bU cX w; simp only [aQ, Option.some.injEq] at hf; subst hf; rw [if_pos uD]; simp only [Sem.run_bind, e4, Result.andThen_ok, Sem.run_pure]; refine ⟨_, rfl, ?_⟩; rw [Loc.tP, s8]; exact .ptr b _ hs
      exfalso
      revert hf
      repeat' split
      all_goals simp [unsupported, aC, oY]
  simp only [aE, stuck, aC] at hf; cases hf
theorem aaH {t : TypeId} {x x' ix v : Value} (hx : VR ρ S x x') (hf : aC P (Instr.index t x ix) = some v) (w : World) :
    ∃ v', (Instr.index t x' ix).run P w = .ok v' w /\ VR ρ S v v' := by
  unfold Instr.index at hf ⊢; simp only [aE, Option.bind_eq_some_iff] at hf; obtain ⟨ki, iK, d, hd, hf⟩ := hf; have e1 := bU iK w; have e2 := bU hd w; obtain ⟨k, i⟩ := ki; simp only [Sem.run_bind, e1, Result.andThen_ok, e2]; split at hf
  . rename_i len elem cs; obtain ⟨cs', rfl, hl⟩ := hx.IA; simp only at hf ⊢; split at hf
    . rename_i uD; simp only [aE, Option.bind_eq_some_iff] at hf; obtain ⟨sz, cX, hf⟩ := hf; have e4 := bU cX w; rw [if_pos uD]; simp only [Sem.run_bind, e4, Result.andThen_ok]; exact R6 hl hf w
    rw [oY] at hf; cases hf
  . rename_i s; obtain rfl := hx.mH; simp only; split at hf
    . rename_i b hb; simp only [aQ, Option.some.injEq] at hf; subst hf; simp only [hb]; exact ⟨_, rfl, .lit rfl⟩
    rw [oY] at hf; cases hf
  simp [stuck, aC] at hf
end Go.Fs
namespace Go.Fs
open Go.RowKit (Below)
variable {P : Program} {ρ bN : Ren} {S S' : Nat -> Prop} {B : Nat} {w0 w w' w1 w2 : World} {h h' h1 h2 : Heap}
theorem aL {α : Type} {c : Bool} {x : Option α} {v : α} (h : (bif c then x else none) = some v) : c = true /\ x = some v := by
  cases c
  . cases h
  exact ⟨rfl, h⟩
theorem aY {a b : Bool} (h : (a && b) = true) : a = true /\ b = true := by cases a <;> cases b <;> simp_all
theorem dY {a b : Nat} (h : Nat.ble a b = true) : a <= b := Nat.le_of_ble_eq_true h
theorem gR {a b : Nat} (h : Nat.ble a b = false) : b < a := by
  rcases Nat.lt_or_ge b a with b7 | I9
  . exact b7
  rw [Nat.ble_eq_true_of_le I9] at h; cases h
theorem jB {a b : Nat} (h : Nat.blt a b = true) : a < b := Nat.le_of_ble_eq_true h
theorem bI {a b : Nat} (h : Nat.beq a b = true) : a = b := Nat.eq_of_beq_eq_true h
theorem rS {n : Int} (h0 : 0 <= n) (h1 : n <= 1099511627776) : IntKind.i64.wrap n = n := by
  have e : n % (2 ^ 64 : Int) = n := Int.emod_eq_of_lt h0 (by omega); simp only [IntKind.wrap, IntKind.bits, IntKind.signed, e]; rw [if_neg]; simp; omega
theorem aO.vW {n : Nat} (m : aO P B w0 ρ bN S h h' { w with drawn := n } w') : aO P B w0 ρ bN S h h' w w' :=
  ⟨m.agree, m.next, m.hr, ⟨m.frame.os, m.frame.tape, m.frame.output, m.frame.size, m.frame.block⟩, m.low, m.keep, m.old, m.fresh⟩
theorem IF (place : Nat -> Option (Nat × Nat)) : ∀ (ps : List (Nat × Value)) (cells out : Array Value), Instr.fill place cells ps = some out -> out.size = cells.size
  | [], cells, out, hf => by simp only [Instr.fill, Option.some.injEq] at hf; rw [hf]
  | (i, v) :: rest, cells, out, hf => by
    simp only [Instr.fill] at hf; split at hf
    . cases hf
    split at hf
    . cases hf
    rw [IF place rest _ out hf]
    have key : ∀ (off : Nat) (l : List (Value × Nat)) (cs : Array Value), (l.foldl (fun cs (p : Value × Nat) => cs.setIfInBounds (off + p.2) p.1) cs).size = cs.size := by
      intro off l
      induction l with
      | nil => intro cs; rfl
      | cons p l ih => intro cs; rw [List.foldl_cons, ih]; simp
    rw [<- Array.foldl_toList]; exact key _ _ _
theorem af0_get! (cs : Array Value) (h : cs.toList.all eN = true) (k : Nat) : eN cs[k]! = true := by
  by_cases hk : k < cs.size
  . rw [getElem!_pos cs k hk]; exact List.all_eq_true.1 h _ (by simp)
  rw [getElem!_neg cs k hk]; rfl
theorem pW (hp : 0 < h.next) (n c : Nat) (l : Loc) (hl : l.off = 0) (hn : n <= c) (ht : c * l.AQ = l.total) (h2 : Heap) (hx : Ext S h h2 h.next) :
    VR (ρ.put h.next l) (Ext S h h2) (.slice (some ⟨h.next, 0, none⟩) n 0) (.slice (some ⟨l.block, 0, none⟩) n c) := by
  refine .slice h.next 0 n 0 c _ hn (fun e => by cases e) (fun e => by omega) fun hb => ⟨hx, ?_, fun _ => ?_⟩
  . rw [Ren.fA]; simp [Loc.at, hl]
  rw [Ren.fA]; omega
theorem j3 {e : TypeId} {i : TypeInfo} (hi : P.info? e = some i) : P.cellsOf e = i.size := by simp [Program.cellsOf, hi]
theorem C4 (hr : HR P ρ S B w0 h w) {e : TypeId} {i : TypeInfo} (hi : P.info? e = some i) (n : Nat) {cs : List Value} {cur : Array Value} (hv : LR ρ S cs cur.toList) (hn : cur.size = n * i.size) :
    oV P B w0 ρ S h w (.slice (some ⟨h.next, 0, none⟩) n 0) (h.push (.row e cs true false)) (.ok (.slice (some ⟨w.heap.size, 0, none⟩) n n) (w.alloc (.cells cur e))) := by
  have hm := vV hr e (cs := cs) (cur := cur.toList) false (by have := hv.1; omega) (fun _ => hv.1) hv.2; refine ⟨_, _, _, rfl, by simpa using hm, pW hr.pos n n _ rfl (Nat.le_refl _) ?_ _ (Ext.lP _)⟩; simp [j3 hi, hn]
theorem IG {t : TypeId} {len : Nat} {parts : Array (Nat × Operand)} {ev kW : Operand -> Value} {v : Value} (hr : HR P ρ S B w0 h w) (hv : ∀ p ∈ parts.toList, VR ρ S (ev p.2) (kW p.2))
    (hf : iY P t len (parts.map fun p => (p.1, ev p.2)) h = some (v, h')) :
    oV P B w0 ρ S h w v h' ((Instr.buildSlice t len (parts.map fun p => (p.1, kW p.2))).run P w) := by
  unfold iY at hf; split at hf
  . rename_i e hd; split at hf
    . rename_i i hi
      cases hlen : Nat.beq len 0 with
      | true =>
        rw [hlen] at hf; simp only [cond_true] at hf; obtain ⟨IH, hf⟩ := aL hf; have rF := bI hlen; subst rF; simp only [Option.some.injEq, Prod.mk.injEq] at hf; obtain ⟨rfl, rfl⟩ := hf
        have hp : parts = #[] := by
          rw [Array.toList_map] at IH
          cases parts with
          | mk l => cases l with
            | nil => rfl
            | cons a b => simp at IH
        subst hp; have := C4 hr hi 0 (cs := []) (cur := #[]) LR.nil (by simp); unfold Instr.buildSlice; simp only [Sem.run_bind, run_underlying hd, Result.andThen_ok, eI e i hi]; have r0 : Array.range 0 = #[] := rfl
        simpa [Instr.fill, newRow, r0] using this
      | false =>
        rw [hlen] at hf; simp only [cond_false] at hf; split at hf
        . rename_i z hz; obtain ⟨hc, hf⟩ := aL hf; obtain ⟨hc, mG⟩ := aY hc; obtain ⟨hc, C3⟩ := aY hc; obtain ⟨hle, cX⟩ := aY hc; have hle := dY hle; have cX := jB cX; split at hf
          . rename_i cells bO; simp only [Option.some.injEq, Prod.mk.injEq] at hf; obtain ⟨rfl, rfl⟩ := hf; have acT : len ≠ 0 := fS hlen
            have cL : ¬ len * i.size = 0 := by
              intro e0; rcases Nat.mul_eq_zero.1 e0 with h | h <;> omega
            rw [Array.toList_map] at bO mG
            have al2 : ∀ p ∈ parts.toList, (ev p.2).cells.toList.all aT = true := fun p hp => by
              have := List.all_eq_true.1 mG (p.1, ev p.2) (List.mem_map_of_mem hp); exact this
            have al3 : LR ρ S ((Array.range (len * i.size)).map (z.cells[· % z.cells.size]!)).toList ((Array.range (len * i.size)).map (z.cells[· % z.cells.size]!)).toList :=
              LR.yX fun v hv => by
                rw [Array.toList_map] at hv; obtain ⟨k, _, rfl⟩ := List.mem_map.1 hv; exact af0_get! _ C3 _
            obtain ⟨M1, h1, h2⟩ := BZ (ρ := ρ) (S := S) _ ev kW parts.toList _ _ cells hv al2 al3 bO; have xO := IF _ _ _ _ h1; have := C4 hr hi len (cs := cells.toList) (cur := M1) h2 (by rw [xO]; simp); unfold Instr.buildSlice; simp only [Sem.run_bind, run_underlying hd, Result.andThen_ok, eI e i hi, Array.toList_map]; rw [if_neg (by omega)]; rw [if_neg cL]; simp only [Sem.run_bind, gQ e i z hi hz, Result.andThen_ok, Sem.run_pure, h1]; simpa [newRow] using this
          cases hf
        cases hf
    cases hf
  cases hf
theorem DO (z : Value) (n : Nat) : (l8 z n).toArray = (Array.range (n * z.cells.size)).map (z.cells[· % z.cells.size]!) := by
  unfold l8; apply Array.toList_inj.1; simp
theorem L4 {t : TypeId} {l c l' c' v : Value} (hr : HR P ρ S B w0 h w) (hl : VR ρ S l l') (hcv : VR ρ S c c') (hf : oP P t l c h = some (v, h')) :
    oV P B w0 ρ S h w v h' ((Instr.makeSlice t l' c').run P w) := by
  unfold oP at hf; split at hf
  . rename_i e ln cn hd; obtain rfl := hl.qV; obtain rfl := hcv.qV; split at hf
    . rename_i i hi; split at hf
      . rename_i z hz; obtain ⟨hc, hf⟩ := aL hf; obtain ⟨hc, C3⟩ := aY hc; obtain ⟨hc, vX⟩ := aY hc; obtain ⟨hc, cX⟩ := aY hc; obtain ⟨hc, x8⟩ := aY hc; obtain ⟨hc, L5⟩ := aY hc; obtain ⟨h0, hlc⟩ := aY hc; have h0 := of_decide_eq_true h0; have hlc := of_decide_eq_true hlc; have L5 := of_decide_eq_true L5; have x8 := dY x8; have cX := jB cX; have vX := bI vX; simp only [Option.some.injEq, Prod.mk.injEq] at hf; obtain ⟨rfl, rfl⟩ := hf; have w1 : IntKind.i64.wrap ln = ln := rS h0 (by omega); have w2 : IntKind.i64.wrap cn = cn := rS (by omega) L5; obtain ⟨lN, rfl⟩ := Int.eq_ofNat_of_zero_le h0; obtain ⟨cN, rfl⟩ := Int.eq_ofNat_of_zero_le (show 0 <= cn by omega); simp only [Int.toNat_natCast] at x8 ⊢
        have aq2 : ((i.bytes : Int) * (cN : Int)) <= 1099511627776 := by
          have : ((i.bytes * cN : Nat) : Int) <= 1099511627776 := by omega
          simpa using this
        have n1 : ¬ ((cN : Int) < 0) := by omega
        have n2 : ¬ (281474976710656 < (i.bytes : Int) * (cN : Int)) := by omega
        have n3 : ¬ ((lN : Int) < 0) := by omega
        have n4 : ¬ cN < lN := by omega
        have r0 : Array.range 0 = #[] := rfl; unfold Instr.makeSlice; simp only [Sem.run_bind, run_underlying hd, Result.andThen_ok, asInt, asIntOf, Sem.run_pure, qN e i hi, w1, w2]
        have hm := vV hr e (cs := l8 z cN) (cur := l8 z cN) false (Nat.le_refl _) (fun _ => rfl)
          (LR.yX (ρ := ρ) (S := S) fun v hv => by
            obtain ⟨k, _, rfl⟩ := List.mem_map.1 hv
            exact af0_get! _ C3 _).2
        have C5 : oV P B w0 ρ S h w (.slice (some ⟨h.next, 0, none⟩) lN 0) (h.push (.row e (l8 z cN) true false)) (.ok (.slice (some ⟨w.heap.size, 0, none⟩) lN cN) (w.alloc (.cells (l8 z cN).toArray e))) :=
          ⟨_, _, _, rfl, hm, pW hr.pos lN cN _ rfl (by omega) (by simp [j3 hi, l8, vX]) _ (Ext.lP _)⟩
        rw [DO, vX] at C5; by_cases hn : cN * i.size = 0
        . have hc0 : cN = 0 := by
            rcases Nat.mul_eq_zero.1 hn with h | h <;> omega
          subst hc0
          have l0 : lN = 0 := by omega
          subst l0; simpa [eI e i hi, newRow, r0] using C5
        simpa [n1, n2, n3, n4, eI e i hi, newRow, hn, vX, gQ e i z hi hz] using C5
      cases hf
    cases hf
  cases hf
theorem j4 {lo uE : Option Value} {d l : Nat} (hb : dR lo d = some l) (hn : lo = none -> uE = none) (hs : ∀ v, lo = some v -> ∃ v', uE = some v' /\ VR ρ S v v') :
    (lo = none /\ uE = none /\ l = d) \/ ∃ k, lo = some (.int k l) /\ uE = some (.int k l) := by
  unfold dR at hb; split at hb
  . simp only [Option.some.injEq] at hb; exact .inl ⟨rfl, hn rfl, hb.symm⟩
  . rename_i k i; split at hb
    . rename_i hi; simp only [Option.some.injEq] at hb; obtain ⟨v', h1, h2⟩ := hs _ rfl; obtain rfl := h2.qV; obtain ⟨n, rfl⟩ := Int.eq_ofNat_of_zero_le hi; rw [Int.toNat_natCast] at hb; subst hb; exact .inr ⟨k, rfl, h1⟩
    cases hb
  cases hb
theorem eM (k : IntKind) (l y : Nat) (code : BoundsCode) (hl : l <= y) (w : World) : (Instr.sliceBound (.int k l) y code).run P w = .ok l w := by
  have h0 : (0 : Int) <= (l : Int) /\ (l : Int) <= (y : Int) := by omega
  simp only [Instr.sliceBound, asIntOf, Sem.run_bind, Sem.run_pure, Result.andThen_ok]; rw [if_pos h0]; simp
theorem OF {n c l k : Nat} {kl kh km : IntKind} {uE : Option Value} (L6 : Bool) (hl : uE = none /\ l = 0 \/ uE = some (.int kl l)) (xP : l <= k) (RA : k <= c) (w : World) :
    (Instr.sliceBounds L6 n c uE (some (.int kh k)) (some (.int km k))).run P w = .ok (l, k, k) w := by
  unfold Instr.sliceBounds; rcases hl with ⟨rfl, rfl⟩ | rfl
  . cases L6 <;> simp [eM km k c _ RA, eM kh k k _ (Nat.le_refl _)]
  cases L6 <;> simp [eM km k c _ RA, eM kh k k _ (Nat.le_refl _), eM kl l k _ xP]
def OR (ρ : Ren) (S : Nat -> Prop) (a a' : Option Value) : Prop := (a = none -> a' = none) /\ ∀ v, a = some v -> ∃ v', a' = some v' /\ VR ρ S v v'
theorem OR.of_map {x : Option Operand} {ev kW : Operand -> Value} (h : ∀ o, x = some o -> VR ρ S (ev o) (kW o)) : OR ρ S (x.map ev) (x.map kW) := by
  cases x with
  | none => exact ⟨fun _ => rfl, fun v hv => (by cases hv)⟩
  | some o => exact ⟨fun hv => (by cases hv), fun v hv => by simp at hv; subst hv; exact ⟨_, rfl, h o rfl⟩⟩
theorem OR.dH {a a' : Option Value} (h : OR ρ S a a') (ha : a.all af = true) : a' = a := by
  cases a with
  | none => exact h.1 rfl
  | some v =>
    obtain ⟨v', h1, h2⟩ := h.2 v rfl; rw [h1, h2.dH (by simpa using ha)]
theorem FU {lo hi uE qU : Option Value} {n c l k : Nat} (L6 : Bool) (uP : OR ρ S lo uE) (L7 : OR ρ S hi qU) (h1 : dR lo 0 = some l) (h2 : dR hi n = some k) (xP : l <= k) (RA : k <= c) (w : World) :
    (Instr.sliceBounds L6 n c uE qU none).run P w = .ok (l, k, c) w := by
  have a1 := j4 h1 uP.1 uP.2; have a2 := j4 h2 L7.1 L7.2; unfold Instr.sliceBounds; rcases a2 with ⟨_, rfl, rfl⟩ | ⟨k2, _, rfl⟩
  . rcases a1 with ⟨_, rfl, rfl⟩ | ⟨k1, _, rfl⟩
    . simp
    simp [eM k1 l k .sliceB xP]
  rcases a1 with ⟨_, rfl, rfl⟩ | ⟨k1, _, rfl⟩
  . cases L6 <;> simp [eM k2 k c _ RA]
  cases L6 <;> simp [eM k2 k c _ RA, eM k1 l k .sliceB xP]
theorem M4 {b o n c l k mk mk' size : Nat} {A : Addr} (hn : n <= c) (h0 : b = 0 -> n = 0) (hb : b ≠ 0 -> S b /\ A = (ρ b).at o /\ (mk = 0 -> o + c * (ρ b).AQ = (ρ b).total)) (xP : l <= k) (RA : k <= c)
    (jI : b = 0 -> k = 0) (h1 : mk' = 1 -> c = k) (h2 : mk' = 0 -> l ≠ 0 -> b ≠ 0 -> (ρ b).AQ = size /\ mk = 0) (h3 : mk' = 0 -> mk = 0) :
    VR ρ S (cutAt size b o l k mk') (.slice (if c = l then some A else (some A).map (·.add (l * size))) (k - l) (c - l)) := by
  unfold cutAt
  have al4 : (if c = l then some A else (some A).map (·.add (l * size))) = some (if c = l then A else A.add (l * size)) := by split <;> rfl
  rw [al4]
  cases hc : (Nat.blt l k || Nat.beq l 0) with
  | false =>
    simp only [cond_false]
    have b7 : ¬ l < k := fun h => by
      have : Nat.blt l k = true := Nat.ble_eq_true_of_le h; simp [this] at hc
    rw [show k - l = 0 by omega]
    exact .slice 0 0 0 2 _ _ (Nat.zero_le _) (fun e => by cases e) (fun _ => rfl) (fun e => absurd rfl e)
  | true =>
    simp only [cond_true]; refine .slice b _ (k - l) mk' (c - l) _ (by omega) (fun e => by have := h1 e; omega) (fun e => by have := jI e; omega) fun cL => ?_; obtain ⟨hs, hA, lG⟩ := hb cL; refine ⟨hs, ?_, fun e => ?_⟩
    . subst hA; by_cases rF : l = 0
      . subst rF; simp [Addr.add]
      have b7 : l < k := by
        rcases Bool.or_eq_true_iff.1 hc with h | h
        . exact jB h
        exact absurd (bI h) rF
      rw [if_neg (by omega), Loc.tP]
    by_cases rF : l = 0
    . subst rF; simpa using lG (h3 e)
    obtain ⟨h4, h5⟩ := h2 e rF cL; have h6 := lG h5; rw [h4] at h6 ⊢; rw [<- h6, Nat.add_assoc, <- Nat.add_mul]; congr 2; omega
theorem aaI {t : TypeId} {x x' v : Value} {lo hi mx uE qU mx' : Option Value} (hr : HR P ρ S B w0 h w) (hx : VR ρ S x x') (uP : OR ρ S lo uE) (L7 : OR ρ S hi qU) (zQ : OR ρ S mx mx')
    (hf : cZ P t x lo hi mx h = some v) : ∃ v', (Instr.sliceAt t x' uE qU mx').run P w = .ok v' w /\ VR ρ S v v' := by
  unfold cZ at hf; split at hf
  . obtain ⟨hc, hf⟩ := aL hf; obtain ⟨hc, hm⟩ := aY hc; obtain ⟨hc, hh⟩ := aY hc; obtain ⟨ha, hl⟩ := aY hc; rw [hx.dH ha, uP.dH hl, L7.dH hh, zQ.dH hm]; rw [Option.bind_eq_some_iff] at hf; obtain ⟨u, hu, hf⟩ := hf; obtain ⟨II, hf⟩ := aL hf; simp only [Option.some.injEq] at hf; subst hf; exact ⟨u, bU hu w, .mF II⟩
  . rename_i elem hd
    have rE : (Instr.sliceAt t x' uE qU mx').run P w = (Instr.slice t x' uE qU mx').run P w := by
      unfold Instr.sliceAt; simp only [Sem.run_bind, run_underlying hd, Result.andThen_ok]
    rw [rE]; split at hf
    . obtain rfl := hx.iZ; split at hf
      . rename_i hl hh hm; obtain ⟨hmh, hf⟩ := aL hf; rw [Option.map_eq_some_iff] at hf; obtain ⟨i, hi, rfl⟩ := hf; have b1 := j4 hl uP.1 uP.2; have b2 := j4 hh L7.1 L7.2; have b3 := j4 hm zQ.1 zQ.2; refine ⟨.slice none 0 0, ?_, .lit rfl⟩; have hsb : ∀ (k : IntKind) (code : BoundsCode), (Instr.sliceBound (.int k 0) 0 code).run P w = .ok 0 w := fun k code => eM (P := P) k 0 0 code (Nat.le_refl _) w; unfold Instr.slice Instr.sliceBounds; simp only [Sem.run_bind, run_underlying hd, Result.andThen_ok, eI elem i hi]; rcases b3 with ⟨_, rfl, _⟩ | ⟨k3, _, rfl⟩ <;> rcases b2 with ⟨_, rfl, _⟩ | ⟨k2, _, rfl⟩ <;> rcases b1 with ⟨_, rfl, _⟩ | ⟨k1, _, rfl⟩ <;> simp_all [hsb]
      cases hf
    . rename_i b o n mk; obtain ⟨A, c, rfl, hn, OG, h0, hb⟩ := hx.gF; split at hf
      . rename_i i l k hi hl hh; split at hf
        . obtain rfl := zQ.1 rfl
          have key : ∀ mk', l <= k -> k <= c -> (b = 0 -> k = 0) -> (mk' = 1 -> c = k) -> (mk' = 0 -> l ≠ 0 -> b ≠ 0 -> (ρ b).AQ = i.size /\ mk = 0) -> (mk' = 0 -> mk = 0) -> v = cutAt i.size b o l k mk' ->
              ∃ v', (Instr.slice t (.slice (some A) n c) uE qU none).run P w = .ok v' w /\ VR ρ S v v' := fun mk' h1 h2 h3 h4 h5 h6 e => by
            subst e; unfold Instr.slice; simp only [Sem.run_bind, run_underlying hd, Result.andThen_ok, eI elem i hi, FU (P := P) true uP L7 hl hh h1 h2 w, Sem.run_pure]; exact ⟨_, rfl, M4 hn h0 hb h1 h2 h3 h4 h5 h6⟩
          cases uS : (Nat.ble l k && Nat.ble k n) with
          | true =>
            rw [uS] at hf; simp only [cond_true, Option.some.injEq] at hf; obtain ⟨a1, a2⟩ := aY uS; have a1 := dY a1; have a2 := dY a2; refine key _ a1 (by omega) (fun e => by have := h0 e; omega) ?_ ?_ ?_ hf.symm
            . intro e
              cases hm : Nat.beq mk 1 with
              | true =>
                rw [hm] at e; simp only [cond_true] at e
                cases hk : Nat.beq k n with
                | true => have := bI hk; have := OG (bI hm); omega
                | false => rw [hk] at e; cases e
              | false =>
                rw [hm] at e; simp only [cond_false, qK] at e; exfalso
                revert e
                cases Nat.beq l 0
                . cases gG : Nat.beq mk 0
                  . simp
                  simp only [cond_false, cond_true]; split
                  . rename_i e2 _ _ _ _; cases Nat.beq e2 elem <;> simp
                  simp
                simp only [cond_true]; intro e; subst e; cases hm
            . intro e rF cL
              cases hm : Nat.beq mk 1 with
              | true =>
                rw [hm] at e; simp only [cond_true] at e
                cases hk : Nat.beq k n <;> rw [hk] at e <;> cases e
              | false =>
                rw [hm] at e; simp only [cond_false, qK, fG rF] at e
                cases gG : Nat.beq mk 0 with
                | false => rw [gG] at e; cases e
                | true =>
                  rw [gG] at e; simp only [cond_true] at e; split at e
                  . rename_i e2 cs own more hg
                    cases he : Nat.beq e2 elem with
                    | false => rw [he] at e; cases e
                    | true =>
                      have hee := bI he; subst hee; exact ⟨((hr.aA b _ hg).2.AQ).trans (j3 hi), bI gG⟩
                  cases e
            intro e
            cases hm : Nat.beq mk 1 with
            | true =>
              rw [hm] at e; simp only [cond_true] at e
              cases hk : Nat.beq k n <;> rw [hk] at e <;> cases e
            | false =>
              rw [hm] at e; simp only [cond_false, qK] at e
              cases rF : Nat.beq l 0 with
              | true => rw [rF] at e; exact e
              | false =>
                rw [rF] at e; simp only [cond_false] at e
                cases gG : Nat.beq mk 0 with
                | false => rw [gG] at e; cases e
                | true => exact bI gG
          | false =>
            rw [uS] at hf; simp only [cond_false] at hf; obtain ⟨mS, cO⟩ := aL hf; clear hf; obtain ⟨xP, mT⟩ := aY mS; have xP := jB xP; obtain rfl := bI mT; split at cO
            . rename_i e2 cs more hg; obtain ⟨zR, hf⟩ := aL cO; clear cO; obtain ⟨hc4, hle⟩ := aY zR; obtain ⟨he, cX⟩ := aY hc4; have hle := dY hle; have cX := jB cX; obtain rfl := bI he; simp only [Option.some.injEq] at hf; have kZ := (hr.aA b _ hg).2; have FV := (kZ.AQ).trans (j3 hi); obtain ⟨cur, _, _, ht, _, hlc, _⟩ := kZ; have jI : b ≠ 0 := (hr.ids b (hr.aA b _ hg).1).2; obtain ⟨hS, hA, lG⟩ := hb jI; have lG := lG rfl
              have RA : k <= c := by
                rw [FV] at lG
                have h1 : k * i.size <= c * i.size := by omega
                exact Nat.le_of_mul_le_mul_right h1 cX
              exact key 0 (by omega) RA (fun e => absurd e jI) (fun e => by cases e) (fun _ _ _ => ⟨FV, rfl⟩) (fun _ => rfl) hf.symm
            cases cO
        split at hf
        . rename_i hv m hm; obtain ⟨hc, cO⟩ := aL hf; clear hf; obtain ⟨mS, hkn⟩ := aY hc; obtain ⟨xP, hkm⟩ := aY mS; have hkn := dY hkn; have xP := dY xP; obtain rfl := bI hkm; simp only [Option.some.injEq] at cO; subst cO; rcases j4 hh L7.1 L7.2 with ⟨h1, _⟩ | ⟨kh, _, rfl⟩
          . cases h1
          rcases j4 hm zQ.1 zQ.2 with ⟨h1, _⟩ | ⟨km, _, rfl⟩
          . cases h1
          have acU : ∃ kl, uE = none /\ l = 0 \/ uE = some (.int kl l) := by
            rcases j4 hl uP.1 uP.2 with ⟨_, h1, h2⟩ | ⟨kl, _, h1⟩
            . exact ⟨.i64, .inl ⟨h1, h2⟩⟩
            exact ⟨kl, .inr h1⟩
          obtain ⟨kl, acU⟩ := acU; unfold Instr.slice; simp only [Sem.run_bind, run_underlying hd, Result.andThen_ok, eI elem i hi, OF (P := P) true acU xP (show k <= c by omega) w, Sem.run_pure]; refine ⟨_, rfl, ?_⟩
          have := M4 (ρ := ρ) (S := S) (b := b) (o := o) (n := k) (c := k) (l := l) (k := k) (mk := 1) (mk' := 1) (size := i.size) (A := A) (Nat.le_refl _) (fun e => by have := h0 e; omega)
            (fun e => ⟨(hb e).1, (hb e).2.1, fun e => by cases e⟩) xP (Nat.le_refl _) (fun e => by have := h0 e; omega) (fun _ => rfl) (fun e => by cases e) (fun e => by cases e)
          simpa using this
        cases hf
      cases hf
    cases hf
  . rename_i n elem hd; split at hf
    . rename_i b o; obtain ⟨hs, rfl⟩ := hx.oW; split at hf
      . rename_i i l k hi hl hh; obtain rfl := zQ.1 rfl; obtain ⟨hc, cO⟩ := aL hf; clear hf; obtain ⟨xP, hkn⟩ := aY hc; have xP := jB xP; obtain rfl := bI hkn; simp only [Option.some.injEq] at cO; subst cO; unfold Instr.sliceAt; simp only [Sem.run_bind, run_underlying hd, Result.andThen_ok, Instr.sureAddr, Sem.run_pure, eI elem i hi, FU (P := P) false uP L7 hl hh (Nat.le_of_lt xP) (Nat.le_refl _) w]; refine ⟨_, rfl, ?_⟩; rw [if_neg (by omega), Loc.tP]; have jI : b ≠ 0 := (hr.ids b hs).2; exact .slice b _ _ 1 _ _ (Nat.le_refl _) (fun _ => rfl) (fun e => absurd e jI) (fun _ => ⟨hs, rfl, fun e => by cases e⟩)
      cases hf
    cases hf
  cases hf
end Go.Fs
namespace Go.Fs
open Go.RowKit (Below)
variable {P : Program} {ρ bN : Ren} {S S' : Nat -> Prop} {B : Nat} {w0 w w' w1 w2 : World} {h h' h1 h2 : Heap}
theorem RB {x x' : Value} {m : Nat} (hx : VR ρ S x x') (hl : wR x = some m) (w : World) : (Builtin.lenOf x').run P w = .ok m w := by
  unfold wR at hl; split at hl
  . simp only [Option.some.injEq] at hl; subst hl
    cases hx with
    | lit h =>
      rename_i a n c
      cases a with
      | none => rfl
      | some a => simp [eN] at h
    | slice b o n m c A hn hm h0 hb => rfl
  . simp only [Option.some.injEq] at hl; subst hl; obtain rfl := hx.mH; rfl
  cases hl
theorem xQ {size n : Nat} {x x' : Value} {vs : List Value} (hr : HR P ρ S B w0 h w) (hx : VR ρ S x x') (hc : cellsOf size n x h = some vs) :
    ∃ gZ : List Value, (Builtin.firstCells size n x').run P w = .ok gZ.toArray w /\ LR ρ S vs gZ := by
  unfold cellsOf at hc; split at hc
  . obtain rfl := hx.iZ; obtain ⟨hn, hc⟩ := aL hc; simp only [Option.some.injEq] at hc; subst hc; exact ⟨[], rfl, LR.nil⟩
  . rename_i b o k mk; obtain ⟨A, c, rfl, hn, hm, h0, hb⟩ := hx.gF; obtain ⟨RC, mS⟩ := aL hc; clear hc; have RC := dY RC
    cases hz : Nat.beq (n * size) 0 with
    | true =>
      rw [hz] at mS; simp only [cond_true, Option.some.injEq] at mS; subst mS; refine ⟨[], ?_, LR.nil⟩; unfold Builtin.firstCells; rw [bI hz]
      rfl
    | false =>
      rw [hz] at mS; simp only [cond_false] at mS; split at mS
      . rename_i e cs own more hg; obtain ⟨hle, zR⟩ := aL mS; clear mS; have hle := dY hle; simp only [Option.some.injEq] at zR; subst zR; have kZ := (hr.aA b _ hg).2; have jI : b ≠ 0 := (hr.ids b (hr.aA b _ hg).1).2; obtain ⟨_, rfl, _⟩ := hb jI; exact qO (fun i hi => kZ.cell hi) hle
      cases mS
  . rename_i s; obtain rfl := hx.mH; simp only [Option.some.injEq] at hc; subst hc; refine ⟨_, ?_, LR.yX fun v hv => ?_⟩
    . unfold Builtin.firstCells; rw [Array.toArray_toList]; rfl
    rw [Array.toList_map] at hv; obtain ⟨u, _, rfl⟩ := List.mem_map.1 hv; rfl
  cases hc
theorem acV {argTypes : Array TypeId} {ty : TypeId} {d x d' x' v : Value} (hr : HR P ρ S B w0 h w) (hd : VR ρ S d d') (hx : VR ρ S x x') (hf : NZ P argTypes d x h = some (v, h')) :
    oV P B w0 ρ S h w v h' ((Builtin.copy_ argTypes ty #[d', x']).run P w) := by
  unfold NZ at hf; split at hf
  . rename_i dt hdt; split at hf
    . rename_i e V1; split at hf
      . rename_i i m k hi hm hk; split at hf
        . rename_i vs uQ; obtain ⟨hc, cO⟩ := aL hf; clear hf; obtain ⟨hvl, mG⟩ := aY hc; have hvl := bI hvl; obtain ⟨gZ, hfc, hlr⟩ := xQ hr hx uQ; have hlen := RB (P := P) hx hm w; unfold Builtin.copy_; simp only [hdt, List.getElem?_toArray, List.getElem?_cons_zero, List.getElem?_cons_succ]; split at cO
          . obtain rfl := hd.iZ; simp only [wR, Option.some.injEq] at hk; subst hk; simp only [Option.some.injEq, Prod.mk.injEq] at cO; obtain ⟨rfl, rfl⟩ := cO; simp only [Sem.run_bind, run_underlying V1, Result.andThen_ok, hlen, eI e i hi, hfc]; exact oV.pure hr (.lit rfl)
          . rename_i b o kk mk; obtain ⟨A, c, rfl, hn, OG, h0, hb⟩ := hd.gF; simp only [wR, Option.some.injEq] at hk; subst hk
            cases hz : Nat.beq (Nat.min m kk * i.size) 0 with
            | true =>
              rw [hz] at cO; simp only [cond_true, Option.some.injEq, Prod.mk.injEq] at cO; obtain ⟨rfl, rfl⟩ := cO; have : gZ = [] := List.eq_nil_of_length_eq_zero (by rw [<- hlr.1, hvl, bI hz]); subst this; simp only [Sem.run_bind, run_underlying V1, Result.andThen_ok, hlen, eI e i hi, hfc, storeCells, Sem.run_pure]
              exact oV.pure hr (.lit rfl)
            | false =>
              rw [hz] at cO; simp only [cond_false] at cO; split at cO
              . rename_i e' cs more hg; obtain ⟨hle, oZ⟩ := aL cO; clear cO; have hle := dY hle; simp only [Option.some.injEq, Prod.mk.injEq] at oZ; obtain ⟨rfl, rfl⟩ := oZ; have jI : b ≠ 0 := (hr.ids b (hr.aA b _ hg).1).2; obtain ⟨_, rfl, _⟩ := hb jI; obtain ⟨w2, h1, h2⟩ := oX (o := o) hr hg hlr mG (by omega); simp only [Sem.run_bind, run_underlying V1, Result.andThen_ok, hlen, eI e i hi, hfc, h1, Sem.run_pure]; exact ⟨ρ, w2, _, rfl, h2, .lit rfl⟩
              cases cO
          cases cO
        cases hf
      cases hf
    cases hf
  cases hf
theorem aaJ {argTypes : Array TypeId} {ty : TypeId} {x x' : Value} (hr : HR P ρ S B w0 h w) (hx : VR ρ S x x') (hf : BR P argTypes x h = some h') :
    oV P B w0 ρ S h w (.tuple #[]) h' ((Builtin.clear_ argTypes ty #[x']).run P w) := by
  unfold BR at hf; split at hf
  . rename_i dt hdt; split at hf
    . rename_i e V1; unfold Builtin.clear_; simp only [hdt, List.getElem?_toArray, List.getElem?_cons_zero]; split at hf
      . obtain rfl := hx.iZ; obtain rfl := Option.some.inj hf; simp only [Sem.run_bind, run_underlying V1, Result.andThen_ok, Sem.run_pure]; exact oV.pure hr VR.undef
      . rename_i b o n mk; obtain ⟨A, c, rfl, hn, OG, h0, hb⟩ := hx.gF
        cases hz : Nat.beq n 0 with
        | true =>
          rw [hz] at hf; simp only [cond_true, Option.some.injEq] at hf; subst hf; obtain rfl := bI hz
          cases A <;> simp only [Sem.run_bind, run_underlying V1, Result.andThen_ok, Sem.run_pure] <;> exact oV.pure hr VR.undef
        | false =>
          rw [hz] at hf; simp only [cond_false] at hf; split at hf
          . rename_i i e' cs more hi hg; split at hf
            . rename_i z hzv; obtain ⟨hc, oZ⟩ := aL hf; clear hf; obtain ⟨nJ, hle⟩ := aY hc; have hle := dY hle; obtain rfl := Option.some.inj oZ; have jI : b ≠ 0 := (hr.ids b (hr.aA b _ hg).1).2; obtain ⟨_, rfl, _⟩ := hb jI
              have hn0 : n ≠ 0 := fun e => by subst e; cases hz
              obtain ⟨w2, h1, h2⟩ := oX (o := o) hr hg (LR.yX fun v hv => List.all_eq_true.1 nJ v hv) (List.all_eq_true.2 fun v hv => (by have := List.all_eq_true.1 nJ v hv; cases v <;> first | rfl | simp_all [eN, aT])) (by omega)
              have h3 : (Builtin.zeroCells z.cells n).toList = l8 z n := by
                exact congrArg Array.toList (DO z n).symm
              cases n with
              | zero => exact absurd rfl hn0
              | succ n =>
                simp only [Sem.run_bind, run_underlying V1, Result.andThen_ok, gQ e i z hi hzv, h3, h1, Sem.run_pure]; exact ⟨ρ, w2, _, rfl, h2, VR.undef⟩
            cases hf
          cases hf
      cases hf
    cases hf
  cases hf
theorem aiQ {argTypes : Array TypeId} {ty : TypeId} {x x' v : Value} (hr : HR P ρ S B w0 h w) (hx : VR ρ S x x') (hf : oQ P argTypes x h = some v) :
    ∃ v', (Builtin.len_ argTypes ty #[x']).run P w = .ok v' w /\ VR ρ S v v' := by
  have key : ∀ d, (argTypes[0]?).bind P.underlying = some d -> ∃ t, argTypes[0]? = some t /\ P.underlying t = some d := fun d hd => by
    rwa [Option.bind_eq_some_iff] at hd
  unfold oQ at hf; unfold Builtin.len_; split at hf
  . rename_i b; obtain ⟨hs, rfl⟩ := hx.xM; split at hf
    . rename_i es clock hu hg; obtain ⟨t, h1, h2⟩ := key _ hu; simp only [Option.some.injEq] at hf; subst hf; obtain ⟨_, eH, h3, h4, _⟩ := hr.aA b _ hg; simp only [h1, List.getElem?_toArray, List.getElem?_cons_zero, Sem.run_bind, run_underlying h2, Result.andThen_ok]; simp only [getObj, Sem.run, h3, Result.andThen_ok]; refine ⟨_, rfl, ?_⟩; rw [show (eH.toArray.size : Int) = (es.length : Int) by simp [h4]]; exact .lit rfl
    cases hf
  . rename_i a n c; split at hf
    . rename_i el hu; obtain ⟨t, h1, h2⟩ := key _ hu; simp only [Option.some.injEq] at hf; subst hf
      have : ∃ A C, x' = .slice A n C := by
        cases hx with
        | lit h => exact ⟨_, _, rfl⟩
        | slice b o n m c A hn hm h0 hb => exact ⟨_, _, rfl⟩
      obtain ⟨A, C, rfl⟩ := this; simp only [h1, List.getElem?_toArray, List.getElem?_cons_zero, Sem.run_bind, run_underlying h2, Result.andThen_ok, Sem.run_pure]; exact ⟨_, rfl, .lit rfl⟩
    cases hf
  . rename_i s; split at hf
    . rename_i hu; obtain ⟨t, h1, h2⟩ := key _ hu; simp only [Option.some.injEq] at hf; subst hf; obtain rfl := hx.mH; simp only [h1, List.getElem?_toArray, List.getElem?_cons_zero, Sem.run_bind, run_underlying h2, Result.andThen_ok, Sem.run_pure]; exact ⟨_, rfl, .lit rfl⟩
    cases hf
  . split at hf
    . rename_i k el hu; obtain ⟨t, h1, h2⟩ := key _ hu; simp only [Option.some.injEq] at hf; subst hf; obtain rfl := hx.gE rfl; simp only [h1, List.getElem?_toArray, List.getElem?_cons_zero, Sem.run_bind, run_underlying h2, Result.andThen_ok, Sem.run_pure]; exact ⟨_, rfl, .lit rfl⟩
    cases hf
  cases hf
theorem aiR {argTypes : Array TypeId} {ty : TypeId} {x x' v : Value} (hr : HR P ρ S B w0 h w) (hx : VR ρ S x x') (hf : UN P argTypes x h = some v) :
    ∃ v', (Builtin.cap_ argTypes ty #[x']).run P w = .ok v' w /\ VR ρ S v v' := by
  have key : ∀ d, (argTypes[0]?).bind P.underlying = some d -> ∃ t, argTypes[0]? = some t /\ P.underlying t = some d := fun d hd => by
    rwa [Option.bind_eq_some_iff] at hd
  unfold UN at hf; unfold Builtin.cap_; split at hf
  . rename_i e b o n mk hu; obtain ⟨t, h1, h2⟩ := key _ hu; obtain ⟨A, c, rfl, hn, hm, h0, hb⟩ := hx.gF; simp only [h1, List.getElem?_toArray, List.getElem?_cons_zero, Sem.run_bind, run_underlying h2, Result.andThen_ok, Sem.run_pure]
    cases mT : Nat.beq mk 1 with
    | true =>
      rw [mT] at hf; simp only [cond_true, Option.some.injEq] at hf; subst hf; rw [hm (bI mT)]
      exact ⟨_, rfl, .lit rfl⟩
    | false =>
      rw [mT] at hf; simp only [cond_false] at hf; split at hf
      . rename_i i e' cs hi hg; obtain ⟨hc, cO⟩ := aL hf; clear hf; obtain ⟨uS, hm0⟩ := aY hc; obtain ⟨mS, hoc⟩ := aY uS; obtain ⟨he, cX⟩ := aY mS; have cX := jB cX; obtain rfl := bI he; simp only [Option.some.injEq] at cO; subst cO; have kZ := (hr.aA b _ hg).2; have FV := kZ.AQ.trans (j3 hi); obtain ⟨cur, _, _, ht, _, _, gG, _⟩ := kZ; have jI : b ≠ 0 := (hr.ids b (hr.aA b _ hg).1).2; obtain ⟨_, _, lG⟩ := hb jI; have lG := lG (bI hm0); have hl := gG rfl; rw [FV] at lG
        have : (cs.length - o) / i.size = c := by
          rw [show cs.length - o = c * i.size by omega]; exact Nat.mul_div_cancel c cX
        rw [this]; exact ⟨_, rfl, .lit rfl⟩
      cases hf
  . rename_i e hu; obtain ⟨t, h1, h2⟩ := key _ hu; obtain rfl := hx.iZ; simp only [Option.some.injEq] at hf; subst hf; simp only [h1, List.getElem?_toArray, List.getElem?_cons_zero, Sem.run_bind, run_underlying h2, Result.andThen_ok, Sem.run_pure]; exact ⟨_, rfl, .lit rfl⟩
  cases hf
theorem IJ (HO : Nat) : ∀ (r c : Nat), c <= 2 * HO + 192 -> Builtin.growBy HO r c <= 2 * HO + 192
  | 0, c, h => h
  | r + 1, c, h => by
    unfold Builtin.growBy; split
    . exact h
    exact IJ HO r _ (by omega)
theorem nextslicecap_le (wT cap : Nat) (h : cap < wT) : Builtin.nextslicecap wT cap <= 2 * wT + 192 := by
  unfold Builtin.nextslicecap; split
  . omega
  split
  . omega
  exact IJ wT 4 cap (by omega)
theorem C6 {e : TypeId} {i : TypeInfo} {z x x' : Value} {made : Bool} {m : Nat} {news : List Value} (hi : P.info? e = some i) (hz : i.zero = some z) (vX : z.cells.size = i.size) (cX : 0 < i.size)
    (hr : HR P ρ S B w0 h w) (hx : VR ρ S x x') (hf : j7 i z made x h = some (m, news)) :
    ∃ acW : List Value, LR ρ S news acW /\
      ((if made = true then do
          let l := IntKind.i64.wrap (<- asInt x')
          if l < 0 then runtimePanic (.error "makeslice: len out of range")
          if l * (<- typeInfo e).bytes > 2 ^ 48 then
            let made <- choose (.extern "append.ofMake.carriedOut" 2)
            runtimePanic (.error (if made == 1 then "makeslice: len out of range" else "growslice: len out of range"))
          pure l.toNat
        else Builtin.lenOf x' : Sem Nat).run P w = .ok m w) /\
      ((if !made then Builtin.firstCells i.size m x' else if m * i.size = 0 then pure #[] else do pure (Builtin.zeroCells (<- zeroValue e).cells m) : Sem (Array Value)).run P w = .ok acW.toArray w) := by
  unfold j7 at hf
  cases made with
  | true =>
    simp only [cond_true] at hf; split at hf
    . rename_i l; obtain ⟨hc, cO⟩ := aL hf; clear hf; obtain ⟨uS, C3⟩ := aY hc; obtain ⟨mS, x8⟩ := aY uS; obtain ⟨h0, h1⟩ := aY mS; have h0 := of_decide_eq_true h0; have h1 := of_decide_eq_true h1; have x8 := dY x8; obtain rfl := hx.qV; obtain ⟨k, rfl⟩ := Int.eq_ofNat_of_zero_le h0; simp only [Int.toNat_natCast, Option.some.injEq, Prod.mk.injEq] at cO x8; obtain ⟨rfl, rfl⟩ := cO; refine ⟨l8 z k, LR.yX fun v hv => ?_, ?_, ?_⟩
      . obtain ⟨q, _, rfl⟩ := List.mem_map.1 hv; exact af0_get! _ C3 _
      . have n1 : ¬ ((k : Int) < 0) := by omega
        have C7 : ((k : Int) * (i.bytes : Int)) <= 1099511627776 := by
          have : ((k * i.bytes : Nat) : Int) <= 1099511627776 := by omega
          simpa using this
        have n2 : ¬ (281474976710656 < (k : Int) * (i.bytes : Int)) := by omega
        simp [asInt, asIntOf, rS h0 h1, n1, n2, qN e i hi]
      by_cases hk : k * i.size = 0
      . have : k = 0 := by
          rcases Nat.mul_eq_zero.1 hk with h | h <;> omega
        subst this; simp [l8]
      simp [hk, gQ e i z hi hz, DO, Builtin.zeroCells]
    cases hf
  | false =>
    simp only [cond_false] at hf; split at hf
    . rename_i k hk; rw [Option.map_eq_some_iff] at hf; obtain ⟨cs, h1, h2⟩ := hf; simp only [Prod.mk.injEq] at h2; obtain ⟨rfl, rfl⟩ := h2; obtain ⟨gZ, h3, h4⟩ := xQ hr hx h1; exact ⟨gZ, h4, by simpa using RB (P := P) hx hk w, by simpa using h3⟩
    cases hf
end Go.Fs
