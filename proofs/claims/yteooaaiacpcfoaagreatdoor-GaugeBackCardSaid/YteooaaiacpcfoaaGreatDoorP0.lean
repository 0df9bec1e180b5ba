/- Parts of the proof: an evaluator of the model, what it is sound for, and contracts of functions. No condition. -/
import Derived.RangeFuncIn
import Derived.RangeFuncLeaves
import Derived.Orders
import Derived.Below
import Derived.Laws.CopyRow
set_option linter.all false
namespace Go.Fs
inductive Tr where
  | leaf
  | node (v : Value) (l r : Tr)
  deriving Inhabited
def Tr.get : Tr -> Nat -> Value
  | .leaf, _ => undef
  | .node v l r, i => match i with
    | 0 => v
    | k + 1 => bif Nat.beq (k % 2) 0 then l.get (k / 2) else r.get (k / 2)
def Tr.set : Nat -> Tr -> Nat -> Value -> Tr
  | 0, t, _, _ => t
  | f + 1, .leaf, i, x => match i with
    | 0 => .node x .leaf .leaf
    | k + 1 => bif Nat.beq (k % 2) 0 then .node undef (Tr.set f .leaf (k / 2) x) .leaf else .node undef .leaf (Tr.set f .leaf (k / 2) x)
  | f + 1, .node v l r, i, x => match i with
    | 0 => .node x l r
    | k + 1 => bif Nat.beq (k % 2) 0 then .node v (Tr.set f l (k / 2) x) r else .node v l (Tr.set f r (k / 2) x)
inductive aU where
  | row (e : TypeId) (cs : List Value) (own more : Bool)
  | qA (es : List MapEntry) (clock : Nat)
  | iter (s : ByteArray) (pos : Nat)
  | fI (st : LoopState) (jump : Option Code) (tmps : Tr) (n : Nat) (params : Array Tmp) (assign body : Code) (defers : Nat)
  | mM
  deriving Inhabited
structure Heap where
  next : Nat
  low : Nat
  aB : List (Nat × aU)
def look : List (Nat × aU) -> Nat -> Option aU
  | [], _ => none
  | (k, o) :: r, i => bif Nat.beq k i then some o else look r i
def Heap.get (h : Heap) (i : Nat) : Option aU := look h.aB i
def SS : List (Nat × aU) -> Nat -> aU -> List (Nat × aU)
  | [], _, _ => []
  | (k, o) :: r, i, o' => bif Nat.beq k i then (k, o') :: r else (k, o) :: SS r i o'
def del : List (Nat × aU) -> Nat -> List (Nat × aU)
  | [], _ => []
  | (k, o) :: r, i => bif Nat.beq k i then del r i else (k, o) :: del r i
def Heap.push (h : Heap) (o : aU) : Heap := { next := h.next + 1, low := h.low, aB := (h.next, o) :: h.aB }
def Heap.set (h : Heap) (i : Nat) (o : aU) : Heap := { next := h.next, low := min h.low i, aB := SS h.aB i o }
def Heap.drop (h : Heap) (i : Nat) : Heap := { next := h.next, low := min h.low i, aB := del h.aB i }
def gP : Value := .tuple #[.tuple #[]]
def tS : Value -> Bool
  | .tuple ⟨[.tuple ⟨[]⟩]⟩ => true
  | _ => false
theorem abV {x : Value} (h : tS x = false) : x ≠ gP := fun e => by subst e; cases h
def dQ : Value -> Bool
  | .bool _ | .int _ _ | .float _ _ | .complex _ _ _ | .string _ | .nilFunc | .nilIface | .pointer none | .map none | .chan none | .slice none 0 0 => true
  | _ => false
def q6 : Value -> Bool
  | .agg cs => cs.toList.all dQ
  | v => dQ v
def af : Value -> Bool
  | .tuple vs => vs.toList.all q6
  | v => q6 v
def aN : Value -> Bool
  | .agg _ | .tuple _ => false
  | _ => true
def aC {α : Type} (P : Program) : Sem α -> Option α
  | .pure a => some a
  | .program k => aC P (k P)
  | .mark _ k => aC P k
  | .load .. | .store .. | .new .. | .shape .. | .freeze .. | .frozen .. | .getObj .. | .setObj .. | .choose .. | .sys .. | .halt .. => none
def aA (t : Tr) : Operand -> Value
  | .tmp i => t.get i
  | .const v => if af v then v else gP
  | .global _ => gP
  | .func f => .func (.func f) #[] #[]
def big : Nat := 1000000000000
section
variable (P : Program)
def wC : TypeDesc -> Bool
  | .struct _ | .array _ _ => true
  | _ => false
def eE (t : TypeId) (v : Value) (h : Heap) : Option Value :=
  match v with
  | .pointer (some ⟨b, o, none⟩) =>
    match h.get b, P.underlying t, P.info? t with
    | some (.row _ cs _ _), some d, some i =>
      if wC d then (if o + i.size <= cs.length then some (.agg ((cs.drop o).take i.size).toArray) else none) else cs[o]?
    | _, _, _ => none
  | _ => none
def bF (cs : List Value) (o : Nat) (vs : List Value) : List Value := cs.take o ++ vs ++ cs.drop (o + vs.length)
def gF (t : TypeId) (a x : Value) (h : Heap) : Option Heap :=
  match a with
  | .pointer (some ⟨b, o, none⟩) =>
    match h.get b, P.info? t with
    | some (.row e cs true more), some i =>
      let vs := x.cells.toList
      if vs.length = i.size /\ o + vs.length <= cs.length /\ vs.all aN = true then some (h.set b (.row e (bF cs o vs) true more)) else none
    | _, _ => none
  | _ => none
def qE (e : TypeId) (v : Value) (h : Heap) : Option (Value × Heap) :=
  if v.cells.toList.all aN then some (.pointer (some ⟨h.next, 0, none⟩), h.push (.row e v.cells.toList true false)) else none
def iF (t : TypeId) (len : Nat) (parts : Array (Nat × Value)) (h : Heap) : Option (Value × Heap) :=
  match P.underlying t with
  | some (.slice e) =>
    match P.info? e with
    | some i =>
      bif Nat.beq len 0 then bif parts.toList.isEmpty then some (.slice (some ⟨h.next, 0, none⟩) 0 0, h.push (.row e [] true false)) else none
      else
        match i.zero with
        | some z =>
          bif Nat.ble (len * i.size) 16777216 && Nat.blt 0 i.size && z.cells.toList.all dQ && parts.toList.all (fun p => p.2.cells.toList.all aN) then
            match Instr.fill (fun k => some (k * i.size, i.size)) ((Array.range (len * i.size)).map (z.cells[· % z.cells.size]!)) parts.toList with
            | some cells => some (.slice (some ⟨h.next, 0, none⟩) len 0, h.push (.row e cells.toList true false))
            | none => none
          else none
        | none => none
    | none => none
  | _ => none
def kU (z : Value) (n : Nat) : List Value := (List.range (n * z.cells.size)).map fun k => z.cells[k % z.cells.size]!
def pB (t : TypeId) (l c : Value) (h : Heap) : Option (Value × Heap) :=
  match P.underlying t, l, c with
  | some (.slice e), .int .i64 l, .int .i64 c =>
    match P.info? e with
    | some i =>
      match i.zero with
      | some z =>
        bif decide (0 <= l) && decide (l <= c) && decide (c <= 1099511627776) && Nat.ble (i.bytes * c.toNat) 1099511627776 && Nat.blt 0 i.size && Nat.beq z.cells.size i.size && z.cells.toList.all dQ then
          some (.slice (some ⟨h.next, 0, none⟩) l.toNat 0, h.push (.row e (kU z c.toNat) true false))
        else none
      | none => none
    | none => none
  | _, _, _ => none
def dA : Option Value -> Nat -> Option Nat
  | none, d => some d
  | some (.int _ i), _ => if 0 <= i then some i.toNat else none
  | some _, _ => none
def mA (e : TypeId) (b l mk : Nat) (h : Heap) : Nat :=
  bif Nat.beq l 0 then mk else bif Nat.beq mk 0 then
    match h.get b with
    | some (.row e' _ _ _) => bif Nat.beq e' e then 0 else 2
    | _ => 2
  else 2
def cutAt (size b o l k mk : Nat) : Value := bif Nat.blt l k || Nat.beq l 0 then .slice (some ⟨b, o + l * size, none⟩) (k - l) mk else .slice (some ⟨0, 0, none⟩) 0 2
def bV (t : TypeId) (x : Value) (lo hi mx : Option Value) (h : Heap) : Option Value :=
  match P.underlying t with
  | some .string =>
    bif af x && lo.all af && hi.all af && mx.all af then (aC P (Instr.sliceAt t x lo hi mx)).bind fun v => bif af v then some v else none else none
  | some (.slice e) =>
    match x with
    | .slice none 0 0 =>
      match dA lo 0, dA hi 0, dA mx 0 with
      | some 0, some 0, some 0 => bif mx.isNone || hi.isSome then (P.info? e).map fun _ => .slice none 0 0 else none
      | _, _, _ => none
    | .slice (some ⟨b, o, none⟩) n mk =>
      match P.info? e, dA lo 0, dA hi n with
      | some i, some l, some k =>
        match mx with
        | none =>
          bif Nat.ble l k && Nat.ble k n then
            some (cutAt i.size b o l k (bif Nat.beq mk 1 then (bif Nat.beq k n then 1 else 2) else mA e b l mk h))
          else bif Nat.blt l k && Nat.beq mk 0 then
            match h.get b with
            | some (.row e' cs true _) => bif Nat.beq e' e && Nat.blt 0 i.size && Nat.ble (o + k * i.size) cs.length then some (cutAt i.size b o l k 0) else none
            | _ => none
          else none
        | some _ =>
          match hi, dA mx 0 with
          | some _, some m => bif Nat.ble l k && Nat.beq k m && Nat.ble k n then some (cutAt i.size b o l k 1) else none
          | _, _ => none
      | _, _, _ => none
    | _ => none
  | some (.array n e) =>
    match x with
    | .pointer (some ⟨b, o, none⟩) =>
      match P.info? e, dA lo 0, dA hi n, mx with
      | some i, some l, some k, none => bif Nat.blt l k && Nat.beq k n then some (.slice (some ⟨b, o + l * i.size, none⟩) (k - l) 1) else none
      | _, _, _, _ => none
    | _ => none
  | _ => none
def cellsOf (size n : Nat) (x : Value) (h : Heap) : Option (List Value) :=
  match x with
  | .slice none 0 0 => bif Nat.beq n 0 then some [] else none
  | .slice (some ⟨b, o, none⟩) k _ =>
    bif Nat.ble n k then
      bif Nat.beq (n * size) 0 then some []
      else match h.get b with
        | some (.row _ cs _ _) => bif Nat.ble (o + n * size) cs.length then some ((cs.drop o).take (n * size)) else none
        | _ => none
    else none
  | .string s => some ((s.extract 0 n).data.map fun b => .int .u8 b.toNat).toList
  | _ => none
def lB : Value -> Option Nat
  | .slice _ n _ => some n
  | .string s => some s.size
  | _ => none
def isInt : TypeDesc -> Bool
  | .int _ => true
  | _ => false
def iN (i : TypeInfo) (z : Value) (made : Bool) (x : Value) (h : Heap) : Option (Nat × List Value) :=
  bif made then
    match x with
    | .int .i64 l => bif decide (0 <= l) && decide (l <= 1099511627776) && Nat.ble (l.toNat * i.bytes) 1099511627776 && z.cells.toList.all dQ then some (l.toNat, kU z l.toNat) else none
    | _ => none
  else match lB x with
    | some m => (cellsOf i.size m x h).map fun cs => (m, cs)
    | none => none
def grown (e : TypeId) (n : Nat) (cs : List Value) (h : Heap) : Value × Heap := (.slice (some ⟨h.next, 0, none⟩) n 0, h.push (.row e cs true true))
def n7 (e : TypeId) (i : TypeInfo) (s : Value) (m : Nat) (news : List Value) (h : Heap) : Option (Value × Heap) :=
  match s with
  | .slice none 0 0 => bif Nat.beq m 0 then some (.slice none 0 0, h) else bif Nat.ble (m * i.bytes) 274877906944 then some (grown e m news h) else none
  | .slice (some ⟨b, o, none⟩) n mk =>
    bif Nat.beq m 0 && Nat.beq mk 1 then some (s, h) else
    match h.get b with
    | some (.row e' cs own more) =>
      bif Nat.beq e' e && Nat.ble ((n + m) * i.bytes) 274877906944 && Nat.ble (o + n * i.size) cs.length then
        bif Nat.beq mk 1 then some (grown e (n + m) ((cs.drop o).take (n * i.size) ++ news) h)
        else bif Nat.beq mk 0 && own then
          bif Nat.ble (o + (n + m) * i.size) cs.length then some (.slice (some ⟨b, o, none⟩) (n + m) 0, bif Nat.beq m 0 then h else h.set b (.row e (bF cs (o + n * i.size) news) own more))
          else bif !more then some (grown e (n + m) ((cs.drop o).take (n * i.size) ++ news) h)
          else bif Nat.beq o 0 && Nat.beq (n * i.size) cs.length then some (grown e (n + m) (cs ++ news) (h.drop b))
          else none
        else none
      else none
    | _ => none
  | _ => none
def dR (argTypes : Array TypeId) (s x : Value) (h : Heap) : Option (Value × Heap) :=
  match argTypes[0]?, argTypes[1]? with
  | some st, some xt =>
    match P.underlying st, P.underlying xt with
    | some (.slice e), some xd =>
      match P.info? e with
      | some i =>
        match i.zero with
        | some z =>
          match iN i z (isInt xd) x h with
          | some (m, news) =>
            bif Nat.blt 0 i.size && Nat.blt 0 i.bytes && Nat.beq news.length (m * i.size) && news.all aN && Nat.beq z.cells.size i.size then n7 e i s m news h
            else none
          | none => none
        | none => none
      | none => none
    | _, _ => none
  | _, _ => none
def k8 (argTypes : Array TypeId) (d x : Value) (h : Heap) : Option (Value × Heap) :=
  match argTypes[0]? with
  | some dt =>
    match P.underlying dt with
    | some (.slice e) =>
      match P.info? e, lB x, lB d with
      | some i, some m, some k =>
        match cellsOf i.size (Nat.min m k) x h with
        | some vs =>
          bif Nat.beq vs.length (Nat.min m k * i.size) && vs.all aN then
            match d with
            | .slice none 0 0 => some (.int .i64 (Nat.min m k : Nat), h)
            | .slice (some ⟨b, o, none⟩) _ _ =>
              bif Nat.beq (Nat.min m k * i.size) 0 then some (.int .i64 (Nat.min m k : Nat), h) else
              match h.get b with
              | some (.row e' cs true more) => bif Nat.ble (o + Nat.min m k * i.size) cs.length then some (.int .i64 (Nat.min m k : Nat), h.set b (.row e' (bF cs o vs) true more)) else none
              | _ => none
            | _ => none
          else none
        | none => none
      | _, _, _ => none
    | _ => none
  | none => none
def C1 (argTypes : Array TypeId) (x : Value) (h : Heap) : Option Heap :=
  match argTypes[0]? with
  | some t =>
    match P.underlying t with
    | some (.slice e) =>
      match x with
      | .slice none 0 0 => some h
      | .slice (some ⟨b, o, none⟩) n _ =>
        bif Nat.beq n 0 then some h else
        match P.info? e, h.get b with
        | some i, some (.row e' cs true more) =>
          match i.zero with
          | some z => bif (kU z n).all dQ && Nat.ble (o + (kU z n).length) cs.length then some (h.set b (.row e' (bF cs o (kU z n)) true more)) else none
          | none => none
        | _, _ => none
      | _ => none
    | _ => none
  | none => none
def pC (argTypes : Array TypeId) (x : Value) (h : Heap) : Option Value :=
  match x with
  | .map (some b) =>
    match (argTypes[0]?).bind P.underlying, h.get b with
    | some (.map _ _), some (.qA es _) => some (.int .i64 es.length)
    | _, _ => none
  | .slice _ n _ =>
    match (argTypes[0]?).bind P.underlying with
    | some (.slice _) => some (.int .i64 n)
    | _ => none
  | .string s =>
    match (argTypes[0]?).bind P.underlying with
    | some .string => some (.int .i64 s.size)
    | _ => none
  | .map none =>
    match (argTypes[0]?).bind P.underlying with
    | some (.map _ _) => some (.int .i64 0)
    | _ => none
  | _ => none
def XE (argTypes : Array TypeId) (x : Value) (h : Heap) : Option Value :=
  match (argTypes[0]?).bind P.underlying, x with
  | some (.slice e), .slice (some ⟨b, o, none⟩) n mk =>
    bif Nat.beq mk 1 then some (.int .i64 n) else
    match P.info? e, h.get b with
    | some i, some (.row e' cs true false) => bif Nat.beq e' e && Nat.blt 0 i.size && Nat.ble o cs.length && Nat.beq mk 0 then some (.int .i64 ((cs.length - o) / i.size : Nat)) else none
    | _, _ => none
  | some (.slice _), .slice none 0 0 => some (.int .i64 0)
  | _, _ => none
def kV : List Value -> Option (List UInt8)
  | [] => some []
  | .int .u8 (.ofNat n) :: r => bif Nat.blt n 256 then (kV r).map (UInt8.ofNat n :: ·) else none
  | _ => none
def pD (x : Value) : Option Value := match x with
  | .slice none 0 0 => some (.pointer none)
  | .slice (some ⟨b, o, none⟩) n _ => bif Nat.beq n 0 then none else some (.pointer (some ⟨b, o, none⟩))
  | _ => none
def iA (argTypes : Array TypeId) (p n : Value) (h : Heap) : Option (Value × Heap) :=
  match argTypes.toList, p, n with
  | [pt, _], .pointer none, .int .i64 0 => match P.underlying pt with
    | some (.pointer _) => some (.string .empty, h)
    | _ => none
  | [pt, _], .pointer (some ⟨b, 0, none⟩), .int .i64 (.ofNat (n + 1)) => match P.underlying pt, h.get b with
    | some (.pointer e), some (.row e' cs true _) => bif Nat.beq e' e && Nat.beq (P.cellsOf e) 1 && Nat.ble (n + 1) cs.length && Nat.ble n 1000000000 then
        match kV (cs.take (n + 1)) with
        | some l => some (.string ⟨l.toArray⟩, h.drop b)
        | none => none
      else none
    | _, _ => none
  | _, _, _ => none
def bU (s : Sem Value) : Option Value := (aC P s).bind fun v => if af v then some v else none
def wD (b : Builtin) (argTypes : Array TypeId) (type : TypeId) (args : List Value) (h : Heap) : Option (Value × Heap) :=
  match b, args with
  | .append, [s, x] => dR P argTypes s x h
  | .copy, [d, x] => k8 P argTypes d x h
  | .clear, [x] => (C1 P argTypes x h).map fun h' => (.tuple #[], h')
  | .len, [x] => (pC P argTypes x h).map fun v => (v, h)
  | .cap, [x] => (XE P argTypes x h).map fun v => (v, h)
  | .unsafeSliceData, [x] => (pD x).map fun v => (v, h)
  | .unsafeString, [p, n] => iA P argTypes p n h
  | .min, args => if args.all af then (bU P (Builtin.min_ argTypes type args.toArray)).map fun v => (v, h) else none
  | .max, args => if args.all af then (bU P (Builtin.max_ argTypes type args.toArray)).map fun v => (v, h) else none
  | _, _ => none
def I1 (keyType : TypeId) (k : Value) (es : List MapEntry) : Option (Option Nat) :=
  match P.underlying keyType with
  | some d => match Instr.findNow d k es 0 with
    | some r => some (r.map (·.1))
    | none => (aC P (Instr.findAsking keyType k es)).map fun r => r.map (·.1)
  | none => none
def E2 (XF : TypeId) (x k : Value) (SU : Bool) (h : Heap) : Option Value :=
  match P.underlying XF with
  | some (.map key elem) =>
    match (P.info? elem).bind (·.zero) with
    | some z =>
      let es := match x with
        | .map none => some []
        | .map (some b) => match h.get b with | some (.qA es _) => some es | _ => none
        | _ => none
      match es with
      | some es =>
        if af k = true /\ af z = true /\ (aC P (Instr.checkKey es.isEmpty 10000 key k)).isSome = true then
          match I1 P key k es with
          | some (some i) => match es[i]? with
            | some e => some (if SU then .tuple #[e.val, .bool true] else e.val)
            | none => none
          | some none => some (if SU then .tuple #[z, .bool false] else z)
          | none => none
        else none
      | none => none
    | none => none
  | _ => none
def wE (mapType : TypeId) (m k v : Value) (h : Heap) : Option Heap :=
  match P.underlying mapType, m with
  | some (.map key _), .map (some b) =>
    match h.get b with
    | some (.qA es clock) =>
      if af k = true /\ (aC P (Instr.checkKey false 10000 key k)).isSome = true then
        match I1 P key k es with
        | some (some i) => match es[i]? with
          | some e => if Instr.sameBits 10000 e.key k = true then some (h.set b (.qA (es.set i { e with key := k, val := v }) clock)) else none
          | none => none
        | some none => some (h.set b (.qA (es ++ [{ key := k, val := v, born := clock }]) (clock + 1)))
        | none => none
      else none
    | _ => none
  | _, _ => none
def xS (XF : TypeId) (x : Value) (h : Heap) : Option (Value × Heap) :=
  match P.underlying XF, x with
  | some .string, .string s => some (.pointer (some ⟨h.next, 0, none⟩), h.push (.iter s 0))
  | _, _ => none
def wF (it : Value) (isString : Bool) (h : Heap) : Option (Value × Heap) :=
  match it, isString with
  | .pointer (some ⟨b, 0, none⟩), true =>
    match h.get b with
    | some (.iter s pos) =>
      if pos < s.size then
        let d := Utf8.decode s pos
        some (.tuple #[.bool true, .int .i64 pos, .int .i32 d.1], h.set b (.iter s (pos + d.2)))
      else some (.tuple #[.bool false], h)
    | _ => none
  | _, _ => none
def SV : BinOp -> Option Bool
  | .eql => some false
  | .neq => some true
  | _ => none
def E3 (op : BinOp) (t : TypeId) (x y : Value) : Option Bool :=
  match x, y with
  | .slice (some _) _ _, .slice none 0 0 => match P.underlying t with
    | some (.slice _) => SV op
    | _ => none
  | .map (some _), .map none => match P.underlying t with
    | some (.map _ _) => SV op
    | _ => none
  | .func _ _ _, .nilFunc => match P.underlying t with
    | some (.func _ _ _) => SV op
    | _ => none
  | _, _ => none
def jH (k : FloatKind) : Value := .iface 0 (.float k 0)
def C2 : Value -> Bool
  | .iface 0 (.float _ 0) => true
  | _ => false
def uK : Value -> Option FloatKind
  | .float k _ => some k
  | .iface 0 (.float k 0) => some k
  | _ => none
def IN (op : BinOp) (k : FloatKind) (a b : Nat) : Bool := match op with
  | .add => (k.format.add a b).isNone
  | .sub => (k.format.sub a b).isNone
  | .mul => (k.format.mul a b).isNone
  | .quo => (k.format.div a b).isNone
  | _ => false
def zI (op : BinOp) (x y : Value) : Option Value := match x, y with
  | .float k a, .float k' b => bif decide (k = k') && IN op k a b then some (jH k) else none
  | _, _ => none
def I3 : BinOp -> Option Bool
  | .eql | .lss | .leq | .gtr | .geq => some false
  | .neq => some true
  | _ => none
def sA (op : BinOp) (x y : Value) : Option Bool := match uK x, uK y with
  | some k, some k' => bif decide (k = k') && (C2 x || C2 y) then I3 op else none
  | _, _ => none
def tT (s d : TypeId) (x : Value) : Option Value := match x, P.underlying s, P.underlying d with
  | .float k b, some _, some (.float k') => bif !decide (k = k') && (k.decode b).isNaN then some (jH k') else none
  | _, _, _ => none
def gG (s d : TypeId) (x : Value) (h : Heap) : Option Value := match x with
  | .slice (some a) n mk => match P.underlying s with
    | some (.slice e) => match P.underlying e with
      | some (.int .u8) => match P.underlying d with
        | some .string => match cellsOf 1 n (.slice (some a) n mk) h with
          | some cs => (kV cs).map fun l => .string ⟨l.toArray⟩
          | none => none
        | _ => none
      | _ => none
    | _ => none
  | _ => none
def bQ (call : FuncId -> List Value -> Heap -> Option (Value × Heap)) (yield : Nat -> List Value -> Heap -> Option (Value × Heap)) (o : Oper) (ev : Operand -> Value) (h : Heap) :
    Option (Value × Heap) :=
  match o.op with
  | .move x | .assign x => some (ev x, h)
  | .pick c a b => match ev c with
    | .bool true => some (ev a, h)
    | .bool false => some (ev b, h)
    | _ => none
  | .alloc e => match (P.info? e).bind (·.zero) with
    | some z => if af z then qE e z h else none
    | none => none
  | .box e x => qE e (ev x) h
  | .build t parts =>
    bif parts.toList.all (fun p => (ev p.2).cells.toList.all aN) && (((P.info? t).bind (·.zero)).map fun z => z.cells.toList.all dQ) == some true then
      (aC P (Instr.build t (parts.map fun p => (p.1, ev p.2)))).map fun v => (v, h)
    else none
  | .buildSlice t len parts => iF P t len (parts.map fun p => (p.1, ev p.2)) h
  | .load t a => (eE P t (ev a) h).map fun v => (v, h)
  | .store t a x => (gF P t (ev a) (ev x) h).map fun h' => (undef, h')
  | .nilCheck x => match ev x with
    | .pointer (some a) => some (.pointer (some a), h)
    | .func (.func f) a b => some (.func (.func f) a b, h)
    | _ => none
  | .binOp op t x y _ =>
    if af (ev x) && af (ev y) then ((bU P (do eqGuard op t x y (ev x) (ev y); binOp op t (ev x) (ev y))).or (zI op (ev x) (ev y))).map fun v => (v, h)
    else ((E3 P op t (ev x) (ev y)).or (sA op (ev x) (ev y))).map fun b => (.bool b, h)
  | .unOp op _ x => if af (ev x) then (bU P (Op.unary op (ev x))).map fun v => (v, h) else none
  | .convert s d x => if af (ev x) then ((bU P (convert s d (ev x))).or (tT P s d (ev x))).map fun v => (v, h) else (gG P s d (ev x) h).map fun v => (v, h)
  | .makeFunc (.func f) first captured => some (.func (.func f) (first.map ev) (captured.map ev), h)
  | .makeMap _ none => some (.map (some h.next), h.push (.qA [] 0))
  | .makeSlice t l c => pB P t (ev l) (ev c) h
  | .slice t x lo hi mx => (bV P t (ev x) (lo.map ev) (hi.map ev) (mx.map ev) h).map fun v => (v, h)
  | .fieldAddr s x f => (aC P (Instr.fieldAt s (ev x) f)).map fun v => (v, h)
  | .field t x f => (aC P (Instr.field t (ev x) f)).map fun v => (v, h)
  | .indexAddr t x ix => if af (ev ix) then (aC P (Instr.indexAt t (ev x) (ev ix))).map fun v => (v, h) else none
  | .index t x ix => if af (ev ix) then (aC P (Instr.index t (ev x) (ev ix))).map fun v => (v, h) else none
  | .lookup t x k ok => (E2 P t (ev x) (ev k) ok h).map fun v => (v, h)
  | .mapUpdate t m k x | .insert t m k x => (wE P t (ev m) (ev k) (ev x) h).map fun h' => (undef, h')
  | .range t x => xS P t (ev x) h
  | .next it s => wF (ev it) s h
  | .extract t ix => bif tS (ev t) then none else (aC P (Instr.extract (ev t) ix)).map fun v => (v, h)
  | .call c =>
    match c.callee with
    | .builtin b => wD P b c.argTypes o.type (c.args.toList.map ev) h
    | .value f => match ev f with
      | .func (.func g) first captured => call g (first.toList ++ c.args.toList.map ev ++ captured.toList) h
      | .func (.yield l) ⟨[]⟩ ⟨[]⟩ => yield l (c.args.toList.map ev) h
      | _ => none
    | .invoke _ _ => none
  | _ => none
def uY (o : Oper) (ev : Operand -> Value) (h : Heap) : Option (Value × Heap) := match o.op with
  | .convert s d x => match ev x with
    | .slice (some ⟨b, 0, none⟩) n 0 => match P.underlying s with
      | some (.slice e) => match P.underlying e with
        | some (.int .u8) => match h.get b with
          | some (.row e' cs true false) => bif Nat.beq s d && Nat.beq n cs.length && Nat.beq (P.cellsOf e') 1 then some (.slice (some ⟨h.next, 0, none⟩) n 0, (h.drop b).push (.row e' cs true false)) else none
          | _ => none
        | _ => none
      | _ => none
    | _ => none
  | _ => none
def C3 (o : Oper) (ev : Operand -> Value) (h : Heap) : Option (Value × Heap) := match o.op with
  | .convert s d x => match ev x with
    | .slice (some ⟨b, 0, none⟩) n _ => match P.underlying s with
      | some (.slice e) => match P.underlying e with
        | some (.int .u8) => match P.underlying d with
          | some .string => match h.get b with
            | some (.row _ cs true _) => bif Nat.ble n cs.length then (kV (cs.take n)).map fun l => (.string ⟨l.toArray⟩, h) else none
            | _ => none
          | _ => none
        | _ => none
      | _ => none
    | _ => none
  | _ => none
def C4 (o : Oper) (ev : Operand -> Value) (h : Heap) : Option (Value × Heap) := match o.op with
  | .convert s0 d x => match ev x with
    | .string s => match P.underlying s0, P.underlying d with
      | some _, some (.slice e) => match P.underlying e with
        | some (.int .u8) => bif Nat.beq (P.cellsOf e) 1 && Nat.blt 0 s.size then some (.slice (some ⟨h.next, 0, none⟩) s.size 0, h.push (.row e (s.data.map fun b => Value.int .u8 b.toNat).toList true true)) else none
        | _ => none
      | _, _ => none
    | _ => none
  | _ => none
def aeU (h : Heap) (g : Nat) : Value := match h.get (g + 1), P.globals[g]? with
  | some (.row e _ false true), some gl => bif Nat.beq gl.type e then .pointer (some ⟨g + 1, 0, none⟩) else gP
  | _, _ => gP
def evG (h : Heap) (ev : Operand -> Value) : Operand -> Value
  | .global g => aeU P h g
  | x => ev x
def aq9 : Op -> Bool
  | .load _ (.global _) | .slice _ (.global _) none none none | .indexAddr _ (.global _) _ => true
  | _ => false
def xT (o : Oper) (ev : Operand -> Value) (h : Heap) : Option (Value × Heap) := match uY P o ev h with
  | some r => some r
  | none => match C3 P o ev h with
    | some r => some r
    | none => match C4 P o ev h with
     | some r => some r
     | none => bif aq9 o.op then bQ P (fun _ _ _ => none) (fun _ _ _ => none) o (evG P h ev) h else none
def pF (call : FuncId -> List Value -> Heap -> Option (Value × Heap)) (yield : Nat -> List Value -> Heap -> Option (Value × Heap)) (o : Oper) (ev : Operand -> Value) (h : Heap) : Option (Value × Heap) :=
  match bQ P call yield o ev h with
  | some r => some r
  | none => xT P o ev h
def b9 (ops : Array Oper) (t : Tr) (o : Oper) : Option Bool :=
  match o.guard with
  | none => some true
  | some (j, want) =>
    match (ops[j]?).bind (·.dst) with
    | none => some false
    | some d => match t.get d with
      | .bool b => some (b == want)
      | .tuple ⟨[]⟩ => some false
      | _ => none
def depth : Nat := 13
def put (n : Nat) (t : Tr) (dst : Option Tmp) (v : Value) : Option Tr :=
  match dst with
  | some d => bif Nat.blt d n then some (t.set depth d v) else none
  | none => some t
def oG (step : Oper -> (Operand -> Value) -> Heap -> Option (Value × Heap)) (ops : Array Oper) (n : Nat) : List Oper -> Tr -> Heap -> Option (Tr × Heap)
  | [], t, h => some (t, h)
  | o :: r, t, h =>
    match b9 ops t o with
    | some true => match step o (aA t) h with
      | some (v, h') => match put n t o.dst v with
        | some t' => oG step ops n r t' h'
        | none => none
      | none => none
    | some false => match put n t o.dst undef with
      | some t' => oG step ops n r t' h
      | none => none
    | none => none
def calm : Op -> Bool
  | .move _ | .assign _ | .pick .. | .build .. | .nilCheck _ | .binOp .. | .unOp .. | .convert .. | .makeFunc .. | .fieldAddr .. | .field .. | .indexAddr .. | .index .. | .extract .. => true
  | .call { callee := .builtin .max, .. } | .call { callee := .builtin .min, .. } => true
  | _ => false
def outside (lo hi : Nat) (p : Nat × aU) : Bool := !(decide (lo <= p.1) && decide (p.1 < hi))
def mask (b : Nat) : List (Nat × Nat × Nat) -> List (Nat × aU) -> List (Nat × aU)
  | [], aB => aB
  | (k, lo, hi) :: segs, aB => mask b segs (if b.testBit k then aB else aB.filter (outside lo hi))
structure cM where
  t : Tr
  h : Heap
  bs : List Nat
  segs : List (Nat × Nat × Nat)
  mem : Nat
  tail : Bool
def aJ (bs : List Nat) (o : Oper) : Nat := o.after.toList.foldl (fun s e => if Region.binds .any e then s ||| 2 ^ e.on ||| bs.getD e.on 0 else s) 0
def AL : List Oper -> List Nat -> List Nat
  | [], bs => bs
  | o :: r, bs => AL r (bs ++ [aJ bs o])
def reads (ops : Array Oper) (o : Oper) : List Tmp := o.looksAt ops
def Q4 (ops : List Oper) (x : Tmp) : List Nat := (ops.zipIdx).filterMap fun (o, i) => match o.dst with | some d => bif Nat.beq d x then some i else none | none => none
def SW (ops : Array Oper) (l : List Oper) (bs : List Nat) (o : Oper) (i : Nat) : Bool :=
  o.after.toList.all (fun e => !Region.binds .any e || Nat.blt e.on i) &&
  (match o.dst with | some d => (Q4 l d).all (Nat.beq i) | none => true) &&
  (o.looksAt ops).all fun x => (Q4 l x).all fun j => Nat.beq j i || (bs.getD i 0).testBit j || (bs.getD j 0).testBit i
def oP (ops : Array Oper) : Bool := let bs := AL ops.toList []; (ops.toList.zipIdx).all fun (o, i) => SW ops ops.toList bs o i
def codeOk : Code -> Bool
  | .region _ ops true => oP ops
  | .seq a b => codeOk a && codeOk b
  | .cond _ a b => codeOk a && codeOk b
  | .block _ b => codeOk b
  | .loop b => codeOk b
  | .scope b => codeOk b
  | .rangeFunc _ _ a b => codeOk a && codeOk b
  | _ => true
def inside (lo hi : Nat) (p : Nat × aU) : Bool := Nat.ble lo p.1 && Nat.blt p.1 hi
def bE (lo hi : Nat) (l : List (Nat × aU)) : List (Nat × aU) := bif Nat.beq lo hi then [] else l.filter (inside lo hi)
def eF (step : Oper -> (Operand -> Value) -> Heap -> Option (Value × Heap)) (ops : Array Oper) (n : Nat) (o : Oper) (i : Nat) (s : cM) : Option cM :=
  let b := aJ s.bs o
  let bs := s.bs ++ [b]
  match b9 ops s.t o with
  | some false => (put n s.t o.dst undef).map fun t => { s with t, bs }
  | none => none
  | some true =>
    if calm o.op then
      match step o (aA s.t) { next := s.h.next, low := s.h.next, aB := [] } with
      | some (v, h') => bif Nat.beq h'.next s.h.next then (put n s.t o.dst v).map fun t => { s with t, bs } else none
      | none => none
    else
      let ordered := Nat.beq (s.mem &&& b) s.mem
      bif s.tail && !ordered then none else
      match step o (aA s.t) { next := s.h.next, low := s.h.next, aB := bif ordered then s.h.aB else mask b s.segs s.h.aB } with
      | some (v, h') =>
        bif Nat.blt h'.next s.h.next then none else
        match put n s.t o.dst v with
        | some t =>
          let mem := s.mem ||| 2 ^ i
          let segs := (i, s.h.next, h'.next) :: s.segs
          bif Nat.ble s.h.next h'.low then
            some { t, h := { next := h'.next, low := s.h.low, aB := bE s.h.next h'.next h'.aB ++ s.h.aB }, bs, segs, mem, tail := s.tail }
          else bif ordered then some { t, h := { next := h'.next, low := min s.h.low h'.low, aB := h'.aB }, bs, segs, mem, tail := true }
          else none
        | none => none
      | none => none
def kC (step : Oper -> (Operand -> Value) -> Heap -> Option (Value × Heap)) (ops : Array Oper) (n : Nat) : List Oper -> Nat -> cM -> Option cM
  | [], _, s => some s
  | o :: r, i, s => match eF step ops n o i s with
    | some s' => kC step ops n r (i + 1) s'
    | none => none
structure Fr where
  t : Tr
  n : Nat
  marks : List Nat
inductive Ex where
  | normal
  | exit (id : Nat)
  | ret
  deriving DecidableEq
def Ex.goes : Ex -> Bool
  | .exit _ => false
  | _ => true
abbrev Rec := Option Nat -> Code -> Fr -> Heap -> Option (Ex × Fr × Heap)
def uZ (t : Tr) (h : Heap) : ResultVar -> Option Value
  | .tmp i => some (t.get i)
  | .cell a ty => eE P ty (t.get a) h
def iT (t : Tr) (h : Heap) : List ResultVar -> Option (List Value)
  | [] => some []
  | r :: rs => match uZ P t h r, iT t h rs with
    | some v, some vs => some (v :: vs)
    | _, _ => none
def j6 : Tr -> Nat -> List Value -> Tr
  | t, _, [] => t
  | t, i, v :: r => j6 (t.set depth i v) (i + 1) r
def gE : List Value -> Value
  | [v] => v
  | vs => .tuple vs.toArray
def jS : List Nat -> Heap -> Option Heap
  | [], h => some h
  | d :: r, h => match h.get d with
    | some .mM => jS r (h.drop d)
    | _ => none
def n8 (aV : Bool) (rec : Rec) (f : FuncId) (args : List Value) (h : Heap) : Option (Value × Heap) :=
  match P.funcs[f]? with
  | some fn =>
    match fn.body with
    | some c =>
      bif Nat.blt 4000 fn.ntmps || Nat.blt fn.ntmps args.length then none else
      match rec none c ⟨j6 .leaf 0 args, fn.ntmps, []⟩ { next := h.next, low := h.next, aB := h.aB } with
      | some (e, fr, h1) =>
        bif e.goes then
          match jS fr.marks h1 with
          | some h2 =>
            match iT P fr.t h2 fn.results.toList with
            | some vs =>
              let v := gE vs
              bif !aV && (af v && Nat.ble h.next h2.low) then some (v, h)
              else some (v, { next := h2.next, low := min h.low h2.low, aB := h2.aB })
            | none => none
          | none => none
        else none
      | none => none
    | none => none
  | none => none
def nO (rec : Rec) : FuncId -> List Value -> Heap -> Option (Value × Heap) := n8 P false rec
def zJ (n : Nat) : Tr -> List (Tmp × Value) -> Option Tr
  | t, [] => some t
  | t, (i, v) :: r => match put n t (some i) v with
    | some t' => zJ n t' r
    | none => none
def oD : Ex -> Option Code
  | .normal => none
  | .exit id => some (.exit id)
  | .ret => some .ret
def eG (rec : Rec) (l : Nat) (args : List Value) (h : Heap) : Option (Value × Heap) :=
  match h.get l with
  | some (.fI .ready _ tmps n params assign body _) =>
    bif Nat.beq args.length params.size then
      match zJ n tmps (params.toList.zip args) with
      | some t =>
        match rec (some l) assign ⟨t, n, []⟩ h with
        | some (.normal, fr, h1) =>
          match h1.get l with
          | some (.fI .ready jump tmps n params xU IP d) =>
            match rec (some l) body fr (h1.set l (.fI .busy jump tmps n params xU IP d)) with
            | some (e, _, h2) =>
              match h2.get l with
              | some (.fI _ _ tmps n params xU IP d) =>
                some (.bool (oD e).isNone, h2.set l (.fI (bif (oD e).isNone then .ready else .done) (oD e) tmps n params xU IP d))
              | _ => none
            | none => none
          | _ => none
        | _ => none
      | none => none
    else none
  | _ => none
def Q5 (aR : Option Nat) (h : Heap) : Option (Nat × List Nat × Heap) :=
  match aR with
  | none => some (h.next, [h.next], h.push .mM)
  | some l => match h.get l with
    | some (.fI _ _ _ _ _ _ _ d) => some (d, [], h)
    | _ => none
def n9 (rec : Rec) (aR : Option Nat) (g : Operand) (ps : Array Tmp) (assign body : Code) (fr : Fr) (h : Heap) : Option (Ex × Fr × Heap) :=
  match Q5 aR h with
  | some (d, mark, h1) =>
    match aA fr.t g with
    | .func (.func f) first captured =>
      match n8 P true rec f (first.toList ++ [.func (.yield h1.next) #[] #[]] ++ captured.toList) (h1.push (.fI .ready none fr.t fr.n ps assign body d)) with
      | some (_, h3) =>
        match h3.get h1.next with
        | some (.fI st jump tmps n params xU IP d) =>
          match st with
          | .busy => none
          | _ =>
            let h4 := h3.set h1.next (.fI .exhausted jump tmps n params xU IP d)
            let iO : Fr := { t := fr.t, n := fr.n, marks := mark ++ fr.marks }
            match jump with
            | none => some (.normal, iO, h4)
            | some .ret => some (.ret, iO, h4)
            | some (.exit id) => some (.exit id, iO, h4)
            | _ => none
        | _ => none
      | none => none
    | _ => none
  | none => none
def E4 (f : FuncId) (args : List Value) (h : Heap) : Option (Value × Heap) :=
  match P.funcs[f]? with
  | some fn => bif fn.body.isNone && !(fn.name == "runtime.NumGoroutine") then
      match Extern.findNext fn, Extern.find fn with
      | none, some e => bif args.all af then (bU P (e args.toArray)).map fun v => (v, h) else none
      | _, _ => none
    else none
  | none => none
def dL (orc : FuncId -> List Value -> Heap -> Option (Value × Heap)) (rec : Rec) : FuncId -> List Value -> Heap -> Option (Value × Heap) := fun f args h =>
  match orc f args h with
  | some r => some r
  | none => match E4 P f args h with
    | some r => some r
    | none => nO P rec f args h
def sB (op : Op) (ev : Operand -> Value) : Option Nat := match op with
  | .store _ a _ => match ev a with
    | .pointer (some ⟨b, _, none⟩) => some b
    | _ => none
  | .call { callee := .builtin .append, args, .. } => match (args.toList.map ev) with
    | .slice (some ⟨b, _, none⟩) _ _ :: _ => some b
    | _ => none
  | _ => none
def xV : Value -> Value -> Bool
  | .int k a, .int k' b => decide (k = k') && decide (a = b)
  | .bool a, .bool b => decide (a = b)
  | _, _ => false
def E5 : List Value -> List Value -> Bool
  | [], [] => true
  | a :: r, b :: q => xV a b && E5 r q
  | _, _ => false
def E6 : aU -> aU -> Bool
  | .row e cs o m, .row e' cs' o' m' => Nat.beq e e' && E5 cs cs' && decide (o = o') && decide (m = m')
  | _, _ => false
def sU (rd : List (Nat × aU)) (h : Heap) : Bool := rd.all fun p => match h.get p.1 with
  | some ob => E6 ob p.2
  | none => false
def sC (P : Program) (rd : List (Nat × aU)) (ops : Array Oper) (n : Nat) (o : Oper) (s : cM) : Option cM :=
  match b9 ops s.t o, o.op with
  | some true, .load T a =>
    match aA s.t a with
    | .pointer (some p) =>
      match look rd p.block with
      | some ob =>
        match eE P T (aA s.t a) { next := s.h.next, low := s.h.next, aB := [(p.block, ob)] } with
        | some v => (put n s.t o.dst v).map fun t => { s with t, bs := s.bs ++ [aJ s.bs o] }
        | none => none
      | none => none
    | _ => none
  | _, _ => none
def fX (P : Program) (rd : List (Nat × aU)) (step : Oper -> (Operand -> Value) -> Heap -> Option (Value × Heap)) (ops : Array Oper) (n : Nat) : List Oper -> Nat -> cM -> Option cM
  | [], _, s => bif sU rd s.h then some s else none
  | o :: r, i, s => bif sU rd s.h then
      match sC P rd ops n o s with
      | some s' => fX P rd step ops n r (i + 1) s'
      | none => match eF step ops n o i s with
        | some s' => fX P rd step ops n r (i + 1) s'
        | none => none
    else none
def v7 (h : Heap) (t : Tr) : List Oper -> List (Nat × aU)
  | [] => []
  | o :: r => match o.op with
    | .fieldAddr _ x _ => match aA t x with
      | .pointer (some ⟨b, _, none⟩) => match h.get b with
        | some ob => (b, ob) :: v7 h t r
        | none => v7 h t r
      | _ => v7 h t r
    | _ => v7 h t r
def C5 (P : Program) (h0 : Heap) (step : Oper -> (Operand -> Value) -> Heap -> Option (Value × Heap)) (ops : Array Oper) (n : Nat) (s : cM) (rd : List (Nat × aU)) : Option cM :=
  bif rd.all fun p => Nat.blt p.1 h0.next then fX P rd step ops n ops.toList 0 s else none
def xW : Op -> Bool
  | .load .. => true
  | _ => false
def wG (ops : Array Oper) : Bool :=
  let bs := AL ops.toList []
  (ops.toList.zipIdx).any fun (o, j) => match o.op with
    | .call { callee := .value (.func f), args, .. } => match args.toList with
      | .tmp x :: _ => (ops.toList.zipIdx).any fun (o', i) => Nat.blt i j && (match o'.op, o'.dst with
        | .call { callee := .value (.func f'), .. }, some d => Nat.beq f f' && Nat.beq d x && (ops.toList.zipIdx).any fun (o2, k) => xW o2.op && !(bs.getD k 0).testBit i && !(bs.getD i 0).testBit k
        | _, _ => false)
      | _ => false
    | _ => false
abbrev uL := cM × List Nat × List Nat
def oE (P : Program) (h0 : Heap) (op : Op) (ev : Operand -> Value) (nx : Nat) : Option (Value × List Nat) := match op with
  | .load T a => match ev a with
    | .pointer (some ⟨b, o, none⟩) => match h0.get b with
      | some ob => bif Nat.blt b h0.next then (eE P T (.pointer (some ⟨b, o, none⟩)) { next := nx, low := nx, aB := [(b, ob)] }).map fun v => (v, [b]) else none
      | none => none
    | _ => none
  | .call { callee := .builtin .len, args, argTypes, .. } => match args.toList with
    | [x] => (pC P argTypes (ev x) { next := nx, low := nx, aB := [] }).map fun v => (v, [])
    | _ => none
  | .slice T x lo hi mx => match ev x with
    | .slice p 0 mk => (bV P T (.slice p 0 mk) (lo.map ev) (hi.map ev) (mx.map ev) { next := nx, low := nx, aB := [] }).map fun v => (v, [])
    | .slice (some ⟨b, o, none⟩) n mk => match h0.get b with
      | some ob => bif Nat.blt b h0.next then (bV P T (.slice (some ⟨b, o, none⟩) n mk) (lo.map ev) (hi.map ev) (mx.map ev) { next := nx, low := nx, aB := [(b, ob)] }).map fun v => (v, [b]) else none
      | none => none
    | _ => none
  | .convert s d x => match ev x with
    | .slice (some ⟨b, o, none⟩) n mk => match h0.get b with
      | some ob => bif Nat.blt b h0.next then (gG P s d (.slice (some ⟨b, o, none⟩) n mk) { next := nx, low := nx, aB := [(b, ob)] }).map fun v => (v, [b]) else none
      | none => none
    | _ => none
  | _ => none
def pG (P : Program) (step : Oper -> (Operand -> Value) -> Heap -> Option (Value × Heap)) (ops : Array Oper) (n : Nat) (o : Oper) (i : Nat) (x : uL) : Option uL :=
  let s := x.1
  let b := aJ s.bs o
  let bs := s.bs ++ [b]
  let ordered := Nat.beq (s.mem &&& b) s.mem
  bif s.tail && !ordered then none else
  match step o (aA s.t) { next := s.h.next, low := s.h.next, aB := bif ordered then s.h.aB else mask b s.segs s.h.aB } with
  | some (v, h') =>
    bif Nat.blt h'.next s.h.next then none else
    match put n s.t o.dst v with
    | some t =>
      let mem := s.mem ||| 2 ^ i
      let segs := (i, s.h.next, h'.next) :: s.segs
      bif Nat.ble s.h.next h'.low then
        some ({ t, h := { next := h'.next, low := s.h.low, aB := bE s.h.next h'.next h'.aB ++ s.h.aB }, bs, segs, mem, tail := s.tail }, x.2)
      else bif ordered then
        match sB o.op (aA s.t) with
        | some k => some ({ t, h := { next := h'.next, low := min s.h.low h'.low, aB := h'.aB }, bs, segs, mem, tail := true }, x.2.1, k :: x.2.2)
        | none => none
      else none
    | none => none
  | none => none
def fC (P : Program) (h0 : Heap) (step : Oper -> (Operand -> Value) -> Heap -> Option (Value × Heap)) (ops : Array Oper) (n : Nat) (o : Oper) (i : Nat) (x : uL) : Option uL :=
  let s := x.1
  match b9 ops s.t o with
  | some false => (put n s.t o.dst undef).map fun t => ({ s with t, bs := s.bs ++ [aJ s.bs o] }, x.2)
  | none => none
  | some true =>
    if calm o.op then
      match step o (aA s.t) { next := s.h.next, low := s.h.next, aB := [] } with
      | some (v, h') => bif Nat.beq h'.next s.h.next then (put n s.t o.dst v).map fun t => ({ s with t, bs := s.bs ++ [aJ s.bs o] }, x.2) else none
      | none => match oE P h0 o.op (aA s.t) s.h.next with
        | some (v, b) => (put n s.t o.dst v).map fun t => ({ s with t, bs := s.bs ++ [aJ s.bs o] }, b ++ x.2.1, x.2.2)
        | none => none
    else match oE P h0 o.op (aA s.t) s.h.next with
      | some (v, b) => (put n s.t o.dst v).map fun t => ({ s with t, bs := s.bs ++ [aJ s.bs o] }, b ++ x.2.1, x.2.2)
      | none => pG P step ops n o i x
def iU (P : Program) (h0 : Heap) (step : Oper -> (Operand -> Value) -> Heap -> Option (Value × Heap)) (ops : Array Oper) (n : Nat) : List Oper -> Nat -> uL -> Option uL
  | [], _, x => some x
  | o :: r, i, x => match fC P h0 step ops n o i x with
    | some x' => iU P h0 step ops n r (i + 1) x'
    | none => none
def C6 (x : uL) : Bool := x.2.1.all fun b => x.2.2.all fun k => !Nat.beq b k
def sD (P : Program) (h0 : Heap) (step : Oper -> (Operand -> Value) -> Heap -> Option (Value × Heap)) (ops : Array Oper) (n : Nat) (s : cM) : Option cM :=
  bif wG ops then C5 P h0 step ops n s (v7 h0 s.t ops.toList) else
  match iU P h0 step ops n ops.toList 0 (s, [], []) with
  | some x => bif C6 x then some x.1 else none
  | none => none
def C7 : Op -> Bool
  | .load .. => true
  | _ => false
def abW : Op -> Bool
  | .store .. => true
  | _ => false
def IQ : Op -> Bool
  | .call { callee := .builtin .append, .. } => true
  | _ => false
def ak8 : Op -> Bool
  | .call { callee := .builtin .append, .. } => true
  | .buildSlice _ 0 _ => true
  | _ => false
def XG (l : List Oper) (o : Oper) (j : Nat) : Bool := match o.op with
  | .call { callee := .builtin .append, args, .. } => match args.toList with
    | .tmp x :: _ => (l.zipIdx).any fun (o', i) => Nat.blt i j && ak8 o'.op && (match o'.dst with | some d => Nat.beq d x | none => false)
    | _ => false
  | _ => false
def aeV : Op -> Bool
  | .call { callee := .value (.func _), .. } => true
  | _ => false
def aeW (l : List Oper) (o : Oper) (j : Nat) : Bool := match o.op with
  | .call { callee := .value (.func _), args, .. } => args.toList.any fun a => match a with
    | .tmp x => (l.zipIdx).any fun (o', i) => Nat.blt i j && aeV o'.op && (match o'.dst with | some d => Nat.beq d x | none => false)
    | _ => false
  | _ => false
def aeX (l : List Oper) (o : Oper) : Bool := match o.op with
  | .convert _ _ (.tmp x) => l.any fun o' => match o'.op, o'.dst with
    | .slice .., some d => Nat.beq d x
    | _, _ => false
  | _ => false
def xX (ops : Array Oper) : Bool :=
  let bs := AL ops.toList []
  wG ops || ops.toList.any (aeX ops.toList) || (ops.toList.zipIdx).any fun (o, j) => (abW o.op && (ops.toList.zipIdx).any fun (o', i) => C7 o'.op && Nat.blt i j && !(bs.getD j 0).testBit i) ||
    (IQ o.op && (ops.toList.zipIdx).any fun (o', i) => C7 o'.op && Nat.blt j i && !(bs.getD i 0).testBit j) ||
    (IQ o.op && XG ops.toList o j && (ops.toList.zipIdx).any fun (o', i) => C7 o'.op && Nat.blt i j && !(bs.getD j 0).testBit i) ||
    (aeW ops.toList o j && (ops.toList.zipIdx).any fun (o', i) => C7 o'.op && Nat.blt i j && !(bs.getD j 0).testBit i)
def bA (orc : FuncId -> List Value -> Heap -> Option (Value × Heap)) (rec : Rec) : Rec := fun aR c fr h =>
  match c with
  | .skip | .label _ => some (.normal, fr, h)
  | .seq a b => match rec aR a fr h with
    | some (.normal, fr1, h1) => rec aR b fr1 h1
    | r => r
  | .cond x a b => match aA fr.t x with
    | .bool true => rec aR a fr h
    | .bool false => rec aR b fr h
    | _ => none
  | .block id body => match rec aR body fr h with
    | some (.exit xN, fr1, h1) => bif Nat.beq xN id then some (.normal, fr1, h1) else some (.exit xN, fr1, h1)
    | r => r
  | .loop body => match rec aR body fr h with
    | some (.normal, fr1, h1) => rec aR (.loop body) fr1 h1
    | r => r
  | .exit id => some (.exit id, fr, h)
  | .ret => some (.ret, fr, h)
  | .region _ ops false => match oG (pF P (dL P orc rec) (eG rec)) ops fr.n ops.toList fr.t h with
    | some (t, h') => some (.normal, { t, n := fr.n, marks := fr.marks }, h')
    | none => none
  | .region _ ops true => match (bif xX ops then sD P h (bQ P (dL P orc rec) (eG rec)) ops fr.n ⟨fr.t, h, [], [], 0, false⟩ else kC (bQ P (dL P orc rec) (eG rec)) ops fr.n ops.toList 0 ⟨fr.t, h, [], [], 0, false⟩) with
    | some s => some (.normal, { t := s.t, n := fr.n, marks := fr.marks }, s.h)
    | none => none
  | .rangeFunc g ps assign body => n9 P rec aR g ps assign body fr h
  | .scope body => rec aR body fr h
  | .goto _ | .refuse _ => none
def cX (orc : FuncId -> List Value -> Heap -> Option (Value × Heap)) : Nat -> Rec
  | 0 => fun _ _ _ _ => none
  | n + 1 => bA P orc (cX orc n)
end
end Go.Fs
namespace Go.Fs
variable {P : Program}
def A9 (c c' : FuncId -> List Value -> Heap -> Option (Value × Heap)) : Prop := ∀ f a h r, c f a h = some r -> c' f a h = some r
def HN (r r' : Rec) : Prop := ∀ aR c fr h x, r aR c fr h = some x -> r' aR c fr h = some x
def AA (s s' : Oper -> (Operand -> Value) -> Heap -> Option (Value × Heap)) : Prop := ∀ o ev h r, s o ev h = some r -> s' o ev h = some r
theorem wH {c c' : FuncId -> List Value -> Heap -> Option (Value × Heap)} {y y' : Nat -> List Value -> Heap -> Option (Value × Heap)} (hc : A9 c c') (hy : A9 y y') : AA (bQ P c y) (bQ P c' y') := by
  intro o ev h r hf
  cases cU : o.op with
  | call cl =>
    unfold bQ at hf ⊢; rw [cU] at hf ⊢
    cases sE : cl.callee with
    | builtin b => simp only [sE] at hf ⊢; exact hf
    | invoke a b => simp only [sE] at hf; cases hf
    | value f =>
      simp only [sE] at hf ⊢; split at hf
      . exact hc _ _ _ _ hf
      . exact hy _ _ _ _ hf
      cases hf
  | makeFunc fn a b => unfold bQ at hf ⊢; rw [cU] at hf ⊢; cases fn <;> exact hf
  | makeMap t r => unfold bQ at hf ⊢; rw [cU] at hf ⊢; cases r <;> exact hf
  | _ => unfold bQ at hf ⊢; rw [cU] at hf ⊢; exact hf
def EqC (s s' : Oper -> (Operand -> Value) -> Heap -> Option (Value × Heap)) : Prop := ∀ o ev h, calm o.op = true -> s o ev h = s' o ev h
theorem E7 {c c' : FuncId -> List Value -> Heap -> Option (Value × Heap)} {y y' : Nat -> List Value -> Heap -> Option (Value × Heap)} : EqC (bQ P c y) (bQ P c' y') := by
  intro o ev h hc
  cases cU : o.op with
  | call q =>
    obtain ⟨cal, args, lR⟩ := q
    cases cal with
    | builtin b => unfold bQ; rw [cU]
    | value f => rw [cU] at hc; cases hc
    | invoke a b => rw [cU] at hc; cases hc
  | makeFunc fn a b =>
    unfold bQ; rw [cU]
    cases fn <;> rfl
  | _ =>
    first
      | (rw [cU] at hc; cases hc; done)
      | (unfold bQ; rw [cU])
theorem ak9 {c : FuncId -> List Value -> Heap -> Option (Value × Heap)} {y : Nat -> List Value -> Heap -> Option (Value × Heap)} : AA (bQ P c y) (pF P c y) := by
  intro o ev h r hf; unfold pF; rw [hf]
theorem XH {c c' : FuncId -> List Value -> Heap -> Option (Value × Heap)} {y y' : Nat -> List Value -> Heap -> Option (Value × Heap)} {o : Oper} {ev : Operand -> Value} {h : Heap} {r : Value × Heap} (hf : bQ P c y o ev h = none) (hm : xT P o ev h = some r) : bQ P c' y' o ev h = none := by
  cases cU : o.op with
  | convert s d x | load s d | slice s d x y z | indexAddr s d x =>
    unfold bQ at hf ⊢; rw [cU] at hf ⊢
    exact hf
  | _ => unfold xT uY C3 C4 at hm; rw [cU] at hm; cases hm
theorem G1 {c c' : FuncId -> List Value -> Heap -> Option (Value × Heap)} {y y' : Nat -> List Value -> Heap -> Option (Value × Heap)} (hc : A9 c c') (hy : A9 y y') : AA (pF P c y) (pF P c' y') := by
  intro o ev h r hf; unfold pF at hf ⊢
  cases hx : bQ P c y o ev h with
  | some r1 =>
    rw [hx] at hf; rw [wH hc hy _ _ _ _ hx]
    exact hf
  | none =>
    rw [hx] at hf; rw [XH hx hf]; exact hf
theorem tU {s s' : Oper -> (Operand -> Value) -> Heap -> Option (Value × Heap)} (hs : AA s s') {ops : Array Oper} {n : Nat} : ∀ (l : List Oper) (t : Tr) (h : Heap) (x : Tr × Heap), oG s ops n l t h = some x -> oG s' ops n l t h = some x
  | [], t, h, x, hf => hf
  | o :: l, t, h, x, hf => by
    simp only [oG] at hf ⊢; split at hf
    . rename_i hw
      try rw [hw]
      try simp only
      split at hf
      . rename_i v h1 cO; rw [hs _ _ _ _ cO]
        try simp only
        split at hf
        . rename_i t1 hp
          try rw [hp]
          exact tU hs l t1 h1 x hf
        cases hf
      cases hf
    . rename_i hw
      try rw [hw]
      try simp only
      split at hf
      . rename_i t1 hp
        try rw [hp]
        exact tU hs l t1 h x hf
      cases hf
    cases hf
theorem sF {s s' : Oper -> (Operand -> Value) -> Heap -> Option (Value × Heap)} (hs : AA s s') {ops : Array Oper} {n : Nat} {o : Oper} {i : Nat} {d x : cM} (hf : eF s ops n o i d = some x) : eF s' ops n o i d = some x := by
  unfold eF at hf ⊢; simp only at hf ⊢; split at hf
  . rename_i hw
    first | exact hf | (rw [hw]; exact hf)
  . cases hf
  rename_i hw
  try rw [hw]
  try simp only
  split at hf
  . rename_i hc; rw [if_pos hc]; split at hf
    . rename_i v h1 cO; rw [hs _ _ _ _ cO]; exact hf
    cases hf
  rename_i hc; rw [if_neg hc]
  cases mI : (d.tail && !Nat.beq (d.mem &&& aJ d.bs o) d.mem) with
  | true => rw [mI] at hf; cases hf
  | false =>
    rw [mI] at hf; simp only [cond_false] at hf ⊢; split at hf
    . rename_i v h1 cO; rw [hs _ _ _ _ cO]; exact hf
    cases hf
theorem uM {s s' : Oper -> (Operand -> Value) -> Heap -> Option (Value × Heap)} (hs : AA s s') {ops : Array Oper} {n : Nat} : ∀ (l : List Oper) (i : Nat) (d x : cM), kC s ops n l i d = some x -> kC s' ops n l i d = some x
  | [], i, d, x, hf => hf
  | o :: l, i, d, x, hf => by
    simp only [kC] at hf ⊢; split at hf
    . rename_i d1 hd; rw [sF hs hd]; exact uM hs l (i + 1) d1 x hf
    cases hf
section
variable {s s' : Oper -> (Operand -> Value) -> Heap -> Option (Value × Heap)} {ops : Array Oper} {n : Nat} {h0 : Heap}
theorem N4 (hs : AA s s') {o : Oper} {i : Nat} {x y : uL} (hf : pG P s ops n o i x = some y) : pG P s' ops n o i x = some y := by
  unfold pG at hf ⊢; simp only at hf ⊢
  cases mI : (x.1.tail && !Nat.beq (x.1.mem &&& aJ x.1.bs o) x.1.mem) with
  | true => rw [mI] at hf; cases hf
  | false =>
    rw [mI] at hf; simp only [cond_false] at hf ⊢; split at hf
    . rename_i v h1 cO; rw [hs _ _ _ _ cO]; exact hf
    cases hf
theorem xY (hs : AA s s') (he : EqC s s') {o : Oper} {i : Nat} {x y : uL} (hf : fC P h0 s ops n o i x = some y) : fC P h0 s' ops n o i x = some y := by
  unfold fC at hf ⊢; simp only at hf ⊢; split at hf
  . rename_i hw
    first | exact hf | (rw [hw]; exact hf)
  . cases hf
  rename_i hw
  try rw [hw]
  try simp only
  split at hf
  . rename_i hc; rw [if_pos hc, <- he _ _ _ hc]; exact hf
  rename_i hc; rw [if_neg hc]; split at hf
  . rename_i v b hq
    try rw [hq]
    exact hf
  rename_i hq
  try rw [hq]
  exact N4 hs hf
theorem rP (hs : AA s s') (he : EqC s s') : ∀ (l : List Oper) (i : Nat) (x y : uL), iU P h0 s ops n l i x = some y -> iU P h0 s' ops n l i x = some y
  | [], i, x, y, hf => hf
  | o :: l, i, x, y, hf => by
    simp only [iU] at hf ⊢; split at hf
    . rename_i d1 hd; rw [xY hs he hd]; exact rP hs he l (i + 1) d1 y hf
    cases hf
theorem mN {rd : List (Nat × aU)} (hs : AA s s') : ∀ (l : List Oper) (i : Nat) (x y : cM), fX P rd s ops n l i x = some y -> fX P rd s' ops n l i x = some y
  | [], i, x, y, hf => hf
  | o :: l, i, x, y, hf => by
    simp only [fX] at hf ⊢
    cases h1 : sU rd x.h with
    | false => rw [h1] at hf; cases hf
    | true =>
    rw [h1] at hf; simp only [cond_true] at hf ⊢; have h2 := hf; split at h2
    . rename_i s1 lC
      first
        | rw [lC]; exact mN hs l (i + 1) s1 y h2
        | exact mN hs l (i + 1) s1 y h2
    rename_i lC
    try rw [lC]
    split at h2
    . rename_i s1 hd; simp only [sF hs hd]; exact mN hs l (i + 1) s1 y h2
    cases h2
theorem Q6 (hs : AA s s') (he : EqC s s') {d y : cM} (hf : sD P h0 s ops n d = some y) : sD P h0 s' ops n d = some y := by
  unfold sD at hf ⊢
  cases hk : wG ops with
  | true =>
    rw [hk] at hf; simp only [cond_true] at hf ⊢; unfold C5 at hf ⊢
    cases h1 : (v7 h0 d.t ops.toList).all fun p => Nat.blt p.1 h0.next with
    | false => rw [h1] at hf; cases hf
    | true =>
      rw [h1] at hf; simp only [cond_true] at hf ⊢
      exact mN hs _ _ _ _ hf
  | false =>
    rw [hk] at hf; simp only [cond_false] at hf ⊢; split at hf
    . rename_i x hx; rw [rP hs he _ _ _ _ hx]; exact hf
    cases hf
end
theorem xZ {k : Bool} {r r' : Rec} (hr : HN r r') : A9 (n8 P k r) (n8 P k r') := by
  intro f a h x hf; unfold n8 at hf ⊢; split at hf
  . rename_i fn kX
    try rw [kX]
    try simp only
    split at hf
    . rename_i c hc
      try rw [hc]
      try simp only
      cases hb : (Nat.blt 4000 fn.ntmps || Nat.blt fn.ntmps a.length) with
      | true => rw [hb] at hf; cases hf
      | false =>
        rw [hb] at hf; simp only [cond_false] at hf ⊢; split at hf
        . rename_i e fr h1 eD; rw [hr _ _ _ _ _ eD]; exact hf
        cases hf
    cases hf
  cases hf
theorem AM {r r' : Rec} (hr : HN r r') : A9 (nO P r) (nO P r') := xZ hr
theorem r6 {r r' : Rec} (hr : HN r r') : A9 (eG r) (eG r') := by
  intro l a h x hf; unfold eG at hf ⊢; split at hf
  . rename_i jump tmps n params assign body d hg
    try rw [hg]
    try simp only
    obtain hb | hb : Nat.beq a.length params.size = true \/ Nat.beq a.length params.size = false := by cases Nat.beq a.length params.size <;> simp
    . rw [hb] at hf
      try rw [hb]
      simp only [cond_true] at hf ⊢; split at hf
      . rename_i t C8
        try rw [C8]
        try simp only
        split at hf
        . rename_i fr h1 eD; rw [hr _ _ _ _ _ eD]
          try simp only
          split at hf
          . rename_i j1 t1 n1 p1 a1 b1 d1 hg1
            try rw [hg1]
            try simp only
            split at hf
            . rename_i e IS h2 XI; rw [hr _ _ _ _ _ XI]; exact hf
            cases hf
          cases hf
        cases hf
      cases hf
    rw [hb] at hf; cases hf
  cases hf
theorem C9 {r r' : Rec} (hr : HN r r') {aR : Option Nat} {g : Operand} {ps : Array Tmp} {assign body : Code} {fr : Fr} {h : Heap} {x : Ex × Fr × Heap} (hf : n9 P r aR g ps assign body fr h = some x) :
    n9 P r' aR g ps assign body fr h = some x := by
  unfold n9 at hf ⊢; split at hf
  . rename_i d mark h1 hm
    try rw [hm]
    try simp only
    split at hf
    . rename_i f first captured bI
      try rw [bI]
      try simp only
      split at hf
      . rename_i v h3 eD; rw [xZ hr _ _ _ _ eD]; exact hf
      cases hf
    cases hf
  cases hf
theorem Q7 {orc : FuncId -> List Value -> Heap -> Option (Value × Heap)} {r r' : Rec} (hr : HN r r') : HN (bA P orc r) (bA P orc r') := by
  intro aR c fr h x hf
  have E8 : A9 (dL P orc r) (dL P orc r') := by
    intro f a h y hy; unfold dL at hy ⊢; split at hy
    . exact hy
    split at hy
    . exact hy
    exact AM hr _ _ _ _ hy
  have cU := wH (P := P) E8 (r6 hr)
  cases c with
  | skip => exact hf
  | label l => exact hf
  | exit id => exact hf
  | ret => exact hf
  | goto l => exact hf
  | refuse l => exact hf
  | scope b => exact hr _ _ _ _ _ hf
  | seq a b =>
    simp only [bA] at hf ⊢; split at hf
    . rename_i fr1 h1 h2; rw [hr _ _ _ _ _ h2]; exact hr _ _ _ _ _ hf
    rename_i cA; have h2 := hr _ _ _ _ _ hf; rw [h2]; split
    . rename_i fr1 h1 he; exact (cA fr1 h1 (by rw [hf]; exact he)).elim
    rfl
  | cond y a b =>
    simp only [bA] at hf ⊢; split at hf
    . exact hr _ _ _ _ _ hf
    . exact hr _ _ _ _ _ hf
    cases hf
  | block id b =>
    simp only [bA] at hf ⊢; split at hf
    . rename_i xN fr1 h1 h2; rw [hr _ _ _ _ _ h2]; exact hf
    rename_i cA; have h2 := hr _ _ _ _ _ hf; rw [h2]; split
    . rename_i xN fr1 h1 he; exact (cA xN fr1 h1 (by rw [hf]; exact he)).elim
    rfl
  | loop b =>
    simp only [bA] at hf ⊢; split at hf
    . rename_i fr1 h1 h2; rw [hr _ _ _ _ _ h2]; exact hr _ _ _ _ _ hf
    rename_i cA; have h2 := hr _ _ _ _ _ hf; rw [h2]; split
    . rename_i fr1 h1 he; exact (cA fr1 h1 (by rw [hf]; exact he)).elim
    rfl
  | region id ops draw =>
    cases draw with
    | false =>
      simp only [bA] at hf ⊢; split at hf
      . rename_i t h1 h2; rw [tU (G1 E8 (r6 hr)) _ _ _ _ h2]; exact hf
      cases hf
    | true =>
      simp only [bA] at hf ⊢
      cases hl : xX ops with
      | false =>
        rw [hl] at hf; simp only [cond_false] at hf ⊢; split at hf
        . rename_i s h2; rw [uM cU _ _ _ _ h2]; exact hf
        cases hf
      | true =>
        rw [hl] at hf; simp only [cond_true] at hf ⊢; split at hf
        . rename_i s h2; rw [Q6 cU E7 h2]; exact hf
        cases hf
  | rangeFunc g ps assign body => exact C9 hr hf
theorem AN {orc : FuncId -> List Value -> Heap -> Option (Value × Heap)} : ∀ m, HN (cX P orc m) (cX P orc (m + 1))
  | 0 => fun _ _ _ _ _ hf => by cases hf
  | m + 1 => Q7 (AN m)
theorem HN.refl (r : Rec) : HN r r := fun _ _ _ _ _ h => h
theorem kY {orc : FuncId -> List Value -> Heap -> Option (Value × Heap)} {m k : Nat} (hk : m <= k) : HN (cX P orc m) (cX P orc k) := by
  induction k with
  | zero =>
    have : m = 0 := by omega
    subst this; exact HN.refl _
  | succ k ih =>
    by_cases h : m = k + 1
    . subst h; exact HN.refl _
    exact fun aR c fr hp x hf => AN k _ _ _ _ _ (ih (by omega) aR c fr hp x hf)
end Go.Fs
namespace Go.Fs
section
variable (P : Program) (orc : FuncId -> List Value -> Heap -> Option (Value × Heap))
def kZ (m : Nat) : Oper -> (Operand -> Value) -> Heap -> Option (Value × Heap) := bQ P (dL P orc (cX P orc m)) (eG (cX P orc m))
def qF (m : Nat) : Oper -> (Operand -> Value) -> Heap -> Option (Value × Heap) := pF P (dL P orc (cX P orc m)) (eG (cX P orc m))
def fJ : Oper -> (Operand -> Value) -> Heap -> Option (Value × Heap) := bQ P (fun _ _ _ => none) (fun _ _ _ => none)
def iP (aR : Option Nat) (c : Code) (fr : Fr) (h : Heap) (Q : Ex -> Fr -> Heap -> Prop) : Prop := ∃ m e iO h', cX P orc m aR c fr h = some (e, iO, h') /\ Q e iO h'
def nP (f : FuncId) (args : List Value) (h : Heap) (Q : Value -> Heap -> Prop) : Prop := ∃ m v h', dL P orc (cX P orc m) f args h = some (v, h') /\ Q v h'
def oY (ops : Array Oper) (n : Nat) (l : List Oper) (t : Tr) (h : Heap) (Q : Tr -> Heap -> Prop) : Prop := ∃ m t' h', oG (qF P orc m) ops n l t h = some (t', h') /\ Q t' h'
def tQ (ops : Array Oper) (n : Nat) (l : List Oper) (i : Nat) (s : cM) (Q : cM -> Prop) : Prop := ∃ m s', kC (kZ P orc m) ops n l i s = some s' /\ Q s'
end
variable {P : Program} {orc : FuncId -> List Value -> Heap -> Option (Value × Heap)} {aR : Option Nat} {fr : Fr} {h : Heap} {Q : Ex -> Fr -> Heap -> Prop}
theorem A9.v8 {m k : Nat} (hk : m <= k) : A9 (dL P orc (cX P orc m)) (dL P orc (cX P orc k)) := by
  intro f a h y hy; unfold dL at hy ⊢; split at hy
  . exact hy
  split at hy
  . exact hy
  exact AM (kY hk) _ _ _ _ hy
theorem wI {m k : Nat} (hk : m <= k) : AA (kZ P orc m) (kZ P orc k) := wH (A9.v8 hk) (r6 (kY hk))
theorem zK (m : Nat) : AA (fJ P) (kZ P orc m) := wH (fun _ _ _ _ h => by cases h) (fun _ _ _ _ h => by cases h)
theorem SX {m k : Nat} (hk : m <= k) : AA (qF P orc m) (qF P orc k) := G1 (A9.v8 hk) (r6 (kY hk))
theorem OC {m : Nat} : AA (kZ P orc m) (qF P orc m) := ak9
theorem aeY (m : Nat) : AA (fJ P) (qF P orc m) := fun _ _ _ _ h => OC _ _ _ _ (zK m _ _ _ _ h)
theorem iP.mono {c : Code} {Q' : Ex -> Fr -> Heap -> Prop} (hc : iP P orc aR c fr h Q) (hq : ∀ e iO h', Q e iO h' -> Q' e iO h') : iP P orc aR c fr h Q' :=
  let ⟨m, e, iO, h', h1, h2⟩ := hc; ⟨m, e, iO, h', h1, hq _ _ _ h2⟩
theorem nP.mono {f : FuncId} {args : List Value} {Q Q' : Value -> Heap -> Prop} (hc : nP P orc f args h Q) (hq : ∀ v h', Q v h' -> Q' v h') : nP P orc f args h Q' :=
  let ⟨m, v, h', h1, h2⟩ := hc; ⟨m, v, h', h1, hq _ _ h2⟩
def aeZ (P : Program) (orc : FuncId -> List Value -> Heap -> Option (Value × Heap)) (aR : Option Nat) (b : Code) (Q : Ex -> Fr -> Heap -> Prop) : Ex -> Fr -> Heap -> Prop
  | .normal, fr, h => iP P orc aR b fr h Q
  | e, fr, h => Q e fr h
theorem iP.skip (hq : Q .normal fr h) : iP P orc aR .skip fr h Q := ⟨1, _, _, _, rfl, hq⟩
theorem iP.label {l : Nat} (hq : Q .normal fr h) : iP P orc aR (.label l) fr h Q := ⟨1, _, _, _, rfl, hq⟩
theorem iP.exit {id : Nat} (hq : Q (.exit id) fr h) : iP P orc aR (.exit id) fr h Q := ⟨1, _, _, _, rfl, hq⟩
theorem iP.ret (hq : Q .ret fr h) : iP P orc aR .ret fr h Q := ⟨1, _, _, _, rfl, hq⟩
theorem iP.scope {b : Code} (hb : iP P orc aR b fr h Q) : iP P orc aR (.scope b) fr h Q :=
  let ⟨m, e, iO, h', h1, h2⟩ := hb; ⟨m + 1, e, iO, h', h1, h2⟩
theorem iP.seq {a b : Code} (ha : iP P orc aR a fr h (aeZ P orc aR b Q)) : iP P orc aR (.seq a b) fr h Q := by
  obtain ⟨m, e, fr1, h1, hr, hq⟩ := ha
  cases e with
  | normal =>
    obtain ⟨k, e2, IS, h2, l3, xO⟩ := hq; refine ⟨max m k + 1, e2, IS, h2, ?_, xO⟩; show bA P orc (cX P orc (max m k)) aR (.seq a b) fr h = _; simp only [bA, kY (Nat.le_max_left m k) _ _ _ _ _ hr]
    exact kY (Nat.le_max_right m k) _ _ _ _ _ l3
  | exit id =>
    refine ⟨m + 1, .exit id, fr1, h1, ?_, hq⟩; show bA P orc (cX P orc m) aR (.seq a b) fr h = _
    simp only [bA, hr]
  | ret =>
    refine ⟨m + 1, .ret, fr1, h1, ?_, hq⟩; show bA P orc (cX P orc m) aR (.seq a b) fr h = _; simp only [bA, hr]
theorem iP.loop {b : Code} (ha : iP P orc aR b fr h (aeZ P orc aR (.loop b) Q)) : iP P orc aR (.loop b) fr h Q := by
  obtain ⟨m, e, fr1, h1, hr, hq⟩ := ha
  cases e with
  | normal =>
    obtain ⟨k, e2, IS, h2, l3, xO⟩ := hq; refine ⟨max m k + 1, e2, IS, h2, ?_, xO⟩; show bA P orc (cX P orc (max m k)) aR (.loop b) fr h = _; simp only [bA, kY (Nat.le_max_left m k) _ _ _ _ _ hr]
    exact kY (Nat.le_max_right m k) _ _ _ _ _ l3
  | exit id =>
    refine ⟨m + 1, .exit id, fr1, h1, ?_, hq⟩; show bA P orc (cX P orc m) aR (.loop b) fr h = _
    simp only [bA, hr]
  | ret =>
    refine ⟨m + 1, .ret, fr1, h1, ?_, hq⟩; show bA P orc (cX P orc m) aR (.loop b) fr h = _; simp only [bA, hr]
def inBlock (id : Nat) (Q : Ex -> Fr -> Heap -> Prop) : Ex -> Fr -> Heap -> Prop
  | .exit xN, fr, h => if xN = id then Q .normal fr h else Q (.exit xN) fr h
  | e, fr, h => Q e fr h
theorem iP.block {id : Nat} {b : Code} (hb : iP P orc aR b fr h (inBlock id Q)) : iP P orc aR (.block id b) fr h Q := by
  obtain ⟨m, e, fr1, h1, hr, hq⟩ := hb
  cases e with
  | normal =>
    refine ⟨m + 1, .normal, fr1, h1, ?_, hq⟩; show bA P orc (cX P orc m) aR (.block id b) fr h = _
    simp only [bA, hr]
  | ret =>
    refine ⟨m + 1, .ret, fr1, h1, ?_, hq⟩; show bA P orc (cX P orc m) aR (.block id b) fr h = _
    simp only [bA, hr]
  | exit xN =>
    simp only [inBlock] at hq; by_cases he : xN = id
    . rw [if_pos he] at hq; subst he; refine ⟨m + 1, .normal, fr1, h1, ?_, hq⟩; show bA P orc (cX P orc m) aR (.block xN b) fr h = _; simp only [bA, hr, Nat.beq_refl, cond_true]
    rw [if_neg he] at hq; refine ⟨m + 1, .exit xN, fr1, h1, ?_, hq⟩; show bA P orc (cX P orc m) aR (.block id b) fr h = _
    have hb : Nat.beq xN id = false := by
      cases hx : Nat.beq xN id with
      | false => rfl
      | true => exact absurd (Nat.eq_of_beq_eq_true hx) he
    simp only [bA, hr, hb, cond_false]
theorem iP.cond {x : Operand} {a b : Code} {c : Bool} (hx : aA fr.t x = .bool c) (hc : iP P orc aR (if c then a else b) fr h Q) : iP P orc aR (.cond x a b) fr h Q := by
  obtain ⟨m, e, fr1, h1, hr, hq⟩ := hc; refine ⟨m + 1, e, fr1, h1, ?_, hq⟩; show bA P orc (cX P orc m) aR (.cond x a b) fr h = _
  cases c with
  | true => simp only [bA, hx]; exact hr
  | false => simp only [bA, hx]; exact hr
theorem iP.text {id : Nat} {ops : Array Oper} (ho : oY P orc ops fr.n ops.toList fr.t h fun t h' => Q .normal { t, n := fr.n, marks := fr.marks } h') : iP P orc aR (.region id ops false) fr h Q := by
  obtain ⟨m, t, h1, hr, hq⟩ := ho; refine ⟨m + 1, .normal, _, h1, ?_, hq⟩; show bA P orc (cX P orc m) aR (.region id ops false) fr h = _; simp only [bA]; unfold qF at hr; rw [hr]
theorem iP.draw {id : Nat} {ops : Array Oper} (hl : xX ops = false) (ho : tQ P orc ops fr.n ops.toList 0 ⟨fr.t, h, [], [], 0, false⟩ fun s => Q .normal { t := s.t, n := fr.n, marks := fr.marks } s.h) : iP P orc aR (.region id ops true) fr h Q := by
  obtain ⟨m, s, hr, hq⟩ := ho; refine ⟨m + 1, .normal, _, _, ?_, hq⟩; show bA P orc (cX P orc m) aR (.region id ops true) fr h = _; simp only [bA, hl, cond_false]; unfold kZ at hr; rw [hr]
variable {ops : Array Oper} {n : Nat} {QO : Tr -> Heap -> Prop} {QD : cM -> Prop}
theorem oY.nil {t : Tr} (hq : QO t h) : oY P orc ops n [] t h QO := ⟨0, t, h, rfl, hq⟩
theorem oY.op {o : Oper} {l : List Oper} {t t' : Tr} {v : Value} {h' : Heap} (hw : b9 ops t o = some true) (hs : fJ P o (aA t) h = some (v, h')) (hp : put n t o.dst v = some t') (hl : oY P orc ops n l t' h' QO) :
    oY P orc ops n (o :: l) t h QO := by
  obtain ⟨m, t2, h2, hr, hq⟩ := hl; refine ⟨m, t2, h2, ?_, hq⟩; simp only [oG, hw, aeY m _ _ _ _ hs, hp]; exact hr
theorem oY.skip {o : Oper} {l : List Oper} {t t' : Tr} (hw : b9 ops t o = some false) (hp : put n t o.dst undef = some t') (hl : oY P orc ops n l t' h QO) : oY P orc ops n (o :: l) t h QO := by
  obtain ⟨m, t2, h2, hr, hq⟩ := hl; refine ⟨m, t2, h2, ?_, hq⟩; simp only [oG, hw, hp]; exact hr
theorem sG {o : Oper} {c : Call} {f : Operand} {g : FuncId} {a b : Array Value} {ev : Operand -> Value} (ho : o.op = .call c) (hc : c.callee = .value f) (hf : ev f = .func (.func g) a b) (m : Nat) (h : Heap) :
    kZ P orc m o ev h = dL P orc (cX P orc m) g (a.toList ++ c.args.toList.map ev ++ b.toList) h := by
  unfold kZ bQ; rw [ho]; simp only [hc, hf]
theorem oY.call {o : Oper} {l : List Oper} {t : Tr} {c : Call} {f : Operand} {g : FuncId} {a b : Array Value} (hw : b9 ops t o = some true) (ho : o.op = .call c) (hc : c.callee = .value f) (hf : aA t f = .func (.func g) a b)
    (hl : nP P orc g (a.toList ++ c.args.toList.map (aA t) ++ b.toList) h fun v h' => ∃ t', put n t o.dst v = some t' /\ oY P orc ops n l t' h' QO) : oY P orc ops n (o :: l) t h QO := by
  obtain ⟨m, v, h1, hr, t1, hp, k, t2, h2, l3, hq⟩ := hl; refine ⟨max m k, t2, h2, ?_, hq⟩; have h3 := A9.v8 (P := P) (orc := orc) (Nat.le_max_left m k) _ _ _ _ hr; have h4 : qF P orc (max m k) o (aA t) h = some (v, h1) := OC _ _ _ _ (by rw [sG ho hc hf]; exact h3); simp only [oG, hw, h4, hp]; exact tU (SX (Nat.le_max_right m k)) _ _ _ _ l3
theorem tQ.nil {i : Nat} {s : cM} (hq : QD s) : tQ P orc ops n [] i s QD := ⟨0, s, rfl, hq⟩
theorem tQ.op {o : Oper} {l : List Oper} {i : Nat} {s s' : cM} (hs : eF (fJ P) ops n o i s = some s') (hl : tQ P orc ops n l (i + 1) s' QD) : tQ P orc ops n (o :: l) i s QD := by
  obtain ⟨m, s2, hr, hq⟩ := hl; refine ⟨m, s2, ?_, hq⟩; simp only [kC, sF (zK m) hs]; exact hr
def l4 (o : Oper) (s : cM) : Heap := { next := s.h.next, low := s.h.next, aB := bif Nat.beq (s.mem &&& aJ s.bs o) s.mem then s.h.aB else mask (aJ s.bs o) s.segs s.h.aB }
def jI (o : Oper) (i : Nat) (s : cM) (t : Tr) (h' : Heap) : cM :=
  bif Nat.ble s.h.next h'.low then { t, h := { next := h'.next, low := s.h.low, aB := bE s.h.next h'.next h'.aB ++ s.h.aB }, bs := s.bs ++ [aJ s.bs o], segs := (i, s.h.next, h'.next) :: s.segs, mem := s.mem ||| 2 ^ i, tail := s.tail }
  else { t, h := { next := h'.next, low := min s.h.low h'.low, aB := h'.aB }, bs := s.bs ++ [aJ s.bs o], segs := (i, s.h.next, h'.next) :: s.segs, mem := s.mem ||| 2 ^ i, tail := true }
theorem tQ.call {o : Oper} {l : List Oper} {i : Nat} {s : cM} {c : Call} {f : Operand} {g : FuncId} {a b : Array Value} (hw : b9 ops s.t o = some true) (ho : o.op = .call c) (hc : c.callee = .value f) (hf : aA s.t f = .func (.func g) a b)
    (mI : (s.tail && !Nat.beq (s.mem &&& aJ s.bs o) s.mem) = false)
    (hl : nP P orc g (a.toList ++ c.args.toList.map (aA s.t) ++ b.toList) (l4 o s) fun v h' => Nat.blt h'.next s.h.next = false /\ (Nat.ble s.h.next h'.low || Nat.beq (s.mem &&& aJ s.bs o) s.mem) = true /\
      ∃ t', put n s.t o.dst v = some t' /\ tQ P orc ops n l (i + 1) (jI o i s t' h') QD) : tQ P orc ops n (o :: l) i s QD := by
  obtain ⟨m, v, h1, hr, fH, oZ, t1, hp, k, s2, l3, hq⟩ := hl; refine ⟨max m k, s2, ?_, hq⟩; have h3 := A9.v8 (P := P) (orc := orc) (Nat.le_max_left m k) _ _ _ _ hr
  have qG : calm o.op = false := by rw [ho]; obtain ⟨cl, as_, lR⟩ := c; obtain rfl : cl = .value f := hc; rfl
  have hd : eF (kZ P orc (max m k)) ops n o i s = some (jI o i s t1 h1) := by
    unfold eF; simp only [hw, qG, Bool.false_eq_true, if_false, mI, cond_false]; rw [sG ho hc hf]; unfold l4 at h3; rw [h3]; simp only [fH, cond_false, hp]; unfold jI
    cases hx : Nat.ble s.h.next h1.low with
    | true => rfl
    | false =>
      rw [hx] at oZ; simp only [Bool.false_or] at oZ; rw [oZ]; rfl
  simp only [kC, hd]; exact uM (wI (Nat.le_max_right m k)) _ _ _ _ l3
theorem nP.wJ {f : FuncId} {args : List Value} {v : Value} {h' : Heap} {QF : Value -> Heap -> Prop} (ho : orc f args h = some (v, h')) (hq : QF v h') : nP P orc f args h QF :=
  ⟨0, v, h', by simp only [dL, ho], hq⟩
def leftOf (h h2 : Heap) (v : Value) : Heap := bif af v && Nat.ble h.next h2.low then h else { next := h2.next, low := min h.low h2.low, aB := h2.aB }
theorem SY {f : FuncId} {args : List Value} {fn : Func} {c : Code} (kX : P.funcs[f]? = some fn) (hc : fn.body = some c) : E4 P f args h = none := by
  unfold E4; simp [kX, hc]
theorem nP.ext {f : FuncId} {args : List Value} {fn : Func} {e : Array Value -> Sem Value} {v : Value} {QF : Value -> Heap -> Prop} (ho : orc f args h = none) (kX : P.funcs[f]? = some fn) (hb : (fn.body.isNone && !(fn.name == "runtime.NumGoroutine")) = true) (h1 : (Extern.findNext fn).isNone = true) (h2 : Extern.find fn = some e)
    (ha : args.all af = true) (hv : bU P (e args.toArray) = some v) (hq : QF v h) : nP P orc f args h QF := by
  refine ⟨0, v, h, ?_, hq⟩; have nQ := Option.isNone_iff_eq_none.1 h1
  have hx : E4 P f args h = some (v, h) := by
    unfold E4; simp only [kX, hb, cond_true, nQ, h2, ha, hv]; rfl
  simp only [dL, ho, hx]
theorem nP.enter {f : FuncId} {args : List Value} {fn : Func} {c : Code} {QF : Value -> Heap -> Prop} (kX : P.funcs[f]? = some fn) (hc : fn.body = some c) (ho : orc f args h = none) (hn : (Nat.blt 4000 fn.ntmps || Nat.blt fn.ntmps args.length) = false)
    (hb : iP P orc none c ⟨j6 .leaf 0 args, fn.ntmps, []⟩ { next := h.next, low := h.next, aB := h.aB } fun e fr h1 =>
      e.goes = true /\ ∃ h2 vs, jS fr.marks h1 = some h2 /\ iT P fr.t h2 fn.results.toList = some vs /\ QF (gE vs) (leftOf h h2 (gE vs))) : nP P orc f args h QF := by
  obtain ⟨m, e, fr, h1, hr, hg, h2, vs, hd, B2, hq⟩ := hb; refine ⟨m, gE vs, leftOf h h2 (gE vs), ?_, hq⟩; unfold dL; rw [ho, SY kX hc]; unfold nO n8; simp only [kX, hc, hn, cond_false, hr, hg, cond_true, hd, B2, Bool.not_false, Bool.true_and]; unfold leftOf; cases hx : (af (gE vs) && Nat.ble h.next h2.low) <;> rfl
end Go.Fs
namespace Go.Fs
open Go.RowKit (Below)
structure Loc where
  block : Nat
  off : Nat
  total : Nat
  B3 : Nat
  fz : Nat × Nat
  hfz : fz.1 = fz.2 \/ total <= fz.1
abbrev Loc.clean (b o t e : Nat) : Loc := ⟨b, o, t, e, (0, 0), .inl rfl⟩
abbrev Ren := Nat -> Loc
def Loc.at (l : Loc) (o : Nat) : Addr := ⟨l.block, l.off + o, none⟩
theorem Loc.tV (l : Loc) (o n : Nat) : (l.at o).add n = l.at (o + n) := by
  unfold Addr.add Loc.at; by_cases h : n = 0
  . subst h; simp
  simp [h, Nat.add_assoc]
inductive VR (ρ : Ren) (S : Nat -> Prop) : Value -> Value -> Prop
  | lit {v : Value} (h : dQ v = true) : VR ρ S v v
  | gP (v : Value) : VR ρ S gP v
  | nan (k : FloatKind) (b : Nat) (hb : (k.decode b).isNaN = true) : VR ρ S (jH k) (.float k b)
  | ptr (b o : Nat) (hs : S b) : VR ρ S (.pointer (some ⟨b, o, none⟩)) (.pointer (some ((ρ b).at o)))
  | slice (b o n m c : Nat) (A : Addr) (hn : n <= c) (hm : m = 1 -> c = n) (h0 : b = 0 -> n = 0)
      (hb : b ≠ 0 -> S b /\ A = (ρ b).at o /\ (m = 0 -> o + c * (ρ b).B3 = (ρ b).total)) : VR ρ S (.slice (some ⟨b, o, none⟩) n m) (.slice (some A) n c)
  | map (b : Nat) (hs : S b) : VR ρ S (.map (some b)) (.map (some (ρ b).block))
  | agg (cs cs' : Array Value) (hl : cs.size = cs'.size) (h : ∀ i, i < cs.size -> VR ρ S (cs.toList.getD i undef) (cs'.toList.getD i undef)) : VR ρ S (.agg cs) (.agg cs')
  | tuple (cs cs' : Array Value) (hl : cs.size = cs'.size) (h : ∀ i, i < cs.size -> VR ρ S (cs.toList.getD i undef) (cs'.toList.getD i undef)) : VR ρ S (.tuple cs) (.tuple cs')
  | func (f : FuncId) (a a' c c' : Array Value) (ha : a.size = a'.size) (hA : ∀ i, i < a.size -> VR ρ S (a.toList.getD i undef) (a'.toList.getD i undef))
      (hc : c.size = c'.size) (hC : ∀ i, i < c.size -> VR ρ S (c.toList.getD i undef) (c'.toList.getD i undef)) : VR ρ S (.func (.func f) a c) (.func (.func f) a' c')
  | yield (l : Nat) (hs : S l) : VR ρ S (.func (.yield l) #[] #[]) (.func (.yield (ρ l).block) #[] #[])
variable {ρ bG : Ren} {S S' : Nat -> Prop}
theorem VR.mono {v v' : Value} (h : VR ρ S v v') (hs : ∀ b, S b -> S' b /\ bG b = ρ b) : VR bG S' v v' := by
  induction h with
  | lit h => exact .lit h
  | gP v => exact .gP v
  | nan k b hb => exact .nan k b hb
  | ptr b o h => have := hs b h; rw [<- this.2]; exact .ptr b o this.1
  | slice b o n m c A hn hm h0 hb =>
    refine .slice b o n m c A hn hm h0 fun iQ => ?_; obtain ⟨h1, h2, h3⟩ := hb iQ; have := hs b h1
    rw [this.2]; exact ⟨this.1, h2, h3⟩
  | map b h => have := hs b h; rw [<- this.2]; exact .map b this.1
  | agg cs cs' hl _ ih => exact .agg cs cs' hl ih
  | tuple cs cs' hl _ ih => exact .tuple cs cs' hl ih
  | func f a a' c c' ha _ hc _ ihA ihC => exact .func f a a' c c' ha ihA hc ihC
  | yield l h => have := hs l h; rw [<- this.2]; exact .yield l this.1
def LR (ρ : Ren) (S : Nat -> Prop) (cs cs' : List Value) : Prop := cs.length = cs'.length /\ ∀ i, i < cs.length -> VR ρ S (cs.getD i undef) (cs'.getD i undef)
theorem VR.SZ {cs cs' : Array Value} (h : LR ρ S cs.toList cs'.toList) : VR ρ S (.agg cs) (.agg cs') := .agg cs cs' (by simpa using h.1) (by simpa using h.2)
theorem VR.tuple' {cs cs' : Array Value} (h : LR ρ S cs.toList cs'.toList) : VR ρ S (.tuple cs) (.tuple cs') := .tuple cs cs' (by simpa using h.1) (by simpa using h.2)
theorem VR.undef : VR ρ S undef undef := .tuple #[] #[] rfl (fun i h => absurd h (by simp))
theorem LR.mono {cs cs' : List Value} (h : LR ρ S cs cs') (hs : ∀ b, S b -> S' b /\ bG b = ρ b) : LR bG S' cs cs' := ⟨h.1, fun i hi => (h.2 i hi).mono hs⟩
theorem LR.nil : LR ρ S [] [] := ⟨rfl, fun i h => absurd h (by simp)⟩
theorem LR.getD {cs cs' : List Value} (h : LR ρ S cs cs') (i : Nat) : VR ρ S (cs.getD i undef) (cs'.getD i undef) := by
  by_cases hi : i < cs.length
  . exact h.2 i hi
  have h2 := h.1; rw [List.getD_eq_getElem?_getD, List.getD_eq_getElem?_getD, List.getElem?_eq_none (by omega), List.getElem?_eq_none (by omega)]; exact VR.undef
theorem LR.get? {cs cs' : List Value} (h : LR ρ S cs cs') {i : Nat} {v : Value} (hv : cs[i]? = some v) : ∃ v', cs'[i]? = some v' /\ VR ρ S v v' := by
  obtain ⟨hi, rfl⟩ := List.getElem?_eq_some_iff.1 hv; have h1 := h.2 i hi
  have h2 : i < cs'.length := by have := h.1; omega
  exact ⟨cs'[i], List.getElem?_eq_getElem h2, by simpa [List.getD, hi, h2] using h1⟩
theorem LR.of_get? {cs cs' : List Value} (hl : cs.length = cs'.length) (h : ∀ (i : Nat) (v v' : Value), cs[i]? = some v -> cs'[i]? = some v' -> VR ρ S v v') : LR ρ S cs cs' := by
  refine ⟨hl, fun i hi => ?_⟩
  have nA : i < cs'.length := by omega
  have := h i cs[i] cs'[i] (List.getElem?_eq_getElem hi) (List.getElem?_eq_getElem nA); simpa [List.getD, hi, nA] using this
theorem LR.oQ {cs cs' : List Value} (h : LR ρ S cs cs') {i : Nat} {v v' : Value} (hv : cs[i]? = some v) (nH : cs'[i]? = some v') : VR ρ S v v' := by
  obtain ⟨v2, h2, hr⟩ := h.get? hv; rw [h2] at nH; injection nH with e; subst e; exact hr
theorem LR.cons {v v' : Value} {cs cs' : List Value} (h : VR ρ S v v') (hc : LR ρ S cs cs') : LR ρ S (v :: cs) (v' :: cs') := by
  refine LR.of_get? (by simp [hc.1]) fun i a a' ha p5 => ?_
  cases i with
  | zero => simp at ha p5; subst ha p5; exact h
  | succ i => simp at ha p5; exact hc.oQ ha p5
theorem LR.append {a a' b b' : List Value} (h : LR ρ S a a') (k : LR ρ S b b') : LR ρ S (a ++ b) (a' ++ b') := by
  refine LR.of_get? (by simp [h.1, k.1]) fun i v v' hv nH => ?_; rw [List.getElem?_append] at hv nH; rw [<- h.1] at nH; split at hv
  . rename_i hi; rw [if_pos hi] at nH; exact h.oQ hv nH
  rename_i hi; rw [if_neg hi] at nH; exact k.oQ hv nH
theorem LR.take {a a' : List Value} (h : LR ρ S a a') (n : Nat) : LR ρ S (a.take n) (a'.take n) := by
  refine LR.of_get? (by simp [h.1]) fun i v v' hv nH => ?_; rw [List.getElem?_take] at hv nH; split at hv
  . rename_i hi; rw [if_pos hi] at nH; exact h.oQ hv nH
  cases hv
theorem LR.drop {a a' : List Value} (h : LR ρ S a a') (n : Nat) : LR ρ S (a.drop n) (a'.drop n) := by
  refine LR.of_get? (by simp [h.1]) fun i v v' hv nH => ?_; rw [List.getElem?_drop] at hv nH; exact h.oQ hv nH
theorem LR.set {a a' : List Value} (h : LR ρ S a a') (i : Nat) {v v' : Value} (hv : VR ρ S v v') : LR ρ S (a.set i v) (a'.set i v') := by
  refine LR.of_get? (by simp [h.1]) fun j u u' hu wK => ?_; rw [List.getElem?_set] at hu wK; split at hu
  . rename_i e; rw [if_pos e] at wK; split at hu
    . split at wK
      . injection hu with hu; injection wK with wK; subst hu wK; exact hv
      cases wK
    cases hu
  rename_i e; rw [if_neg e] at wK; exact h.oQ hu wK
theorem LR.map {α : Type} (f g : α -> Value) (l : List α) (h : ∀ x ∈ l, VR ρ S (f x) (g x)) : LR ρ S (l.map f) (l.map g) := by
  refine LR.of_get? (by simp) fun i a a' ha p5 => ?_; rw [List.getElem?_map] at ha p5
  cases hx : l[i]? with
  | none => rw [hx] at ha; cases ha
  | some x =>
    rw [hx] at ha p5; simp at ha p5; subst ha p5; exact h x (List.mem_of_getElem? hx)
theorem VR.fY {v v' : Value} (h : VR ρ S v v') (ha : dQ v = true) : v' = v := by
  cases h with
  | lit _ => rfl
  | gP => simp [dQ, Fs.gP] at ha
  | nan k b hb => simp [dQ, jH] at ha
  | slice b o n m c A hn hm h0 hb => simp [dQ] at ha
  | _ => simp [dQ] at ha
theorem y0 {cs cs' : List Value} (hl : cs.length = cs'.length) (h : ∀ i, i < cs.length -> cs'.getD i Go.undef = cs.getD i Go.undef) : cs' = cs := by
  refine List.ext_getElem (by omega) fun i h1 h2 => ?_; have := h i h2; simpa [List.getD, h1, h2] using this
theorem nB {cs : List Value} {i : Nat} (hi : i < cs.length) : cs.getD i Go.undef ∈ cs := by
  simp [List.getD, hi]
theorem VR.IT {v v' : Value} (h : VR ρ S v v') (ha : q6 v = true) : v' = v := by
  cases h with
  | lit _ => rfl
  | gP => simp [q6, dQ, Fs.gP] at ha
  | nan k b hb => simp [q6, dQ, jH] at ha
  | agg cs cs' hl hv =>
    simp only [q6, List.all_eq_true] at ha; have : cs'.toList = cs.toList := y0 (by simpa using hl) fun i hi => (hv i (by simpa using hi)).fY (ha _ (nB hi))
    rw [show cs' = cs from Array.toList_inj.1 this]
  | _ => simp [q6, dQ] at ha
theorem VR.dD {v v' : Value} (h : VR ρ S v v') (ha : af v = true) : v' = v := by
  cases h with
  | lit _ => rfl
  | gP => simp [af, q6, dQ, Fs.gP] at ha
  | nan k b hb => simp [af, q6, dQ, jH] at ha
  | agg cs cs' hl hv => exact VR.IT (.agg cs cs' hl hv) ha
  | tuple cs cs' hl hv =>
    simp only [af, List.all_eq_true] at ha; have : cs'.toList = cs.toList := y0 (by simpa using hl) fun i hi => (hv i (by simpa using hi)).IT (ha _ (nB hi))
    rw [show cs' = cs from Array.toList_inj.1 this]
  | _ => simp [af, q6, dQ] at ha
theorem VR.aaW {v : Value} (h : q6 v = true) : VR ρ S v v := by
  cases v with
  | agg cs =>
    simp only [q6, List.all_eq_true] at h
    exact .agg cs cs rfl fun i hi => .lit (h _ (nB (by simpa using hi)))
  | _ => exact .lit h
theorem VR.lS {v : Value} (h : af v = true) : VR ρ S v v := by
  cases v with
  | tuple cs =>
    simp only [af, List.all_eq_true] at h
    exact .tuple cs cs rfl fun i hi => .aaW (h _ (nB (by simpa using hi)))
  | _ => exact .aaW h
theorem LR.zL {l : List Value} (h : ∀ v ∈ l, dQ v = true) : LR ρ S l l := ⟨rfl, fun i hi => .lit (h _ (nB hi))⟩
theorem LR.dD {l l' : List Value} (h : LR ρ S l l') (ha : l.all af = true) : l' = l :=
  y0 h.1 fun i hi => (h.2 i hi).dD (List.all_eq_true.1 ha _ (nB hi))
theorem VR.aN {v v' : Value} (h : VR ρ S v v') (hv : Fs.aN v = true) : Fs.aN v' = true := by
  cases h <;> simp_all [Fs.aN, Fs.gP, jH]
theorem LR.aN {l l' : List Value} (h : LR ρ S l l') (ha : l.all Fs.aN = true) : ∀ v ∈ l', Fs.aN v = true := by
  intro v hv; obtain ⟨i, hi, rfl⟩ := List.mem_iff_getElem.1 hv
  have h1 : i < l.length := by have := h.1; omega
  have h2 := h.2 i h1; have h3 := h2.aN (List.all_eq_true.1 ha _ (nB h1)); simpa [List.getD, hi] using h3
theorem VR.cells {v v' : Value} (h : VR ρ S v v') (hv : v.cells.toList.all Fs.aN = true) : LR ρ S v.cells.toList v'.cells.toList := by
  cases h with
  | agg cs cs' hl hc => exact ⟨by simpa [Value.cells] using hl, by simpa [Value.cells] using hc⟩
  | lit h => exact ⟨rfl, fun i hi => by
      have : ∀ v : Value, dQ v = true -> v.cells = #[v] := by intro v; cases v <;> simp [dQ, Value.cells]
      rw [this _ h] at hi ⊢
      simp at hi; subst hi; exact .lit h⟩
  | gP v => simp [Value.cells, Fs.gP, Fs.aN] at hv
  | nan k b hb => exact LR.cons (.nan k b hb) LR.nil
  | tuple => simp [Value.cells, Fs.aN] at hv
  | ptr b o hs => exact LR.cons (.ptr b o hs) LR.nil
  | slice b o n m c A hn hm h0 hb => exact LR.cons (.slice b o n m c A hn hm h0 hb) LR.nil
  | map b hs => exact LR.cons (.map b hs) LR.nil
  | func f a a' c c' ha hA hc hC => exact LR.cons (.func f a a' c c' ha hA hc hC) LR.nil
  | yield l hs => exact LR.cons (.yield l hs) LR.nil
theorem dO {a b : Nat} (h : a ≠ b) : Nat.beq a b = false := by
  cases hb : Nat.beq a b with
  | false => rfl
  | true => exact absurd (Nat.eq_of_beq_eq_true hb) h
theorem af2 (a : Nat) : Nat.beq a a = true := Nat.beq_refl a
theorem fP {a b : Nat} (h : Nat.beq a b = false) : a ≠ b := fun e => by
  subst e; rw [af2] at h; cases h
theorem Tr.dE : ∀ (f : Nat) (t : Tr) (i : Nat) (v : Value) (j : Nat), i + 1 < 2 ^ f -> (t.set f i v).get j = if j = i then v else t.get j
  | 0, t, i, v, j, h => by simp at h
  | f + 1, .leaf, i, v, j, h => by
    rw [Nat.pow_succ] at h
    cases i with
    | zero => cases j <;> simp [Tr.set, Tr.get]
    | succ k =>
      have hk : k / 2 + 1 < 2 ^ f := by omega
      cases j with
      | zero =>
        simp only [Tr.set]
        cases hb : Nat.beq (k % 2) 0 <;> simp [Tr.get]
      | succ m =>
        simp only [Tr.set]; cases hb : Nat.beq (k % 2) 0 <;> simp only [cond_true, cond_false, Tr.get] <;> cases hc : Nat.beq (m % 2) 0 <;> simp only [cond_true, cond_false, Tr.dE f _ _ _ _ hk, Tr.get]
        all_goals first
          | (have h1 : ¬ k % 2 = 0 := fP hb
             have h2 : m % 2 = 0 := Nat.eq_of_beq_eq_true hc
             rw [if_neg (by omega)])
          | (have h1 : k % 2 = 0 := Nat.eq_of_beq_eq_true hb
             have h2 : ¬ m % 2 = 0 := fP hc
             rw [if_neg (by omega)])
          | (have h1 : ¬ k % 2 = 0 := fP hb
             have h2 : ¬ m % 2 = 0 := fP hc; by_cases e : m / 2 = k / 2
             . rw [if_pos e, if_pos (by omega)]
             rw [if_neg e, if_neg (by omega)])
          | (have h1 : k % 2 = 0 := Nat.eq_of_beq_eq_true hb
             have h2 : m % 2 = 0 := Nat.eq_of_beq_eq_true hc; by_cases e : m / 2 = k / 2
             . rw [if_pos e, if_pos (by omega)]
             rw [if_neg e, if_neg (by omega)])
  | f + 1, .node u l r, i, v, j, h => by
    rw [Nat.pow_succ] at h
    cases i with
    | zero => cases j <;> simp [Tr.set, Tr.get]
    | succ k =>
      have hk : k / 2 + 1 < 2 ^ f := by omega
      cases j with
      | zero =>
        simp only [Tr.set]
        cases hb : Nat.beq (k % 2) 0 <;> simp [Tr.get]
      | succ m =>
        simp only [Tr.set]; cases hb : Nat.beq (k % 2) 0 <;> simp only [cond_true, cond_false, Tr.get] <;> cases hc : Nat.beq (m % 2) 0 <;> simp only [cond_true, cond_false, Tr.dE f _ _ _ _ hk, Tr.get]
        all_goals first
          | (have h1 : ¬ k % 2 = 0 := fP hb
             have h2 : m % 2 = 0 := Nat.eq_of_beq_eq_true hc
             rw [if_neg (by omega)])
          | (have h1 : k % 2 = 0 := Nat.eq_of_beq_eq_true hb
             have h2 : ¬ m % 2 = 0 := fP hc
             rw [if_neg (by omega)])
          | (have h1 : ¬ k % 2 = 0 := fP hb
             have h2 : ¬ m % 2 = 0 := fP hc; by_cases e : m / 2 = k / 2
             . rw [if_pos e, if_pos (by omega)]
             rw [if_neg e, if_neg (by omega)])
          | (have h1 : k % 2 = 0 := Nat.eq_of_beq_eq_true hb
             have h2 : m % 2 = 0 := Nat.eq_of_beq_eq_true hc; by_cases e : m / 2 = k / 2
             . rw [if_pos e, if_pos (by omega)]
             rw [if_neg e, if_neg (by omega)])
def kL (ρ : Ren) (S : Nat -> Prop) (t : Tr) (n : Nat) (tmps : Array Value) : Prop := tmps.size = n /\ n <= 4000 /\ ∀ i, VR ρ S (t.get i) (tmps.toList.getD i Go.undef)
theorem kL.mono {t : Tr} {n : Nat} {tmps : Array Value} (h : kL ρ S t n tmps) (hs : ∀ b, S b -> S' b /\ bG b = ρ b) : kL bG S' t n tmps := ⟨h.1, h.2.1, fun i => (h.2.2 i).mono hs⟩
theorem kL.put {t t' : Tr} {n : Nat} {tmps : Array Value} (h : kL ρ S t n tmps) {dst : Option Tmp} {v v' : Value} (hp : put n t dst v = some t') (hv : VR ρ S v v') (d : List Deferred) :
    kL ρ S t' n (({ tmps := tmps, defers := d } : Act).put dst v').tmps := by
  unfold Fs.put at hp
  cases dst with
  | none => simp only [Option.some.injEq] at hp; subst hp; exact h
  | some i =>
    simp only at hp
    cases hb : Nat.blt i n with
    | false => rw [hb] at hp; cases hp
    | true =>
      rw [hb] at hp; simp only [cond_true, Option.some.injEq] at hp; subst hp; have bX : Nat.succ i <= n := Nat.le_of_ble_eq_true hb; have h4 := h.2.1; refine ⟨by simp [Act.put, h.1], h.2.1, fun j => ?_⟩; rw [Tr.dE depth t i v j (by have : 2 ^ depth = 8192 := rfl; rw [this]; exact Nat.lt_of_le_of_lt (Nat.le_trans bX h4) (by decide))]; simp only [Act.put, Array.toList_setIfInBounds, List.getD_eq_getElem?_getD, List.getElem?_set]; by_cases e : j = i
      . subst e; rw [if_pos rfl, if_pos rfl, if_pos (by simpa [h.1] using (show j < n from bX))]; exact hv
      rw [if_neg e, if_neg (Ne.symm e)]; have := h.2.2 j
      rwa [List.getD_eq_getElem?_getD] at this
theorem kL.eval {t : Tr} {n : Nat} {tmps : Array Value} (h : kL ρ S t n tmps) (d : List Deferred) (x : Operand) : VR ρ S (aA t x) (({ tmps := tmps, defers := d } : Act).eval x) := by
  cases x with
  | tmp i =>
    have := h.2.2 i
    simpa [aA, Act.eval, Array.getD_eq_getD_getElem?, List.getD_eq_getElem?_getD] using this
  | const v =>
    simp only [aA, Act.eval]; by_cases hv : af v = true
    . rw [if_pos hv]; exact .lS hv
    rw [if_neg hv]; exact .gP v
  | global g => exact .gP _
  | func f => exact .func f _ _ _ _ rfl (fun i h => absurd h (by simp)) rfl (fun i h => absurd h (by simp))
theorem IU {l : List (Nat × aU)} {i : Nat} {o o' : aU} (h : look l i = some o) : look (SS l i o') i = some o' := by
  induction l with
  | nil => simp [look] at h
  | cons p r ih =>
    obtain ⟨k, x⟩ := p; by_cases hk : k = i
    . subst hk; simp [SS, look]
    have hb : Nat.beq k i = false := dO hk; simp only [SS, look, hb, cond_false] at h ⊢; exact ih h
theorem HO {l : List (Nat × aU)} {i j : Nat} {o' : aU} (hj : j ≠ i) : look (SS l i o') j = look l j := by
  induction l with
  | nil => rfl
  | cons p r ih =>
    obtain ⟨k, x⟩ := p; by_cases hk : k = i
    . subst hk; have hb : Nat.beq k j = false := dO (Ne.symm hj); simp [SS, look, hb]
    have hb : Nat.beq k i = false := dO hk; simp only [SS, look, hb, cond_false, ih]
theorem IV {l : List (Nat × aU)} {i : Nat} : look (del l i) i = none := by
  induction l with
  | nil => rfl
  | cons p r ih =>
    obtain ⟨k, x⟩ := p; by_cases hk : k = i
    . subst hk; simp [del, ih]
    have hb : Nat.beq k i = false := dO hk; simp [del, hb, look, ih]
theorem HP {l : List (Nat × aU)} {i j : Nat} (hj : j ≠ i) : look (del l i) j = look l j := by
  induction l with
  | nil => rfl
  | cons p r ih =>
    obtain ⟨k, x⟩ := p; by_cases hk : k = i
    . subst hk; have hb : Nat.beq k j = false := dO (Ne.symm hj); simp [del, look, hb, ih]
    have hb : Nat.beq k i = false := dO hk; simp only [del, look, hb, cond_false, ih]
theorem Heap.dE {h : Heap} {i j : Nat} {o o' : aU} (hi : h.get i = some o) : (h.set i o').get j = if j = i then some o' else h.get j := by
  by_cases hj : j = i
  . subst hj; rw [if_pos rfl]; exact IU hi
  rw [if_neg hj]; exact HO hj
theorem Heap.cJ {h : Heap} {i j : Nat} : (h.drop i).get j = if j = i then none else h.get j := by
  by_cases hj : j = i
  . subst hj; rw [if_pos rfl]; exact IV
  rw [if_neg hj]; exact HP hj
theorem Heap.bB {h : Heap} {j : Nat} {o : aU} : (h.push o).get j = if j = h.next then some o else h.get j := by
  show look ((h.next, o) :: h.aB) j = _; by_cases hj : j = h.next
  . subst hj; simp [look]
  have hb : Nat.beq h.next j = false := dO (Ne.symm hj); simp [look, hb, hj, Heap.get]
def gW : aU -> Bool
  | .row _ _ own _ => own
  | _ => true
section
variable (P : Program) (ρ : Ren) (S : Nat -> Prop)
def akA (e : TypeId) (l : Loc) : Prop := ∀ (g : Nat) gl, P.globals[g]? = some gl -> gl.type = e -> l.block = g /\ l.off = 0
def kQ (l : Loc) (w : World) : aU -> Prop
  | .row e cs true more => ∃ cur : List Value, w.heap[l.block]? = some (.cells cur.toArray e l.fz) /\ l.off = 0 /\ l.total = cur.length /\ l.B3 = P.cellsOf e /\ cs.length <= cur.length /\
      (more = false -> cs.length = cur.length) /\ ∀ i, i < cs.length -> VR ρ S (cs.getD i undef) (cur.getD i undef)
  | .row e cs false more => l.B3 = P.cellsOf e /\ (∀ i, i < cs.length -> ∃ v, w.cell? (l.at i) = some v /\ VR ρ S (cs.getD i undef) v) /\ (more = true -> akA P e l)
  | .qA es clock => ∃ eW : List MapEntry, w.heap[l.block]? = some (.map eW.toArray clock) /\ es.length = eW.length /\
      ∀ (i : Nat) (e e' : MapEntry), es[i]? = some e -> eW[i]? = some e' -> e'.key = e.key /\ af e.key = true /\ e'.born = e.born /\ VR ρ S e.val e'.val
  | .iter s pos => w.heap[l.block]? = some (.stringIter s pos) /\ l.off = 0
  | .fI st jump tmps n params assign body d => S d /\ ∃ fn iV, w.heap[l.block]? = some (.loop ⟨st, jump, fn, iV, params, assign, body, (ρ d).block⟩) /\ kL ρ S tmps n iV /\ (codeOk assign && codeOk body) = true
  | .mM => w.heap[l.block]? = some (.deferred (some []))
abbrev wz (w : World) : World := { w with drawn := 0 }
theorem vA {B : Nat} {w w' : World} (h : Below B (wz w) w') : Below B w w' := ⟨h.os, h.tape, h.output, h.size, h.block⟩
theorem IW {B : Nat} {w w' : World} (h : Below B w w') : Below B (wz w) w' := ⟨h.os, h.tape, h.output, h.size, h.block⟩
structure HR (B : Nat) (w0 : World) (h : Heap) (w : World) : Prop where
  aB : ∀ i o, h.get i = some o -> S i /\ kQ P ρ S (ρ i) w o
  inj : ∀ i j oi oj, h.get i = some oi -> h.get j = some oj -> gW oi = true -> gW oj = true -> (ρ i).block = (ρ j).block -> i = j
  base : ∀ i o, h.get i = some o -> gW o = true -> B <= (ρ i).block
  ro : ∀ i o, h.get i = some o -> gW o = false -> (ρ i).block < B
  ids : ∀ b, S b -> b < h.next /\ b ≠ 0
  pos : 0 < h.next
  below : Below B w0 w
  drawn : w0.drawn <= w.drawn
  size : B <= w.heap.size
end
structure Frame (ρ : Ren) (h : Heap) (w w' : World) : Prop where
  os : w'.os = w.os
  tape : w'.tape = w.tape
  output : w'.output = w.output
  size : w.heap.size <= w'.heap.size
  block : ∀ k, k < w.heap.size -> (∀ i o, h.get i = some o -> gW o = true -> (ρ i).block ≠ k) -> w'.heap[k]? = w.heap[k]?
def Ext (S : Nat -> Prop) (h h' : Heap) (b : Nat) : Prop := S b \/ (h.next <= b /\ b < h'.next)
structure aO (P : Program) (B : Nat) (w0 : World) (ρ bG : Ren) (S : Nat -> Prop) (h h' : Heap) (w w' : World) : Prop where
  agree : ∀ b, S b -> bG b = ρ b
  next : h.next <= h'.next
  hr : HR P bG (Ext S h h') B w0 h' w'
  frame : Frame ρ h w w'
  low : h'.low <= h.low
  aV : ∀ i, i < h.next -> i < h'.low -> h'.get i = h.get i
  old : ∀ i o, h'.get i = some o -> i < h.next -> ∃ o', h.get i = some o' /\ gW o' = gW o
  fresh : ∀ i o, h'.get i = some o -> h.next <= i -> gW o = true /\ (w.heap.size <= (bG i).block \/ ∃ j oj, h.get j = some oj /\ gW oj = true /\ (ρ j).block = (bG i).block /\ h'.low <= j /\ j < h.next)
variable {P : Program} {B : Nat} {w0 w w' w1 w2 : World} {h h' h1 h2 : Heap}
theorem kQ.mono {l : Loc} {o : aU} (hr : kQ P ρ S l w o) (hs : ∀ b, S b -> S' b /\ bG b = ρ b) : kQ P bG S' l w o := by
  match o, hr with
  | .row e cs true more, ⟨cur, h1, h2, h3, h4, h5, h6, h7⟩ => exact ⟨cur, h1, h2, h3, h4, h5, h6, fun i hi => (h7 i hi).mono hs⟩
  | .row e cs false more, hr => exact ⟨hr.1, fun i hi => let ⟨v, h1, h2⟩ := hr.2.1 i hi; ⟨v, h1, h2.mono hs⟩, hr.2.2⟩
  | .qA es clock, ⟨eW, h1, h2, h3⟩ => exact ⟨eW, h1, h2, fun i e e' he lT => let ⟨a, b, c, d⟩ := h3 i e e' he lT; ⟨a, b, c, d.mono hs⟩⟩
  | .iter s pos, hr => exact hr
  | .fI st jump tmps n params assign body d, ⟨h0, fn, iV, h1, h2⟩ => exact ⟨(hs d h0).1, fn, iV, by rw [(hs d h0).2]; exact h1, h2.1.mono hs, h2.2⟩
  | .mM, hr => exact hr
theorem kQ.world {l : Loc} {o : aU} (hr : kQ P ρ S l w o) (hb : w'.heap[l.block]? = w.heap[l.block]?) : kQ P ρ S l w' o := by
  match o, hr with
  | .row e cs true more, ⟨cur, h1, h2⟩ => exact ⟨cur, hb.trans h1, h2⟩
  | .row e cs false more, hr => exact ⟨hr.1, fun i hi => let ⟨v, h1, h2⟩ := hr.2.1 i hi; ⟨v, (World.cell?_of_block (a := l.at i) hb).trans h1, h2⟩, hr.2.2⟩
  | .qA es clock, ⟨eW, h1, h2⟩ => exact ⟨eW, hb.trans h1, h2⟩
  | .iter s pos, hr => exact ⟨hb.trans hr.1, hr.2⟩
  | .fI st jump tmps n params assign body d, ⟨h0, fn, iV, h1, h2⟩ => exact ⟨h0, fn, iV, hb.trans h1, h2⟩
  | .mM, hr => exact hb.trans hr
theorem kQ.lt {l : Loc} {o : aU} (hr : kQ P ρ S l w o) (ho : gW o = true) : l.block < w.heap.size := by
  have key : ∀ x, w.heap[l.block]? = some x -> l.block < w.heap.size := fun x hx => (Array.getElem?_eq_some_iff.1 hx).1
  match o, hr, ho with
  | .row e cs true more, ⟨cur, h1, h2⟩, _ => exact key _ h1
  | .qA es clock, ⟨eW, h1, h2⟩, _ => exact key _ h1
  | .iter s pos, hr, _ => exact key _ hr.1
  | .fI st jump tmps n params assign body d, ⟨h0, fn, iV, h1, h2⟩, _ => exact key _ h1
  | .mM, hr, _ => exact key _ hr
theorem Frame.refl (ρ : Ren) (h : Heap) (w : World) : Frame ρ h w w := ⟨rfl, rfl, rfl, Nat.le_refl _, fun _ _ _ => rfl⟩
theorem HR.congr (hr : HR P ρ S B w0 h w) (hs : ∀ b, S b ↔ S' b) : HR P ρ S' B w0 h w := by
  have : S = S' := funext fun b => propext (hs b); subst this; exact hr
theorem Ext.sN (hh : h'.next = h.next) (b : Nat) : Ext S h h' b ↔ S b := by
  unfold Ext; constructor
  . rintro (h | h)
    . exact h
    omega
  exact .inl
theorem aO.same (hr : HR P ρ S B w0 h w) : aO P B w0 ρ ρ S h h w w where
  agree := fun _ _ => rfl
  next := Nat.le_refl _
  hr := hr.congr fun b => (Ext.sN rfl b).symm
  frame := Frame.refl _ _ _
  low := Nat.le_refl _
  aV := fun _ _ _ => rfl
  old := fun i o ho _ => ⟨o, ho, rfl⟩
  fresh := fun i o ho hi => by
    have := (hr.ids i (hr.aB i o ho).1).1; omega
theorem aO.trans (m : aO P B w0 ρ bG S h h1 w w1) {am3 : Ren} (k : aO P B w0 bG am3 (Ext S h h1) h1 h2 w1 w2) : aO P B w0 ρ am3 S h h2 w w2 where
  agree := fun b hb => (k.agree b (.inl hb)).trans (m.agree b hb)
  next := Nat.le_trans m.next k.next
  hr := k.hr.congr fun b => by
    have n1 := m.next; have n2 := k.next; unfold Ext; constructor
    . rintro ((h | h) | h)
      . exact .inl h
      . exact .inr (by omega)
      exact .inr (by omega)
    rintro (h | h)
    . exact .inl (.inl h)
    by_cases hb : b < h1.next
    . exact .inl (.inr (by omega))
    exact .inr (by omega)
  frame := by
    refine ⟨k.frame.os.trans m.frame.os, k.frame.tape.trans m.frame.tape, k.frame.output.trans m.frame.output, Nat.le_trans m.frame.size k.frame.size, fun b hb mO => ?_⟩; rw [k.frame.block b (Nat.lt_of_lt_of_le hb m.frame.size) ?_, m.frame.block b hb mO]; intro i o hi ho he; by_cases bX : i < h.next
    . obtain ⟨o', nA, qH⟩ := m.old i o hi bX
      have hS : S i := by
        have := (m.hr.aB i o hi).1; rcases this with h | h
        . exact h
        omega
      rw [m.agree i hS] at he; exact mO i o' nA (qH.trans ho) he
    obtain ⟨_, hf⟩ := m.fresh i o hi (by omega); rcases hf with hf | ⟨j, oj, hj, lU, y3, _⟩
    . omega
    exact mO j oj hj lU (y3.trans he)
  low := Nat.le_trans k.low m.low
  aV := fun i hi hl => by
    have := k.low; exact (k.aV i (Nat.lt_of_lt_of_le hi m.next) hl).trans (m.aV i hi (by omega))
  old := fun i o ho hi => by
    obtain ⟨o1, h1, h2⟩ := k.old i o ho (Nat.lt_of_lt_of_le hi m.next); obtain ⟨o2, h3, h4⟩ := m.old i o1 h1 hi; exact ⟨o2, h3, h4.trans h2⟩
  fresh := fun i o ho hi => by
    by_cases bX : i < h1.next
    . obtain ⟨o1, h3, h4⟩ := k.old i o ho bX; obtain ⟨h5, hf⟩ := m.fresh i o1 h3 hi; have hE : Ext S h h1 i := (m.hr.aB i o1 h3).1; refine ⟨h4 ▸ h5, ?_⟩; rw [k.agree i hE]; rcases hf with hf | ⟨j, oj, hj, lU, y3, hlj, hnj⟩
      . exact .inl hf
      exact .inr ⟨j, oj, hj, lU, y3, Nat.le_trans k.low hlj, hnj⟩
    obtain ⟨h5, hf⟩ := k.fresh i o ho (by omega); refine ⟨h5, ?_⟩; rcases hf with hf | ⟨j, oj, hj, lU, y3, hlj, hnj⟩
    . exact .inl (Nat.le_trans m.frame.size hf)
    by_cases hjn : j < h.next
    . obtain ⟨o2, h6, h7⟩ := m.old j oj hj hjn
      have hS : S j := by
        have := (m.hr.aB j oj hj).1; rcases this with h | h
        . exact h
        omega
      rw [m.agree j hS] at y3; exact .inr ⟨j, o2, h6, h7.trans lU, y3, hlj, hjn⟩
    obtain ⟨_, XJ⟩ := m.fresh j oj hj (by omega); rcases XJ with XJ | ⟨j', oj', XK, af3, af4, am4, aqA⟩
    . exact .inl (by omega)
    exact .inr ⟨j', oj', XK, af3, af4.trans y3, by have := k.low; omega, aqA⟩
end Go.Fs
namespace Go.Fs
open Go.RowKit (Below)
variable {P : Program} {ρ bG : Ren} {S S' : Nat -> Prop} {B : Nat} {w0 w w' w1 w2 : World} {h h' h1 h2 : Heap}
def Ren.put (ρ : Ren) (i : Nat) (l : Loc) : Ren := fun b => if b = i then l else ρ b
theorem Ren.eV {i : Nat} {l : Loc} : ρ.put i l i = l := if_pos rfl
theorem Ren.eQ {i b : Nat} {l : Loc} (hb : b ≠ i) : ρ.put i l b = ρ b := if_neg hb
theorem HR.af5 (hr : HR P ρ S B w0 h w) : ¬ S h.next := fun hs => by have := (hr.ids _ hs).1; omega
theorem HR.abX (hr : HR P ρ S B w0 h w) (l : Loc) : ∀ b, S b -> Ext S h (h.push .mM) b /\ ρ.put h.next l b = ρ b := fun b hb =>
  ⟨.inl hb, Ren.eQ fun e => by subst e; exact hr.af5 hb⟩
theorem Ext.kD (o : aU) : Ext S h (h.push o) h.next := .inr ⟨Nat.le_refl _, Nat.lt_succ_self _⟩
theorem HR.r7 (hr : HR P ρ S B w0 h w) (l : Loc) (o : aU) : ∀ b, S b -> Ext S h (h.push o) b /\ ρ.put h.next l b = ρ b := hr.abX l
theorem aO.push (hr : HR P ρ S B w0 h w) (o : aU) (x : Obj) (l : Loc) (hl : l.block = w.heap.size) (ho : gW o = true)
    (mB : kQ P (ρ.put h.next l) (Ext S h (h.push o)) l (w.alloc x) o) : aO P B w0 ρ (ρ.put h.next l) S h (h.push o) w (w.alloc x) where
  agree := fun b hb => (hr.r7 l o b hb).2
  next := Nat.le_succ _
  hr := {
    aB := fun i o' hi => by
      rw [Heap.bB] at hi; split at hi
      . rename_i e; injection hi with hi; subst hi e; exact ⟨Ext.kD o, by rw [Ren.eV]; exact mB⟩
      rename_i e; obtain ⟨h1, h2⟩ := hr.aB i o' hi; refine ⟨.inl h1, ?_⟩; rw [Ren.eQ e]; refine (h2.mono (hr.r7 l o)).world ?_; by_cases kR : gW o' = true
      . exact Below.heap_alloc w x _ (h2.lt kR)
      have := hr.ro i o' hi (by simpa using kR); have := hr.size; exact Below.heap_alloc w x _ (by omega)
    inj := fun i j oi oj hi hj uN lU he => by
      rw [Heap.bB] at hi hj; split at hi <;> split at hj
      . rename_i a b; rw [a, b]
      . rename_i a b; subst a; rw [Ren.eV, Ren.eQ b, hl] at he; have := (hr.aB j oj hj).2.lt lU; omega
      . rename_i a b; subst b; rw [Ren.eV, Ren.eQ a, hl] at he; have := (hr.aB i oi hi).2.lt uN; omega
      rename_i a b; rw [Ren.eQ a, Ren.eQ b] at he; exact hr.inj i j oi oj hi hj uN lU he
    base := fun i o' hi qH => by
      rw [Heap.bB] at hi; split at hi
      . rename_i e; subst e; rw [Ren.eV, hl]; exact hr.size
      rename_i e; rw [Ren.eQ e]; exact hr.base i o' hi qH
    ro := fun i o' hi qH => by
      rw [Heap.bB] at hi; split at hi
      . injection hi with hi; subst hi; rw [ho] at qH; cases qH
      rename_i e; rw [Ren.eQ e]; exact hr.ro i o' hi qH
    ids := fun b hb => by
      rcases hb with hb | hb
      . have := hr.ids b hb; exact ⟨Nat.lt_succ_of_lt this.1, this.2⟩
      have := hr.pos; exact ⟨hb.2, by omega⟩
    pos := Nat.succ_pos _
    below := hr.below.alloc hr.size x
    drawn := hr.drawn
    size := Nat.le_trans hr.size (by simp) }
  frame := ⟨rfl, rfl, rfl, by simp, fun k hk _ => Below.heap_alloc w x k hk⟩
  low := Nat.le_refl _
  aV := fun i hi _ => by rw [Heap.bB, if_neg (by omega)]
  old := fun i o' hi bX => ⟨o', by rw [Heap.bB, if_neg (by omega)] at hi; exact hi, rfl⟩
  fresh := fun i o' hi IX => by
    rw [Heap.bB] at hi; split at hi
    . rename_i e; injection hi with hi; subst hi e; exact ⟨ho, .inl (by rw [Ren.eV, hl]; exact Nat.le_refl _)⟩
    have := (hr.ids i (hr.aB i o' hi).1).1; omega
theorem aO.set (hr : HR P ρ S B w0 h w) {i : Nat} {o o' : aU} (hi : h.get i = some o) (ho : gW o = true) (qH : gW o' = true)
    (HQ : w'.os = w.os) (ht : w'.tape = w.tape) (y4 : w'.output = w.output) (cY : w'.heap.size = w.heap.size) (rX : ∀ k, k ≠ (ρ i).block -> w'.heap[k]? = w.heap[k]?)
    (mB : kQ P ρ S (ρ i) w' o') (hd : w.drawn <= w'.drawn := by first | exact Nat.le_refl _ | exact Nat.le_succ _) : aO P B w0 ρ ρ S h (h.set i o') w w' where
  agree := fun _ _ => rfl
  next := Nat.le_refl _
  hr := HR.congr (S := S) {
    aB := fun j oj hj => by
      rw [Heap.dE hi] at hj; split at hj
      . rename_i e; injection hj with hj; subst hj e; exact ⟨(hr.aB j o hi).1, mB⟩
      rename_i e; obtain ⟨h1, h2⟩ := hr.aB j oj hj; refine ⟨h1, h2.world (rX _ fun he => ?_)⟩; by_cases kR : gW oj = true
      . exact e (hr.inj j i oj o hj hi kR ho he)
      have := hr.ro j oj hj (by simpa using kR); have := hr.base i o hi ho; omega
    inj := fun a b oa ob ha hb hoa T0 he => by
      rw [Heap.dE hi] at ha hb; split at ha <;> split at hb
      . rename_i e1 e2; rw [e1, e2]
      . rename_i e1 e2; subst e1; exact hr.inj _ _ o ob hi hb ho T0 he
      . rename_i e1 e2; subst e2; exact hr.inj _ _ oa o ha hi hoa ho he
      exact hr.inj _ _ oa ob ha hb hoa T0 he
    base := fun j oj hj lU => by
      rw [Heap.dE hi] at hj; split at hj
      . rename_i e; subst e; exact hr.base _ o hi ho
      exact hr.base j oj hj lU
    ro := fun j oj hj lU => by
      rw [Heap.dE hi] at hj; split at hj
      . injection hj with hj; subst hj; rw [qH] at lU; cases lU
      exact hr.ro j oj hj lU
    ids := hr.ids
    pos := hr.pos
    drawn := Nat.le_trans hr.drawn hd
    below := ⟨HQ.trans hr.below.os, ht.trans hr.below.tape, y4.trans hr.below.output, by rw [cY]; exact hr.below.size, fun k hk => by
      rw [rX k (fun e => by have := hr.base i o hi ho; omega)]; exact hr.below.block k hk⟩
    size := by rw [cY]; exact hr.size } fun b => (Ext.sN rfl b).symm
  frame := ⟨HQ, ht, y4, by rw [cY]; exact Nat.le_refl _, fun k _ mO => rX k (Ne.symm (mO i o hi ho))⟩
  low := Nat.min_le_left _ _
  aV := fun j _ hl => by
    have tW : min h.low i <= i := Nat.min_le_right _ _; have bX : j < min h.low i := hl; rw [Heap.dE hi, if_neg (by omega)]
  old := fun j oj hj _ => by
    rw [Heap.dE hi] at hj; split at hj
    . rename_i e; injection hj with hj; subst hj e; exact ⟨o, hi, ho.trans qH.symm⟩
    exact ⟨oj, hj, rfl⟩
  fresh := fun j oj hj IX => by
    rw [Heap.dE hi] at hj; split at hj
    . rename_i e; subst e; have := (hr.ids j (hr.aB j o hi).1).1; omega
    have := (hr.ids j (hr.aB j oj hj).1).1; omega
theorem aO.gone (hr : HR P ρ S B w0 h w) {i : Nat} {o : aU} (hi : h.get i = some o) (ho : gW o = true)
    (HQ : w'.os = w.os) (ht : w'.tape = w.tape) (y4 : w'.output = w.output) (cY : w'.heap.size = w.heap.size) (rX : ∀ k, k ≠ (ρ i).block -> w'.heap[k]? = w.heap[k]?) (hd : w.drawn <= w'.drawn := by first | exact Nat.le_refl _ | exact Nat.le_succ _) : aO P B w0 ρ ρ S h (h.drop i) w w' where
  agree := fun _ _ => rfl
  next := Nat.le_refl _
  hr := HR.congr (S := S) {
    aB := fun j oj hj => by
      rw [Heap.cJ] at hj; split at hj
      . cases hj
      rename_i e; obtain ⟨h1, h2⟩ := hr.aB j oj hj; refine ⟨h1, h2.world (rX _ fun he => ?_)⟩; by_cases kR : gW oj = true
      . exact e (hr.inj j i oj o hj hi kR ho he)
      have := hr.ro j oj hj (by simpa using kR); have := hr.base i o hi ho; omega
    inj := fun a b oa ob ha hb hoa T0 he => by
      rw [Heap.cJ] at ha hb; split at ha
      . cases ha
      split at hb
      . cases hb
      exact hr.inj _ _ oa ob ha hb hoa T0 he
    base := fun j oj hj lU => by
      rw [Heap.cJ] at hj; split at hj
      . cases hj
      exact hr.base j oj hj lU
    ro := fun j oj hj lU => by
      rw [Heap.cJ] at hj; split at hj
      . cases hj
      exact hr.ro j oj hj lU
    ids := hr.ids
    pos := hr.pos
    drawn := Nat.le_trans hr.drawn hd
    below := ⟨HQ.trans hr.below.os, ht.trans hr.below.tape, y4.trans hr.below.output, by rw [cY]; exact hr.below.size, fun k hk => by
      rw [rX k (fun e => by have := hr.base i o hi ho; omega)]; exact hr.below.block k hk⟩
    size := by rw [cY]; exact hr.size } fun b => (Ext.sN rfl b).symm
  frame := ⟨HQ, ht, y4, by rw [cY]; exact Nat.le_refl _, fun k _ mO => rX k (Ne.symm (mO i o hi ho))⟩
  low := Nat.min_le_left _ _
  aV := fun j _ hl => by
    have tW : min h.low i <= i := Nat.min_le_right _ _; have bX : j < min h.low i := hl; rw [Heap.cJ, if_neg (by omega)]
  old := fun j oj hj _ => by
    rw [Heap.cJ] at hj; split at hj
    . cases hj
    exact ⟨oj, hj, rfl⟩
  fresh := fun j oj hj IX => by
    rw [Heap.cJ] at hj; split at hj
    . cases hj
    have := (hr.ids j (hr.aB j oj hj).1).1; omega
theorem aO.replace (hr : HR P ρ S B w0 h w) {b : Nat} {o o' : aU} (hi : h.get b = some o) (ho : gW o = true) (qH : gW o' = true) (l : Loc)
    (hl : l.block = (ρ b).block \/ w.heap.size <= l.block) (hB : B <= l.block)
    (HQ : w'.os = w.os) (ht : w'.tape = w.tape) (y4 : w'.output = w.output) (cY : w.heap.size <= w'.heap.size) (rX : ∀ k, k < w.heap.size -> k ≠ (ρ b).block -> w'.heap[k]? = w.heap[k]?)
    (mB : kQ P (ρ.put h.next l) (Ext S h ((h.drop b).push o')) l w' o') (hd : w.drawn <= w'.drawn := by first | exact Nat.le_refl _ | exact Nat.le_succ _) : aO P B w0 ρ (ρ.put h.next l) S h ((h.drop b).push o') w w' where
  agree := fun x hb => (hr.r7 l o x hb).2
  next := Nat.le_succ _
  hr := {
    aB := fun i oi mJ => by
      rw [Heap.bB] at mJ; split at mJ
      . rename_i e; have e' : i = h.next := e; injection mJ with mJ; subst mJ; subst e'; exact ⟨Ext.kD o', by rw [Ren.eV]; exact mB⟩
      rename_i e; have e' : i ≠ h.next := e; rw [Heap.cJ] at mJ; split at mJ
      . cases mJ
      rename_i cA; obtain ⟨h1, h2⟩ := hr.aB i oi mJ; refine ⟨.inl h1, ?_⟩; rw [Ren.eQ e']; refine (h2.mono (hr.r7 l o')).world ?_; by_cases kR : gW oi = true
      . exact rX _ (h2.lt kR) fun he => cA (hr.inj i b oi o mJ hi kR ho he)
      have := hr.ro i oi mJ (by simpa using kR); have := hr.size; have := hr.base b o hi ho; exact rX _ (by omega) (by omega)
    inj := fun i j oi oj mJ T3 uN lU he => by
      rw [Heap.bB] at mJ T3
      have key : ∀ k ok, (h.drop b).get k = some ok -> gW ok = true -> (ρ k).block = l.block -> False := fun k ok hk aZ hke => by
        rw [Heap.cJ] at hk; split at hk
        . cases hk
        rename_i cA; rcases hl with hl | hl
        . exact cA (hr.inj k b ok o hk hi aZ ho (hke.trans hl))
        have := (hr.aB k ok hk).2.lt aZ; omega
      split at mJ <;> split at T3
      . rename_i a c; rw [a, c]
      . rename_i a c; have a' : i = h.next := a; have c' : j ≠ h.next := c; rw [a', Ren.eV, Ren.eQ c'] at he; exact (key j oj T3 lU he.symm).elim
      . rename_i a c; have a' : i ≠ h.next := a; have c' : j = h.next := c; rw [c', Ren.eV, Ren.eQ a'] at he; exact (key i oi mJ uN he).elim
      rename_i a c; have a' : i ≠ h.next := a; have c' : j ≠ h.next := c; rw [Ren.eQ a', Ren.eQ c'] at he; rw [Heap.cJ] at mJ T3; split at mJ
      . cases mJ
      split at T3
      . cases T3
      exact hr.inj i j oi oj mJ T3 uN lU he
    base := fun i oi mJ uN => by
      rw [Heap.bB] at mJ; split at mJ
      . rename_i e; have e' : i = h.next := e; rw [e', Ren.eV]; exact hB
      rename_i e; have e' : i ≠ h.next := e; rw [Heap.cJ] at mJ; split at mJ
      . cases mJ
      rw [Ren.eQ e']; exact hr.base i oi mJ uN
    ro := fun i oi mJ uN => by
      rw [Heap.bB] at mJ; split at mJ
      . injection mJ with mJ; subst mJ; rw [qH] at uN; cases uN
      rename_i e; have e' : i ≠ h.next := e; rw [Heap.cJ] at mJ; split at mJ
      . cases mJ
      rw [Ren.eQ e']; exact hr.ro i oi mJ uN
    ids := fun x hx => by
      rcases hx with hx | hx
      . have := hr.ids x hx; exact ⟨Nat.lt_succ_of_lt this.1, this.2⟩
      have := hr.pos; exact ⟨hx.2, by omega⟩
    pos := Nat.succ_pos _
    drawn := Nat.le_trans hr.drawn hd
    below := ⟨HQ.trans hr.below.os, ht.trans hr.below.tape, y4.trans hr.below.output, Nat.le_trans hr.below.size cY, fun k hk => by
      have h1 := hr.base b o hi ho; have h2 := hr.size
      rw [rX k (by omega) (by omega)]; exact hr.below.block k hk⟩
    size := Nat.le_trans hr.size cY }
  frame := ⟨HQ, ht, y4, cY, fun k hk mO => rX k hk (Ne.symm (mO b o hi ho))⟩
  low := Nat.min_le_left _ _
  aV := fun j hj dN => by
    have tW : min h.low b <= b := Nat.min_le_right _ _; have bX : j < min h.low b := dN; rw [Heap.bB, if_neg (show j ≠ (h.drop b).next from Nat.ne_of_lt hj), Heap.cJ, if_neg (by omega)]
  old := fun j oj hj bX => by
    rw [Heap.bB, if_neg (show j ≠ (h.drop b).next from Nat.ne_of_lt bX), Heap.cJ] at hj; split at hj
    . cases hj
    exact ⟨oj, hj, rfl⟩
  fresh := fun j oj hj IX => by
    rw [Heap.bB] at hj; split at hj
    . rename_i e; have e' : j = h.next := e; injection hj with hj; subst hj; refine ⟨qH, ?_⟩; rw [e', Ren.eV]; rcases hl with hl | hl
      . exact .inr ⟨b, o, hi, ho, hl.symm, Nat.min_le_right _ _, (hr.ids b (hr.aB b o hi).1).1⟩
      exact .inl hl
    rw [Heap.cJ] at hj; split at hj
    . cases hj
    have := (hr.ids j (hr.aB j oj hj).1).1; omega
theorem HR.drew (hr : HR P ρ S B w0 h w) (n : Nat) (hn : w.drawn <= n := by first | exact Nat.le_refl _ | exact Nat.le_succ _) : HR P ρ S B w0 h { w with drawn := n } where
  aB := fun i o hi => ⟨(hr.aB i o hi).1, (hr.aB i o hi).2.world rfl⟩
  inj := hr.inj
  base := hr.base
  ro := hr.ro
  ids := hr.ids
  pos := hr.pos
  below := ⟨hr.below.os, hr.below.tape, hr.below.output, hr.below.size, hr.below.block⟩
  drawn := Nat.le_trans hr.drawn hn
  size := hr.size
theorem aO.B4 (hr : HR P ρ S B w0 h w) (hb : Below w.heap.size w w') (hd : w0.drawn <= w'.drawn) : aO P B w0 ρ ρ S h h w w' where
  agree := fun _ _ => rfl
  next := Nat.le_refl _
  hr := HR.congr (S := S) {
    aB := fun i o hi => by
      obtain ⟨h1, h2⟩ := hr.aB i o hi; refine ⟨h1, h2.world (hb.block _ ?_)⟩; by_cases kR : gW o = true
      . exact h2.lt kR
      have := hr.ro i o hi (by simpa using kR); have := hr.size; omega
    inj := hr.inj
    base := hr.base
    ro := hr.ro
    ids := hr.ids
    pos := hr.pos
    below := hr.below.trans (hb.mono hr.size)
    drawn := hd
    size := Nat.le_trans hr.size hb.size } fun b => (Ext.sN rfl b).symm
  frame := ⟨hb.os, hb.tape, hb.output, hb.size, fun k hk _ => hb.block k hk⟩
  low := Nat.le_refl _
  aV := fun _ _ _ => rfl
  old := fun i o ho _ => ⟨o, ho, rfl⟩
  fresh := fun i o ho hi => by
    have := (hr.ids i (hr.aB i o ho).1).1; omega
end Go.Fs
namespace Go.Fs
open Go.RowKit (Below)
variable {P : Program} {ρ bG : Ren} {S S' : Nat -> Prop} {B : Nat} {w0 w w' w1 w2 : World} {h h' h1 h2 : Heap}
theorem bZ {α : Type} {s : Sem α} {a : α} (h : aC P s = some a) (w : World) : s.run P w = .ok a w := by
  induction s generalizing w with
  | pure x => simp only [aC, Option.some.injEq] at h; subst h; rfl
  | program k ih => simp only [aC] at h; simp only [Sem.run]; exact ih _ h w
  | mark m k ih => simp only [aC] at h; simp only [Sem.run]; exact ih h w
  | _ => simp [aC] at h
theorem aD {α β : Type} (s : Sem α) (f : α -> Sem β) : aC P (s >>= f) = (aC P s).bind fun a => aC P (f a) := by
  show aC P (s.bind f) = _
  induction s with
  | pure x => simp [Sem.bind, aC]
  | program k ih => simp only [Sem.bind, aC]; exact ih _
  | mark m k ih => simp only [Sem.bind, aC]; exact ih
  | _ => simp [Sem.bind, aC]
theorem aK {α : Type} (a : α) : aC P (pure a : Sem α) = some a := rfl
def p6 (P : Program) (B : Nat) (w0 : World) (ρ : Ren) (S : Nat -> Prop) (h : Heap) (w : World) (v : Value) (h' : Heap) (r : Result Value) : Prop :=
  ∃ bG w' v', r = .ok v' w' /\ aO P B w0 ρ bG S h h' w w' /\ VR bG (Ext S h h') v v'
theorem p6.pure (hr : HR P ρ S B w0 h w) {v v' : Value} (hv : VR ρ S v v') : p6 P B w0 ρ S h w v h (.ok v' w) :=
  ⟨ρ, w, v', rfl, aO.same hr, hv.mono fun _ hb => ⟨.inl hb, rfl⟩⟩
theorem VR.pH {b o : Nat} {v' : Value} (hv : VR ρ S (.pointer (some ⟨b, o, none⟩)) v') : S b /\ v' = .pointer (some ((ρ b).at o)) := by
  cases hv with
  | lit h => simp [dQ] at h
  | ptr b o hs => exact ⟨hs, rfl⟩
theorem VR.fZ {b o n m : Nat} {v' : Value} (hv : VR ρ S (.slice (some ⟨b, o, none⟩) n m) v') :
    ∃ A c, v' = .slice (some A) n c /\ n <= c /\ (m = 1 -> c = n) /\ (b = 0 -> n = 0) /\ (b ≠ 0 -> S b /\ A = (ρ b).at o /\ (m = 0 -> o + c * (ρ b).B3 = (ρ b).total)) := by
  cases hv with
  | lit h => simp [dQ] at h
  | slice b o n m c A hn hm h0 hb => exact ⟨A, c, rfl, hn, hm, h0, hb⟩
theorem VR.iG {v' : Value} (hv : VR ρ S (.slice none 0 0) v') : v' = .slice none 0 0 := hv.fY rfl
theorem VR.rE {k : IntKind} {n : Int} {v' : Value} (hv : VR ρ S (.int k n) v') : v' = .int k n := hv.fY rfl
theorem VR.vB {b : Bool} {v' : Value} (hv : VR ρ S (.bool b) v') : v' = .bool b := hv.fY rfl
theorem VR.y5 {b : Nat} {v' : Value} (hv : VR ρ S (.map (some b)) v') : S b /\ v' = .map (some (ρ b).block) := by
  cases hv with
  | lit h => simp [dQ] at h
  | map b hs => exact ⟨hs, rfl⟩
theorem VR.IY {cs : Array Value} {v' : Value} (hv : VR ρ S (.agg cs) v') : ∃ cs', v' = .agg cs' /\ LR ρ S cs.toList cs'.toList := by
  cases hv with
  | lit h => simp [dQ] at h
  | agg cs cs' hl hc => exact ⟨cs', rfl, by simpa using hl, by simpa using hc⟩
theorem VR.IZ {cs : Array Value} {v' : Value} (hv : VR ρ S (.tuple cs) v') (hj : Value.tuple cs ≠ Fs.gP) : ∃ cs', v' = .tuple cs' /\ LR ρ S cs.toList cs'.toList := by
  cases hv with
  | lit h => simp [dQ] at h
  | gP => exact absurd rfl hj
  | tuple cs cs' hl hc => exact ⟨cs', rfl, by simpa using hl, by simpa using hc⟩
theorem kQ.cell {l : Loc} {e : TypeId} {cs : List Value} {own more : Bool} (ho : kQ P ρ S l w (.row e cs own more)) {i : Nat} (hi : i < cs.length) :
    ∃ v, w.cell? (l.at i) = some v /\ VR ρ S (cs.getD i undef) v := by
  cases own with
  | false => exact ho.2.1 i hi
  | true =>
    obtain ⟨cur, h1, h2, h3, h4, h5, h6, h7⟩ := ho
    have bX : i < cur.length := by omega
    refine ⟨cur.getD i undef, ?_, h7 i hi⟩; simp [World.cell?, Loc.at, h1, h2, List.getD, bX]
theorem kQ.B3 {l : Loc} {e : TypeId} {cs : List Value} {own more : Bool} (ho : kQ P ρ S l w (.row e cs own more)) : l.B3 = P.cellsOf e := by
  cases own with
  | false => exact ho.1
  | true => obtain ⟨cur, h1, h2, h3, h4, _⟩ := ho; exact h4
theorem XL (t : TypeId) (d : TypeDesc) (hd : P.underlying t = some d) (w : World) : (isAgg t).run P w = .ok (wC d) w := by
  unfold isAgg; simp only [Sem.run_bind, run_underlying hd, Result.andThen_ok]; cases d <;> rfl
theorem eH (t : TypeId) (i : TypeInfo) (hi : P.info? t = some i) (w : World) : (sizeOf t).run P w = .ok i.size w := by
  simp [sizeOf, typeInfo, hi]
theorem r8 (t : TypeId) (i : TypeInfo) (hi : P.info? t = some i) (w : World) : (typeInfo t).run P w = .ok i w := by
  simp [typeInfo, hi]
theorem gH (t : TypeId) (i : TypeInfo) (z : Value) (hi : P.info? t = some i) (hz : i.zero = some z) (w : World) : (zeroValue t).run P w = .ok z w := by
  simp [zeroValue, typeInfo, hi, hz]
theorem nR {l : Loc} {cs : List Value} {o n : Nat} (hc : ∀ i, i < cs.length -> ∃ v, w.cell? (l.at i) = some v /\ VR ρ S (cs.getD i undef) v) (hn : o + n <= cs.length) :
    ∃ vs : List Value, (loadCells (l.at o) n).run P w = .ok vs.toArray w /\ LR ρ S ((cs.drop o).take n) vs := by
  refine ⟨(List.range n).map fun j => (w.cell? (l.at (o + j))).getD undef, ?_, ?_⟩
  . refine run_loadCells w (l.at o) n _ fun j hj => ?_; obtain ⟨v, h1, _⟩ := hc (o + j) (by omega); rw [Loc.tV, h1]; rfl
  refine LR.of_get? (by simp; omega) fun i v v' hv nH => ?_; rw [List.getElem?_take] at hv; split at hv
  . rename_i hi; rw [List.getElem?_drop] at hv; obtain ⟨u, h1, h2⟩ := hc (o + i) (by omega); simp [hi, h1] at nH; subst nH
    have : cs.getD (o + i) undef = v := by simp [List.getD, hv]
    rwa [this] at h2
  cases hv
theorem J0 {t : TypeId} {a a' v : Value} (hr : HR P ρ S B w0 h w) (hf : eE P t a h = some v) (ha : VR ρ S a a') :
    ∃ v', (Instr.loadAt t a').run P w = .ok v' w /\ VR ρ S v v' := by
  unfold eE at hf; split at hf
  . rename_i b o; obtain ⟨hs, rfl⟩ := ha.pH; split at hf
    . rename_i e cs own more d i hg hd hi; have mB := (hr.aB b _ hg).2; have oH : ∀ i, i < cs.length -> ∃ v, w.cell? ((ρ b).at i) = some v /\ VR ρ S (cs.getD i undef) v := fun i hi => mB.cell hi; simp only [Instr.loadAt, Instr.sureAddr, loadVar, Sem.run_bind, Sem.run_pure, Result.andThen_ok, XL t d hd]
      cases am5 : wC d with
      | true =>
        rw [am5] at hf; simp only [if_true] at hf ⊢; split at hf
        . rename_i hle; simp only [Option.some.injEq] at hf; subst hf; obtain ⟨vs, h1, h2⟩ := nR (P := P) oH hle; simp only [Sem.run_bind, eH t i hi, Result.andThen_ok, h1, Sem.run_pure]; exact ⟨_, rfl, VR.SZ (by simpa using h2)⟩
        cases hf
      | false =>
        rw [am5] at hf; simp only [Bool.false_eq_true, if_false] at hf ⊢; obtain ⟨bX, rfl⟩ := List.getElem?_eq_some_iff.1 hf; obtain ⟨u, h1, h2⟩ := oH o bX; rw [run_load, h1]; exact ⟨u, rfl, by simpa [List.getD, bX] using h2⟩
    cases hf
  cases hf
theorem G2 (v : Value) : Value.oneCell' v = aN v := by cases v <;> rfl
theorem qI (cs : List Value) (o : Nat) (vs : List Value) (ho : o + vs.length <= cs.length) (i : Nat) :
    (cs.take o ++ vs ++ cs.drop (o + vs.length))[i]? = if i < o then cs[i]? else if i < o + vs.length then vs[i - o]? else cs[i]? := by
  rw [List.append_assoc, List.getElem?_append, List.length_take, show min o cs.length = o by omega]; by_cases h1 : i < o
  . rw [if_pos h1, if_pos h1, List.getElem?_take, if_pos h1]
  rw [if_neg h1, if_neg h1, List.getElem?_append]; by_cases h2 : i < o + vs.length
  . rw [if_pos (by omega), if_pos h2]
  rw [if_neg (by omega), if_neg h2, List.getElem?_drop]; congr 1; omega
theorem sV (cs : List Value) (o : Nat) (vs : List Value) (ho : o + vs.length <= cs.length) : (cs.take o ++ vs ++ cs.drop (o + vs.length)).length = cs.length := by
  simp; omega
theorem LR.XM {cs cur vs fQ : List Value} (h : ∀ i, i < cs.length -> VR ρ S (cs.getD i undef) (cur.getD i undef)) (hl : cs.length <= cur.length) (hv : LR ρ S vs fQ) {o : Nat} (ho : o + vs.length <= cs.length) :
    ∀ i, i < (Fs.bF cs o vs).length -> VR ρ S ((Fs.bF cs o vs).getD i undef) ((cur.take o ++ fQ ++ cur.drop (o + fQ.length)).getD i undef) := by
  intro i hi; have hll := hv.1; unfold Fs.bF at hi ⊢; rw [sV cs o vs ho] at hi; rw [List.getD_eq_getElem?_getD, List.getD_eq_getElem?_getD, qI cs o vs ho, qI cur o fQ (by omega), <- hll]; have h0 := h i hi; rw [List.getD_eq_getElem?_getD, List.getD_eq_getElem?_getD] at h0; by_cases h1 : i < o
  . rw [if_pos h1, if_pos h1]; exact h0
  rw [if_neg h1, if_neg h1]; by_cases h2 : i < o + vs.length
  . rw [if_pos h2, if_pos h2]; have := hv.2 (i - o) (by omega)
    rwa [List.getD_eq_getElem?_getD, List.getD_eq_getElem?_getD] at this
  rw [if_neg h2, if_neg h2]; exact h0
theorem wL {l : Loc} {c : Array Value} {e : TypeId} {j : Nat} (h : w.heap[l.block]? = some (.cells c e l.fz)) (hj : j < l.total) : w.frozen? ⟨l.block, j, none⟩ = false := by
  unfold World.frozen?; rw [h]; have := l.hfz; by_cases h1 : l.fz.1 <= j
  . have h2 : ¬ j < l.fz.2 := by omega
    simp [h2]
  simp [h1]
theorem oI (P : Program) (g o : Nat) (t : TypeId) (fz : Nat × Nat) : ∀ (vs : List Value) (i : Nat) (cur : Array Value) (w : World), w.heap[g]? = some (.cells cur t fz) -> (fz.1 = fz.2 \/ cur.size <= fz.1) -> o + i + vs.length <= cur.size -> (∀ v ∈ vs, v.oneCell' = true) ->
    (storeCells ⟨g, o, none⟩ vs i).run P w = .ok () (w.setRow g (cur.toList.take (o + i) ++ vs ++ cur.toList.drop (o + i + vs.length)).toArray)
  | [], i, cur, w, hg, _, _, _ => by
    simp only [storeCells, List.append_nil, List.length_nil, Nat.add_zero, List.take_append_drop, Array.toArray_toList]; rw [setRow_self w g cur t fz hg]
    rfl
  | v :: rest, i, cur, w, hg, hz, hl, h1 => by
    have hi : o + i < cur.size := by simp at hl; omega
    have af6 : (⟨g, o, none⟩ : Addr).add i = ⟨g, o + i, none⟩ := by unfold Addr.add; split <;> simp_all
    have oH : w.cell? ⟨g, o + i, none⟩ = some cur[o + i] := by simp [World.cell?, hg, hi]
    have aqB : w.frozen? ⟨g, o + i, none⟩ = false := wL (l := ⟨g, 0, cur.size, 0, fz, hz⟩) hg hi
    have cO : (store ((⟨g, o, none⟩ : Addr).add i) v).run P w = .ok () (w.setRow g (cur.setIfInBounds (o + i) v)) := by
      rw [af6, run_store P w _ v _ (h1 v (by simp)), oH]; simp [aqB, setCell_eq_setRow w g (o + i) cur t fz v hg]
    have ih := oI P g o t fz rest (i + 1) (cur.setIfInBounds (o + i) v) (w.setRow g (cur.setIfInBounds (o + i) v)) (setRow_heap w g cur _ t _ hg) (by simpa using hz) (by simp at hl ⊢; omega) (fun x hx => h1 x (by simp [hx])); simp only [storeCells, Sem.run_bind, cO, Result.andThen_ok, ih, setRow_setRow]; congr 3; have e := list_seg_step cur.toList (o + i) v rest (by simp at hl ⊢; omega); simpa [Array.toList_setIfInBounds, Nat.add_assoc] using e
theorem pI {b o : Nat} {e : TypeId} {cs vs fQ : List Value} {more : Bool} (hr : HR P ρ S B w0 h w) (hg : h.get b = some (.row e cs true more)) (hv : LR ρ S vs fQ)
    (mP : vs.all aN = true) (hle : o + vs.length <= cs.length) :
    ∃ w', (storeCells ((ρ b).at o) fQ).run P w = .ok () w' /\ aO P B w0 ρ ρ S h (h.set b (.row e (bF cs o vs) true more)) w w' := by
  obtain ⟨_, cur, h1, h2, h3, h4, h5, h6, h7⟩ := hr.aB b _ hg
  have sW : (ρ b).at o = ⟨(ρ b).block, o, none⟩ := by simp [Loc.at, h2]
  have eD := oI P (ρ b).block o e (ρ b).fz fQ 0 cur.toArray w h1 (by have := (ρ b).hfz; simpa [h3] using this) (by have := hv.1; simp; omega) (fun v nH => by rw [G2]; exact hv.aN mP v nH); rw [sW]; simp only [Nat.add_zero] at eD; refine ⟨_, eD, aO.set hr hg rfl rfl rfl rfl rfl (by simp [World.setRow]) (fun k hk => setRow_other w _ k _ hk) ?_⟩; refine ⟨cur.take o ++ fQ ++ cur.drop (o + fQ.length), ?_, h2, ?_, h4, ?_, ?_, ?_⟩
  . rw [setRow_heap w _ cur.toArray _ e _ h1]
  . have := hv.1
    simp; omega
  . have := hv.1; simp [bF]; omega
  . intro hm; have := h6 hm; have := hv.1; simp [bF]; omega
  exact LR.XM h7 h5 hv hle
theorem T4 {t : TypeId} {a a' x x' : Value} (hr : HR P ρ S B w0 h w) (hf : gF P t a x h = some h') (ha : VR ρ S a a') (hx : VR ρ S x x') :
    ∃ w', (Instr.storeAt t a' x').run P w = .ok () w' /\ aO P B w0 ρ ρ S h h' w w' := by
  unfold gF at hf; split at hf
  . rename_i b o; obtain ⟨hs, rfl⟩ := ha.pH; split at hf
    . rename_i e cs more i hg hi; simp only at hf; split at hf
      . rename_i hc; obtain ⟨cY, hle, mP⟩ := hc; simp only [Option.some.injEq] at hf; subst hf; have dB := hx.cells mP; obtain ⟨w', h1, h2⟩ := pI hr hg dB mP hle; refine ⟨w', ?_, h2⟩; have hl := dB.1; simp only [Instr.storeAt, Instr.sureAddr, storeVar, Sem.run_bind, Sem.run_pure, Result.andThen_ok, eH t i hi]; rw [if_neg (by simp at hl cY ⊢; omega)]; exact h1
      cases hf
    cases hf
  cases hf
theorem wM (hr : HR P ρ S B w0 h w) (e : TypeId) {cs cur : List Value} (more : Bool) (hle : cs.length <= cur.length) (hm : more = false -> cs.length = cur.length)
    (hv : ∀ i, i < cs.length -> VR ρ S (cs.getD i undef) (cur.getD i undef)) :
    aO P B w0 ρ (ρ.put h.next (.clean w.heap.size 0 cur.length (P.cellsOf e))) S h (h.push (.row e cs true more)) w (w.alloc (.cells cur.toArray e)) :=
  aO.push hr _ _ _ rfl rfl ⟨cur, heap_alloc_new w _, rfl, rfl, rfl, hle, hm, fun i hi => (hv i hi).mono (hr.r7 _ _)⟩
theorem XN {cs : List Value} {e : TypeId} {more : Bool} {l : Loc} (hl : l.off = 0) : VR (ρ.put h.next l) (Ext S h (h.push (.row e cs true more))) (.pointer (some ⟨h.next, 0, none⟩)) (.pointer (some ⟨l.block, 0, none⟩)) := by
  have := VR.ptr (ρ := ρ.put h.next l) (S := Ext S h (h.push (.row e cs true more))) h.next 0 (Ext.kD _); rw [Ren.eV] at this; simpa [Loc.at, hl] using this
theorem OD {e : TypeId} {x x' v : Value} (hr : HR P ρ S B w0 h w) (hf : qE e x h = some (v, h')) (hx : VR ρ S x x') :
    p6 P B w0 ρ S h w v h' ((do pure (.pointer (some (<- newVar e x'))) : Sem Value).run P w) := by
  unfold qE at hf; split at hf
  . rename_i mP; simp only [Option.some.injEq, Prod.mk.injEq] at hf; obtain ⟨rfl, rfl⟩ := hf; have hc := hx.cells mP; refine ⟨_, _, _, ?_, wM hr e (cs := x.cells.toList) (cur := x'.cells.toList) false (by have := hc.1; omega) (fun _ => hc.1) hc.2, XN rfl⟩; simp [newVar, newRow]
  cases hf
end Go.Fs
namespace Go.Fs
open Go.RowKit (Below)
variable {P : Program} {ρ bG : Ren} {S S' : Nat -> Prop} {B : Nat} {w0 w w' w1 w2 : World} {h h' h1 h2 : Heap}
theorem VR.J1 {a : Addr} {v' : Value} (hv : VR ρ S (.pointer (some a)) v') : ∃ b o, a = ⟨b, o, none⟩ /\ S b /\ v' = .pointer (some ((ρ b).at o)) := by
  cases hv with
  | lit h => simp [dQ] at h
  | ptr b o hs => exact ⟨b, o, rfl, hs, rfl⟩
theorem VR.J2 {a : Addr} {n m : Nat} {v' : Value} (hv : VR ρ S (.slice (some a) n m) v') : ∃ b o, a = ⟨b, o, none⟩ /\ VR ρ S (.slice (some ⟨b, o, none⟩) n m) v' := by
  cases hv with
  | lit h => simp [dQ] at h
  | slice b o n m c A hn hm h0 hb => exact ⟨b, o, rfl, .slice b o n m c A hn hm h0 hb⟩
theorem VR.oR {s : ByteArray} {v' : Value} (hv : VR ρ S (.string s) v') : v' = .string s := hv.fY rfl
theorem AO (off : Nat) : ∀ (vs fQ : List Value) (k : Nat) (cs cs' : Array Value), LR ρ S vs fQ -> LR ρ S cs.toList cs'.toList ->
    LR ρ S ((vs.zipIdx k).foldl (fun cs (p : Value × Nat) => cs.setIfInBounds (off + p.2) p.1) cs).toList ((fQ.zipIdx k).foldl (fun cs (p : Value × Nat) => cs.setIfInBounds (off + p.2) p.1) cs').toList
  | [], [], k, cs, cs', _, h => h
  | [], _ :: _, k, cs, cs', hv, _ => by have := hv.1; simp at this
  | _ :: _, [], k, cs, cs', hv, _ => by have := hv.1; simp at this
  | v :: vs, v' :: fQ, k, cs, cs', hv, h => by
    simp only [List.zipIdx_cons, List.foldl_cons]
    have h0 : VR ρ S v v' := by simpa using hv.2 0 (by simp)
    have ht : LR ρ S vs fQ := ⟨by simpa using hv.1, fun i hi => by simpa using hv.2 (i + 1) (by simpa using hi)⟩; refine AO off vs fQ (k + 1) _ _ ht ?_; simpa using h.set (off + k) h0
theorem CA (place : Nat -> Option (Nat × Nat)) (ev kM : Operand -> Value) : ∀ (ps : List (Nat × Operand)) (cells CB out : Array Value),
    (∀ p ∈ ps, VR ρ S (ev p.2) (kM p.2)) -> (∀ p ∈ ps, (ev p.2).cells.toList.all aN = true) -> LR ρ S cells.toList CB.toList ->
    Instr.fill place cells (ps.map fun p => (p.1, ev p.2)) = some out -> ∃ OE, Instr.fill place CB (ps.map fun p => (p.1, kM p.2)) = some OE /\ LR ρ S out.toList OE.toList
  | [], cells, CB, out, _, _, hc, hf => by
    simp only [List.map_nil, Instr.fill, Option.some.injEq] at hf ⊢
    subst hf; exact ⟨_, rfl, hc⟩
  | (i, x) :: rest, cells, CB, out, hv, ho, hc, hf => by
    simp only [List.map_cons, Instr.fill] at hf ⊢
    cases hp : place i with
    | none => rw [hp] at hf; cases hf
    | some q =>
      obtain ⟨off, size⟩ := q; rw [hp] at hf; simp only at hf ⊢; have hx := (hv (i, x) (by simp)).cells (ho (i, x) (by simp)); have hl := hx.1; have sE := hc.1; simp only [Array.length_toList] at hl sE; rw [<- hl, <- sE]; split at hf
      . cases hf
      rename_i anA; rw [if_neg anA]; refine CA place ev kM rest _ _ out (fun p hp => hv p (by simp [hp])) (fun p hp => ho p (by simp [hp])) ?_ hf
      have key : ∀ a c : Array Value, (a.toList.zipIdx 0).foldl (fun cs (p : Value × Nat) => cs.setIfInBounds (off + p.2) p.1) c = a.zipIdx.foldl (fun cs (p : Value × Nat) => cs.setIfInBounds (off + p.2) p.1) c := fun a c => by
        rw [<- Array.foldl_toList, Array.toList_zipIdx]
      have := AO (ρ := ρ) (S := S) off _ _ 0 cells CB hx hc; rw [key, key] at this; simpa using this
theorem LR.OF {l : List Value} (h : l.all dQ = true) : LR ρ S l l := LR.zL fun v hv => List.all_eq_true.1 h v hv
theorem abY {t : TypeId} {parts : Array (Nat × Operand)} {ev kM : Operand -> Value} {v : Value} (hv : ∀ p ∈ parts.toList, VR ρ S (ev p.2) (kM p.2))
    (ho : parts.toList.all (fun p => (ev p.2).cells.toList.all aN) = true) {z : Value} (hz : (P.info? t).bind (·.zero) = some z) (N5 : z.cells.toList.all dQ = true)
    (hf : aC P (Instr.build t (parts.map fun p => (p.1, ev p.2))) = some v) (w : World) :
    ∃ v', (Instr.build t (parts.map fun p => (p.1, kM p.2))).run P w = .ok v' w /\ VR ρ S v v' := by
  unfold Instr.build at hf ⊢
  cases hi : P.info? t with
  | none => rw [hi] at hz; cases hz
  | some i =>
    rw [hi] at hz; simp only [Option.bind_some] at hz; have hzr := gH (P := P) t i z hi hz; simp only [aD, Option.bind_eq_some_iff] at hf; obtain ⟨z2, hz2, d, hd, hf⟩ := hf; have e1 := bZ hz2 w; rw [hzr w] at e1; injection e1 with e1; subst e1; have e2 := bZ hd w; simp only [Sem.run_bind, hzr w, Result.andThen_ok, e2]; have qH : ∀ p ∈ parts.toList, (ev p.2).cells.toList.all aN = true := fun p hp => List.all_eq_true.1 ho p hp; split at hf
    . rename_i fields; simp only [aD, Option.bind_eq_some_iff] at hf; obtain ⟨places, hp, hf⟩ := hf; have e3 := bZ hp w; simp only [Sem.run_bind, e3, Result.andThen_ok]; split at hf
      . rename_i cells dB; rw [Array.toList_map] at dB; obtain ⟨OE, h1, h2⟩ := CA (ρ := ρ) (S := S) _ ev kM parts.toList z.cells z.cells cells hv qH (LR.OF N5) dB; rw [Array.toList_map, h1]; simp only [aC, aK, Option.some.injEq] at hf; subst hf; exact ⟨_, rfl, VR.SZ h2⟩
      simp [stuck, aC] at hf
    . rename_i n elem; simp only [aD, Option.bind_eq_some_iff] at hf; obtain ⟨size, hp, hf⟩ := hf; have e3 := bZ hp w; simp only [Sem.run_bind, e3, Result.andThen_ok]; split at hf
      . rename_i cells dB; rw [Array.toList_map] at dB; obtain ⟨OE, h1, h2⟩ := CA (ρ := ρ) (S := S) _ ev kM parts.toList z.cells z.cells cells hv qH (LR.OF N5) dB; rw [Array.toList_map, h1]; simp only [aC, aK, Option.some.injEq] at hf; subst hf; exact ⟨_, rfl, VR.SZ h2⟩
      simp [stuck, aC] at hf
    simp [stuck, aC] at hf
theorem T5 {t : TypeId} {cs cs' : Array Value} {off : Nat} {v : Value} (hc : LR ρ S cs.toList cs'.toList) (hf : aC P (part t cs off) = some v) (w : World) :
    ∃ v', (part t cs' off).run P w = .ok v' w /\ VR ρ S v v' := by
  unfold part at hf ⊢; simp only [aD, Option.bind_eq_some_iff] at hf; obtain ⟨ag, ha, hf⟩ := hf; have e1 := bZ ha w; simp only [Sem.run_bind, e1, Result.andThen_ok]
  cases ag with
  | true =>
    simp only [if_true, aD, Option.bind_eq_some_iff] at hf ⊢; obtain ⟨size, hs, hf⟩ := hf; have e2 := bZ hs w; simp only [aC, aK, Option.some.injEq] at hf; subst hf; simp only [Sem.run_bind, e2, Result.andThen_ok, Sem.run_pure]
    exact ⟨_, rfl, VR.SZ (by simpa [Array.toList_extract, List.extract] using (hc.drop off).take _)⟩
  | false =>
    simp only [Bool.false_eq_true, if_false] at hf ⊢
    cases hx : cs[off]? with
    | none => rw [hx] at hf; simp [stuck, aC] at hf
    | some u =>
      rw [hx] at hf; simp only [aC, aK, Option.some.injEq] at hf; subst hf; obtain ⟨u', h1, h2⟩ := hc.get? (i := off) (v := u) (by simpa using hx)
      have nQ : cs'[off]? = some u' := by simpa using h1
      rw [nQ]; exact ⟨u', rfl, h2⟩
theorem abZ {t : TypeId} {x x' v : Value} {f : Nat} (hx : VR ρ S x x') (hf : aC P (Instr.field t x f) = some v) (w : World) :
    ∃ v', (Instr.field t x' f).run P w = .ok v' w /\ VR ρ S v v' := by
  unfold Instr.field at hf ⊢; simp only [aD, Option.bind_eq_some_iff] at hf; obtain ⟨d, hd, hf⟩ := hf; have e1 := bZ hd w; simp only [Sem.run_bind, e1, Result.andThen_ok]; split at hf
  . split at hf
    . rename_i fd hfd; simp only [aD, Option.bind_eq_some_iff] at hf; obtain ⟨cs, gX, hf⟩ := hf
      cases x with
      | agg c =>
        simp only [asAgg, aK, Option.some.injEq] at gX; subst gX; obtain ⟨cs', rfl, hl⟩ := hx.IY; simp only [asAgg, Sem.run_bind, Sem.run_pure, Result.andThen_ok]
        exact T5 hl hf w
      | _ => simp [asAgg, stuck, aC] at gX
    simp [stuck, aC] at hf
  simp [stuck, aC] at hf
theorem T6 {x x' v : Value} {ix : Nat} (hx : VR ρ S x x') (hj : x ≠ gP) (hf : aC P (Instr.extract x ix) = some v) (w : World) :
    ∃ v', (Instr.extract x' ix).run P w = .ok v' w /\ VR ρ S v v' := by
  unfold Instr.extract at hf; split at hf
  . rename_i vs; obtain ⟨fQ, rfl, hl⟩ := hx.IZ hj; split at hf
    . rename_i u hu; simp only [aK, Option.some.injEq] at hf; subst hf; obtain ⟨u', h1, h2⟩ := hl.get? (i := ix) (v := u) (by simpa using hu)
      have nQ : fQ[ix]? = some u' := by simpa using h1
      simp only [Instr.extract, nQ]; exact ⟨u', rfl, h2⟩
    simp [stuck, aC] at hf
  simp [stuck, aC] at hf
theorem T7 {s : TypeId} {x x' v : Value} {f : Nat} (hx : VR ρ S x x') (hf : aC P (Instr.fieldAt s x f) = some v) (w : World) :
    ∃ v', (Instr.fieldAt s x' f).run P w = .ok v' w /\ VR ρ S v v' := by
  unfold Instr.fieldAt at hf ⊢; simp only [aD, Option.bind_eq_some_iff] at hf; obtain ⟨d, hd, hf⟩ := hf; have e1 := bZ hd w; simp only [Sem.run_bind, e1, Result.andThen_ok]; split at hf
  . split at hf
    . rename_i fd hfd; simp only [aD, Option.bind_eq_some_iff] at hf; obtain ⟨a, ha, p, hp, hf⟩ := hf; unfold Instr.sureAddr at ha; split at ha
      . rename_i a0; simp only [aK, Option.some.injEq] at ha; subst ha; obtain ⟨b, o, rfl, hs, rfl⟩ := hx.J1; unfold fieldPlace at hp; simp only [aD, Option.bind_eq_some_iff] at hp; obtain ⟨sz, cY, hp⟩ := hp; have e2 := bZ cY w; split at hp
        . unfold partAt byteOf at hp; simp [aD, aC, shape, noView, viewAt, program] at hp
        rename_i cA; simp only [aK, Option.some.injEq] at hp hf; subst hp hf; simp only [Instr.sureAddr, fieldPlace, Sem.run_bind, Sem.run_pure, Result.andThen_ok, e2]; rw [if_neg cA]; simp only [Sem.run_pure, Result.andThen_ok]; refine ⟨_, rfl, ?_⟩
        rw [Loc.tV, show (⟨b, o, none⟩ : Addr).add fd.offset = ⟨b, o + fd.offset, none⟩ by
          unfold Addr.add; split
          . rename_i e; simp [e]
          rfl]
        exact .ptr b _ hs
      simp [stuck, aC] at ha
    simp [stuck, aC] at hf
  simp [stuck, aC] at hf
theorem sO (b o k : Nat) : (⟨b, o, none⟩ : Addr).add k = ⟨b, o + k, none⟩ := by
  unfold Addr.add; split
  . rename_i e; simp [e]
  rfl
theorem pJ {α : Type} (k : IntKind) (x y : Int) (c : BoundsCode) : aC P (boundsPanic k x y c : Sem α) = none := by
  unfold boundsPanic; simp only [aD]; split <;> simp [aD, runtimePanic, choose, aC, program, goPanic, aK, Functor.map, Sem.bind]
theorem T8 {t : TypeId} {x x' ix v : Value} (hx : VR ρ S x x') (hf : aC P (Instr.indexAt t x ix) = some v) (w : World) :
    ∃ v', (Instr.indexAt t x' ix).run P w = .ok v' w /\ VR ρ S v v' := by
  unfold Instr.indexAt at hf ⊢; simp only [aD, Option.bind_eq_some_iff] at hf; obtain ⟨ki, gT, d, hd, hf⟩ := hf; have e1 := bZ gT w; have e2 := bZ hd w; obtain ⟨k, i⟩ := ki; simp only [Sem.run_bind, e1, Result.andThen_ok, e2]; split at hf
  . rename_i len elem; simp only [aD, Option.bind_eq_some_iff] at hf; obtain ⟨a, ha, be, Q8, d2, N6, hf⟩ := hf; have e3 := bZ N6 w; simp only [aK, Option.some.injEq] at Q8; subst Q8; unfold Instr.sureAddr at ha; split at ha
    . rename_i a0; simp only [aK, Option.some.injEq] at ha; subst ha; obtain ⟨b, o, rfl, hs, rfl⟩ := hx.J1; simp only [Instr.sureAddr, Sem.run_bind, Sem.run_pure, Result.andThen_ok, e3]; simp only at hf ⊢; split at hf
      . rename_i nS; simp only [aD, Option.bind_eq_some_iff] at hf; obtain ⟨sz, cY, hf⟩ := hf; have e4 := bZ cY w; simp only [aK, Option.some.injEq] at hf; subst hf; rw [if_pos nS]; simp only [Sem.run_bind, e4, Result.andThen_ok, Sem.run_pure]; refine ⟨_, rfl, ?_⟩; rw [Loc.tV, sO]; exact .ptr b _ hs
      exfalso
      revert hf
      repeat' split
      all_goals simp [unsupported, aC, pJ]
    simp [stuck, aC] at ha
  . rename_i elem base len cp; simp only [aD, Option.bind_eq_some_iff] at hf; obtain ⟨be, Q8, d2, N6, hf⟩ := hf; have e3 := bZ N6 w; simp only [aK, Option.some.injEq] at Q8; subst Q8; simp only at hf ⊢
    cases base with
    | none =>
      simp only [pJ] at hf
      cases hf
    | some a0 =>
      obtain ⟨b, o, rfl, y6⟩ := hx.J2; obtain ⟨A, c, rfl, hn, hm, h0, hb⟩ := y6.fZ; simp only [Sem.run_bind, Sem.run_pure, Result.andThen_ok, e3]; simp only at hf ⊢; split at hf
      . rename_i nS
        have iQ : b ≠ 0 := fun e => by have := h0 e; omega
        obtain ⟨hs, rfl, _⟩ := hb iQ; simp only [aD, Option.bind_eq_some_iff] at hf; obtain ⟨sz, cY, hf⟩ := hf; have e4 := bZ cY w; simp only [aK, Option.some.injEq] at hf; subst hf; rw [if_pos nS]; simp only [Sem.run_bind, e4, Result.andThen_ok, Sem.run_pure]; refine ⟨_, rfl, ?_⟩; rw [Loc.tV, sO]; exact .ptr b _ hs
      exfalso
      revert hf
      repeat' split
      all_goals simp [unsupported, aC, pJ]
  simp only [aD, stuck, aC] at hf; cases hf
theorem ac0 {t : TypeId} {x x' ix v : Value} (hx : VR ρ S x x') (hf : aC P (Instr.index t x ix) = some v) (w : World) :
    ∃ v', (Instr.index t x' ix).run P w = .ok v' w /\ VR ρ S v v' := by
  unfold Instr.index at hf ⊢; simp only [aD, Option.bind_eq_some_iff] at hf; obtain ⟨ki, gT, d, hd, hf⟩ := hf; have e1 := bZ gT w; have e2 := bZ hd w; obtain ⟨k, i⟩ := ki; simp only [Sem.run_bind, e1, Result.andThen_ok, e2]; split at hf
  . rename_i len elem cs; obtain ⟨cs', rfl, hl⟩ := hx.IY; simp only at hf ⊢; split at hf
    . rename_i nS; simp only [aD, Option.bind_eq_some_iff] at hf; obtain ⟨sz, cY, hf⟩ := hf; have e4 := bZ cY w; rw [if_pos nS]; simp only [Sem.run_bind, e4, Result.andThen_ok]; exact T5 hl hf w
    rw [pJ] at hf; cases hf
  . rename_i s; obtain rfl := hx.oR; simp only; split at hf
    . rename_i b hb; simp only [aK, Option.some.injEq] at hf; subst hf; simp only [hb]; exact ⟨_, rfl, .lit rfl⟩
    rw [pJ] at hf; cases hf
  simp [stuck, aC] at hf
end Go.Fs
namespace Go.Fs
open Go.RowKit (Below)
variable {P : Program} {ρ bG : Ren} {S S' : Nat -> Prop} {B : Nat} {w0 w w' w1 w2 : World} {h h' h1 h2 : Heap}
theorem aL {α : Type} {c : Bool} {x : Option α} {v : α} (h : (bif c then x else none) = some v) : c = true /\ x = some v := by
  cases c
  . cases h
  exact ⟨rfl, h⟩
theorem aT {a b : Bool} (h : (a && b) = true) : a = true /\ b = true := by cases a <;> cases b <;> simp_all
theorem eP {a b : Nat} (h : Nat.ble a b = true) : a <= b := Nat.le_of_ble_eq_true h
theorem gI {a b : Nat} (h : Nat.ble a b = false) : b < a := by
  rcases Nat.lt_or_ge b a with bX | IX
  . exact bX
  rw [Nat.ble_eq_true_of_le IX] at h; cases h
theorem iH {a b : Nat} (h : Nat.blt a b = true) : a < b := Nat.le_of_ble_eq_true h
theorem bD {a b : Nat} (h : Nat.beq a b = true) : a = b := Nat.eq_of_beq_eq_true h
theorem sH {n : Int} (h0 : 0 <= n) (h1 : n <= 1099511627776) : IntKind.i64.wrap n = n := by
  have e : n % (2 ^ 64 : Int) = n := Int.emod_eq_of_lt h0 (by omega); simp only [IntKind.wrap, IntKind.bits, IntKind.signed, e]; rw [if_neg]; simp; omega
theorem aO.tX {n : Nat} (m : aO P B w0 ρ bG S h h' { w with drawn := n } w') : aO P B w0 ρ bG S h h' w w' :=
  ⟨m.agree, m.next, m.hr, ⟨m.frame.os, m.frame.tape, m.frame.output, m.frame.size, m.frame.block⟩, m.low, m.aV, m.old, m.fresh⟩
theorem J3 (place : Nat -> Option (Nat × Nat)) : ∀ (ps : List (Nat × Value)) (cells out : Array Value), Instr.fill place cells ps = some out -> out.size = cells.size
  | [], cells, out, hf => by simp only [Instr.fill, Option.some.injEq] at hf; rw [hf]
  | (i, v) :: rest, cells, out, hf => by
    simp only [Instr.fill] at hf; split at hf
    . cases hf
    split at hf
    . cases hf
    rw [J3 place rest _ out hf]
    have key : ∀ (off : Nat) (l : List (Value × Nat)) (cs : Array Value), (l.foldl (fun cs (p : Value × Nat) => cs.setIfInBounds (off + p.2) p.1) cs).size = cs.size := by
      intro off l
      induction l with
      | nil => intro cs; rfl
      | cons p l ih => intro cs; rw [List.foldl_cons, ih]; simp
    rw [<- Array.foldl_toList]; exact key _ _ _
theorem af0_get! (cs : Array Value) (h : cs.toList.all dQ = true) (k : Nat) : dQ cs[k]! = true := by
  by_cases hk : k < cs.size
  . rw [getElem!_pos cs k hk]; exact List.all_eq_true.1 h _ (by simp)
  rw [getElem!_neg cs k hk]; rfl
theorem oJ (hp : 0 < h.next) (n c : Nat) (l : Loc) (hl : l.off = 0) (hn : n <= c) (ht : c * l.B3 = l.total) (h2 : Heap) (hx : Ext S h h2 h.next) :
    VR (ρ.put h.next l) (Ext S h h2) (.slice (some ⟨h.next, 0, none⟩) n 0) (.slice (some ⟨l.block, 0, none⟩) n c) := by
  refine .slice h.next 0 n 0 c _ hn (fun e => by cases e) (fun e => by omega) fun hb => ⟨hx, ?_, fun _ => ?_⟩
  . rw [Ren.eV]; simp [Loc.at, hl]
  rw [Ren.eV]; omega
theorem iI {e : TypeId} {i : TypeInfo} (hi : P.info? e = some i) : P.cellsOf e = i.size := by simp [Program.cellsOf, hi]
theorem CC (hr : HR P ρ S B w0 h w) {e : TypeId} {i : TypeInfo} (hi : P.info? e = some i) (n : Nat) {cs : List Value} {cur : Array Value} (hv : LR ρ S cs cur.toList) (hn : cur.size = n * i.size) :
    p6 P B w0 ρ S h w (.slice (some ⟨h.next, 0, none⟩) n 0) (h.push (.row e cs true false)) (.ok (.slice (some ⟨w.heap.size, 0, none⟩) n n) (w.alloc (.cells cur e))) := by
  have hm := wM hr e (cs := cs) (cur := cur.toList) false (by have := hv.1; omega) (fun _ => hv.1) hv.2; refine ⟨_, _, _, rfl, by simpa using hm, oJ hr.pos n n _ rfl (Nat.le_refl _) ?_ _ (Ext.kD _)⟩; simp [iI hi, hn]
theorem J4 {t : TypeId} {len : Nat} {parts : Array (Nat × Operand)} {ev kM : Operand -> Value} {v : Value} (hr : HR P ρ S B w0 h w) (hv : ∀ p ∈ parts.toList, VR ρ S (ev p.2) (kM p.2))
    (hf : iF P t len (parts.map fun p => (p.1, ev p.2)) h = some (v, h')) :
    p6 P B w0 ρ S h w v h' ((Instr.buildSlice t len (parts.map fun p => (p.1, kM p.2))).run P w) := by
  unfold iF at hf; split at hf
  . rename_i e hd; split at hf
    . rename_i i hi
      cases hlen : Nat.beq len 0 with
      | true =>
        rw [hlen] at hf; simp only [cond_true] at hf; obtain ⟨hpe, hf⟩ := aL hf; have pK := bD hlen; subst pK; simp only [Option.some.injEq, Prod.mk.injEq] at hf; obtain ⟨rfl, rfl⟩ := hf
        have hp : parts = #[] := by
          rw [Array.toList_map] at hpe
          cases parts with
          | mk l => cases l with
            | nil => rfl
            | cons a b => simp at hpe
        subst hp; have := CC hr hi 0 (cs := []) (cur := #[]) LR.nil (by simp); unfold Instr.buildSlice; simp only [Sem.run_bind, run_underlying hd, Result.andThen_ok, eH e i hi]; have r0 : Array.range 0 = #[] := rfl
        simpa [Instr.fill, newRow, r0] using this
      | false =>
        rw [hlen] at hf; simp only [cond_false] at hf; split at hf
        . rename_i z hz; obtain ⟨hc, hf⟩ := aL hf; obtain ⟨hc, mP⟩ := aT hc; obtain ⟨hc, N5⟩ := aT hc; obtain ⟨hle, cY⟩ := aT hc; have hle := eP hle; have cY := iH cY; split at hf
          . rename_i cells dB; simp only [Option.some.injEq, Prod.mk.injEq] at hf; obtain ⟨rfl, rfl⟩ := hf; have af7 : len ≠ 0 := fP hlen
            have cA : ¬ len * i.size = 0 := by
              intro e0; rcases Nat.mul_eq_zero.1 e0 with h | h <;> omega
            rw [Array.toList_map] at dB mP
            have anB : ∀ p ∈ parts.toList, (ev p.2).cells.toList.all aN = true := fun p hp => by
              have := List.all_eq_true.1 mP (p.1, ev p.2) (List.mem_map_of_mem hp); exact this
            have anC : LR ρ S ((Array.range (len * i.size)).map (z.cells[· % z.cells.size]!)).toList ((Array.range (len * i.size)).map (z.cells[· % z.cells.size]!)).toList :=
              LR.zL fun v hv => by
                rw [Array.toList_map] at hv; obtain ⟨k, _, rfl⟩ := List.mem_map.1 hv; exact af0_get! _ N5 _
            obtain ⟨OE, h1, h2⟩ := CA (ρ := ρ) (S := S) _ ev kM parts.toList _ _ cells hv anB anC dB; have lC := J3 _ _ _ _ h1; have := CC hr hi len (cs := cells.toList) (cur := OE) h2 (by rw [lC]; simp); unfold Instr.buildSlice; simp only [Sem.run_bind, run_underlying hd, Result.andThen_ok, eH e i hi, Array.toList_map]; rw [if_neg (by omega)]; rw [if_neg cA]; simp only [Sem.run_bind, gH e i z hi hz, Result.andThen_ok, Sem.run_pure, h1]; simpa [newRow] using this
          cases hf
        cases hf
    cases hf
  cases hf
theorem E9 (z : Value) (n : Nat) : (kU z n).toArray = (Array.range (n * z.cells.size)).map (z.cells[· % z.cells.size]!) := by
  unfold kU; apply Array.toList_inj.1; simp
theorem N7 {t : TypeId} {l c l' c' v : Value} (hr : HR P ρ S B w0 h w) (hl : VR ρ S l l') (hcv : VR ρ S c c') (hf : pB P t l c h = some (v, h')) :
    p6 P B w0 ρ S h w v h' ((Instr.makeSlice t l' c').run P w) := by
  unfold pB at hf; split at hf
  . rename_i e ln cn hd; obtain rfl := hl.rE; obtain rfl := hcv.rE; split at hf
    . rename_i i hi; split at hf
      . rename_i z hz; obtain ⟨hc, hf⟩ := aL hf; obtain ⟨hc, N5⟩ := aT hc; obtain ⟨hc, wO⟩ := aT hc; obtain ⟨hc, cY⟩ := aT hc; obtain ⟨hc, xP⟩ := aT hc; obtain ⟨hc, N8⟩ := aT hc; obtain ⟨h0, hlc⟩ := aT hc; have h0 := of_decide_eq_true h0; have hlc := of_decide_eq_true hlc; have N8 := of_decide_eq_true N8; have xP := eP xP; have cY := iH cY; have wO := bD wO; simp only [Option.some.injEq, Prod.mk.injEq] at hf; obtain ⟨rfl, rfl⟩ := hf; have w1 : IntKind.i64.wrap ln = ln := sH h0 (by omega); have w2 : IntKind.i64.wrap cn = cn := sH (by omega) N8; obtain ⟨lN, rfl⟩ := Int.eq_ofNat_of_zero_le h0; obtain ⟨cN, rfl⟩ := Int.eq_ofNat_of_zero_le (show 0 <= cn by omega); simp only [Int.toNat_natCast] at xP ⊢
        have atE : ((i.bytes : Int) * (cN : Int)) <= 1099511627776 := by
          have : ((i.bytes * cN : Nat) : Int) <= 1099511627776 := by omega
          simpa using this
        have n1 : ¬ ((cN : Int) < 0) := by omega
        have n2 : ¬ (281474976710656 < (i.bytes : Int) * (cN : Int)) := by omega
        have n3 : ¬ ((lN : Int) < 0) := by omega
        have n4 : ¬ cN < lN := by omega
        have r0 : Array.range 0 = #[] := rfl; unfold Instr.makeSlice; simp only [Sem.run_bind, run_underlying hd, Result.andThen_ok, asInt, asIntOf, Sem.run_pure, r8 e i hi, w1, w2]
        have hm := wM hr e (cs := kU z cN) (cur := kU z cN) false (Nat.le_refl _) (fun _ => rfl)
          (LR.zL (ρ := ρ) (S := S) fun v hv => by
            obtain ⟨k, _, rfl⟩ := List.mem_map.1 hv
            exact af0_get! _ N5 _).2
        have y7 : p6 P B w0 ρ S h w (.slice (some ⟨h.next, 0, none⟩) lN 0) (h.push (.row e (kU z cN) true false)) (.ok (.slice (some ⟨w.heap.size, 0, none⟩) lN cN) (w.alloc (.cells (kU z cN).toArray e))) :=
          ⟨_, _, _, rfl, hm, oJ hr.pos lN cN _ rfl (by omega) (by simp [iI hi, kU, wO]) _ (Ext.kD _)⟩
        rw [E9, wO] at y7; by_cases hn : cN * i.size = 0
        . have XO : cN = 0 := by
            rcases Nat.mul_eq_zero.1 hn with h | h <;> omega
          subst XO
          have l0 : lN = 0 := by omega
          subst l0; simpa [eH e i hi, newRow, r0] using y7
        simpa [n1, n2, n3, n4, eH e i hi, newRow, hn, wO, gH e i z hi hz] using y7
      cases hf
    cases hf
  cases hf
theorem iJ {lo uO : Option Value} {d l : Nat} (hb : dA lo d = some l) (hn : lo = none -> uO = none) (hs : ∀ v, lo = some v -> ∃ v', uO = some v' /\ VR ρ S v v') :
    (lo = none /\ uO = none /\ l = d) \/ ∃ k, lo = some (.int k l) /\ uO = some (.int k l) := by
  unfold dA at hb; split at hb
  . simp only [Option.some.injEq] at hb; exact .inl ⟨rfl, hn rfl, hb.symm⟩
  . rename_i k i; split at hb
    . rename_i hi; simp only [Option.some.injEq] at hb; obtain ⟨v', h1, h2⟩ := hs _ rfl; obtain rfl := h2.rE; obtain ⟨n, rfl⟩ := Int.eq_ofNat_of_zero_le hi; rw [Int.toNat_natCast] at hb; subst hb; exact .inr ⟨k, rfl, h1⟩
    cases hb
  cases hb
theorem eJ (k : IntKind) (l y : Nat) (code : BoundsCode) (hl : l <= y) (w : World) : (Instr.sliceBound (.int k l) y code).run P w = .ok l w := by
  have h0 : (0 : Int) <= (l : Int) /\ (l : Int) <= (y : Int) := by omega
  simp only [Instr.sliceBound, asIntOf, Sem.run_bind, Sem.run_pure, Result.andThen_ok]; rw [if_pos h0]; simp
theorem Q9 {n c l k : Nat} {kl kh km : IntKind} {uO : Option Value} (N9 : Bool) (hl : uO = none /\ l = 0 \/ uO = some (.int kl l)) (q7 : l <= k) (NA : k <= c) (w : World) :
    (Instr.sliceBounds N9 n c uO (some (.int kh k)) (some (.int km k))).run P w = .ok (l, k, k) w := by
  unfold Instr.sliceBounds; rcases hl with ⟨rfl, rfl⟩ | rfl
  . cases N9 <;> simp [eJ km k c _ NA, eJ kh k k _ (Nat.le_refl _)]
  cases N9 <;> simp [eJ km k c _ NA, eJ kh k k _ (Nat.le_refl _), eJ kl l k _ q7]
def OR (ρ : Ren) (S : Nat -> Prop) (a a' : Option Value) : Prop := (a = none -> a' = none) /\ ∀ v, a = some v -> ∃ v', a' = some v' /\ VR ρ S v v'
theorem OR.of_map {x : Option Operand} {ev kM : Operand -> Value} (h : ∀ o, x = some o -> VR ρ S (ev o) (kM o)) : OR ρ S (x.map ev) (x.map kM) := by
  cases x with
  | none => exact ⟨fun _ => rfl, fun v hv => (by cases hv)⟩
  | some o => exact ⟨fun hv => (by cases hv), fun v hv => by simp at hv; subst hv; exact ⟨_, rfl, h o rfl⟩⟩
theorem OR.dD {a a' : Option Value} (h : OR ρ S a a') (ha : a.all af = true) : a' = a := by
  cases a with
  | none => exact h.1 rfl
  | some v =>
    obtain ⟨v', h1, h2⟩ := h.2 v rfl; rw [h1, h2.dD (by simpa using ha)]
theorem G3 {lo hi uO nA : Option Value} {n c l k : Nat} (N9 : Bool) (oZ : OR ρ S lo uO) (EA : OR ρ S hi nA) (h1 : dA lo 0 = some l) (h2 : dA hi n = some k) (q7 : l <= k) (NA : k <= c) (w : World) :
    (Instr.sliceBounds N9 n c uO nA none).run P w = .ok (l, k, c) w := by
  have a1 := iJ h1 oZ.1 oZ.2; have a2 := iJ h2 EA.1 EA.2; unfold Instr.sliceBounds; rcases a2 with ⟨_, rfl, rfl⟩ | ⟨k2, _, rfl⟩
  . rcases a1 with ⟨_, rfl, rfl⟩ | ⟨k1, _, rfl⟩
    . simp
    simp [eJ k1 l k .sliceB q7]
  rcases a1 with ⟨_, rfl, rfl⟩ | ⟨k1, _, rfl⟩
  . cases N9 <;> simp [eJ k2 k c _ NA]
  cases N9 <;> simp [eJ k2 k c _ NA, eJ k1 l k .sliceB q7]
theorem OG {b o n c l k mk mk' size : Nat} {A : Addr} (hn : n <= c) (h0 : b = 0 -> n = 0) (hb : b ≠ 0 -> S b /\ A = (ρ b).at o /\ (mk = 0 -> o + c * (ρ b).B3 = (ρ b).total)) (q7 : l <= k) (NA : k <= c)
    (iQ : b = 0 -> k = 0) (h1 : mk' = 1 -> c = k) (h2 : mk' = 0 -> l ≠ 0 -> b ≠ 0 -> (ρ b).B3 = size /\ mk = 0) (h3 : mk' = 0 -> mk = 0) :
    VR ρ S (cutAt size b o l k mk') (.slice (if c = l then some A else (some A).map (·.add (l * size))) (k - l) (c - l)) := by
  unfold cutAt
  have anD : (if c = l then some A else (some A).map (·.add (l * size))) = some (if c = l then A else A.add (l * size)) := by split <;> rfl
  rw [anD]
  cases hc : (Nat.blt l k || Nat.beq l 0) with
  | false =>
    simp only [cond_false]
    have bX : ¬ l < k := fun h => by
      have : Nat.blt l k = true := Nat.ble_eq_true_of_le h; simp [this] at hc
    rw [show k - l = 0 by omega]
    exact .slice 0 0 0 2 _ _ (Nat.zero_le _) (fun e => by cases e) (fun _ => rfl) (fun e => absurd rfl e)
  | true =>
    simp only [cond_true]; refine .slice b _ (k - l) mk' (c - l) _ (by omega) (fun e => by have := h1 e; omega) (fun e => by have := iQ e; omega) fun cA => ?_; obtain ⟨hs, hA, nT⟩ := hb cA; refine ⟨hs, ?_, fun e => ?_⟩
    . subst hA; by_cases pK : l = 0
      . subst pK; simp [Addr.add]
      have bX : l < k := by
        rcases Bool.or_eq_true_iff.1 hc with h | h
        . exact iH h
        exact absurd (bD h) pK
      rw [if_neg (by omega), Loc.tV]
    by_cases pK : l = 0
    . subst pK; simpa using nT (h3 e)
    obtain ⟨h4, h5⟩ := h2 e pK cA; have h6 := nT h5; rw [h4] at h6 ⊢; rw [<- h6, Nat.add_assoc, <- Nat.add_mul]; congr 2; omega
theorem ac1 {t : TypeId} {x x' v : Value} {lo hi mx uO nA mx' : Option Value} (hr : HR P ρ S B w0 h w) (hx : VR ρ S x x') (oZ : OR ρ S lo uO) (EA : OR ρ S hi nA) (XP : OR ρ S mx mx')
    (hf : bV P t x lo hi mx h = some v) : ∃ v', (Instr.sliceAt t x' uO nA mx').run P w = .ok v' w /\ VR ρ S v v' := by
  unfold bV at hf; split at hf
  . obtain ⟨hc, hf⟩ := aL hf; obtain ⟨hc, hm⟩ := aT hc; obtain ⟨hc, hh⟩ := aT hc; obtain ⟨ha, hl⟩ := aT hc; rw [hx.dD ha, oZ.dD hl, EA.dD hh, XP.dD hm]; rw [Option.bind_eq_some_iff] at hf; obtain ⟨u, hu, hf⟩ := hf; obtain ⟨hau, hf⟩ := aL hf; simp only [Option.some.injEq] at hf; subst hf; exact ⟨u, bZ hu w, .lS hau⟩
  . rename_i elem hd
    have sW : (Instr.sliceAt t x' uO nA mx').run P w = (Instr.slice t x' uO nA mx').run P w := by
      unfold Instr.sliceAt; simp only [Sem.run_bind, run_underlying hd, Result.andThen_ok]
    rw [sW]; split at hf
    . obtain rfl := hx.iG; split at hf
      . rename_i hl hh hm; obtain ⟨hmh, hf⟩ := aL hf; rw [Option.map_eq_some_iff] at hf; obtain ⟨i, hi, rfl⟩ := hf; have b1 := iJ hl oZ.1 oZ.2; have b2 := iJ hh EA.1 EA.2; have b3 := iJ hm XP.1 XP.2; refine ⟨.slice none 0 0, ?_, .lit rfl⟩; have hsb : ∀ (k : IntKind) (code : BoundsCode), (Instr.sliceBound (.int k 0) 0 code).run P w = .ok 0 w := fun k code => eJ (P := P) k 0 0 code (Nat.le_refl _) w; unfold Instr.slice Instr.sliceBounds; simp only [Sem.run_bind, run_underlying hd, Result.andThen_ok, eH elem i hi]; rcases b3 with ⟨_, rfl, _⟩ | ⟨k3, _, rfl⟩ <;> rcases b2 with ⟨_, rfl, _⟩ | ⟨k2, _, rfl⟩ <;> rcases b1 with ⟨_, rfl, _⟩ | ⟨k1, _, rfl⟩ <;> simp_all [hsb]
      cases hf
    . rename_i b o n mk; obtain ⟨A, c, rfl, hn, QA, h0, hb⟩ := hx.fZ; split at hf
      . rename_i i l k hi hl hh; split at hf
        . obtain rfl := XP.1 rfl
          have key : ∀ mk', l <= k -> k <= c -> (b = 0 -> k = 0) -> (mk' = 1 -> c = k) -> (mk' = 0 -> l ≠ 0 -> b ≠ 0 -> (ρ b).B3 = i.size /\ mk = 0) -> (mk' = 0 -> mk = 0) -> v = cutAt i.size b o l k mk' ->
              ∃ v', (Instr.slice t (.slice (some A) n c) uO nA none).run P w = .ok v' w /\ VR ρ S v v' := fun mk' h1 h2 h3 h4 h5 h6 e => by
            subst e; unfold Instr.slice; simp only [Sem.run_bind, run_underlying hd, Result.andThen_ok, eH elem i hi, G3 (P := P) true oZ EA hl hh h1 h2 w, Sem.run_pure]; exact ⟨_, rfl, OG hn h0 hb h1 h2 h3 h4 h5 h6⟩
          cases vC : (Nat.ble l k && Nat.ble k n) with
          | true =>
            rw [vC] at hf; simp only [cond_true, Option.some.injEq] at hf; obtain ⟨a1, a2⟩ := aT vC; have a1 := eP a1; have a2 := eP a2; refine key _ a1 (by omega) (fun e => by have := h0 e; omega) ?_ ?_ ?_ hf.symm
            . intro e
              cases hm : Nat.beq mk 1 with
              | true =>
                rw [hm] at e; simp only [cond_true] at e
                cases hk : Nat.beq k n with
                | true => have := bD hk; have := QA (bD hm); omega
                | false => rw [hk] at e; cases e
              | false =>
                rw [hm] at e; simp only [cond_false, mA] at e; exfalso
                revert e
                cases Nat.beq l 0
                . cases EB : Nat.beq mk 0
                  . simp
                  simp only [cond_false, cond_true]; split
                  . rename_i e2 _ _ _ _; cases Nat.beq e2 elem <;> simp
                  simp
                simp only [cond_true]; intro e; subst e; cases hm
            . intro e pK cA
              cases hm : Nat.beq mk 1 with
              | true =>
                rw [hm] at e; simp only [cond_true] at e
                cases hk : Nat.beq k n <;> rw [hk] at e <;> cases e
              | false =>
                rw [hm] at e; simp only [cond_false, mA, dO pK] at e
                cases EB : Nat.beq mk 0 with
                | false => rw [EB] at e; cases e
                | true =>
                  rw [EB] at e; simp only [cond_true] at e; split at e
                  . rename_i e2 cs own more hg
                    cases he : Nat.beq e2 elem with
                    | false => rw [he] at e; cases e
                    | true =>
                      have hee := bD he; subst hee; exact ⟨((hr.aB b _ hg).2.B3).trans (iI hi), bD EB⟩
                  cases e
            intro e
            cases hm : Nat.beq mk 1 with
            | true =>
              rw [hm] at e; simp only [cond_true] at e
              cases hk : Nat.beq k n <;> rw [hk] at e <;> cases e
            | false =>
              rw [hm] at e; simp only [cond_false, mA] at e
              cases pK : Nat.beq l 0 with
              | true => rw [pK] at e; exact e
              | false =>
                rw [pK] at e; simp only [cond_false] at e
                cases EB : Nat.beq mk 0 with
                | false => rw [EB] at e; cases e
                | true => exact bD EB
          | false =>
            rw [vC] at hf; simp only [cond_false] at hf; obtain ⟨jZ, cT⟩ := aL hf; clear hf; obtain ⟨q7, mK⟩ := aT jZ; have q7 := iH q7; obtain rfl := bD mK; split at cT
            . rename_i e2 cs more hg; obtain ⟨y8, hf⟩ := aL cT; clear cT; obtain ⟨hc4, hle⟩ := aT y8; obtain ⟨he, cY⟩ := aT hc4; have hle := eP hle; have cY := iH cY; obtain rfl := bD he; simp only [Option.some.injEq] at hf; have mB := (hr.aB b _ hg).2; have G4 := (mB.B3).trans (iI hi); obtain ⟨cur, _, _, ht, _, hlc, _⟩ := mB; have iQ : b ≠ 0 := (hr.ids b (hr.aB b _ hg).1).2; obtain ⟨hS, hA, nT⟩ := hb iQ; have nT := nT rfl
              have NA : k <= c := by
                rw [G4] at nT
                have h1 : k * i.size <= c * i.size := by omega
                exact Nat.le_of_mul_le_mul_right h1 cY
              exact key 0 (by omega) NA (fun e => absurd e iQ) (fun e => by cases e) (fun _ _ _ => ⟨G4, rfl⟩) (fun _ => rfl) hf.symm
            cases cT
        split at hf
        . rename_i hv m hm; obtain ⟨hc, cT⟩ := aL hf; clear hf; obtain ⟨jZ, hkn⟩ := aT hc; obtain ⟨q7, hkm⟩ := aT jZ; have hkn := eP hkn; have q7 := eP q7; obtain rfl := bD hkm; simp only [Option.some.injEq] at cT; subst cT; rcases iJ hh EA.1 EA.2 with ⟨h1, _⟩ | ⟨kh, _, rfl⟩
          . cases h1
          rcases iJ hm XP.1 XP.2 with ⟨h1, _⟩ | ⟨km, _, rfl⟩
          . cases h1
          have af8 : ∃ kl, uO = none /\ l = 0 \/ uO = some (.int kl l) := by
            rcases iJ hl oZ.1 oZ.2 with ⟨_, h1, h2⟩ | ⟨kl, _, h1⟩
            . exact ⟨.i64, .inl ⟨h1, h2⟩⟩
            exact ⟨kl, .inr h1⟩
          obtain ⟨kl, af8⟩ := af8; unfold Instr.slice; simp only [Sem.run_bind, run_underlying hd, Result.andThen_ok, eH elem i hi, Q9 (P := P) true af8 q7 (show k <= c by omega) w, Sem.run_pure]; refine ⟨_, rfl, ?_⟩
          have := OG (ρ := ρ) (S := S) (b := b) (o := o) (n := k) (c := k) (l := l) (k := k) (mk := 1) (mk' := 1) (size := i.size) (A := A) (Nat.le_refl _) (fun e => by have := h0 e; omega)
            (fun e => ⟨(hb e).1, (hb e).2.1, fun e => by cases e⟩) q7 (Nat.le_refl _) (fun e => by have := h0 e; omega) (fun _ => rfl) (fun e => by cases e) (fun e => by cases e)
          simpa using this
        cases hf
      cases hf
    cases hf
  . rename_i n elem hd; split at hf
    . rename_i b o; obtain ⟨hs, rfl⟩ := hx.pH; split at hf
      . rename_i i l k hi hl hh; obtain rfl := XP.1 rfl; obtain ⟨hc, cT⟩ := aL hf; clear hf; obtain ⟨q7, hkn⟩ := aT hc; have q7 := iH q7; obtain rfl := bD hkn; simp only [Option.some.injEq] at cT; subst cT; unfold Instr.sliceAt; simp only [Sem.run_bind, run_underlying hd, Result.andThen_ok, Instr.sureAddr, Sem.run_pure, eH elem i hi, G3 (P := P) false oZ EA hl hh (Nat.le_of_lt q7) (Nat.le_refl _) w]; refine ⟨_, rfl, ?_⟩; rw [if_neg (by omega), Loc.tV]; have iQ : b ≠ 0 := (hr.ids b hs).2; exact .slice b _ _ 1 _ _ (Nat.le_refl _) (fun _ => rfl) (fun e => absurd e iQ) (fun _ => ⟨hs, rfl, fun e => by cases e⟩)
      cases hf
    cases hf
  cases hf
end Go.Fs
namespace Go.Fs
open Go.RowKit (Below)
variable {P : Program} {ρ bG : Ren} {S S' : Nat -> Prop} {B : Nat} {w0 w w' w1 w2 : World} {h h' h1 h2 : Heap}
theorem T9 {x x' : Value} {m : Nat} (hx : VR ρ S x x') (hl : lB x = some m) (w : World) : (Builtin.lenOf x').run P w = .ok m w := by
  unfold lB at hl; split at hl
  . simp only [Option.some.injEq] at hl; subst hl
    cases hx with
    | lit h =>
      rename_i a n c
      cases a with
      | none => rfl
      | some a => simp [dQ] at h
    | slice b o n m c A hn hm h0 hb => rfl
  . simp only [Option.some.injEq] at hl; subst hl; obtain rfl := hx.oR; rfl
  cases hl
theorem y9 {size n : Nat} {x x' : Value} {vs : List Value} (hr : HR P ρ S B w0 h w) (hx : VR ρ S x x') (hc : cellsOf size n x h = some vs) :
    ∃ fQ : List Value, (Builtin.firstCells size n x').run P w = .ok fQ.toArray w /\ LR ρ S vs fQ := by
  unfold cellsOf at hc; split at hc
  . obtain rfl := hx.iG; obtain ⟨hn, hc⟩ := aL hc; simp only [Option.some.injEq] at hc; subst hc; exact ⟨[], rfl, LR.nil⟩
  . rename_i b o k mk; obtain ⟨A, c, rfl, hn, hm, h0, hb⟩ := hx.fZ; obtain ⟨hnk, jZ⟩ := aL hc; clear hc; have hnk := eP hnk
    cases hz : Nat.beq (n * size) 0 with
    | true =>
      rw [hz] at jZ; simp only [cond_true, Option.some.injEq] at jZ; subst jZ; refine ⟨[], ?_, LR.nil⟩; unfold Builtin.firstCells; rw [bD hz]
      rfl
    | false =>
      rw [hz] at jZ; simp only [cond_false] at jZ; split at jZ
      . rename_i e cs own more hg; obtain ⟨hle, y8⟩ := aL jZ; clear jZ; have hle := eP hle; simp only [Option.some.injEq] at y8; subst y8; have mB := (hr.aB b _ hg).2; have iQ : b ≠ 0 := (hr.ids b (hr.aB b _ hg).1).2; obtain ⟨_, rfl, _⟩ := hb iQ; exact nR (fun i hi => mB.cell hi) hle
      cases jZ
  . rename_i s; obtain rfl := hx.oR; simp only [Option.some.injEq] at hc; subst hc; refine ⟨_, ?_, LR.zL fun v hv => ?_⟩
    . unfold Builtin.firstCells; rw [Array.toArray_toList]; rfl
    rw [Array.toList_map] at hv; obtain ⟨u, _, rfl⟩ := List.mem_map.1 hv; rfl
  cases hc
theorem af9 {argTypes : Array TypeId} {ty : TypeId} {d x d' x' v : Value} (hr : HR P ρ S B w0 h w) (hd : VR ρ S d d') (hx : VR ρ S x x') (hf : k8 P argTypes d x h = some (v, h')) :
    p6 P B w0 ρ S h w v h' ((Builtin.copy_ argTypes ty #[d', x']).run P w) := by
  unfold k8 at hf; split at hf
  . rename_i dt hdt; split at hf
    . rename_i e XQ; split at hf
      . rename_i i m k hi hm hk; split at hf
        . rename_i vs B2; obtain ⟨hc, cT⟩ := aL hf; clear hf; obtain ⟨J5, mP⟩ := aT hc; have J5 := bD J5; obtain ⟨fQ, hfc, QB⟩ := y9 hr hx B2; have hlen := T9 (P := P) hx hm w; unfold Builtin.copy_; simp only [hdt, List.getElem?_toArray, List.getElem?_cons_zero, List.getElem?_cons_succ]; split at cT
          . obtain rfl := hd.iG; simp only [lB, Option.some.injEq] at hk; subst hk; simp only [Option.some.injEq, Prod.mk.injEq] at cT; obtain ⟨rfl, rfl⟩ := cT; simp only [Sem.run_bind, run_underlying XQ, Result.andThen_ok, hlen, eH e i hi, hfc]; exact p6.pure hr (.lit rfl)
          . rename_i b o kk mk; obtain ⟨A, c, rfl, hn, QA, h0, hb⟩ := hd.fZ; simp only [lB, Option.some.injEq] at hk; subst hk
            cases hz : Nat.beq (Nat.min m kk * i.size) 0 with
            | true =>
              rw [hz] at cT; simp only [cond_true, Option.some.injEq, Prod.mk.injEq] at cT; obtain ⟨rfl, rfl⟩ := cT; have : fQ = [] := List.eq_nil_of_length_eq_zero (by rw [<- QB.1, J5, bD hz]); subst this; simp only [Sem.run_bind, run_underlying XQ, Result.andThen_ok, hlen, eH e i hi, hfc, storeCells, Sem.run_pure]
              exact p6.pure hr (.lit rfl)
            | false =>
              rw [hz] at cT; simp only [cond_false] at cT; split at cT
              . rename_i e' cs more hg; obtain ⟨hle, rQ⟩ := aL cT; clear cT; have hle := eP hle; simp only [Option.some.injEq, Prod.mk.injEq] at rQ; obtain ⟨rfl, rfl⟩ := rQ; have iQ : b ≠ 0 := (hr.ids b (hr.aB b _ hg).1).2; obtain ⟨_, rfl, _⟩ := hb iQ; obtain ⟨w2, h1, h2⟩ := pI (o := o) hr hg QB mP (by omega); simp only [Sem.run_bind, run_underlying XQ, Result.andThen_ok, hlen, eH e i hi, hfc, h1, Sem.run_pure]; exact ⟨ρ, w2, _, rfl, h2, .lit rfl⟩
              cases cT
          cases cT
        cases hf
      cases hf
    cases hf
  cases hf
theorem ac2 {argTypes : Array TypeId} {ty : TypeId} {x x' : Value} (hr : HR P ρ S B w0 h w) (hx : VR ρ S x x') (hf : C1 P argTypes x h = some h') :
    p6 P B w0 ρ S h w (.tuple #[]) h' ((Builtin.clear_ argTypes ty #[x']).run P w) := by
  unfold C1 at hf; split at hf
  . rename_i dt hdt; split at hf
    . rename_i e XQ; unfold Builtin.clear_; simp only [hdt, List.getElem?_toArray, List.getElem?_cons_zero]; split at hf
      . obtain rfl := hx.iG; obtain rfl := Option.some.inj hf; simp only [Sem.run_bind, run_underlying XQ, Result.andThen_ok, Sem.run_pure]; exact p6.pure hr VR.undef
      . rename_i b o n mk; obtain ⟨A, c, rfl, hn, QA, h0, hb⟩ := hx.fZ
        cases hz : Nat.beq n 0 with
        | true =>
          rw [hz] at hf; simp only [cond_true, Option.some.injEq] at hf; subst hf; obtain rfl := bD hz
          cases A <;> simp only [Sem.run_bind, run_underlying XQ, Result.andThen_ok, Sem.run_pure] <;> exact p6.pure hr VR.undef
        | false =>
          rw [hz] at hf; simp only [cond_false] at hf; split at hf
          . rename_i i e' cs more hi hg; split at hf
            . rename_i z hzv; obtain ⟨hc, rQ⟩ := aL hf; clear hf; obtain ⟨lV, hle⟩ := aT hc; have hle := eP hle; obtain rfl := Option.some.inj rQ; have iQ : b ≠ 0 := (hr.ids b (hr.aB b _ hg).1).2; obtain ⟨_, rfl, _⟩ := hb iQ
              have HS : n ≠ 0 := fun e => by subst e; cases hz
              obtain ⟨w2, h1, h2⟩ := pI (o := o) hr hg (LR.zL fun v hv => List.all_eq_true.1 lV v hv) (List.all_eq_true.2 fun v hv => (by have := List.all_eq_true.1 lV v hv; cases v <;> first | rfl | simp_all [dQ, aN])) (by omega)
              have h3 : (Builtin.zeroCells z.cells n).toList = kU z n := by
                exact congrArg Array.toList (E9 z n).symm
              cases n with
              | zero => exact absurd rfl HS
              | succ n =>
                simp only [Sem.run_bind, run_underlying XQ, Result.andThen_ok, gH e i z hi hzv, h3, h1, Sem.run_pure]; exact ⟨ρ, w2, _, rfl, h2, VR.undef⟩
            cases hf
          cases hf
      cases hf
    cases hf
  cases hf
theorem akB {argTypes : Array TypeId} {ty : TypeId} {x x' v : Value} (hr : HR P ρ S B w0 h w) (hx : VR ρ S x x') (hf : pC P argTypes x h = some v) :
    ∃ v', (Builtin.len_ argTypes ty #[x']).run P w = .ok v' w /\ VR ρ S v v' := by
  have key : ∀ d, (argTypes[0]?).bind P.underlying = some d -> ∃ t, argTypes[0]? = some t /\ P.underlying t = some d := fun d hd => by
    rwa [Option.bind_eq_some_iff] at hd
  unfold pC at hf; unfold Builtin.len_; split at hf
  . rename_i b; obtain ⟨hs, rfl⟩ := hx.y5; split at hf
    . rename_i es clock hu hg; obtain ⟨t, h1, h2⟩ := key _ hu; simp only [Option.some.injEq] at hf; subst hf; obtain ⟨_, eW, h3, h4, _⟩ := hr.aB b _ hg; simp only [h1, List.getElem?_toArray, List.getElem?_cons_zero, Sem.run_bind, run_underlying h2, Result.andThen_ok]; simp only [getObj, Sem.run, h3, Result.andThen_ok]; refine ⟨_, rfl, ?_⟩; rw [show (eW.toArray.size : Int) = (es.length : Int) by simp [h4]]; exact .lit rfl
    cases hf
  . rename_i a n c; split at hf
    . rename_i el hu; obtain ⟨t, h1, h2⟩ := key _ hu; simp only [Option.some.injEq] at hf; subst hf
      have : ∃ A C, x' = .slice A n C := by
        cases hx with
        | lit h => exact ⟨_, _, rfl⟩
        | slice b o n m c A hn hm h0 hb => exact ⟨_, _, rfl⟩
      obtain ⟨A, C, rfl⟩ := this; simp only [h1, List.getElem?_toArray, List.getElem?_cons_zero, Sem.run_bind, run_underlying h2, Result.andThen_ok, Sem.run_pure]; exact ⟨_, rfl, .lit rfl⟩
    cases hf
  . rename_i s; split at hf
    . rename_i hu; obtain ⟨t, h1, h2⟩ := key _ hu; simp only [Option.some.injEq] at hf; subst hf; obtain rfl := hx.oR; simp only [h1, List.getElem?_toArray, List.getElem?_cons_zero, Sem.run_bind, run_underlying h2, Result.andThen_ok, Sem.run_pure]; exact ⟨_, rfl, .lit rfl⟩
    cases hf
  . split at hf
    . rename_i k el hu; obtain ⟨t, h1, h2⟩ := key _ hu; simp only [Option.some.injEq] at hf; subst hf; obtain rfl := hx.fY rfl; simp only [h1, List.getElem?_toArray, List.getElem?_cons_zero, Sem.run_bind, run_underlying h2, Result.andThen_ok, Sem.run_pure]; exact ⟨_, rfl, .lit rfl⟩
    cases hf
  cases hf
theorem akC {argTypes : Array TypeId} {ty : TypeId} {x x' v : Value} (hr : HR P ρ S B w0 h w) (hx : VR ρ S x x') (hf : XE P argTypes x h = some v) :
    ∃ v', (Builtin.cap_ argTypes ty #[x']).run P w = .ok v' w /\ VR ρ S v v' := by
  have key : ∀ d, (argTypes[0]?).bind P.underlying = some d -> ∃ t, argTypes[0]? = some t /\ P.underlying t = some d := fun d hd => by
    rwa [Option.bind_eq_some_iff] at hd
  unfold XE at hf; unfold Builtin.cap_; split at hf
  . rename_i e b o n mk hu; obtain ⟨t, h1, h2⟩ := key _ hu; obtain ⟨A, c, rfl, hn, hm, h0, hb⟩ := hx.fZ; simp only [h1, List.getElem?_toArray, List.getElem?_cons_zero, Sem.run_bind, run_underlying h2, Result.andThen_ok, Sem.run_pure]
    cases mK : Nat.beq mk 1 with
    | true =>
      rw [mK] at hf; simp only [cond_true, Option.some.injEq] at hf; subst hf; rw [hm (bD mK)]
      exact ⟨_, rfl, .lit rfl⟩
    | false =>
      rw [mK] at hf; simp only [cond_false] at hf; split at hf
      . rename_i i e' cs hi hg; obtain ⟨hc, cT⟩ := aL hf; clear hf; obtain ⟨vC, hm0⟩ := aT hc; obtain ⟨jZ, hoc⟩ := aT vC; obtain ⟨he, cY⟩ := aT jZ; have cY := iH cY; obtain rfl := bD he; simp only [Option.some.injEq] at cT; subst cT; have mB := (hr.aB b _ hg).2; have G4 := mB.B3.trans (iI hi); obtain ⟨cur, _, _, ht, _, _, EB, _⟩ := mB; have iQ : b ≠ 0 := (hr.ids b (hr.aB b _ hg).1).2; obtain ⟨_, _, nT⟩ := hb iQ; have nT := nT (bD hm0); have hl := EB rfl; rw [G4] at nT
        have : (cs.length - o) / i.size = c := by
          rw [show cs.length - o = c * i.size by omega]; exact Nat.mul_div_cancel c cY
        rw [this]; exact ⟨_, rfl, .lit rfl⟩
      cases hf
  . rename_i e hu; obtain ⟨t, h1, h2⟩ := key _ hu; obtain rfl := hx.iG; simp only [Option.some.injEq] at hf; subst hf; simp only [h1, List.getElem?_toArray, List.getElem?_cons_zero, Sem.run_bind, run_underlying h2, Result.andThen_ok, Sem.run_pure]; exact ⟨_, rfl, .lit rfl⟩
  cases hf
theorem J6 (I4 : Nat) : ∀ (r c : Nat), c <= 2 * I4 + 192 -> Builtin.growBy I4 r c <= 2 * I4 + 192
  | 0, c, h => h
  | r + 1, c, h => by
    unfold Builtin.growBy; split
    . exact h
    exact J6 I4 r _ (by omega)
theorem nextslicecap_le (xH cap : Nat) (h : cap < xH) : Builtin.nextslicecap xH cap <= 2 * xH + 192 := by
  unfold Builtin.nextslicecap; split
  . omega
  split
  . omega
  exact J6 xH 4 cap (by omega)
theorem CD {e : TypeId} {i : TypeInfo} {z x x' : Value} {made : Bool} {m : Nat} {news : List Value} (hi : P.info? e = some i) (hz : i.zero = some z) (wO : z.cells.size = i.size) (cY : 0 < i.size)
    (hr : HR P ρ S B w0 h w) (hx : VR ρ S x x') (hf : iN i z made x h = some (m, news)) :
    ∃ afA : List Value, LR ρ S news afA /\
      ((if made = true then do
          let l := IntKind.i64.wrap (<- asInt x')
          if l < 0 then runtimePanic (.error "makeslice: len out of range")
          if l * (<- typeInfo e).bytes > 2 ^ 48 then
            let made <- choose (.extern "append.ofMake.carriedOut" 2)
            runtimePanic (.error (if made == 1 then "makeslice: len out of range" else "growslice: len out of range"))
          pure l.toNat
        else Builtin.lenOf x' : Sem Nat).run P w = .ok m w) /\
      ((if !made then Builtin.firstCells i.size m x' else if m * i.size = 0 then pure #[] else do pure (Builtin.zeroCells (<- zeroValue e).cells m) : Sem (Array Value)).run P w = .ok afA.toArray w) := by
  unfold iN at hf
  cases made with
  | true =>
    simp only [cond_true] at hf; split at hf
    . rename_i l; obtain ⟨hc, cT⟩ := aL hf; clear hf; obtain ⟨vC, N5⟩ := aT hc; obtain ⟨jZ, xP⟩ := aT vC; obtain ⟨h0, h1⟩ := aT jZ; have h0 := of_decide_eq_true h0; have h1 := of_decide_eq_true h1; have xP := eP xP; obtain rfl := hx.rE; obtain ⟨k, rfl⟩ := Int.eq_ofNat_of_zero_le h0; simp only [Int.toNat_natCast, Option.some.injEq, Prod.mk.injEq] at cT xP; obtain ⟨rfl, rfl⟩ := cT; refine ⟨kU z k, LR.zL fun v hv => ?_, ?_, ?_⟩
      . obtain ⟨q, _, rfl⟩ := List.mem_map.1 hv; exact af0_get! _ N5 _
      . have n1 : ¬ ((k : Int) < 0) := by omega
        have sX : ((k : Int) * (i.bytes : Int)) <= 1099511627776 := by
          have : ((k * i.bytes : Nat) : Int) <= 1099511627776 := by omega
          simpa using this
        have n2 : ¬ (281474976710656 < (k : Int) * (i.bytes : Int)) := by omega
        simp [asInt, asIntOf, sH h0 h1, n1, n2, r8 e i hi]
      by_cases hk : k * i.size = 0
      . have : k = 0 := by
          rcases Nat.mul_eq_zero.1 hk with h | h <;> omega
        subst this; simp [kU]
      simp [hk, gH e i z hi hz, E9, Builtin.zeroCells]
    cases hf
  | false =>
    simp only [cond_false] at hf; split at hf
    . rename_i k hk; rw [Option.map_eq_some_iff] at hf; obtain ⟨cs, h1, h2⟩ := hf; simp only [Prod.mk.injEq] at h2; obtain ⟨rfl, rfl⟩ := h2; obtain ⟨fQ, h3, h4⟩ := y9 hr hx h1; exact ⟨fQ, h4, by simpa using T9 (P := P) hx hk w, by simpa using h3⟩
    cases hf
end Go.Fs
